/- The document's maker of images: its blocks, one behind the other. -/
import Derived.Test.YtegglibipjjblaaGreatDoorGvBMk
import Derived.Test.YtegglibipjjblaaGreatDoorGvZMd
namespace Go.Gv.F
open Go.Gv
variable {β:Type}
structure cE where
 B:aj
 next:Nat
 At:ak
structure gV (s:St) (i ib ia:Nat) (m:cE):Prop where
 cell:s[i]? =some (some ⟨false,[.slice 1 (some (ib,0)) m.B.length,.int .i64 m.next,.slice 1 (some (ia,0)) m.At.length]⟩)
 bb:s[ib]? =some (some ⟨false,bK m.B⟩)
 aa:s[ia]? =some (some ⟨false,ints m.At⟩)
 d1:i≠ib
 d2:i≠ia
 d3:ib≠ia
variable {f g:Bool} {i i2 ia ib j j2 k m2 n:Nat} {Q:Out ah×St->Prop} {s s':St} {p p1 p2 p3:ai} {T V W:al} {m:cE}
theorem gV.fx (h:gV s i ib ia m) (k:Fx T s s') (hT: ∀x∈T,x≠i/\x≠ib/\x≠ia):gV s' i ib ia m:=
 ⟨k.2 _ _ (λe=>(hT _ e).1 rfl) h.cell,k.2 _ _ (λe=>(hT _ e).2.1 rfl) h.bb,k.2 _ _ (λe=>(hT _ e).2.2 rfl) h.aa,h.d1,h.d2,h.d3⟩
theorem gV.pre {s s':St} {i ib ia:Nat} {m:cE} (h:gV s i ib ia m) (k:aD s s'):gV s' i ib ia m:=h.fx (Fx.pre [] k) λ_ h=>by cases h
theorem gV.lt (h:gV s i ib ia m):i<s.length/\ib<s.length/\ia<s.length:=
 ⟨(dB.1 h.cell).1,(dB.1 h.bb).1,(dB.1 h.aa).1⟩
theorem gV.kp (h:gV s i ib ia m) (k:Fx [i,ib,ia] s s'):Kp s s':=by
 intro j all e;refine k.2 j _ (λhm=>?_) e;simp only[dC,sM,oe]at hm;rcases hm with rfl|rfl|rfl
 .rw[h.cell]at e;cases e
 .rw[h.bb]at e;cases e
 .rw[h.aa]at e;cases e
def mF (B:aj) (k:Nat) (s:aj):aj:=B.take k++(s.take (B.length-k)++B.drop (k+s.length))
theorem Lt {B:aj} (s:aj) (h:k<=B.length:=by omega):(mF B k s).length=B.length:=by
 unfold mF;rw[bz,bz,cz,cz,dT];omega
theorem Tq {B:aj} (s:aj) (h:k<=B.length:=by omega):cw (bK B) k (bK (s.take (B.length-k)))=bK (mF B k s):=by
 have e:bK B=bK (B.take k)++(bK ((B.drop k).take s.length)++bK (B.drop (k+s.length))):=by
  rw[<-Cg,<-Cg,<-jX,nu,nu]
 have hl:(bK (B.take k)).length=k:=by rw[Zq,cz];omega
 have:=rN (bK (B.take k)) (bK ((B.drop k).take s.length)) (bK (B.drop (k+s.length))) (bK (s.take (B.length-k))) (by
  rw[Zq,Zq,cz,cz,dT,Nat.min_comm])
 rw[hl,<-e]at this;rw[this];unfold mF;rw[Cg,Cg]
def kt (m:cE) (s:aj):cE:=⟨bif decide (64*m.next+64<=m.B.length)then mF m.B (64*m.next) s else m.B,m.next+1,m.At⟩
theorem uk (m:cE) (s:aj):(kt m s).B.length=m.B.length:=by
 unfold kt;by_cases h:64*m.next+64<=m.B.length
 .simp only[aw h,ae];exact Lt s
 .simp only[aB h,af]
variable {Bd:Zh} [h:HA Bd]
theorem Cz (n:Nat) (s:aj) (st:St) (hm:gV st i ib ia m) (hn:m.next<1000000:=by omega) (_hB:m.B.length<1000000:=by omega):
  Ok (λo=>∃ga,o=(.val [.int .i64 m.next],ga)/\gV ga i ib ia (kt m s)/\Fx [i,ib] st ga) (run Bd (n+1) 194 [.ptr (some (i,0)),.str s] st):=by
 rw[Ze,h.abX];unfold OV kW Zm Q_ Li;simp only[gj,bP,aq,aX];rw[Zo hm.cell rfl];simp only[aY];rw[Zo hm.cell rfl];simp only[aY];rw[ej,vu hm.cell (by show 1<3;omega)];have hw:ar ((m.next:Int)+1)=((m.next+1:Nat):Int):=Zc;have cG:ar (64*(m.next:Int))=((64*m.next:Nat):Int):=by rw[Zc];omega
 have fP:ar (((64*m.next:Nat):Int)+64)=((64*m.next+64:Nat):Int):=Zc;simp only[hw,cG,fP];obtain⟨h1,h2,h3⟩:=hm.lt;have db:([.slice 1 (some (ib,0)) m.B.length,.int .i64 m.next,.slice 1 (some (ia,0)) m.At.length]:ah).set 1 (.int .i64 ((m.next+1:Nat):Int))=[.slice 1 (some (ib,0)) m.B.length,.int .i64 ((m.next+1:Nat):Int),.slice 1 (some (ia,0)) m.At.length]:=rfl;rw[db];obtain⟨s1,fm⟩: ∃s1,st.set i (some (⟨false,[.slice 1 (some (ib,0)) m.B.length,.int .i64 ((m.next+1:Nat):Int),.slice 1 (some (ia,0)) m.At.length]⟩:bT))=s1:=⟨_,rfl⟩;have uO:gV s1 i ib ia ⟨m.B,m.next+1,m.At⟩:=by
  rw[<-fm];have d1:=hm.d1;have d2:=hm.d2;exact⟨lC h1,by rw[jZ d1];exact hm.bb,by rw[jZ d2];exact hm.aa,d1,d2,hm.d3⟩
 have CV:Fx [i,ib] st s1:=by rw[<-fm];exact(Fx.set st i _).mono λy hy=>by rw[cj.1 hy];simp
 rw[fm,Zo uO.cell rfl];simp only[lG];rw[Za];by_cases hb:64*m.next+64<=m.B.length
 .rw[aw (show((m.B.length:Nat):Int)>=((64*m.next+64:Nat):Int) by omega),ae,Zo uO.cell rfl]
  simp only[lG];rw[Zb (by rw[aR,bq,bq];omega)];simp only[bu,cP];show Ok _ (ee ib (64*m.next+0) _ _ s1);rw[fT,lq,Lh uO.bb (by rw[Zq,Zq,cz];show _<=m.B.length;omega)];have iC:=Tq (B:=m.B) (k:=64*m.next) s;show Ok _ ((aJ [] (ay [DV.int .i64 m.next])) (s1.set ib (some ⟨false,cw (bK m.B) (64*m.next) (bK (s.take (m.B.length-64*m.next)))⟩)));rw[iC];simp only[aq,Zd];have hl:=Lt (B:=m.B) (k:=64*m.next) s;refine .mk ⟨_,rfl,?_,CV.trans ((Fx.set s1 ib _).mono λy hy=>by rw[cj.1 hy];simp)⟩;unfold kt;rw[aw hb,ae];have d1:=hm.d1;have d3:=hm.d3;refine⟨?_,?_,?_,d1,hm.d2,d3⟩
  .rw[jZ (Ne.symm d1),hl];exact uO.cell
  .exact lC (by rw[<-fm,lD];exact h2)
  .rw[jZ d3];exact uO.aa
 .rw[aB (show ¬((m.B.length:Nat):Int)>=((64*m.next+64:Nat):Int) by omega),af]
  simp only[aq,Zd];refine .mk ⟨s1,rfl,?_,CV⟩;unfold kt;rw[aB hb,af];exact uO
def uB (es:List bh) (r:ak×cE):Nat×cE:=match es with
 |[]=>(0,r.2)
 |e::_=>(r.2.next, { kt r.2 (wq ⟨e,r.1⟩)with At:=r.2.At.set e.slot.toNat (r.2.next:Int) })
def fX:Nat->List bh->cE->ak×cE
 |0,_,m=>([],m)
 |j+1,es,m=>(λr:ak×cE=>(λf:Nat×cE=>(r.1++[(f.1:Int)],f.2)) (uB ((es.drop (2^j)).take (2^j)) (fX j ((es.drop (2^j)).take (2^j)) r.2))) (fX j es m)
def nV (j:Nat) (es:List bh) (m:cE):Nat×cE:=uB es (fX j es m)
theorem ZpM (es:List bh) (r:ak×cE):(uB es r).2.B.length=r.2.B.length/\(uB es r).2.At.length=r.2.At.length/\(uB es r).2.next<=r.2.next+1/\r.2.next<=(uB es r).2.next:=by
 unfold uB;cases es with
 |nil=>exact⟨rfl,rfl,Nat.le_succ _,aL _⟩
 |cons e r'=>exact⟨uk _ _,by simp,aL _,Nat.le_succ _⟩
theorem GQ: ∀(j:Nat) (es:List bh) (m:cE),(fX j es m).2.B.length=m.B.length/\(fX j es m).2.At.length=m.At.length/\(fX j es m).2.next+1<=m.next+2^j/\m.next<=(fX j es m).2.next/\(fX j es m).1.length=j
 |0,_,m=>⟨rfl,rfl,by simp[fX],aL _,rfl⟩
 |j+1,es,m=>by
  obtain⟨a1,a2,a3,a4,a5⟩:=GQ j es m;obtain⟨b1,b2,b3,b4,_⟩:=GQ j ((es.drop (2^j)).take (2^j)) (fX j es m).2;obtain⟨c1,c2,c3,c4⟩:=ZpM ((es.drop (2^j)).take (2^j)) (fX j ((es.drop (2^j)).take (2^j)) (fX j es m).2);have e:2^(j+1)=2*2^j:=by rw[vm];omega
  refine⟨c1.trans (b1.trans a1),c2.trans (b2.trans a2),?_,?_,?_⟩
  .show(uB _ _).2.next+1<=_
   omega
  .show m.next<=(uB _ _).2.next
   omega
  .show((fX j es m).1++[_]).length=j+1
   rw[bz,a5];rfl
theorem ZnO (j:Nat) (es:List bh) (m:cE):(nV j es m).2.B.length=m.B.length/\(nV j es m).2.At.length=m.At.length/\(nV j es m).2.next<=m.next+2^j/\m.next<=(nV j es m).2.next:=by
 obtain⟨a1,a2,a3,a4,_⟩:=GQ j es m;obtain⟨c1,c2,c3,c4⟩:=ZpM es (fX j es m);unfold nV;exact⟨c1.trans a1,c2.trans a2,by omega,by omega⟩
theorem Zmw (l:List bh): ∀(k:Nat),(bM l).drop (k*4)=bM (l.drop k):=by
 induction l with
 |nil=>intro k;simp[bM]
 |cons e l ih=>
  intro k;cases k with
  |zero=>rfl
  |succ k=>
   have e2:bM (e::l)=eR e++bM l:=rfl;rw[e2,show(k+1)*4=(eR e).length+k*4 by show _=4+_;omega,<-jX,BI,ih k];rfl
theorem ZmC (l:List bh) (k:Nat):(bM l).take (k*4)=bM (l.take k):=by
 induction l generalizing k with
 |nil=>simp[bM]
 |cons e l ih=>
  cases k with
  |zero=>rfl
  |succ k=>
   have e2:bM (e::l)=eR e++bM l:=rfl;rw[e2,show(k+1)*4=(eR e).length+k*4 by show _=4+_;omega,List.take_length_add_append,ih k];rfl
theorem Fz.abm {es:List bh} (h:Fz s p (bM es)) (k n:Nat) (hk:k+n<=es.length) (hn:0<n):Fz s (cU true p (k*4)) (bM ((es.drop k).take n)):=by
 obtain⟨i,o,rfl⟩:=h.1.cD (by rw[Zr];omega);refine⟨?_,λb o' e=>?_⟩
 .have h1:=h.1.cU (k:=k*4) (by rw[Zr];omega)
  rw[Zmw]at h1;have h2:=h1.lY (n*4);rw[ZmC]at h2;exact h2
 .have e':some (i,k*4+o)=some (b,o'):=e
  cases e';exact h.2 i o rfl
theorem ZqD {Bd:Zh} (h:HA Bd): ∀(j n:Nat) {i ib ia:Nat} {m:cE} (es:List bh) (p:ai) (st:St),gV st i ib ia m->Fz st p (bM es)->es.length=2^j->(∀e∈es,0<=e.slot/\e.slot<(m.At.length:Int))->j<20->m.next+2^j<=900000->m.B.length<1000000->m.At.length<100000->3000+j<=n->
  Ok (λo=>∃ga,o=(.val [.int .i64 (nV j es m).1],ga)/\gV ga i ib ia (nV j es m).2/\Fx [i,ib,ia] st ga) (run Bd n 217 [.ptr (some (i,0)),.slice 4 p es.length] st):=by
 intro j;induction j using Nat.strongRecOn with
 |_ j ih=>
 intro n i ib ia m es p st hm hs hl dG hj FC hB E9 hn;obtain⟨n,rfl⟩: ∃k,n=k+1:=⟨n-1,by omega⟩;rw[Ze,h.acn];unfold OT pE En ix cQ Zm N_ D8 mK wR vp Li Eb Ec;have vT:0<es.length:=by rw[hl];exact BO j
 obtain⟨bi,bo,rfl⟩:=hs.1.cD (by rw[Zr];omega);obtain⟨e0,er,MG⟩: ∃e0 er,es=e0::er:=by
  cases es with
  |nil=>cases vT
  |cons a b=>exact⟨a,b,rfl⟩
 have he0:es[0]? =some e0:=by rw[MG];rfl
 simp only[gj,bc,aq];rw[aX,Zb (show aQ 0 es.length=true from Zi (i:=0) vT)];have tD: ∀(s:St),Fz s (some (bi,bo)) (bM es)->∀K:ah->M ah,bS bi (0+bo) 4 K s=K (eR e0) s:=λs hs K=>by
  have:=Hi hs.1 he0 K;rwa [od]at this
 rw[tD st hs];unfold eR;simp only[av,aq];refine Ok.join λaA yX=>?_
 obtain⟨T,hT⟩: ∃T,nV j es m=T:=⟨_,rfl⟩;rw[hT];have hjn:2^j<=2^19:=l9 (by decide) (by omega);have h19:2^19=524288:=by decide
 obtain⟨l1,l2,l3⟩:=hm.lt;refine Zj _ (λq y t=>∃(a z:Nat) (k:ai),y=[.agg [.int .i64 e0.slot,.int .i64 e0.gen,.int .i64 e0.key,.int .i64 e0.value,.slice z k (fX a es m).1.length],.int .i64 ((2^a:Nat):Int)]/\(z=1\/k=none)/\a<=j/\j-a<=q/\gV t i ib ia (fX a es m).2/\Fx [i,ib,ia] st t/\ba [] t k (ints (fX a es m).1)/\∀b∈aM k,st.length<=b) ?_ j n _ _ ⟨0,0,none,rfl,.inr rfl,cn _,by omega,hm,.refl _ _,ba.nil ⟨st,rfl⟩,λ_ h=>by cases h⟩ (by omega);rintro q _ t ⟨a,z,k,rfl,hz,ha,hq,jy,cF,fk,yU⟩ rec aP;rw[cJ];simp only[av,Zg 1 z k _ hz,aq];have ca:=hs.kp (hm.kp cF);obtain⟨g1,g2,g3,g4,g5⟩:=GQ a es m;have h2a:2^a<=2^j:=l9 (by decide) ha;by_cases ax:a<j
 .have h2b:2^(a+1)<=2^j:=l9 (by decide) ax
  have e2:2^(a+1)=2*2^a:=by rw[vm];omega
  have aZ:0<2^a:=BO a;have hw:ar (2*((2^a:Nat):Int))=((2^(a+1):Nat):Int):=by rw[Zc];omega
  rw[aw (show((2^a:Nat):Int)<(es.length:Int) by omega),ae];simp only[hw,bu];rw[Zb (by rw[aR,bq,bq];omega),Zb (by rw[aR,bq,bq];omega)];have ze:=ca.abm (2^a) (2^a) (by omega) aZ;have YK:((es.drop (2^a)).take (2^a)).length=2^a:=by rw[cz,dT];omega
  have C4:2^(a+1)-2^a=((es.drop (2^a)).take (2^a)).length:=by rw[YK];omega
  rw[C4];refine Ok.xj (ih a ax n ((es.drop (2^a)).take (2^a)) _ t jy ze YK (λe he=>by rw[g2];exact dG e (List.mem_of_mem_drop (List.mem_of_mem_take he))) (by omega) (by omega) (by rw[g1];exact hB) (by rw[g2];exact E9) (by omega)) ?_;rintro _ ⟨t1,rfl,uO,lQ⟩;refine⟨_,t1,rfl,?_⟩;simp only[av,aq];have xI: ∀b∈aM k,b∉[i,ib,ia]:=λb hb kJ=>by
   have:=yU b hb;simp only[dC,sM,oe]at kJ;omega
  have M2:=fk.fx lQ xI;obtain⟨b,t2,r1,r2,r3,r4⟩:=yw (β:=ah) (lim:=8796093022208) M2 (sz:=1) (n:=(fX a es m).1.length) [.int .i64 ((nV a ((es.drop (2^a)).take (2^a)) (fX a es m).2).1:Int)] (by omega) (by simp[ints]) rfl;refine Eq.mpr (congrArg (Ok _) (r4 _)) ?_;have gK:=uO.fx r3 λy hy=>by
   have:=yU y hy;omega
  have fI:Fx [i,ib,ia] st t2:=(cF.trans lQ).step r3 λy hy=> .inr (yU y hy)
  refine aP (j-(a+1)) _ _ (by omega) ⟨a+1,1,some (b,0),?_,.inl rfl,by omega,aL _,gK,fI,?_,λy hy=>?_⟩
  .obtain⟨_,_,_,_,g6⟩:=GQ (a+1) es m
   rw[g5,g6]
  .show ba [] t2 (some (b,0)) (ints ((fX a es m).1++[_]))
   unfold ints;rw[fg];exact r2
  .rw[cj.1 hy]
   have:=(cF.trans lQ).1;omega
 .have haj:a=j:=by omega
  subst haj;rw[aB (show ¬((2^a:Nat):Int)<(es.length:Int) by omega),af,yX];show Ok _ (bn [.agg [.int .i64 e0.slot,.int .i64 e0.gen,.int .i64 e0.key,.int .i64 e0.value,.slice 1 k (fX a es m).1.length]] _ t);rw[cJ];simp only[av,bc,aq];refine Ok.call (ZlK n ⟨e0,(fX a es m).1⟩ 1 k t (.inl rfl) fk.sl (by show(fX a es m).1.length<_;rw[g5];omega)) ?_;rintro _ ⟨t1,rfl,aG⟩;refine⟨_,t1,rfl,?_⟩;simp only[bP,aq];obtain⟨n,rfl⟩: ∃k,n=k+1:=⟨n-1,by omega⟩;refine Ok.call (Cz n (wq ⟨e0,(fX a es m).1⟩) t1 (jy.pre aG) (by omega) (by rw[g1];exact hB)) ?_;rintro _ ⟨t2,rfl,gK,fI⟩;refine⟨_,t2,rfl,?_⟩;simp only[av,aq,aX];have fh:Fx [i,ib,ia] st t2:=(cF.trans (Fx.pre _ aG)).trans (fI.mono λy hy=>by simp only[dC,sM,oe]at hy⊢;omega);have Df:=hs.kp (hm.kp fh);rw[Zo gK.cell rfl];simp only[lG];rw[Zb (show aQ 0 es.length=true from Zi (i:=0) vT)];have Vc:(bM es)[0]? =some (.int .i64 e0.slot):=by rw[MG];rfl
  rw[Df.1.get Vc];simp only[aY];have IM:=dG e0 (by rw[MG];simp);obtain⟨ks,Ik⟩: ∃ks:Nat,e0.slot=ks:=⟨e0.slot.toNat,by omega⟩;have xz:(kt (fX a es m).2 (wq ⟨e0,(fX a es m).1⟩)).At=(fX a es m).2.At:=rfl;rw[aX,Ik,Zb (show aQ ((ks:Nat):Int) _=true from Zi (by rw[xz,g2];omega)),bu,cP,fT,vu gK.aa (by simp only[ints,nY];rw[xz,g2];omega),Zd];have hTe:T=(((fX a es m).2.next, { kt (fX a es m).2 (wq ⟨e0,(fX a es m).1⟩)with At:=(fX a es m).2.At.set ks ((fX a es m).2.next:Int) }):Nat×cE):=by
   rw[<-hT];unfold nV uB;rw[MG];simp only;rw[Ik,bu]
  rw[hTe];have db:(ints (kt (fX a es m).2 (wq ⟨e0,(fX a es m).1⟩)).At).set ks (.int .i64 ((fX a es m).2.next:Int))=ints ((fX a es m).2.At.set ks ((fX a es m).2.next:Int)):=by
   rw[xz];unfold ints;rw[DJ]
  rw[db];obtain⟨m1,m2,m3⟩:=gK.lt;have d2:=gK.d2;have d3:=gK.d3;refine .mk ⟨_,rfl,⟨?_,?_,?_,gK.d1,d2,d3⟩,fh.trans ((Fx.set t2 ia _).mono λy hy=>by rw[cj.1 hy];simp)⟩
  .rw[jZ (Ne.symm d2),lD]
   exact gK.cell
  .rw[jZ (Ne.symm d3)]
   exact gK.bb
  .exact lC m3
def vo (s:St):ah->List dr->Prop
 |ds,[]=>ds=[]
 |ds,x::r=>∃z p t,(z=4\/p=none)/\ds=jw x z p++t/\Fz s p (bM x.bW)/\vo s t r
theorem vo.kp {s s':St} (k:Kp s s'): ∀ {ds:ah} {xs:List dr},vo s ds xs->vo s' ds xs
 |_,[],h=>h
 |_,_::_,⟨z,p,t,hz,h1,h2,h3⟩=>⟨z,p,t,hz,h1,h2.kp k,h3.kp k⟩
theorem vo.aU {s:St} : ∀ {ds:ah} {xs:List dr},vo s ds xs->je s ds xs
 |_,[],h=>h
 |_,_::_,⟨z,p,t,hz,h1,h2,h3⟩=>⟨z,p,t,hz,h1,h2.1,h3.aU⟩
theorem vo.get {s:St} : ∀ {ds:ah} {xs:List dr},vo s ds xs->∀ {j:Nat} {x:dr},xs[j]? =some x->∃z p,(z=4\/p=none)/\ds[j*2]? =some (.str x.name)/\ds[j*2+1]? =some (.slice z p x.bW.length)/\Fz s p (bM x.bW)
 |_,[],_,j,x,e=>by simp at e
 |ds,y::r,⟨zq,q,t,I3,h1,h2,h3⟩,0,x,e=>by
  simp only[lB,fU]at e;subst e;subst h1;exact⟨zq,q,I3,rfl,rfl,h2⟩
 |ds,y::r,⟨zq,q,t,I3,h1,h2,h3⟩,j+1,x,e=>by
  obtain⟨z,p,hz,g2,g3,g4⟩:=h3.get (j:=j) (x:=x) (by simpa using e);refine⟨z,p,hz,?_,?_,g4⟩
  .rw[h1,jY (by rw[wO];omega),wO,show(j+1)*2-2=j*2 by omega]
   exact g2
  .rw[h1,jY (by rw[wO];omega),wO,show(j+1)*2+1-2=j*2+1 by omega]
   exact g3
structure zR (s:St) (x:eO) (p1 p2 p3:Option (Nat×Nat)):Prop where
 hp: ∃ds,Fz s p1 ds/\vo s ds x.aU
 gn:Fz s p2 (ints x.aH)
 fr:Fz s p3 (ints x.free)
theorem zR.kp {s s':St} {x:eO} {p1 p2 p3:ai} (h:zR s x p1 p2 p3) (k:Kp s s'):zR s' x p1 p2 p3:=
 let ⟨ds,h1,h2⟩:=h.hp
 ⟨⟨ds,h1.kp k,h2.kp k⟩,h.gn.kp k,h.fr.kp k⟩
theorem zR.str {x:eO} (h:zR s x p1 p2 p3):ny s x p1 p2 p3:=
 let ⟨ds,h1,h2⟩:=h.hp
 ⟨⟨ds,h1.1,h2.aU⟩,h.gn.1,h.fr.1⟩
def oT (cM:Nat):Nat->Nat->ak->List bh->cE->ak×cE
 |0,_,hs,_,m=>(hs,m)
 |c+1,k,hs,rest,m=>bif fF cM k then(λt:Nat×cE=>oT cM c (k+1) (hs.set k (t.1:Int)) (rest.drop (2^k)) t.2) (nV k (rest.take (2^k)) m)else oT cM c (k+1) hs rest m
def roots (es:List bh) (m:cE):ak×cE:=oT es.length 12 0 (List.replicate 12 0) es m
def oD:List dr->ak->cE->ak×cE
 |[],iV,m=>(iV,m)
 |x::r,iV,m=>(λt:ak×cE=>oD r (iV++[(t.2.next:Int)]) (kt t.2 (x0 ⟨x.name,x.bW.length,t.1⟩))) (roots x.bW m)
def qC (l:List dr) (m:cE):Nat×cE:=(λt:ak×cE=>match xf t.1 with
 |none=>(0,t.2)
 |some s=>(t.2.next,kt t.2 s)) (oD l [] m)
theorem mod_pow_succ (a k:Nat):a%2^(k+1)=a%2^k+(if a/2^k%2=1 then 2^k else 0):=by
 rw[vm,Nat.mod_mul];grind
theorem Zwd {a:Nat} (h:fF a k=true):a%2^k+2^k<=a:=by
 have h1:a/2^k%2=1:=iR h;have h2:a%2^(k+1)<=a:=Nat.mod_le _ _;rw[mod_pow_succ,bw h1]at h2;exact h2
theorem Qt (cM:Nat): ∀(c k:Nat) (hs:ak) (rest:List bh) (m:cE),(oT cM c k hs rest m).2.B.length=m.B.length/\(oT cM c k hs rest m).2.At.length=m.At.length/\(oT cM c k hs rest m).2.next+cM%2^k<=m.next+cM%2^(k+c)/\m.next<=(oT cM c k hs rest m).2.next/\(oT cM c k hs rest m).1.length=hs.length
 |0,k,hs,rest,m=>⟨rfl,rfl,aL _,aL _,rfl⟩
 |c+1,k,hs,rest,m=>by
  unfold oT;have e:=mod_pow_succ cM k;have e2:k+(c+1)=k+1+c:=by omega
  rw[e2];cases hb:fF cM k with
  |true=>
   rw[ae];obtain⟨a1,a2,a3,a4⟩:=ZnO k (rest.take (2^k)) m;obtain⟨b1,b2,b3,b4,b5⟩:=Qt cM c (k+1) (hs.set k ((nV k (rest.take (2^k)) m).1:Int)) (rest.drop (2^k)) (nV k (rest.take (2^k)) m).2;rw[bw (iR hb)]at e;grind
  |false=>
   rw[af];obtain⟨b1,b2,b3,b4,b5⟩:=Qt cM c (k+1) hs rest m;rw[aW (BP hb)]at e;omega
theorem Znn (es:List bh) (m:cE):(roots es m).2.B.length=m.B.length/\(roots es m).2.At.length=m.At.length/\(roots es m).2.next<=m.next+es.length/\m.next<=(roots es m).2.next/\(roots es m).1.length=12:=by
 obtain⟨b1,b2,b3,b4,b5⟩:=Qt es.length 12 0 (List.replicate 12 0) es m;rw[vh]at b5;grind[roots]
def tp (l:List dr):Nat:=(l.map λx=>x.bW.length).sum
theorem QZ: ∀(l:List dr) (iV:ak) (m:cE),(oD l iV m).2.B.length=m.B.length/\(oD l iV m).2.At.length=m.At.length/\(oD l iV m).2.next<=m.next+tp l+l.length/\m.next<=(oD l iV m).2.next/\(oD l iV m).1.length=iV.length+l.length
 |[],iV,m=>⟨rfl,rfl,aL _,aL _,rfl⟩
 |x::r,iV,m=>by
  obtain⟨a1,a2,a3,a4,a5⟩:=Znn x.bW m;obtain⟨b1,b2,b3,b4,b5⟩:=QZ r (iV++[((roots x.bW m).2.next:Int)]) (kt (roots x.bW m).2 (x0 ⟨x.name,x.bW.length,(roots x.bW m).1⟩));have hn:(kt (roots x.bW m).2 (x0 ⟨x.name,x.bW.length,(roots x.bW m).1⟩)).next=(roots x.bW m).2.next+1:=rfl;rw[hn]at b3 b4;have e:tp (x::r)=x.bW.length+tp r:=by rfl
  unfold oD;refine⟨b1.trans ((uk _ _).trans a1),b2.trans a2,?_,?_,?_⟩
  .rw[e,cH];simp only;omega
  .simp only;omega
  grind
theorem ZuL (l:List dr) (m:cE):(qC l m).2.B.length=m.B.length/\(qC l m).2.At.length=m.At.length/\(qC l m).2.next<=m.next+tp l+l.length+1/\m.next<=(qC l m).2.next:=by
 obtain⟨a1,a2,a3,a4,a5⟩:=QZ l [] m;unfold qC;simp only;cases xf (oD l [] m).1 with
 |none=>grind
 |some s=>exact⟨(uk _ _).trans a1,a2,by show _+1<=_;omega,by show _<=_+1;omega⟩
theorem Zww (a k:Nat) (hk:k<64):((((a:Nat):Int).fdiv (2^(min k 64))).tmod 2==1)=fF a k:=by
 rw[kT (by omega),show((2:Int)^k)=((2^k:Nat):Int) by push_cast;rfl,EA];have e:((a/2^k:Nat):Int).tmod 2=((a/2^k%2:Nat):Int):=rfl;rw[e];grind[fF]
theorem Zwm {Bd:Zh} (hT:HA Bd) {Kn:ah->M ah} (n:Nat) (nm:aj) (es:List bh) (p:ai) (z0:Nat) (v8:z0=4\/p=none) (st:St) (hm:gV st i ib ia m) (hs:Fz st p (bM es)) (dG: ∀e∈es,0<=e.slot/\e.slot<(m.At.length:Int)) (FC:m.next+es.length<=800000) (hB:m.B.length<1000000) (E9:m.At.length<100000) (hle:es.length<100000) (hn:3020<=n)
  (aN: ∀t,gV t i ib ia (roots es m).2->Fx [i,ib,ia] st t->Ok Q (Kn [.agg (.str nm:: .int .i64 (es.length:Int)::ints (roots es m).1)] t)):
  Ok Q (cY (λdA st=>
    bn st λcC st=>
    eE cC λq2 r3=>
    aF .i64 r3 λq3 r4=>
    bx r4 12<|
    bL 4 st λrest zD st=>
    aF .i64 st λk st=>
    aJ st<|
    bif decide (k<12)then
     aC (decide (0<=k))<|
     cK (λst=>
      bn st λfA st=>
      eE fA λq4 r5=>
      aF .i64 r5 λq5 r6=>
      bx r6 12<|
      bL 4 st λWK WL st=>
      aJ st<|
      dA [.agg ((.str q4)::(.int .i64 q5)::r6),.slice 4 WK WL,.int .i64 (ar (k+1))]) λbC=>
     bif ((q3.fdiv (2^(min k.toNat 64))).tmod 2)==1 then
      aC (decide (0<=k))<|
      aC (decide (0<=ar (1*2^(min k.toNat 64)))&&decide (ar (1*2^(min k.toNat 64))<=(zD:Int)))<|
      c9 (run Bd n 217 [.ptr (some (i,0)),.slice 4 rest ((ar (1*2^(min k.toNat 64))).toNat)]) λds=>
      aF .i64 ds λx8 ds=>
      aJ ds<|
      aC (aQ k 12)<|
      aC (Nat.ble (k.toNat*1+2+1) 14)<|
      aC (decide (0<=k))<|
      aC (decide (0<=ar (1*2^(min k.toNat 64)))&&decide (ar (1*2^(min k.toNat 64))<=(zD:Int)))<|
      bC [.agg ((.str q2)::(.int .i64 q3)::(cw r4 (k.toNat*1) [.int .i64 x8])),.slice 4 (cU true rest (((ar (1*2^(min k.toNat 64))).toNat)*4)) (zD-((ar (1*2^(min k.toNat 64))).toNat))]
     else
      bC [.agg ((.str q2)::(.int .i64 q3)::r4),.slice 4 rest zD]
    else
     Kn [.agg ((.str q2)::(.int .i64 q3)::r4)]) n [.agg (.str nm:: .int .i64 (es.length:Int)::ints (List.replicate 12 0)),.slice z0 p es.length,.int .i64 0] st):=by
 obtain⟨G,hG⟩: ∃G,roots es m=G:=⟨_,rfl⟩;rw[hG]at aN;unfold roots at hG;refine Zj _ (λq y t=>∃(k z:Nat) (p':ai) (iB:ak) (m':cE),y=[.agg (.str nm:: .int .i64 (es.length:Int)::ints iB),.slice z p' (es.length-es.length%2^k),.int .i64 (k:Int)]/\(z=4\/p'=none)/\k<=12/\12-k<=q/\iB.length=12/\gV t i ib ia m'/\Fx [i,ib,ia] st t/\Fz t p' (bM (es.drop (es.length%2^k)))/\m'.next<=m.next+es.length%2^k/\m'.B.length=m.B.length/\m'.At.length=m.At.length/\oT es.length (12-k) k iB (es.drop (es.length%2^k)) m'=G) ?_ 12 n _ _ ⟨0,z0,p,List.replicate 12 0,m,by rw[Nat.pow_zero,Nat.mod_one,BN];rfl,v8,cn _,by omega,vh,hm,.refl _ _,by rw[Nat.pow_zero,Nat.mod_one,dj];exact hs,by omega,rfl,rfl,by rw[Nat.pow_zero,Nat.mod_one,dj];exact hG⟩ (by omega);rintro q _ t ⟨k,z,p',iB,m',rfl,Wb,hk,hq,C1,jy,cF,cB,FD,AN,yR,dR⟩ rec aP;have iM:(ints iB).length=12:=by simp[ints,C1]
 rw[cJ];simp only[bP,av];rw[bF iM];simp only[Zg 4 z p' _ Wb,av,aq];by_cases ax:k<12
 .have hw:ar ((k:Int)+1)=((k+1:Nat):Int):=Zc
  have h2k:2^k<=2^11:=l9 (by decide) (by omega);have IP:ar (1*2^(min k 64))=((2^k:Nat):Int):=by
   rw[kT (by omega),Int.one_mul,show((2:Int)^k)=((2^k:Nat):Int) by push_cast;rfl];exact Zc
  rw[aw (show(k:Int)<12 by omega),ae,Zb (aw (by omega))];simp only[bu,IP,hw];rw[Za,Zww _ _ (by omega)];have Um:12-k=(12-(k+1))+1:=by omega
  rw[Um]at dR;unfold oT at dR;have emod:=mod_pow_succ es.length k;cases hb:fF es.length k with
  |true=>
   rw[hb,ae]at dR;have oK:=Zwd hb;rw[bw (iR hb)]at emod;rw[ae,Zb (aw (by omega)),Zb (by rw[aR,bq,bq];omega)];obtain⟨A,hA⟩: ∃A,es.drop (es.length%2^k)=A:=⟨_,rfl⟩;have xz:A.length=es.length-es.length%2^k:=by rw[<-hA,dT]
   rw[hA]at cB dR;have hAk:(A.take (2^k)).length=2^k:=by rw[cz];omega
   have ze:Fz t p' (bM (A.take (2^k))):=⟨by
    have:=cB.1.lY (2^k*4);rwa [ZmC]at this,cB.2⟩
   have tt:(DV.slice 4 p' (2^k))= .slice 4 p' (A.take (2^k)).length:=by rw[hAk]
   rw[tt];refine Ok.call (ZqD hT k n (A.take (2^k)) p' t jy ze hAk (λe he=>by rw[yR];grind) (by omega) (by omega) (by rw[AN];exact hB) (by rw[yR];exact E9) (by omega)) ?_;rintro _ ⟨t1,rfl,uO,lQ⟩;refine⟨_,t1,rfl,?_⟩;simp only[av,aq];rw[Zb (show aQ (k:Int) 12=true from Zi ax),ZY (by omega),Zb (aw (by omega)),Zb (by rw[aR,bq,bq];omega)];obtain⟨k1,k2,k3,k4⟩:=ZnO k (A.take (2^k)) m';have db:cw (ints iB) (k*1) [.int .i64 ((nV k (A.take (2^k)) m').1:Int)]=ints (iB.set k ((nV k (A.take (2^k)) m').1:Int)):=by
    rw[cP,Cq _ _ _ (by omega)];unfold ints;rw[DJ]
   rw[db];have FE:(ints (iB.set k ((nV k (A.take (2^k)) m').1:Int))).length=12:=by simp[ints,C1]
   show Ok _ (bn [.agg (.str nm:: .int .i64 (es.length:Int)::ints (iB.set k ((nV k (A.take (2^k)) m').1:Int))),.slice 4 (cU true p' (2^k*4)) (es.length-es.length%2^k-2^k)] _ t1);rw[cJ];simp only[bP,av];rw[bF FE];simp only[bc,aq];have VW:=cB.kp (jy.kp lQ);have fH:es.drop (es.length%2^(k+1))=A.drop (2^k):=by rw[<-hA,jX,emod]
   have hlen:es.length-es.length%2^(k+1)=es.length-es.length%2^k-2^k:=by omega
   refine aP (12-(k+1)) _ _ (by omega) ⟨k+1,4,cU true p' (2^k*4),_,_,by rw[hlen],.inl rfl,by omega,aL _,by rw[lD,C1],uO,cF.trans lQ,?_,by omega,k1.trans AN,k2.trans yR,by rw[fH];exact dR⟩;rw[fH];refine⟨?_,?_⟩
   .have:=VW.1.cU (k:=2^k*4) (by rw[Zr];omega)
    rwa [Zmw]at this
   .obtain⟨bi,bo,rfl⟩:=VW.1.cD (by rw[Zr];omega)
    intro b o' e;have e':some (bi,2^k*4+bo)=some (b,o'):=e;cases e';exact VW.2 bi bo rfl
  |false=>
   rw[hb,af]at dR;rw[aW (BP hb),fT]at emod;rw[af];show Ok _ (bn [.agg (.str nm:: .int .i64 (es.length:Int)::ints iB),.slice 4 p' (es.length-es.length%2^k)] _ t);rw[cJ];simp only[bP,av];rw[bF iM];simp only[bc,aq];exact aP (12-(k+1)) _ _ (by omega) ⟨k+1,4,p',iB,m',by rw[emod];rfl,.inl rfl,by omega,aL _,C1,jy,cF,by rw[emod];exact cB,by rw[emod];exact FD,AN,yR,by rw[emod];exact dR⟩
 .have:k=12:=by omega
  subst this;rw[aB (show ¬((12:Nat):Int)<12 by omega),af];have hG2:(iB,m')=G:=dR;rw[<-hG2]at aN;exact aN t jy cF
theorem dt (cs r:ah) (K:ah->ah->M β):bn (.agg cs::r) K=K cs r:=rfl
theorem Zrq (n:Nat) (l:List dr) (p:ai) (z:Nat) (ds:ah) (st:St) (hz:z=2\/p=none) (hm:gV st i ib ia m) (hs:Fz st p ds) (hh:vo st ds l) (dG: ∀x∈l,∀e∈x.bW,0<=e.slot/\e.slot<(m.At.length:Int)) (mA: ∀x∈l,x.name.length+600<=n/\x.name.length<60000/\x.bW.length<100000) (FC:m.next+tp l+l.length<=700000) (hl:l.length<1000) (hB:m.B.length<1000000) (E9:m.At.length<100000) (hn:4000<=n):
  Ok (λo=>∃ga,o=(.val [.int .i64 (qC l m).1],ga)/\gV ga i ib ia (qC l m).2/\Fx [i,ib,ia] st ga) (run Bd n 189 [.ptr (some (i,0)),.slice z p l.length] st):=by
 obtain⟨n,rfl⟩: ∃k,n=k+2:=⟨n-2,by omega⟩;rw[Ze,h.abS];unfold OU gk tR cQ lJ ua N_ ix cA bD Li vp eW D3 j1;simp only[gj,Zg 2 z p _ hz,aq];obtain⟨T,hT⟩: ∃T,qC l m=T:=⟨_,rfl⟩;rw[hT];unfold qC at hT;obtain⟨l1,l2,l3⟩:=hm.lt;refine Ok.join λaA yX=>?_
 refine Zj _ (λq y t=>∃(k zk:Nat) (a:ai) (iV:ak) (m':cE),y=[.slice zk a iV.length,.int .i64 (k:Int)]/\(zk=1\/a=none)/\k<=l.length/\l.length-k<=q/\gV t i ib ia m'/\Fx [i,ib,ia] st t/\ba [] t a (ints iV)/\(∀b∈aM a,st.length<=b)/\iV.length=k/\m'.B.length=m.B.length/\m'.At.length=m.At.length/\m'.next+tp (l.drop k)+(l.length-k)<=m.next+tp l+l.length/\oD (l.drop k) iV m'=oD l [] m) ?_ l.length (n+1) _ _ ⟨0,0,none,[],m,rfl,.inr rfl,cn _,by omega,hm,.refl _ _,ba.nil ⟨st,rfl⟩,(λ_ h=>by cases h),rfl,rfl,rfl,aL _,rfl⟩ (by omega);rintro q _ t ⟨k,zk,a,iV,m',rfl,V9,hk,hq,jy,cF,lT,pL,vJ,AN,yR,FD,aN⟩ rec aP;simp only[av,Zg 1 zk a _ V9,aq];have qM:=hm.kp cF;have ca:=hs.kp qM;have hht:=hh.kp qM;by_cases ax:k<l.length
 .have nJ:=hht.aU.len
  obtain⟨bi,bo,rfl⟩:=ca.1.cD (by rw[nJ];omega);have lV:l[k]? =some l[k]:=bU ax;have fH:l.drop k=l[k]::l.drop (k+1):=iI ax;have gB:l[k]∈l:=jG ax;rw[fH]at aN FD;generalize l[k]=x at lV aN FD gB;obtain⟨zx,px,hzx,nM,pO,lQ⟩:=hht.get lV;have U1:tp (x::l.drop (k+1))=x.bW.length+tp (l.drop (k+1)):=by unfold tp;rw[nZ,List.sum_cons]
  rw[U1]at FD;have tD: ∀K:DV->M ah,bG bi (k*2+bo+1) K t=K (.slice zx px x.bW.length) t:=λK=>by
   have:=ca.1.get pO K;rw[<-this];congr 1;omega
  rw[aw (show(k:Int)<(l.length:Int) by omega),ae,Za,aX,Zb (Zi ax)];simp only[bu];rw[ca.1.get nM];simp only[wJ];rw[aX,Zb (Zi ax),tD];rw[ue 4 zx px _ hzx,aX,Zb (Zi ax),tD,ue 4 zx px _ hzx];refine Ok.join λaS Be=>?_
  obtain⟨n1,n2,n3⟩:=mA x gB;refine Zwm h (n+1) x.name x.bW px 4 (.inl rfl) t jy lQ (λe he=>by rw[yR];exact dG x gB e he) (by omega) (by omega) (by omega) n3 (by omega) (Kn:=aS) ?_;intro t1 uO fI;rw[Be];obtain⟨k1,k2,k3,k4,k5⟩:=Znn x.bW m';have iM:(ints (roots x.bW m').1).length=12:=by simp[ints,k5]
  show Ok _ (bn [.agg (.str x.name:: .int .i64 (x.bW.length:Int)::ints (roots x.bW m').1)] _ t1);rw[cJ];simp only[bP,av];rw[bF iM];simp only[aq];refine Ok.call (ZlP (n+1) ⟨x.name,x.bW.length,(roots x.bW m').1⟩ k5 n2 t1 (by show x.name.length+500<=_;omega)) ?_;rintro _ ⟨t2,rfl,aZ⟩;refine⟨_,t2,rfl,?_⟩;simp only[bP,aq];refine Ok.call (Cz n (x0 ⟨x.name,x.bW.length,(roots x.bW m').1⟩) t2 (uO.pre aZ)) ?_;rintro _ ⟨t3,rfl,Bk,fh⟩;refine⟨_,t3,rfl,?_⟩;simp only[av,aq];have hw:ar ((k:Int)+1)=((k+1:Nat):Int):=Zc;simp only[hw];have sf:Fx [i,ib,ia] t t3:=(fI.trans (Fx.pre _ aZ)).trans (fh.mono λy hy=>by simp only[dC,sM,oe]at hy⊢;omega);have xI: ∀b∈aM a,b∉[i,ib,ia]:=λb hb kJ=>by
   have:=pL b hb;simp only[dC,sM,oe]at kJ;omega
  have C9:=lT.fx sf xI;obtain⟨b,t4,r1,r2,r3,r4⟩:=yw (β:=ah) (lim:=8796093022208) C9 (sz:=1) (n:=iV.length) [.int .i64 ((roots x.bW m').2.next:Int)] (by omega) (by simp[ints]) rfl;refine Eq.mpr (congrArg (Ok _) (r4 _)) ?_;simp only[bc,aq];have MU:=Bk.fx r3 λy hy=>by
   have:=pL y hy;omega
  refine aP (l.length-(k+1)) _ _ (by omega) ⟨k+1,1,some (b,0),iV++[((roots x.bW m').2.next:Int)],_,?_,.inl rfl,by omega,aL _,MU,(cF.trans sf).step r3 λy hy=> .inr (pL y hy),?_,λy hy=>?_,?_,(uk _ _).trans (k1.trans AN),k2.trans yR,?_,aN⟩
  .rw[bz];rfl
  .unfold ints
   rw[fg];exact r2
  .rw[cj.1 hy]
   have:=(cF.trans sf).1;omega
  .rw[bz,vJ];rfl
  .show(roots x.bW m').2.next+1+_+_<=_
   omega
 .have gA:k=l.length:=by omega
  rw[aB (show ¬(k:Int)<(l.length:Int) by omega),af,yX];rw[kz (by omega)]at aN;have dR:oD l [] m=(iV,m'):=aN.symm;rw[dR]at hT;simp only at hT;obtain⟨d1,d2,d3,d4,d5⟩:=QZ l [] m;rw[dR]at d3;simp only at d3;simp only[bc,aq];refine Ok.call (Zll (n+1) iV 1 a t (.inl rfl) lT.sl) ?_;rintro _ ⟨t1,rfl,aG⟩;refine⟨_,t1,rfl,?_⟩;cases Bl:xf iV with
  |none=>
   rw[Bl]at hT;unfold yc;simp only[bP,au,aq];rw[bp,ae,Zd,<-hT];exact .mk ⟨t1,rfl,jy.pre aG,cF.trans (Fx.pre _ aG)⟩
  |some s=>
   rw[Bl]at hT;unfold yc;simp only[bP,au,aq];rw[bm,af];refine Ok.call (Cz n s t1 (jy.pre aG)) ?_;rintro _ ⟨t2,rfl,gK,fI⟩;refine⟨_,t2,rfl,?_⟩;simp only[av,aq,Zd];rw[<-hT];exact .mk ⟨t2,rfl,gK,(cF.trans (Fx.pre _ aG)).trans (fI.mono λy hy=>by simp only[dC,sM,oe]at hy⊢;omega)⟩
theorem ZpI: ∀(l:List bA) (i:Nat) (x:bA),i<l.length->cw (bR l) (i*3) (ez x)=bR (l.set i x)
 |[],i,x,h=>by cases h
 |y::l,0,x,h=>by
  rw[od];exact rN [] (ez y) (bR l) (ez x) rfl
 |y::l,i+1,x,h=>by
  have e:=ZpI l i x (by simpa using h);rw[vk];show(.bool y.live:: .int .i64 y.gen:: .int .i64 y.block::cw (bR l) (i*3) (ez x):ah)=_;rw[e];rfl
theorem ZnX: ∀(l:List bA) (i:Nat) (x:bA) (b:Bool),l[i]? =some x->cw (bR l) (i*3) [.bool b]=bR (l.set i { x with live:=b })
 |[],i,x,b,h=>by simp at h
 |y::l,0,x,b,h=>by
  simp only[lB,fU]at h;subst h;rw[od];rfl
 |y::l,i+1,x,b,h=>by
  have e:=ZnX l i x b (by simpa using h);rw[vk];show(.bool y.live:: .int .i64 y.gen:: .int .i64 y.block::cw (bR l) (i*3) [.bool b]:ah)=_;rw[e];rfl
theorem Q8: ∀(l:List bA) (i:Nat) (x:bA) (b:Int),l[i]? =some x->cw (bR l) (i*3+2) [.int .i64 b]=bR (l.set i { x with block:=b })
 |[],i,x,b,h=>by simp at h
 |y::l,0,x,b,h=>by
  simp only[lB,fU]at h;subst h;rw[od];exact rN [.bool y.live,.int .i64 y.gen] [.int .i64 y.block] (bR l) [.int .i64 b] rfl
 |y::l,i+1,x,b,h=>by
  have e:=Q8 l i x b (by simpa using h);rw[vk,Nat.add_right_comm];show(.bool y.live:: .int .i64 y.gen:: .int .i64 y.block::cw (bR l) (i*3+2) [.int .i64 b]:ah)=_;rw[e];rfl
def w9 (k:Int):ak->Int->Int
 |a::b::r,c=>w9 k (b::r) (bif a==k then ar (b+1)else c)
 |_,c=>c
def Ju (aH At free:ak) (k:Nat):bA:=⟨!(At.getD k 0==0),aH.getD k 0,w9 (k:Int) free (At.getD k 0)⟩
theorem Zxg {Kn:ah->M ah} (n:Nat) (free:ak) (pf:ai) (K i:Nat) (l:List bA) (x:bA) (s:St) (hf:Sl s pf (ints free)) (hl:l.length=7) (hi:i<7) (hx:l[i]? =some x) (eu:free.length<100000) (hn:free.length+1<n)
  (aN:Ok Q (Kn [.agg (bR (l.set i { x with block:=w9 (K:Int) free x.block }))] s)):
  Ok Q (cY (λJr st=>
       bn st λoB st=>
      bx oB 21<|
      aF .i64 st λk1 st=>
      aJ st<|
      bif decide (ar (k1+1)<(free.length:Int))then
       bJ pf λi7 o4=>
      aC (aQ k1 free.length)<|
      bG i7 (k1.toNat*1+o4) λd4=>
      cT .i64 d4 λjT=>
      cK (λst=>
       bn st λAG st=>
      bx AG 21<|
      aJ st<|
      Jr [.agg AG,.int .i64 (ar (k1+1))]) λnb=>
      bif jT==((K:Nat):Int)then
       bJ pf λi8 o5=>
      aC (aQ (ar (k1+1)) free.length)<|
      bG i8 (((ar (k1+1)).toNat)*1+o5) λd5=>
      cT .i64 d5 λkQ=>
      aC (aQ ((i:Nat):Int) 7)<|
      aC (Nat.ble (i*3+2+1) 21)<|
      nb [.agg (cw oB (i*3+2) [.int .i64 (ar (kQ+1))])]
      else
       nb [.agg oB]
      else
       Kn [.agg oB]) n [.agg (bR l),.int .i64 0] s):=by
 have afA:l.set i { x with block:=x.block } =l:=by
  have Ft:i<l.length:=by omega
  rw[bU Ft]at hx;cases hx;simp
 obtain⟨G,hG⟩: ∃G,w9 (K:Int) free x.block=G:=⟨_,rfl⟩;rw[hG]at aN;refine Zj _ (λq y t=>∃(k:Nat) (c:Int),y=[.agg (bR (l.set i { x with block:=c })),.int .i64 (k:Int)]/\k<=free.length/\free.length-k<=q/\t=s/\w9 (K:Int) (free.drop k) c=G) ?_ free.length n _ _ ⟨0,x.block,by rw[afA];rfl,cn _,by omega,rfl,hG⟩ (by omega);rintro q _ t ⟨k,c,rfl,hk,hq,rfl,dR⟩ rec aP;have cL:(bR (l.set i { x with block:=c })).length=21:=by rw[Zz,lD,hl]
 have hw:ar ((k:Int)+1)=((k+1:Nat):Int):=Zc;rw[cJ,bF cL];simp only[av,aq,hw];by_cases ax:k+1<free.length
 .have kb:k<free.length:=by omega
  have tz:free.drop k=free[k]::free.drop (k+1):=iI kb;have jh:free.drop (k+1)=free[k+1]::free.drop (k+2):=iI ax;rw[tz,jh]at dR;unfold w9 at dR;rw[<-jh]at dR;obtain⟨bi,bo,rfl⟩:=hf.cD (by simp[ints];omega);have nM:(ints free)[k]? =some (.int .i64 free[k]):=ZA kb;have pO:(ints free)[k+1]? =some (.int .i64 free[k+1]):=ZA ax;rw[aw (show((k+1:Nat):Int)<(free.length:Int) by omega),ae,aX,Zb (Zi kb)];simp only[bu];rw[hf.dL nM];simp only[aY];rw[Za];cases he:(free[k]==((K:Nat):Int))with
  |false=>
   rw[he,af]at dR;rw[af];show Ok _ (bn [.agg (bR (l.set i { x with block:=c }))] _ t);rw[cJ,bF cL];simp only[aq];exact aP (free.length-(k+1)) _ _ (by omega) (by grind)
  |true=>
   rw[he,ae]at dR;rw[ae,aX,Zb (Zi ax),hf.dL pO];simp only[aY];rw[Zb (show aQ ((i:Nat):Int) 7=true from Zi hi),ZY (by omega)];have iC:cw (bR (l.set i { x with block:=c })) (i*3+2) [.int .i64 (ar (free[k+1]+1))]=bR (l.set i { x with block:=ar (free[k+1]+1) }):=by
    rw[Q8 _ i { x with block:=c } _ (by rw[lC (by omega)]),List.set_set]
   rw[iC];have H5:(bR (l.set i { x with block:=ar (free[k+1]+1) })).length=21:=by rw[Zz,lD,hl]
   show Ok _ (bn [.agg (bR (l.set i { x with block:=ar (free[k+1]+1) }))] _ t);rw[cJ,bF H5];simp only[aq];exact aP (free.length-(k+1)) _ _ (by omega) (by grind)
 .rw[aB (show ¬((k+1:Nat):Int)<(free.length:Int) by omega),af]
  have:w9 (K:Int) (free.drop k) c=c:=by
   have kG:(free.drop k).length<=1:=by rw[dT];omega
   cases hdk:free.drop k with
   |nil=>unfold w9;rfl
   |cons a r=>
    rw[hdk]at kG;have:r=[]:=wG.1 (by rw[cH]at kG;omega);subst this;unfold w9;rfl
  rw[this]at dR;rw[dR];exact aN
def nQ (aH At free:ak) (f i:Nat):List bA:=(List.range 7).map λt=>bif decide (t<i)&&decide (f+t<aH.length)then Ju aH At free (f+t)else jl
def wb (aH At free:ak) (f:Nat):List bA:=nQ aH At free f 7
theorem Ag (aH At free:ak) (f i:Nat):(nQ aH At free f i).length=7:=by unfold nQ;simp
theorem ZpG (aH At free:ak) (f i t:Nat) (h:t<7):(nQ aH At free f i)[t]? =some (bif decide (t<i)&&decide (f+t<aH.length)then Ju aH At free (f+t)else jl):=by
 grind[nQ]
theorem ZtP (aH At free:ak) (f i:Nat) (hi:i<7) (hf:f+i<aH.length):nQ aH At free f (i+1)=(nQ aH At free f i).set i (Ju aH At free (f+i)):=by
 refine rk λt=>?_
 by_cases ht:t<7
 .rw[ZpG _ _ _ _ _ _ ht]
  by_cases h:t=i
  .subst h
   rw[lC (by rw[Ag];exact ht),aw (show t<t+1 by omega),aw hf];rfl
  .rw[jZ (by omega),ZpG _ _ _ _ _ _ ht]
   grind
 .rw[nX (by rw[Ag];omega),nX (by rw[lD,Ag];omega)]
theorem ZtO (aH At free:ak) (f i:Nat) (h:aH.length<=f+i):nQ aH At free f i=wb aH At free f:=by
 unfold wb nQ;refine List.map_congr_left λt ht=>?_
 by_cases h2:f+t<aH.length
 .rw[aw (show t<i by omega),aw (yj.1 ht)]
 grind
theorem Zuo (aH At free:ak) (f:Nat):nQ aH At free f 0=nc:=by
 rfl
theorem Zw7 {Kn:ah->M ah} (n:Nat) (aH free:ak) (pg pf:ai) (f:Nat) (s:St) (hm:gV s i ib ia m) (hg:Sl s pg (ints aH)) (ew:Sl s pf (ints free)) (lR:aH.length<100000) (eu:free.length<100000) (E9:m.At.length=aH.length) (hf:f<100000) (hn:free.length+10<n) (vR:10<n)
  (aN:Ok Q (Kn [.agg (bR (wb aH m.At free f))] s)):
  Ok Q (cY (λBE st=>
    bn st λvC st=>
    bx vC 21<|
    aF .i64 st λi3 st=>
    aJ st<|
    cK (λst=>gW st λb3 st=>aJ st<|
     bif b3 then
      cK (λst=>
       bn st λHK st=>
      bx HK 21<|
      aJ st<|
      BE [.agg HK,.int .i64 (ar (i3+1))]) λjP=>
      bJ pg λi4 o1=>
      aC (aQ (ar (((f:Nat):Int)+i3)) aH.length)<|
      bG i4 (((ar (((f:Nat):Int)+i3)).toNat)*1+o1) λd1=>
      cT .i64 d1 λgT=>
      aC (aQ i3 7)<|
      aC (Nat.ble (i3.toNat*3+3) 21)<|
      bJ (some (i,0)) λi5 o2=>
      bG i5 (o2+2) λd2=>
      dE 1 d2 λiP DA=>
      bJ iP λi6 o3=>
      aC (aQ (ar (((f:Nat):Int)+i3)) DA)<|
      bG i6 (((ar (((f:Nat):Int)+i3)).toNat)*1+o3) λd3=>
      cT .i64 d3 λkO=>
      cK (λst=>
       bn st λCI st=>
      bx CI 21<|
      aJ st<|
      cK (λst=>
       bn st λHJ st=>
      bx HJ 21<|
      aJ st<|
      jP [.agg HJ]) λpX=>
      cY (λJr st=>
       bn st λoB st=>
      bx oB 21<|
      aF .i64 st λk1 st=>
      aJ st<|
      bif decide (ar (k1+1)<(free.length:Int))then
       bJ pf λi7 o4=>
      aC (aQ k1 free.length)<|
      bG i7 (k1.toNat*1+o4) λd4=>
      cT .i64 d4 λjT=>
      cK (λst=>
       bn st λAG st=>
      bx AG 21<|
      aJ st<|
      Jr [.agg AG,.int .i64 (ar (k1+1))]) λnb=>
      bif jT==(ar (((f:Nat):Int)+i3))then
       bJ pf λi8 o5=>
      aC (aQ (ar (k1+1)) free.length)<|
      bG i8 (((ar (k1+1)).toNat)*1+o5) λd5=>
      cT .i64 d5 λkQ=>
      aC (aQ i3 7)<|
      aC (Nat.ble (i3.toNat*3+2+1) 21)<|
      nb [.agg (cw oB (i3.toNat*3+2) [.int .i64 (ar (kQ+1))])]
      else
       nb [.agg oB]
      else
       pX [.agg oB]) n [.agg CI,.int .i64 0]) λkq=>
      bif !(kO==0)then
       aC (aQ i3 7)<|
      aC (Nat.ble (i3.toNat*3+1) 21)<|
      bJ (some (i,0)) λi9 o6=>
      bG i9 (o6+2) λd6=>
      dE 1 d6 λnp JF=>
      bJ np λi10 o7=>
      aC (aQ (ar (((f:Nat):Int)+i3)) JF)<|
      bG i10 (((ar (((f:Nat):Int)+i3)).toNat)*1+o7) λd7=>
      cT .i64 d7 λtJ=>
      aC (aQ i3 7)<|
      aC (Nat.ble (i3.toNat*3+2+1) 21)<|
      kq [.agg (cw (cw (cw vC (i3.toNat*3) [.bool false,.int .i64 gT,.int .i64 0]) (i3.toNat*3) [.bool true]) (i3.toNat*3+2) [.int .i64 tJ])]
      else
       kq [.agg (cw vC (i3.toNat*3) [.bool false,.int .i64 gT,.int .i64 0])]
     else
      Kn [.agg vC]) λgN=>
    bif decide (i3<7)then
     gN [.bool (decide (ar (((f:Nat):Int)+i3)<(aH.length:Int)))]
    else
     gN [.bool false]) n [.agg (bR nc),.int .i64 0] s):=by
 refine Zj _ (λq y t=>∃(a:Nat),y=[.agg (bR (nQ aH m.At free f a)),.int .i64 (a:Int)]/\a<=7/\7-a<=q/\t=s) ?_ 7 n _ _ ⟨0,by rw[Zuo];rfl,cn _,by omega,rfl⟩ (by omega);rintro q _ t ⟨a,rfl,ha,hq,rfl⟩ rec aP;have cL:(bR (nQ aH m.At free f a)).length=21:=by rw[Zz,Ag]
 rw[cJ,bF cL];simp only[av,aq];have hw:ar (((f:Nat):Int)+(a:Int))=((f+a:Nat):Int):=Zc;have cG:ar ((a:Int)+1)=((a+1:Nat):Int):=Zc;simp only[hw,cG,bu];refine Ok.join λgN ML=>?_
 have kK:nQ aH m.At free f a=wb aH m.At free f->Ok Q (gN [.bool false] t):=λe=>by
  rw[ML];simp only[au,aq];rw[af,e];exact aN
 by_cases h7:a<7
 .rw[aw (show(a:Int)<7 by omega),ae]
  by_cases ax:f+a<aH.length
  .rw[aw (show((f+a:Nat):Int)<(aH.length:Int) by omega),ML]
   simp only[au,aq];rw[ae];refine Ok.join λjP Vi=>?_
   obtain⟨bi,bo,rfl⟩:=hg.cD (by simp[ints];omega);have vQ:(ints aH)[f+a]? =some (.int .i64 aH[f+a]):=ZA ax;rw[aX,Zb (Zi ax),hg.dL vQ];simp only[aY];rw[Zb (show aQ ((a:Nat):Int) 7=true from Zi h7),ZY (by omega),aX,Zo hm.cell rfl];simp only[lG];have MQ:f+a<m.At.length:=by omega
   have Vn: ∀K:DV->M ah,bG ia ((f+a)*1+0) K t=K (.int .i64 m.At[f+a]) t:=λK=>Zo hm.aa (by rw[cP,fT];exact ZA MQ) K
   rw[aX,Zb (Zi MQ),Vn];simp only[aY];obtain⟨L,hL⟩: ∃L,nQ aH m.At free f a=L:=⟨_,rfl⟩;have hLl:L.length=7:=by rw[<-hL];exact Ag _ _ _ _ _
   have hsB:Ju aH m.At free (f+a)=⟨!(m.At[f+a]==0),aH[f+a],w9 ((f+a:Nat):Int) free m.At[f+a]⟩:=by
    unfold Ju;rw[dX,bU MQ,dX,bU ax];rfl
   have qP:=ZtP aH m.At free f a h7 ax;rw[hL,hsB]at qP;rw[hL]at cL⊢;generalize m.At[f+a]=at' at Vn qP;generalize aH[f+a]=g at vQ qP;refine Ok.join λkq aey=>?_
   have hA:Ok Q (kq [.agg (bR (L.set a ⟨!(at'==0),g,at'⟩))] t):=by
    rw[aey];have H5:(bR (L.set a ⟨!(at'==0),g,at'⟩)).length=21:=by rw[Zz,lD,hLl]
    show Ok _ (bn [.agg (bR (L.set a ⟨!(at'==0),g,at'⟩))] _ t);rw[cJ,bF H5];simp only[aq];refine Ok.join λpX aez=>?_
    refine Zxg n free pf (f+a) a (L.set a ⟨!(at'==0),g,at'⟩) ⟨!(at'==0),g,at'⟩ t ew (by rw[lD,hLl]) h7 (by rw[lC (by omega)]) eu (by omega) (Kn:=pX) ?_;rw[List.set_set,<-qP,aez];have XX:(bR (nQ aH m.At free f (a+1))).length=21:=by rw[Zz,Ag]
    show Ok _ (bn [.agg (bR (nQ aH m.At free f (a+1)))] _ t);rw[cJ,bF XX];simp only[aq];rw[Vi];show Ok _ (bn [.agg (bR (nQ aH m.At free f (a+1)))] _ t);rw[cJ,bF XX];simp only[aq];exact aP (7-(a+1)) _ _ (by omega) (by grind)
   have fm:cw (bR L) (a*3) [.bool false,.int .i64 g,.int .i64 0]=bR (L.set a ⟨false,g,0⟩):=ZpI L a ⟨false,g,0⟩ (by omega);cases h0:(at'==0)with
   |true=>
    grind
   |false=>
    rw[h0]at hA;rw[bp,ae,Zb (show aQ ((a:Nat):Int) 7=true from Zi h7),ZY (by omega),aX,Zo hm.cell rfl];simp only[lG];rw[aX,Zb (Zi MQ),Vn];simp only[aY];rw[Zb (show aQ ((a:Nat):Int) 7=true from Zi h7),ZY (by omega),fm];rw[ZnX _ a ⟨false,g,0⟩ true (by rw[lC (by omega)]),List.set_set];rw[Q8 _ a ⟨true,g,0⟩ at' (by rw[lC (by omega)]),List.set_set];exact hA
  .rw[aB (show ¬((f+a:Nat):Int)<(aH.length:Int) by omega)]
   exact kK (ZtO _ _ _ _ _ (by omega))
 .rw[aB (show ¬(a:Int)<7 by omega),af]
  have:a=7:=by omega
  subst this;exact kK rfl
def wz (o:Option (aj)):aj:=o.getD []
theorem Sk (o:Option (aj)):yc o=[.str (wz o),.bool o.isSome]:=by cases o<;>rfl
def qF (leaves:ak) (i k:Nat):ak:=(List.range 16).map λt=>bif decide (t<k)&&decide (16*i+t<leaves.length)then leaves.getD (16*i+t) 0 else 0
def vE (leaves:ak) (i:Nat):ak:=qF leaves i 16
theorem Ep (leaves:ak) (i k:Nat):(qF leaves i k).length=16:=by unfold qF;simp
theorem ZqX (leaves:ak) (i k t:Nat) (h:t<16):(qF leaves i k)[t]? =some (bif decide (t<k)&&decide (16*i+t<leaves.length)then leaves.getD (16*i+t) 0 else 0):=by
 grind[qF]
theorem Zv4 (leaves:ak) (i k:Nat) (hk:k<16) (hf:16*i+k<leaves.length):qF leaves i (k+1)=(qF leaves i k).set k (leaves.getD (16*i+k) 0):=by
 refine rk λt=>?_
 by_cases ht:t<16
 .rw[ZqX _ _ _ _ ht]
  by_cases h:t=k
  .subst h
   rw[lC (by rw[Ep];exact ht),aw (show t<t+1 by omega),aw hf];rfl
  .rw[jZ (by omega),ZqX _ _ _ _ ht]
   grind
 .rw[nX (by rw[Ep];omega),nX (by rw[lD,Ep];omega)]
theorem Zu9 (leaves:ak) (i k:Nat) (h:leaves.length<=16*i+k):qF leaves i k=vE leaves i:=by
 unfold vE qF;refine List.map_congr_left λt ht=>?_
 by_cases h2:16*i+t<leaves.length
 .rw[aw (show t<k by omega),aw (yj.1 ht)]
 grind
theorem ZuY (leaves:ak) (i:Nat):qF leaves i 0=List.replicate 16 0:=by
 rfl
theorem Zxn {Kn:ah->M ah} (n:Nat) (leaves:ak) (pl:ai) (i:Nat) (s:St) (hl:Sl s pl (ints leaves)) (gZ:leaves.length<100000) (hi:i<1000) (hn:20<n)
  (aN:Ok Q (Kn [.agg (ints (vE leaves i))] s)):
  Ok Q (cY (λdA st=>
       bn st λoC st=>
      bx oC 16<|
      aF .i64 st λk st=>
      aJ st<|
      cK (λst=>gW st λb2 st=>aJ st<|
       bif b2 then
       bJ pl λi1 o=>
      aC (aQ (ar (((16*i:Nat):Int)+k)) leaves.length)<|
      bG i1 (((ar (((16*i:Nat):Int)+k)).toNat)*1+o) λd=>
      cT .i64 d λfL=>
      aC (aQ k 16)<|
      aC (Nat.ble (k.toNat*1+1) 16)<|
      dA [.agg (cw oC (k.toNat*1) [.int .i64 fL]),.int .i64 (ar (k+1))]
      else
       Kn [.agg oC]) λdw=>
      bif decide (k<16)then
       dw [.bool (decide (ar (((16*i:Nat):Int)+k)<(leaves.length:Int)))]
      else
       dw [.bool false]) n [.agg (ints (List.replicate 16 0)),.int .i64 0] s):=by
 refine Zj _ (λq y t=>∃(k:Nat),y=[.agg (ints (qF leaves i k)),.int .i64 (k:Int)]/\k<=16/\16-k<=q/\t=s) ?_ 16 n _ _ ⟨0,by rw[ZuY];rfl,cn _,by omega,rfl⟩ (by omega);rintro q _ t ⟨k,rfl,hk,hq,rfl⟩ rec aP;have cL: ∀k,(ints (qF leaves i k)).length=16:=λk=>by simp[ints,Ep]
 rw[cJ,bF (cL k)];simp only[av,aq];have hw:ar (((16*i:Nat):Int)+(k:Int))=((16*i+k:Nat):Int):=Zc;have cG:ar ((k:Int)+1)=((k+1:Nat):Int):=Zc;simp only[hw,cG,bu];refine Ok.join λdw hj6=>?_
 have kK:qF leaves i k=vE leaves i->Ok Q (dw [.bool false] t):=λe=>by
  rw[hj6];simp only[au,aq];rw[af,e];exact aN
 by_cases sb:k<16
 .rw[aw (show(k:Int)<16 by omega),ae]
  by_cases ax:16*i+k<leaves.length
  .rw[aw (show((16*i+k:Nat):Int)<(leaves.length:Int) by omega),hj6]
   simp only[au,aq];obtain⟨bi,bo,rfl⟩:=hl.cD (by simp[ints];omega);have hg:(ints leaves)[16*i+k]? =some (.int .i64 leaves[16*i+k]):=ZA ax;rw[ae,aX,Zb (Zi ax),hl.dL hg];simp only[aY];rw[Zb (show aQ ((k:Nat):Int) 16=true from Zi sb),ZY (by omega)];have iC:cw (ints (qF leaves i k)) (k*1) [.int .i64 leaves[16*i+k]]=ints (qF leaves i (k+1)):=by
    rw[cP,Cq _ _ _ (by rw[cL];exact sb),Zv4 _ _ _ sb ax,dX,bU ax];unfold ints;rw[DJ];rfl
   rw[iC];exact aP (16-(k+1)) _ _ (by omega) (by grind)
  .rw[aB (show ¬((16*i+k:Nat):Int)<(leaves.length:Int) by omega)]
   exact kK (Zu9 _ _ _ (by omega))
 .rw[aB (show ¬(k:Int)<16 by omega),af]
  have:k=16:=by omega
  subst this;exact kK rfl
def mC (aH free:ak):Nat->Nat->ak->cE->ak×cE
 |0,_,ls,m=>(ls,m)
 |c+1,f,ls,m=>bif decide (f<aH.length)then mC aH free c (f+7) (ls++[(m.next:Int)]) (kt m (wz (wW (wb aH m.At free f))))else(ls,m)
def pJ (leaves:ak):Nat->Nat->ak->cE->ak×cE
 |0,_,top,m=>(top,m)
 |c+1,i,top,m=>bif decide (16*i<leaves.length)then pJ leaves c (i+1) (top.set i (m.next:Int)) (kt m (wz (um (vE leaves i))))else(top,m)
def qZ (aH free:ak) (m:cE):Nat×cE:=(λr:ak×cE=>bif Nat.beq r.1.length 0 then(0,r.2)else
 (λt:ak×cE=>(t.2.next,kt t.2 (wz (um t.1)))) (pJ r.1 16 0 (List.replicate 16 0) r.2)) (mC aH free aH.length 0 [] m)
theorem Zla (aH free:ak): ∀(c f:Nat) (ls:ak) (m:cE),(mC aH free c f ls m).2.B.length=m.B.length/\(mC aH free c f ls m).2.At=m.At/\(mC aH free c f ls m).2.next<=m.next+c/\m.next<=(mC aH free c f ls m).2.next
 |0,f,ls,m=>⟨rfl,rfl,aL _,aL _⟩
 |c+1,f,ls,m=>by
  unfold mC;cases decide (f<aH.length)with
  |true=>
   rw[ae];obtain⟨b1,b2,b3,b4⟩:=Zla aH free c (f+7) (ls++[(m.next:Int)]) (kt m (wz (wW (wb aH m.At free f))));have hn:(kt m (wz (wW (wb aH m.At free f)))).next=m.next+1:=rfl;exact⟨b1.trans (uk _ _),b2,by omega,by omega⟩
  |false=>simp
theorem ZnI (leaves:ak): ∀(c i:Nat) (top:ak) (m:cE),(pJ leaves c i top m).2.B.length=m.B.length/\(pJ leaves c i top m).2.At=m.At/\(pJ leaves c i top m).2.next<=m.next+c/\m.next<=(pJ leaves c i top m).2.next/\(pJ leaves c i top m).1.length=top.length
 |0,i,top,m=>⟨rfl,rfl,aL _,aL _,rfl⟩
 |c+1,i,top,m=>by
  unfold pJ;cases decide (16*i<leaves.length)with
  |true=>
   rw[ae];obtain⟨b1,b2,b3,b4,b5⟩:=ZnI leaves c (i+1) (top.set i (m.next:Int)) (kt m (wz (um (vE leaves i))));have hn:(kt m (wz (um (vE leaves i)))).next=m.next+1:=rfl;exact⟨b1.trans (uk _ _),b2,by omega,by omega,by rw[b5,lD]⟩
  |false=>simp
theorem Zsu (aH free:ak) (m:cE):(qZ aH free m).2.B.length=m.B.length/\(qZ aH free m).2.At=m.At/\(qZ aH free m).2.next<=m.next+aH.length+17/\m.next<=(qZ aH free m).2.next:=by
 obtain⟨b1,b2,b3,b4⟩:=Zla aH free aH.length 0 [] m;unfold qZ;simp only;cases Nat.beq (mC aH free aH.length 0 [] m).1.length 0 with
 |true=>grind
 |false=>
  obtain⟨c1,c2,c3,c4,_⟩:=ZnI (mC aH free aH.length 0 [] m).1 16 0 (List.replicate 16 0) (mC aH free aH.length 0 [] m).2;rw[af];exact⟨(uk _ _).trans (c1.trans b1),c2.trans b2,by show _+1<=_;omega,by show _<=_+1;omega⟩
theorem ZoO (n:Nat) (x:eO) (z1 z2 z3:Nat) (p1 p2 p3:ai) (st:St) (hZ:z1=2\/p1=none) (gD:z2=1\/p2=none) (kL:z3=1\/p3=none) (hm:gV st i ib ia m) (hg:Fz st p2 (ints x.aH)) (ew:Fz st p3 (ints x.free)) (lR:x.aH.length<90000) (eu:x.free.length<90000) (E9:m.At.length=x.aH.length) (FC:m.next+x.aH.length<=700000) (hB:m.B.length<1000000) (hn:x.aH.length+x.free.length+1000<=n):
  Ok (λo=>∃ga,o=(.val [.int .i64 (qZ x.aH x.free m).1],ga)/\gV ga i ib ia (qZ x.aH x.free m).2/\Fx [i,ib,ia] st ga) (run Bd n 190 [.ptr (some (i,0)),.agg (dK x z1 p1 z2 p2 z3 p3)] st):=by
 obtain⟨n,rfl⟩: ∃k,n=k+2:=⟨n-2,by omega⟩;rw[Ze,h.abT];unfold OB ZF gk tR cQ cA az Zm lJ Zn Li vp Lb eW bD rC Z9 j1;simp only[gj];rw[cJ];unfold dK;simp only[av,Zg 2 z1 p1 _ hZ,Zg 1 z2 p2 _ gD,Zg 1 z3 p3 _ kL,aq];obtain⟨l1,l2,l3⟩:=hm.lt;obtain⟨T,hT⟩: ∃T,qZ x.aH x.free m=T:=⟨_,rfl⟩;rw[hT];unfold qZ at hT;obtain⟨RL,hRL⟩: ∃RL,mC x.aH x.free x.aH.length 0 [] m=RL:=⟨_,rfl⟩;rw[hRL]at hT;simp only at hT;have fh: ∀ {a b:St},Fx [i,ib] a b->Fx [i,ib,ia] a b:=λk=>k.mono λy hy=>by grind
 have xI: ∀ {a:ai},(∀b∈aM a,st.length<=b)->∀b∈aM a,b∉[i,ib,ia]:=λpL b hb kJ=>by
  grind
 refine Ok.join λaA yX=>?_
 refine Zj _ (λq y t=>∃(c f zk:Nat) (a:ai) (ls:ak) (m':cE),y=[.slice zk a ls.length,.int .i64 (f:Int)]/\(zk=1\/a=none)/\f<=x.aH.length+7/\x.aH.length+7-f<=q/\gV t i ib ia m'/\Fx [i,ib,ia] st t/\ba [] t a (ints ls)/\(∀b∈aM a,st.length<=b)/\m'.B.length=m.B.length/\m'.At.length=m.At.length/\m'.next<=m.next+f/\ls.length<=f/\x.aH.length<=c+f/\mC x.aH x.free c f ls m'=RL) ?_ (x.aH.length+7) (n+1) _ _ ⟨x.aH.length,0,0,none,[],m,rfl,.inr rfl,cn _,by omega,hm,.refl _ _,ba.nil ⟨st,rfl⟩,(λ_ h=>by cases h),rfl,rfl,by omega,cn _,by omega,hRL⟩ (by omega);rintro q _ t ⟨c,f,zk,a,ls,m',rfl,V9,hf,hq,jy,cF,lT,pL,AN,yR,FD,gZ,hc,aN⟩ rec aP;simp only[av,Zg 1 zk a _ V9,aq];have qM:=hm.kp cF;have hgt:=hg.kp qM;have vN:=ew.kp qM;by_cases ax:f<x.aH.length
 .obtain⟨c,rfl⟩: ∃c',c=c'+1:=⟨c-1,by omega⟩
  unfold mC at aN;rw[aw ax,ae]at aN;rw[aw (by omega),ae];refine Ok.join λfW Vk=>?_
  refine Ok.join λgM Vl=>?_
  refine Zw7 (n+1) x.aH x.free p2 p3 f t jy hgt.1 vN.1 (by omega) (by omega) (by omega) (by omega) (by omega) (by omega) (Kn:=gM) ?_;rw[Vl];have cL:(bR (wb x.aH m'.At x.free f)).length=21:=by rw[Zz];show(nQ _ _ _ _ _).length*3=_;rw[Ag]
  show Ok _ (bn [.agg (bR (wb x.aH m'.At x.free f))] _ t);rw[cJ,bF cL];simp only[aq];refine Ok.call (ZkV (n+1) (wb x.aH m'.At x.free f) (Ag _ _ _ _ _) t) ?_;rintro _ ⟨t1,rfl,aG⟩;refine⟨_,t1,rfl,?_⟩;rw[Sk];simp only[bP,au,aq];refine Ok.call (Cz n (wz (wW (wb x.aH m'.At x.free f))) t1 (jy.pre aG)) ?_;rintro _ ⟨t2,rfl,gK,fI⟩;refine⟨_,t2,rfl,?_⟩;simp only[av,aq];have sf:Fx [i,ib,ia] t t2:=(Fx.pre _ aG).trans (fh fI);have C9:=lT.fx sf (xI pL);obtain⟨b,t4,r1,r2,r3,r4⟩:=yw (β:=ah) (lim:=8796093022208) C9 (sz:=1) (n:=ls.length) [.int .i64 (m'.next:Int)] (by omega) (by simp[ints]) rfl;refine Eq.mpr (congrArg (Ok _) (r4 _)) ?_;rw[Vk];simp only[bc,aq];have hw:ar ((f:Int)+7)=((f+7:Nat):Int):=Zc;rw[hw];have MU:=gK.fx r3 λy hy=>by
   have:=pL y hy;omega
  refine aP (x.aH.length+7-(f+7)) _ _ (by omega) ⟨c,f+7,1,some (b,0),ls++[(m'.next:Int)],_,?_,.inl rfl,by omega,aL _,MU,(cF.trans sf).step r3 λy hy=> .inr (pL y hy),?_,λy hy=>?_,(uk _ _).trans AN,yR,?_,?_,by omega,aN⟩
  .rw[bz];rfl
  .unfold ints
   rw[fg];exact r2
  .rw[cj.1 hy]
   have:=(cF.trans sf).1;omega
  .show m'.next+1<=_
   omega
  .rw[bz];show _+1<=_;omega
 .rw[aB (by omega),af,yX]
  have hRe:RL=(ls,m'):=by
   rw[<-aN];cases c with
   |zero=>rfl
   |succ c=>unfold mC;rw[aB ax];rfl
  rw[hRe]at hT;simp only at hT;simp only[bc,aq];by_cases h0:ls.length=0
  .rw[h0]at hT⊢
   have hT2:(0,m')=T:=hT;rw[show(((0:Nat):Int)==0)=true from rfl,ae,Zd,<-hT2];exact .mk ⟨t,rfl,jy,cF⟩
  .have AR:Nat.beq ls.length 0=false:=by
    cases hb:Nat.beq ls.length 0 with
    |false=>rfl
    |true=>exact absurd (dy hb) h0
   rw[AR,af]at hT;rw[show(((ls.length:Nat):Int)==0)=false from dY.2 (by omega),af];obtain⟨RF,hRF⟩: ∃RF,pJ ls 16 0 (List.replicate 16 0) m'=RF:=⟨_,rfl⟩;rw[hRF]at hT;refine Ok.join λaI Ii=>?_
   refine Zj _ (λq y u=>∃(k:Nat) (top:ak) (m2:cE),y=[.agg (ints top),.int .i64 (k:Int)]/\k<=16/\16-k<=q/\gV u i ib ia m2/\Fx [i,ib,ia] t u/\top.length=16/\m2.B.length=m.B.length/\m2.next<=m'.next+k/\pJ ls (16-k) k top m2=RF) ?_ 16 (n+1) _ _ ⟨0,List.replicate 16 0,m',rfl,cn _,by omega,jy,.refl _ _,vh,AN,by omega,hRF⟩ (by omega);rintro q2 _ u ⟨k,top,m2,rfl,hk,Dc,hmu,fw,vX,Mt,ahy,dR⟩ dA kh;have cL:(ints top).length=16:=by simp[ints,vX]
   rw[cJ,bF cL];simp only[av,aq];have hw:ar (16*(k:Int))=((16*k:Nat):Int):=by rw[Zc];omega
   have cG:ar ((k:Int)+1)=((k+1:Nat):Int):=Zc;simp only[hw,cG];have hou:=lT.fx fw (xI pL);refine Ok.join λaS Be=>?_
   have kK:RF=(top,m2)->Ok (λo=>∃ga,o=(.val [.int .i64 T.1],ga)/\gV ga i ib ia T.2/\Fx [i,ib,ia] st ga) (aS [.bool false] u):=λe=>by
    rw[Be];simp only[au,aq];rw[af,Ii];show Ok _ (bn [.agg (ints top)] _ u);rw[cJ,bF cL];simp only[aq];rw[e]at hT;simp only at hT;refine Ok.call (P7 (n+1) top vX u) ?_;rintro _ ⟨u1,rfl,aG⟩;refine⟨_,u1,rfl,?_⟩;rw[Sk];simp only[bP,au,aq];refine Ok.call (Cz n (wz (um top)) u1 (hmu.pre aG)) ?_;rintro _ ⟨u2,rfl,Bk,A0⟩;refine⟨_,u2,rfl,?_⟩;simp only[av,aq,Zd];rw[<-hT];exact .mk ⟨u2,rfl,Bk,((cF.trans fw).trans (Fx.pre _ aG)).trans (fh A0)⟩
   by_cases sb:k<16
   .rw[aw (by omega),ae]
    have Uo:16-k=(16-(k+1))+1:=by omega
    rw[Uo]at dR;unfold pJ at dR;by_cases gA:16*k<ls.length
    .rw[aw gA,ae]at dR
     rw[aw (by omega),Be];simp only[au,aq];rw[ae];refine Ok.join λbC MK=>?_
     refine Ok.join λcd Vj=>?_
     refine Zxn (n+1) ls a k u hou.sl (by omega) (by omega) (by omega) (Kn:=cd) ?_;rw[Vj];have uH:(ints (vE ls k)).length=16:=by simp only[ints,nY];exact Ep _ _ _
     show Ok _ (bn [.agg (ints (vE ls k))] _ u);rw[cJ,bF uH];simp only[aq];refine Ok.call (P7 (n+1) (vE ls k) (Ep _ _ _) u) ?_;rintro _ ⟨u1,rfl,aG⟩;refine⟨_,u1,rfl,?_⟩;rw[Sk];simp only[bP,au,aq];refine Ok.call (Cz n (wz (um (vE ls k))) u1 (hmu.pre aG)) ?_;rintro _ ⟨u2,rfl,Bk,A0⟩;refine⟨_,u2,rfl,?_⟩;simp only[av,aq];rw[Zb (show aQ ((k:Nat):Int) 16=true from Zi sb)];simp only[bu];rw[ZY (by omega)];have iC:cw (ints top) (k*1) [.int .i64 (m2.next:Int)]=ints (top.set k (m2.next:Int)):=by
      rw[cP,Cq _ _ _ (by omega)];unfold ints;rw[DJ]
     rw[iC,MK];have H5:(ints (top.set k (m2.next:Int))).length=16:=by simp[ints,vX]
     show Ok _ (bn [.agg (ints (top.set k (m2.next:Int)))] _ u2);rw[cJ,bF H5];simp only[aq];exact kh (16-(k+1)) _ _ (by omega) ⟨k+1,_,_,rfl,by omega,aL _,Bk,(fw.trans (Fx.pre _ aG)).trans (fh A0),by rw[lD,vX],(uk _ _).trans Mt,by show m2.next+1<=_;omega,dR⟩
    .rw[aB gA,af]at dR
     rw[aB (by omega)];exact kK dR.symm
   .have:k=16:=by omega
    subst this;rw[aB (by omega),af];exact kK dR.symm
def NR (x:eC):aj:=dF (eN x.seq) 8++dF (eN x.blocks) 4++dF (eN x.cO) 4++dF (eN x.g) 4++dF (eN x.used) 4++dF (eN x.free) 4++dF (eN x.cc) 2++dF (eN x.dir) 2++iZ x.aO
def Aw (x:eC):aj:=iE 7 x.aO.length (NR x)
theorem Zrx (n:Nat) (x:eC) (p:ai) (st:St) (hs:Sl st p (ints x.aO)) (hl:x.aO.length<1000) (hn:2600<=n):
  Ok (λo=>∃s',o=(.val [.str (Aw x)],s')/\aD st s') (run Bd n 191 [.agg (dS x p)] st):=by
 obtain⟨n,rfl⟩: ∃k,n=k+2:=⟨n-2,by omega⟩;rw[Ze,h.abU];unfold Re ZZ jJ BR sR ix tY Zn ZE pC Ls eM dS;rw[cJ];simp only[av,bc,aq,Ei];have lay:=λv k (hk:k<=20) s=>Z8 (n+1) (eN v) k (sW v) s
 refine Ok.mn (lay x.seq 8 (by omega) st) ?_;rintro _ ⟨s1,rfl,aG⟩;refine⟨_,s1,rfl,aG,?_⟩;simp only[bP,aq];refine Ok.mn (lay x.blocks 4 (by omega) s1) ?_;rintro _ ⟨s2,rfl,aZ⟩;refine⟨_,s2,rfl,aZ,?_⟩;simp only[bP,aq];rw[ZY (by simp only[Zx];omega)];refine Ok.mn (lay x.cO 4 (by omega) s2) ?_;rintro _ ⟨s3,rfl,cq⟩;refine⟨_,s3,rfl,cq,?_⟩;simp only[bP,aq];rw[ZY (by simp only[bz,Zx];omega)];refine Ok.mn (lay x.g 4 (by omega) s3) ?_;rintro _ ⟨s4,rfl,fC⟩;refine⟨_,s4,rfl,fC,?_⟩;simp only[bP,aq];rw[ZY (by simp only[bz,Zx];omega)];refine Ok.mn (lay x.used 4 (by omega) s4) ?_;rintro _ ⟨s5,rfl,ji⟩;refine⟨_,s5,rfl,ji,?_⟩;simp only[bP,aq];rw[ZY (by simp only[bz,Zx];omega)];refine Ok.xj (lay x.free 4 (by omega) s5) ?_;rintro _ ⟨s6,rfl,VB⟩;refine⟨_,s6,rfl,?_⟩;simp only[bP,aq];rw[ZY (by simp only[bz,Zx];omega)];refine Ok.mn (lay x.cc 2 (by omega) s6) ?_;rintro _ ⟨s7,rfl,hp7⟩;refine⟨_,s7,rfl,hp7,?_⟩;simp only[bP,aq];rw[ZY (by simp only[bz,Zx];omega)];refine Ok.xj (lay x.dir 2 (by omega) s7) ?_;rintro _ ⟨s8,rfl,hp8⟩;refine⟨_,s8,rfl,?_⟩;simp only[bP,aq];rw[ZY (by simp only[bz,Zx];omega),Za];have hP:=((((((aG.trans aZ).trans cq).trans fC).trans ji).trans VB).trans hp7).trans hp8;unfold Aw NR;obtain⟨A,hA⟩: ∃A,dF (eN x.seq) 8++dF (eN x.blocks) 4++dF (eN x.cO) 4++dF (eN x.g) 4++dF (eN x.used) 4++dF (eN x.free) 4++dF (eN x.cc) 2++dF (eN x.dir) 2=A:=⟨_,rfl⟩;have xz:A.length=32:=by rw[<-hA];simp only[bz,Zx]
 rw[hA];refine Zj _ (λq y s=>∃i:Nat,y=[.str (A++iZ (x.aO.take i)),.int .i64 (i:Int)]/\i<=x.aO.length/\x.aO.length-i<=q/\aD st s) ?_ x.aO.length (n+1) _ _ ⟨0,by rw[Ge];show _=[DV.str (A++[]),_];rw[gG];rfl,cn _,by omega,hP⟩ (by omega);rintro q _ s ⟨i,rfl,hi,hq,gS⟩ rec aP;simp only[bP,av,aq];by_cases ax:i<x.aO.length
 .have dG:=hs.mono gS
  obtain⟨i1,o1,rfl⟩:=dG.cD (by simp[ints];omega);rw[aw (show(i:Int)<(x.aO.length:Int) by omega),ae,aX,Zb (Zi ax),bu,dG.dL (ZA ax)];simp only[aY];refine Ok.call (lay x.aO[i] 2 (by omega) s) ?_;rintro _ ⟨s5,rfl,ji⟩;refine⟨_,s5,rfl,?_⟩;simp only[bP,aq];rw[ZY (by rw[bz,sU,Zx,cz,xz];omega),Zc];exact aP (x.aO.length-(i+1)) _ _ (by omega) ⟨i+1,by rw[GP _ ax,fD];rfl,by omega,aL _,gS.trans ji⟩
 .rw[aB (show ¬(i:Int)<(x.aO.length:Int) by omega),af]
  rw[dq (by omega)];refine Ok.call (zW (n+1) 7 x.aO.length (A++iZ x.aO) (by rw[bz,sU];omega) s (by rw[bz,sU];omega)) ?_;rintro _ ⟨s5,rfl,ji⟩;refine⟨_,s5,rfl,?_⟩;simp only[bP,aq,Zd];exact .mk ⟨s5,rfl,gS.trans ji⟩
def ZR (a n:Nat):ak:=(List.range n).map λi=>((a+i:Nat):Int)
theorem sS (a n:Nat):(ZR a n).length=n:=by unfold ZR;simp
theorem ZmO (a n:Nat):ZR a (n+1)=ZR a n++[((a+n:Nat):Int)]:=by simp[ZR,vj,fg]
theorem ZtU {a:Nat} {x:Int} (h:x∈ZR a n):(a:Int)<=x/\x<((a+n:Nat):Int):=by
 grind[ZR]
def oy (used:ak):Nat->Nat->cE->cE
 |0,_,m=>m
 |c+1,i,m=>oy used c (i+1) (kt m (ta (fQ i used)))
theorem ZlQ (used:ak): ∀(c i:Nat) (m:cE),(oy used c i m).B.length=m.B.length/\(oy used c i m).next=m.next+c
 |0,i,m=>⟨rfl,rfl⟩
 |c+1,i,m=>by
  obtain⟨a,b⟩:=ZlQ used c (i+1) (kt m (ta (fQ i used)));unfold oy;refine⟨a.trans (uk _ _),?_⟩;rw[b];show m.next+1+c=_;omega
def we (x:eO):cE:=⟨lf (64*x.blocks.toNat),2,List.replicate x.aH.length 0⟩
def su (x:eO):Nat:=(x.blocks.toNat+383)/384
def EI (l:ak):Int:=match l with
 |[]=>0
 |k::_=>ar (k+1)
def wg (x:eO):Nat×cE:=qC x.aU (we x)
def jb (x:eO):Nat×cE:=qZ x.aH x.free (wg x).2
def gv (x:eO) (dV:Int):eC:=⟨dV,x.blocks,x.cO,x.g,(jb x).1,x.aH.length,EI x.free,(wg x).1,ZR (jb x).2.next (su x)⟩
def oV (x:eO):ak:=ZR 0 ((jb x).2.next+su x)
def yE (x:eO) (dV place:Int):Option (aj×eC):=
 bif decide (((oV x).length:Int)>x.blocks)|| !Z6 (gv x dV)then none else
  some (mF (oy (oV x) (su x) 0 (jb x).2).B (64*(place%2).toNat) (Aw (gv x dV)),gv x dV)
theorem ZuT (n:Nat):ig n [.int .i64 0]=ints (List.replicate n 0):=by
 simp[ig,ints]
def Zts:ah:=[.slice 0 none 0,.agg [.int .i64 0,.int .i64 0,.int .i64 0,.int .i64 0,.int .i64 0,.int .i64 0,.int .i64 0,.int .i64 0,.slice 0 none 0],.bool false]
structure aaT (st ga:St) (B:List UInt8) (s:eC) (ib:Nat) (q:Option (Nat×Nat)):Prop where
 new:st.length<=ib
 dH:ga[ib]? =some (some ⟨false,bK B⟩)
 own:ba [] ga q (ints s.aO)
 q: ∀b∈aM q,st.length<=b/\b≠ib
def TK (st:St) (x:eO) (dV place:Int) (o:Out ah×St):Prop:=∃ga,aD st ga/\
 ((∃B s ib q,tV x/\yE x dV place=some (B,s)/\o=(.val [.slice 1 (some (ib,0)) B.length,.agg (dS s q),.bool true],ga)/\aaT st ga B s ib q)\/
  ((tV x->yE x dV place=none)/\o=(.val Zts,ga)))
theorem Zqw (l:List dr):tp l=((l.map (·.bW)).flatten).length:=by
 unfold tp;induction l with
 |nil=>rfl
 |cons x l ih=>rw[nZ,List.sum_cons,ih,nZ,yh,bz]
theorem Zj0 (n:Nat) (x:eO) (z1 z2 z3:Nat) (p1 p2 p3:ai) (dV place:Int) (st:St) (hZ:z1=2\/p1=none) (gD:z2=1\/p2=none) (kL:z3=1\/p3=none) (hx:zR st x p1 p2 p3) (sz:BZ x) (lr: -9223372036854775808<=place/\place<=9223372036854775807:=by omega) (hn:60000<=n:=by omega):
  Ok (TK st x dV place) (run Bd n 170 [.agg (dK x z1 p1 z2 p2 z3 p3),.int .i64 dV,.int .i64 place] st):=by
 obtain⟨n,rfl⟩: ∃k,n=k+3:=⟨n-3,by omega⟩;rw[Ze,h.abF];unfold PO ZK gP bd cQ OY gk az Q_ vn jJ cI ix lJ Zm yr cA zU Gz lH Li fV wN tS vp Lb eW bD j1 ur;have ag: ∀(l:ah) (K:ah->ah->M ah),bn (.agg (dK x z1 p1 z2 p2 z3 p3)::l) K=K (dK x z1 p1 z2 p2 z3 p3) l:=λ_ _=>rfl
 rw[ag];unfold dK;simp only[av,Zg 2 z1 p1 _ hZ,Zg 1 z2 p2 _ gD,Zg 1 z3 p3 _ kL,aq];refine Ok.call (ZrH (n+2) x 2 1 1 p1 p2 p3 st (.inl rfl) (.inl rfl) (.inl rfl) hx.str sz (by omega)) ?_;rintro _ ⟨b,s1,rfl,aG,hb⟩;refine⟨_,s1,rfl,?_⟩;simp only[au,aq];cases b with
 |false=>
  rw[bp,ae,Zd];exact .mk ⟨s1,aG,.inr ⟨λhm=>(by cases hb.2 hm),rfl⟩⟩
 |true=>
 have hm:=hb.1 rfl;rw[bm,af];obtain⟨g1,g2,g3,g4,g5,g6⟩:=Z3 hm.HQ;obtain⟨bl,gR⟩: ∃bl:Nat,x.blocks=bl:=⟨x.blocks.toNat,by omega⟩;have lR:x.aH.length<=1792:=by have:=hm.cO;omega
 have pM:x.blocks.toNat=bl:=by omega
 have hw:ar (64*x.blocks)=((64*bl:Nat):Int):=by rw[gR,Zc];omega
 simp only[hw,bu];rw[Zb (by rw[aR,aR,bq,bq,bq];omega),Zy];rw[Zb (by rw[aR,aR,bq,bq,bq];omega),Zy,Zy,ZpX,ZuT];have l1: ∀c,(s1++[some (c:bT)]).length=s1.length+1:=λc=>by simp
 have l2: ∀c d,((s1++[some (c:bT)])++[some (d:bT)]).length=s1.length+2:=λc d=>by simp
 simp only[l1,l2];obtain⟨S0,CN⟩: ∃S0,((s1++[some (⟨false,bK (lf (64*bl))⟩:bT)])++[some (⟨false,ints (List.replicate x.aH.length 0)⟩:bT)])++[some (⟨false,[.slice 1 (some (s1.length,0)) (64*bl),.int .i64 2,.slice 1 (some (s1.length+1,0)) x.aH.length]⟩:bT)]=S0:=⟨_,rfl⟩;rw[CN];have hpS:aD s1 S0:=by rw[<-CN];exact(((aD.new _ _).trans (aD.new _ _)).trans (aD.new _ _))
 have hlS:S0.length=s1.length+3:=by rw[<-CN];simp
 have qU:(lf (64*bl)).length=64*bl:=by unfold lf;simp
 have UB:gV S0 (s1.length+2) s1.length (s1.length+1) (we x):=by
  unfold we;rw[pM];refine⟨?_,?_,?_,by omega,by omega,by omega⟩
  .rw[<-CN,qU,vh];simp
  .rw[<-CN];simp
  .rw[<-CN];simp
 clear CN;have M5:=aG.trans hpS;have V5:=hx.kp M5.kp;obtain⟨ds,tz,jh⟩:=V5.hp;have gB: ∀g∈x.aU,∀e∈g.bW,e∈Zv x:=λg hg e he=>List.mem_flatten.2 (by grind)
 have xz:(we x).At.length=x.aH.length:=vh;have Fa:(we x).B.length=64*bl:=by show(lf _).length=_;rw[pM,qU]
 have U1:=Zqw x.aU;have ahl:tp x.aU<=50000:=by rw[U1];exact sz.e
 have Ba:=hm.EX;have C6:(we x).next=2:=rfl;refine Ok.call (Zrq (n+2) x.aU p1 2 ds S0 (.inl rfl) UB tz jh (λg hg e he=>by
  have:=hm.range e.slot (by grind);rw[xz];exact this) (λg hg=>⟨by have:=sz.h.name g hg;omega,by have:=sz.h.name g hg;omega,by have:=sz.h.bW g hg;omega⟩) (by omega) (by omega) (by omega) (by omega) (by omega)) ?_
 rintro _ ⟨S1,rfl,hM1,CV⟩;refine⟨_,S1,rfl,?_⟩;simp only[av,aq];obtain⟨k1,k2,k3,k4⟩:=ZuL x.aU (we x);have aeI:qC x.aU (we x)=wg x:=rfl;rw[aeI]at hM1 k1 k2 k3 k4⊢;have zj:=V5.kp (UB.kp CV);refine Ok.call (ZoO (n+2) x 2 1 1 p1 p2 p3 S1 (.inl rfl) (.inl rfl) (.inl rfl) hM1 zj.gn zj.fr (by omega) (by have:=sz.f;omega) (by omega) (by omega) (by omega) (by have:=sz.f;omega)) ?_;rintro _ ⟨S2,rfl,hM2,nK⟩;refine⟨_,S2,rfl,?_⟩;simp only[av,aq];obtain⟨q1,q2,q3,q4⟩:=Zsu x.aH x.free (wg x).2;have aeJ:qZ x.aH x.free (wg x).2=jb x:=rfl;rw[aeJ]at hM2 q1 q2 q3 q4⊢;have hfA:Fx [s1.length+2,s1.length,s1.length+1] S0 S2:=CV.trans nK;have Dh:=V5.kp (UB.kp hfA);have Mt:(jb x).2.B.length=64*bl:=by omega
 have Db: ∀t,Fx [s1.length+2,s1.length,s1.length+1] S0 t->aD st t:=λt k=>by
  refine Fx.aau ((Fx.pre [] M5).step k λy hy=> .inr ?_);have:=aG.len;grind
 have xI: ∀ {a:ai},(∀b∈aM a,S0.length<=b)->∀b∈aM a,b∉[s1.length+2,s1.length,s1.length+1]:=λpL b hb kJ=>by
  grind
 refine Ok.join λaA yX=>?_
 have A1:Ok (TK st x dV place) (aA [.agg [.int .i64 dV,.int .i64 x.blocks,.int .i64 x.cO,.int .i64 x.g,.int .i64 (jb x).1,.int .i64 (x.aH.length:Int),.int .i64 (EI x.free),.int .i64 (wg x).1,.slice 0 none 0]] S2):=by
  rw[yX];show Ok _ (bn [.agg [.int .i64 dV,.int .i64 x.blocks,.int .i64 x.cO,.int .i64 x.g,.int .i64 (jb x).1,.int .i64 (x.aH.length:Int),.int .i64 (EI x.free),.int .i64 (wg x).1,.slice 0 none 0]] _ S2);rw[dt [.int .i64 dV,.int .i64 x.blocks,.int .i64 x.cO,.int .i64 x.g,.int .i64 (jb x).1,.int .i64 (x.aH.length:Int),.int .i64 (EI x.free),.int .i64 (wg x).1,.slice 0 none 0] []];simp only[av,Zg 1 0 none _ (.inr rfl),aq];refine Ok.join λaI Ii=>?_
  obtain⟨N,hN⟩: ∃N,(jb x).2.next=N:=⟨_,rfl⟩;obtain⟨C,hC⟩: ∃C,su x=C:=⟨_,rfl⟩;have hCe:(bl+383)/384=C:=by rw[<-hC];unfold su;rw[pM]
  refine Zj _ (λq y t=>∃(k z:Nat) (a:ai),y=[.agg [.int .i64 dV,.int .i64 x.blocks,.int .i64 x.cO,.int .i64 x.g,.int .i64 (jb x).1,.int .i64 (x.aH.length:Int),.int .i64 (EI x.free),.int .i64 (wg x).1,.slice z a (ZR N k).length],.int .i64 (k:Int)]/\(z=1\/a=none)/\k<=C/\C-k<=q/\gV t (s1.length+2) s1.length (s1.length+1) (jb x).2/\Fx [s1.length+2,s1.length,s1.length+1] S0 t/\ba [] t a (ints (ZR N k))/\∀b∈aM a,S0.length<=b) ?_ C (n+2) _ _ ⟨0,1,none,rfl,.inr rfl,cn _,by omega,hM2,hfA,ba.nil ⟨S2,rfl⟩,λ_ h=>by cases h⟩ (by omega);rintro q _ t ⟨k,z,a,rfl,hz,hk,hq,UC,vN,lT,pL⟩ rec aP;rw[cJ];simp only[av,Zg 1 z a _ hz,aq];rw[gR];refine Ok.call (ZiR (n+2) bl x.cO x.g (by omega) t) ?_;rintro _ rfl;refine⟨_,t,rfl,?_⟩;simp only[av,aq];rw[hCe,<-gR];by_cases ax:k<C
  .rw[aw (by omega),ae,Zo UC.cell (d:= .int .i64 (jb x).2.next) rfl]
   simp only[aY];have qT:ar (((jb x).2.next:Int)+(k:Int))=((N+k:Nat):Int):=by rw[hN,Zc];omega
   have cG:ar ((k:Int)+1)=((k+1:Nat):Int):=Zc;rw[qT,cG];obtain⟨b,t2,r1,r2,r3,r4⟩:=yw (β:=ah) (lim:=8796093022208) lT (sz:=1) (n:=(ZR N k).length) [.int .i64 ((N+k:Nat):Int)] (by omega) (by simp[ints]) rfl (by rw[sS];omega);refine Eq.mpr (congrArg (Ok _) (r4 _)) ?_;have hM3:=UC.fx r3 λy hy=>by
    have:=pL y hy;omega
   refine aP (C-(k+1)) _ _ (by omega) ⟨k+1,1,some (b,0),?_,.inl rfl,by omega,aL _,hM3,vN.step r3 λy hy=> .inr (pL y hy),?_,λy hy=>?_⟩
   .rw[sS,sS]
   .rw[ZmO]
    unfold ints;rw[fg];exact r2
   .rw[cj.1 hy]
    have:=vN.1;omega
  have hkC:k=C:=by omega
  subst hkC;rw[aB (by omega),af,Ii];have Bq:([.int .i64 dV,.int .i64 x.blocks,.int .i64 x.cO,.int .i64 x.g,.int .i64 (jb x).1,.int .i64 (x.aH.length:Int),.int .i64 (EI x.free),.int .i64 (wg x).1,.slice 1 a (ZR N k).length]:ah)=dS (gv x dV) a:=by
   unfold dS gv;rw[hN,hC]
  have tx:(gv x dV).aO=ZR N k:=by unfold gv;rw[hN,hC]
  rw[Bq];show Ok _ (bn [.agg (dS (gv x dV) a)] _ t);rw[dt (dS (gv x dV) a) []];unfold dS;simp only[av,bc,aq];have afJ:([.int .i64 (gv x dV).seq,.int .i64 (gv x dV).blocks,.int .i64 (gv x dV).cO,.int .i64 (gv x dV).g,.int .i64 (gv x dV).cc,.int .i64 (gv x dV).used,.int .i64 (gv x dV).free,.int .i64 (gv x dV).dir,.slice 1 a (gv x dV).aO.length]:ah)=dS (gv x dV) a:=rfl;simp only[afJ];have cL:(gv x dV).aO.length=k:=by rw[tx,sS]
  have lu:oV x=ZR 0 (N+k):=by unfold oV;rw[hN,hC]
  rw[cL];refine Ok.join λaS Be=>?_
  refine Zj _ (λq y u=>∃(i z:Nat) (c:ai),y=[.slice z c (ZR 0 i).length,.int .i64 (i:Int)]/\(z=1\/c=none)/\i<=N+k/\N+k-i<=q/\gV u (s1.length+2) s1.length (s1.length+1) (jb x).2/\Fx [s1.length+2,s1.length,s1.length+1] S0 u/\ba [] u c (ints (ZR 0 i))/\(∀b∈aM c,S0.length<=b)/\ba [] u a (ints (ZR N k))/\∀b∈aM a,b∉aM c) ?_ (N+k) (n+2) _ _ ⟨0,0,none,rfl,.inr rfl,cn _,by omega,UC,vN,ba.nil ⟨t,rfl⟩,(λ_ h=>by cases h),lT,λ_ _ h=>by cases h⟩ (by omega);rintro q2 _ u ⟨i,z,c,rfl,hz,hi,Dc,UD,fw,M0,UP,MZ,hac⟩ dA kh;simp only[av,Zg 1 z c _ hz,aq];rw[Zo UD.cell (d:= .int .i64 (jb x).2.next) rfl];simp only[aY];have hwN:ar (((jb x).2.next:Int)+(k:Int))=((N+k:Nat):Int):=by rw[hN,Zc];omega
  rw[hwN];by_cases ax:i<N+k
  .rw[aw (by omega),ae]
   have cG:ar ((i:Int)+1)=((i+1:Nat):Int):=Zc;rw[cG];obtain⟨b,t2,r1,r2,r3,r4⟩:=yw (β:=ah) (lim:=8796093022208) M0 (sz:=1) (n:=(ZR 0 i).length) [.int .i64 (i:Int)] (by omega) (by simp[ints]) rfl (by rw[sS];omega);refine Eq.mpr (congrArg (Ok _) (r4 _)) ?_;refine kh (N+k-(i+1)) _ _ (by omega) ⟨i+1,1,some (b,0),?_,.inl rfl,by omega,aL _,UD.fx r3 λy hy=>?_,fw.step r3 λy hy=> .inr (UP y hy),?_,λy hy=>?_,MZ.fx r3 hac,λy hy gK=>?_⟩
   .rw[sS,sS]
   .have:=UP y hy
    omega
   .rw[ZmO,ej]
    unfold ints;rw[fg];exact r2
   .rw[cj.1 hy]
    have:=fw.1;omega
   .rw[cj.1 gK]at hy
    have:=ba.EN MZ b hy;omega
  have hiN:i=N+k:=by omega
  subst hiN;rw[aB (by omega),af,Be];simp only[bc,aq];refine Ok.join λbC MK=>?_
  have Fk:yE x dV place=bif decide (((oV x).length:Int)>x.blocks)|| !Z6 (gv x dV)then none else some (mF (oy (oV x) k 0 (jb x).2).B (64*(place%2).toNat) (Aw (gv x dV)),gv x dV):=by
   unfold yE;rw[hC]
  have A4: ∀(v:St) (bb:Bool),(decide (((oV x).length:Int)>x.blocks)|| !Z6 (gv x dV))=bb->aD u v->Ok (TK st x dV place) (bC [.bool bb] v):=by
   intro v bb yT uS;rw[yT]at Fk;rw[MK];simp only[au,aq];cases bb with
   |true=>
    rw[ae,Zd];exact .mk ⟨v,Db v (fw.trans (Fx.pre _ uS)),.inr ⟨λ_=>Fk,rfl⟩⟩
   |false=>
   rw[af];rw[af]at Fk;refine Ok.join λcd Vj=>?_
   obtain⟨G,hG⟩: ∃G,oy (oV x) k 0 (jb x).2=G:=⟨_,rfl⟩;rw[hG]at Fk;refine Zj _ (λq y w=>∃(i:Nat) (m':cE),y=[.int .i64 (i:Int)]/\i<=k/\k-i<=q/\gV w (s1.length+2) s1.length (s1.length+1) m'/\Fx [s1.length+2,s1.length,s1.length+1] S0 w/\ba [] w c (ints (ZR 0 (N+k)))/\ba [] w a (ints (ZR N k))/\m'.B.length=64*bl/\m'.next=N+i/\oy (oV x) (k-i) i m'=G) ?_ k (n+2) _ _ ⟨0,(jb x).2,rfl,cn _,by omega,UD.pre uS,fw.trans (Fx.pre _ uS),M0.fx (Fx.pre [] uS) (λ_ _ h=>by cases h),MZ.fx (Fx.pre [] uS) (λ_ _ h=>by cases h),Mt,hN,hG⟩ (by omega);rintro q3 _ w ⟨i,m',rfl,hi,hq3,UE,MJ,Yv,C9,hB3,hN3,aN⟩ uY Na;simp only[av,aq];by_cases ax:i<k
   .rw[aw (by omega),ae]
    refine Ok.call (ZkZ (n+2) i (ZR 0 (N+k)) c 1 w (.inl rfl) Yv.sl (by omega) (by rw[sS];omega) (λy hy=>by have:=ZtU hy;omega) (by rw[sS];omega)) ?_;rintro _ rfl;refine⟨_,w,rfl,?_⟩;have It:(fQ i (ZR 0 (N+k))).dH.length=48:=by unfold fQ;rw[GV];exact vh
    have iM:(bK (fQ i (ZR 0 (N+k))).dH).length=48:=by rw[Zq,It]
    show Ok _ (bn [.agg (.int .i64 (fQ i (ZR 0 (N+k))).no::bK (fQ i (ZR 0 (N+k))).dH)] _ w);rw[cJ];simp only[av];rw[bF iM];simp only[aq];refine Ok.call (Zlv (n+2) (fQ i (ZR 0 (N+k))) It w) ?_;rintro _ ⟨w1,rfl,FK⟩;refine⟨_,w1,rfl,?_⟩;simp only[bP,aq];refine Ok.call (Cz (n+1) (ta (fQ i (ZR 0 (N+k)))) w1 (UE.pre FK)) ?_;rintro _ ⟨w2,rfl,adZ,aem⟩;refine⟨_,w2,rfl,?_⟩;simp only[av,aq];rw[Zc];have U3:Fx [s1.length+2,s1.length] w w2:=(Fx.pre _ FK).trans aem;have CW:Fx [s1.length+2,s1.length,s1.length+1] w w2:=U3.mono λy hy=>by simp only[dC,sM,oe]at hy⊢;omega
    have eki:k-i=(k-(i+1))+1:=by omega
    rw[eki]at aN;unfold oy at aN;rw[lu]at aN;rw[<-lu]at aN;exact Na (k-(i+1)) _ _ (by omega) ⟨i+1,_,rfl,by omega,aL _,adZ,MJ.trans CW,Yv.fx CW (xI UP),C9.fx CW (xI pL),(uk _ _).trans hB3,by show m'.next+1=_;omega,by rw[<-lu];exact aN⟩
   have Fv:i=k:=by omega
   subst Fv;rw[Nat.sub_self]at aN;have hmG:m'=G:=aN;subst hmG;rw[aB (by omega),af,Vj];simp only[aq];rw[Zo UE.cell rfl];simp only[lG];have xK:run Bd (n+2) 179 [.int .i64 place,.int .i64 2] w=some (.val [.int .i64 (place%2)],w):=Py (n+1) place 2 (by decide) (by decide) lr w;rw[rH xK (.refl w)];simp only[av,aq];obtain⟨pl,YC⟩: ∃pl:Nat,place%2=(pl:Int):=⟨(place%2).toNat,by omega⟩;rw[YC,bu]at Fk;rw[YC];have hwp:ar (64*(pl:Int))=((64*pl:Nat):Int):=by rw[Zc];omega
   simp only[hwp,bu,cP];rw[Zb (by rw[aR,bq,bq];omega)];refine Ok.mn (Zrx (n+2) (gv x dV) a w (by rw[tx];exact C9.sl) (by omega) (by omega)) ?_;rintro _ ⟨w1,rfl,FK⟩;refine⟨_,w1,rfl,FK,?_⟩;simp only[bP,aq];have UF:=UE.pre FK;obtain⟨e1,e2,e3⟩:=UF.lt;show Ok _ (ee s1.length (64*pl+0) _ _ w1);rw[fT,lq,Lh UF.bb (by rw[Zq,Zq,cz];omega),Tq _];have hlB:=Lt (B:=m'.B) (k:=64*pl) (Aw (gv x dV));rw[Zo (i:=s1.length+2) (f:=false) (by rw[jZ (by omega)];exact UF.cell) rfl];simp only[lG,Zd];have AY:Fx [s1.length+2,s1.length,s1.length+1] w (w1.set s1.length (some ⟨false,bK (mF m'.B (64*pl) (Aw (gv x dV)))⟩)):=(Fx.pre _ FK).trans ((Fx.set w1 s1.length _).mono λy hy=>by rw[cj.1 hy];simp);have oP:=aG.len;refine .mk ⟨_,Db _ (MJ.trans AY),.inl ⟨_,_,s1.length,a,hm,Fk,by rw[hlB],oP,lC (by omega),?_,λy hy=>?_⟩⟩
   .rw[tx]
    exact C9.fx AY (xI pL)
   .have:=pL y hy
    omega
  rw[sS];have xN:((oV x).length:Int)=((N+k:Nat):Int):=by rw[lu,sS]
  by_cases uQ:((N+k:Nat):Int)>x.blocks
  .rw[aw uQ,ae]
   refine A4 u true ?_ (.refl u);rw[xN,aw uQ,zJ]
  .rw[aB uQ,af]
   refine Ok.call (O9 (n+2) (gv x dV) a u (by rw[tx];exact MZ.sl) (by omega)) ?_;rintro _ ⟨v,rfl,uS⟩;refine⟨_,v,rfl,?_⟩;simp only[au,aq];refine A4 v _ ?_ uS;rw[xN,aB uQ,sK]
 by_cases xD:0<x.free.length
 .obtain⟨k0,kr,Ij⟩: ∃k0 kr,x.free=k0::kr:=by
   cases sd:x.free with
   |nil=>rw[sd]at xD;cases xD
   |cons a b=>exact⟨a,b,rfl⟩
  have Vc:(ints x.free)[0]? =some (.int .i64 k0):=by rw[Ij];rfl
  obtain⟨bi,bo,e⟩:=Dh.fr.1.cD (by simp[ints];omega);have vV:=Dh.fr.1;rw[e]at vV⊢;rw[aw (by omega),ae,aX,Zb (show aQ 0 x.free.length=true from Zi (i:=0) xD),vV.get Vc];simp only[aY];rw[Ij]at A1;exact A1
 .have sd:x.free=[]:=wG.1 (by omega)
  rw[aB (by omega),af];rw[sd]at A1;exact A1
theorem Zo5 (n:Nat) (W:al) (j:Nat) (f:Bool) (st:St) (hw:st[j]? =some (some ⟨f,ZV W⟩)) (h0:0<W.length) (hl:W.length<100000):
  Ok (λo=>∃j' s',o=(.val [.slice 1 (some (j',0)) W.length],s')/\aD st s'/\st.length<=j'/\s'[j']? =some (some ⟨false,ZV W⟩)) (run Bd (n+1) 263 [.slice 1 (some (j,0)) W.length] st):=by
 rw[Ze,h.ac5];unfold Om ck bD;simp only[bc,aq];rw[show(some (j,0):ai).isNone=false from rfl,af,Zy];have cG:(st++[some (⟨false,[]⟩:bT)])[j]? =some (some ⟨f,ZV W⟩):=(aD.new _ _).get hw;have dG:Sl (st++[some (⟨false,[]⟩:bT)]) (some (j,0)) (ZV W):=⟨f,ZV W,cG,by omega,by rw[dj,rq]⟩;have pU:=iD (β:=ah) dG;rw[RM]at pU;rw[cP,pU];have gC:ba st (st++[some (⟨false,[]⟩:bT)]) (some (st.length,0)) []:=⟨aD.new _ _,.inr ⟨st.length,rfl,aL _,by simp⟩⟩;obtain⟨p,s',ho,he⟩:=gC.app (β:=ah) (sz:=1) (n:=0) (m:=W.length) (lim:=8796093022208) (ds:=ZV W) (by omega) rfl h0 (by omega);rw[he,Zd,ej];rw[gU]at ho;rcases ho.2 with⟨_,e⟩|⟨i,rfl,h1,h2⟩
 .have:=congrArg List.length e
  rw[RM]at this;simp only[yi]at this;omega
 .exact .mk ⟨i,s',rfl,ho.1,h1,h2⟩
theorem ZqH (n:Nat) {m:Nat} (st:St) (hs:gm st f i j m W) (hm:0<m):
  Ok (λo=>∃i' j' s',o=(.val [.ptr (some (i',0))],s')/\aD st s'/\st.length<=i'/\st.length<=j'/\i'≠j'/\gm s' false i' j' m W) (run Bd (n+2) 241 [.ptr (some (i,0))] st):=by
 rw[Ze,h.acL];unfold OP jn Zm ck bD tS Lp;simp only[gj,aq,aX];have hlen:=hs.len;have hle:=hs.le;rw[Zo hs.hd rfl];simp only[aY];rw[Zo hs.hd rfl];simp only[lG];refine Ok.mn (Zo5 n W j f st hs.wd (by omega) (by omega)) ?_;rintro _ ⟨j',s1,rfl,aG,hj,hw⟩;refine⟨_,s1,rfl,aG,?_⟩;simp only[bc,aq];rw[Zy,Zd];have tC:=(dB.1 hw).1;exact .mk ⟨s1.length,j',_,rfl,aG.trans (aD.new _ _),aG.len,hj,by omega,⟨by simp,(aD.new _ _).get hw,hs.len,hs.lt,hs.le⟩⟩
theorem Zr1 (hz:Oi Bd) (n:Nat) {m:Nat} (st:St) (ht:wM st) (hs:gm st f i j m W) (jN:gm st g i2 j2 m2 V) (hm:0<m) (hn:4000<=n):
  Ok (λo=>∃i' j' s',o=(.val [.ptr (some (i',0))],s')/\aD st s'/\gm s' false i' j' m ((dJ V).foldl (bX m) W)) (run Bd n 201 [.ptr (some (i,0)),.ptr (some (i2,0))] st):=by
 obtain⟨n,rfl⟩: ∃k,n=k+3:=⟨n-3,by omega⟩;rw[Ze,h.ab5];unfold Ph jn BS mc C_ Lp;simp only[gj,aq];refine Ok.call (ZqH n st hs hm) ?_;rintro _ ⟨i',j',s1,rfl,aG,Ft,Bc,pQ,Nd⟩;refine⟨_,s1,rfl,?_⟩;simp only[gj,aq];refine Ok.call (Zk4 hz (n+2) s1 (ht.mono aG) (jN.pre aG)) ?_;rintro _ ⟨p,s2,rfl,aZ,dG,gR⟩;refine⟨_,s2,rfl,?_⟩;simp only[bc,aq];have xL:=Nd.pre aZ;have tC:j'<s1.length:=(dB.1 Nd.wd).1;have gZ:=PF V V.length;rw[rq]at gZ;have hV:=jN.len;have hV2:=jN.le;rw[Zk (Ki (n+2) (dJ V) p s2 xL pQ dG (lI.aM λb hb kJ=>by
  have:=gR b hb;rw[cj.1 kJ]at this;omega))]
 simp only[aq,Zd];exact .mk ⟨i',j',_,rfl,wV (aG.trans aZ) Bc _,xL.add pQ _ (by rw[(pF m _ _).1]) ((pF m _ _).2 xL.lt)⟩
def vG (img:aj) (m:Nat) (W:al):ak->Option (List ZN)
 |[]=>some []
 |k::r=>match wX (ZB img k.toNat)with
  |none=>none
  |some c=>bif fR m k&&dM W k.toNat then none else(vG img m W r).map (c:: ·)
def Ai (img:aj) (x:eC) (W:al):Bool:=match vG img x.blocks.toNat W x.aO with
 |none=>false
 |some cs=>match AL x.blocks.toNat cs with
  |none=>false
  |some F=>decide (F=(dJ (kM x.blocks.toNat x.aO)).foldl (bX x.blocks.toNat) W)
def Ce (img:aj) (x:eC) (rm:Option (Nat×al)):Bool:=match oW (mH img x)with
 |some (some v)=>(match rm with
  |none=>false
  |some (m,R)=>(decide (x.blocks.toNat=m)&&decide (v.W=R))&&Ai img x v.W)
 |_=>false
def ZtE (s:St) (rm:Option (Nat×al)) (p:ai):Prop:=match rm with
 |none=>p=none
 |some (m,R)=>∃f i j,p=some (i,0)/\gm s f i j m R
theorem Zv7 {img:aj} {x:eC} {v:bj} (h:oW (mH img x)=some (some v)):Z6 x=true/\x.blocks<=((img.length/64:Nat):Int):=by
 unfold oW at h;cases h1:Z6 x with
 |false=>
  have:(mH img x).sup=x:=rfl;rw[this,h1]at h;cases h
 |true=>
  refine⟨rfl,?_⟩;cases h2:decide (x.blocks<=((img.length/64:Nat):Int))with
  |true=>exact iR h2
  |false=>
   have e1:(mH img x).sup=x:=rfl;have e2:(mH img x).img=img:=rfl;rw[e1,e2,h1,h2]at h;cases h
theorem ZiP (n:Nat) (a:ai) (img:aj) (x:eC) (pc:ai) (rm:Option (Nat×al)) (pr:ai) (s:St) (ht:wM s) (ha:dz s a img) (hc:Sl s pc (ints x.aO)) (hr:ZtE s rm pr) (hl:img.length<1000000) (cL:x.aO.length<1000) (hn:6000<=n:=by omega):
  Ok (λo=>∃s',o=(.val [.bool (Ce img x rm)],s')/\aD s s') (run Bd n 173 [.slice 1 a img.length,.agg (dS x pc),.ptr pr] s):=by
 obtain⟨n,rfl⟩: ∃k,n=k+3:=⟨n-3,by omega⟩;obtain⟨R,hR⟩: ∃R,Ce img x rm=R:=⟨_,rfl⟩;rw[hR];unfold Ce at hR;rw[Ze,h.abI];unfold PY yr jn D5 az iy BS bd cA Zn mc zY Lb tS eW bD nx j1;simp only[bc];rw[dt (dS x pc) [.ptr pr]];unfold dS;simp only[av,bc,gj,aq];have Bq:([.int .i64 x.seq,.int .i64 x.blocks,.int .i64 x.cO,.int .i64 x.g,.int .i64 x.cc,.int .i64 x.used,.int .i64 x.free,.int .i64 x.dir,.slice 1 pc x.aO.length]:ah)=dS x pc:=rfl;rw[Bq];have kK: ∀t,aD s t->R=false->Ok (λo=>∃s',o=(.val [.bool R],s')/\aD s s') ((ay [.bool false]:M ah) t):=λt k e=>by
  rw[e,Zd];exact .mk ⟨t,rfl,k⟩
 refine Ok.call (PA (n+2) a img x pc s ha hc hl cL) ?_;intro o ho;cases hw:oW (mH img x)with
 |none=>
  rw[hw]at ho hR;obtain⟨s1,rfl,aG⟩:=ho;refine⟨_,s1,rfl,?_⟩;rw[dt];unfold dK;simp only[av,Zg 2 0 none _ (.inr rfl),Zg 1 0 none _ (.inr rfl),gj,aq];rw[Za,show(!((2:Int)==0))=true from rfl,ae];simp only[au,aq];rw[Za,ae];simp only[au,aq];rw[ae];exact kK s1 aG hR.symm
 |some q=>
 cases q with
 |none=>
  rw[hw]at ho hR;obtain⟨s1,rfl,aG⟩:=ho;refine⟨_,s1,rfl,?_⟩;rw[dt];unfold dK;simp only[av,Zg 2 0 none _ (.inr rfl),Zg 1 0 none _ (.inr rfl),gj,aq];rw[Za,show(!((31:Int)==0))=true from rfl,ae];simp only[au,aq];rw[Za,ae];simp only[au,aq];rw[ae];exact kK s1 aG hR.symm
 |some v=>
 rw[hw]at ho hR;obtain⟨s1,z2,q2,z3,q3,z4,q4,i,j,rfl,aG,gD,kL,IZ,_,db,_,_⟩:=ho;refine⟨_,s1,rfl,?_⟩;simp only at hR;obtain⟨mY,ad8⟩:=Zv7 hw;obtain⟨uK,_⟩:=ZlW mY;obtain⟨g1,g2,_⟩:=Z3 uK;have afF:=(zZ x).1 mY;obtain⟨m,hm⟩: ∃m:Nat,x.blocks=m:=⟨x.blocks.toNat,by omega⟩;have hmn:x.blocks.toNat=m:=by omega
 rw[hmn]at db hR;rw[dt];unfold dK;simp only[av,Zg 2 z2 q2 _ gD,Zg 1 z3 q3 _ kL,Zg 1 z4 q4 _ IZ,gj,aq];rw[Za,show(!((0:Int)==0))=false from rfl,af];simp only[au,aq];rw[Za];cases rm with
 |none=>
  have hpr:pr=none:=hr;subst hpr;rw[show(none:ai).isNone=true from rfl,ae];simp only[au,aq];rw[ae];exact kK s1 aG hR.symm
 |some mr=>
 obtain⟨mr,Rr⟩:=mr;obtain⟨fr,ir,jr,rfl,De⟩:=hr;rw[show(some (ir,0):ai).isNone=false from rfl,af];refine Ok.call (Zli (n+2) s1 db (De.pre aG)) ?_;rintro _ rfl;refine⟨_,s1,rfl,?_⟩;simp only[au,aq];simp only at hR;cases IN:(decide (m=mr)&&decide (v.W=Rr))with
 |false=>
  rw[IN,eG]at hR;rw[bp,ae];exact kK s1 aG hR.symm
 |true=>
 rw[IN,de]at hR;rw[bm,af];unfold Ai at hR;rw[hmn]at hR;refine Ok.join λaS Be=>?_
 obtain⟨G,hG⟩: ∃G,vG img m v.W x.aO=G:=⟨_,rfl⟩;rw[hG]at hR;refine Zj _ (λq y t=>∃(k z:Nat) (c:ai) (acc:List ZN),y=[.slice z c acc.length,.int .i64 (k:Int)]/\(z=49\/c=none)/\k<=x.aO.length/\x.aO.length-k<=q/\ba s1 t c (rO acc)/\acc.length=k/\(∀y∈acc,y.dH.length=48/\y.no<8)/\(vG img m v.W (x.aO.drop k)).map (acc++ ·)=G) ?_ x.aO.length (n+2) _ _ ⟨0,0,none,[],rfl,.inr rfl,cn _,by omega,ba.nil (.refl _),rfl,(λ_ h=>by cases h),by rw[dj,hG];cases G<;>rfl⟩ (by omega);rintro q _ t ⟨k,z,c,acc,rfl,hz,hk,hq,ho,vJ,UL,aN⟩ rec aP;have jj:=ho.1;have ca:=aG.trans jj;simp only[av,Zg 49 z c _ hz,aq];have hct:=hc.mono ca;have hat:=ha.mono ca;by_cases ax:k<x.aO.length
 .obtain⟨bi,bo,rfl⟩:=hc.cD (by simp[ints];omega)
  have cZ:(ints x.aO)[k]? =some (.int .i64 x.aO[k]):=ZA ax;have fH:x.aO.drop k=x.aO[k]::x.aO.drop (k+1):=iI ax;have oI:=(afF.ch k ax).1;rw[dX,bU ax,SC,hm]at oI;have aeb:2<=x.aO[k]/\x.aO[k]<(m:Int):=oI;rw[fH]at aN;rw[aw (show(k:Int)<(x.aO.length:Int) by omega),ae,aX,Zb (Zi ax)];simp only[bu];rw[hct.dL cZ];simp only[aY];generalize x.aO[k]=y at aeb aN;obtain⟨yn,hyn⟩: ∃yn:Nat,y=yn:=⟨y.toNat,by omega⟩;subst hyn;unfold vG at aN;rw[bu]at aN;rw[Zk (ZlL (n+1) a img.length yn t hl)];simp only[bc,aq];have C4:(ZB img yn).length=64:=by unfold ZB;rw[cz,dT];omega
  have Vo:dz t (cU true a (yn*64)) (ZB img yn):=(hat.cU (k:=yn*64) (by omega)).lY 64;have hcg:=Zsm (n+2) (cU true a (yn*64)) (ZB img yn) t Vo (by omega) (by omega);rw[C4]at hcg;refine Ok.call hcg ?_;rintro _ ⟨t1,aZ,c8⟩;have cG:ar ((k:Int)+1)=((k+1:Nat):Int):=Zc;cases hgc:wX (ZB img yn)with
  |none=>
   rw[hgc]at c8 aN;simp only at c8 aN;subst c8;refine⟨_,t1,rfl,?_⟩;have aeZ:(bK LW.dH).length=48:=rfl;rw[dt (ZS LW) _];unfold ZS;simp only[av];rw[bF aeZ];simp only[au,aq];rw[bF (n:=49) rfl,Za,bp,ae];simp only[au,aq];rw[ae];have Ux:G=none:=aN.symm;rw[Ux]at hR;exact kK t1 (ca.trans aZ) hR.symm
  |some cv=>
   rw[hgc]at c8 aN;simp only at c8 aN;obtain⟨rfl,uF,h8⟩:=c8;refine⟨_,t1,rfl,?_⟩;have iM:(bK cv.dH).length=48:=by rw[Zq,uF]
   rw[dt (ZS cv) _];have hcc:ZS cv= .int .i64 cv.no::bK cv.dH:=rfl;rw[hcc];simp only[av];rw[bF iM];simp only[au,aq];rw[bF (n:=49) (by simp[iM]),Za,bm,af];rw[Zk (Zmz n ((yn:Nat):Int) t1 (db.pre (jj.trans aZ)))];simp only[au,aq];rw[bu];cases fO:(fR m ((yn:Nat):Int)&&dM v.W yn)with
   |true=>
    rw[fO,ae]at aN;rw[ae];have Ux:G=none:=aN.symm;rw[Ux]at hR;exact kK t1 (ca.trans aZ) hR.symm
   |false=>
    rw[fO,af]at aN;rw[af,bF (n:=49) (by simp[iM]),<-hcc,cG];obtain⟨p3,t3,kd,qM,he⟩:=(ho.mono aZ).BD (β:=ah) (sz:=49) (n:=acc.length) (lim:=1256584717458) (ZS cv) (by omega) (Q5 λy hy=>(UL y hy).1) (Kv uF) (by omega);refine Eq.mpr (congrArg (Ok _) (he _)) ?_;refine aP (x.aO.length-(k+1)) _ _ (by omega) ⟨k+1,49,p3,acc++[cv],?_,.inl rfl,by omega,aL _,?_,?_,λy hy=>?_,?_⟩
    .rw[bz];rfl
    .rw[Zs8]
     have:rO [cv]=ZS cv:=by unfold rO;simp
     rw[this];exact kd
    .rw[bz,vJ];rfl
    .rcases fE.1 hy with hy|hy
     .exact UL y hy
     .rw[cj.1 hy];exact⟨uF,h8⟩
    .rw[<-aN,Option.map_map]
     congr 1;funext l;simp
 .rw[aB (show ¬(k:Int)<(x.aO.length:Int) by omega),af,Be]
  rw[kz (by omega)]at aN;have hGs:G=some acc:=by rw[<-aN];simp[vG]
  rw[hGs]at hR;simp only at hR;simp only[bc,aq];rw[hm];refine Ok.call (Zq1 (n+2) m acc c 49 t (by omega) (.inl rfl) ho.sl UL (by omega) (by omega)) ?_;rintro _ ⟨t1,aZ,c8⟩;cases ew:AL m acc with
  |none=>
   rw[ew]at c8 hR;simp only at c8 hR;subst c8;refine⟨_,t1,rfl,?_⟩;simp only[gj,au,aq];rw[Za,af];simp only[au,aq,Zd];exact .mk ⟨t1,by rw[hR],ca.trans aZ⟩
  |some F=>
   rw[ew]at c8 hR;simp only at c8 hR;obtain⟨iF,jF,rfl,hsF⟩:=c8;refine⟨_,t1,rfl,?_⟩;simp only[gj,au,aq];rw[Za,ae];obtain⟨t2,e2,cq,Bi,vV⟩:=Ru (n+2) m x.aO pc t1 (by omega) (hct.mono aZ) (by omega) (by omega);rw[Zk e2];simp only[gj,aq];have xL:=db.pre ((jj.trans aZ).trans cq);refine Ok.call (Zr1 (aaw) (n+2) t2 (ht.mono ((ca.trans aZ).trans cq)) xL vV (by omega) (by omega)) ?_;rintro _ ⟨iW,jW,t3,rfl,fC,hsW⟩;refine⟨_,t3,rfl,?_⟩;simp only[gj,aq];refine Ok.call (Zli (n+2) t3 (hsF.pre (cq.trans fC)) hsW) ?_;rintro _ rfl;refine⟨_,t3,rfl,?_⟩;simp only[au,aq,Zd];refine .mk ⟨t3,?_,((ca.trans aZ).trans cq).trans fC⟩;simp only[decide_true,de];rw[hR]
def qE:eO:=⟨16,2,3,[⟨[97],[⟨0,2,5,6⟩]⟩],[2],[]⟩
def We (x:eO):Bool:=match x with
 |⟨b,s,g,[⟨nm,[⟨a1,a2,a3,a4⟩]⟩],gs,fr⟩=>decide (b=16)&&(decide (s=2)&&(decide (g=3)&&(decide (nm=[97])&&(decide (a1=0)&&(decide (a2=2)&&(decide (a3=5)&&(decide (a4=6)&&(decide (gs=[2])&&decide (fr=[])))))))))
 |_=>false
theorem Zyi {x:eO} (h:We x=true):x=qE:=by
 unfold We at h;split at h
 .simp only[aR,bq]at h
  obtain⟨h1,h2,h3,h4,h5,h6,h7,h8,h9,E8⟩:=h;subst h1 h2 h3 h4 h5 h6 h7 h8 h9 E8;rfl
 .cases h
theorem ZxB:tV qE where
 HQ:=by decide
 cO:=by decide
 EX:=by decide
 right:=λh hh=>by
  rw[cj.1 hh];refine⟨by decide+kernel,λi a b h1 h2=>?_⟩;cases i with
  |zero=>cases h2
  |succ i=>simp at h1
 order:=λi a b h1 h2=>by
  cases i with
  |zero=>cases h2
  |succ i=>simp[qE]at h1
 nodup:=by decide
 range:=by decide
 gen:=λe he=>by
  have:e=⟨0,2,5,6⟩:=by simpa [Zv,qE]using he
  subst this;decide
 low:=λk hk=>nomatch hk
 aH:=by decide
 rest:=λi hi hn=>by
  have:i=0:=by
   have:qE.aH.length=1:=rfl;omega
  subst this;exact absurd (by decide) hn
def ZvH:Bool:=match yE qE 1 0 with
 |none=>false
 |some (B,s)=>match oW (mH B s)with
  |some (some v)=>We (wy s v)&&(LS v.W==8&&(Ai B s v.W&&(decide (B.length=1024)&&decide (s.aO.length=1))))
  |_=>false
theorem Zs5:ZvH=true:=by decide+kernel
theorem ZjU (n:Nat) (st:St):
  Ok (λo=>∃p1 p2 s',o=(.val [.agg (dK qE 2 p1 1 p2 0 none)],s')/\aD st s'/\zR s' qE p1 p2 none) (run Bd (n+1) 188 [] st):=by
 rw[Ze,h.abR];unfold PQ zO Li;simp only[aq];rw[Z5,Zy,Zy,Zy,Zs];have l1: ∀c,(st++[some (c:bT)]).length=st.length+1:=λc=>by simp
 have l2: ∀c d,((st++[some (c:bT)])++[some (d:bT)]).length=st.length+2:=λc d=>by simp
 simp only[l1,l2];obtain⟨S,hS⟩: ∃S,((st++[some (⟨false,[.int .i64 0,.int .i64 2,.int .i64 5,.int .i64 6]⟩:bT)])++[some (⟨false,[.str (bs [97]),.slice 4 (some (st.length,0)) 1]⟩:bT)])++[some (⟨false,[.int .i64 2]⟩:bT)]=S:=⟨_,rfl⟩;have hp:aD st S:=by rw[<-hS];exact((aD.new _ _).trans (aD.new _ _)).trans (aD.new _ _)
 have h0:ba st S (some (st.length,0)) [.int .i64 0,.int .i64 2,.int .i64 5,.int .i64 6]:=⟨hp,.inr ⟨_,rfl,aL _,by rw[<-hS];simp⟩⟩;have h1:ba st S (some (st.length+1,0)) [.str (bs [97]),.slice 4 (some (st.length,0)) 1]:=⟨hp,.inr ⟨_,rfl,by omega,by rw[<-hS];simp⟩⟩;have h2:ba st S (some (st.length+2,0)) [.int .i64 2]:=⟨hp,.inr ⟨_,rfl,by omega,by rw[<-hS];simp⟩⟩;rw[hS];refine .mk ⟨some (st.length+1,0),some (st.length+2,0),_,rfl,Zu hp,⟨⟨_,h1.fz,4,some (st.length,0),[],.inl rfl,rfl,h0.fz,rfl⟩,h2.fz,?_⟩⟩;exact Fz.nil _
theorem ZvC:BZ qE:=⟨⟨by decide,by decide,by decide⟩,by decide,by decide,by decide⟩
theorem Zsx: ∃B s v,yE qE 1 0=some (B,s)/\oW (mH B s)=some (some v)/\wy s v=qE/\LS v.W=8/\Ai B s v.W=true/\B.length=1024/\s.aO.length=1:=by
 have h:=Zs5;unfold ZvH at h;cases hb:yE qE 1 0 with
 |none=>rw[hb]at h;cases h
 |some q=>
  obtain⟨B,s⟩:=q;rw[hb]at h;simp only at h;cases hw:oW (mH B s)with
  |none=>rw[hw]at h;cases h
  |some w=>
   rw[hw]at h;cases w with
   |none=>cases h
   |some v=>
    simp only[aR,kU,bq]at h;exact⟨B,s,v,rfl,hw,Zyi h.1,h.2.1,h.2.2.1,h.2.2.2.1,h.2.2.2.2⟩
theorem ZjN (n:Nat) (hn:70000<=n) (st:St) (ht:wM st):Ok (λo=>∃s',o=(.val [.bool true],s')/\aD st s') (run Bd n 169 [] st):=by
 obtain⟨n,rfl⟩: ∃m,n=m+2:=⟨n-2,by omega⟩;obtain⟨B,s,v,hB,hW,ca,XZ,tx,Fa,dG⟩:=Zsx;rw[Ze,h.abE];unfold Qn ZF J8 D5 az bd cQ zY Lb Lp;simp only[aq];refine Ok.call (ZjU n st) ?_;rintro _ ⟨p1,p2,s1,rfl,aG,hF⟩;refine⟨_,s1,rfl,?_⟩;rw[dt];unfold dK;simp only[av,bc,Zg 1 0 none _ (.inr rfl),aq];refine Ok.call (Zj0 (n+1) qE 2 1 1 p1 p2 none 1 0 s1 (.inl rfl) (.inl rfl) (.inl rfl) hF ZvC) ?_;rintro _ ⟨s2,aZ,hq⟩;rcases hq with⟨B',s',ib,q,_,hb,rfl,pM⟩|⟨cx,_⟩
 rotate_left
 .rw[cx ZxB]at hB;cases hB
 rw[hB]at hb;cases hb;refine⟨_,s2,rfl,?_⟩;simp only[bc];rw[dt (dS s q) _];unfold dS;simp only[av,bc,au,aq];have Bq:([.int .i64 s.seq,.int .i64 s.blocks,.int .i64 s.cO,.int .i64 s.g,.int .i64 s.cc,.int .i64 s.used,.int .i64 s.free,.int .i64 s.dir,.slice 1 q s.aO.length]:ah)=dS s q:=rfl;simp only[Bq];have Mz:dz s2 (some (ib,0)) B:=⟨false,bK B,pM.dH,by omega,by rw[dj,rq]⟩;have Bn:=pM.own.sl;refine Ok.call (PA (n+1) (some (ib,0)) B s q s2 Mz Bn (by omega) (by omega)) ?_;intro o ho;rw[hW]at ho;obtain⟨s3,z2,q2,z3,q3,z4,q4,i,j,rfl,cq,gD,kL,IZ,hR,db,_,_⟩:=ho;refine⟨_,s3,rfl,?_⟩;rw[ca]at hR⊢;rw[dt];unfold dK;simp only[av,Zg 2 z2 q2 _ gD,Zg 1 z3 q3 _ kL,Zg 1 z4 q4 _ IZ,gj,aq];rw[Za,ae,show((0:Int)==0)=true from rfl];simp only[au,aq];rw[Za,ae,show(!(some (i,0):ai).isNone)=true from rfl];simp only[au,aq];rw[Za,ae];refine Ok.call (Zqn (n+1) s3 db (by omega)) ?_;rintro _ rfl;refine⟨_,s3,rfl,?_⟩;simp only[av,au,aq];rw[XZ,show((8:Int)==8)=true from rfl,Za,ae];refine Ok.xj (ZjU n s3) ?_;rintro _ ⟨p1',p2',s4,rfl,fC,hF'⟩;refine⟨_,s4,rfl,?_⟩;rw[dt];unfold dK;simp only[av,bc,Zg 1 0 none _ (.inr rfl),aq];refine Ok.call (Zsh (n+1) qE qE 2 1 1 q2 q3 q4 2 1 1 p1' p2' none s4 (.inl rfl) (.inl rfl) (.inl rfl) (.inl rfl) (.inl rfl) (.inl rfl) (hR.pre fC) hF'.str ZvC (by omega)) ?_;rintro _ ⟨b,rfl,hb⟩;refine⟨_,s4,rfl,?_⟩;have:b=true:=hb.2 rfl;subst this;simp only[au,aq];rw[Za,ae];have VG:=((aG.trans aZ).trans cq).trans fC;refine Ok.call (ZiP (n+1) (some (ib,0)) B s q (some (s.blocks.toNat,v.W)) (some (i,0)) s4 (ht.mono VG) (Mz.mono (cq.trans fC)) (Bn.mono (cq.trans fC)) ⟨false,i,j,rfl,db.pre fC⟩ (by omega) (by omega)) ?_;rintro _ ⟨s5,rfl,ji⟩;refine⟨_,s5,rfl,?_⟩;have uH:Ce B s (some (s.blocks.toNat,v.W))=true:=by
  unfold Ce;rw[hW];simp only[decide_true,de];exact tx
 rw[uH];simp only[au,aq,Zd];exact .mk ⟨s5,rfl,VG.trans ji⟩
end Go.Gv.F
