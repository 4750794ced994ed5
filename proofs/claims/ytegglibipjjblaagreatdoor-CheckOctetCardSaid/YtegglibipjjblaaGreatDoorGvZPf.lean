/- States: in memory; which ones may be; small functions over them. -/
import Derived.Test.YtegglibipjjblaaGreatDoorGvZPe
set_option linter.all false
namespace Go.Gv.F
open Go.Gv
structure aP where
 slot:Int
 gen:Int
 key:Int
 value:Int
structure dw where
 name:aj
 bz:List aP
structure dW where
 blocks:Int
 cW:Int
 g:Int
 aD:List dw
 gens:ak
 free:ak
def fJ (e:aP):ah:=[.i e.slot,.i e.gen,.i e.key,.i e.value]
def bW (l:List aP):ah:=(l.map fJ).flatten
theorem Zt (l:List aP):(bW l).length=l.length*4:=by
 unfold bW;induction l with
 |nil=>rfl
 |cons e l ih=>rw[kf,vH,ba,ih,cQ];show 4+_=_;omega
theorem Gf: ∀ {l:List aP} {j:Nat} {e:aP},l[j]? =some e->((bW l).drop (j*4)).take 4=fJ e
 |[],j,e,h=>by simp at h
 |x::l,0,e,h=>by
  simp only[ly,gf]at h;subst h;rw[rU,dF];rfl
 |x::l,j+1,e,h=>by
  have e2:bW (x::l)=fJ x++bW l:=rfl;rw[e2,show(j+1)*4=(fJ x).length+j*4 by show _=4+_;omega,<-kd,uD];exact Gf (by simpa using h)
theorem Aq (l m:List aP):bW (l++m)=bW l++bW m:=by
 simp[bW]
def mS (h:dw) (z:Nat) (p:ai):ah:=[.str h.name,.slice z p h.bz.length]
def kQ (s:St):ah->List dw->Prop
 |ds,[]=>ds=[]
 |ds,x::r=>∃z p t,(z=4\/p=none)/\ds=mS x z p++t/\Sl s p (bW x.bz)/\kQ s t r
theorem yw (x:dw) (z:Nat) (p:ai):(mS x z p).length=2:=rfl
theorem Z5 {Y:Type} (sz z:Nat) (a:ai) (n:Nat) (h:z=sz\/a=none) (K:ai->Nat->M Y):dB sz (.slice z a n) K=K a n:=by
 rcases h with rfl|rfl
 .exact kP _ _ _ _
 simp
theorem kQ.len {s:St} : ∀ {ds:ah} {xs:List dw},kQ s ds xs->ds.length=xs.length*2
 |ds,[],h=>by rw[show ds=[]from h];rfl
 |ds,x::r,⟨z,p,t,_,h1,_,h3⟩=>by rw[h1,ba,h3.len,yw,cQ];omega
theorem kQ.mono {s s':St} (k:aB s s'): ∀ {ds:ah} {xs:List dw},kQ s ds xs->kQ s' ds xs
 |_,[],h=>h
 |_,_::_,⟨z,p,t,hz,h1,h2,h3⟩=>⟨z,p,t,hz,h1,h2.mono k,h3.mono k⟩
theorem kQ.get {s:St} : ∀ {ds:ah} {xs:List dw},kQ s ds xs->∀ {j:Nat} {x:dw},xs[j]? =some x->∃z p,(z=4\/p=none)/\(ds.drop (j*2)).take 2=mS x z p/\ds[j*2]? =some (.str x.name)/\ds[j*2+1]? =some (.slice z p x.bz.length)/\Sl s p (bW x.bz)
 |_,[],_,j,x,e=>by simp at e
 |ds,y::r,⟨zq,q,t,Le,h1,h2,h3⟩,0,x,e=>by
  simp only[ly,gf]at e;subst e;subst h1;exact⟨zq,q,Le,rfl,rfl,rfl,h2⟩
 |ds,y::r,⟨zq,q,t,Le,h1,h2,h3⟩,j+1,x,e=>by
  have⟨z,p,hz,g1,g2,g3,g4⟩:=h3.get (j:=j) (x:=x) (by simpa using e);refine⟨z,p,hz,?_,?_,?_,g4⟩
  .rw[h1,show(j+1)*2=(mS y zq q).length+j*2 by rw[yw];omega,<-kd,uD]
   exact g1
  .rw[h1,kO (by rw[yw];omega),yw,show(j+1)*2-2=j*2 by omega]
   exact g2
  .rw[h1,kO (by rw[yw];omega),yw,show(j+1)*2+1-2=j*2+1 by omega]
   exact g3
def fa (x:dW) (z1:Nat) (p1:ai) (z2:Nat) (p2:ai) (z3:Nat) (p3:ai):ah:=
 [.i x.blocks,.i x.cW,.i x.g,.slice z1 p1 x.aD.length,.slice z2 p2 x.gens.length,.slice z3 p3 x.free.length]
structure qh (s:St) (x:dW) (p1 p2 p3:Option (Nat×Nat)):Prop where
 hp: ∃ds,Sl s p1 ds/\kQ s ds x.aD
 gn:Sl s p2 (ints x.gens)
 fr:Sl s p3 (ints x.free)
variable {k:Int} {i j n o:Nat} {s s':St} {ds:ah} {D m:ak}
theorem qh.pre {x:dW} {p1 p2 p3:ai} (h:qh s x p1 p2 p3) (k:aB s s'):qh s' x p1 p2 p3:=
 let ⟨ds,h1,h2⟩:=h.hp
 ⟨⟨ds,h1.mono k,h2.mono k⟩,h.gn.mono k,h.fr.mono k⟩
def qA (b s g:Int):Bool:=decide (b>=16)&&(decide (b<=3072)&&(decide (s>=1)&&(decide (s<=1792)&&(decide (g>=1)&&decide (g<=4294967295)))))
def eX (a b:aP):Bool:=if a.key≠b.key then decide (a.key<b.key)else if a.slot≠b.slot then decide (a.slot<b.slot)else decide (a.gen<b.gen)
def B0 (l:List aP):Prop:=∀i a b,l[i]? =some a->l[i+1]? =some b->eX a b=true
def Ji (l:List dw):Prop:=∀i a b,l[i]? =some a->l[i+1]? =some b->cmpL (dK a.name) (dK b.name)<0
def Zp (x:dW):List aP:=(x.aD.map (·.bz)).flatten
def ix (x:dW) (k:Int):Int:=x.gens.getD k.toNat 0
structure lY (x:dW):Prop where
 Cz:qA x.blocks x.cW x.g=true
 cW:(x.gens.length:Int)<=x.cW
 En:x.aD.length<=16
 right: ∀h∈x.aD,pH h.name=true/\B0 h.bz
 order:Ji x.aD
 nodup:((Zp x).map (·.slot)++x.free).Nodup
 range: ∀k∈(Zp x).map (·.slot)++x.free,0<=k/\k<(x.gens.length:Int)
 gen: ∀e∈Zp x,ix x e.slot=e.gen
 low: ∀k∈x.free,ix x k<x.g
 gens: ∀v∈x.gens,1<=v/\v<=x.g
 rest: ∀i,i<x.gens.length->((i:Int)∉(Zp x).map (·.slot)++x.free)->x.g<=ix x i
theorem ZpF (b s g:Int) (st:St) (X:Zf->Nat->ah->M ah) (hX: ∀c n,X c n [.agg [.i b,.i s,.i g]] st=Iy c n [.agg [.i b,.i s,.i g]] st) (c:Zf) (n:Nat):
  X c n [.agg [.i b,.i s,.i g]] st=some (.val [.bool (qA b s g)],st):=by
 rw[hX];unfold Iy D1 az Lb qA;simp only[cX,au,ao];cases decide (b>=16)with
 |false=>simp only[Za,af,ar,ao];rfl
 |true=>
 cases decide (b<=3072)with
 |false=>simp only[Za,af,ae,ar,ao];rfl
 |true=>
 cases decide (s>=1)with
 |false=>simp only[Za,af,ae,ar,ao];rfl
 |true=>
 cases decide (s<=1792)with
 |false=>simp only[Za,af,ae,ar,ao];rfl
 |true=>
 cases decide (g>=1)
 .simp only[Za,af,ae,ar,ao];rfl
 .simp only[Za,ae,ar,ao];rfl
variable {Bd:Zg} [h:HA Bd]
theorem ZlH (n:Nat) (b s g:Int) (st:St):run Bd (n+1) 145 [.agg [.i b,.i s,.i g]] st=some (.val [.bool (qA b s g)],st):=by
 rw[Ze,h.afU];exact ZpF b s g st Iy (λ_ _=>rfl) _ _
theorem Zkt (n:Nat) (b s g:Int) (st:St):run Bd (n+1) 141 [.agg [.i b,.i s,.i g]] st=some (.val [.bool (qA b s g)],st):=by
 rw[Ze,h.afQ];exact ZpF b s g st SS (λ_ _=>rfl) _ _
theorem Se (n:Nat) (a b:aP) (st:St):run Bd (n+1) 155 [.agg (fJ a),.agg (fJ b)] st=some (.val [.bool (eX a b)],st):=by
 rw[Ze,h.afW];unfold SF MF Lb fJ eX;simp only[cX,au,ao];by_cases h1:a.key=b.key
 .have e1:(a.key==b.key)=true:=by rw[h1];simp
  rw[e1,bI,af,aY (by simp[h1])];by_cases h2:a.slot=b.slot
  .have e2:(a.slot==b.slot)=true:=by rw[h2];simp
   rw[e2,bI,af,aY (by simp[h2])];rfl
  .have e2:(a.slot==b.slot)=false:=dM.2 h2
   rw[e2,bD,ae,bx h2];rfl
 .have e1:(a.key==b.key)=false:=dM.2 h1
  rw[e1,bD,ae,bx h1];rfl
def gY (x y:Int):Int:=if x<y then-1 else if x>y then 1 else 0
theorem Uq {Bd:Zg} (h:Ii Bd) (n:Nat) (x y:Int) (st:St):run Bd (n+2) 161 [.i x,.i y] st=some (.val [.i (gY x y)],st):=by
 have e: ∀z:Int,run Bd (n+1) 163 [.i z] st=some (.val [.bool false],st):=by
  intro z;rw[Ze,h.q1.eq];unfold Is cT Lb
  try dsimp only
  simp[au,ao,Ad,bI,Zd]
 rw[Ze,h.eq];unfold Ih jx bF Li gY;simp only[au,ao];rw[Zk (e x),ar,ao,Zk (e y),ar,ao,af];by_cases h1:x<y
 .rw[aR h1,bx h1];rfl
 .rw[aU h1,aY h1]
  by_cases h2:x>y
  .rw[aR h2,bx h2];rfl
  .rw[aU h2,aY h2];rfl
theorem acG {Bd:Zg} (h:FT Bd) (n:Nat) (hn:8<=n) (a b:aP) (st:St):
  Ok (λo=>∃z s',o=(.val [.i z],s')/\aB st s'/\decide (z>=0)= !eX a b) (run Bd n 159 [.agg (fJ a),.agg (fJ b)] st):=by
 obtain⟨n,rfl⟩: ∃m,n=m+3:=⟨n-3,AC⟩;rw[Ze,h.eq];unfold Ij MF nh cK gG Ag bj Li fJ;simp only[cX,au,ao];rw[xr (Uq h.q0 n a.key b.key st),au,ao,xr (Uq h.q0 n a.slot b.slot st),au,ao,Zk (Uq h.q0 n a.gen b.gen st),au,ao,ZD];have hp:=aB.new st (some ⟨false,[DV.int .i64 (gY a.key b.key),.i (gY a.slot b.slot),.i (gY a.gen b.gen)]⟩);have hs:Sl (st++[some ⟨false,[DV.int .i64 (gY a.key b.key),.i (gY a.slot b.slot),.i (gY a.gen b.gen)]⟩]) (some (st.length,0)) [DV.int .i64 (gY a.key b.key),.i (gY a.slot b.slot),.i (gY a.gen b.gen)]:=Om st _;generalize (st++[some ⟨false,[DV.int .i64 (gY a.key b.key),.i (gY a.slot b.slot),.i (gY a.gen b.gen)]⟩])=s1 at hp hs;have hor:run Bd (n+2) 162 [.slice 1 (some (st.length,0)) 3] s1=some (.val [.i (if gY a.key b.key≠0 then gY a.key b.key else if gY a.slot b.slot≠0 then gY a.slot b.slot else gY a.gen b.gen)],s1):=by
  rw[Ze,h.q2.eq];unfold Ix ck Q_ dj Zo Li
  try dsimp only
  obtain⟨n,rfl⟩: ∃m,n=m+5:=⟨n-5,AC⟩;rw[aZ,ao,Za];have step: ∀(m i:Nat) (z:Int) (R:Option (Out ah×St)),i<3->[DV.int .i64 (gY a.key b.key),.i (gY a.slot b.slot),.i (gY a.gen b.gen)][i]? =some (.i z)->
    (z≠0->R=some (.val [.i z],s1))->∀(F:(ah->M ah)->ah->M ah),True:=Do
  clear step;have ld: ∀(i:Nat) (d:DV) (K:DV->M ah),[DV.int .i64 (gY a.key b.key),.i (gY a.slot b.slot),.i (gY a.gen b.gen)][i]? =some d->bH st.length (i*1+0) K s1=K d s1:=λi d K hd=>hs.dX hd K
  rw[BW,au,ao,kT FS,bh,Zc FS,show(0:Int).toNat=0 from rfl,ld 0 _ _ rfl,bg];by_cases c1:gY a.key b.key=0
  .have e1:(gY a.key b.key==0)=true:=by rw[c1];rfl
   rw[e1,bI,af,aY (by simp[c1]),BW,au,ao,show aq ((0:Int)+1)=1 from Zb,kT FS,bh,Zc FS,show(1:Int).toNat=1 from rfl,ld 1 _ _ rfl,bg];by_cases c2:gY a.slot b.slot=0
   .have e2:(gY a.slot b.slot==0)=true:=by rw[c2];rfl
    rw[e2,bI,af,aY (by simp[c2]),BW,au,ao,show aq ((1:Int)+1)=2 from Zb,kT FS,bh,Zc FS,show(2:Int).toNat=2 from rfl,ld 2 _ _ rfl,bg];by_cases c3:gY a.gen b.gen=0
    .have e3:(gY a.gen b.gen==0)=true:=by rw[c3];rfl
     rw[e3,bI,af,BW,au,ao,show aq ((2:Int)+1)=3 from Zb,pL FS,c3];rfl
    .have e3:(gY a.gen b.gen==0)=false:=dM.2 c3
     rw[e3,bD,ae];rfl
   .have e2:(gY a.slot b.slot==0)=false:=dM.2 c2
    rw[e2,bD,ae,bx c2];rfl
  .have e1:(gY a.key b.key==0)=false:=dM.2 c1
   rw[e1,bD,ae,bx c1];rfl
 rw[Zk hor,au,ao,Zd];refine .mk ⟨_,s1,rfl,hp,?_⟩;grind[eX,gY]
theorem F6 (n z:Nat) (l:ak) (k:Int) (p:ai) (st:St) (hz:z=1\/p=none) (hs:Sl st p (ints l)) (hn:l.length+3<=n:=by omega) (hl:l.length<1000000:=by omega):
  Ok (λo=>o=(.val [.bool (decide (k∈l))],st)) (run Bd n 143 [.slice z p l.length,.i k] st):=by
 obtain _|n:=n;omega;rw[Ze,h.afS];unfold UF q9 Q_ dj Zo Lb Li
 try dsimp only
 rw[Zh 1 z p _ hz,au,ao,Za];refine Zj _ (λq x s=>∃i:Nat,x=[.i i]/\i<=l.length/\l.length-i<=q/\s=st/\k∉l.take i) ?_ l.length n _ _ Fd AC;rintro q _ s ⟨i,rfl,hi,hq,rfl,cC⟩ rec aN;simp only[au,ao];by_cases av:i<l.length
 .have e:decide ((i:Int)<(l.length:Int))=true:=aQ AC
  obtain⟨p1,o1,rfl⟩:=hs.cS (by simp[ints];omega);rw[e,ae,bh,Zc (Zi av),bn,hs.dX (d:= .i l[i]) (by simp[ints,av]),bg];by_cases hk:l[i]=k
  .have e2:(l[i]==k)=true:=by rw[hk];grind
   rw[e2,ae,Zd,aQ (by rw[<-hk];simp)];exact .mk rfl
  .have e2:(l[i]==k)=false:=dM.2 hk
   rw[e2,af,Zb];refine aN (l.length-(i+1)) _ _ AC ⟨i+1,rfl,AC,AC,rfl,?_⟩;rw[oq av];grind
 .have e:decide ((i:Int)<(l.length:Int))=false:=bP AC
  rw[e,af,Zd];rw[dG AC]at cC;rw[bP cC];exact .mk rfl
variable {Y:Type}
variable {xs:List dw}
theorem IZ {x:dw} (hs:Sl s (some (i,o)) ds) (hh:kQ s ds xs) (e:xs[j]? =some x) (K:DV->M Y):bH i (j*2+o) K s=K (.str x.name) s:=by
 have⟨_,p,_,_,g2,_,_⟩:=hh.get e;exact hs.get g2 K
theorem UN {x:dw} (hs:Sl s (some (i,o)) ds) (hh:kQ s ds xs) (e:xs[j]? =some x): ∃p,Sl s p (bW x.bz)/\∀K:ai->Nat->M Y,bH i (j*2+o+1) (λd=>dB 4 d K) s=K p x.bz.length s:=by
 have⟨z,p,hz,_,_,g3,g4⟩:=hh.get e;refine⟨p,g4,λK=>?_⟩;have e2:j*2+o+1=(j*2+1)+o:=AC
 rw[e2,hs.get g3,Z5 4 z p _ hz]
variable {l:List aP}
theorem V5 {k:Nat} {x:aP} (hs:Sl s (some (i,o)) (bW l)) (e:l[k]? =some x) (K:ah->M Y):bV i (k*4+o) 4 K s=K (fJ x) s:=by
 have hk:k<l.length:=Fd
 rw[hs.yU (k:=k*4) (n:=4) (by rw[Zt];omega) K,Gf e]
theorem Zw0 {k:Nat} {x:aP} (hs:Sl s (some (i,o)) (bW l)) (e:l[k]? =some x) (K:ah->M Y):bV i (k*4+o) 2 K s=K [.i x.slot,.i x.gen] s:=by
 have hk:k<l.length:=Fd
 rw[hs.yU (k:=k*4) (n:=2) (by rw[Zt];omega) K];have:=congrArg (List.take 2) (Gf e);rw[H2]at this;rw[show((bW l).drop (k*4)).take 2=[.i x.slot,.i x.gen]from this]
def N7 (l:List dw):Prop:=l.length<=16/\(∀h∈l,pH h.name=true/\B0 h.bz)/\Ji l
def GB (l:List dw) (i:Nat) (h:dw):Prop:=pH h.name=true/\∀g,0<i->l[i-1]? =some g->cmpL (dK g.name) (dK h.name)<0
theorem Zu2 (l:List dw) (hl:l.length<=16):N7 l↔ ∀i h,l[i]? =some h->GB l i h/\B0 h.bz:=by
 constructor
 .intro ⟨_,h1,h2⟩ i h e
  refine⟨⟨Fd,λg hi eg=>h2 (i-1) g h eg ?_⟩,Fd⟩;rw[show i-1+1=i by omega];exact e
 .intro h
  refine⟨hl,λx hx=>?_,λi a b ea eb=>?_⟩
  .obtain⟨i,hi,rfl⟩:=BE hx
   have:=h i _ (cc hi);exact⟨this.1.1,this.2⟩
  .exact(h (i+1) b eb).1.2 a AC (by rw[show i+1-1=i by omega];exact ea)
theorem Ztx (l:List aP):B0 l↔ ∀k a b,1<=k->l[k-1]? =some a->l[k]? =some b->eX a b=true:=by
 constructor
 .intro h k a b hk ha hb
  exact h (k-1) a b ha (by rw[show k-1+1=k by omega];exact hb)
 .intro h i a b ha hb
  grind
structure SzH (l:List dw):Prop where
 len:l.length<=50000
 bz: ∀h∈l,h.bz.length<=50000
 name: ∀h∈l,h.name.length<=50000
theorem Zqk (n z:Nat) (l:List dw) (p:ai) (ds:ah) (st:St) (hz:z=2\/p=none) (hs:Sl st p ds) (hh:kQ st ds l) (sz:SzH l) (hn:50100<=n):
  Ok (λo=>∃b s',o=(.val [.bool b],s')/\aB st s'/\(b=true↔N7 l)) (run Bd n 144 [.slice z p l.length] st):=by
 obtain _|n:=n;omega;rw[Ze,h.afT];unfold SG Q_ dj Aj bF az N_ xo cK Lb Li Ls BU
 try dsimp only
 rw[Zh 2 z p _ hz,ao];by_cases qB:l.length>16
 .rw[aR,Zd]
  exact .mk ⟨false,st,rfl,.refl _,by grind[N7]⟩
 rw[aU,Za];have qB:l.length<=16:=AC
 have fG:=Zu2 l qB;refine Zj _ (λq x s=>∃i:Nat,x=[.i i]/\i<=l.length/\l.length-i<=q/\aB st s/\∀j h,j<i->l[j]? =some h->GB l j h/\B0 h.bz) ?_ l.length n _ _ ⟨0,rfl,cN _,AC,.refl _,AC⟩ AC;rintro q _ s ⟨i,rfl,hi,hq,hp,aiC⟩ rec aN;simp only[au,ao];by_cases av:i<l.length;rotate_left
 .rw[aU,Zd]
  refine .mk ⟨true,s,rfl,hp,?_⟩;grind
 rw[aR];obtain⟨i1,o1,rfl⟩:=hs.cS (by rw[hh.len];omega);have⟨x,hx⟩: ∃x,l[i]? =some x:=⟨_,cc av⟩;have Lc:=qc hx;have P0:=sz.bz x Lc;have hxn:=sz.name x Lc;rw[Za,bh,Zc (Zi av),bn,IZ (hs.mono hp) (hh.mono hp) hx,BI];refine Ok.call (ZkE n x.name AC AC s) ?_;rintro _ ⟨s1,rfl,aH⟩;refine⟨_,s1,rfl,?_⟩;rw[ar,ao];refine ZxM (λy s=>∃b:Bool,y=[.bool b]/\aB st s/\(b=false↔GB l i x)) ?_ ?_
 .rintro _ s2 ⟨b,rfl,bd,hb⟩
  rw[ar,ao];cases b
  .have cC:=hb.1 rfl;rw[af,Za];refine Zj _ (λq y s=>∃k:Nat,y=[.i k]/\1<=k/\x.bz.length+1-k<=q/\k<=x.bz.length+1/\aB st s/\∀m a b,1<=m->m<k->x.bz[m-1]? =some a->x.bz[m]? =some b->eX a b=true) ?_ x.bz.length n _ _ ⟨1,rfl,aJ _,AC,AC,bd,λm a b h1 h2=>AC⟩ AC;rintro q' _ s3 ⟨k,rfl,kW,hkq,jR,dh,C1⟩ dP mW;rw[au,ao,bh,Zc (Zi av),bn];have⟨pe,tX,le⟩:=UN (Y:=ah) (hs.mono dh) (hh.mono dh) hx;rw[le];by_cases hk:k<x.bz.length
   .rw[aR,bh,Zc (Zi av),le]
    obtain⟨m,rfl⟩: ∃m,k=m+1:=⟨k-1,AC⟩;obtain⟨pi,po,rfl⟩:=tX.cS (by rw[Zt];omega);have⟨a,ha⟩: ∃a,x.bz[m]? =some a:=⟨_,cc AC⟩;have⟨b,dq⟩: ∃b,x.bz[m+1]? =some b:=⟨_,cc hk⟩;rw[bh,Zb,show(((m+1:Nat):Int)-1)=(m:Int) by omega,Zc (Zi),bn,V5 tX ha];unfold fJ;simp only[au,ao];rw[bh,Zc (Zi av),le,bh,Zc (Zi hk),V5 tX dq];unfold fJ;simp only[au,ao];have vm:=Se (n-1) a b s3;rw[show n-1+1=n by omega]at vm;unfold fJ at vm;rw[Zk vm,ar,ao];cases fL:eX a b
    .rw[bD,ae,Zd];refine .mk ⟨false,s3,rfl,dh,?_⟩;rw[fG,vG,false_iff];intro dH;have:=(Ztx _).1 (dH i x hx).2 (m+1) a b AC (by rw[show m+1-1=m by omega];exact ha) dq;rw[fL]at this;cases this
    .rw[bI,af,Zb];refine mW (x.bz.length+1-(m+1+1)) _ _ AC ⟨m+1+1,rfl,AC,AC,AC,dh,?_⟩;intro m' a' b' h1 h2 vj cZ;by_cases hm:m'<m+1
     .exact C1 m' a' b' h1 hm vj cZ
     .have:m'=m+1:=AC
      subst this;rw[show m+1-1=m by omega,ha]at vj;rw[dq]at cZ;grind
   .rw[aU]
    rw[Zb];refine aN (l.length-(i+1)) _ _ AC ⟨i+1,rfl,AC,AC,dh,?_⟩;intro j y hj ey;by_cases oJ:j<i
    .exact aiC j y oJ ey
    .have:j=i:=AC
     subst this;rw[hx]at ey;cases ey;refine⟨cC,(Ztx _).2 λm a b h1 ha dq=>C1 m a b h1 ?_ ha dq⟩;have:=(eE.1 dq).1;omega
  .rw[ae,Zd];refine .mk ⟨false,s2,rfl,bd,?_⟩;rw[fG];grind
 .intro jk wE
  cases hr:pH x.name
  .rw[bD,ae];refine wE _ _ ⟨true,rfl,hp.trans aH,?_⟩;unfold GB;rw[hr];simp
  .rw[bI,af,Za];by_cases h0:0<i
   .obtain⟨m,rfl⟩: ∃m,i=m+1:=⟨i-1,AC⟩
    rw[aR];have⟨g,hg⟩: ∃g,l[m]? =some g:=Fd
    have Hm:=sz.name g (qc hg);have bd:=hp.trans aH;rw[bh,Zb,show(((m+1:Nat):Int)-1)=(m:Int) by omega,Zc (Zi),bn,IZ (hs.mono bd) (hh.mono bd) hg,BI,bh,Zc (Zi av),IZ (hs.mono bd) (hh.mono bd) hx,BI];refine Ok.call (Zis n g.name x.name AC AC AC AC s1) ?_;rintro _ ⟨s2,rfl,dh⟩;refine⟨_,s2,rfl,?_⟩;simp only[au,ar,ao];refine wE _ _ ⟨_,rfl,bd.trans dh,?_⟩;unfold GB;rw[hr,show m+1-1=m by omega,hg];grind
   .rw[aU]
    simp only[ar,ao];refine wE _ _ ⟨false,rfl,hp.trans aH,?_⟩;unfold GB;rw[hr];grind
def ra (l:List dw):List aP:=(l.map (·.bz)).flatten
theorem Va (x:dW):Zp x=ra x.aD:=rfl
theorem ZuV (l:List dw) {h:dw} (e:l[i]? =some h):ra (l.take (i+1))=ra (l.take i)++h.bz:=by
 obtain⟨hi,rfl⟩:=eE.1 e;unfold ra;rw[oq hi,eV,Fu,kf,List.map_nil,vH,List.flatten_nil,fP]
theorem Zw3 (l:List dw) (i:Nat):(ra (l.take i)).length<=(ra l).length:=by
 have:ra l=ra (l.take i)++ra (l.drop i):=by
  grind[ra,Fu,mD]
 rw[this,ba];omega
theorem Zou (n:Nat) (x:dW) (z1 z2 z3:Nat) (p1 p2 p3:ai) (st:St) (kD:z1=2\/p1=none) (iN:z2=1\/p2=none) (nF:z3=1\/p3=none) (hr:qh st x p1 p2 p3)
  (hl:x.aD.length<=50000) (he:(Zp x).length<=50000) (hn:50100<=n):
  Ok (λo=>∃q s',o=(.val [.slice 4 q (Zp x).length],s')/\aB st s'/\Sl s' q (bW (Zp x))) (run Bd n 142 [.agg (fa x z1 p1 z2 p2 z3 p3)] st):=by
 obtain _|n:=n;omega;rw[Ze,h.afR];unfold Ru yq DK cT N_ tx jy
 try dsimp only
 have ag: ∀(l:ah) (K:ah->ah->M ah),bp (.agg (fa x z1 p1 z2 p2 z3 p3)::l) K=K (fa x z1 p1 z2 p2 z3 p3) l:=λ_ _=>rfl
 rw[ag];unfold fa;simp only[au,Zh 2 z1 p1 _ kD,Zh 1 z2 p2 _ iN,Zh 1 z3 p3 _ nF,ao];rw[Z8,Za];have⟨ds,hs,hh⟩:=hr.hp;rw[Va]at he;rw[Va];refine Zj _ (λq y s=>∃(i z:Nat) (a:ai),y=[.slice z a (ra (x.aD.take i)).length,.i i]/\(z=4\/a=none)/\i<=x.aD.length/\x.aD.length-i<=q/\bc st s a (bW (ra (x.aD.take i)))) ?_ x.aD.length n _ _ ⟨0,0,none,rfl,.inr rfl,cN _,AC,bc.nil (.refl _)⟩ AC;rintro q _ s ⟨i,z,a,rfl,hz,hi,hq,ho⟩ rec aN;rw[Zh 4 z a _ hz,au,ao];by_cases av:i<x.aD.length
 .rw[aR]
  obtain⟨i1,o1,rfl⟩:=hs.cS (by rw[hh.len];omega);have⟨g,hg⟩: ∃g,x.aD[i]? =some g:=⟨_,cc av⟩;rw[bh,Zc (Zi av),bn];have⟨pe,tX,le⟩:=UN (Y:=ah) (hs.mono ho.1) (hh.mono ho.1) hg;rw[le,<-Zt,j9 tX];have et:=ZuV x.aD hg;have hle:=Zw3 x.aD (i+1);rw[et,ba]at hle;rw[Zb];by_cases h0:0<g.bz.length
  .have⟨q2,s2,g1,g2⟩:=ho.app (Y:=ah) (sz:=4) (n:=(ra (x.aD.take i)).length) (m:=g.bz.length) (lim:=2199023255552) (ds:=bW g.bz) AC (Zt _) h0 AC
   rw[g2];exact aN (x.aD.length-(i+1)) _ _ AC ⟨i+1,4,q2,by rw[et,ba];rfl,.inl rfl,AC,AC,by rw[et,Aq];exact g1⟩
  .have e0:g.bz=[]:=Fd
   rw[e0]at et⊢;rw[show(bW []:ah)=[]from rfl,show(([]:List aP).length)=0 from rfl,Zy1];rw[fP]at et;exact aN (x.aD.length-(i+1)) _ _ AC ⟨i+1,4,a,by rw[et];rfl,.inl rfl,AC,AC,by rw[et];exact ho⟩
 .rw[aU]
  have:i=x.aD.length:=AC
  subst this;rw[rQ]at ho⊢;simp only[aZ,ao,Zs];exact .mk ⟨a,_,rfl,Zx ho.1,ho.sl.gk _⟩
def lv (n:Nat) (D:ak):ah:=(List.range n).map λ(k:Nat)=>DV.bool (decide ((k:Int)∈D))
theorem Zx5 (n:Nat) (D:ak):(lv n D).length=n:=by simp[lv]
theorem ZBm (h:0<=k/\k<(n:Int)):(lv n D)[k.toNat]? =some (.bool (decide (k∈D))):=by
 grind[bn,lv]
theorem ZBq (h:0<=k/\k<(n:Int)):cG (lv n D) (k.toNat*1) [.bool true]=lv n (D++[k]):=by
 obtain⟨m,rfl⟩: ∃m:Nat,k=(m:Int):=⟨k.toNat,AC⟩;rw[bn,cR,B6 _ _ _ (by rw[Zx5];omega)];refine th λj=>?_
 rw[List.getElem?_set];unfold lv;by_cases hj:j<n
 .grind
 grind
theorem ZBo (n:Nat):iO n [.bool false]=lv n []:=by
 unfold iO lv;refine th λj=>?_
 have:(List.replicate n [DV.bool false]).flatten=List.replicate n (DV.bool false):=by
  simp
 rw[this];by_cases hj:j<n
 .simp[hj]
 grind
theorem As (h:0<=k/\k<(n:Int)):aO k n=true:=by grind[aO]
theorem WQ {x:dW} (h:0<=k/\k<(x.gens.length:Int)):(ints x.gens)[k.toNat]? =some (.i (ix x k)):=by
 grind[ints,ix]
theorem HO: ∀(n:Nat) (l:ak),l.Nodup->(∀k∈l,0<=k/\k<(n:Int))->l.length<=n
 |0,l,_,h=>by
  cases l with
  |nil=>exact aJ _
  |cons k l=>have:=h k (pz);omega
 |n+1,l,hd,h=>by
  have h1:=HO n (l.erase (n:Int)) (hd.erase _) Fd;rw[List.length_erase]at h1;grind
structure FR (x:dW):Prop where
 h:SzH x.aD
 e:(Zp x).length<=50000
 g:x.gens.length<=50000
 f:x.free.length<=50000
theorem Ww (hs:s[i]? =some (some ⟨false,lv n D⟩)) (h:0<=k/\k<(n:Int)) (K:DV->M Y):bH i (k.toNat*1) K s=K (.bool (decide (k∈D))) s:=by
 rw[cR];exact Zn hs (ZBm h) K
def mJ (l:List aP):ak:=l.map (·.slot)
theorem ZwA (l:List aP) (h:i<l.length):mJ (l.take (i+1))=mJ (l.take i)++[l[i].slot]:=by
 unfold mJ;rw[oq h,eV];rfl
theorem U2 {l:ak} :(l++[k]).Nodup↔l.Nodup/\k∉l:=by
 rw[jU];grind
theorem US {l:ak} (h:(l++m).Nodup):l.Nodup:=(jU.1 h).1
theorem Zu8 {x:dW} (h:lY x) (i:Nat):(mJ ((Zp x).take i)).Nodup:=by
 have h1:(mJ (Zp x)).Nodup:=US h.nodup;have e:mJ (Zp x)=mJ ((Zp x).take i)++mJ ((Zp x).drop i):=by
  simp[mJ]
 rw[e]at h1;exact US h1
theorem Zv3 {x:dW} (h:lY x):x.free.Nodup:=(jU.1 h.nodup).2.1
theorem Zuk (n:Nat) (x:dW) (z1 z2 z3:Nat) (p1 p2 p3:ai) (st:St) (kD:z1=2\/p1=none) (iN:z2=1\/p2=none) (nF:z3=1\/p3=none) (hr:qh st x p1 p2 p3)
  (sz:FR x) (hn:50200<=n):
  Ok (λo=>∃b s',o=(.val [.bool b],s')/\aB st s'/\(b=true↔lY x)) (run Bd n 133 [.agg (fa x z1 p1 z2 p2 z3 p3)] st):=by
 obtain _|n:=n;omega;rw[Ze,h.afO];unfold T3 yq bF az Q_ dj Zo si N_ jx vX Lb BP Li fj
 try dsimp only
 have ag: ∀(l:ah) (K:ah->ah->M ah),bp (.agg (fa x z1 p1 z2 p2 z3 p3)::l) K=K (fa x z1 p1 z2 p2 z3 p3) l:=λ_ _=>rfl
 rw[ag];unfold fa;simp only[au,Zh 2 z1 p1 _ kD,Zh 1 z2 p2 _ iN,Zh 1 z3 p3 _ nF,ao];have hsg:=sz.g;have no: ∀s,aB st s->¬lY x->Ok (λo=>∃b s',o=(.val [.bool b],s')/\aB st s'/\(b=true↔lY x)) ((aw [.bool false]:M ah) s):=by
  intro s hp hm;rw[Zd];exact .mk Fd
 have A0:=Zkt (n-1) x.blocks x.cW x.g st;rw[show n-1+1=n by omega]at A0;rw[Zk A0,ar,ao,Za];cases hg:qA x.blocks x.cW x.g with
 |false=>
  rw[bD,ae];simp only[ar,ao];rw[Za,ae];simp only[ar,ao];rw[ae];exact no st (.refl _) λhm=>by have:=hm.Cz;rw[hg]at this;cases this
 |true=>
 rw[bI,af];simp only[ar,ao];rw[Za];by_cases c1:(x.gens.length:Int)>x.cW
 .rw[aR c1]
  simp only[ar,ao];rw[ae];exact no st (.refl _) λhm=>by have:=hm.cW;omega
 rw[aU c1];have⟨ds,hs,hh⟩:=hr.hp;refine Ok.call (Zqk n 2 x.aD p1 ds st (.inl rfl) hs hh sz.h AC) ?_;rintro _ ⟨b,s1,rfl,aH,hb⟩;refine⟨_,s1,rfl,?_⟩;simp only[ar,ao];cases b with
 |false=>
  rw[bD,ae];exact no s1 aH λhm=>by
   have:=hb.2 ⟨hm.En,hm.right,hm.order⟩;cases this
 |true=>
 have YP:N7 x.aD:=hb.1 rfl;rw[bI,af];refine Ok.call (Zou n x 2 1 1 p1 p2 p3 s1 (.inl rfl) (.inl rfl) (.inl rfl) (hr.pre aH) sz.h.len sz.e AC) ?_;rintro _ ⟨qe,s2,rfl,bd,hE⟩;refine⟨_,s2,rfl,?_⟩;rw[aZ,ao];have bd:=aH.trans bd;rw[Za];by_cases c2:((Zp x).length:Int)>(x.gens.length:Int)
 .rw[aR c2]
  simp only[ar,ao];rw[ae];refine no s2 bd λhm=>?_
  have:=HO x.gens.length _ hm.nodup hm.range;rw[ba,mC]at this;omega
 rw[aU c2];simp only[ar,ao];by_cases c3:(x.free.length:Int)>(x.gens.length:Int)
 .rw[aR c3]
  refine no s2 bd λhm=>?_
  have:=HO x.gens.length _ hm.nodup hm.range;rw[ba,mC]at this;omega
 rw[aU c3,Zc (by simp;omega),ZD,bn,ZBo,Za,Za,Za];have aiS:=(hr.gn.mono bd);refine Zj _ (λq y s=>∃i:Nat,y=[.i i]/\i<=(Zp x).length/\(Zp x).length-i<=q/\aB s2 s/\s[s2.length]? =some (some ⟨false,lv x.gens.length (mJ ((Zp x).take i))⟩)/\
   (mJ ((Zp x).take i)).Nodup/\∀e∈(Zp x).take i,(0<=e.slot/\e.slot<(x.gens.length:Int))/\ix x e.slot=e.gen) ?_ (Zp x).length n _ _ ⟨0,rfl,cN _,AC,.new _ _,by simp[mJ],by simp[mJ],Do⟩ AC
 rintro q _ s ⟨i,rfl,hi,hq,hp,eQ,eJ,dH⟩ rec aN;rw[au,ao];by_cases av:i<(Zp x).length
 .rw[aR]
  obtain⟨ei,eo,rfl⟩:=hE.cS (by rw[Zt];omega);have he:(Zp x)[i]? =some (Zp x)[i]:=cc av;have cq:=ZwA _ av;have Ev: ¬((0<=(Zp x)[i].slot/\(Zp x)[i].slot<(x.gens.length:Int))/\ix x (Zp x)[i].slot=(Zp x)[i].gen)->¬lY x:=λcC hm=>
   cC ⟨hm.range _ Fd,hm.gen _ (jj av)⟩
  have vx:(Zp x).take (i+1)=(Zp x).take i++[(Zp x)[i]]:=oq av;generalize hee:(Zp x)[i]=e at he cq Ev vx;rw[bh,Zc (Zi av),bn,Zw0 (hE.mono hp) he];simp only[au,ao];have ajI:=bd.trans hp;rw[Za];by_cases d1:e.slot<0
  .rw[aR d1]
   simp only[ar,ao];rw[Za,ae];simp only[ar,ao];rw[Za,ae];simp only[ar,ao];rw[ae];grind
  rw[aU d1];simp only[ar,ao];rw[Za];by_cases d2:e.slot>=(x.gens.length:Int)
  .rw[aR d2]
   simp only[ar,ao];rw[Za,ae];simp only[ar,ao];rw[ae];grind
  rw[aU d2];have fA:0<=e.slot/\e.slot<(x.gens.length:Int):=AC
  rw[Zc (As fA),Ww eQ fA];simp only[uI,ar,ao];rw[Za];by_cases d3:e.slot∈mJ ((Zp x).take i)
  .rw[aR d3]
   simp only[ar,ao];rw[ae];refine no s ajI λhm=>?_
   have:=Zu8 hm (i+1);rw[cq]at this;grind
  rw[aU d3];obtain⟨gi,go,rfl⟩:=hr.gn.cS (by simp[ints];omega);rw[bh,Zc (As fA),(aiS.mono hp).dX (WQ fA)];simp only[bg,ar,ao];by_cases d4:ix x e.slot=e.gen
  .rw[show(e.gen==ix x e.slot)=true by rw[d4];grind,bI,af,Zc (As fA),NN eQ (by rw[Zx5];simp;omega),ZBq fA]
   rw[Zb];refine aN ((Zp x).length-(i+1)) _ _ AC ⟨i+1,rfl,AC,AC,tH hp (aJ _) _,?_,?_,?_⟩
   .rw[cq]
    grind
   .rw[cq]
    exact U2.2 ⟨eJ,d3⟩
   grind
  grind
 rw[aU];have:i=(Zp x).length:=AC
 subst this;rw[rQ]at eQ eJ dH;clear aN rec;have dh:=bd.trans hp;have ec:=hr.fr.mono dh;have Hm:=hr.gn.mono dh;have Yg: ∀k∈x.free,¬((0<=k/\k<(x.gens.length:Int))/\k∉mJ (Zp x)/\ix x k<x.g)->¬lY x:=λk hk cC hm=>
  cC ⟨hm.range _ (FC _ hk),λjR=>(jU.1 hm.nodup).2.2 k jR k hk rfl,hm.low k hk⟩
 refine Zj _ (λq y s'=>∃i:Nat,y=[.i i]/\i<=x.free.length/\x.free.length-i<=q/\s'=s/\(x.free.take i).Nodup/\∀k∈x.free.take i,(0<=k/\k<(x.gens.length:Int))/\k∉mJ (Zp x)/\ix x k<x.g) ?_ x.free.length n _ _
  ⟨0,rfl,cN _,AC,rfl,Do,Do⟩ AC
 rintro q' _ s' ⟨i,rfl,Ho,ug,rfl,Y8,JX⟩ rec aN;simp only[au,ao];by_cases av:i<x.free.length
 .rw[aR]
  obtain⟨fi,fo,rfl⟩:=hr.fr.cS (by simp[ints];omega);rw[bh,Zc (Zi av),bn,ec.dX (d:= .i x.free[i]) (by simp[ints,av])];simp only[bg];have Yg:=Yg _ (jj av);have vx:x.free.take (i+1)=x.free.take i++[x.free[i]]:=oq av;generalize x.free[i]=k at Yg vx;rw[Za];by_cases d1:k<0
  .rw[aR d1]
   simp only[ar,ao];rw[Za,ae];simp only[ar,ao];rw[Za,ae];simp only[ar,ao];rw[Za,ae];simp only[ar,ao];rw[ae];grind
  rw[aU d1];simp only[ar,ao];rw[Za];by_cases d2:k>=(x.gens.length:Int)
  .rw[aR d2]
   simp only[ar,ao];rw[Za,ae];simp only[ar,ao];rw[Za,ae];simp only[ar,ao];rw[ae];grind
  rw[aU d2];have fA:0<=k/\k<(x.gens.length:Int):=AC
  rw[Zc (As fA),Ww eQ fA];simp only[uI,ar,ao];rw[Za];by_cases d3:k∈mJ (Zp x)
  .rw[aR d3]
   simp only[ar,ao];rw[Za,ae];simp only[ar,ao];rw[ae];grind
  rw[aU d3];obtain⟨gi,go,rfl⟩:=hr.gn.cS (by simp[ints];omega);rw[bh,Zc (As fA),Hm.dX (WQ fA)];simp only[bg,ar,ao];rw[Za];by_cases d4:ix x k>=x.g
  .rw[aR d4]
   simp only[ar,ao];rw[ae];grind
  rw[aU d4,Zc (by simp;omega)];have vw:Sl s' (some (fi,fo)) (ints (x.free.take i)):=by
   have⟨f,all,h1,h2,h3⟩:=ec;have j3:(ints (x.free.take i)).length=i:=by simp[ints];omega
   have dZ:(ints x.free).length=x.free.length:=by simp[ints]
   refine⟨f,all,h1,AC,?_⟩;have:=congrArg (List.take i) h3;rw[H2,dZ,pA AC]at this;rw[j3,this];unfold ints;rw[List.map_take]
  have hlen:(x.free.take i).length=i:=by simp;omega
  have adh:=F6 n 1 (x.free.take i) k (some (fi,fo)) s' (.inl rfl) vw;rw[hlen]at adh;refine Ok.call adh ?_;rintro _ rfl;refine⟨_,s',rfl,?_⟩;simp only[ar,ao];by_cases d5:k∈x.free.take i
  .rw[aR d5]
   refine no s' dh λhm=>?_
   have:=Zv3 hm;rw[<-mD (i+1) x.free]at this;have:=US this;rw[vx]at this;exact(U2.1 this).2 d5
  .rw[aU d5,Zb]
   refine aN (x.free.length-(i+1)) _ _ AC ⟨i+1,rfl,AC,AC,rfl,?_,?_⟩
   .rw[vx]
    exact U2.2 ⟨Y8,d5⟩
   .intro k' oK
    rw[vx]at oK;rcases ga.1 oK with h|h
    .exact JX k' h
    .rw[cH.1 h]
     grind
 rw[aU];have:i=x.free.length:=AC
 subst this;rw[rQ]at Y8 JX;clear aN rec;have JY: ∀i:Nat,i<x.gens.length->¬(1<=ix x i/\ix x i<=x.g/\((i:Int)∉mJ (Zp x)->ix x i<x.g->(i:Int)∈x.free))->¬lY x:=by
  intro i hi cC hm;have hv:ix x (i:Int)∈x.gens:=by
   unfold ix;rw[bn,cz,cc hi];grind
  refine cC ⟨(hm.gens _ hv).1,(hm.gens _ hv).2,λh1 h2=>?_⟩;refine Classical.byContradiction λh3=>?_
  have:=hm.rest i hi (λh4=>by
   rcases ga.1 h4 with h|h
   .exact h1 h
   .exact h3 h)
  omega
 refine Zj _ (λq y rM=>∃i:Nat,y=[.i i]/\i<=x.gens.length/\x.gens.length-i<=q/\rM=s'/\∀j:Nat,j<i->1<=ix x j/\ix x j<=x.g/\((j:Int)∉mJ (Zp x)->ix x j<x.g->(j:Int)∈x.free)) ?_ x.gens.length n _ _
  ⟨0,rfl,cN _,AC,rfl,AC⟩ AC
 rintro q'' _ rM ⟨i,rfl,alV,al7,rfl,Yf⟩ rec aN;simp only[au,ao];by_cases av:i<x.gens.length
 .rw[aR]
  obtain⟨gi,go,rfl⟩:=hr.gn.cS (by simp[ints];omega);have fA:0<=(i:Int)/\(i:Int)<(x.gens.length:Int):=AC
  have JY:=JY i av;have ld: ∀K:DV->M ah,bH gi ((i:Int).toNat*1+go) K rM=K (.i (ix x i)) rM:=λK=>Hm.dX (WQ fA) K
  rw[bh,Zc (As fA),ld];simp only[bg];rw[Za];by_cases d1:ix x i<1
  .rw[aR d1]
   simp only[ar,ao];rw[Za,ae];simp only[ar,ao];rw[ae];exact no rM dh (JY AC)
  rw[aU d1,bh,Zc (As fA),ld];simp only[bg,ar,ao];rw[Za];by_cases d2:ix x i>x.g
  .rw[aR d2]
   simp only[ar,ao];rw[ae];exact no rM dh (JY AC)
  rw[aU d2,Zc (As fA),Ww eQ fA];simp only[uI];have XR:(1<=ix x i/\ix x i<=x.g/\((i:Int)∉mJ (Zp x)->ix x i<x.g->(i:Int)∈x.free))->Ok (λo=>∃b s',o=(.val [.bool b],s')/\aB st s'/\(b=true↔lY x)) (rec [.i (aq ((i:Int)+1))] rM):=by
   intro aiU;rw[Zb];refine aN (x.gens.length-(i+1)) _ _ AC ⟨i+1,rfl,AC,AC,rfl,λj hj=>?_⟩;by_cases oJ:j<i
   .exact Yf j oJ
   .have:j=i:=AC
    subst this;exact aiU
  rw[Za];by_cases d3:(i:Int)∈mJ (Zp x)
  .rw[aQ d3,bI,af]
   simp only[ar,ao];rw[Za,af];simp only[ar,ao];rw[af];exact XR ⟨AC,AC,λh=>absurd d3 h⟩
  rw[bP d3,bD,ae,bh,Zc (As fA),ld];simp only[bg,ar,ao];rw[Za];by_cases d4:ix x i<x.g
  .rw[aR d4]
   refine Ok.call (F6 n 1 x.free i p3 rM (.inl rfl) ec) ?_;rintro _ rfl;refine⟨_,rM,rfl,?_⟩;simp only[ar,ao];by_cases d5:(i:Int)∈x.free
   .rw[aQ d5,bI,af]
    exact XR ⟨AC,AC,λ_ _=>d5⟩
   .rw[bP d5,bD,ae]
    exact no rM dh (JY λhh=>d5 (hh.2.2 d3 d4))
  .rw[aU d4]
   simp only[ar,ao];rw[af];exact XR AC
 rw[aU,Zd];have:i=x.gens.length:=AC
 subst this;refine .mk ⟨true,rM,rfl,dh,?_⟩;simp only[true_iff];exact {
  Cz:=hg
  cW:=AC
  En:=YP.1
  right:=YP.2.1
  order:=YP.2.2
  nodup:=jU.2 ⟨eJ,Y8,λa ha b hb=>by rintro rfl;exact(JX a hb).2.1 ha⟩
  range:=λk hk=>by
   rcases ga.1 hk with h|h
   .obtain⟨e,he,rfl⟩:=jK.1 h
    exact(dH e he).1
   .exact(JX k h).1
  gen:=λe he=>(dH e he).2
  low:=λk hk=>(JX k hk).2.2
  gens:=λv hv=>by
   obtain⟨i,hi,rfl⟩:=BE hv;have:=Yf i hi;unfold ix at this;rw[bn,cz,cc hi]at this;exact⟨this.1,this.2.1⟩
  rest:=λi hi cC=>by
   have:=Yf i hi;refine Int.not_lt.1 λav=>cC ?_
   by_cases hs:(i:Int)∈mJ (Zp x)
   .exact Dy _ hs
   .exact FC _ (this.2.2 hs av) }
theorem J_f (f:Nat) (ff fc r:ah) (K:Nat->ah->ah->ah->M Y):WC (.func f ff fc::r) K=K f ff fc r:=rfl
theorem ZqE (n z f:Nat) (ff fc:ah) (l:ak) (p:ai) (st:St) (P:Int->Bool) (hz:z=1\/p=none) (hs:Sl st p (ints l)) (hn:l.length+10<=n) (hl:l.length<1000000)
  (hc: ∀v∈l,run Bd (n-2) f (ff++[.i v]++fc) st=some (.val [.bool (P v)],st)):
  run Bd n 147 [.slice z p l.length,.func f ff fc] st=some (.val [.bool (l.any P)],st):=by
 obtain⟨n,rfl⟩: ∃m,n=m+2:=⟨n-2,AC⟩;rw[Ze,h.afV];unfold QZ cK Lb
 try dsimp only
 rw[Zh 1 z p _ hz,J_f,ao];have fA:Ok (λo=>∃y:Int,o=(.val [.i y],st)/\decide (y>=0)=l.any P) (run Bd (n+1) 156 [.slice 1 p l.length,.func f ff fc] st):=by
  rw[Ze,h.afX];unfold QX Q_ dj Zo bF Li
  try dsimp only
  rw[aZ,J_f,ao,Za];refine Zj _ (λq y s=>∃i:Nat,y=[.i i]/\i<=l.length/\l.length-i<=q/\s=st/\∀v∈l.take i,P v=false) ?_ l.length n _ _ Fd AC;rintro q _ s ⟨i,rfl,hi,hq,rfl,cC⟩ rec aN;simp only[au,ao];by_cases av:i<l.length
  .obtain⟨i1,o1,rfl⟩:=hs.cS (by simp[ints];omega)
   rw[aR,bh,Zc (Zi av),bn,hs.dX (d:= .i l[i]) (by simp[ints,av]),bg];have hv:=hc l[i] (jj av);rw[show n+2-2=n by omega]at hv;rw[Zk hv,ar,ao];cases hp:P l[i]
   .rw[af,Zb];refine aN (l.length-(i+1)) _ _ AC ⟨i+1,rfl,AC,AC,rfl,?_⟩;intro v hv;rw[oq av]at hv;grind
   .rw[ae,Zd];refine .mk ⟨_,rfl,?_⟩;rw[aQ AC,List.any_eq_true.2 ⟨_,jj av,hp⟩]
  .rw[aU,Zd]
   rw[dG AC]at cC;refine .mk ⟨_,rfl,?_⟩;rw[show decide ((-1:Int)>=0)=false from rfl];grind
 obtain⟨_,e,y,rfl,hy⟩:=fA;rw[Zk e];simp[au,ao,hy,Zd]
