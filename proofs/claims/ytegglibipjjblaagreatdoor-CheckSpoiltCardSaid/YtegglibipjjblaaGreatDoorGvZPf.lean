/- States: in memory; which ones may be; small functions over them. -/
import Derived.Test.YtegglibipjjblaaGreatDoorGvZPe
set_option linter.all false
namespace Go.Gv.F
open Go.Gv
structure bm where
 slot:Int
 gen:Int
 key:Int
 value:Int
structure dJ where
 name:aj
 cg:List bm
structure eR where
 blocks:Int
 dc:Int
 g:Int
 aK:List dJ
 aF:ak
 free:ak
def fk (e:bm):ah:=[.i e.slot,.i e.gen,.i e.key,.i e.value]
def bY (l:List bm):ah:=(l.map fk).flatten
theorem Zu (l:List bm):(bY l).length=l.length*4:=by
 unfold bY;induction l with
 |nil=>rfl
 |cons e l ih=>rw[oe,BE,bz,ih,cQ];show 4+_=_;omega
theorem D1: ∀ {l:List bm} {j:Nat} {e:bm},l[j]? =some e->((bY l).drop (j*4)).take 4=fk e
 |[],j,e,h=>by simp at h
 |x::l,0,e,h=>by
  simp only[lz,fZ]at h;subst h;rw[oZ,dE];rfl
 |x::l,j+1,e,h=>by
  have e2:bY (x::l)=fk x++bY l:=rfl;rw[e2,show(j+1)*4=(fk x).length+j*4 by show _=4+_;omega,<-jG,DG];exact D1 (by simpa using h)
theorem Am (l m:List bm):bY (l++m)=bY l++bY m:=by
 simp[bY]
def me (h:dJ) (z:Nat) (p:ai):ah:=[.str h.name,.slice z p h.cg.length]
def jo (s:St):ah->List dJ->Prop
 |ds,[]=>ds=[]
 |ds,x::r=>∃z p t,(z=4\/p=none)/\ds=me x z p++t/\Sl s p (bY x.cg)/\jo s t r
theorem yg (x:dJ) (z:Nat) (p:ai):(me x z p).length=2:=rfl
theorem Z3 {β:Type} (sz z:Nat) (a:ai) (n:Nat) (h:z=sz\/a=none) (K:ai->Nat->M β):dz sz (.slice z a n) K=K a n:=by
 rcases h with rfl|rfl
 .exact kA _ _ _ _
 simp
theorem jo.len {s:St} : ∀ {ds:ah} {xs:List dJ},jo s ds xs->ds.length=xs.length*2
 |ds,[],h=>by rw[show ds=[]from h];rfl
 |ds,x::r,⟨z,p,t,_,h1,_,h3⟩=>by rw[h1,bz,h3.len,yg,cQ];omega
theorem jo.mono {s s':St} (k:aA s s'): ∀ {ds:ah} {xs:List dJ},jo s ds xs->jo s' ds xs
 |_,[],h=>h
 |_,_::_,⟨z,p,t,hz,h1,h2,h3⟩=>⟨z,p,t,hz,h1,h2.mono k,h3.mono k⟩
theorem jo.get {s:St} : ∀ {ds:ah} {xs:List dJ},jo s ds xs->∀ {j:Nat} {x:dJ},xs[j]? =some x->∃z p,(z=4\/p=none)/\(ds.drop (j*2)).take 2=me x z p/\ds[j*2]? =some (.str x.name)/\ds[j*2+1]? =some (.slice z p x.cg.length)/\Sl s p (bY x.cg)
 |_,[],_,j,x,e=>by simp at e
 |ds,y::r,⟨zq,q,t,Lh,h1,h2,h3⟩,0,x,e=>by
  simp only[lz,fZ]at e;subst e;subst h1;exact⟨zq,q,Lh,rfl,rfl,rfl,h2⟩
 |ds,y::r,⟨zq,q,t,Lh,h1,h2,h3⟩,j+1,x,e=>by
  have⟨z,p,hz,g1,g2,g3,g4⟩:=h3.get (j:=j) (x:=x) (by simpa using e);refine⟨z,p,hz,?_,?_,?_,g4⟩
  .rw[h1,show(j+1)*2=(me y zq q).length+j*2 by rw[yg];omega,<-jG,DG]
   exact g1
  .rw[h1,kL (by rw[yg];omega),yg,show(j+1)*2-2=j*2 by omega]
   exact g2
  .rw[h1,kL (by rw[yg];omega),yg,show(j+1)*2+1-2=j*2+1 by omega]
   exact g3
def dw (x:eR) (z1:Nat) (p1:ai) (z2:Nat) (p2:ai) (z3:Nat) (p3:ai):ah:=
 [.i x.blocks,.i x.dc,.i x.g,.slice z1 p1 x.aK.length,.slice z2 p2 x.aF.length,.slice z3 p3 x.free.length]
structure jK (s:St) (x:eR) (p1 p2 p3:Option (Nat×Nat)):Prop where
 hp: ∃ds,Sl s p1 ds/\jo s ds x.aK
 gn:Sl s p2 (ints x.aF)
 fr:Sl s p3 (ints x.free)
variable {k:Int} {i j m n o:Nat} {s s':St} {ds:ah} {D:ak}
theorem jK.pre {x:eR} {p1 p2 p3:ai} (h:jK s x p1 p2 p3) (k:aA s s'):jK s' x p1 p2 p3:=
 let ⟨ds,h1,h2⟩:=h.hp
 ⟨⟨ds,h1.mono k,h2.mono k⟩,h.gn.mono k,h.fr.mono k⟩
def pS (b s g:Int):Bool:=decide (b>=16)&&(decide (b<=3072)&&(decide (s>=1)&&(decide (s<=1792)&&(decide (g>=1)&&decide (g<=4294967295)))))
def fD (a b:bm):Bool:=if a.key≠b.key then decide (a.key<b.key)else if a.slot≠b.slot then decide (a.slot<b.slot)else decide (a.gen<b.gen)
def Eb (l:List bm):Prop:=∀i a b,l[i]? =some a->l[i+1]? =some b->fD a b=true
def NO (l:List dJ):Prop:=∀i a b,l[i]? =some a->l[i+1]? =some b->cmpL (dM a.name) (dM b.name)<0
def Zr (x:eR):List bm:=(x.aK.map (·.cg)).flatten
def iK (x:eR) (k:Int):Int:=x.aF.getD k.toNat 0
structure sL (x:eR):Prop where
 J3:pS x.blocks x.dc x.g=true
 dc:(x.aF.length:Int)<=x.dc
 Ez:x.aK.length<=16
 right: ∀h∈x.aK,rF h.name=true/\Eb h.cg
 order:NO x.aK
 nodup:((Zr x).map (·.slot)++x.free).Nodup
 range: ∀k∈(Zr x).map (·.slot)++x.free,0<=k/\k<(x.aF.length:Int)
 gen: ∀e∈Zr x,iK x e.slot=e.gen
 low: ∀k∈x.free,iK x k<x.g
 aF: ∀v∈x.aF,1<=v/\v<=x.g
 rest: ∀i,i<x.aF.length->((i:Int)∉(Zr x).map (·.slot)++x.free)->x.g<=iK x i
theorem ZoW (b s g:Int) (st:St) (X:Zg->Nat->ah->M ah) (hX: ∀c n,X c n [.agg [.i b,.i s,.i g]] st=IC c n [.agg [.i b,.i s,.i g]] st) (c:Zg) (n:Nat):
  X c n [.agg [.i b,.i s,.i g]] st=some (.val [.bool (pS b s g)],st):=by
 rw[hX];unfold IC D9 az Lb pS;simp only[da,av,aq];cases decide (b>=16)with
 |false=>simp only[Za,af,au,aq];rfl
 |true=>
 cases decide (b<=3072)with
 |false=>simp only[Za,af,ae,au,aq];rfl
 |true=>
 cases decide (s>=1)with
 |false=>simp only[Za,af,ae,au,aq];rfl
 |true=>
 cases decide (s<=1792)with
 |false=>simp only[Za,af,ae,au,aq];rfl
 |true=>
 cases decide (g>=1)with
 |false=>simp only[Za,af,ae,au,aq];rfl
 |true=>
  simp only[Za,ae,au,aq];rfl
variable {Bd:Zh} [h:HA Bd]
theorem Zl4 (n:Nat) (b s g:Int) (st:St):run Bd (n+1) 145 [.agg [.i b,.i s,.i g]] st=some (.val [.bool (pS b s g)],st):=by
 rw[Ze,h.afb];exact ZoW b s g st IC (λ_ _=>rfl) _ _
theorem ZkN (n:Nat) (b s g:Int) (st:St):run Bd (n+1) 141 [.agg [.i b,.i s,.i g]] st=some (.val [.bool (pS b s g)],st):=by
 rw[Ze,h.ae7];exact ZoW b s g st SS (λ_ _=>rfl) _ _
theorem Sm (n:Nat) (a b:bm) (st:St):run Bd (n+1) 155 [.agg (fk a),.agg (fk b)] st=some (.val [.bool (fD a b)],st):=by
 rw[Ze,h.afd];unfold SR MD Lb fk fD;simp only[da,av,aq];by_cases h1:a.key=b.key
 .have e1:(a.key==b.key)=true:=by rw[h1];simp
  rw[e1,bw,af,bq (by simp[h1])];by_cases h2:a.slot=b.slot
  .have e2:(a.slot==b.slot)=true:=by rw[h2];simp
   rw[e2,bw,af,bq (by simp[h2])];rfl
  .have e2:(a.slot==b.slot)=false:=eN.2 h2
   rw[e2,bp,ae,bG h2];rfl
 .have e1:(a.key==b.key)=false:=eN.2 h1
  rw[e1,bp,ae,bG h1];rfl
def gR (x y:Int):Int:=if x<y then-1 else if x>y then 1 else 0
theorem UY {Bd:Zh} (h:It Bd) (n:Nat) (x y:Int) (st:St):run Bd (n+2) 161 [.i x,.i y] st=some (.val [.i (gR x y)],st):=by
 have e: ∀z:Int,run Bd (n+1) 163 [.i z] st=some (.val [.bool false],st):=by
  intro z;rw[Ze,h.q1.eq];unfold IB cW Lb
  try dsimp only
  simp[av,aq,zZ,bw,Zd]
 rw[Ze,h.eq];unfold Is je bu Li gR;simp only[av,aq];rw[Zk (e x),au,aq,Zk (e y),au,aq,af];by_cases h1:x<y
 .rw[aX h1,bG h1];rfl
 .rw[aZ h1,bq h1]
  by_cases h2:x>y
  .rw[aX h2,bG h2];rfl
  .rw[aZ h2,bq h2];rfl
theorem abU {Bd:Zh} (h:F3 Bd) (n:Nat) (hn:8<=n) (a b:bm) (st:St):
  Ok (λo=>∃z s',o=(.val [.i z],s')/\aA st s'/\decide (z>=0)= !fD a b) (run Bd n 159 [.agg (fk a),.agg (fk b)] st):=by
 obtain⟨n,rfl⟩: ∃m,n=m+3:=⟨n-3,AC⟩;rw[Ze,h.eq];unfold Ix MD mq cA gA Ae ba Li fk;simp only[da,av,aq];rw[wS (UY h.q0 n a.key b.key st),av,aq,wS (UY h.q0 n a.slot b.slot st),av,aq,Zk (UY h.q0 n a.gen b.gen st),av,aq,Zz];have hp:=aA.new st (some ⟨false,[DV.int .i64 (gR a.key b.key),.i (gR a.slot b.slot),.i (gR a.gen b.gen)]⟩);have hs:Sl (st++[some ⟨false,[DV.int .i64 (gR a.key b.key),.i (gR a.slot b.slot),.i (gR a.gen b.gen)]⟩]) (some (st.length,0)) [DV.int .i64 (gR a.key b.key),.i (gR a.slot b.slot),.i (gR a.gen b.gen)]:=Oe st _;generalize (st++[some ⟨false,[DV.int .i64 (gR a.key b.key),.i (gR a.slot b.slot),.i (gR a.gen b.gen)]⟩])=s1 at hp hs;have hor:run Bd (n+2) 162 [.slice 1 (some (st.length,0)) 3] s1=some (.val [.i (if gR a.key b.key≠0 then gR a.key b.key else if gR a.slot b.slot≠0 then gR a.slot b.slot else gR a.gen b.gen)],s1):=by
  rw[Ze,h.q2.eq];unfold ID bZ Q_ cN Zn Li
  try dsimp only
  obtain⟨n,rfl⟩: ∃m,n=m+5:=⟨n-5,AC⟩;rw[aV,aq,Za];have step: ∀(m i:Nat) (z:Int) (R:Option (Out ah×St)),i<3->[DV.int .i64 (gR a.key b.key),.i (gR a.slot b.slot),.i (gR a.gen b.gen)][i]? =some (.i z)->
    (z≠0->R=some (.val [.i z],s1))->∀(F:(ah->M ah)->ah->M ah),True:=Do
  clear step;have ld: ∀(i:Nat) (d:DV) (K:DV->M ah),[DV.int .i64 (gR a.key b.key),.i (gR a.slot b.slot),.i (gR a.gen b.gen)][i]? =some d->bD st.length (i*1+0) K s1=K d s1:=λi d K hd=>hs.dO hd K
  rw[B2,av,aq,oA FS,bc,Zb FS,show(0:Int).toNat=0 from rfl,ld 0 _ _ rfl,bj];by_cases c1:gR a.key b.key=0
  .have e1:(gR a.key b.key==0)=true:=by rw[c1];rfl
   rw[e1,bw,af,bq (by simp[c1]),B2,av,aq,show ar ((0:Int)+1)=1 from Zc,oA FS,bc,Zb FS,show(1:Int).toNat=1 from rfl,ld 1 _ _ rfl,bj];by_cases c2:gR a.slot b.slot=0
   .have e2:(gR a.slot b.slot==0)=true:=by rw[c2];rfl
    rw[e2,bw,af,bq (by simp[c2]),B2,av,aq,show ar ((1:Int)+1)=2 from Zc,oA FS,bc,Zb FS,show(2:Int).toNat=2 from rfl,ld 2 _ _ rfl,bj];by_cases c3:gR a.gen b.gen=0
    .have e3:(gR a.gen b.gen==0)=true:=by rw[c3];rfl
     rw[e3,bw,af,B2,av,aq,show ar ((2:Int)+1)=3 from Zc,oz FS,c3];rfl
    .have e3:(gR a.gen b.gen==0)=false:=eN.2 c3
     rw[e3,bp,ae];rfl
   .have e2:(gR a.slot b.slot==0)=false:=eN.2 c2
    rw[e2,bp,ae,bG c2];rfl
  .have e1:(gR a.key b.key==0)=false:=eN.2 c1
   rw[e1,bp,ae,bG c1];rfl
 rw[Zk hor,av,aq,Zd];refine .mk ⟨_,s1,rfl,hp,?_⟩;grind[fD,gR]
theorem BY (n z:Nat) (l:ak) (k:Int) (p:ai) (st:St) (hz:z=1\/p=none) (hs:Sl st p (ints l)) (hn:l.length+3<=n:=by omega) (hl:l.length<1000000:=by omega):
  Ok (λo=>o=(.val [.bool (decide (k∈l))],st)) (run Bd n 143 [.slice z p l.length,.i k] st):=by
 obtain _|n:=n;omega;rw[Ze,h.ae9];unfold TN oq Q_ cN Zn Lb Li
 try dsimp only
 rw[Zf 1 z p _ hz,av,aq,Za];refine Zj _ (λq x s=>∃i:Nat,x=[.i i]/\i<=l.length/\l.length-i<=q/\s=st/\k∉l.take i) ?_ l.length n _ _ Fd AC;rintro q _ s ⟨i,rfl,hi,hq,rfl,cD⟩ rec aL;simp only[av,aq];by_cases aw:i<l.length
 .have e:decide ((i:Int)<(l.length:Int))=true:=aS AC
  obtain⟨p1,o1,rfl⟩:=hs.cF (by simp[ints];omega);rw[e,ae,bc,Zb (Zi aw),br,hs.dO (d:= .i l[i]) (by simp[ints,aw]),bj];by_cases hk:l[i]=k
  .have e2:(l[i]==k)=true:=by rw[hk];grind
   rw[e2,ae,Zd,aS (by rw[<-hk];simp)];exact .mk rfl
  .have e2:(l[i]==k)=false:=eN.2 hk
   rw[e2,af,Zc];refine aL (l.length-(i+1)) _ _ AC ⟨i+1,rfl,AC,AC,rfl,?_⟩;rw[lV aw];grind
 .have e:decide ((i:Int)<(l.length:Int))=false:=bM AC
  rw[e,af,Zd];rw[dF AC]at cD;rw[bM cD];exact .mk rfl
variable {β:Type}
variable {xs:List dJ}
theorem DZ {x:dJ} (hs:Sl s (some (i,o)) ds) (hh:jo s ds xs) (e:xs[j]? =some x) (K:DV->M β):bD i (j*2+o) K s=K (.str x.name) s:=by
 have⟨_,p,_,_,g2,_,_⟩:=hh.get e;exact hs.get g2 K
theorem I9 {x:dJ} (hs:Sl s (some (i,o)) ds) (hh:jo s ds xs) (e:xs[j]? =some x): ∃p,Sl s p (bY x.cg)/\∀K:ai->Nat->M β,bD i (j*2+o+1) (λd=>dz 4 d K) s=K p x.cg.length s:=by
 have⟨z,p,hz,_,_,g3,g4⟩:=hh.get e;refine⟨p,g4,λK=>?_⟩;have e2:j*2+o+1=(j*2+1)+o:=AC
 rw[e2,hs.get g3,Z3 4 z p _ hz]
variable {l:List bm}
theorem Jf {k:Nat} {x:bm} (hs:Sl s (some (i,o)) (bY l)) (e:l[k]? =some x) (K:ah->M β):bX i (k*4+o) 4 K s=K (fk x) s:=by
 have hk:k<l.length:=Fd
 rw[hs.yN (k:=k*4) (n:=4) (by rw[Zu];omega) K,D1 e]
theorem ZxR {k:Nat} {x:bm} (hs:Sl s (some (i,o)) (bY l)) (e:l[k]? =some x) (K:ah->M β):bX i (k*4+o) 2 K s=K [.i x.slot,.i x.gen] s:=by
 have hk:k<l.length:=Fd
 rw[hs.yN (k:=k*4) (n:=2) (by rw[Zu];omega) K];have:=congrArg (List.take 2) (D1 e);rw[BH]at this;rw[show((bY l).drop (k*4)).take 2=[.i x.slot,.i x.gen]from this]
theorem Zyl {k:Nat} {x:bm} (e:l[k]? =some x) (hm:m<4):(bY l)[k*4+m]? =(fk x)[m]? :=by
 have:=congrArg (λy:ah=>y[m]?) (D1 e);grind
def N0 (l:List dJ):Prop:=l.length<=16/\(∀h∈l,rF h.name=true/\Eb h.cg)/\NO l
def GF (l:List dJ) (i:Nat) (h:dJ):Prop:=rF h.name=true/\∀g,0<i->l[i-1]? =some g->cmpL (dM g.name) (dM h.name)<0
theorem ZuC (l:List dJ) (hl:l.length<=16):N0 l↔ ∀i h,l[i]? =some h->GF l i h/\Eb h.cg:=by
 constructor
 .intro ⟨_,h1,h2⟩ i h e
  refine⟨⟨Fd,λg hi eg=>h2 (i-1) g h eg ?_⟩,Fd⟩;rw[show i-1+1=i by omega];exact e
 .intro h
  refine⟨hl,λx hx=>?_,λi a b ea eb=>?_⟩
  .obtain⟨i,hi,rfl⟩:=H9 hx
   have:=h i _ (cu hi);exact⟨this.1.1,this.2⟩
  .exact(h (i+1) b eb).1.2 a AC (by rw[show i+1-1=i by omega];exact ea)
theorem Zsy (l:List bm):Eb l↔ ∀k a b,1<=k->l[k-1]? =some a->l[k]? =some b->fD a b=true:=by
 constructor
 .intro h k a b hk ha hb
  exact h (k-1) a b ha (by rw[show k-1+1=k by omega];exact hb)
 .intro h i a b ha hb
  grind
structure SzH (l:List dJ):Prop where
 len:l.length<=50000
 cg: ∀h∈l,h.cg.length<=50000
 name: ∀h∈l,h.name.length<=50000
theorem Zq2 (n z:Nat) (l:List dJ) (p:ai) (ds:ah) (st:St) (hz:z=2\/p=none) (hs:Sl st p ds) (hh:jo st ds l) (sz:SzH l) (hn:50100<=n):
  Ok (λo=>∃b s',o=(.val [.bool b],s')/\aA st s'/\(b=true↔N0 l)) (run Bd n 144 [.slice z p l.length] st):=by
 obtain _|n:=n;omega;rw[Ze,h.afa];unfold SN Q_ cN vo bu az N_ sT cA Lb Li Ls B0
 try dsimp only
 rw[Zf 2 z p _ hz,aq];by_cases tq:l.length>16
 .rw[aX,Zd]
  exact .mk ⟨false,st,rfl,.refl _,by grind[N0]⟩
 rw[aZ,Za];have tq:l.length<=16:=AC
 have eL:=ZuC l tq;refine Zj _ (λq x s=>∃i:Nat,x=[.i i]/\i<=l.length/\l.length-i<=q/\aA st s/\∀j h,j<i->l[j]? =some h->GF l j h/\Eb h.cg) ?_ l.length n _ _ ⟨0,rfl,cB _,AC,.refl _,AC⟩ AC;rintro q _ s ⟨i,rfl,hi,hq,hp,ah5⟩ rec aL;simp only[av,aq];by_cases aw:i<l.length;rotate_left
 .rw[aZ,Zd]
  refine .mk ⟨true,s,rfl,hp,?_⟩;grind
 rw[aX];obtain⟨i1,o1,rfl⟩:=hs.cF (by rw[hh.len];omega);have⟨x,hx⟩: ∃x,l[i]? =some x:=⟨_,cu aw⟩;have hxm:=sD hx;have PR:=sz.cg x hxm;have hxn:=sz.name x hxm;rw[Za,bc,Zb (Zi aw),br,DZ (hs.mono hp) (hh.mono hp) hx,xX];refine Ok.call (Zk6 n x.name AC AC s) ?_;rintro _ ⟨s1,rfl,aD⟩;refine⟨_,s1,rfl,?_⟩;rw[au,aq];refine ZxK (λy s=>∃b:Bool,y=[.bool b]/\aA st s/\(b=false↔GF l i x)) ?_ ?_
 .rintro _ s2 ⟨b,rfl,aU,hb⟩
  rw[au,aq];cases b with
  |true=>
   rw[ae,Zd];refine .mk ⟨false,s2,rfl,aU,?_⟩;rw[eL];grind
  |false=>
   have cD:=hb.1 rfl;rw[af,Za];refine Zj _ (λq y s=>∃k:Nat,y=[.i k]/\1<=k/\x.cg.length+1-k<=q/\k<=x.cg.length+1/\aA st s/\∀m a b,1<=m->m<k->x.cg[m-1]? =some a->x.cg[m]? =some b->fD a b=true) ?_ x.cg.length n _ _ ⟨1,rfl,aM _,AC,AC,aU,λm a b h1 h2=>AC⟩ AC;rintro q' _ s3 ⟨k,rfl,kE,hkq,jy,cz,acK⟩ dC kf;rw[av,aq,bc,Zb (Zi aw),br];have⟨pe,pV,le⟩:=I9 (β:=ah) (hs.mono cz) (hh.mono cz) hx;rw[le];by_cases hk:k<x.cg.length
   .rw[aX,bc,Zb (Zi aw),le]
    obtain⟨m,rfl⟩: ∃m,k=m+1:=⟨k-1,AC⟩;obtain⟨pi,po,rfl⟩:=pV.cF (by rw[Zu];omega);have⟨a,ha⟩: ∃a,x.cg[m]? =some a:=⟨_,cu AC⟩;have⟨b,dV⟩: ∃b,x.cg[m+1]? =some b:=⟨_,cu hk⟩;rw[bc,Zc,show(((m+1:Nat):Int)-1)=(m:Int) by omega,Zb (Zi),br,Jf pV ha];unfold fk;simp only[av,aq];rw[bc,Zb (Zi aw),le,bc,Zb (Zi hk),Jf pV dV];unfold fk;simp only[av,aq];have uE:=Sm (n-1) a b s3;rw[show n-1+1=n by omega]at uE;unfold fk at uE;rw[Zk uE,au,aq];cases gf:fD a b with
    |false=>
     rw[bp,ae,Zd];refine .mk ⟨false,s3,rfl,cz,?_⟩;rw[eL,uX,false_iff];intro dt;have:=(Zsy _).1 (dt i x hx).2 (m+1) a b AC (by rw[show m+1-1=m by omega];exact ha) dV;rw[gf]at this;cases this
    |true=>
     rw[bw,af,Zc];refine kf (x.cg.length+1-(m+1+1)) _ _ AC ⟨m+1+1,rfl,AC,AC,AC,cz,?_⟩;intro m' a' b' h1 h2 uB dh;by_cases hm:m'<m+1
     .exact acK m' a' b' h1 hm uB dh
     .have:m'=m+1:=AC
      subst this;rw[show m+1-1=m by omega,ha]at uB;rw[dV]at dh;grind
   .rw[aZ]
    rw[Zc];refine aL (l.length-(i+1)) _ _ AC ⟨i+1,rfl,AC,AC,cz,?_⟩;intro j y hj ey;by_cases mJ:j<i
    .exact ah5 j y mJ ey
    .have:j=i:=AC
     subst this;rw[hx]at ey;cases ey;refine⟨cD,(Zsy _).2 λm a b h1 ha dV=>acK m a b h1 ?_ ha dV⟩;have:=(eB.1 dV).1;omega
 .intro jk vU
  cases hr:rF x.name with
  |false=>
   rw[bp,ae];refine vU _ _ ⟨true,rfl,hp.trans aD,?_⟩;unfold GF;rw[hr];simp
  |true=>
   rw[bw,af,Za];by_cases h0:0<i
   .obtain⟨m,rfl⟩: ∃m,i=m+1:=⟨i-1,AC⟩
    rw[aX];have⟨g,hg⟩: ∃g,l[m]? =some g:=Fd
    have yX:=sz.name g (sD hg);have aU:=hp.trans aD;rw[bc,Zc,show(((m+1:Nat):Int)-1)=(m:Int) by omega,Zb (Zi),br,DZ (hs.mono aU) (hh.mono aU) hg,xX,bc,Zb (Zi aw),DZ (hs.mono aU) (hh.mono aU) hx,xX];refine Ok.call (ZiJ n g.name x.name AC AC AC AC s1) ?_;rintro _ ⟨s2,rfl,cz⟩;refine⟨_,s2,rfl,?_⟩;simp only[av,au,aq];refine vU _ _ ⟨_,rfl,aU.trans cz,?_⟩;unfold GF;rw[hr,show m+1-1=m by omega,hg];grind
   .rw[aZ]
    simp only[au,aq];refine vU _ _ ⟨false,rfl,hp.trans aD,?_⟩;unfold GF;rw[hr];grind
def qy (l:List dJ):List bm:=(l.map (·.cg)).flatten
theorem U1 (x:eR):Zr x=qy x.aK:=rfl
theorem ZuB (l:List dJ) {h:dJ} (e:l[i]? =some h):qy (l.take (i+1))=qy (l.take i)++h.cg:=by
 obtain⟨hi,rfl⟩:=eB.1 e;unfold qy;rw[lV hi,fB,H7,oe,List.map_nil,BE,List.flatten_nil,gM]
theorem Zxc (l:List dJ) (i:Nat):(qy (l.take i)).length<=(qy l).length:=by
 have:qy l=qy (l.take i)++qy (l.drop i):=by
  grind[qy,H7,fB,oX]
 rw[this,bz];omega
theorem Zjj (n:Nat) (x:eR) (z1 z2 z3:Nat) (p1 p2 p3:ai) (st:St) (jA:z1=2\/p1=none) (gp:z2=1\/p2=none) (jP:z3=1\/p3=none) (hr:jK st x p1 p2 p3)
  (hl:x.aK.length<=50000) (he:(Zr x).length<=50000) (hn:50100<=n:=by omega):
  Ok (λo=>∃q s',o=(.val [.slice 4 q (Zr x).length],s')/\aA st s'/\Sl s' q (bY (Zr x))) (run Bd n 142 [.agg (dw x z1 p1 z2 p2 z3 p3)] st):=by
 obtain _|n:=n;omega;rw[Ze,h.ae8];unfold Sg vq DP cW N_ sJ iH
 try dsimp only
 have ag: ∀(l:ah) (K:ah->ah->M ah),bh (.agg (dw x z1 p1 z2 p2 z3 p3)::l) K=K (dw x z1 p1 z2 p2 z3 p3) l:=λ_ _=>rfl
 rw[ag];unfold dw;simp only[av,Zf 2 z1 p1 _ jA,Zf 1 z2 p2 _ gp,Zf 1 z3 p3 _ jP,aq];rw[ZJ,Za];have⟨ds,hs,hh⟩:=hr.hp;rw[U1]at he;rw[U1];refine Zj _ (λq y s=>∃(i z:Nat) (a:ai),y=[.slice z a (qy (x.aK.take i)).length,.i i]/\(z=4\/a=none)/\i<=x.aK.length/\x.aK.length-i<=q/\bg st s a (bY (qy (x.aK.take i)))) ?_ x.aK.length n _ _ ⟨0,0,none,rfl,.inr rfl,cB _,AC,bg.nil (.refl _)⟩ AC;rintro q _ s ⟨i,z,a,rfl,hz,hi,hq,ho⟩ rec aL;rw[Zf 4 z a _ hz,av,aq];by_cases aw:i<x.aK.length
 .rw[aX]
  obtain⟨i1,o1,rfl⟩:=hs.cF (by rw[hh.len];omega);have⟨g,hg⟩: ∃g,x.aK[i]? =some g:=⟨_,cu aw⟩;rw[bc,Zb (Zi aw),br];have⟨pe,pV,le⟩:=I9 (β:=ah) (hs.mono ho.1) (hh.mono ho.1) hg;rw[le,<-Zu,iC pV];have et:=ZuB x.aK hg;have hle:=Zxc x.aK (i+1);rw[et,bz]at hle;rw[Zc];by_cases h0:0<g.cg.length
  .have⟨q2,s2,g1,g2⟩:=ho.app (β:=ah) (sz:=4) (n:=(qy (x.aK.take i)).length) (m:=g.cg.length) (lim:=2199023255552) (ds:=bY g.cg) AC (Zu _) h0 AC
   rw[g2];exact aL (x.aK.length-(i+1)) _ _ AC ⟨i+1,4,q2,by rw[et,bz];rfl,.inl rfl,AC,AC,by rw[et,Am];exact g1⟩
  .have e0:g.cg=[]:=Fd
   rw[e0]at et⊢;rw[show(bY []:ah)=[]from rfl,show(([]:List bm).length)=0 from rfl,Zzj];rw[gM]at et;exact aL (x.aK.length-(i+1)) _ _ AC ⟨i+1,4,a,by rw[et];rfl,.inl rfl,AC,AC,by rw[et];exact ho⟩
 .rw[aZ]
  have:i=x.aK.length:=AC
  subst this;rw[oY]at ho⊢;simp only[aV,aq,Zp];exact .mk ⟨a,_,rfl,Zq ho.1,ho.sl.dU _⟩
def lv (n:Nat) (D:ak):ah:=(List.range n).map λ(k:Nat)=>DV.bool (decide ((k:Int)∈D))
theorem ZwI (n:Nat) (D:ak):(lv n D).length=n:=by simp[lv]
theorem ZAx (h:0<=k/\k<(n:Int)):(lv n D)[k.toNat]? =some (.bool (decide (k∈D))):=by
 grind[br,lv,sC]
theorem ZAT (h:0<=k/\k<(n:Int)):cG (lv n D) (k.toNat*1) [.bool true]=lv n (D++[k]):=by
 obtain⟨m,rfl⟩: ∃m:Nat,k=(m:Int):=⟨k.toNat,AC⟩;rw[br,cS,Ce _ _ _ (by rw[ZwI];omega)];refine tU λj=>?_
 rw[List.getElem?_set];unfold lv;by_cases hj:j<n
 .grind
 grind
theorem ZAL (n:Nat):iD n [.bool false]=lv n []:=by
 unfold iD lv;refine tU λj=>?_
 have:(List.replicate n [DV.bool false]).flatten=List.replicate n (DV.bool false):=by
  simp
 rw[this];by_cases hj:j<n
 .simp[hj]
 grind
theorem Au (h:0<=k/\k<(n:Int)):aP k n=true:=by grind[aP]
theorem WB {x:eR} (h:0<=k/\k<(x.aF.length:Int)):(ints x.aF)[k.toNat]? =some (.i (iK x k)):=by
 grind[ints,iK]
theorem Qf: ∀(n:Nat) (l:ak),l.Nodup->(∀k∈l,0<=k/\k<(n:Int))->l.length<=n
 |0,l,_,h=>by
  cases l with
  |nil=>exact aM _
  |cons k l=>have:=h k (tV);omega
 |n+1,l,hd,h=>by
  have h1:=Qf n (l.erase (n:Int)) (hd.erase _) Fd;rw[List.length_erase]at h1;grind
structure BQ (x:eR):Prop where
 h:SzH x.aK
 e:(Zr x).length<=50000
 g:x.aF.length<=50000
 f:x.free.length<=50000
theorem Wm (hs:s[i]? =some (some ⟨false,lv n D⟩)) (h:0<=k/\k<(n:Int)) (K:DV->M β):bD i (k.toNat*1) K s=K (.bool (decide (k∈D))) s:=by
 rw[cS];exact Zo hs (ZAx h) K
def l8 (l:List bm):ak:=l.map (·.slot)
theorem ZvT (l:List bm) (h:i<l.length):l8 (l.take (i+1))=l8 (l.take i)++[l[i].slot]:=by
 unfold l8;rw[lV h,fB];rfl
theorem UN {l:ak} :(l++[k]).Nodup↔l.Nodup/\k∉l:=by
 rw[sE];grind
theorem Vr {l m:ak} (h:(l++m).Nodup):l.Nodup:=(sE.1 h).1
theorem ZuF {x:eR} (h:sL x) (i:Nat):(l8 ((Zr x).take i)).Nodup:=by
 have h1:(l8 (Zr x)).Nodup:=Vr h.nodup;have e:l8 (Zr x)=l8 ((Zr x).take i)++l8 ((Zr x).drop i):=by
  simp[l8]
 rw[e]at h1;exact Vr h1
theorem ZvU {x:eR} (h:sL x):x.free.Nodup:=(sE.1 h.nodup).2.1
theorem ZtJ (n:Nat) (x:eR) (z1 z2 z3:Nat) (p1 p2 p3:ai) (st:St) (jA:z1=2\/p1=none) (gp:z2=1\/p2=none) (jP:z3=1\/p3=none) (hr:jK st x p1 p2 p3)
  (sz:BQ x) (hn:50200<=n):
  Ok (λo=>∃b s',o=(.val [.bool b],s')/\aA st s'/\(b=true↔sL x)) (run Bd n 133 [.agg (dw x z1 p1 z2 p2 z3 p3)] st):=by
 obtain _|n:=n;omega;rw[Ze,h.ae4];unfold Uk vq bu az Q_ cN Zn pJ N_ je vw Lb ye Li ep
 try dsimp only
 have ag: ∀(l:ah) (K:ah->ah->M ah),bh (.agg (dw x z1 p1 z2 p2 z3 p3)::l) K=K (dw x z1 p1 z2 p2 z3 p3) l:=λ_ _=>rfl
 rw[ag];unfold dw;simp only[av,Zf 2 z1 p1 _ jA,Zf 1 z2 p2 _ gp,Zf 1 z3 p3 _ jP,aq];have hsg:=sz.g;have no: ∀s,aA st s->¬sL x->Ok (λo=>∃b s',o=(.val [.bool b],s')/\aA st s'/\(b=true↔sL x)) ((ax [.bool false]:M ah) s):=by
  intro s hp hm;rw[Zd];exact .mk Fd
 have AZ:=ZkN (n-1) x.blocks x.dc x.g st;rw[show n-1+1=n by omega]at AZ;rw[Zk AZ,au,aq,Za];cases hg:pS x.blocks x.dc x.g with
 |false=>
  rw[bp,ae];simp only[au,aq];rw[Za,ae];simp only[au,aq];rw[ae];exact no st (.refl _) λhm=>by have:=hm.J3;rw[hg]at this;cases this
 |true=>
 rw[bw,af];simp only[au,aq];rw[Za];by_cases c1:(x.aF.length:Int)>x.dc
 .rw[aX c1]
  simp only[au,aq];rw[ae];exact no st (.refl _) λhm=>by have:=hm.dc;omega
 rw[aZ c1];have⟨ds,hs,hh⟩:=hr.hp;refine Ok.call (Zq2 n 2 x.aK p1 ds st (.inl rfl) hs hh sz.h AC) ?_;rintro _ ⟨b,s1,rfl,aD,hb⟩;refine⟨_,s1,rfl,?_⟩;simp only[au,aq];cases b with
 |false=>
  rw[bp,ae];exact no s1 aD λhm=>by
   have:=hb.2 ⟨hm.Ez,hm.right,hm.order⟩;cases this
 |true=>
 have Yl:N0 x.aK:=hb.1 rfl;rw[bw,af];refine Ok.call (Zjj n x 2 1 1 p1 p2 p3 s1 (.inl rfl) (.inl rfl) (.inl rfl) (hr.pre aD) sz.h.len sz.e) ?_;rintro _ ⟨qe,s2,rfl,aU,hE⟩;refine⟨_,s2,rfl,?_⟩;rw[aV,aq];have aU:=aD.trans aU;rw[Za];by_cases c2:((Zr x).length:Int)>(x.aF.length:Int)
 .rw[aX c2]
  simp only[au,aq];rw[ae];refine no s2 aU λhm=>?_
  have:=Qf x.aF.length _ hm.nodup hm.range;rw[bz,lB]at this;omega
 rw[aZ c2];simp only[au,aq];by_cases c3:(x.free.length:Int)>(x.aF.length:Int)
 .rw[aX c3]
  refine no s2 aU λhm=>?_
  have:=Qf x.aF.length _ hm.nodup hm.range;rw[bz,lB]at this;omega
 rw[aZ c3,Zb (by simp;omega),Zz,br,ZAL,Za,Za,Za];have aij:=(hr.gn.mono aU);refine Zj _ (λq y s=>∃i:Nat,y=[.i i]/\i<=(Zr x).length/\(Zr x).length-i<=q/\aA s2 s/\s[s2.length]? =some (some ⟨false,lv x.aF.length (l8 ((Zr x).take i))⟩)/\
   (l8 ((Zr x).take i)).Nodup/\∀e∈(Zr x).take i,(0<=e.slot/\e.slot<(x.aF.length:Int))/\iK x e.slot=e.gen) ?_ (Zr x).length n _ _ ⟨0,rfl,cB _,AC,.new _ _,by simp[l8],by simp[l8],Do⟩ AC
 rintro q _ s ⟨i,rfl,hi,hq,hp,eX,jz,dt⟩ rec aL;rw[av,aq];by_cases aw:i<(Zr x).length
 .rw[aX]
  obtain⟨ei,eo,rfl⟩:=hE.cF (by rw[Zu];omega);have he:(Zr x)[i]? =some (Zr x)[i]:=cu aw;have cd:=ZvT _ aw;have He: ¬((0<=(Zr x)[i].slot/\(Zr x)[i].slot<(x.aF.length:Int))/\iK x (Zr x)[i].slot=(Zr x)[i].gen)->¬sL x:=λcD hm=>
   cD ⟨hm.range _ Fd,hm.gen _ (ku aw)⟩
  have uP:(Zr x).take (i+1)=(Zr x).take i++[(Zr x)[i]]:=lV aw;generalize O3:(Zr x)[i]=e at he cd He uP;rw[bc,Zb (Zi aw),br,ZxR (hE.mono hp) he];simp only[av,aq];have aja:=aU.trans hp;rw[Za];by_cases d1:e.slot<0
  .rw[aX d1]
   simp only[au,aq];rw[Za,ae];simp only[au,aq];rw[Za,ae];simp only[au,aq];rw[ae];grind
  rw[aZ d1];simp only[au,aq];rw[Za];by_cases d2:e.slot>=(x.aF.length:Int)
  .rw[aX d2]
   simp only[au,aq];rw[Za,ae];simp only[au,aq];rw[ae];grind
  rw[aZ d2];have gT:0<=e.slot/\e.slot<(x.aF.length:Int):=AC
  rw[Zb (Au gT),Wm eX gT];simp only[sH,au,aq];rw[Za];by_cases d3:e.slot∈l8 ((Zr x).take i)
  .rw[aX d3]
   simp only[au,aq];rw[ae];refine no s aja λhm=>?_
   have:=ZuF hm (i+1);rw[cd]at this;grind
  rw[aZ d3];obtain⟨gi,go,rfl⟩:=hr.gn.cF (by simp[ints];omega);rw[bc,Zb (Au gT),(aij.mono hp).dO (WB gT)];simp only[bj,au,aq];by_cases d4:iK x e.slot=e.gen
  .rw[show(e.gen==iK x e.slot)=true by rw[d4];grind,bw,af,Zb (Au gT),NF eX (by rw[ZwI];simp;omega),ZAT gT]
   rw[Zc];refine aL ((Zr x).length-(i+1)) _ _ AC ⟨i+1,rfl,AC,AC,rB hp (aM _) _,?_,?_,?_⟩
   .rw[cd]
    grind
   .rw[cd]
    exact UN.2 ⟨jz,d3⟩
   grind
  grind
 rw[aZ];have:i=(Zr x).length:=AC
 subst this;rw[oY]at eX jz dt;clear aL rec;have cz:=aU.trans hp;have dW:=hr.fr.mono cz;have yX:=hr.gn.mono cz;have XR: ∀k∈x.free,¬((0<=k/\k<(x.aF.length:Int))/\k∉l8 (Zr x)/\iK x k<x.g)->¬sL x:=λk hk cD hm=>
  cD ⟨hm.range _ (Ma _ hk),λjy=>(sE.1 hm.nodup).2.2 k jy k hk rfl,hm.low k hk⟩
 refine Zj _ (λq y s'=>∃i:Nat,y=[.i i]/\i<=x.free.length/\x.free.length-i<=q/\s'=s/\(x.free.take i).Nodup/\∀k∈x.free.take i,(0<=k/\k<(x.aF.length:Int))/\k∉l8 (Zr x)/\iK x k<x.g) ?_ x.free.length n _ _
  ⟨0,rfl,cB _,AC,rfl,Do,Do⟩ AC
 rintro q' _ s' ⟨i,rfl,Hm,tC,rfl,YA,Kd⟩ rec aL;simp only[av,aq];by_cases aw:i<x.free.length
 .rw[aX]
  obtain⟨fi,fo,rfl⟩:=hr.fr.cF (by simp[ints];omega);rw[bc,Zb (Zi aw),br,dW.dO (d:= .i x.free[i]) (by simp[ints,aw])];simp only[bj];have XR:=XR _ (ku aw);have uP:x.free.take (i+1)=x.free.take i++[x.free[i]]:=lV aw;generalize x.free[i]=k at XR uP;rw[Za];by_cases d1:k<0
  .rw[aX d1]
   simp only[au,aq];rw[Za,ae];simp only[au,aq];rw[Za,ae];simp only[au,aq];rw[Za,ae];simp only[au,aq];rw[ae];grind
  rw[aZ d1];simp only[au,aq];rw[Za];by_cases d2:k>=(x.aF.length:Int)
  .rw[aX d2]
   simp only[au,aq];rw[Za,ae];simp only[au,aq];rw[Za,ae];simp only[au,aq];rw[ae];grind
  rw[aZ d2];have gT:0<=k/\k<(x.aF.length:Int):=AC
  rw[Zb (Au gT),Wm eX gT];simp only[sH,au,aq];rw[Za];by_cases d3:k∈l8 (Zr x)
  .rw[aX d3]
   simp only[au,aq];rw[Za,ae];simp only[au,aq];rw[ae];grind
  rw[aZ d3];obtain⟨gi,go,rfl⟩:=hr.gn.cF (by simp[ints];omega);rw[bc,Zb (Au gT),yX.dO (WB gT)];simp only[bj,au,aq];rw[Za];by_cases d4:iK x k>=x.g
  .rw[aX d4]
   simp only[au,aq];rw[ae];grind
  rw[aZ d4,Zb (by simp;omega)];have xr:Sl s' (some (fi,fo)) (ints (x.free.take i)):=by
   have⟨f,all,h1,h2,h3⟩:=dW;have j6:(ints (x.free.take i)).length=i:=by simp[ints];omega
   have eE:(ints x.free).length=x.free.length:=by simp[ints]
   refine⟨f,all,h1,AC,?_⟩;have:=congrArg (List.take i) h3;rw[BH,eE,og AC]at this;rw[j6,this];unfold ints;rw[List.map_take]
  have hlen:(x.free.take i).length=i:=by simp;omega
  have acs:=BY n 1 (x.free.take i) k (some (fi,fo)) s' (.inl rfl) xr;rw[hlen]at acs;refine Ok.call acs ?_;rintro _ rfl;refine⟨_,s',rfl,?_⟩;simp only[au,aq];by_cases d5:k∈x.free.take i
  .rw[aX d5]
   refine no s' cz λhm=>?_
   have:=ZvU hm;rw[<-oX (i+1) x.free]at this;have:=Vr this;rw[uP]at this;exact(UN.1 this).2 d5
  .rw[aZ d5,Zc]
   refine aL (x.free.length-(i+1)) _ _ AC ⟨i+1,rfl,AC,AC,rfl,?_,?_⟩
   .rw[uP]
    exact UN.2 ⟨YA,d5⟩
   .intro k' nM
    rw[uP]at nM;rcases gI.1 nM with h|h
    .exact Kd k' h
    .rw[cE.1 h]
     grind
 rw[aZ];have:i=x.free.length:=AC
 subst this;rw[oY]at YA Kd;clear aL rec;have Ke: ∀i:Nat,i<x.aF.length->¬(1<=iK x i/\iK x i<=x.g/\((i:Int)∉l8 (Zr x)->iK x i<x.g->(i:Int)∈x.free))->¬sL x:=by
  intro i hi cD hm;have hv:iK x (i:Int)∈x.aF:=by
   unfold iK;rw[br,ef,cu hi];grind
  refine cD ⟨(hm.aF _ hv).1,(hm.aF _ hv).2,λh1 h2=>?_⟩;refine Classical.byContradiction λh3=>?_
  have:=hm.rest i hi (λh4=>by
   rcases gI.1 h4 with h|h
   .exact h1 h
   .exact h3 h)
  omega
 refine Zj _ (λq y qQ=>∃i:Nat,y=[.i i]/\i<=x.aF.length/\x.aF.length-i<=q/\qQ=s'/\∀j:Nat,j<i->1<=iK x j/\iK x j<=x.g/\((j:Int)∉l8 (Zr x)->iK x j<x.g->(j:Int)∈x.free)) ?_ x.aF.length n _ _
  ⟨0,rfl,cB _,AC,rfl,AC⟩ AC
 rintro q'' _ qQ ⟨i,rfl,alj,alx,rfl,XQ⟩ rec aL;simp only[av,aq];by_cases aw:i<x.aF.length
 .rw[aX]
  obtain⟨gi,go,rfl⟩:=hr.gn.cF (by simp[ints];omega);have gT:0<=(i:Int)/\(i:Int)<(x.aF.length:Int):=AC
  have Ke:=Ke i aw;have ld: ∀K:DV->M ah,bD gi ((i:Int).toNat*1+go) K qQ=K (.i (iK x i)) qQ:=λK=>yX.dO (WB gT) K
  rw[bc,Zb (Au gT),ld];simp only[bj];rw[Za];by_cases d1:iK x i<1
  .rw[aX d1]
   simp only[au,aq];rw[Za,ae];simp only[au,aq];rw[ae];exact no qQ cz (Ke AC)
  rw[aZ d1,bc,Zb (Au gT),ld];simp only[bj,au,aq];rw[Za];by_cases d2:iK x i>x.g
  .rw[aX d2]
   simp only[au,aq];rw[ae];exact no qQ cz (Ke AC)
  rw[aZ d2,Zb (Au gT),Wm eX gT];simp only[sH];have Xw:(1<=iK x i/\iK x i<=x.g/\((i:Int)∉l8 (Zr x)->iK x i<x.g->(i:Int)∈x.free))->Ok (λo=>∃b s',o=(.val [.bool b],s')/\aA st s'/\(b=true↔sL x)) (rec [.i (ar ((i:Int)+1))] qQ):=by
   intro ail;rw[Zc];refine aL (x.aF.length-(i+1)) _ _ AC ⟨i+1,rfl,AC,AC,rfl,λj hj=>?_⟩;by_cases mJ:j<i
   .exact XQ j mJ
   .have:j=i:=AC
    subst this;exact ail
  rw[Za];by_cases d3:(i:Int)∈l8 (Zr x)
  .rw[aS d3,bw,af]
   simp only[au,aq];rw[Za,af];simp only[au,aq];rw[af];exact Xw ⟨AC,AC,λh=>absurd d3 h⟩
  rw[bM d3,bp,ae,bc,Zb (Au gT),ld];simp only[bj,au,aq];rw[Za];by_cases d4:iK x i<x.g
  .rw[aX d4]
   refine Ok.call (BY n 1 x.free i p3 qQ (.inl rfl) dW) ?_;rintro _ rfl;refine⟨_,qQ,rfl,?_⟩;simp only[au,aq];by_cases d5:(i:Int)∈x.free
   .rw[aS d5,bw,af]
    exact Xw ⟨AC,AC,λ_ _=>d5⟩
   .rw[bM d5,bp,ae]
    exact no qQ cz (Ke λhh=>d5 (hh.2.2 d3 d4))
  .rw[aZ d4]
   simp only[au,aq];rw[af];exact Xw AC
 rw[aZ,Zd];have:i=x.aF.length:=AC
 subst this;refine .mk ⟨true,qQ,rfl,cz,?_⟩;simp only[true_iff];exact {
  J3:=hg
  dc:=AC
  Ez:=Yl.1
  right:=Yl.2.1
  order:=Yl.2.2
  nodup:=sE.2 ⟨jz,YA,λa ha b hb=>by rintro rfl;exact(Kd a hb).2.1 ha⟩
  range:=λk hk=>by
   rcases gI.1 hk with h|h
   .obtain⟨e,he,rfl⟩:=oW.1 h
    exact(dt e he).1
   .exact(Kd k h).1
  gen:=λe he=>(dt e he).2
  low:=λk hk=>(Kd k hk).2.2
  aF:=λv hv=>by
   obtain⟨i,hi,rfl⟩:=H9 hv;have:=XQ i hi;unfold iK at this;rw[br,ef,cu hi]at this;exact⟨this.1,this.2.1⟩
  rest:=λi hi cD=>by
   have:=XQ i hi;refine Int.not_lt.1 λaw=>cD ?_
   by_cases hs:(i:Int)∈l8 (Zr x)
   .exact List.mem_append_left _ hs
   .exact Ma _ (this.2.2 hs aw) }
theorem J_f (f:Nat) (ff fc r:ah) (K:Nat->ah->ah->ah->M β):Wo (.func f ff fc::r) K=K f ff fc r:=rfl
theorem Zp0 (n z f:Nat) (ff fc:ah) (l:ak) (p:ai) (st:St) (P:Int->Bool) (hz:z=1\/p=none) (hs:Sl st p (ints l)) (hn:l.length+10<=n) (hl:l.length<1000000)
  (hc: ∀v∈l,run Bd (n-2) f (ff++[.i v]++fc) st=some (.val [.bool (P v)],st)):
  run Bd n 147 [.slice z p l.length,.func f ff fc] st=some (.val [.bool (l.any P)],st):=by
 obtain⟨n,rfl⟩: ∃m,n=m+2:=⟨n-2,AC⟩;rw[Ze,h.afc];unfold QZ cA Lb
 try dsimp only
 rw[Zf 1 z p _ hz,J_f,aq];have gT:Ok (λo=>∃y:Int,o=(.val [.i y],st)/\decide (y>=0)=l.any P) (run Bd (n+1) 156 [.slice 1 p l.length,.func f ff fc] st):=by
  rw[Ze,h.afe];unfold QX Q_ cN Zn bu Li
  try dsimp only
  rw[aV,J_f,aq,Za];refine Zj _ (λq y s=>∃i:Nat,y=[.i i]/\i<=l.length/\l.length-i<=q/\s=st/\∀v∈l.take i,P v=false) ?_ l.length n _ _ Fd AC;rintro q _ s ⟨i,rfl,hi,hq,rfl,cD⟩ rec aL;simp only[av,aq];by_cases aw:i<l.length
  .obtain⟨i1,o1,rfl⟩:=hs.cF (by simp[ints];omega)
   rw[aX,bc,Zb (Zi aw),br,hs.dO (d:= .i l[i]) (by simp[ints,aw]),bj];have hv:=hc l[i] (ku aw);rw[show n+2-2=n by omega]at hv;rw[Zk hv,au,aq];cases hp:P l[i]with
   |true=>
    rw[ae,Zd];refine .mk ⟨_,rfl,?_⟩;rw[aS AC,List.any_eq_true.2 ⟨_,ku aw,hp⟩]
   |false=>
    rw[af,Zc];refine aL (l.length-(i+1)) _ _ AC ⟨i+1,rfl,AC,AC,rfl,?_⟩;intro v hv;rw[lV aw]at hv;grind
  .rw[aZ,Zd]
   rw[dF AC]at cD;refine .mk ⟨_,rfl,?_⟩;rw[show decide ((-1:Int)>=0)=false from rfl];grind
 obtain⟨_,e,y,rfl,hy⟩:=gT;rw[Zk e];simp[av,aq,hy,Zd]
end Go.Gv.F
