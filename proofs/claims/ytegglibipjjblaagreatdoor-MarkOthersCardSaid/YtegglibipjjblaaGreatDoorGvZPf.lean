/- States: in memory; which ones may be; small functions over them. -/
import Derived.Test.YtegglibipjjblaaGreatDoorGvBMk
import Derived.Test.YtegglibipjjblaaGreatDoorGvZPe
import Derived.Test.YtegglibipjjblaaGreatDoorGvZPa
import Derived.Test.YtegglibipjjblaaGreatDoorGvZBod
set_option linter.all false
namespace Go.Gv.F
open Go.Gv
structure bc where
 slot:Int
 gen:Int
 key:Int
 value:Int
structure di where
 name:aj
 bS:List bc
structure eL where
 blocks:Int
 cJ:Int
 g:Int
 aS:List di
 aG:ak
 free:ak
def eN (e:bc):ah:=[.int .i64 e.slot,.int .i64 e.gen,.int .i64 e.key,.int .i64 e.value]
def bK (l:List bc):ah:=(l.map eN).flatten
theorem Zq (l:List bc):(bK l).length=l.length*4:=by
 unfold bK;induction l with
 |nil=>rfl
 |cons e l ih=>rw[pF,De,bA,ih,cO];show 4+_=_;omega
theorem DS: ∀ {l:List bc} {j:Nat} {e:bc},l[j]? =some e->((bK l).drop (j*4)).take 4=eN e
 |[],j,e,h=>by simp at h
 |x::l,0,e,h=>by
  simp only[lh,fQ]at h;subst h;rw[qK,dA];rfl
 |x::l,j+1,e,h=>by
  have e2:bK (x::l)=eN x++bK l:=rfl;rw[e2,show(j+1)*4=(eN x).length+j*4 by show _=4+_;omega,<-kd,Bi];exact DS (by simpa using h)
theorem xT (l m:List bc):bK (l++m)=bK l++bK m:=by
 simp[bK]
def ju (h:di) (z:Nat) (p:ai):ah:=[.str h.name,.slice z p h.bS.length]
def iZ (s:St):ah->List di->Prop
 |ds,[]=>ds=[]
 |ds,x::r=>∃z p t,(z=4\/p=none)/\ds=ju x z p++t/\Sl s p (bK x.bS)/\iZ s t r
theorem wy (x:di) (z:Nat) (p:ai):(ju x z p).length=2:=rfl
theorem tF {β:Type} (sz z:Nat) (a:ai) (n:Nat) (h:z=sz\/a=none) (K:ai->Nat->M β):dB sz (.slice z a n) K=K a n:=by
 rcases h with rfl|rfl
 .exact lq _ _ _ _
 simp
theorem iZ.len {s:St} : ∀ {ds:ah} {xs:List di},iZ s ds xs->ds.length=xs.length*2
 |ds,[],h=>by rw[show ds=[]from h];rfl
 |ds,x::r,⟨z,p,t,_,h1,_,h3⟩=>by rw[h1,bA,h3.len,wy,cO];omega
theorem iZ.mono {s s':St} (k:aC s s'): ∀ {ds:ah} {xs:List di},iZ s ds xs->iZ s' ds xs
 |_,[],h=>h
 |_,_::_,⟨z,p,t,hz,h1,h2,h3⟩=>⟨z,p,t,hz,h1,h2.mono k,h3.mono k⟩
theorem iZ.get {s:St} : ∀ {ds:ah} {xs:List di},iZ s ds xs->∀ {j:Nat} {x:di},xs[j]? =some x->∃z p,(z=4\/p=none)/\(ds.drop (j*2)).take 2=ju x z p/\ds[j*2]? =some (.str x.name)/\ds[j*2+1]? =some (.slice z p x.bS.length)/\Sl s p (bK x.bS)
 |_,[],_,j,x,e=>by simp at e
 |ds,y::r,⟨zq,q,t,IB,h1,h2,h3⟩,0,x,e=>by
  simp only[lh,fQ]at e;subst e;subst h1;exact⟨zq,q,IB,rfl,rfl,rfl,h2⟩
 |ds,y::r,⟨zq,q,t,IB,h1,h2,h3⟩,j+1,x,e=>by
  obtain⟨z,p,hz,g1,g2,g3,g4⟩:=h3.get (j:=j) (x:=x) (by simpa using e);refine⟨z,p,hz,?_,?_,?_,g4⟩
  .rw[h1,show(j+1)*2=(ju y zq q).length+j*2 by rw[wy];omega,<-kd,Bi]
   exact g1
  .rw[h1,mb (by rw[wy];omega),wy,show(j+1)*2-2=j*2 by omega]
   exact g2
  .rw[h1,mb (by rw[wy];omega),wy,show(j+1)*2+1-2=j*2+1 by omega]
   exact g3
def dD (x:eL) (z1:Nat) (p1:ai) (z2:Nat) (p2:ai) (z3:Nat) (p3:ai):ah:=
 [.int .i64 x.blocks,.int .i64 x.cJ,.int .i64 x.g,.slice z1 p1 x.aS.length,.slice z2 p2 x.aG.length,.slice z3 p3 x.free.length]
structure na (s:St) (x:eL) (p1 p2 p3:Option (Nat×Nat)):Prop where
 hp: ∃ds,Sl s p1 ds/\iZ s ds x.aS
 gn:Sl s p2 (ints x.aG)
 fr:Sl s p3 (ints x.free)
variable {k:Int} {i j n o:Nat} {s s':St} {ds:ah} {D m:ak}
theorem na.pre {x:eL} {p1 p2 p3:ai} (h:na s x p1 p2 p3) (k:aC s s'):na s' x p1 p2 p3:=
 let ⟨ds,h1,h2⟩:=h.hp
 ⟨⟨ds,h1.mono k,h2.mono k⟩,h.gn.mono k,h.fr.mono k⟩
def oa (b s g:Int):Bool:=decide (b>=16)&&(decide (b<=3072)&&(decide (s>=1)&&(decide (s<=1792)&&(decide (g>=1)&&decide (g<=4294967295)))))
def eY (a b:bc):Bool:=if a.key≠b.key then decide (a.key<b.key)else if a.slot≠b.slot then decide (a.slot<b.slot)else decide (a.gen<b.gen)
def GV (l:List bc):Prop:=∀i a b,l[i]? =some a->l[i+1]? =some b->eY a b=true
def Zq8 (l:List di):Prop:=∀i a b,l[i]? =some a->l[i+1]? =some b->cmpL (dh a.name) (dh b.name)<0
def Zr (x:eL):List bc:=(x.aS.map (·.bS)).flatten
def iQ (x:eL) (k:Int):Int:=x.aG.getD k.toNat 0
structure tx (x:eL):Prop where
 Hu:oa x.blocks x.cJ x.g=true
 cJ:(x.aG.length:Int)<=x.cJ
 Ew:x.aS.length<=16
 right: ∀h∈x.aS,qU h.name=true/\GV h.bS
 order:Zq8 x.aS
 nodup:((Zr x).map (·.slot)++x.free).Nodup
 range: ∀k∈(Zr x).map (·.slot)++x.free,0<=k/\k<(x.aG.length:Int)
 gen: ∀e∈Zr x,iQ x e.slot=e.gen
 low: ∀k∈x.free,iQ x k<x.g
 aG: ∀v∈x.aG,1<=v/\v<=x.g
 rest: ∀i,i<x.aG.length->((i:Int)∉(Zr x).map (·.slot)++x.free)->x.g<=iQ x i
theorem Znu (b s g:Int) (st:St) (X:Zg->Nat->ah->M ah) (hX: ∀c n,X c n [.agg [.int .i64 b,.int .i64 s,.int .i64 g]] st=Gm c n [.agg [.int .i64 b,.int .i64 s,.int .i64 g]] st) (c:Zg) (n:Nat):
  X c n [.agg [.int .i64 b,.int .i64 s,.int .i64 g]] st=some (.val [.bool (oa b s g)],st):=by
 rw[hX];unfold Gm BK az Lb oa;simp only[cG,av,aq];cases decide (b>=16)with
 |false=>simp only[Za,af,au,aq];rfl
 |true=>
 cases decide (b<=3072)with
 |false=>simp only[Za,af,ae,au,aq];rfl
 |true=>
 cases decide (s>=1)with
 |false=>simp only[Za,af,ae,au,aq];rfl
 |true=>
 cases decide (s<=1792)with
 |false=>simp only[Za,af,ae,au,aq];rfl
 |true=>
 cases decide (g>=1)with
 |false=>simp only[Za,af,ae,au,aq];rfl
 |true=>
  simp only[Za,ae,au,aq];rfl
variable {Bd:Zh} [h:HA Bd]
theorem ZkC (n:Nat) (b s g:Int) (st:St):run Bd (n+1) 145 [.agg [.int .i64 b,.int .i64 s,.int .i64 g]] st=some (.val [.bool (oa b s g)],st):=by
 rw[Ze,h.aaY];exact Znu b s g st Gm (λ_ _=>rfl) _ _
theorem Zjw (n:Nat) (b s g:Int) (st:St):run Bd (n+1) 141 [.agg [.int .i64 b,.int .i64 s,.int .i64 g]] st=some (.val [.bool (oa b s g)],st):=by
 rw[Ze,h.aaU];exact Znu b s g st O3 (λ_ _=>rfl) _ _
theorem Oy (n:Nat) (a b:bc) (st:St):run Bd (n+1) 155 [.agg (eN a),.agg (eN b)] st=some (.val [.bool (eY a b)],st):=by
 rw[Ze,h.aa0];unfold Pn JD Lb eN eY;simp only[cG,av,aq];by_cases h1:a.key=b.key
 .have e1:(a.key==b.key)=true:=by rw[h1];simp
  rw[e1,bp,af,ba (by simp[h1])];by_cases h2:a.slot=b.slot
  .have e2:(a.slot==b.slot)=true:=by rw[h2];simp
   rw[e2,bp,af,ba (by simp[h2])];rfl
  .have e2:(a.slot==b.slot)=false:=dX.2 h2
   rw[e2,bm,ae,bG h2];rfl
 .have e1:(a.key==b.key)=false:=dX.2 h1
  rw[e1,bm,ae,bG h1];rfl
def gu (x y:Int):Int:=if x<y then-1 else if x>y then 1 else 0
theorem QY {Bd:Zh} (h:F9 Bd) (n:Nat) (x y:Int) (st:St):run Bd (n+2) 161 [.int .i64 x,.int .i64 y] st=some (.val [.int .i64 (gu x y)],st):=by
 have e: ∀z:Int,run Bd (n+1) 163 [.int .i64 z] st=some (.val [.bool false],st):=by
  intro z;rw[Ze,h.q1.eq];unfold F6 cy Lb;simp[av,aq,Bo,bp,Zd]
 rw[Ze,h.eq];unfold F8 gK aY Li gu;simp only[av,aq];rw[Zk (e x)];simp only[au,aq];rw[Zk (e y)];simp only[au,aq,af];by_cases h1:x<y
 .rw[aw h1,ae,bG h1];rfl
 .rw[aD h1,af,ba h1]
  by_cases h2:x>y
  .rw[aw h2,ae,bG h2];rfl
  .rw[aD h2,af,ba h2];rfl
theorem Xd {Bd:Zh} (h:Dz Bd) (n:Nat) (hn:8<=n) (a b:bc) (st:St):
  Ok (λo=>∃z s',o=(.val [.int .i64 z],s')/\aC st s'/\decide (z>=0)= !eY a b) (run Bd n 159 [.agg (eN a),.agg (eN b)] st):=by
 obtain⟨n,rfl⟩: ∃m,n=m+3:=⟨n-3,by omega⟩;rw[Ze,h.eq];unfold Gc JD mh cM fW xQ bE Li eN;simp only[cG,av,aq];rw[wu (QY h.q0 n a.key b.key st)];simp only[av,aq];rw[wu (QY h.q0 n a.slot b.slot st)];simp only[av,aq];rw[Zk (QY h.q0 n a.gen b.gen st)];simp only[av,aq];rw[Zz];have hp:=aC.new st (some ⟨false,[DV.int .i64 (gu a.key b.key),.int .i64 (gu a.slot b.slot),.int .i64 (gu a.gen b.gen)]⟩);have hs:Sl (st++[some ⟨false,[DV.int .i64 (gu a.key b.key),.int .i64 (gu a.slot b.slot),.int .i64 (gu a.gen b.gen)]⟩]) (some (st.length,0)) [DV.int .i64 (gu a.key b.key),.int .i64 (gu a.slot b.slot),.int .i64 (gu a.gen b.gen)]:=Lm st _;generalize (st++[some ⟨false,[DV.int .i64 (gu a.key b.key),.int .i64 (gu a.slot b.slot),.int .i64 (gu a.gen b.gen)]⟩])=s1 at hp hs;have hor:run Bd (n+2) 162 [.slice 1 (some (st.length,0)) 3] s1=some (.val [.int .i64 (if gu a.key b.key≠0 then gu a.key b.key else if gu a.slot b.slot≠0 then gu a.slot b.slot else gu a.gen b.gen)],s1):=by
  rw[Ze,h.q2.eq];unfold Gl cm Q_ cH Zn Li;obtain⟨n,rfl⟩: ∃m,n=m+5:=⟨n-5,by omega⟩;simp only[bd,aq];rw[Za];have step: ∀(m i:Nat) (z:Int) (R:Option (Out ah×St)),i<3->[DV.int .i64 (gu a.key b.key),.int .i64 (gu a.slot b.slot),.int .i64 (gu a.gen b.gen)][i]? =some (.int .i64 z)->
    (z≠0->R=some (.val [.int .i64 z],s1))->∀(F:(ah->M ah)->ah->M ah),True:=by simp
  clear step;have ld: ∀(i:Nat) (d:DV) (K:DV->M ah),[DV.int .i64 (gu a.key b.key),.int .i64 (gu a.slot b.slot),.int .i64 (gu a.gen b.gen)][i]? =some d->bF st.length (i*1+0) K s1=K d s1:=λi d K hd=>hs.dF hd K
  rw[zO];simp only[av,aq];rw[show decide ((0:Int)<((3:Nat):Int))=true from rfl,ae,aZ,Zb (by rfl)];rw[show(0:Int).toNat=0 from rfl,ld 0 _ _ rfl];simp only[aX];by_cases c1:gu a.key b.key=0
  .have e1:(gu a.key b.key==0)=true:=by rw[c1];rfl
   rw[e1,bp,af,ba (by simp[c1]),zO];simp only[av,aq];rw[show ar ((0:Int)+1)=1 from Zc,show decide ((1:Int)<((3:Nat):Int))=true from rfl,ae,aZ,Zb (by rfl)];rw[show(1:Int).toNat=1 from rfl,ld 1 _ _ rfl];simp only[aX];by_cases c2:gu a.slot b.slot=0
   .have e2:(gu a.slot b.slot==0)=true:=by rw[c2];rfl
    rw[e2,bp,af,ba (by simp[c2]),zO];simp only[av,aq];rw[show ar ((1:Int)+1)=2 from Zc,show decide ((2:Int)<((3:Nat):Int))=true from rfl,ae,aZ,Zb (by rfl)];rw[show(2:Int).toNat=2 from rfl,ld 2 _ _ rfl];simp only[aX];by_cases c3:gu a.gen b.gen=0
    .have e3:(gu a.gen b.gen==0)=true:=by rw[c3];rfl
     rw[e3,bp,af,zO];simp only[av,aq];rw[show ar ((2:Int)+1)=3 from Zc,show decide ((3:Int)<((3:Nat):Int))=false from rfl,af,c3];rfl
    .have e3:(gu a.gen b.gen==0)=false:=dX.2 c3
     rw[e3,bm,ae];rfl
   .have e2:(gu a.slot b.slot==0)=false:=dX.2 c2
    rw[e2,bm,ae,bG c2];rfl
  .have e1:(gu a.key b.key==0)=false:=dX.2 c1
   rw[e1,bm,ae,bG c1];rfl
 rw[Zk hor];simp only[av,aq,Zd];refine .mk ⟨_,s1,rfl,hp,?_⟩;grind[eY,gu]
theorem BC (n z:Nat) (l:ak) (k:Int) (p:ai) (st:St) (hz:z=1\/p=none) (hs:Sl st p (ints l)) (hn:l.length+3<=n:=by omega) (hl:l.length<1000000:=by omega):
  Ok (λo=>o=(.val [.bool (decide (k∈l))],st)) (run Bd n 143 [.slice z p l.length,.int .i64 k] st):=by
 obtain⟨n,rfl⟩: ∃m,n=m+1:=⟨n-1,by omega⟩;rw[Ze,h.aaW];unfold QC qV Q_ cH Zn Lb Li;simp only[Zf 1 z p _ hz,av,aq];rw[Za];refine Zj _ (λq x s=>∃i:Nat,x=[.int .i64 i]/\i<=l.length/\l.length-i<=q/\s=st/\k∉l.take i) ?_ l.length n _ _ (by grind) (by omega);rintro q _ s ⟨i,rfl,hi,hq,rfl,cA⟩ rec aQ;simp only[av,aq];by_cases ax:i<l.length
 .have e:decide ((i:Int)<(l.length:Int))=true:=aw (by omega)
  obtain⟨p1,o1,rfl⟩:=hs.cB (by simp[ints];omega);rw[e,ae,aZ,Zb (Zi ax),br,hs.dF (d:= .int .i64 l[i]) (by simp[ints,ax])];simp only[aX];by_cases hk:l[i]=k
  .have e2:(l[i]==k)=true:=by rw[hk];grind
   rw[e2,ae,Zd,aw (by rw[<-hk];simp)];exact .mk rfl
  .have e2:(l[i]==k)=false:=dX.2 hk
   rw[e2,af,Zc];refine aQ (l.length-(i+1)) _ _ (by omega) ⟨i+1,rfl,by omega,by omega,rfl,?_⟩;rw[mV ax];grind
 .have e:decide ((i:Int)<(l.length:Int))=false:=aD (by omega)
  rw[e,af,Zd];rw[dH (by omega)]at cA;rw[aD cA];exact .mk rfl
variable {β:Type}
variable {xs:List di}
theorem BG {x:di} (hs:Sl s (some (i,o)) ds) (hh:iZ s ds xs) (e:xs[j]? =some x) (K:DV->M β):bF i (j*2+o) K s=K (.str x.name) s:=by
 obtain⟨_,p,_,_,g2,_,_⟩:=hh.get e;exact hs.get g2 K
theorem GB {x:di} (hs:Sl s (some (i,o)) ds) (hh:iZ s ds xs) (e:xs[j]? =some x): ∃p,Sl s p (bK x.bS)/\∀K:ai->Nat->M β,bF i (j*2+o+1) (λd=>dB 4 d K) s=K p x.bS.length s:=by
 obtain⟨z,p,hz,_,_,g3,g4⟩:=hh.get e;refine⟨p,g4,λK=>?_⟩;have e2:j*2+o+1=(j*2+1)+o:=by omega
 rw[e2,hs.get g3,tF 4 z p _ hz]
variable {l:List bc}
theorem GN {k:Nat} {x:bc} (hs:Sl s (some (i,o)) (bK l)) (e:l[k]? =some x) (K:ah->M β):bQ i (k*4+o) 4 K s=K (eN x) s:=by
 have hk:k<l.length:=by grind
 rw[hs.wY (k:=k*4) (n:=4) (by rw[Zq];omega) K,DS e]
theorem Zvd {k:Nat} {x:bc} (hs:Sl s (some (i,o)) (bK l)) (e:l[k]? =some x) (K:ah->M β):bQ i (k*4+o) 2 K s=K [.int .i64 x.slot,.int .i64 x.gen] s:=by
 have hk:k<l.length:=by grind
 rw[hs.wY (k:=k*4) (n:=2) (by rw[Zq];omega) K];have:=congrArg (List.take 2) (DS e);rw[Dk]at this;rw[show((bK l).drop (k*4)).take 2=[.int .i64 x.slot,.int .i64 x.gen]from this]
def K3 (l:List di):Prop:=l.length<=16/\(∀h∈l,qU h.name=true/\GV h.bS)/\Zq8 l
def Ei (l:List di) (i:Nat) (h:di):Prop:=qU h.name=true/\∀g,0<i->l[i-1]? =some g->cmpL (dh g.name) (dh h.name)<0
theorem ZsK (l:List di) (hl:l.length<=16):K3 l↔ ∀i h,l[i]? =some h->Ei l i h/\GV h.bS:=by
 constructor
 .intro ⟨_,h1,h2⟩ i h e
  refine⟨⟨(by grind),λg hi eg=>h2 (i-1) g h eg ?_⟩,(by grind)⟩;rw[show i-1+1=i by omega];exact e
 .intro h
  refine⟨hl,λx hx=>?_,λi a b ea eb=>?_⟩
  .obtain⟨i,hi,rfl⟩:=FO hx
   have:=h i _ (cg hi);exact⟨this.1.1,this.2⟩
  .exact(h (i+1) b eb).1.2 a (by omega) (by rw[show i+1-1=i by omega];exact ea)
theorem Zqu (l:List bc):GV l↔ ∀k a b,1<=k->l[k-1]? =some a->l[k]? =some b->eY a b=true:=by
 constructor
 .intro h k a b hk ha hb
  exact h (k-1) a b ha (by rw[show k-1+1=k by omega];exact hb)
 .intro h i a b ha hb
  grind
structure NG (l:List di):Prop where
 len:l.length<=50000
 bS: ∀h∈l,h.bS.length<=50000
 name: ∀h∈l,h.name.length<=50000
theorem Zoj (n z:Nat) (l:List di) (p:ai) (ds:ah) (st:St) (hz:z=2\/p=none) (hs:Sl st p ds) (hh:iZ st ds l) (sz:NG l) (hn:50100<=n):
  Ok (λo=>∃b s',o=(.val [.bool b],s')/\aC st s'/\(b=true↔K3 l)) (run Bd n 144 [.slice z p l.length] st):=by
 obtain⟨n,rfl⟩: ∃m,n=m+1:=⟨n-1,by omega⟩;rw[Ze,h.aaX];unfold Pf Q_ cH tD aY az N_ oJ cM Lb Li Ls zw;simp only[Zf 2 z p _ hz,aq];by_cases rk:l.length>16
 .rw[aw (show(l.length:Int)>16 by omega),ae,Zd]
  exact .mk ⟨false,st,rfl,.refl _,by grind[K3]⟩
 rw[aD (show ¬(l.length:Int)>16 by omega),af,Za];have rk:l.length<=16:=by omega
 have fu:=ZsK l rk;refine Zj _ (λq x s=>∃i:Nat,x=[.int .i64 i]/\i<=l.length/\l.length-i<=q/\aC st s/\∀j h,j<i->l[j]? =some h->Ei l j h/\GV h.bS) ?_ l.length n _ _ ⟨0,rfl,cE _,by omega,.refl _,by omega⟩ (by omega);rintro q _ s ⟨i,rfl,hi,hq,hp,adA⟩ rec aQ;simp only[av,aq];by_cases ax:i<l.length;rotate_left
 .rw[aD (show ¬(i:Int)<(l.length:Int) by omega),af,Zd]
  refine .mk ⟨true,s,rfl,hp,?_⟩;grind
 rw[aw (show(i:Int)<(l.length:Int) by omega),ae];obtain⟨i1,o1,rfl⟩:=hs.cB (by rw[hh.len];omega);obtain⟨x,hx⟩: ∃x,l[i]? =some x:=⟨_,cg ax⟩;have hxm:=qJ hx;have ML:=sz.bS x hxm;have hxn:=sz.name x hxm;rw[Za,aZ,Zb (Zi ax),br,BG (hs.mono hp) (hh.mono hp) hx];simp only[wh];refine Ok.call (Zjy n x.name (by omega) (by omega) s) ?_;rintro _ ⟨s1,rfl,aH⟩;refine⟨_,s1,rfl,?_⟩;simp only[au,aq];refine Zvf (λy s=>∃b:Bool,y=[.bool b]/\aC st s/\(b=false↔Ei l i x)) ?_ ?_
 .rintro _ s2 ⟨b,rfl,aV,hb⟩
  simp only[au,aq];cases b with
  |true=>
   rw[ae,Zd];refine .mk ⟨false,s2,rfl,aV,?_⟩;rw[fu];grind
  |false=>
   have cA:=hb.1 rfl;rw[af,Za];refine Zj _ (λq y s=>∃k:Nat,y=[.int .i64 k]/\1<=k/\x.bS.length+1-k<=q/\k<=x.bS.length+1/\aC st s/\∀m a b,1<=m->m<k->x.bS[m-1]? =some a->x.bS[m]? =some b->eY a b=true) ?_ x.bS.length n _ _ ⟨1,rfl,aO _,by omega,by omega,aV,λm a b h1 h2=>by omega⟩ (by omega);rintro q' _ s3 ⟨k,rfl,jG,hkq,iR,ck,X2⟩ dt j4;simp only[av,aq];rw[aZ,Zb (Zi ax),br];obtain⟨pe,rr,le⟩:=GB (β:=ah) (hs.mono ck) (hh.mono ck) hx;rw[le];by_cases hk:k<x.bS.length
   .rw[aw (show(k:Int)<(x.bS.length:Int) by omega),ae,aZ,Zb (Zi ax),le]
    obtain⟨m,rfl⟩: ∃m,k=m+1:=⟨k-1,by omega⟩;obtain⟨pi,po,rfl⟩:=rr.cB (by rw[Zq];omega);obtain⟨a,ha⟩: ∃a,x.bS[m]? =some a:=⟨_,cg (by omega)⟩;obtain⟨b,ec⟩: ∃b,x.bS[m+1]? =some b:=⟨_,cg hk⟩;rw[aZ,Zc,show(((m+1:Nat):Int)-1)=(m:Int) by omega,Zb (Zi),br,GN rr ha];unfold eN;simp only[av,aq];rw[aZ,Zb (Zi ax),le];rw[aZ,Zb (Zi hk),GN rr ec];unfold eN;simp only[av,aq];have sQ:=Oy (n-1) a b s3;rw[show n-1+1=n by omega]at sQ;unfold eN at sQ;rw[Zk sQ];simp only[au,aq];cases fL:eY a b with
    |false=>
     rw[bm,ae,Zd];refine .mk ⟨false,s3,rfl,ck,?_⟩;rw[fu];simp only[tg,false_iff];intro cQ;have:=(Zqu _).1 (cQ i x hx).2 (m+1) a b (by omega) (by rw[show m+1-1=m by omega];exact ha) ec;rw[fL]at this;cases this
    |true=>
     rw[bp,af,Zc];refine j4 (x.bS.length+1-(m+1+1)) _ _ (by omega) ⟨m+1+1,rfl,by omega,by omega,by omega,ck,?_⟩;intro m' a' b' h1 h2 Cj cU;by_cases hm:m'<m+1
     .exact X2 m' a' b' h1 hm Cj cU
     .have:m'=m+1:=by omega
      subst this;rw[show m+1-1=m by omega]at Cj;rw[ha]at Cj;rw[ec]at cU;grind
   .rw[aD (show ¬(k:Int)<(x.bS.length:Int) by omega),af]
    rw[Zc];refine aQ (l.length-(i+1)) _ _ (by omega) ⟨i+1,rfl,by omega,by omega,ck,?_⟩;intro j y hj ey;by_cases kz:j<i
    .exact adA j y kz ey
    .have:j=i:=by omega
     subst this;rw[hx]at ey;cases ey;refine⟨cA,(Zqu _).2 λm a b h1 ha ec=>X2 m a b h1 ?_ ha ec⟩;have:=(eK.1 ec).1;omega
 .intro jk uh
  cases hr:qU x.name with
  |false=>
   rw[bm,ae];refine uh _ _ ⟨true,rfl,hp.trans aH,?_⟩;unfold Ei;rw[hr];simp
  |true=>
   rw[bp,af,Za];by_cases h0:0<i
   .obtain⟨m,rfl⟩: ∃m,i=m+1:=⟨i-1,by omega⟩
    rw[aw (show((m+1:Nat):Int)>0 by omega),ae];obtain⟨g,hg⟩: ∃g,l[m]? =some g:=by grind
    have vv:=sz.name g (qJ hg);have aV:=hp.trans aH;rw[aZ,Zc,show(((m+1:Nat):Int)-1)=(m:Int) by omega,Zb (Zi),br,BG (hs.mono aV) (hh.mono aV) hg];simp only[wh];rw[aZ,Zb (Zi ax),BG (hs.mono aV) (hh.mono aV) hx];simp only[wh];refine Ok.call (Zh7 n g.name x.name (by omega) (by omega) (by omega) (by omega) s1) ?_;rintro _ ⟨s2,rfl,ck⟩;refine⟨_,s2,rfl,?_⟩;simp only[av,au,aq];refine uh _ _ ⟨_,rfl,aV.trans ck,?_⟩;unfold Ei;rw[hr,show m+1-1=m by omega,hg];grind
   .rw[aD (show ¬(i:Int)>0 by omega),af]
    simp only[au,aq];refine uh _ _ ⟨false,rfl,hp.trans aH,?_⟩;unfold Ei;rw[hr];grind
def oO (l:List di):List bc:=(l.map (·.bS)).flatten
theorem Ql (x:eL):Zr x=oO x.aS:=rfl
theorem Zsf (l:List di) {h:di} (e:l[i]? =some h):oO (l.take (i+1))=oO (l.take i)++h.bS:=by
 obtain⟨hi,rfl⟩:=eK.1 e;unfold oO;rw[mV hi,fB,Jj,pF,List.map_nil,De,List.flatten_nil,gA]
theorem Zu4 (l:List di) (i:Nat):(oO (l.take i)).length<=(oO l).length:=by
 have:oO l=oO (l.take i)++oO (l.drop i):=by
  grind[oO,Jj,fB,oA]
 rw[this,bA];omega
theorem ZmV (n:Nat) (x:eL) (z1 z2 z3:Nat) (p1 p2 p3:ai) (st:St) (hU:z1=2\/p1=none) (gy:z2=1\/p2=none) (kD:z3=1\/p3=none) (hr:na st x p1 p2 p3)
  (hl:x.aS.length<=50000) (he:(Zr x).length<=50000) (hn:50100<=n):
  Ok (λo=>∃q s',o=(.val [.slice 4 q (Zr x).length],s')/\aC st s'/\Sl s' q (bK (Zr x))) (run Bd n 142 [.agg (dD x z1 p1 z2 p2 z3 p3)] st):=by
 obtain⟨n,rfl⟩: ∃m,n=m+1:=⟨n-1,by omega⟩;rw[Ze,h.aaV];unfold OJ ZD Bx cy N_ tw jQ;have ag: ∀(l:ah) (K:ah->ah->M ah),bj (.agg (dD x z1 p1 z2 p2 z3 p3)::l) K=K (dD x z1 p1 z2 p2 z3 p3) l:=λ_ _=>rfl
 rw[ag];unfold dD;simp only[av,Zf 2 z1 p1 _ hU,Zf 1 z2 p2 _ gy,Zf 1 z3 p3 _ kD,aq];rw[kl,Za];obtain⟨ds,hs,hh⟩:=hr.hp;rw[Ql]at he;rw[Ql];refine Zj _ (λq y s=>∃(i z:Nat) (a:ai),y=[.slice z a (oO (x.aS.take i)).length,.int .i64 i]/\(z=4\/a=none)/\i<=x.aS.length/\x.aS.length-i<=q/\bn st s a (bK (oO (x.aS.take i)))) ?_ x.aS.length n _ _ ⟨0,0,none,rfl,.inr rfl,cE _,by omega,bn.nil (.refl _)⟩ (by omega);rintro q _ s ⟨i,z,a,rfl,hz,hi,hq,ho⟩ rec aQ;simp only[Zf 4 z a _ hz,av,aq];by_cases ax:i<x.aS.length
 .rw[aw (show(i:Int)<(x.aS.length:Int) by omega),ae]
  obtain⟨i1,o1,rfl⟩:=hs.cB (by rw[hh.len];omega);obtain⟨g,hg⟩: ∃g,x.aS[i]? =some g:=⟨_,cg ax⟩;rw[aZ,Zb (Zi ax),br];obtain⟨pe,rr,le⟩:=GB (β:=ah) (hs.mono ho.1) (hh.mono ho.1) hg;rw[le];rw[<-Zq,jf rr];have et:=Zsf x.aS hg;have hle:=Zu4 x.aS (i+1);rw[et,bA]at hle;rw[Zc];by_cases h0:0<g.bS.length
  .obtain⟨q2,s2,g1,g2⟩:=ho.app (β:=ah) (sz:=4) (n:=(oO (x.aS.take i)).length) (m:=g.bS.length) (lim:=2199023255552) (ds:=bK g.bS) (by omega) (Zq _) h0 (by omega)
   rw[g2];exact aQ (x.aS.length-(i+1)) _ _ (by omega) ⟨i+1,4,q2,by rw[et,bA];rfl,.inl rfl,by omega,by omega,by rw[et,xT];exact g1⟩
  .have e0:g.bS=[]:=by grind
   rw[e0]at et⊢;rw[show(bK []:ah)=[]from rfl,show(([]:List bc).length)=0 from rfl,ZwJ];rw[gA]at et;exact aQ (x.aS.length-(i+1)) _ _ (by omega) ⟨i+1,4,a,by rw[et];rfl,.inl rfl,by omega,by omega,by rw[et];exact ho⟩
 .rw[aD (show ¬(i:Int)<(x.aS.length:Int) by omega),af]
  have:i=x.aS.length:=by omega
  subst this;rw[sc]at ho⊢;simp only[bd,aq,Zu];exact .mk ⟨a,_,rfl,Zv ho.1,ho.sl.fK _⟩
def lv (n:Nat) (D:ak):ah:=(List.range n).map λ(k:Nat)=>DV.bool (decide ((k:Int)∈D))
theorem ZuZ (n:Nat) (D:ak):(lv n D).length=n:=by simp[lv]
theorem Zx1 (h:0<=k/\k<(n:Int)):(lv n D)[k.toNat]? =some (.bool (decide (k∈D))):=by
 grind[br,lv,xN]
theorem ZxT (h:0<=k/\k<(n:Int)):cq (lv n D) (k.toNat*1) [.bool true]=lv n (D++[k]):=by
 obtain⟨m,rfl⟩: ∃m:Nat,k=(m:Int):=⟨k.toNat,by omega⟩;rw[br,cT,BV _ _ _ (by rw[ZuZ];omega)];refine qH λj=>?_
 rw[List.getElem?_set];unfold lv;by_cases hj:j<n
 .grind
 grind
theorem ZxN (n:Nat):hZ n [.bool false]=lv n []:=by
 unfold hZ lv;refine qH λj=>?_
 have:(List.replicate n [DV.bool false]).flatten=List.replicate n (DV.bool false):=by
  simp
 rw[this];by_cases hj:j<n
 .simp[hj]
 grind
theorem xX (h:0<=k/\k<(n:Int)):aP k n=true:=by grind[aP]
theorem SH {x:eL} (h:0<=k/\k<(x.aG.length:Int)):(ints x.aG)[k.toNat]? =some (.int .i64 (iQ x k)):=by
 grind[ints,iQ]
theorem M5: ∀(n:Nat) (l:ak),l.Nodup->(∀k∈l,0<=k/\k<(n:Int))->l.length<=n
 |0,l,_,h=>by
  cases l with
  |nil=>exact aO _
  |cons k l=>have:=h k (sb);omega
 |n+1,l,hd,h=>by
  have h1:=M5 n (l.erase (n:Int)) (hd.erase _) (by grind);rw[List.length_erase]at h1;grind
structure By (x:eL):Prop where
 h:NG x.aS
 e:(Zr x).length<=50000
 g:x.aG.length<=50000
 f:x.free.length<=50000
theorem SG (hs:s[i]? =some (some ⟨false,lv n D⟩)) (h:0<=k/\k<(n:Int)) (K:DV->M β):bF i (k.toNat*1) K s=K (.bool (decide (k∈D))) s:=by
 rw[cT];exact Zo hs (Zx1 h) K
def kS (l:List bc):ak:=l.map (·.slot)
theorem ZtK (l:List bc) (h:i<l.length):kS (l.take (i+1))=kS (l.take i)++[l[i].slot]:=by
 unfold kS;rw[mV h,fB];rfl
theorem Qt {l:ak} :(l++[k]).Nodup↔l.Nodup/\k∉l:=by
 rw[uI];grind
theorem Rv {l:ak} (h:(l++m).Nodup):l.Nodup:=(uI.1 h).1
theorem ZsM {x:eL} (h:tx x) (i:Nat):(kS ((Zr x).take i)).Nodup:=by
 have h1:(kS (Zr x)).Nodup:=Rv h.nodup;have e:kS (Zr x)=kS ((Zr x).take i)++kS ((Zr x).drop i):=by
  simp[kS]
 rw[e]at h1;exact Rv h1
theorem Zt3 {x:eL} (h:tx x):x.free.Nodup:=(uI.1 h.nodup).2.1
theorem ZqP (n:Nat) (x:eL) (z1 z2 z3:Nat) (p1 p2 p3:ai) (st:St) (hU:z1=2\/p1=none) (gy:z2=1\/p2=none) (kD:z3=1\/p3=none) (hr:na st x p1 p2 p3)
  (sz:By x) (hn:50200<=n):
  Ok (λo=>∃b s',o=(.val [.bool b],s')/\aC st s'/\(b=true↔tx x)) (run Bd n 133 [.agg (dD x z1 p1 z2 p2 z3 p3)] st):=by
 obtain⟨n,rfl⟩: ∃m,n=m+1:=⟨n-1,by omega⟩;rw[Ze,h.aaR];unfold Qa ZD aY az Q_ cH Zn sE N_ gK tP Lb zy Li eU;have ag: ∀(l:ah) (K:ah->ah->M ah),bj (.agg (dD x z1 p1 z2 p2 z3 p3)::l) K=K (dD x z1 p1 z2 p2 z3 p3) l:=λ_ _=>rfl
 rw[ag];unfold dD;simp only[av,Zf 2 z1 p1 _ hU,Zf 1 z2 p2 _ gy,Zf 1 z3 p3 _ kD,aq];have hsg:=sz.g;have no: ∀s,aC st s->¬tx x->Ok (λo=>∃b s',o=(.val [.bool b],s')/\aC st s'/\(b=true↔tx x)) ((ay [.bool false]:M ah) s):=by
  intro s hp hm;rw[Zd];exact .mk (by grind)
 have ER:=Zjw (n-1) x.blocks x.cJ x.g st;rw[show n-1+1=n by omega]at ER;rw[Zk ER];simp only[au,aq];rw[Za];cases hg:oa x.blocks x.cJ x.g with
 |false=>
  rw[bm,ae];simp only[au,aq];rw[Za,ae];simp only[au,aq];rw[ae];exact no st (.refl _) λhm=>by have:=hm.Hu;rw[hg]at this;cases this
 |true=>
 rw[bp,af];simp only[au,aq];rw[Za];by_cases c1:(x.aG.length:Int)>x.cJ
 .rw[aw c1,ae]
  simp only[au,aq];rw[ae];exact no st (.refl _) λhm=>by have:=hm.cJ;omega
 rw[aD c1,af];obtain⟨ds,hs,hh⟩:=hr.hp;refine Ok.call (Zoj n 2 x.aS p1 ds st (.inl rfl) hs hh sz.h (by omega)) ?_;rintro _ ⟨b,s1,rfl,aH,hb⟩;refine⟨_,s1,rfl,?_⟩;simp only[au,aq];cases b with
 |false=>
  rw[bm,ae];exact no s1 aH λhm=>by
   have:=hb.2 ⟨hm.Ew,hm.right,hm.order⟩;cases this
 |true=>
 have UG:K3 x.aS:=hb.1 rfl;rw[bp,af];refine Ok.call (ZmV n x 2 1 1 p1 p2 p3 s1 (.inl rfl) (.inl rfl) (.inl rfl) (hr.pre aH) sz.h.len sz.e (by omega)) ?_;rintro _ ⟨qe,s2,rfl,aV,hE⟩;refine⟨_,s2,rfl,?_⟩;simp only[bd,aq];have aV:=aH.trans aV;rw[Za];by_cases c2:((Zr x).length:Int)>(x.aG.length:Int)
 .rw[aw c2,ae]
  simp only[au,aq];rw[ae];refine no s2 aV λhm=>?_
  have:=M5 x.aG.length _ hm.nodup hm.range;rw[bA,uG]at this;omega
 rw[aD c2,af];simp only[au,aq];by_cases c3:(x.free.length:Int)>(x.aG.length:Int)
 .rw[aw c3,ae]
  refine no s2 aV λhm=>?_
  have:=M5 x.aG.length _ hm.nodup hm.range;rw[bA,uG]at this;omega
 rw[aD c3,af];rw[Zb (by simp;omega),Zz,br,ZxN];rw[Za,Za,Za];have adL:=(hr.gn.mono aV);refine Zj _ (λq y s=>∃i:Nat,y=[.int .i64 i]/\i<=(Zr x).length/\(Zr x).length-i<=q/\aC s2 s/\s[s2.length]? =some (some ⟨false,lv x.aG.length (kS ((Zr x).take i))⟩)/\
   (kS ((Zr x).take i)).Nodup/\∀e∈(Zr x).take i,(0<=e.slot/\e.slot<(x.aG.length:Int))/\iQ x e.slot=e.gen) ?_ (Zr x).length n _ _ ⟨0,rfl,cE _,by omega,.new _ _,by simp[kS],by simp[kS],by simp⟩ (by omega)
 rintro q _ s ⟨i,rfl,hi,hq,hp,fg,jw,cQ⟩ rec aQ;simp only[av,aq];by_cases ax:i<(Zr x).length
 .rw[aw (show(i:Int)<((Zr x).length:Int) by omega),ae]
  obtain⟨ei,eo,rfl⟩:=hE.cB (by rw[Zq];omega);have he:(Zr x)[i]? =some (Zr x)[i]:=cg ax;have cc:=ZtK _ ax;have EJ: ¬((0<=(Zr x)[i].slot/\(Zr x)[i].slot<(x.aG.length:Int))/\iQ x (Zr x)[i].slot=(Zr x)[i].gen)->¬tx x:=λcA hm=>
   cA ⟨hm.range _ (by grind),hm.gen _ (jP ax)⟩
  have vD:(Zr x).take (i+1)=(Zr x).take i++[(Zr x)[i]]:=mV ax;generalize hee:(Zr x)[i]=e at he cc EJ vD;rw[aZ,Zb (Zi ax),br,Zvd (hE.mono hp) he];simp only[av,aq];have aeC:=aV.trans hp;rw[Za];by_cases d1:e.slot<0
  .rw[aw d1,ae]
   simp only[au,aq];rw[Za,ae];simp only[au,aq];rw[Za,ae];simp only[au,aq];rw[ae];grind
  rw[aD d1,af];simp only[au,aq];rw[Za];by_cases d2:e.slot>=(x.aG.length:Int)
  .rw[aw d2,ae]
   simp only[au,aq];rw[Za,ae];simp only[au,aq];rw[ae];grind
  rw[aD d2,af];have gx:0<=e.slot/\e.slot<(x.aG.length:Int):=by omega
  rw[Zb (xX gx),SG fg gx];simp only[tq,au,aq];rw[Za];by_cases d3:e.slot∈kS ((Zr x).take i)
  .rw[aw d3,ae]
   simp only[au,aq];rw[ae];refine no s aeC λhm=>?_
   have:=ZsM hm (i+1);rw[cc]at this;grind
  rw[aD d3,af];obtain⟨gi,go,rfl⟩:=hr.gn.cB (by simp[ints];omega);rw[aZ,Zb (xX gx),(adL.mono hp).dF (SH gx)];simp only[aX,au,aq];by_cases d4:iQ x e.slot=e.gen
  .rw[show(e.gen==iQ x e.slot)=true by rw[d4];grind,bp,af,Zb (xX gx),KF fg (by rw[ZuZ];simp;omega),ZxT gx]
   rw[Zc];refine aQ ((Zr x).length-(i+1)) _ _ (by omega) ⟨i+1,rfl,by omega,by omega,zU hp (aO _) _,?_,?_,?_⟩
   .rw[cc]
    grind
   .rw[cc]
    exact Qt.2 ⟨jw,d3⟩
   grind
  grind
 rw[aD (show ¬(i:Int)<((Zr x).length:Int) by omega),af];have:i=(Zr x).length:=by omega
 subst this;rw[sc]at fg jw cQ;clear aQ rec;have ck:=aV.trans hp;have eO:=hr.fr.mono ck;have vv:=hr.gn.mono ck;have Ue: ∀k∈x.free,¬((0<=k/\k<(x.aG.length:Int))/\k∉kS (Zr x)/\iQ x k<x.g)->¬tx x:=λk hk cA hm=>
  cA ⟨hm.range _ (List.mem_append_right _ hk),λiR=>(uI.1 hm.nodup).2.2 k iR k hk rfl,hm.low k hk⟩
 refine Zj _ (λq y s'=>∃i:Nat,y=[.int .i64 i]/\i<=x.free.length/\x.free.length-i<=q/\s'=s/\(x.free.take i).Nodup/\∀k∈x.free.take i,(0<=k/\k<(x.aG.length:Int))/\k∉kS (Zr x)/\iQ x k<x.g) ?_ x.free.length n _ _
  ⟨0,rfl,cE _,by omega,rfl,by simp,by simp⟩ (by omega)
 rintro q' _ s' ⟨i,rfl,ET,yG,rfl,US,HD⟩ rec aQ;simp only[av,aq];by_cases ax:i<x.free.length
 .rw[aw (show(i:Int)<(x.free.length:Int) by omega),ae]
  obtain⟨fi,fo,rfl⟩:=hr.fr.cB (by simp[ints];omega);rw[aZ,Zb (Zi ax),br,eO.dF (d:= .int .i64 x.free[i]) (by simp[ints,ax])];simp only[aX];have Ue:=Ue _ (jP ax);have vD:x.free.take (i+1)=x.free.take i++[x.free[i]]:=mV ax;generalize x.free[i]=k at Ue vD;rw[Za];by_cases d1:k<0
  .rw[aw d1,ae]
   simp only[au,aq];rw[Za,ae];simp only[au,aq];rw[Za,ae];simp only[au,aq];rw[Za,ae];simp only[au,aq];rw[ae];grind
  rw[aD d1,af];simp only[au,aq];rw[Za];by_cases d2:k>=(x.aG.length:Int)
  .rw[aw d2,ae]
   simp only[au,aq];rw[Za,ae];simp only[au,aq];rw[Za,ae];simp only[au,aq];rw[ae];grind
  rw[aD d2,af];have gx:0<=k/\k<(x.aG.length:Int):=by omega
  rw[Zb (xX gx),SG fg gx];simp only[tq,au,aq];rw[Za];by_cases d3:k∈kS (Zr x)
  .rw[aw d3,ae]
   simp only[au,aq];rw[Za,ae];simp only[au,aq];rw[ae];grind
  rw[aD d3,af];obtain⟨gi,go,rfl⟩:=hr.gn.cB (by simp[ints];omega);rw[aZ,Zb (xX gx),vv.dF (SH gx)];simp only[aX,au,aq];rw[Za];by_cases d4:iQ x k>=x.g
  .rw[aw d4,ae]
   simp only[au,aq];rw[ae];grind
  rw[aD d4,af,Zb (by simp;omega)];have yK:Sl s' (some (fi,fo)) (ints (x.free.take i)):=by
   obtain⟨f,all,h1,h2,h3⟩:=eO;have jX:(ints (x.free.take i)).length=i:=by simp[ints];omega
   have ew:(ints x.free).length=x.free.length:=by simp[ints]
   refine⟨f,all,h1,by omega,?_⟩;have:=congrArg (List.take i) h3;rw[Dk,ew,mW (by omega)]at this;rw[jX,this];unfold ints;rw[List.map_take]
  have hlen:(x.free.take i).length=i:=by simp;omega
  have XI:=BC n 1 (x.free.take i) k (some (fi,fo)) s' (.inl rfl) yK;rw[hlen]at XI;refine Ok.call XI ?_;rintro _ rfl;refine⟨_,s',rfl,?_⟩;simp only[au,aq];by_cases d5:k∈x.free.take i
  .rw[aw d5,ae]
   refine no s' ck λhm=>?_
   have:=Zt3 hm;rw[<-oA (i+1) x.free]at this;have:=Rv this;rw[vD]at this;exact(Qt.1 this).2 d5
  .rw[aD d5,af,Zc]
   refine aQ (x.free.length-(i+1)) _ _ (by omega) ⟨i+1,rfl,by omega,by omega,rfl,?_,?_⟩
   .rw[vD]
    exact Qt.2 ⟨US,d5⟩
   .intro k' xf
    rw[vD]at xf;rcases gU.1 xf with h|h
    .exact HD k' h
    .rw[cx.1 h]
     grind
 rw[aD (show ¬(i:Int)<(x.free.length:Int) by omega),af];have:i=x.free.length:=by omega
 subst this;rw[sc]at US HD;clear aQ rec;have HE: ∀i:Nat,i<x.aG.length->¬(1<=iQ x i/\iQ x i<=x.g/\((i:Int)∉kS (Zr x)->iQ x i<x.g->(i:Int)∈x.free))->¬tx x:=by
  intro i hi cA hm;have hv:iQ x (i:Int)∈x.aG:=by
   unfold iQ;rw[br,dZ,cg hi];grind
  refine cA ⟨(hm.aG _ hv).1,(hm.aG _ hv).2,λh1 h2=>?_⟩;refine Classical.byContradiction λh3=>?_
  have:=hm.rest i hi (λh4=>by
   rcases gU.1 h4 with h|h
   .exact h1 h
   .exact h3 h)
  omega
 refine Zj _ (λq y rU=>∃i:Nat,y=[.int .i64 i]/\i<=x.aG.length/\x.aG.length-i<=q/\rU=s'/\∀j:Nat,j<i->1<=iQ x j/\iQ x j<=x.g/\((j:Int)∉kS (Zr x)->iQ x j<x.g->(j:Int)∈x.free)) ?_ x.aG.length n _ _
  ⟨0,rfl,cE _,by omega,rfl,by omega⟩ (by omega)
 rintro q'' _ rU ⟨i,rfl,agL,agW,rfl,Ud⟩ rec aQ;simp only[av,aq];by_cases ax:i<x.aG.length
 .rw[aw (by omega),ae]
  obtain⟨gi,go,rfl⟩:=hr.gn.cB (by simp[ints];omega);have gx:0<=(i:Int)/\(i:Int)<(x.aG.length:Int):=by omega
  have HE:=HE i ax;have ld: ∀K:DV->M ah,bF gi ((i:Int).toNat*1+go) K rU=K (.int .i64 (iQ x i)) rU:=λK=>vv.dF (SH gx) K
  rw[aZ,Zb (xX gx),ld];simp only[aX];rw[Za];by_cases d1:iQ x i<1
  .rw[aw d1,ae]
   simp only[au,aq];rw[Za,ae];simp only[au,aq];rw[ae];exact no rU ck (HE (by omega))
  rw[aD d1,af,aZ,Zb (xX gx),ld];simp only[aX,au,aq];rw[Za];by_cases d2:iQ x i>x.g
  .rw[aw d2,ae]
   simp only[au,aq];rw[ae];exact no rU ck (HE (by omega))
  rw[aD d2,af,Zb (xX gx),SG fg gx];simp only[tq];have TO:(1<=iQ x i/\iQ x i<=x.g/\((i:Int)∉kS (Zr x)->iQ x i<x.g->(i:Int)∈x.free))->Ok (λo=>∃b s',o=(.val [.bool b],s')/\aC st s'/\(b=true↔tx x)) (rec [.int .i64 (ar ((i:Int)+1))] rU):=by
   intro adN;rw[Zc];refine aQ (x.aG.length-(i+1)) _ _ (by omega) ⟨i+1,rfl,by omega,by omega,rfl,λj hj=>?_⟩;by_cases kz:j<i
   .exact Ud j kz
   .have:j=i:=by omega
    subst this;exact adN
  rw[Za];by_cases d3:(i:Int)∈kS (Zr x)
  .rw[aw d3,bp,af]
   simp only[au,aq];rw[Za,af];simp only[au,aq];rw[af];exact TO ⟨by omega,by omega,λh=>absurd d3 h⟩
  rw[aD d3,bm,ae,aZ,Zb (xX gx),ld];simp only[aX,au,aq];rw[Za];by_cases d4:iQ x i<x.g
  .rw[aw d4,ae]
   refine Ok.call (BC n 1 x.free i p3 rU (.inl rfl) eO) ?_;rintro _ rfl;refine⟨_,rU,rfl,?_⟩;simp only[au,aq];by_cases d5:(i:Int)∈x.free
   .rw[aw d5,bp,af]
    exact TO ⟨by omega,by omega,λ_ _=>d5⟩
   .rw[aD d5,bm,ae]
    exact no rU ck (HE λhh=>d5 (hh.2.2 d3 d4))
  .rw[aD d4,af]
   simp only[au,aq];rw[af];exact TO (by omega)
 rw[aD (by omega),af,Zd];have:i=x.aG.length:=by omega
 subst this;refine .mk ⟨true,rU,rfl,ck,?_⟩;simp only[true_iff];exact {
  Hu:=hg
  cJ:=by omega
  Ew:=UG.1
  right:=UG.2.1
  order:=UG.2.2
  nodup:=uI.2 ⟨jw,US,λa ha b hb=>by rintro rfl;exact(HD a hb).2.1 ha⟩
  range:=λk hk=>by
   rcases gU.1 hk with h|h
   .obtain⟨e,he,rfl⟩:=xO.1 h
    exact(cQ e he).1
   .exact(HD k h).1
  gen:=λe he=>(cQ e he).2
  low:=λk hk=>(HD k hk).2.2
  aG:=λv hv=>by
   obtain⟨i,hi,rfl⟩:=FO hv;have:=Ud i hi;unfold iQ at this;rw[br,dZ,cg hi]at this;exact⟨this.1,this.2.1⟩
  rest:=λi hi cA=>by
   have:=Ud i hi;refine Int.not_lt.1 λax=>cA ?_
   by_cases hs:(i:Int)∈kS (Zr x)
   .exact List.mem_append_left _ hs
   .exact List.mem_append_right _ (this.2.2 hs ax) }
theorem ND (f:Nat) (ff fc r:ah) (K:Nat->ah->ah->ah->M β):Lo (.func f ff fc::r) K=K f ff fc r:=rfl
theorem Zo2 (n z f:Nat) (ff fc:ah) (l:ak) (p:ai) (st:St) (P:Int->Bool) (hz:z=1\/p=none) (hs:Sl st p (ints l)) (hn:l.length+10<=n) (hl:l.length<1000000)
  (hc: ∀v∈l,run Bd (n-2) f (ff++[.int .i64 v]++fc) st=some (.val [.bool (P v)],st)):
  run Bd n 147 [.slice z p l.length,.func f ff fc] st=some (.val [.bool (l.any P)],st):=by
 obtain⟨n,rfl⟩: ∃m,n=m+2:=⟨n-2,by omega⟩;rw[Ze,h.aaZ];unfold NJ cM Lb;simp only[Zf 1 z p _ hz,ND,aq];have gx:Ok (λo=>∃y:Int,o=(.val [.int .i64 y],st)/\decide (y>=0)=l.any P) (run Bd (n+1) 156 [.slice 1 p l.length,.func f ff fc] st):=by
  rw[Ze,h.aa1];unfold NP Q_ cH Zn aY Li;simp only[bd,ND,aq];rw[Za];refine Zj _ (λq y s=>∃i:Nat,y=[.int .i64 i]/\i<=l.length/\l.length-i<=q/\s=st/\∀v∈l.take i,P v=false) ?_ l.length n _ _ (by grind) (by omega);rintro q _ s ⟨i,rfl,hi,hq,rfl,cA⟩ rec aQ;simp only[av,aq];by_cases ax:i<l.length
  .obtain⟨i1,o1,rfl⟩:=hs.cB (by simp[ints];omega)
   rw[aw (show(i:Int)<(l.length:Int) by omega),ae,aZ,Zb (Zi ax),br,hs.dF (d:= .int .i64 l[i]) (by simp[ints,ax])];simp only[aX];have hv:=hc l[i] (jP ax);rw[show n+2-2=n by omega]at hv;rw[Zk hv];simp only[au,aq];cases hp:P l[i]with
   |true=>
    rw[ae,Zd];refine .mk ⟨_,rfl,?_⟩;rw[aw (by omega),List.any_eq_true.2 ⟨_,jP ax,hp⟩]
   |false=>
    rw[af,Zc];refine aQ (l.length-(i+1)) _ _ (by omega) ⟨i+1,rfl,by omega,by omega,rfl,?_⟩;intro v hv;rw[mV ax]at hv;grind
  .rw[aD (show ¬(i:Int)<(l.length:Int) by omega),af,Zd]
   rw[dH (by omega)]at cA;refine .mk ⟨_,rfl,?_⟩;rw[show decide ((-1:Int)>=0)=false from rfl];grind
 obtain⟨_,e,y,rfl,hy⟩:=gx;rw[Zk e];simp[av,aq,hy,Zd]
end Go.Gv.F
