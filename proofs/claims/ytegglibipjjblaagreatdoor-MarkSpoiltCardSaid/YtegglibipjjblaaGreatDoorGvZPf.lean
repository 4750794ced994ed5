/- States: in memory; which ones may be; small functions over them. -/
import Derived.Test.YtegglibipjjblaaGreatDoorGvBMk
import Derived.Test.YtegglibipjjblaaGreatDoorGvZPe
import Derived.Test.YtegglibipjjblaaGreatDoorGvZPa
import Derived.Test.YtegglibipjjblaaGreatDoorGvZBod
namespace Go.Gv.F
open Go.Gv
structure bh where
 slot:Int
 gen:Int
 key:Int
 value:Int
structure dr where
 name:aj
 bW:List bh
structure eO where
 blocks:Int
 cO:Int
 g:Int
 aU:List dr
 aH:ak
 free:ak
def eR (e:bh):ah:=[.int .i64 e.slot,.int .i64 e.gen,.int .i64 e.key,.int .i64 e.value]
def bM (l:List bh):ah:=(l.map eR).flatten
theorem Zr (l:List bh):(bM l).length=l.length*4:=by
 unfold bM;induction l with
 |nil=>rfl
 |cons e l ih=>rw[nZ,yh,bz,ih,cH];show 4+_=_;omega
theorem Eg: ∀ {l:List bh} {j:Nat} {e:bh},l[j]? =some e->((bM l).drop (j*4)).take 4=eR e
 |[],j,e,h=>by simp at h
 |x::l,0,e,h=>by
  simp only[lB,fU]at h;subst h;rw[od,dj];rfl
 |x::l,j+1,e,h=>by
  have e2:bM (x::l)=eR x++bM l:=rfl;rw[e2,show(j+1)*4=(eR x).length+j*4 by show _=4+_;omega,<-jX,BI];exact Eg (by simpa using h)
theorem yq (l m:List bh):bM (l++m)=bM l++bM m:=by
 simp[bM]
def jw (h:dr) (z:Nat) (p:ai):ah:=[.str h.name,.slice z p h.bW.length]
def je (s:St):ah->List dr->Prop
 |ds,[]=>ds=[]
 |ds,x::r=>∃z p t,(z=4\/p=none)/\ds=jw x z p++t/\Sl s p (bM x.bW)/\je s t r
theorem wO (x:dr) (z:Nat) (p:ai):(jw x z p).length=2:=rfl
theorem ue {β:Type} (sz z:Nat) (a:ai) (n:Nat) (h:z=sz\/a=none) (K:ai->Nat->M β):dE sz (.slice z a n) K=K a n:=by
 rcases h with rfl|rfl
 .exact lG _ _ _ _
 simp
theorem je.len {s:St} : ∀ {ds:ah} {xs:List dr},je s ds xs->ds.length=xs.length*2
 |ds,[],h=>by rw[show ds=[]from h];rfl
 |ds,x::r,⟨z,p,t,_,h1,_,h3⟩=>by rw[h1,bz,h3.len,wO,cH];omega
theorem je.mono {s s':St} (k:aD s s'): ∀ {ds:ah} {xs:List dr},je s ds xs->je s' ds xs
 |_,[],h=>h
 |_,_::_,⟨z,p,t,hz,h1,h2,h3⟩=>⟨z,p,t,hz,h1,h2.mono k,h3.mono k⟩
theorem je.get {s:St} : ∀ {ds:ah} {xs:List dr},je s ds xs->∀ {j:Nat} {x:dr},xs[j]? =some x->∃z p,(z=4\/p=none)/\(ds.drop (j*2)).take 2=jw x z p/\ds[j*2]? =some (.str x.name)/\ds[j*2+1]? =some (.slice z p x.bW.length)/\Sl s p (bM x.bW)
 |_,[],_,j,x,e=>by simp at e
 |ds,y::r,⟨zq,q,t,I3,h1,h2,h3⟩,0,x,e=>by
  simp only[lB,fU]at e;subst e;subst h1;exact⟨zq,q,I3,rfl,rfl,rfl,h2⟩
 |ds,y::r,⟨zq,q,t,I3,h1,h2,h3⟩,j+1,x,e=>by
  obtain⟨z,p,hz,g1,g2,g3,g4⟩:=h3.get (j:=j) (x:=x) (by simpa using e);refine⟨z,p,hz,?_,?_,?_,g4⟩
  .rw[h1,show(j+1)*2=(jw y zq q).length+j*2 by rw[wO];omega,<-jX,BI]
   exact g1
  .rw[h1,jY (by rw[wO];omega),wO,show(j+1)*2-2=j*2 by omega]
   exact g2
  .rw[h1,jY (by rw[wO];omega),wO,show(j+1)*2+1-2=j*2+1 by omega]
   exact g3
def dK (x:eO) (z1:Nat) (p1:ai) (z2:Nat) (p2:ai) (z3:Nat) (p3:ai):ah:=
 [.int .i64 x.blocks,.int .i64 x.cO,.int .i64 x.g,.slice z1 p1 x.aU.length,.slice z2 p2 x.aH.length,.slice z3 p3 x.free.length]
structure ny (s:St) (x:eO) (p1 p2 p3:Option (Nat×Nat)):Prop where
 hp: ∃ds,Sl s p1 ds/\je s ds x.aU
 gn:Sl s p2 (ints x.aH)
 fr:Sl s p3 (ints x.free)
variable {k:Int} {i j n o:Nat} {s s':St} {ds:ah} {D m:ak}
theorem ny.pre {x:eO} {p1 p2 p3:ai} (h:ny s x p1 p2 p3) (k:aD s s'):ny s' x p1 p2 p3:=
 let ⟨ds,h1,h2⟩:=h.hp
 ⟨⟨ds,h1.mono k,h2.mono k⟩,h.gn.mono k,h.fr.mono k⟩
def oG (b s g:Int):Bool:=decide (b>=16)&&(decide (b<=3072)&&(decide (s>=1)&&(decide (s<=1792)&&(decide (g>=1)&&decide (g<=4294967295)))))
def fb (a b:bh):Bool:=if a.key≠b.key then decide (a.key<b.key)else if a.slot≠b.slot then decide (a.slot<b.slot)else decide (a.gen<b.gen)
def Hc (l:List bh):Prop:=∀i a b,l[i]? =some a->l[i+1]? =some b->fb a b=true
def Zsi (l:List dr):Prop:=∀i a b,l[i]? =some a->l[i+1]? =some b->cmpL (dp a.name) (dp b.name)<0
def Zv (x:eO):List bh:=(x.aU.map (·.bW)).flatten
def iX (x:eO) (k:Int):Int:=x.aH.getD k.toNat 0
structure tV (x:eO):Prop where
 HQ:oG x.blocks x.cO x.g=true
 cO:(x.aH.length:Int)<=x.cO
 EX:x.aU.length<=16
 right: ∀h∈x.aU,rI h.name=true/\Hc h.bW
 order:Zsi x.aU
 nodup:((Zv x).map (·.slot)++x.free).Nodup
 range: ∀k∈(Zv x).map (·.slot)++x.free,0<=k/\k<(x.aH.length:Int)
 gen: ∀e∈Zv x,iX x e.slot=e.gen
 low: ∀k∈x.free,iX x k<x.g
 aH: ∀v∈x.aH,1<=v/\v<=x.g
 rest: ∀i,i<x.aH.length->((i:Int)∉(Zv x).map (·.slot)++x.free)->x.g<=iX x i
theorem Zn6 (b s g:Int) (st:St) (X:Zf->Nat->ah->M ah) (hX: ∀c n,X c n [.agg [.int .i64 b,.int .i64 s,.int .i64 g]] st=Gy c n [.agg [.int .i64 b,.int .i64 s,.int .i64 g]] st) (c:Zf) (n:Nat):
  X c n [.agg [.int .i64 b,.int .i64 s,.int .i64 g]] st=some (.val [.bool (oG b s g)],st):=by
 rw[hX];unfold Gy Ci az Lb oG;simp only[cJ,av,aq];cases decide (b>=16)with
 |false=>simp only[Za,af,au,aq];rfl
 |true=>
 cases decide (b<=3072)with
 |false=>simp only[Za,af,ae,au,aq];rfl
 |true=>
 cases decide (s>=1)with
 |false=>simp only[Za,af,ae,au,aq];rfl
 |true=>
 cases decide (s<=1792)with
 |false=>simp only[Za,af,ae,au,aq];rfl
 |true=>
 cases decide (g>=1)with
 |false=>simp only[Za,af,ae,au,aq];rfl
 |true=>
  simp only[Za,ae,au,aq];rfl
variable {Bd:Zh} [h:HA Bd]
theorem ZkO (n:Nat) (b s g:Int) (st:St):run Bd (n+1) 145 [.agg [.int .i64 b,.int .i64 s,.int .i64 g]] st=some (.val [.bool (oG b s g)],st):=by
 rw[Ze,h.abA];exact Zn6 b s g st Gy (λ_ _=>rfl) _ _
theorem ZjH (n:Nat) (b s g:Int) (st:St):run Bd (n+1) 141 [.agg [.int .i64 b,.int .i64 s,.int .i64 g]] st=some (.val [.bool (oG b s g)],st):=by
 rw[Ze,h.abw];exact Zn6 b s g st PL (λ_ _=>rfl) _ _
theorem Pe (n:Nat) (a b:bh) (st:St):run Bd (n+1) 155 [.agg (eR a),.agg (eR b)] st=some (.val [.bool (fb a b)],st):=by
 rw[Ze,h.abC];unfold Qe J5 Lb eR fb;simp only[cJ,av,aq];by_cases h1:a.key=b.key
 .have e1:(a.key==b.key)=true:=by rw[h1];simp
  rw[e1,bm,af,aW (by simp[h1])];by_cases h2:a.slot=b.slot
  .have e2:(a.slot==b.slot)=true:=by rw[h2];simp
   rw[e2,bm,af,aW (by simp[h2])];rfl
  .have e2:(a.slot==b.slot)=false:=dY.2 h2
   rw[e2,bp,ae,bw h2];rfl
 .have e1:(a.key==b.key)=false:=dY.2 h1
  rw[e1,bp,ae,bw h1];rfl
def gy (x y:Int):Int:=if x<y then-1 else if x>y then 1 else 0
theorem Rp {Bd:Zh} (h:Gw Bd) (n:Nat) (x y:Int) (st:St):run Bd (n+2) 161 [.int .i64 x,.int .i64 y] st=some (.val [.int .i64 (gy x y)],st):=by
 have e: ∀z:Int,run Bd (n+1) 163 [.int .i64 z] st=some (.val [.bool false],st):=by
  intro z;rw[Ze,h.q1.eq];unfold Gu cA Lb;simp[av,aq,rr,bm,Zd]
 rw[Ze,h.eq];unfold Gx gP bd Li gy;simp only[av,aq];rw[Zk (e x)];simp only[au,aq];rw[Zk (e y)];simp only[au,aq,af];by_cases h1:x<y
 .rw[aw h1,ae,bw h1];rfl
 .rw[aB h1,af,aW h1]
  by_cases h2:x>y
  .rw[aw h2,ae,bw h2];rfl
  .rw[aB h2,af,aW h2];rfl
theorem XI {Bd:Zh} (h:D0 Bd) (n:Nat) (hn:8<=n) (a b:bh) (st:St):
  Ok (λo=>∃z s',o=(.val [.int .i64 z],s')/\aD st s'/\decide (z>=0)= !fb a b) (run Bd n 159 [.agg (eR a),.agg (eR b)] st):=by
 obtain⟨n,rfl⟩: ∃m,n=m+3:=⟨n-3,by omega⟩;rw[Ze,h.eq];unfold GC J5 mK cQ fV yo bD Li eR;simp only[cJ,av,aq];rw[wY (Rp h.q0 n a.key b.key st)];simp only[av,aq];rw[wY (Rp h.q0 n a.slot b.slot st)];simp only[av,aq];rw[Zk (Rp h.q0 n a.gen b.gen st)];simp only[av,aq];rw[Zy];have hp:=aD.new st (some ⟨false,[DV.int .i64 (gy a.key b.key),.int .i64 (gy a.slot b.slot),.int .i64 (gy a.gen b.gen)]⟩);have hs:Sl (st++[some ⟨false,[DV.int .i64 (gy a.key b.key),.int .i64 (gy a.slot b.slot),.int .i64 (gy a.gen b.gen)]⟩]) (some (st.length,0)) [DV.int .i64 (gy a.key b.key),.int .i64 (gy a.slot b.slot),.int .i64 (gy a.gen b.gen)]:=LL st _;generalize (st++[some ⟨false,[DV.int .i64 (gy a.key b.key),.int .i64 (gy a.slot b.slot),.int .i64 (gy a.gen b.gen)]⟩])=s1 at hp hs;have hor:run Bd (n+2) 162 [.slice 1 (some (st.length,0)) 3] s1=some (.val [.int .i64 (if gy a.key b.key≠0 then gy a.key b.key else if gy a.slot b.slot≠0 then gy a.slot b.slot else gy a.gen b.gen)],s1):=by
  rw[Ze,h.q2.eq];unfold GB ck Q_ cI Zn Li;obtain⟨n,rfl⟩: ∃m,n=m+5:=⟨n-5,by omega⟩;simp only[bc,aq];rw[Za];have step: ∀(m i:Nat) (z:Int) (R:Option (Out ah×St)),i<3->[DV.int .i64 (gy a.key b.key),.int .i64 (gy a.slot b.slot),.int .i64 (gy a.gen b.gen)][i]? =some (.int .i64 z)->
    (z≠0->R=some (.val [.int .i64 z],s1))->∀(F:(ah->M ah)->ah->M ah),True:=by simp
  clear step;have ld: ∀(i:Nat) (d:DV) (K:DV->M ah),[DV.int .i64 (gy a.key b.key),.int .i64 (gy a.slot b.slot),.int .i64 (gy a.gen b.gen)][i]? =some d->bG st.length (i*1+0) K s1=K d s1:=λi d K hd=>hs.dL hd K
  rw[Af];simp only[av,aq];rw[show decide ((0:Int)<((3:Nat):Int))=true from rfl,ae,aX,Zb (by rfl)];rw[show(0:Int).toNat=0 from rfl,ld 0 _ _ rfl];simp only[aY];by_cases c1:gy a.key b.key=0
  .have e1:(gy a.key b.key==0)=true:=by rw[c1];rfl
   rw[e1,bm,af,aW (by simp[c1]),Af];simp only[av,aq];rw[show ar ((0:Int)+1)=1 from Zc,show decide ((1:Int)<((3:Nat):Int))=true from rfl,ae,aX,Zb (by rfl)];rw[show(1:Int).toNat=1 from rfl,ld 1 _ _ rfl];simp only[aY];by_cases c2:gy a.slot b.slot=0
   .have e2:(gy a.slot b.slot==0)=true:=by rw[c2];rfl
    rw[e2,bm,af,aW (by simp[c2]),Af];simp only[av,aq];rw[show ar ((1:Int)+1)=2 from Zc,show decide ((2:Int)<((3:Nat):Int))=true from rfl,ae,aX,Zb (by rfl)];rw[show(2:Int).toNat=2 from rfl,ld 2 _ _ rfl];simp only[aY];by_cases c3:gy a.gen b.gen=0
    .have e3:(gy a.gen b.gen==0)=true:=by rw[c3];rfl
     rw[e3,bm,af,Af];simp only[av,aq];rw[show ar ((2:Int)+1)=3 from Zc,show decide ((3:Int)<((3:Nat):Int))=false from rfl,af,c3];rfl
    .have e3:(gy a.gen b.gen==0)=false:=dY.2 c3
     rw[e3,bp,ae];rfl
   .have e2:(gy a.slot b.slot==0)=false:=dY.2 c2
    rw[e2,bp,ae,bw c2];rfl
  .have e1:(gy a.key b.key==0)=false:=dY.2 c1
   rw[e1,bp,ae,bw c1];rfl
 rw[Zk hor];simp only[av,aq,Zd];refine .mk ⟨_,s1,rfl,hp,?_⟩;grind[fb,gy]
theorem B2 (n z:Nat) (l:ak) (k:Int) (p:ai) (st:St) (hz:z=1\/p=none) (hs:Sl st p (ints l)) (hn:l.length+3<=n:=by omega) (hl:l.length<1000000:=by omega):
  Ok (λo=>o=(.val [.bool (decide (k∈l))],st)) (run Bd n 143 [.slice z p l.length,.int .i64 k] st):=by
 obtain⟨n,rfl⟩: ∃m,n=m+1:=⟨n-1,by omega⟩;rw[Ze,h.aby];unfold Q2 rL Q_ cI Zn Lb Li;simp only[Zg 1 z p _ hz,av,aq];rw[Za];refine Zj _ (λq x s=>∃i:Nat,x=[.int .i64 i]/\i<=l.length/\l.length-i<=q/\s=st/\k∉l.take i) ?_ l.length n _ _ (by grind) (by omega);rintro q _ s ⟨i,rfl,hi,hq,rfl,cx⟩ rec aP;simp only[av,aq];by_cases ax:i<l.length
 .have e:decide ((i:Int)<(l.length:Int))=true:=aw (by omega)
  obtain⟨p1,o1,rfl⟩:=hs.cD (by simp[ints];omega);rw[e,ae,aX,Zb (Zi ax),bu,hs.dL (d:= .int .i64 l[i]) (by simp[ints,ax])];simp only[aY];by_cases hk:l[i]=k
  .have e2:(l[i]==k)=true:=by rw[hk];grind
   rw[e2,ae,Zd,aw (by rw[<-hk];simp)];exact .mk rfl
  .have e2:(l[i]==k)=false:=dY.2 hk
   rw[e2,af,Zc];refine aP (l.length-(i+1)) _ _ (by omega) ⟨i+1,rfl,by omega,by omega,rfl,?_⟩;rw[kS ax];grind
 .have e:decide ((i:Int)<(l.length:Int))=false:=aB (by omega)
  rw[e,af,Zd];rw[dq (by omega)]at cx;rw[aB cx];exact .mk rfl
variable {β:Type}
variable {xs:List dr}
theorem B4 {x:dr} (hs:Sl s (some (i,o)) ds) (hh:je s ds xs) (e:xs[j]? =some x) (K:DV->M β):bG i (j*2+o) K s=K (.str x.name) s:=by
 obtain⟨_,p,_,_,g2,_,_⟩:=hh.get e;exact hs.get g2 K
theorem G6 {x:dr} (hs:Sl s (some (i,o)) ds) (hh:je s ds xs) (e:xs[j]? =some x): ∃p,Sl s p (bM x.bW)/\∀K:ai->Nat->M β,bG i (j*2+o+1) (λd=>dE 4 d K) s=K p x.bW.length s:=by
 obtain⟨z,p,hz,_,_,g3,g4⟩:=hh.get e;refine⟨p,g4,λK=>?_⟩;have e2:j*2+o+1=(j*2+1)+o:=by omega
 rw[e2,hs.get g3,ue 4 z p _ hz]
variable {l:List bh}
theorem Hi {k:Nat} {x:bh} (hs:Sl s (some (i,o)) (bM l)) (e:l[k]? =some x) (K:ah->M β):bS i (k*4+o) 4 K s=K (eR x) s:=by
 have hk:k<l.length:=(dB.1 e).1;rw[hs.xy (k:=k*4) (n:=4) (by rw[Zr];omega) K,Eg e]
theorem Zvk {k:Nat} {x:bh} (hs:Sl s (some (i,o)) (bM l)) (e:l[k]? =some x) (K:ah->M β):bS i (k*4+o) 2 K s=K [.int .i64 x.slot,.int .i64 x.gen] s:=by
 have hk:k<l.length:=(dB.1 e).1;rw[hs.xy (k:=k*4) (n:=2) (by rw[Zr];omega) K];have:=congrArg (List.take 2) (Eg e);rw[DK]at this;rw[show((bM l).drop (k*4)).take 2=[.int .i64 x.slot,.int .i64 x.gen]from this]
def LC (l:List dr):Prop:=l.length<=16/\(∀h∈l,rI h.name=true/\Hc h.bW)/\Zsi l
def EE (l:List dr) (i:Nat) (h:dr):Prop:=rI h.name=true/\∀g,0<i->l[i-1]? =some g->cmpL (dp g.name) (dp h.name)<0
theorem ZsA (l:List dr) (hl:l.length<=16):LC l↔ ∀i h,l[i]? =some h->EE l i h/\Hc h.bW:=by
 constructor
 .intro ⟨_,h1,h2⟩ i h e
  refine⟨⟨(h1 h (oZ e)).1,λg hi eg=>h2 (i-1) g h eg ?_⟩,(h1 h (oZ e)).2⟩;rw[show i-1+1=i by omega];exact e
 .intro h
  refine⟨hl,λx hx=>?_,λi a b ea eb=>?_⟩
  .obtain⟨i,hi,rfl⟩:=Gc hx
   have:=h i _ (bU hi);exact⟨this.1.1,this.2⟩
  .exact(h (i+1) b eb).1.2 a (by omega) (by rw[show i+1-1=i by omega];exact ea)
theorem ZqU (l:List bh):Hc l↔ ∀k a b,1<=k->l[k-1]? =some a->l[k]? =some b->fb a b=true:=by
 constructor
 .intro h k a b hk ha hb
  exact h (k-1) a b ha (by rw[show k-1+1=k by omega];exact hb)
 .intro h i a b ha hb
  exact h (i+1) a b (by omega) (by rw[show i+1-1=i by omega];exact ha) hb
structure Oh (l:List dr):Prop where
 len:l.length<=50000
 bW: ∀h∈l,h.bW.length<=50000
 name: ∀h∈l,h.name.length<=50000
theorem Zpo (n z:Nat) (l:List dr) (p:ai) (ds:ah) (st:St) (hz:z=2\/p=none) (hs:Sl st p ds) (hh:je st ds l) (sz:Oh l) (hn:50100<=n):
  Ok (λo=>∃b s',o=(.val [.bool b],s')/\aD st s'/\(b=true↔LC l)) (run Bd n 144 [.slice z p l.length] st):=by
 obtain⟨n,rfl⟩: ∃m,n=m+1:=⟨n-1,by omega⟩;rw[Ze,h.abz];unfold Qf Q_ cI ua bd az N_ pE cQ Lb Li Ls zT;simp only[Zg 2 z p _ hz,aq];by_cases sb:l.length>16
 .rw[aw (show(l.length:Int)>16 by omega),ae,Zd]
  exact .mk ⟨false,st,rfl,.refl _,by unfold LC;simp;omega⟩
 rw[aB (show ¬(l.length:Int)>16 by omega),af,Za];have sb:l.length<=16:=by omega
 have fk:=ZsA l sb;refine Zj _ (λq x s=>∃i:Nat,x=[.int .i64 i]/\i<=l.length/\l.length-i<=q/\aD st s/\∀j h,j<i->l[j]? =some h->EE l j h/\Hc h.bW) ?_ l.length n _ _ ⟨0,rfl,cn _,by omega,.refl _,λj h hj=>absurd hj (DO j)⟩ (by omega);rintro q _ s ⟨i,rfl,hi,hq,hp,X1⟩ rec aP;simp only[av,aq];by_cases ax:i<l.length;rotate_left
 .rw[aB (show ¬(i:Int)<(l.length:Int) by omega),af,Zd]
  refine .mk ⟨true,s,rfl,hp,?_⟩;simp only[true_iff];rw[fk];intro j x e;exact X1 j x (by have:=(dB.1 e).1;omega) e
 rw[aw (show(i:Int)<(l.length:Int) by omega),ae];obtain⟨i1,o1,rfl⟩:=hs.cD (by rw[hh.len];omega);obtain⟨x,hx⟩: ∃x,l[i]? =some x:=⟨_,bU ax⟩;have hxm:=oZ hx;have Nl:=sz.bW x hxm;have hxn:=sz.name x hxm;rw[Za,aX,Zb (Zi ax),bu,B4 (hs.mono hp) (hh.mono hp) hx];simp only[wJ];refine Ok.call (ZjS n x.name (by omega) (by omega) s) ?_;rintro _ ⟨s1,rfl,aG⟩;refine⟨_,s1,rfl,?_⟩;simp only[au,aq];refine Zv3 (λy s=>∃b:Bool,y=[.bool b]/\aD st s/\(b=false↔EE l i x)) ?_ ?_
 .rintro _ s2 ⟨b,rfl,aZ,hb⟩
  simp only[au,aq];cases b with
  |true=>
   rw[ae,Zd];refine .mk ⟨false,s2,rfl,aZ,?_⟩;rw[fk];simp only[ri,false_iff];intro cS;exact absurd (hb.2 (cS i x hx).1) (by decide)
  |false=>
   have cx:=hb.1 rfl;rw[af,Za];refine Zj _ (λq y s=>∃k:Nat,y=[.int .i64 k]/\1<=k/\x.bW.length+1-k<=q/\k<=x.bW.length+1/\aD st s/\∀m a b,1<=m->m<k->x.bW[m-1]? =some a->x.bW[m]? =some b->fb a b=true) ?_ x.bW.length n _ _ ⟨1,rfl,aL _,by omega,by omega,aZ,λm a b h1 h2=>by omega⟩ (by omega);rintro q' _ s3 ⟨k,rfl,jx,hkq,iL,cq,Yy⟩ dA kh;simp only[av,aq];rw[aX,Zb (Zi ax),bu];obtain⟨pe,sd,le⟩:=G6 (β:=ah) (hs.mono cq) (hh.mono cq) hx;rw[le];by_cases hk:k<x.bW.length
   .rw[aw (show(k:Int)<(x.bW.length:Int) by omega),ae,aX,Zb (Zi ax),le]
    obtain⟨m,rfl⟩: ∃m,k=m+1:=⟨k-1,by omega⟩;obtain⟨pi,po,rfl⟩:=sd.cD (by rw[Zr];omega);obtain⟨a,ha⟩: ∃a,x.bW[m]? =some a:=⟨_,bU (by omega)⟩;obtain⟨b,ep⟩: ∃b,x.bW[m+1]? =some b:=⟨_,bU hk⟩;rw[aX,Zc,show(((m+1:Nat):Int)-1)=(m:Int) by omega,Zb (Zi),bu,Hi sd ha];unfold eR;simp only[av,aq];rw[aX,Zb (Zi ax),le];rw[aX,Zb (Zi hk),Hi sd ep];unfold eR;simp only[av,aq];have tt:=Pe (n-1) a b s3;rw[show n-1+1=n by omega]at tt;unfold eR at tt;rw[Zk tt];simp only[au,aq];cases eX:fb a b with
    |false=>
     rw[bp,ae,Zd];refine .mk ⟨false,s3,rfl,cq,?_⟩;rw[fk];simp only[ri,false_iff];intro cS;have:=(ZqU _).1 (cS i x hx).2 (m+1) a b (by omega) (by rw[show m+1-1=m by omega];exact ha) ep;rw[eX]at this;cases this
    |true=>
     rw[bm,af,Zc];refine kh (x.bW.length+1-(m+1+1)) _ _ (by omega) ⟨m+1+1,rfl,by omega,by omega,by omega,cq,?_⟩;intro m' a' b' h1 h2 AO cV;by_cases hm:m'<m+1
     .exact Yy m' a' b' h1 hm AO cV
     .have:m'=m+1:=by omega
      subst this;rw[show m+1-1=m by omega]at AO;rw[ha]at AO;rw[ep]at cV;cases AO;cases cV;exact eX
   .rw[aB (show ¬(k:Int)<(x.bW.length:Int) by omega),af]
    rw[Zc];refine aP (l.length-(i+1)) _ _ (by omega) ⟨i+1,rfl,by omega,by omega,cq,?_⟩;intro j y hj ey;by_cases kH:j<i
    .exact X1 j y kH ey
    .have:j=i:=by omega
     subst this;rw[hx]at ey;cases ey;refine⟨cx,(ZqU _).2 λm a b h1 ha ep=>Yy m a b h1 ?_ ha ep⟩;have:=(dB.1 ep).1;omega
 .intro jk uN
  cases hr:rI x.name with
  |false=>
   rw[bp,ae];refine uN _ _ ⟨true,rfl,hp.trans aG,?_⟩;unfold EE;rw[hr];simp
  |true=>
   rw[bm,af,Za];by_cases h0:0<i
   .obtain⟨m,rfl⟩: ∃m,i=m+1:=⟨i-1,by omega⟩
    rw[aw (show((m+1:Nat):Int)>0 by omega),ae];obtain⟨g,hg⟩: ∃g,l[m]? =some g:=⟨_,bU (by omega)⟩;have qJ:=sz.name g (oZ hg);have aZ:=hp.trans aG;rw[aX,Zc,show(((m+1:Nat):Int)-1)=(m:Int) by omega,Zb (Zi),bu,B4 (hs.mono aZ) (hh.mono aZ) hg];simp only[wJ];rw[aX,Zb (Zi ax),B4 (hs.mono aZ) (hh.mono aZ) hx];simp only[wJ];refine Ok.call (Ziw n g.name x.name (by omega) (by omega) (by omega) (by omega) s1) ?_;rintro _ ⟨s2,rfl,cq⟩;refine⟨_,s2,rfl,?_⟩;simp only[av,au,aq];refine uN _ _ ⟨_,rfl,aZ.trans cq,?_⟩;unfold EE;rw[hr,show m+1-1=m by omega,hg];simp only[ry,true_and];constructor
    .intro hc g' _ e
     cases e;omega
    .intro hc
     have:=hc g (by omega) rfl;omega
   .rw[aB (show ¬(i:Int)>0 by omega),af]
    simp only[au,aq];refine uN _ _ ⟨false,rfl,hp.trans aG,?_⟩;unfold EE;rw[hr];simp only[true_and,true_iff];intro g hg;exact absurd hg h0
def pI (l:List dr):List bh:=(l.map (·.bW)).flatten
theorem RG (x:eO):Zv x=pI x.aU:=rfl
theorem ZsK (l:List dr) {h:dr} (e:l[i]? =some h):pI (l.take (i+1))=pI (l.take i)++h.bW:=by
 obtain⟨hi,rfl⟩:=dB.1 e;unfold pI;rw[kS hi,fg,Gb,nZ,List.map_nil,yh,List.flatten_nil,gG]
theorem Zu1 (l:List dr) (i:Nat):(pI (l.take i)).length<=(pI l).length:=by
 have:pI l=pI (l.take i)++pI (l.drop i):=by
  unfold pI;rw[<-Gb,<-fg,nu]
 rw[this,bz];omega
theorem Zm8 (n:Nat) (x:eO) (z1 z2 z3:Nat) (p1 p2 p3:ai) (st:St) (hZ:z1=2\/p1=none) (gD:z2=1\/p2=none) (kL:z3=1\/p3=none) (hr:ny st x p1 p2 p3)
  (hl:x.aU.length<=50000) (he:(Zv x).length<=50000) (hn:50100<=n):
  Ok (λo=>∃q s',o=(.val [.slice 4 q (Zv x).length],s')/\aD st s'/\Sl s' q (bM (Zv x))) (run Bd n 142 [.agg (dK x z1 p1 z2 p2 z3 p3)] st):=by
 obtain⟨n,rfl⟩: ∃m,n=m+1:=⟨n-1,by omega⟩;rw[Ze,h.abx];unfold O1 ZF BY cA N_ tU j1;have ag: ∀(l:ah) (K:ah->ah->M ah),bn (.agg (dK x z1 p1 z2 p2 z3 p3)::l) K=K (dK x z1 p1 z2 p2 z3 p3) l:=λ_ _=>rfl
 rw[ag];unfold dK;simp only[av,Zg 2 z1 p1 _ hZ,Zg 1 z2 p2 _ gD,Zg 1 z3 p3 _ kL,aq];rw[Z5,Za];obtain⟨ds,hs,hh⟩:=hr.hp;rw[RG]at he;rw[RG];refine Zj _ (λq y s=>∃(i z:Nat) (a:ai),y=[.slice z a (pI (x.aU.take i)).length,.int .i64 i]/\(z=4\/a=none)/\i<=x.aU.length/\x.aU.length-i<=q/\ba st s a (bM (pI (x.aU.take i)))) ?_ x.aU.length n _ _ ⟨0,0,none,rfl,.inr rfl,cn _,by omega,ba.nil (.refl _)⟩ (by omega);rintro q _ s ⟨i,z,a,rfl,hz,hi,hq,ho⟩ rec aP;simp only[Zg 4 z a _ hz,av,aq];by_cases ax:i<x.aU.length
 .rw[aw (show(i:Int)<(x.aU.length:Int) by omega),ae]
  obtain⟨i1,o1,rfl⟩:=hs.cD (by rw[hh.len];omega);obtain⟨g,hg⟩: ∃g,x.aU[i]? =some g:=⟨_,bU ax⟩;rw[aX,Zb (Zi ax),bu];obtain⟨pe,sd,le⟩:=G6 (β:=ah) (hs.mono ho.1) (hh.mono ho.1) hg;rw[le];rw[<-Zr,iD sd];have et:=ZsK x.aU hg;have hle:=Zu1 x.aU (i+1);rw[et,bz]at hle;rw[Zc];by_cases h0:0<g.bW.length
  .obtain⟨q2,s2,g1,g2⟩:=ho.app (β:=ah) (sz:=4) (n:=(pI (x.aU.take i)).length) (m:=g.bW.length) (lim:=2199023255552) (ds:=bM g.bW) (by omega) (Zr _) h0 (by omega)
   rw[g2];exact aP (x.aU.length-(i+1)) _ _ (by omega) ⟨i+1,4,q2,by rw[et,bz];rfl,.inl rfl,by omega,by omega,by rw[et,yq];exact g1⟩
  .have e0:g.bW=[]:=wG.1 (by omega)
   rw[e0]at et⊢;rw[show(bM []:ah)=[]from rfl,show(([]:List bh).length)=0 from rfl,Zwp];rw[gG]at et;exact aP (x.aU.length-(i+1)) _ _ (by omega) ⟨i+1,4,a,by rw[et];rfl,.inl rfl,by omega,by omega,by rw[et];exact ho⟩
 .rw[aB (show ¬(i:Int)<(x.aU.length:Int) by omega),af]
  have:i=x.aU.length:=by omega
  subst this;rw[rq]at ho⊢;simp only[bc,aq,Zs];exact .mk ⟨a,_,rfl,Zu ho.1,ho.sl.fN _⟩
def lv (n:Nat) (D:ak):ah:=(List.range n).map λ(k:Nat)=>DV.bool (decide ((k:Int)∈D))
theorem Zvg (n:Nat) (D:ak):(lv n D).length=n:=by simp[lv]
theorem Zys (h:0<=k/\k<(n:Int)):(lv n D)[k.toNat]? =some (.bool (decide (k∈D))):=by
 obtain⟨m,rfl⟩: ∃m:Nat,k=(m:Int):=⟨k.toNat,by omega⟩;rw[bu];simp only[lv,oY];rw[List.getElem?_range (by omega)];rfl
theorem Zym (h:0<=k/\k<(n:Int)):cw (lv n D) (k.toNat*1) [.bool true]=lv n (D++[k]):=by
 obtain⟨m,rfl⟩: ∃m:Nat,k=(m:Int):=⟨k.toNat,by omega⟩;rw[bu,cP,Cq _ _ _ (by rw[Zvg];omega)];refine rk λj=>?_
 rw[List.getElem?_set];unfold lv;by_cases hj:j<n
 .simp only[nY,JL,oY,List.getElem?_range hj,mb]
  by_cases hm:m=j
  .subst hm
   rw[bw rfl,bw (by omega)];simp
  .rw[aW hm]
   have e:((j:Int)∈D++[(m:Int)])↔((j:Int)∈D):=by
    rw[fE,cj];constructor
    .rintro(h|h)
     .exact h
     .omega
    .exact .inl
   simp only[e]
 .rw[nX (show(List.map (λk:Nat=>DV.bool (decide ((k:Int)∈D++[(m:Int)]))) (List.range n)).length<=j by simp;omega)]
  rw[aW (by omega),nX (by simp;omega)]
theorem Zyr (n:Nat):ig n [.bool false]=lv n []:=by
 unfold ig lv;refine rk λj=>?_
 have:(List.replicate n [DV.bool false]).flatten=List.replicate n (DV.bool false):=by
  induction n with
  |zero=>rfl
  |succ n ih=>rw[Gd,Gd,yh,ih];rfl
 rw[this];by_cases hj:j<n
 .simp[hj]
 .rw[nX (by simp;omega),nX (by simp;omega)]
theorem yz (h:0<=k/\k<(n:Int)):aQ k n=true:=by unfold aQ;simp[h.1,h.2]
theorem TC {x:eO} (h:0<=k/\k<(x.aH.length:Int)):(ints x.aH)[k.toNat]? =some (.int .i64 (iX x k)):=by
 unfold ints iX;have hk:k.toNat<x.aH.length:=by omega
 rw[oY,bU hk,dX,bU hk];rfl
theorem NJ: ∀(n:Nat) (l:ak),l.Nodup->(∀k∈l,0<=k/\k<(n:Int))->l.length<=n
 |0,l,_,h=>by
  cases l with
  |nil=>exact aL _
  |cons k l=>have:=h k (oa);omega
 |n+1,l,hd,h=>by
  have h1:=NJ n (l.erase (n:Int)) (hd.erase _) (λk hk=>by
   rw[hd.mem_erase_iff]at hk;have:=h k hk.2;have:=hk.1;omega)
  rw[List.length_erase]at h1;split at h1
  .omega
  .omega
structure BZ (x:eO):Prop where
 h:Oh x.aU
 e:(Zv x).length<=50000
 g:x.aH.length<=50000
 f:x.free.length<=50000
theorem Tc (hs:s[i]? =some (some ⟨false,lv n D⟩)) (h:0<=k/\k<(n:Int)) (K:DV->M β):bG i (k.toNat*1) K s=K (.bool (decide (k∈D))) s:=by
 rw[cP];exact Zo hs (Zys h) K
def ll (l:List bh):ak:=l.map (·.slot)
theorem Zuv (l:List bh) (h:i<l.length):ll (l.take (i+1))=ll (l.take i)++[l[i].slot]:=by
 unfold ll;rw[kS h,fg];rfl
theorem RA {l:ak} :(l++[k]).Nodup↔l.Nodup/\k∉l:=by
 rw[vi];grind
theorem Sg {l:ak} (h:(l++m).Nodup):l.Nodup:=(vi.1 h).1
theorem ZsV {x:eO} (h:tV x) (i:Nat):(ll ((Zv x).take i)).Nodup:=by
 have h1:(ll (Zv x)).Nodup:=Sg h.nodup;have e:ll (Zv x)=ll ((Zv x).take i)++ll ((Zv x).drop i):=by
  simp[ll]
 rw[e]at h1;exact Sg h1
theorem ZtQ {x:eO} (h:tV x):x.free.Nodup:=(vi.1 h.nodup).2.1
theorem ZrH (n:Nat) (x:eO) (z1 z2 z3:Nat) (p1 p2 p3:ai) (st:St) (hZ:z1=2\/p1=none) (gD:z2=1\/p2=none) (kL:z3=1\/p3=none) (hr:ny st x p1 p2 p3)
  (sz:BZ x) (hn:50200<=n):
  Ok (λo=>∃b s',o=(.val [.bool b],s')/\aD st s'/\(b=true↔tV x)) (run Bd n 133 [.agg (dK x z1 p1 z2 p2 z3 p3)] st):=by
 obtain⟨n,rfl⟩: ∃m,n=m+1:=⟨n-1,by omega⟩;rw[Ze,h.abt];unfold Rj ZF bd az Q_ cI Zn ql N_ gP ur Lb zU Li eW;have ag: ∀(l:ah) (K:ah->ah->M ah),bn (.agg (dK x z1 p1 z2 p2 z3 p3)::l) K=K (dK x z1 p1 z2 p2 z3 p3) l:=λ_ _=>rfl
 rw[ag];unfold dK;simp only[av,Zg 2 z1 p1 _ hZ,Zg 1 z2 p2 _ gD,Zg 1 z3 p3 _ kL,aq];have hsg:=sz.g;have no: ∀s,aD st s->¬tV x->Ok (λo=>∃b s',o=(.val [.bool b],s')/\aD st s'/\(b=true↔tV x)) ((ay [.bool false]:M ah) s):=by
  intro s hp hm;rw[Zd];exact .mk (by grind)
 have uK:=ZjH (n-1) x.blocks x.cO x.g st;rw[show n-1+1=n by omega]at uK;rw[Zk uK];simp only[au,aq];rw[Za];cases hg:oG x.blocks x.cO x.g with
 |false=>
  rw[bp,ae];simp only[au,aq];rw[Za,ae];simp only[au,aq];rw[ae];exact no st (.refl _) λhm=>by have:=hm.HQ;rw[hg]at this;cases this
 |true=>
 rw[bm,af];simp only[au,aq];rw[Za];by_cases c1:(x.aH.length:Int)>x.cO
 .rw[aw c1,ae]
  simp only[au,aq];rw[ae];exact no st (.refl _) λhm=>by have:=hm.cO;omega
 rw[aB c1,af];obtain⟨ds,hs,hh⟩:=hr.hp;refine Ok.call (Zpo n 2 x.aU p1 ds st (.inl rfl) hs hh sz.h (by omega)) ?_;rintro _ ⟨b,s1,rfl,aG,hb⟩;refine⟨_,s1,rfl,?_⟩;simp only[au,aq];cases b with
 |false=>
  rw[bp,ae];exact no s1 aG λhm=>by
   have:=hb.2 ⟨hm.EX,hm.right,hm.order⟩;cases this
 |true=>
 have Vf:LC x.aU:=hb.1 rfl;rw[bm,af];refine Ok.call (Zm8 n x 2 1 1 p1 p2 p3 s1 (.inl rfl) (.inl rfl) (.inl rfl) (hr.pre aG) sz.h.len sz.e (by omega)) ?_;rintro _ ⟨qe,s2,rfl,aZ,hE⟩;refine⟨_,s2,rfl,?_⟩;simp only[bc,aq];have aZ:=aG.trans aZ;rw[Za];by_cases c2:((Zv x).length:Int)>(x.aH.length:Int)
 .rw[aw c2,ae]
  simp only[au,aq];rw[ae];refine no s2 aZ λhm=>?_
  have:=NJ x.aH.length _ hm.nodup hm.range;rw[bz,nY]at this;omega
 rw[aB c2,af];simp only[au,aq];by_cases c3:(x.free.length:Int)>(x.aH.length:Int)
 .rw[aw c3,ae]
  refine no s2 aZ λhm=>?_
  have:=NJ x.aH.length _ hm.nodup hm.range;rw[bz,nY]at this;omega
 rw[aB c3,af];rw[Zb (by simp;omega),Zy,bu,Zyr];rw[Za,Za,Za];have aeq:=(hr.gn.mono aZ);refine Zj _ (λq y s=>∃i:Nat,y=[.int .i64 i]/\i<=(Zv x).length/\(Zv x).length-i<=q/\aD s2 s/\s[s2.length]? =some (some ⟨false,lv x.aH.length (ll ((Zv x).take i))⟩)/\
   (ll ((Zv x).take i)).Nodup/\∀e∈(Zv x).take i,(0<=e.slot/\e.slot<(x.aH.length:Int))/\iX x e.slot=e.gen) ?_ (Zv x).length n _ _ ⟨0,rfl,cn _,by omega,.new _ _,by simp[ll],by simp[ll],by simp⟩ (by omega)
 rintro q _ s ⟨i,rfl,hi,hq,hp,fj,jz,cS⟩ rec aP;simp only[av,aq];by_cases ax:i<(Zv x).length
 .rw[aw (show(i:Int)<((Zv x).length:Int) by omega),ae]
  obtain⟨ei,eo,rfl⟩:=hE.cD (by rw[Zr];omega);have he:(Zv x)[i]? =some (Zv x)[i]:=bU ax;have ca:=Zuv _ ax;have Fj: ¬((0<=(Zv x)[i].slot/\(Zv x)[i].slot<(x.aH.length:Int))/\iX x (Zv x)[i].slot=(Zv x)[i].gen)->¬tV x:=λcx hm=>
   cx ⟨hm.range _ (by grind),hm.gen _ (jG ax)⟩
  have vW:(Zv x).take (i+1)=(Zv x).take i++[(Zv x)[i]]:=kS ax;generalize hee:(Zv x)[i]=e at he ca Fj vW;rw[aX,Zb (Zi ax),bu,Zvk (hE.mono hp) he];simp only[av,aq];have afh:=aZ.trans hp;rw[Za];by_cases d1:e.slot<0
  .rw[aw d1,ae]
   simp only[au,aq];rw[Za,ae];simp only[au,aq];rw[Za,ae];simp only[au,aq];rw[ae];grind
  rw[aB d1,af];simp only[au,aq];rw[Za];by_cases d2:e.slot>=(x.aH.length:Int)
  .rw[aw d2,ae]
   simp only[au,aq];rw[Za,ae];simp only[au,aq];rw[ae];grind
  rw[aB d2,af];have fO:0<=e.slot/\e.slot<(x.aH.length:Int):=by omega
  rw[Zb (yz fO),Tc fj fO];simp only[sP,au,aq];rw[Za];by_cases d3:e.slot∈ll ((Zv x).take i)
  .rw[aw d3,ae]
   simp only[au,aq];rw[ae];refine no s afh λhm=>?_
   have:=ZsV hm (i+1);rw[ca]at this;grind
  rw[aB d3,af];obtain⟨gi,go,rfl⟩:=hr.gn.cD (by simp[ints];omega);rw[aX,Zb (yz fO),(aeq.mono hp).dL (TC fO)];simp only[aY,au,aq];by_cases d4:iX x e.slot=e.gen
  .rw[show(e.gen==iX x e.slot)=true by rw[d4];grind,bm,af,Zb (yz fO),Lh fj (by rw[Zvg];simp;omega),Zym fO]
   rw[Zc];refine aP ((Zv x).length-(i+1)) _ _ (by omega) ⟨i+1,rfl,by omega,by omega,wV hp (aL _) _,?_,?_,?_⟩
   .rw[ca]
    grind
   .rw[ca]
    exact RA.2 ⟨jz,d3⟩
   grind
  grind
 rw[aB (show ¬(i:Int)<((Zv x).length:Int) by omega),af];have:i=(Zv x).length:=by omega
 subst this;rw[rq]at fj jz cS;clear aP rec;have cq:=aZ.trans hp;have ew:=hr.fr.mono cq;have qJ:=hr.gn.mono cq;have UO: ∀k∈x.free,¬((0<=k/\k<(x.aH.length:Int))/\k∉ll (Zv x)/\iX x k<x.g)->¬tV x:=λk hk cx hm=>
  cx ⟨hm.range _ (List.mem_append_right _ hk),λiL=>(vi.1 hm.nodup).2.2 k iL k hk rfl,hm.low k hk⟩
 refine Zj _ (λq y s'=>∃i:Nat,y=[.int .i64 i]/\i<=x.free.length/\x.free.length-i<=q/\s'=s/\(x.free.take i).Nodup/\∀k∈x.free.take i,(0<=k/\k<(x.aH.length:Int))/\k∉ll (Zv x)/\iX x k<x.g) ?_ x.free.length n _ _
  ⟨0,rfl,cn _,by omega,rfl,by simp,by simp⟩ (by omega)
 rintro q' _ s' ⟨i,rfl,Ft,y7,rfl,Vq,HY⟩ rec aP;simp only[av,aq];by_cases ax:i<x.free.length
 .rw[aw (show(i:Int)<(x.free.length:Int) by omega),ae]
  obtain⟨fi,fo,rfl⟩:=hr.fr.cD (by simp[ints];omega);rw[aX,Zb (Zi ax),bu,ew.dL (d:= .int .i64 x.free[i]) (by simp[ints,ax])];simp only[aY];have UO:=UO _ (jG ax);have vW:x.free.take (i+1)=x.free.take i++[x.free[i]]:=kS ax;generalize x.free[i]=k at UO vW;rw[Za];by_cases d1:k<0
  .rw[aw d1,ae]
   simp only[au,aq];rw[Za,ae];simp only[au,aq];rw[Za,ae];simp only[au,aq];rw[Za,ae];simp only[au,aq];rw[ae];grind
  rw[aB d1,af];simp only[au,aq];rw[Za];by_cases d2:k>=(x.aH.length:Int)
  .rw[aw d2,ae]
   simp only[au,aq];rw[Za,ae];simp only[au,aq];rw[Za,ae];simp only[au,aq];rw[ae];grind
  rw[aB d2,af];have fO:0<=k/\k<(x.aH.length:Int):=by omega
  rw[Zb (yz fO),Tc fj fO];simp only[sP,au,aq];rw[Za];by_cases d3:k∈ll (Zv x)
  .rw[aw d3,ae]
   simp only[au,aq];rw[Za,ae];simp only[au,aq];rw[ae];grind
  rw[aB d3,af];obtain⟨gi,go,rfl⟩:=hr.gn.cD (by simp[ints];omega);rw[aX,Zb (yz fO),qJ.dL (TC fO)];simp only[aY,au,aq];rw[Za];by_cases d4:iX x k>=x.g
  .rw[aw d4,ae]
   simp only[au,aq];rw[ae];grind
  rw[aB d4,af,Zb (by simp;omega)];have ze:Sl s' (some (fi,fo)) (ints (x.free.take i)):=by
   obtain⟨f,all,h1,h2,h3⟩:=ew;have jL:(ints (x.free.take i)).length=i:=by simp[ints];omega
   have eu:(ints x.free).length=x.free.length:=by simp[ints]
   refine⟨f,all,h1,by omega,?_⟩;have:=congrArg (List.take i) h3;rw[DK,eu,kT (by omega)]at this;rw[jL,this];unfold ints;rw[List.map_take]
  have hlen:(x.free.take i).length=i:=by simp;omega
  have Yd:=B2 n 1 (x.free.take i) k (some (fi,fo)) s' (.inl rfl) ze;rw[hlen]at Yd;refine Ok.call Yd ?_;rintro _ rfl;refine⟨_,s',rfl,?_⟩;simp only[au,aq];by_cases d5:k∈x.free.take i
  .rw[aw d5,ae]
   refine no s' cq λhm=>?_
   have:=ZtQ hm;rw[<-nu (i+1) x.free]at this;have:=Sg this;rw[vW]at this;exact(RA.1 this).2 d5
  .rw[aB d5,af,Zc]
   refine aP (x.free.length-(i+1)) _ _ (by omega) ⟨i+1,rfl,by omega,by omega,rfl,?_,?_⟩
   .rw[vW]
    exact RA.2 ⟨Vq,d5⟩
   .intro k' xH
    rw[vW]at xH;rcases fE.1 xH with h|h
    .exact HY k' h
    .rw[cj.1 h]
     grind
 rw[aB (show ¬(i:Int)<(x.free.length:Int) by omega),af];have:i=x.free.length:=by omega
 subst this;rw[rq]at Vq HY;clear aP rec;have H0: ∀i:Nat,i<x.aH.length->¬(1<=iX x i/\iX x i<=x.g/\((i:Int)∉ll (Zv x)->iX x i<x.g->(i:Int)∈x.free))->¬tV x:=by
  intro i hi cx hm;have hv:iX x (i:Int)∈x.aH:=by
   unfold iX;rw[bu,dX,bU hi];grind
  refine cx ⟨(hm.aH _ hv).1,(hm.aH _ hv).2,λh1 h2=>?_⟩;refine Classical.byContradiction λh3=>?_
  have:=hm.rest i hi (λh4=>by
   rcases fE.1 h4 with h|h
   .exact h1 h
   .exact h3 h)
  omega
 refine Zj _ (λq y sF=>∃i:Nat,y=[.int .i64 i]/\i<=x.aH.length/\x.aH.length-i<=q/\sF=s'/\∀j:Nat,j<i->1<=iX x j/\iX x j<=x.g/\((j:Int)∉ll (Zv x)->iX x j<x.g->(j:Int)∈x.free)) ?_ x.aH.length n _ _
  ⟨0,rfl,cn _,by omega,rfl,by omega⟩ (by omega)
 rintro q'' _ sF ⟨i,rfl,ahq,ahB,rfl,UN⟩ rec aP;simp only[av,aq];by_cases ax:i<x.aH.length
 .rw[aw (by omega),ae]
  obtain⟨gi,go,rfl⟩:=hr.gn.cD (by simp[ints];omega);have fO:0<=(i:Int)/\(i:Int)<(x.aH.length:Int):=by omega
  have H0:=H0 i ax;have ld: ∀K:DV->M ah,bG gi ((i:Int).toNat*1+go) K sF=K (.int .i64 (iX x i)) sF:=λK=>qJ.dL (TC fO) K
  rw[aX,Zb (yz fO),ld];simp only[aY];rw[Za];by_cases d1:iX x i<1
  .rw[aw d1,ae]
   simp only[au,aq];rw[Za,ae];simp only[au,aq];rw[ae];exact no sF cq (H0 (by omega))
  rw[aB d1,af,aX,Zb (yz fO),ld];simp only[aY,au,aq];rw[Za];by_cases d2:iX x i>x.g
  .rw[aw d2,ae]
   simp only[au,aq];rw[ae];exact no sF cq (H0 (by omega))
  rw[aB d2,af,Zb (yz fO),Tc fj fO];simp only[sP];have Ur:(1<=iX x i/\iX x i<=x.g/\((i:Int)∉ll (Zv x)->iX x i<x.g->(i:Int)∈x.free))->Ok (λo=>∃b s',o=(.val [.bool b],s')/\aD st s'/\(b=true↔tV x)) (rec [.int .i64 (ar ((i:Int)+1))] sF):=by
   intro aes;rw[Zc];refine aP (x.aH.length-(i+1)) _ _ (by omega) ⟨i+1,rfl,by omega,by omega,rfl,λj hj=>?_⟩;by_cases kH:j<i
   .exact UN j kH
   .have:j=i:=by omega
    subst this;exact aes
  rw[Za];by_cases d3:(i:Int)∈ll (Zv x)
  .rw[aw d3,bm,af]
   simp only[au,aq];rw[Za,af];simp only[au,aq];rw[af];exact Ur ⟨by omega,by omega,λh=>absurd d3 h⟩
  rw[aB d3,bp,ae,aX,Zb (yz fO),ld];simp only[aY,au,aq];rw[Za];by_cases d4:iX x i<x.g
  .rw[aw d4,ae]
   refine Ok.call (B2 n 1 x.free i p3 sF (.inl rfl) ew) ?_;rintro _ rfl;refine⟨_,sF,rfl,?_⟩;simp only[au,aq];by_cases d5:(i:Int)∈x.free
   .rw[aw d5,bm,af]
    exact Ur ⟨by omega,by omega,λ_ _=>d5⟩
   .rw[aB d5,bp,ae]
    exact no sF cq (H0 λhh=>d5 (hh.2.2 d3 d4))
  .rw[aB d4,af]
   simp only[au,aq];rw[af];exact Ur (by omega)
 rw[aB (by omega),af,Zd];have:i=x.aH.length:=by omega
 subst this;refine .mk ⟨true,sF,rfl,cq,?_⟩;simp only[true_iff];exact {
  HQ:=hg
  cO:=by omega
  EX:=Vf.1
  right:=Vf.2.1
  order:=Vf.2.2
  nodup:=vi.2 ⟨jz,Vq,λa ha b hb=>by rintro rfl;exact(HY a hb).2.1 ha⟩
  range:=λk hk=>by
   rcases fE.1 hk with h|h
   .obtain⟨e,he,rfl⟩:=tN.1 h
    exact(cS e he).1
   .exact(HY k h).1
  gen:=λe he=>(cS e he).2
  low:=λk hk=>(HY k hk).2.2
  aH:=λv hv=>by
   obtain⟨i,hi,rfl⟩:=Gc hv;have:=UN i hi;unfold iX at this;rw[bu,dX,bU hi]at this;exact⟨this.1,this.2.1⟩
  rest:=λi hi cx=>by
   have:=UN i hi;refine Int.not_lt.1 λax=>cx ?_
   by_cases hs:(i:Int)∈ll (Zv x)
   .exact List.mem_append_left _ hs
   .exact List.mem_append_right _ (this.2.2 hs ax) }
theorem Of (f:Nat) (ff fc r:ah) (K:Nat->ah->ah->ah->M β):L5 (.func f ff fc::r) K=K f ff fc r:=rfl
theorem Zo7 (n z f:Nat) (ff fc:ah) (l:ak) (p:ai) (st:St) (P:Int->Bool) (hz:z=1\/p=none) (hs:Sl st p (ints l)) (hn:l.length+10<=n) (hl:l.length<1000000)
  (hc: ∀v∈l,run Bd (n-2) f (ff++[.int .i64 v]++fc) st=some (.val [.bool (P v)],st)):
  run Bd n 147 [.slice z p l.length,.func f ff fc] st=some (.val [.bool (l.any P)],st):=by
 obtain⟨n,rfl⟩: ∃m,n=m+2:=⟨n-2,by omega⟩;rw[Ze,h.abB];unfold Ol cQ Lb;simp only[Zg 1 z p _ hz,Of,aq];have fO:Ok (λo=>∃y:Int,o=(.val [.int .i64 y],st)/\decide (y>=0)=l.any P) (run Bd (n+1) 156 [.slice 1 p l.length,.func f ff fc] st):=by
  rw[Ze,h.abD];unfold Ou Q_ cI Zn bd Li;simp only[bc,Of,aq];rw[Za];refine Zj _ (λq y s=>∃i:Nat,y=[.int .i64 i]/\i<=l.length/\l.length-i<=q/\s=st/\∀v∈l.take i,P v=false) ?_ l.length n _ _ (by grind) (by omega);rintro q _ s ⟨i,rfl,hi,hq,rfl,cx⟩ rec aP;simp only[av,aq];by_cases ax:i<l.length
  .obtain⟨i1,o1,rfl⟩:=hs.cD (by simp[ints];omega)
   rw[aw (show(i:Int)<(l.length:Int) by omega),ae,aX,Zb (Zi ax),bu,hs.dL (d:= .int .i64 l[i]) (by simp[ints,ax])];simp only[aY];have hv:=hc l[i] (jG ax);rw[show n+2-2=n by omega]at hv;rw[Zk hv];simp only[au,aq];cases hp:P l[i]with
   |true=>
    rw[ae,Zd];refine .mk ⟨_,rfl,?_⟩;rw[aw (by omega),List.any_eq_true.2 ⟨_,jG ax,hp⟩]
   |false=>
    rw[af,Zc];refine aP (l.length-(i+1)) _ _ (by omega) ⟨i+1,rfl,by omega,by omega,rfl,?_⟩;intro v hv;rw[kS ax]at hv;grind
  .rw[aB (show ¬(i:Int)<(l.length:Int) by omega),af,Zd]
   rw[dq (by omega)]at cx;refine .mk ⟨_,rfl,?_⟩;rw[show decide ((-1:Int)>=0)=false from rfl];grind
 obtain⟨_,e,y,rfl,hy⟩:=fO;rw[Zk e];simp[av,aq,hy,Zd]
end Go.Gv.F
