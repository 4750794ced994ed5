/- States: in memory; which ones may be; small functions over them. -/
import Derived.Test.YtegglibipjjblaaGreatDoorGvZPe
set_option linter.all false
namespace Go.Gv.F
open Go.Gv
structure bh where
 slot:Int
 gen:Int
 key:Int
 value:Int
structure dP where
 name:aj
 cj:List bh
structure fJ where
 blocks:Int
 de:Int
 g:Int
 aM:List dP
 aK:ak
 free:ak
def fk (e:bh):ah:=[.i e.slot,.i e.gen,.i e.key,.i e.value]
def bY (l:List bh):ah:=(l.map fk).flatten
theorem Zt (l:List bh):(bY l).length=l.length*4:=by
 unfold bY;induction l with
 |nil=>rfl
 |cons e l ih=>rw[oG,Da,bB,ih,cO];show 4+_=_;omega
theorem DC: ∀ {l:List bh} {j:Nat} {e:bh},l[j]? =some e->((bY l).drop (j*4)).take 4=fk e
 |[],j,e,h=>by simp at h
 |x::l,0,e,h=>by
  simp only[kY,fT]at h;subst h;rw[tn,dK];rfl
 |x::l,j+1,e,h=>by
  have e2:bY (x::l)=fk x++bY l:=rfl;rw[e2,show(j+1)*4=(fk x).length+j*4 by show _=4+_;omega,<-kW,C8];exact DC (by simpa using h)
theorem zP (l m:List bh):bY (l++m)=bY l++bY m:=by
 simp[bY]
def ml (h:dP) (z:Nat) (p:ai):ah:=[.t h.name,.s z p h.cj.length]
def kB (s:St):ah->List dP->Prop
 |ds,[]=>ds=[]
 |ds,x::r=>∃z p t,(z=4\/p=none)/\ds=ml x z p++t/\Sl s p (bY x.cj)/\kB s t r
theorem xE (x:dP) (z:Nat) (p:ai):(ml x z p).length=2:=rfl
theorem Z3 {β:Type} (sz z:Nat) (a:ai) (n:Nat) (h:z=sz\/a=none) (K:ai->Nat->M β):dr sz (.s z a n) K=K a n:=by
 rcases h with rfl|rfl
 .exact kb _ _ _ _
 simp
theorem kB.len {s:St} : ∀ {ds:ah} {xs:List dP},kB s ds xs->ds.length=xs.length*2
 |ds,[],h=>by rw[show ds=[]from h];rfl
 |ds,x::r,⟨z,p,t,_,h1,_,h3⟩=>by rw[h1,bB,h3.len,xE,cO];omega
theorem kB.mono {s s':St} (k:aB s s'): ∀ {ds:ah} {xs:List dP},kB s ds xs->kB s' ds xs
 |_,[],h=>h
 |_,_::_,⟨z,p,t,hz,h1,h2,h3⟩=>⟨z,p,t,hz,h1,h2.mono k,h3.mono k⟩
theorem kB.get {s:St} : ∀ {ds:ah} {xs:List dP},kB s ds xs->∀ {j:Nat} {x:dP},xs[j]? =some x->∃z p,(z=4\/p=none)/\(ds.drop (j*2)).take 2=ml x z p/\ds[j*2]? =some (.t x.name)/\ds[j*2+1]? =some (.s z p x.cj.length)/\Sl s p (bY x.cj)
 |_,[],_,j,x,e=>by simp at e
 |ds,y::r,⟨zq,q,t,KE,h1,h2,h3⟩,0,x,e=>by
  simp only[kY,fT]at e;subst e;subst h1;exact⟨zq,q,KE,rfl,rfl,rfl,h2⟩
 |ds,y::r,⟨zq,q,t,KE,h1,h2,h3⟩,j+1,x,e=>by
  have⟨z,p,hz,g1,g2,g3,g4⟩:=h3.get (j:=j) (x:=x) (by simpa using e);refine⟨z,p,hz,?_,?_,?_,g4⟩
  .rw[h1,show(j+1)*2=(ml y zq q).length+j*2 by rw[xE];omega,<-kW,C8]
   exact g1
  .rw[h1,kX (by rw[xE];omega),xE,show(j+1)*2-2=j*2 by omega]
   exact g2
  .rw[h1,kX (by rw[xE];omega),xE,show(j+1)*2+1-2=j*2+1 by omega]
   exact g3
def dE (x:fJ) (z1:Nat) (p1:ai) (z2:Nat) (p2:ai) (z3:Nat) (p3:ai):ah:=
 [.i x.blocks,.i x.de,.i x.g,.s z1 p1 x.aM.length,.s z2 p2 x.aK.length,.s z3 p3 x.free.length]
structure lh (s:St) (x:fJ) (p1 p2 p3:Option (Nat×Nat)):Prop where
 hp: ∃ds,Sl s p1 ds/\kB s ds x.aM
 gn:Sl s p2 (ints x.aK)
 fr:Sl s p3 (ints x.free)
variable {k:Int} {i j m n o:Nat} {s s':St} {ds:ah} {D:ak}
theorem lh.pre {x:fJ} {p1 p2 p3:ai} (h:lh s x p1 p2 p3) (k:aB s s'):lh s' x p1 p2 p3:=
 let ⟨ds,h1,h2⟩:=h.hp
 ⟨⟨ds,h1.mono k,h2.mono k⟩,h.gn.mono k,h.fr.mono k⟩
def oY (b s g:Int):Bool:=decide (b>=16)&&(decide (b<=3072)&&(decide (s>=1)&&(decide (s<=1792)&&(decide (g>=1)&&decide (g<=4294967295)))))
def fu (a b:bh):Bool:=if a.key≠b.key then decide (a.key<b.key)else if a.slot≠b.slot then decide (a.slot<b.slot)else decide (a.gen<b.gen)
def DI (l:List bh):Prop:=∀i a b,l[i]? =some a->l[i+1]? =some b->fu a b=true
def M4 (l:List dP):Prop:=∀i a b,l[i]? =some a->l[i+1]? =some b->cmpL (dB a.name) (dB b.name)<0
def Zq (x:fJ):List bh:=(x.aM.map (·.cj)).flatten
def iz (x:fJ) (k:Int):Int:=x.aK.getD k.toNat 0
structure sa (x:fJ):Prop where
 N2:oY x.blocks x.de x.g=true
 de:(x.aK.length:Int)<=x.de
 D4:x.aM.length<=16
 right: ∀h∈x.aM,qI h.name=true/\DI h.cj
 order:M4 x.aM
 nodup:((Zq x).map (·.slot)++x.free).Nodup
 range: ∀k∈(Zq x).map (·.slot)++x.free,0<=k/\k<(x.aK.length:Int)
 gen: ∀e∈Zq x,iz x e.slot=e.gen
 low: ∀k∈x.free,iz x k<x.g
 aK: ∀v∈x.aK,1<=v/\v<=x.g
 rest: ∀i,i<x.aK.length->((i:Int)∉(Zq x).map (·.slot)++x.free)->x.g<=iz x i
theorem ZoP (b s g:Int) (st:St) (X:Zf->Nat->ah->M ah) (hX: ∀c n,X c n [.a [.i b,.i s,.i g]] st=H5 c n [.a [.i b,.i s,.i g]] st) (c:Zf) (n:Nat):
  X c n [.a [.i b,.i s,.i g]] st=some (.val [.b (oY b s g)],st):=by
 rw[hX];unfold H5 DH aA Lb oY;simp only[cT,av,aq];cases decide (b>=16)with
 |false=>simp only[Za,af,au,aq];rfl
 |true=>
 cases decide (b<=3072)with
 |false=>simp only[Za,af,ae,au,aq];rfl
 |true=>
 cases decide (s>=1)with
 |false=>simp only[Za,af,ae,au,aq];rfl
 |true=>
 cases decide (s<=1792)with
 |false=>simp only[Za,af,ae,au,aq];rfl
 |true=>
 cases decide (g>=1)with
 |false=>simp only[Za,af,ae,au,aq];rfl
 |true=>
  simp only[Za,ae,au,aq];rfl
variable {Bd:Zh} [h:HA Bd]
theorem ZlG (n:Nat) (b s g:Int) (st:St):run Bd (n+1) 145 [.a [.i b,.i s,.i g]] st=some (.val [.b (oY b s g)],st):=by
 rw[Ze,h.aep];exact ZoP b s g st H5 (λ_ _=>rfl) _ _
theorem ZkR (n:Nat) (b s g:Int) (st:St):run Bd (n+1) 141 [.a [.i b,.i s,.i g]] st=some (.val [.b (oY b s g)],st):=by
 rw[Ze,h.ael];exact ZoP b s g st Sk (λ_ _=>rfl) _ _
theorem Ro (n:Nat) (a b:bh) (st:St):run Bd (n+1) 155 [.a (fk a),.a (fk b)] st=some (.val [.b (fu a b)],st):=by
 rw[Ze,h.aer];unfold RS LX Lb fk fu;simp only[cT,av,aq];by_cases h1:a.key=b.key
 .have e1:(a.key==b.key)=true:=by rw[h1];simp
  rw[e1,bu,af,bj (by simp[h1])];by_cases h2:a.slot=b.slot
  .have e2:(a.slot==b.slot)=true:=by rw[h2];simp
   rw[e2,bu,af,bj (by simp[h2])];rfl
  .have e2:(a.slot==b.slot)=false:=eG.2 h2
   rw[e2,bn,ae,bE h2];rfl
 .have e1:(a.key==b.key)=false:=eG.2 h1
  rw[e1,bn,ae,bE h1];rfl
def gK (x y:Int):Int:=if x<y then-1 else if x>y then 1 else 0
theorem Uh {Bd:Zh} (h:HT Bd) (n:Nat) (x y:Int) (st:St):run Bd (n+2) 161 [.i x,.i y] st=some (.val [.i (gK x y)],st):=by
 have e: ∀z:Int,run Bd (n+1) 163 [.i z] st=some (.val [.b false],st):=by
  intro z;rw[Ze,h.q1.eq];unfold HZ cP Lb
  try dsimp only
  simp[av,aq,xq,bu,Zd]
 rw[Ze,h.eq];unfold HS iX bq Li gK;simp only[av,aq];rw[Zk (e x)];rw[au,aq];rw[Zk (e y)];rw[au,aq,af];by_cases h1:x<y
 .rw[ax h1,ae,bE h1];rfl
 .rw[aF h1,af,bj h1]
  by_cases h2:x>y
  .rw[ax h2,ae,bE h2];rfl
  .rw[aF h2,af,bj h2];rfl
theorem abd {Bd:Zh} (h:Fs Bd) (n:Nat) (hn:8<=n) (a b:bh) (st:St):
  Ok (λo=>∃z s',o=(.val [.i z],s')/\aB st s'/\decide (z>=0)= !fu a b) (run Bd n 159 [.a (fk a),.a (fk b)] st):=by
 obtain⟨n,rfl⟩: ∃m,n=m+3:=⟨n-3,by omega⟩;rw[Ze,h.eq];unfold HV LX lY cw gJ zI aZ Li fk;simp only[cT,av,aq];rw[v8 (Uh h.q0 n a.key b.key st)];rw[av,aq];rw[v8 (Uh h.q0 n a.slot b.slot st)];rw[av,aq];rw[Zk (Uh h.q0 n a.gen b.gen st)];rw[av,aq];rw[Zz];have hp:=aB.new st (some ⟨false,[DV.i (gK a.key b.key),.i (gK a.slot b.slot),.i (gK a.gen b.gen)]⟩);have hs:Sl (st++[some ⟨false,[DV.i (gK a.key b.key),.i (gK a.slot b.slot),.i (gK a.gen b.gen)]⟩]) (some (st.length,0)) [DV.i (gK a.key b.key),.i (gK a.slot b.slot),.i (gK a.gen b.gen)]:=Nt st _;generalize (st++[some ⟨false,[DV.i (gK a.key b.key),.i (gK a.slot b.slot),.i (gK a.gen b.gen)]⟩])=s1 at hp hs;have hor:run Bd (n+2) 162 [.s 1 (some (st.length,0)) 3] s1=some (.val [.i (if gK a.key b.key≠0 then gK a.key b.key else if gK a.slot b.slot≠0 then gK a.slot b.slot else gK a.gen b.gen)],s1):=by
  rw[Ze,h.q2.eq];unfold H6 bV Q_ cN Zn Li
  try dsimp only
  obtain⟨n,rfl⟩: ∃m,n=m+5:=⟨n-5,by omega⟩;rw[aX,aq];rw[Za];have step: ∀(m i:Nat) (z:Int) (R:Option (Out ah×St)),i<3->[DV.i (gK a.key b.key),.i (gK a.slot b.slot),.i (gK a.gen b.gen)][i]? =some (.i z)->
    (z≠0->R=some (.val [.i z],s1))->∀(F:(ah->M ah)->ah->M ah),True:=by simp
  clear step;have ld: ∀(i:Nat) (d:DV) (K:DV->M ah),[DV.i (gK a.key b.key),.i (gK a.slot b.slot),.i (gK a.gen b.gen)][i]? =some d->bD st.length (i*1+0) K s1=K d s1:=λi d K hd=>hs.dJ hd K
  rw[Bz];rw[av,aq];rw[show decide ((0:Int)<((3:Nat):Int))=true from rfl,ae,bd,Zb (by rfl)];rw[show(0:Int).toNat=0 from rfl,ld 0 _ _ rfl];rw[bg];by_cases c1:gK a.key b.key=0
  .have e1:(gK a.key b.key==0)=true:=by rw[c1];rfl
   rw[e1,bu,af,bj (by simp[c1]),Bz];rw[av,aq];rw[show ar ((0:Int)+1)=1 from Zc,show decide ((1:Int)<((3:Nat):Int))=true from rfl,ae,bd,Zb (by rfl)];rw[show(1:Int).toNat=1 from rfl,ld 1 _ _ rfl];rw[bg];by_cases c2:gK a.slot b.slot=0
   .have e2:(gK a.slot b.slot==0)=true:=by rw[c2];rfl
    rw[e2,bu,af,bj (by simp[c2]),Bz];rw[av,aq];rw[show ar ((1:Int)+1)=2 from Zc,show decide ((2:Int)<((3:Nat):Int))=true from rfl,ae,bd,Zb (by rfl)];rw[show(2:Int).toNat=2 from rfl,ld 2 _ _ rfl];rw[bg];by_cases c3:gK a.gen b.gen=0
    .have e3:(gK a.gen b.gen==0)=true:=by rw[c3];rfl
     rw[e3,bu,af,Bz];rw[av,aq];rw[show ar ((2:Int)+1)=3 from Zc,show decide ((3:Int)<((3:Nat):Int))=false from rfl,af,c3];rfl
    .have e3:(gK a.gen b.gen==0)=false:=eG.2 c3
     rw[e3,bn,ae];rfl
   .have e2:(gK a.slot b.slot==0)=false:=eG.2 c2
    rw[e2,bn,ae,bE c2];rfl
  .have e1:(gK a.key b.key==0)=false:=eG.2 c1
   rw[e1,bn,ae,bE c1];rfl
 rw[Zk hor];rw[av,aq,Zd];refine .mk ⟨_,s1,rfl,hp,?_⟩;grind[fu,gK]
theorem Bu (n z:Nat) (l:ak) (k:Int) (p:ai) (st:St) (hz:z=1\/p=none) (hs:Sl st p (ints l)) (hn:l.length+3<=n:=by omega) (hl:l.length<1000000:=by omega):
  Ok (λo=>o=(.val [.b (decide (k∈l))],st)) (run Bd n 143 [.s z p l.length,.i k] st):=by
 obtain _|n:=n;omega;rw[Ze,h.aen];unfold Ts oe Q_ cN Zn Lb Li
 try dsimp only
 rw[Zg 1 z p _ hz,av,aq];rw[Za];refine Zi _ (λq x s=>∃i:Nat,x=[.i i]/\i<=l.length/\l.length-i<=q/\s=st/\k∉l.take i) ?_ l.length n _ _ (by grind) (by omega);rintro q _ s ⟨i,rfl,hi,hq,rfl,cA⟩ rec aN;simp only[av,aq];by_cases aw:i<l.length
 .have e:decide ((i:Int)<(l.length:Int))=true:=ax (by omega)
  obtain⟨p1,o1,rfl⟩:=hs.cH (by simp[ints];omega);rw[e,ae,bd,Zb (Zj aw),bp,hs.dJ (d:= .i l[i]) (by simp[ints,aw])];rw[bg];by_cases hk:l[i]=k
  .have e2:(l[i]==k)=true:=by rw[hk];grind
   rw[e2,ae,Zd,ax (by rw[<-hk];simp)];exact .mk rfl
  .have e2:(l[i]==k)=false:=eG.2 hk
   rw[e2,af,Zc];refine aN (l.length-(i+1)) _ _ (by omega) ⟨i+1,rfl,by omega,by omega,rfl,?_⟩;rw[lX aw];grind
 .have e:decide ((i:Int)<(l.length:Int))=false:=aF (by omega)
  rw[e,af,Zd];rw[dG (by omega)]at cA;rw[aF cA];exact .mk rfl
variable {β:Type}
variable {xs:List dP}
theorem FM {x:dP} (hs:Sl s (some (i,o)) ds) (hh:kB s ds xs) (e:xs[j]? =some x) (K:DV->M β):bD i (j*2+o) K s=K (.t x.name) s:=by
 have⟨_,p,_,_,g2,_,_⟩:=hh.get e;exact hs.get g2 K
theorem Mv {x:dP} (hs:Sl s (some (i,o)) ds) (hh:kB s ds xs) (e:xs[j]? =some x): ∃p,Sl s p (bY x.cj)/\∀K:ai->Nat->M β,bD i (j*2+o+1) (λd=>dr 4 d K) s=K p x.cj.length s:=by
 have⟨z,p,hz,_,_,g3,g4⟩:=hh.get e;refine⟨p,g4,λK=>?_⟩;have e2:j*2+o+1=(j*2+1)+o:=by omega
 rw[e2,hs.get g3,Z3 4 z p _ hz]
variable {l:List bh}
theorem IK {k:Nat} {x:bh} (hs:Sl s (some (i,o)) (bY l)) (e:l[k]? =some x) (K:ah->M β):bS i (k*4+o) 4 K s=K (fk x) s:=by
 have hk:k<l.length:=by grind
 rw[hs.yj (k:=k*4) (n:=4) (by rw[Zt];omega) K,DC e]
theorem ZwR {k:Nat} {x:bh} (hs:Sl s (some (i,o)) (bY l)) (e:l[k]? =some x) (K:ah->M β):bS i (k*4+o) 2 K s=K [.i x.slot,.i x.gen] s:=by
 have hk:k<l.length:=by grind
 rw[hs.yj (k:=k*4) (n:=2) (by rw[Zt];omega) K];have:=congrArg (List.take 2) (DC e);rw[Db]at this;rw[show((bY l).drop (k*4)).take 2=[.i x.slot,.i x.gen]from this]
theorem Zyt {k:Nat} {x:bh} (e:l[k]? =some x) (hm:m<4):(bY l)[k*4+m]? =(fk x)[m]? :=by
 have:=congrArg (λy:ah=>y[m]?) (DC e);grind
def Ng (l:List dP):Prop:=l.length<=16/\(∀h∈l,qI h.name=true/\DI h.cj)/\M4 l
def F7 (l:List dP) (i:Nat) (h:dP):Prop:=qI h.name=true/\∀g,0<i->l[i-1]? =some g->cmpL (dB g.name) (dB h.name)<0
theorem ZtV (l:List dP) (hl:l.length<=16):Ng l↔ ∀i h,l[i]? =some h->F7 l i h/\DI h.cj:=by
 constructor
 .intro ⟨_,h1,h2⟩ i h e
  refine⟨⟨(by grind),λg hi eg=>h2 (i-1) g h eg ?_⟩,(by grind)⟩;rw[show i-1+1=i by omega];exact e
 .intro h
  refine⟨hl,λx hx=>?_,λi a b ea eb=>?_⟩
  .obtain⟨i,hi,rfl⟩:=List.getElem_of_mem hx
   have:=h i _ (cq hi);exact⟨this.1.1,this.2⟩
  .exact(h (i+1) b eb).1.2 a (by omega) (by rw[show i+1-1=i by omega];exact ea)
theorem Ztn (l:List bh):DI l↔ ∀k a b,1<=k->l[k-1]? =some a->l[k]? =some b->fu a b=true:=by
 constructor
 .intro h k a b hk ha hb
  exact h (k-1) a b ha (by rw[show k-1+1=k by omega];exact hb)
 .intro h i a b ha hb
  grind
structure SzH (l:List dP):Prop where
 len:l.length<=50000
 cj: ∀h∈l,h.cj.length<=50000
 name: ∀h∈l,h.name.length<=50000
theorem Zp1 (n z:Nat) (l:List dP) (p:ai) (ds:ah) (st:St) (hz:z=2\/p=none) (hs:Sl st p ds) (hh:kB st ds l) (sz:SzH l) (hn:50100<=n):
  Ok (λo=>∃b s',o=(.val [.b b],s')/\aB st s'/\(b=true↔Ng l)) (run Bd n 144 [.s z p l.length] st):=by
 obtain _|n:=n;omega;rw[Ze,h.aeo];unfold RR Q_ cN xy bq aA N_ sh cw Lb Li Ls Bx
 try dsimp only
 rw[Zg 2 z p _ hz,aq];by_cases sH:l.length>16
 .rw[ax (show(l.length:Int)>16 by omega),ae,Zd]
  exact .mk ⟨false,st,rfl,.refl _,by grind[Ng]⟩
 rw[aF (show ¬(l.length:Int)>16 by omega),af,Za];have sH:l.length<=16:=by omega
 have fP:=ZtV l sH;refine Zi _ (λq x s=>∃i:Nat,x=[.i i]/\i<=l.length/\l.length-i<=q/\aB st s/\∀j h,j<i->l[j]? =some h->F7 l j h/\DI h.cj) ?_ l.length n _ _ ⟨0,rfl,cz _,by omega,.refl _,by omega⟩ (by omega);rintro q _ s ⟨i,rfl,hi,hq,hp,ahe⟩ rec aN;simp only[av,aq];by_cases aw:i<l.length;rotate_left
 .rw[aF (show ¬(i:Int)<(l.length:Int) by omega),af,Zd]
  refine .mk ⟨true,s,rfl,hp,?_⟩;grind
 rw[ax (show(i:Int)<(l.length:Int) by omega),ae];obtain⟨i1,o1,rfl⟩:=hs.cH (by rw[hh.len];omega);have⟨x,hx⟩: ∃x,l[i]? =some x:=⟨_,cq aw⟩;have hxm:=uw hx;have Pa:=sz.cj x hxm;have hxn:=sz.name x hxm;rw[Za,bd,Zb (Zj aw),bp,FM (hs.mono hp) (hh.mono hp) hx];rw[zF];refine Ok.call (ZkH n x.name (by omega) (by omega) s) ?_;rintro _ ⟨s1,rfl,aH⟩;refine⟨_,s1,rfl,?_⟩;rw[au,aq];refine Zwd (λy s=>∃b:Bool,y=[.b b]/\aB st s/\(b=false↔F7 l i x)) ?_ ?_
 .rintro _ s2 ⟨b,rfl,aU,hb⟩
  rw[au,aq];cases b with
  |true=>
   rw[ae,Zd];refine .mk ⟨false,s2,rfl,aU,?_⟩;rw[fP];grind
  |false=>
   have cA:=hb.1 rfl;rw[af,Za];refine Zi _ (λq y s=>∃k:Nat,y=[.i k]/\1<=k/\x.cj.length+1-k<=q/\k<=x.cj.length+1/\aB st s/\∀m a b,1<=m->m<k->x.cj[m-1]? =some a->x.cj[m]? =some b->fu a b=true) ?_ x.cj.length n _ _ ⟨1,rfl,aO _,by omega,by omega,aU,λm a b h1 h2=>by omega⟩ (by omega);rintro q' _ s3 ⟨k,rfl,kh,hkq,jn,cu,ab2⟩ dw j4;rw[av,aq];rw[bd,Zb (Zj aw),bp];have⟨pe,pZ,le⟩:=Mv (β:=ah) (hs.mono cu) (hh.mono cu) hx;rw[le];by_cases hk:k<x.cj.length
   .rw[ax (show(k:Int)<(x.cj.length:Int) by omega),ae,bd,Zb (Zj aw),le]
    obtain⟨m,rfl⟩: ∃m,k=m+1:=⟨k-1,by omega⟩;obtain⟨pi,po,rfl⟩:=pZ.cH (by rw[Zt];omega);have⟨a,ha⟩: ∃a,x.cj[m]? =some a:=⟨_,cq (by omega)⟩;have⟨b,dR⟩: ∃b,x.cj[m+1]? =some b:=⟨_,cq hk⟩;rw[bd,Zc,show(((m+1:Nat):Int)-1)=(m:Int) by omega,Zb (Zj),bp,IK pZ ha];unfold fk;simp only[av,aq];rw[bd,Zb (Zj aw),le];rw[bd,Zb (Zj hk),IK pZ dR];unfold fk;simp only[av,aq];have tV:=Ro (n-1) a b s3;rw[show n-1+1=n by omega]at tV;unfold fk at tV;rw[Zk tV];rw[au,aq];cases fV:fu a b with
    |false=>
     rw[bn,ae,Zd];refine .mk ⟨false,s3,rfl,cu,?_⟩;rw[fP];rw[uu,false_iff];intro dt;have:=(Ztn _).1 (dt i x hx).2 (m+1) a b (by omega) (by rw[show m+1-1=m by omega];exact ha) dR;rw[fV]at this;cases this
    |true=>
     rw[bu,af,Zc];refine j4 (x.cj.length+1-(m+1+1)) _ _ (by omega) ⟨m+1+1,rfl,by omega,by omega,by omega,cu,?_⟩;intro m' a' b' h1 h2 tS c9;by_cases hm:m'<m+1
     .exact ab2 m' a' b' h1 hm tS c9
     .have:m'=m+1:=by omega
      subst this;rw[show m+1-1=m by omega]at tS;rw[ha]at tS;rw[dR]at c9;grind
   .rw[aF (show ¬(k:Int)<(x.cj.length:Int) by omega),af]
    rw[Zc];refine aN (l.length-(i+1)) _ _ (by omega) ⟨i+1,rfl,by omega,by omega,cu,?_⟩;intro j y hj ey;by_cases nA:j<i
    .exact ahe j y nA ey
    .have:j=i:=by omega
     subst this;rw[hx]at ey;cases ey;refine⟨cA,(Ztn _).2 λm a b h1 ha dR=>ab2 m a b h1 ?_ ha dR⟩;have:=(ef.1 dR).1;omega
 .intro jk vu
  cases hr:qI x.name with
  |false=>
   rw[bn,ae];refine vu _ _ ⟨true,rfl,hp.trans aH,?_⟩;unfold F7;rw[hr];simp
  |true=>
   rw[bu,af,Za];by_cases h0:0<i
   .obtain⟨m,rfl⟩: ∃m,i=m+1:=⟨i-1,by omega⟩
    rw[ax (show((m+1:Nat):Int)>0 by omega),ae];have⟨g,hg⟩: ∃g,l[m]? =some g:=by grind
    have yx:=sz.name g (uw hg);have aU:=hp.trans aH;rw[bd,Zc,show(((m+1:Nat):Int)-1)=(m:Int) by omega,Zb (Zj),bp,FM (hs.mono aU) (hh.mono aU) hg];rw[zF];rw[bd,Zb (Zj aw),FM (hs.mono aU) (hh.mono aU) hx];rw[zF];refine Ok.call (Zir n g.name x.name (by omega) (by omega) (by omega) (by omega) s1) ?_;rintro _ ⟨s2,rfl,cu⟩;refine⟨_,s2,rfl,?_⟩;simp only[av,au,aq];refine vu _ _ ⟨_,rfl,aU.trans cu,?_⟩;unfold F7;rw[hr,show m+1-1=m by omega,hg];grind
   .rw[aF (show ¬(i:Int)>0 by omega),af]
    simp only[au,aq];refine vu _ _ ⟨false,rfl,hp.trans aH,?_⟩;unfold F7;rw[hr];grind
def tJ (l:List dP):List bh:=(l.map (·.cj)).flatten
theorem Zoy (x:fJ):Zq x=tJ x.aM:=rfl
theorem ZtQ (l:List dP) {h:dP} (e:l[i]? =some h):tJ (l.take (i+1))=tJ (l.take i)++h.cj:=by
 obtain⟨hi,rfl⟩:=ef.1 e;unfold tJ;rw[lX hi,fq,HC,oG,List.map_nil,Da,List.flatten_nil,gz]
theorem Zwf (l:List dP) (i:Nat):(tJ (l.take i)).length<=(tJ l).length:=by
 have:tJ l=tJ (l.take i)++tJ (l.drop i):=by
  grind[tJ,HC,fq,rS]
 rw[this,bB];omega
theorem Ziu (n:Nat) (x:fJ) (z1 z2 z3:Nat) (p1 p2 p3:ai) (st:St) (kQ:z1=2\/p1=none) (gS:z2=1\/p2=none) (mB:z3=1\/p3=none) (hr:lh st x p1 p2 p3)
  (hl:x.aM.length<=50000) (he:(Zq x).length<=50000) (hn:50100<=n:=by omega):
  Ok (λo=>∃q s',o=(.val [.s 4 q (Zq x).length],s')/\aB st s'/\Sl s' q (bY (Zq x))) (run Bd n 142 [.a (dE x z1 p1 z2 p2 z3 p3)] st):=by
 obtain _|n:=n;omega;rw[Ze,h.aem];unfold QR Zx Dl cP N_ rY iw
 try dsimp only
 have ag: ∀(l:ah) (K:ah->ah->M ah),ba (.a (dE x z1 p1 z2 p2 z3 p3)::l) K=K (dE x z1 p1 z2 p2 z3 p3) l:=λ_ _=>rfl
 rw[ag];unfold dE;simp only[av,Zg 2 z1 p1 _ kQ,Zg 1 z2 p2 _ gS,Zg 1 z3 p3 _ mB,aq];rw[ZM,Za];have⟨ds,hs,hh⟩:=hr.hp;rw[Zoy]at he;rw[Zoy];refine Zi _ (λq y s=>∃(i z:Nat) (a:ai),y=[.s z a (tJ (x.aM.take i)).length,.i i]/\(z=4\/a=none)/\i<=x.aM.length/\x.aM.length-i<=q/\bm st s a (bY (tJ (x.aM.take i)))) ?_ x.aM.length n _ _ ⟨0,0,none,rfl,.inr rfl,cz _,by omega,bm.nil (.refl _)⟩ (by omega);rintro q _ s ⟨i,z,a,rfl,hz,hi,hq,ho⟩ rec aN;rw[Zg 4 z a _ hz,av,aq];by_cases aw:i<x.aM.length
 .rw[ax (show(i:Int)<(x.aM.length:Int) by omega),ae]
  obtain⟨i1,o1,rfl⟩:=hs.cH (by rw[hh.len];omega);have⟨g,hg⟩: ∃g,x.aM[i]? =some g:=⟨_,cq aw⟩;rw[bd,Zb (Zj aw),bp];have⟨pe,pZ,le⟩:=Mv (β:=ah) (hs.mono ho.1) (hh.mono ho.1) hg;rw[le];rw[<-Zt,iR pZ];have et:=ZtQ x.aM hg;have hle:=Zwf x.aM (i+1);rw[et,bB]at hle;rw[Zc];by_cases h0:0<g.cj.length
  .have⟨q2,s2,g1,g2⟩:=ho.app (β:=ah) (sz:=4) (n:=(tJ (x.aM.take i)).length) (m:=g.cj.length) (lim:=2199023255552) (ds:=bY g.cj) (by omega) (Zt _) h0 (by omega)
   rw[g2];exact aN (x.aM.length-(i+1)) _ _ (by omega) ⟨i+1,4,q2,by rw[et,bB];rfl,.inl rfl,by omega,by omega,by rw[et,zP];exact g1⟩
  .have e0:g.cj=[]:=by grind
   rw[e0]at et⊢;rw[show(bY []:ah)=[]from rfl,show(([]:List bh).length)=0 from rfl,ZxX];rw[gz]at et;exact aN (x.aM.length-(i+1)) _ _ (by omega) ⟨i+1,4,a,by rw[et];rfl,.inl rfl,by omega,by omega,by rw[et];exact ho⟩
 .rw[aF (show ¬(i:Int)<(x.aM.length:Int) by omega),af]
  have:i=x.aM.length:=by omega
  subst this;rw[rU]at ho⊢;simp only[aX,aq,Zp];exact .mk ⟨a,_,rfl,Zr ho.1,ho.sl.dQ _⟩
def lv (n:Nat) (D:ak):ah:=(List.range n).map λ(k:Nat)=>DV.b (decide ((k:Int)∈D))
theorem Zxe (n:Nat) (D:ak):(lv n D).length=n:=by simp[lv]
theorem ZAr (h:0<=k/\k<(n:Int)):(lv n D)[k.toNat]? =some (.b (decide (k∈D))):=by
 grind[bp,lv,rQ]
theorem ZAl (h:0<=k/\k<(n:Int)):cE (lv n D) (k.toNat*1) [.b true]=lv n (D++[k]):=by
 obtain⟨m,rfl⟩: ∃m:Nat,k=(m:Int):=⟨k.toNat,by omega⟩;rw[bp,cR,BJ _ _ _ (by rw[Zxe];omega)];refine tk λj=>?_
 rw[List.getElem?_set];unfold lv;by_cases hj:j<n
 .grind
 grind
theorem Zz1 (n:Nat):il n [.b false]=lv n []:=by
 unfold il lv;refine tk λj=>?_
 have:(List.replicate n [DV.b false]).flatten=List.replicate n (DV.b false):=by
  simp
 rw[this];by_cases hj:j<n
 .simp[hj]
 grind
theorem zZ (h:0<=k/\k<(n:Int)):aR k n=true:=by grind[aR]
theorem VP {x:fJ} (h:0<=k/\k<(x.aK.length:Int)):(ints x.aK)[k.toNat]? =some (.i (iz x k)):=by
 grind[ints,iz]
theorem Pw: ∀(n:Nat) (l:ak),l.Nodup->(∀k∈l,0<=k/\k<(n:Int))->l.length<=n
 |0,l,_,h=>by
  cases l with
  |nil=>exact aO _
  |cons k l=>have:=h k (uv);omega
 |n+1,l,hd,h=>by
  have h1:=Pw n (l.erase (n:Int)) (hd.erase _) (by grind);rw[List.length_erase]at h1;grind
structure Dn (x:fJ):Prop where
 h:SzH x.aM
 e:(Zq x).length<=50000
 g:x.aK.length<=50000
 f:x.free.length<=50000
theorem Vm (hs:s[i]? =some (some ⟨false,lv n D⟩)) (h:0<=k/\k<(n:Int)) (K:DV->M β):bD i (k.toNat*1) K s=K (.b (decide (k∈D))) s:=by
 rw[cR];exact Zo hs (ZAr h) K
def lN (l:List bh):ak:=l.map (·.slot)
theorem ZvO (l:List bh) (h:i<l.length):lN (l.take (i+1))=lN (l.take i)++[l[i].slot]:=by
 unfold lN;rw[lX h,fq];rfl
theorem Ua {l:ak} :(l++[k]).Nodup↔l.Nodup/\k∉l:=by
 rw[rR];grind
theorem Ub {l m:ak} (h:(l++m).Nodup):l.Nodup:=(rR.1 h).1
theorem ZtX {x:fJ} (h:sa x) (i:Nat):(lN ((Zq x).take i)).Nodup:=by
 have h1:(lN (Zq x)).Nodup:=Ub h.nodup;have e:lN (Zq x)=lN ((Zq x).take i)++lN ((Zq x).drop i):=by
  simp[lN]
 rw[e]at h1;exact Ub h1
theorem ZvJ {x:fJ} (h:sa x):x.free.Nodup:=(rR.1 h.nodup).2.1
theorem ZsX (n:Nat) (x:fJ) (z1 z2 z3:Nat) (p1 p2 p3:ai) (st:St) (kQ:z1=2\/p1=none) (gS:z2=1\/p2=none) (mB:z3=1\/p3=none) (hr:lh st x p1 p2 p3)
  (sz:Dn x) (hn:50200<=n):
  Ok (λo=>∃b s',o=(.val [.b b],s')/\aB st s'/\(b=true↔sa x)) (run Bd n 133 [.a (dE x z1 p1 z2 p2 z3 p3)] st):=by
 obtain _|n:=n;omega;rw[Ze,h.aej];unfold TW Zx bq aA Q_ cN Zn qK N_ iX uR Lb Bs Li dY
 try dsimp only
 have ag: ∀(l:ah) (K:ah->ah->M ah),ba (.a (dE x z1 p1 z2 p2 z3 p3)::l) K=K (dE x z1 p1 z2 p2 z3 p3) l:=λ_ _=>rfl
 rw[ag];unfold dE;simp only[av,Zg 2 z1 p1 _ kQ,Zg 1 z2 p2 _ gS,Zg 1 z3 p3 _ mB,aq];have hsg:=sz.g;have no: ∀s,aB st s->¬sa x->Ok (λo=>∃b s',o=(.val [.b b],s')/\aB st s'/\(b=true↔sa x)) ((ay [.b false]:M ah) s):=by
  intro s hp hm;rw[Zd];exact .mk (by grind)
 have AA:=ZkR (n-1) x.blocks x.de x.g st;rw[show n-1+1=n by omega]at AA;rw[Zk AA];rw[au,aq];rw[Za];cases hg:oY x.blocks x.de x.g with
 |false=>
  rw[bn,ae];simp only[au,aq];rw[Za,ae];simp only[au,aq];rw[ae];exact no st (.refl _) λhm=>by have:=hm.N2;rw[hg]at this;cases this
 |true=>
 rw[bu,af];simp only[au,aq];rw[Za];by_cases c1:(x.aK.length:Int)>x.de
 .rw[ax c1,ae]
  simp only[au,aq];rw[ae];exact no st (.refl _) λhm=>by have:=hm.de;omega
 rw[aF c1,af];have⟨ds,hs,hh⟩:=hr.hp;refine Ok.call (Zp1 n 2 x.aM p1 ds st (.inl rfl) hs hh sz.h (by omega)) ?_;rintro _ ⟨b,s1,rfl,aH,hb⟩;refine⟨_,s1,rfl,?_⟩;simp only[au,aq];cases b with
 |false=>
  rw[bn,ae];exact no s1 aH λhm=>by
   have:=hb.2 ⟨hm.D4,hm.right,hm.order⟩;cases this
 |true=>
 have XD:Ng x.aM:=hb.1 rfl;rw[bu,af];refine Ok.call (Ziu n x 2 1 1 p1 p2 p3 s1 (.inl rfl) (.inl rfl) (.inl rfl) (hr.pre aH) sz.h.len sz.e) ?_;rintro _ ⟨qe,s2,rfl,aU,hE⟩;refine⟨_,s2,rfl,?_⟩;rw[aX,aq];have aU:=aH.trans aU;rw[Za];by_cases c2:((Zq x).length:Int)>(x.aK.length:Int)
 .rw[ax c2,ae]
  simp only[au,aq];rw[ae];refine no s2 aU λhm=>?_
  have:=Pw x.aK.length _ hm.nodup hm.range;rw[bB,lG]at this;omega
 rw[aF c2,af];simp only[au,aq];by_cases c3:(x.free.length:Int)>(x.aK.length:Int)
 .rw[ax c3,ae]
  refine no s2 aU λhm=>?_
  have:=Pw x.aK.length _ hm.nodup hm.range;rw[bB,lG]at this;omega
 rw[aF c3,af];rw[Zb (by simp;omega),Zz,bp,Zz1];rw[Za,Za,Za];have ahr:=(hr.gn.mono aU);refine Zi _ (λq y s=>∃i:Nat,y=[.i i]/\i<=(Zq x).length/\(Zq x).length-i<=q/\aB s2 s/\s[s2.length]? =some (some ⟨false,lv x.aK.length (lN ((Zq x).take i))⟩)/\
   (lN ((Zq x).take i)).Nodup/\∀e∈(Zq x).take i,(0<=e.slot/\e.slot<(x.aK.length:Int))/\iz x e.slot=e.gen) ?_ (Zq x).length n _ _ ⟨0,rfl,cz _,by omega,.new _ _,by simp[lN],by simp[lN],by simp⟩ (by omega)
 rintro q _ s ⟨i,rfl,hi,hq,hp,eN,jo,dt⟩ rec aN;rw[av,aq];by_cases aw:i<(Zq x).length
 .rw[ax (show(i:Int)<((Zq x).length:Int) by omega),ae]
  obtain⟨ei,eo,rfl⟩:=hE.cH (by rw[Zt];omega);have he:(Zq x)[i]? =some (Zq x)[i]:=cq aw;have cg:=ZvO _ aw;have GG: ¬((0<=(Zq x)[i].slot/\(Zq x)[i].slot<(x.aK.length:Int))/\iz x (Zq x)[i].slot=(Zq x)[i].gen)->¬sa x:=λcA hm=>
   cA ⟨hm.range _ (by grind),hm.gen _ (kA aw)⟩
  have uh:(Zq x).take (i+1)=(Zq x).take i++[(Zq x)[i]]:=lX aw;generalize Ol:(Zq x)[i]=e at he cg GG uh;rw[bd,Zb (Zj aw),bp,ZwR (hE.mono hp) he];simp only[av,aq];have aij:=aU.trans hp;rw[Za];by_cases d1:e.slot<0
  .rw[ax d1,ae]
   simp only[au,aq];rw[Za,ae];simp only[au,aq];rw[Za,ae];simp only[au,aq];rw[ae];grind
  rw[aF d1,af];simp only[au,aq];rw[Za];by_cases d2:e.slot>=(x.aK.length:Int)
  .rw[ax d2,ae]
   simp only[au,aq];rw[Za,ae];simp only[au,aq];rw[ae];grind
  rw[aF d2,af];have gM:0<=e.slot/\e.slot<(x.aK.length:Int):=by omega
  rw[Zb (zZ gM),Vm eN gM];simp only[tq,au,aq];rw[Za];by_cases d3:e.slot∈lN ((Zq x).take i)
  .rw[ax d3,ae]
   simp only[au,aq];rw[ae];refine no s aij λhm=>?_
   have:=ZtX hm (i+1);rw[cg]at this;grind
  rw[aF d3,af];obtain⟨gi,go,rfl⟩:=hr.gn.cH (by simp[ints];omega);rw[bd,Zb (zZ gM),(ahr.mono hp).dJ (VP gM)];simp only[bg,au,aq];by_cases d4:iz x e.slot=e.gen
  .rw[show(e.gen==iz x e.slot)=true by rw[d4];grind,bu,af,Zb (zZ gM),M6 eN (by rw[Zxe];simp;omega),ZAl gM]
   rw[Zc];refine aN ((Zq x).length-(i+1)) _ _ (by omega) ⟨i+1,rfl,by omega,by omega,tA hp (aO _) _,?_,?_,?_⟩
   .rw[cg]
    grind
   .rw[cg]
    exact Ua.2 ⟨jo,d3⟩
   grind
  grind
 rw[aF (show ¬(i:Int)<((Zq x).length:Int) by omega),af];have:i=(Zq x).length:=by omega
 subst this;rw[rU]at eN jo dt;clear aN rec;have cu:=aU.trans hp;have dS:=hr.fr.mono cu;have yx:=hr.gn.mono cu;have W9: ∀k∈x.free,¬((0<=k/\k<(x.aK.length:Int))/\k∉lN (Zq x)/\iz x k<x.g)->¬sa x:=λk hk cA hm=>
  cA ⟨hm.range _ (Lq _ hk),λjn=>(rR.1 hm.nodup).2.2 k jn k hk rfl,hm.low k hk⟩
 refine Zi _ (λq y s'=>∃i:Nat,y=[.i i]/\i<=x.free.length/\x.free.length-i<=q/\s'=s/\(x.free.take i).Nodup/\∀k∈x.free.take i,(0<=k/\k<(x.aK.length:Int))/\k∉lN (Zq x)/\iz x k<x.g) ?_ x.free.length n _ _
  ⟨0,rfl,cz _,by omega,rfl,by simp,by simp⟩ (by omega)
 rintro q' _ s' ⟨i,rfl,GP,sP,rfl,XS,Jz⟩ rec aN;simp only[av,aq];by_cases aw:i<x.free.length
 .rw[ax (show(i:Int)<(x.free.length:Int) by omega),ae]
  obtain⟨fi,fo,rfl⟩:=hr.fr.cH (by simp[ints];omega);rw[bd,Zb (Zj aw),bp,dS.dJ (d:= .i x.free[i]) (by simp[ints,aw])];simp only[bg];have W9:=W9 _ (kA aw);have uh:x.free.take (i+1)=x.free.take i++[x.free[i]]:=lX aw;generalize x.free[i]=k at W9 uh;rw[Za];by_cases d1:k<0
  .rw[ax d1,ae]
   simp only[au,aq];rw[Za,ae];simp only[au,aq];rw[Za,ae];simp only[au,aq];rw[Za,ae];simp only[au,aq];rw[ae];grind
  rw[aF d1,af];simp only[au,aq];rw[Za];by_cases d2:k>=(x.aK.length:Int)
  .rw[ax d2,ae]
   simp only[au,aq];rw[Za,ae];simp only[au,aq];rw[Za,ae];simp only[au,aq];rw[ae];grind
  rw[aF d2,af];have gM:0<=k/\k<(x.aK.length:Int):=by omega
  rw[Zb (zZ gM),Vm eN gM];simp only[tq,au,aq];rw[Za];by_cases d3:k∈lN (Zq x)
  .rw[ax d3,ae]
   simp only[au,aq];rw[Za,ae];simp only[au,aq];rw[ae];grind
  rw[aF d3,af];obtain⟨gi,go,rfl⟩:=hr.gn.cH (by simp[ints];omega);rw[bd,Zb (zZ gM),yx.dJ (VP gM)];simp only[bg,au,aq];rw[Za];by_cases d4:iz x k>=x.g
  .rw[ax d4,ae]
   simp only[au,aq];rw[ae];grind
  rw[aF d4,af,Zb (by simp;omega)];have wU:Sl s' (some (fi,fo)) (ints (x.free.take i)):=by
   have⟨f,all,h1,h2,h3⟩:=dS;have jU:(ints (x.free.take i)).length=i:=by simp[ints];omega
   have ep:(ints x.free).length=x.free.length:=by simp[ints]
   refine⟨f,all,h1,by omega,?_⟩;have:=congrArg (List.take i) h3;rw[Db,ep,nS (by omega)]at this;rw[jU,this];unfold ints;rw[List.map_take]
  have hlen:(x.free.take i).length=i:=by simp;omega
  have abK:=Bu n 1 (x.free.take i) k (some (fi,fo)) s' (.inl rfl) wU;rw[hlen]at abK;refine Ok.call abK ?_;rintro _ rfl;refine⟨_,s',rfl,?_⟩;simp only[au,aq];by_cases d5:k∈x.free.take i
  .rw[ax d5,ae]
   refine no s' cu λhm=>?_
   have:=ZvJ hm;rw[<-rS (i+1) x.free]at this;have:=Ub this;rw[uh]at this;exact(Ua.1 this).2 d5
  .rw[aF d5,af,Zc]
   refine aN (x.free.length-(i+1)) _ _ (by omega) ⟨i+1,rfl,by omega,by omega,rfl,?_,?_⟩
   .rw[uh]
    exact Ua.2 ⟨XS,d5⟩
   .intro k' nC
    rw[uh]at nC;rcases gx.1 nC with h|h
    .exact Jz k' h
    .rw[cB.1 h]
     grind
 rw[aF (show ¬(i:Int)<(x.free.length:Int) by omega),af];have:i=x.free.length:=by omega
 subst this;rw[rU]at XS Jz;clear aN rec;have JA: ∀i:Nat,i<x.aK.length->¬(1<=iz x i/\iz x i<=x.g/\((i:Int)∉lN (Zq x)->iz x i<x.g->(i:Int)∈x.free))->¬sa x:=by
  intro i hi cA hm;have hv:iz x (i:Int)∈x.aK:=by
   unfold iz;rw[bp,dW,cq hi];grind
  refine cA ⟨(hm.aK _ hv).1,(hm.aK _ hv).2,λh1 h2=>?_⟩;refine Classical.byContradiction λh3=>?_
  have:=hm.rest i hi (λh4=>by
   rcases gx.1 h4 with h|h
   .exact h1 h
   .exact h3 h)
  omega
 refine Zi _ (λq y ql=>∃i:Nat,y=[.i i]/\i<=x.aK.length/\x.aK.length-i<=q/\ql=s'/\∀j:Nat,j<i->1<=iz x j/\iz x j<=x.g/\((j:Int)∉lN (Zq x)->iz x j<x.g->(j:Int)∈x.free)) ?_ x.aK.length n _ _
  ⟨0,rfl,cz _,by omega,rfl,by omega⟩ (by omega)
 rintro q'' _ ql ⟨i,rfl,akp,akB,rfl,W8⟩ rec aN;simp only[av,aq];by_cases aw:i<x.aK.length
 .rw[ax (by omega),ae]
  obtain⟨gi,go,rfl⟩:=hr.gn.cH (by simp[ints];omega);have gM:0<=(i:Int)/\(i:Int)<(x.aK.length:Int):=by omega
  have JA:=JA i aw;have ld: ∀K:DV->M ah,bD gi ((i:Int).toNat*1+go) K ql=K (.i (iz x i)) ql:=λK=>yx.dJ (VP gM) K
  rw[bd,Zb (zZ gM),ld];simp only[bg];rw[Za];by_cases d1:iz x i<1
  .rw[ax d1,ae]
   simp only[au,aq];rw[Za,ae];simp only[au,aq];rw[ae];exact no ql cu (JA (by omega))
  rw[aF d1,af,bd,Zb (zZ gM),ld];simp only[bg,au,aq];rw[Za];by_cases d2:iz x i>x.g
  .rw[ax d2,ae]
   simp only[au,aq];rw[ae];exact no ql cu (JA (by omega))
  rw[aF d2,af,Zb (zZ gM),Vm eN gM];simp only[tq];have WJ:(1<=iz x i/\iz x i<=x.g/\((i:Int)∉lN (Zq x)->iz x i<x.g->(i:Int)∈x.free))->Ok (λo=>∃b s',o=(.val [.b b],s')/\aB st s'/\(b=true↔sa x)) (rec [.i (ar ((i:Int)+1))] ql):=by
   intro aht;rw[Zc];refine aN (x.aK.length-(i+1)) _ _ (by omega) ⟨i+1,rfl,by omega,by omega,rfl,λj hj=>?_⟩;by_cases nA:j<i
   .exact W8 j nA
   .have:j=i:=by omega
    subst this;exact aht
  rw[Za];by_cases d3:(i:Int)∈lN (Zq x)
  .rw[ax d3,bu,af]
   simp only[au,aq];rw[Za,af];simp only[au,aq];rw[af];exact WJ ⟨by omega,by omega,λh=>absurd d3 h⟩
  rw[aF d3,bn,ae,bd,Zb (zZ gM),ld];simp only[bg,au,aq];rw[Za];by_cases d4:iz x i<x.g
  .rw[ax d4,ae]
   refine Ok.call (Bu n 1 x.free i p3 ql (.inl rfl) dS) ?_;rintro _ rfl;refine⟨_,ql,rfl,?_⟩;simp only[au,aq];by_cases d5:(i:Int)∈x.free
   .rw[ax d5,bu,af]
    exact WJ ⟨by omega,by omega,λ_ _=>d5⟩
   .rw[aF d5,bn,ae]
    exact no ql cu (JA λhh=>d5 (hh.2.2 d3 d4))
  .rw[aF d4,af]
   simp only[au,aq];rw[af];exact WJ (by omega)
 rw[aF (by omega),af,Zd];have:i=x.aK.length:=by omega
 subst this;refine .mk ⟨true,ql,rfl,cu,?_⟩;simp only[true_iff];exact {
  N2:=hg
  de:=by omega
  D4:=XD.1
  right:=XD.2.1
  order:=XD.2.2
  nodup:=rR.2 ⟨jo,XS,λa ha b hb=>by rintro rfl;exact(Jz a hb).2.1 ha⟩
  range:=λk hk=>by
   rcases gx.1 hk with h|h
   .obtain⟨e,he,rfl⟩:=pK.1 h
    exact(dt e he).1
   .exact(Jz k h).1
  gen:=λe he=>(dt e he).2
  low:=λk hk=>(Jz k hk).2.2
  aK:=λv hv=>by
   obtain⟨i,hi,rfl⟩:=List.getElem_of_mem hv;have:=W8 i hi;unfold iz at this;rw[bp,dW,cq hi]at this;exact⟨this.1,this.2.1⟩
  rest:=λi hi cA=>by
   have:=W8 i hi;refine Int.not_lt.1 λaw=>cA ?_
   by_cases hs:(i:Int)∈lN (Zq x)
   .exact List.mem_append_left _ hs
   .exact Lq _ (this.2.2 hs aw) }
theorem J_f (f:Nat) (ff fc r:ah) (K:Nat->ah->ah->ah->M β):VN (.func f ff fc::r) K=K f ff fc r:=rfl
theorem Zqi (n z f:Nat) (ff fc:ah) (l:ak) (p:ai) (st:St) (P:Int->Bool) (hz:z=1\/p=none) (hs:Sl st p (ints l)) (hn:l.length+10<=n) (hl:l.length<1000000)
  (hc: ∀v∈l,run Bd (n-2) f (ff++[.i v]++fc) st=some (.val [.b (P v)],st)):
  run Bd n 147 [.s z p l.length,.func f ff fc] st=some (.val [.b (l.any P)],st):=by
 obtain⟨n,rfl⟩: ∃m,n=m+2:=⟨n-2,by omega⟩;rw[Ze,h.aeq];unfold Ql cw Lb
 try dsimp only
 rw[Zg 1 z p _ hz,J_f,aq];have gM:Ok (λo=>∃y:Int,o=(.val [.i y],st)/\decide (y>=0)=l.any P) (run Bd (n+1) 156 [.s 1 p l.length,.func f ff fc] st):=by
  rw[Ze,h.aes];unfold Qj Q_ cN Zn bq Li
  try dsimp only
  rw[aX,J_f,aq];rw[Za];refine Zi _ (λq y s=>∃i:Nat,y=[.i i]/\i<=l.length/\l.length-i<=q/\s=st/\∀v∈l.take i,P v=false) ?_ l.length n _ _ (by grind) (by omega);rintro q _ s ⟨i,rfl,hi,hq,rfl,cA⟩ rec aN;simp only[av,aq];by_cases aw:i<l.length
  .obtain⟨i1,o1,rfl⟩:=hs.cH (by simp[ints];omega)
   rw[ax (show(i:Int)<(l.length:Int) by omega),ae,bd,Zb (Zj aw),bp,hs.dJ (d:= .i l[i]) (by simp[ints,aw])];rw[bg];have hv:=hc l[i] (kA aw);rw[show n+2-2=n by omega]at hv;rw[Zk hv];rw[au,aq];cases hp:P l[i]with
   |true=>
    rw[ae,Zd];refine .mk ⟨_,rfl,?_⟩;rw[ax (by omega),List.any_eq_true.2 ⟨_,kA aw,hp⟩]
   |false=>
    rw[af,Zc];refine aN (l.length-(i+1)) _ _ (by omega) ⟨i+1,rfl,by omega,by omega,rfl,?_⟩;intro v hv;rw[lX aw]at hv;grind
  .rw[aF (show ¬(i:Int)<(l.length:Int) by omega),af,Zd]
   rw[dG (by omega)]at cA;refine .mk ⟨_,rfl,?_⟩;rw[show decide ((-1:Int)>=0)=false from rfl];grind
 obtain⟨_,e,y,rfl,hy⟩:=gM;rw[Zk e];simp[av,aq,hy,Zd]
end Go.Gv.F
