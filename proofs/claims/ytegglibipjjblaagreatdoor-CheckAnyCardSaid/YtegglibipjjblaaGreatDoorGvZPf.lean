/- States: in memory; which ones may be; small functions over them. -/
import Derived.Test.YtegglibipjjblaaGreatDoorGvZPe
set_option linter.all false
namespace Go.Gv.F
open Go.Gv
structure bh where
 slot:Int
 gen:Int
 key:Int
 value:Int
structure dO where
 name:aj
 cj:List bh
structure fJ where
 blocks:Int
 de:Int
 g:Int
 aM:List dO
 aK:ak
 free:ak
def fk (e:bh):ah:=[.int .i64 e.slot,.int .i64 e.gen,.int .i64 e.key,.int .i64 e.value]
def bY (l:List bh):ah:=(l.map fk).flatten
def Zt (l:List bh):(bY l).length=l.length*4:=by
 unfold bY;induction l with
 |nil=>rfl
 |cons e l ih=>rw[oG,C6,bB,ih,cO];show 4+_=_;omega
def Dw: ∀ {l:List bh} {j:Nat} {e:bh},l[j]? =some e->((bY l).drop (j*4)).take 4=fk e
 |[],j,e,h=>by simp at h
 |x::l,0,e,h=>by
  simp only[kW,fT]at h;subst h;rw[ux,dK];rfl
 |x::l,j+1,e,h=>by
  have e2:bY (x::l)=fk x++bY l:=rfl;rw[e2,show(j+1)*4=(fk x).length+j*4 by show _=4+_;omega,<-kV,C4];exact Dw (by simpa using h)
def zL (l m:List bh):bY (l++m)=bY l++bY m:=by
 simp[bY]
def mj (h:dO) (z:Nat) (p:ai):ah:=[.str h.name,.slice z p h.cj.length]
def kA (s:St):ah->List dO->Prop
 |ds,[]=>ds=[]
 |ds,x::r=>∃z p t,(z=4\/p=none)/\ds=mj x z p++t/\Sl s p (bY x.cj)/\kA s t r
def xF (x:dO) (z:Nat) (p:ai):(mj x z p).length=2:=rfl
def Z2 {β:Type} (sz z:Nat) (a:ai) (n:Nat) (h:z=sz\/a=none) (K:ai->Nat->M β):dr sz (.slice z a n) K=K a n:=by
 rcases h with rfl|rfl
 .exact j9 _ _ _ _
 simp
def kA.len {s:St} : ∀ {ds:ah} {xs:List dO},kA s ds xs->ds.length=xs.length*2
 |ds,[],h=>by rw[show ds=[]from h];rfl
 |ds,x::r,⟨z,p,t,_,h1,_,h3⟩=>by rw[h1,bB,h3.len,xF,cO];omega
def kA.mono {s s':St} (k:aB s s'): ∀ {ds:ah} {xs:List dO},kA s ds xs->kA s' ds xs
 |_,[],h=>h
 |_,_::_,⟨z,p,t,hz,h1,h2,h3⟩=>⟨z,p,t,hz,h1,h2.mono k,h3.mono k⟩
def kA.get {s:St} : ∀ {ds:ah} {xs:List dO},kA s ds xs->∀ {j:Nat} {x:dO},xs[j]? =some x->∃z p,(z=4\/p=none)/\(ds.drop (j*2)).take 2=mj x z p/\ds[j*2]? =some (.str x.name)/\ds[j*2+1]? =some (.slice z p x.cj.length)/\Sl s p (bY x.cj)
 |_,[],_,j,x,e=>by simp at e
 |ds,y::r,⟨zq,q,t,Ky,h1,h2,h3⟩,0,x,e=>by
  simp only[kW,fT]at e;subst e;subst h1;exact⟨zq,q,Ky,rfl,rfl,rfl,h2⟩
 |ds,y::r,⟨zq,q,t,Ky,h1,h2,h3⟩,j+1,x,e=>by
  obtain⟨z,p,hz,g1,g2,g3,g4⟩:=h3.get (j:=j) (x:=x) (by simpa using e);refine⟨z,p,hz,?_,?_,?_,g4⟩
  .rw[h1,show(j+1)*2=(mj y zq q).length+j*2 by rw[xF];omega,<-kV,C4]
   exact g1
  .rw[h1,lE (by rw[xF];omega),xF,show(j+1)*2-2=j*2 by omega]
   exact g2
  .rw[h1,lE (by rw[xF];omega),xF,show(j+1)*2+1-2=j*2+1 by omega]
   exact g3
def dE (x:fJ) (z1:Nat) (p1:ai) (z2:Nat) (p2:ai) (z3:Nat) (p3:ai):ah:=
 [.int .i64 x.blocks,.int .i64 x.de,.int .i64 x.g,.slice z1 p1 x.aM.length,.slice z2 p2 x.aK.length,.slice z3 p3 x.free.length]
structure lf (s:St) (x:fJ) (p1 p2 p3:Option (Nat×Nat)):Prop where
 hp: ∃ds,Sl s p1 ds/\kA s ds x.aM
 gn:Sl s p2 (ints x.aK)
 fr:Sl s p3 (ints x.free)
variable {k:Int} {i j m n o:Nat} {s s':St} {ds:ah} {D:ak}
def lf.pre {x:fJ} {p1 p2 p3:ai} (h:lf s x p1 p2 p3) (k:aB s s'):lf s' x p1 p2 p3:=
 let ⟨ds,h1,h2⟩:=h.hp
 ⟨⟨ds,h1.mono k,h2.mono k⟩,h.gn.mono k,h.fr.mono k⟩
def oY (b s g:Int):Bool:=decide (b>=16)&&(decide (b<=3072)&&(decide (s>=1)&&(decide (s<=1792)&&(decide (g>=1)&&decide (g<=4294967295)))))
def ft (a b:bh):Bool:=if a.key≠b.key then decide (a.key<b.key)else if a.slot≠b.slot then decide (a.slot<b.slot)else decide (a.gen<b.gen)
def DA (l:List bh):Prop:=∀i a b,l[i]? =some a->l[i+1]? =some b->ft a b=true
def M0 (l:List dO):Prop:=∀i a b,l[i]? =some a->l[i+1]? =some b->cmpL (dB a.name) (dB b.name)<0
def Zq (x:fJ):List bh:=(x.aM.map (·.cj)).flatten
def iz (x:fJ) (k:Int):Int:=x.aK.getD k.toNat 0
structure rY (x:fJ):Prop where
 NS:oY x.blocks x.de x.g=true
 de:(x.aK.length:Int)<=x.de
 DZ:x.aM.length<=16
 right: ∀h∈x.aM,qJ h.name=true/\DA h.cj
 order:M0 x.aM
 nodup:((Zq x).map (·.slot)++x.free).Nodup
 range: ∀k∈(Zq x).map (·.slot)++x.free,0<=k/\k<(x.aK.length:Int)
 gen: ∀e∈Zq x,iz x e.slot=e.gen
 low: ∀k∈x.free,iz x k<x.g
 aK: ∀v∈x.aK,1<=v/\v<=x.g
 rest: ∀i,i<x.aK.length->((i:Int)∉(Zq x).map (·.slot)++x.free)->x.g<=iz x i
def Zpb (b s g:Int) (st:St) (X:Zf->Nat->ah->M ah) (hX: ∀c n,X c n [.agg [.int .i64 b,.int .i64 s,.int .i64 g]] st=HY c n [.agg [.int .i64 b,.int .i64 s,.int .i64 g]] st) (c:Zf) (n:Nat):
  X c n [.agg [.int .i64 b,.int .i64 s,.int .i64 g]] st=some (.val [.bool (oY b s g)],st):=by
 rw[hX];unfold HY DB aA Lb oY;simp only[cT,av,aq];cases decide (b>=16)with
 |false=>simp only[Za,af,au,aq];rfl
 |true=>
 cases decide (b<=3072)with
 |false=>simp only[Za,af,ae,au,aq];rfl
 |true=>
 cases decide (s>=1)with
 |false=>simp only[Za,af,ae,au,aq];rfl
 |true=>
 cases decide (s<=1792)with
 |false=>simp only[Za,af,ae,au,aq];rfl
 |true=>
 cases decide (g>=1)with
 |false=>simp only[Za,af,ae,au,aq];rfl
 |true=>
  simp only[Za,ae,au,aq];rfl
variable {Bd:Zh} [h:HA Bd]
def ZlP (n:Nat) (b s g:Int) (st:St):run Bd (n+1) 145 [.agg [.int .i64 b,.int .i64 s,.int .i64 g]] st=some (.val [.bool (oY b s g)],st):=by
 rw[Ze,h.aec];exact Zpb b s g st HY (λ_ _=>rfl) _ _
def ZkK (n:Nat) (b s g:Int) (st:St):run Bd (n+1) 141 [.agg [.int .i64 b,.int .i64 s,.int .i64 g]] st=some (.val [.bool (oY b s g)],st):=by
 rw[Ze,h.ad8];exact Zpb b s g st Rn (λ_ _=>rfl) _ _
def Q7 (n:Nat) (a b:bh) (st:St):run Bd (n+1) 155 [.agg (fk a),.agg (fk b)] st=some (.val [.bool (ft a b)],st):=by
 rw[Ze,h.aee];unfold RN LP Lb fk ft;simp only[cT,av,aq];by_cases h1:a.key=b.key
 .have e1:(a.key==b.key)=true:=by rw[h1];simp
  rw[e1,br,af,bj (by simp[h1])];by_cases h2:a.slot=b.slot
  .have e2:(a.slot==b.slot)=true:=by rw[h2];simp
   rw[e2,br,af,bj (by simp[h2])];rfl
  .have e2:(a.slot==b.slot)=false:=eG.2 h2
   rw[e2,bn,ae,bE h2];rfl
 .have e1:(a.key==b.key)=false:=eG.2 h1
  rw[e1,bn,ae,bE h1];rfl
def gK (x y:Int):Int:=if x<y then-1 else if x>y then 1 else 0
def T8 {Bd:Zh} (h:HO Bd) (n:Nat) (x y:Int) (st:St):run Bd (n+2) 161 [.int .i64 x,.int .i64 y] st=some (.val [.int .i64 (gK x y)],st):=by
 have e: ∀z:Int,run Bd (n+1) 163 [.int .i64 z] st=some (.val [.bool false],st):=by
  intro z;rw[Ze,h.q1.eq];unfold HS cP Lb;simp[av,aq,xq,br,Zd]
 rw[Ze,h.eq];unfold HN iX bq Li gK;simp only[av,aq];rw[Zk (e x)];simp only[au,aq];rw[Zk (e y)];simp only[au,aq,af];by_cases h1:x<y
 .rw[ax h1,ae,bE h1];rfl
 .rw[aF h1,af,bj h1]
  by_cases h2:x>y
  .rw[ax h2,ae,bE h2];rfl
  .rw[aF h2,af,bj h2];rfl
def aa1 {Bd:Zh} (h:Fk Bd) (n:Nat) (hn:8<=n) (a b:bh) (st:St):
  Ok (λo=>∃z s',o=(.val [.int .i64 z],s')/\aB st s'/\decide (z>=0)= !ft a b) (run Bd n 159 [.agg (fk a),.agg (fk b)] st):=by
 obtain⟨n,rfl⟩: ∃m,n=m+3:=⟨n-3,by omega⟩;rw[Ze,h.eq];unfold HR LP lW cw gJ zF aZ Li fk;simp only[cT,av,aq];rw[vZ (T8 h.q0 n a.key b.key st)];simp only[av,aq];rw[vZ (T8 h.q0 n a.slot b.slot st)];simp only[av,aq];rw[Zk (T8 h.q0 n a.gen b.gen st)];simp only[av,aq];rw[Zz];have hp:=aB.new st (some ⟨false,[DV.int .i64 (gK a.key b.key),.int .i64 (gK a.slot b.slot),.int .i64 (gK a.gen b.gen)]⟩);have hs:Sl (st++[some ⟨false,[DV.int .i64 (gK a.key b.key),.int .i64 (gK a.slot b.slot),.int .i64 (gK a.gen b.gen)]⟩]) (some (st.length,0)) [DV.int .i64 (gK a.key b.key),.int .i64 (gK a.slot b.slot),.int .i64 (gK a.gen b.gen)]:=Nn st _;generalize (st++[some ⟨false,[DV.int .i64 (gK a.key b.key),.int .i64 (gK a.slot b.slot),.int .i64 (gK a.gen b.gen)]⟩])=s1 at hp hs;have hor:run Bd (n+2) 162 [.slice 1 (some (st.length,0)) 3] s1=some (.val [.int .i64 (if gK a.key b.key≠0 then gK a.key b.key else if gK a.slot b.slot≠0 then gK a.slot b.slot else gK a.gen b.gen)],s1):=by
  rw[Ze,h.q2.eq];unfold HZ bV Q_ cM Zn Li;obtain⟨n,rfl⟩: ∃m,n=m+5:=⟨n-5,by omega⟩;simp only[aX,aq];rw[Za];have step: ∀(m i:Nat) (z:Int) (R:Option (Out ah×St)),i<3->[DV.int .i64 (gK a.key b.key),.int .i64 (gK a.slot b.slot),.int .i64 (gK a.gen b.gen)][i]? =some (.int .i64 z)->
    (z≠0->R=some (.val [.int .i64 z],s1))->∀(F:(ah->M ah)->ah->M ah),True:=by simp
  clear step;have ld: ∀(i:Nat) (d:DV) (K:DV->M ah),[DV.int .i64 (gK a.key b.key),.int .i64 (gK a.slot b.slot),.int .i64 (gK a.gen b.gen)][i]? =some d->bD st.length (i*1+0) K s1=K d s1:=λi d K hd=>hs.dJ hd K
  rw[By];simp only[av,aq];rw[show decide ((0:Int)<((3:Nat):Int))=true from rfl,ae,bd,Zb (by rfl)];rw[show(0:Int).toNat=0 from rfl,ld 0 _ _ rfl];simp only[bg];by_cases c1:gK a.key b.key=0
  .have e1:(gK a.key b.key==0)=true:=by rw[c1];rfl
   rw[e1,br,af,bj (by simp[c1]),By];simp only[av,aq];rw[show ar ((0:Int)+1)=1 from Zc,show decide ((1:Int)<((3:Nat):Int))=true from rfl,ae,bd,Zb (by rfl)];rw[show(1:Int).toNat=1 from rfl,ld 1 _ _ rfl];simp only[bg];by_cases c2:gK a.slot b.slot=0
   .have e2:(gK a.slot b.slot==0)=true:=by rw[c2];rfl
    rw[e2,br,af,bj (by simp[c2]),By];simp only[av,aq];rw[show ar ((1:Int)+1)=2 from Zc,show decide ((2:Int)<((3:Nat):Int))=true from rfl,ae,bd,Zb (by rfl)];rw[show(2:Int).toNat=2 from rfl,ld 2 _ _ rfl];simp only[bg];by_cases c3:gK a.gen b.gen=0
    .have e3:(gK a.gen b.gen==0)=true:=by rw[c3];rfl
     rw[e3,br,af,By];simp only[av,aq];rw[show ar ((2:Int)+1)=3 from Zc,show decide ((3:Int)<((3:Nat):Int))=false from rfl,af,c3];rfl
    .have e3:(gK a.gen b.gen==0)=false:=eG.2 c3
     rw[e3,bn,ae];rfl
   .have e2:(gK a.slot b.slot==0)=false:=eG.2 c2
    rw[e2,bn,ae,bE c2];rfl
  .have e1:(gK a.key b.key==0)=false:=eG.2 c1
   rw[e1,bn,ae,bE c1];rfl
 rw[Zk hor];simp only[av,aq,Zd];refine .mk ⟨_,s1,rfl,hp,?_⟩;grind[ft,gK]
def Br (n z:Nat) (l:ak) (k:Int) (p:ai) (st:St) (hz:z=1\/p=none) (hs:Sl st p (ints l)) (hn:l.length+3<=n:=by omega) (hl:l.length<1000000:=by omega):
  Ok (λo=>o=(.val [.bool (decide (k∈l))],st)) (run Bd n 143 [.slice z p l.length,.int .i64 k] st):=by
 obtain⟨n,rfl⟩: ∃m,n=m+1:=⟨n-1,by omega⟩;rw[Ze,h.aea];unfold TI oe Q_ cM Zn Lb Li;simp only[Zg 1 z p _ hz,av,aq];rw[Za];refine Zi _ (λq x s=>∃i:Nat,x=[.int .i64 i]/\i<=l.length/\l.length-i<=q/\s=st/\k∉l.take i) ?_ l.length n _ _ (by grind) (by omega);rintro q _ s ⟨i,rfl,hi,hq,rfl,cA⟩ rec aN;simp only[av,aq];by_cases aw:i<l.length
 .have e:decide ((i:Int)<(l.length:Int))=true:=ax (by omega)
  obtain⟨p1,o1,rfl⟩:=hs.cH (by simp[ints];omega);rw[e,ae,bd,Zb (Zj aw),bp,hs.dJ (d:= .int .i64 l[i]) (by simp[ints,aw])];simp only[bg];by_cases hk:l[i]=k
  .have e2:(l[i]==k)=true:=by rw[hk];grind
   rw[e2,ae,Zd,ax (by rw[<-hk];simp)];exact .mk rfl
  .have e2:(l[i]==k)=false:=eG.2 hk
   rw[e2,af,Zc];refine aN (l.length-(i+1)) _ _ (by omega) ⟨i+1,rfl,by omega,by omega,rfl,?_⟩;rw[lV aw];grind
 .have e:decide ((i:Int)<(l.length:Int))=false:=aF (by omega)
  rw[e,af,Zd];rw[dG (by omega)]at cA;rw[aF cA];exact .mk rfl
variable {β:Type}
variable {xs:List dO}
def FL {x:dO} (hs:Sl s (some (i,o)) ds) (hh:kA s ds xs) (e:xs[j]? =some x) (K:DV->M β):bD i (j*2+o) K s=K (.str x.name) s:=by
 obtain⟨_,p,_,_,g2,_,_⟩:=hh.get e;exact hs.get g2 K
def Mo {x:dO} (hs:Sl s (some (i,o)) ds) (hh:kA s ds xs) (e:xs[j]? =some x): ∃p,Sl s p (bY x.cj)/\∀K:ai->Nat->M β,bD i (j*2+o+1) (λd=>dr 4 d K) s=K p x.cj.length s:=by
 obtain⟨z,p,hz,_,_,g3,g4⟩:=hh.get e;refine⟨p,g4,λK=>?_⟩;have e2:j*2+o+1=(j*2+1)+o:=by omega
 rw[e2,hs.get g3,Z2 4 z p _ hz]
variable {l:List bh}
def II {k:Nat} {x:bh} (hs:Sl s (some (i,o)) (bY l)) (e:l[k]? =some x) (K:ah->M β):bS i (k*4+o) 4 K s=K (fk x) s:=by
 have hk:k<l.length:=by grind
 rw[hs.yi (k:=k*4) (n:=4) (by rw[Zt];omega) K,Dw e]
def Zwy {k:Nat} {x:bh} (hs:Sl s (some (i,o)) (bY l)) (e:l[k]? =some x) (K:ah->M β):bS i (k*4+o) 2 K s=K [.int .i64 x.slot,.int .i64 x.gen] s:=by
 have hk:k<l.length:=by grind
 rw[hs.yi (k:=k*4) (n:=2) (by rw[Zt];omega) K];have:=congrArg (List.take 2) (Dw e);rw[C7]at this;rw[show((bY l).drop (k*4)).take 2=[.int .i64 x.slot,.int .i64 x.gen]from this]
def ZyG {k:Nat} {x:bh} (e:l[k]? =some x) (hm:m<4):(bY l)[k*4+m]? =(fk x)[m]? :=by
 have:=congrArg (λy:ah=>y[m]?) (Dw e);grind
def M6 (l:List dO):Prop:=l.length<=16/\(∀h∈l,qJ h.name=true/\DA h.cj)/\M0 l
def F0 (l:List dO) (i:Nat) (h:dO):Prop:=qJ h.name=true/\∀g,0<i->l[i-1]? =some g->cmpL (dB g.name) (dB h.name)<0
def Zt5 (l:List dO) (hl:l.length<=16):M6 l↔ ∀i h,l[i]? =some h->F0 l i h/\DA h.cj:=by
 constructor
 .intro ⟨_,h1,h2⟩ i h e
  refine⟨⟨(by grind),λg hi eg=>h2 (i-1) g h eg ?_⟩,(by grind)⟩;rw[show i-1+1=i by omega];exact e
 .intro h
  refine⟨hl,λx hx=>?_,λi a b ea eb=>?_⟩
  .obtain⟨i,hi,rfl⟩:=List.getElem_of_mem hx
   have:=h i _ (cq hi);exact⟨this.1.1,this.2⟩
  .exact(h (i+1) b eb).1.2 a (by omega) (by rw[show i+1-1=i by omega];exact ea)
def Zs8 (l:List bh):DA l↔ ∀k a b,1<=k->l[k-1]? =some a->l[k]? =some b->ft a b=true:=by
 constructor
 .intro h k a b hk ha hb
  exact h (k-1) a b ha (by rw[show k-1+1=k by omega];exact hb)
 .intro h i a b ha hb
  grind
structure SzH (l:List dO):Prop where
 len:l.length<=50000
 cj: ∀h∈l,h.cj.length<=50000
 name: ∀h∈l,h.name.length<=50000
def Zp1 (n z:Nat) (l:List dO) (p:ai) (ds:ah) (st:St) (hz:z=2\/p=none) (hs:Sl st p ds) (hh:kA st ds l) (sz:SzH l) (hn:50100<=n):
  Ok (λo=>∃b s',o=(.val [.bool b],s')/\aB st s'/\(b=true↔M6 l)) (run Bd n 144 [.slice z p l.length] st):=by
 obtain⟨n,rfl⟩: ∃m,n=m+1:=⟨n-1,by omega⟩;rw[Ze,h.aeb];unfold RA Q_ cM xy bq aA N_ sd cw Lb Li Ls Bv;simp only[Zg 2 z p _ hz,aq];by_cases sE:l.length>16
 .rw[ax (show(l.length:Int)>16 by omega),ae,Zd]
  exact .mk ⟨false,st,rfl,.refl _,by grind[M6]⟩
 rw[aF (show ¬(l.length:Int)>16 by omega),af,Za];have sE:l.length<=16:=by omega
 have fP:=Zt5 l sE;refine Zi _ (λq x s=>∃i:Nat,x=[.int .i64 i]/\i<=l.length/\l.length-i<=q/\aB st s/\∀j h,j<i->l[j]? =some h->F0 l j h/\DA h.cj) ?_ l.length n _ _ ⟨0,rfl,cz _,by omega,.refl _,by omega⟩ (by omega);rintro q _ s ⟨i,rfl,hi,hq,hp,ag1⟩ rec aN;simp only[av,aq];by_cases aw:i<l.length;rotate_left
 .rw[aF (show ¬(i:Int)<(l.length:Int) by omega),af,Zd]
  refine .mk ⟨true,s,rfl,hp,?_⟩;grind
 rw[ax (show(i:Int)<(l.length:Int) by omega),ae];obtain⟨i1,o1,rfl⟩:=hs.cH (by rw[hh.len];omega);obtain⟨x,hx⟩: ∃x,l[i]? =some x:=⟨_,cq aw⟩;have hxm:=ur hx;have O0:=sz.cj x hxm;have hxn:=sz.name x hxm;rw[Za,bd,Zb (Zj aw),bp,FL (hs.mono hp) (hh.mono hp) hx];simp only[zB];refine Ok.call (Zku n x.name (by omega) (by omega) s) ?_;rintro _ ⟨s1,rfl,aH⟩;refine⟨_,s1,rfl,?_⟩;simp only[au,aq];refine ZwS (λy s=>∃b:Bool,y=[.bool b]/\aB st s/\(b=false↔F0 l i x)) ?_ ?_
 .rintro _ s2 ⟨b,rfl,aU,hb⟩
  simp only[au,aq];cases b with
  |true=>
   rw[ae,Zd];refine .mk ⟨false,s2,rfl,aU,?_⟩;rw[fP];grind
  |false=>
   have cA:=hb.1 rfl;rw[af,Za];refine Zi _ (λq y s=>∃k:Nat,y=[.int .i64 k]/\1<=k/\x.cj.length+1-k<=q/\k<=x.cj.length+1/\aB st s/\∀m a b,1<=m->m<k->x.cj[m-1]? =some a->x.cj[m]? =some b->ft a b=true) ?_ x.cj.length n _ _ ⟨1,rfl,aQ _,by omega,by omega,aU,λm a b h1 h2=>by omega⟩ (by omega);rintro q' _ s3 ⟨k,rfl,kf,hkq,jn,cu,abP⟩ dw j3;simp only[av,aq];rw[bd,Zb (Zj aw),bp];obtain⟨pe,pY,le⟩:=Mo (β:=ah) (hs.mono cu) (hh.mono cu) hx;rw[le];by_cases hk:k<x.cj.length
   .rw[ax (show(k:Int)<(x.cj.length:Int) by omega),ae,bd,Zb (Zj aw),le]
    obtain⟨m,rfl⟩: ∃m,k=m+1:=⟨k-1,by omega⟩;obtain⟨pi,po,rfl⟩:=pY.cH (by rw[Zt];omega);obtain⟨a,ha⟩: ∃a,x.cj[m]? =some a:=⟨_,cq (by omega)⟩;obtain⟨b,dR⟩: ∃b,x.cj[m+1]? =some b:=⟨_,cq hk⟩;rw[bd,Zc,show(((m+1:Nat):Int)-1)=(m:Int) by omega,Zb (Zj),bp,II pY ha];unfold fk;simp only[av,aq];rw[bd,Zb (Zj aw),le];rw[bd,Zb (Zj hk),II pY dR];unfold fk;simp only[av,aq];have tS:=Q7 (n-1) a b s3;rw[show n-1+1=n by omega]at tS;unfold fk at tS;rw[Zk tS];simp only[au,aq];cases fV:ft a b with
    |false=>
     rw[bn,ae,Zd];refine .mk ⟨false,s3,rfl,cu,?_⟩;rw[fP];simp only[uo,false_iff];intro dt;have:=(Zs8 _).1 (dt i x hx).2 (m+1) a b (by omega) (by rw[show m+1-1=m by omega];exact ha) dR;rw[fV]at this;cases this
    |true=>
     rw[br,af,Zc];refine j3 (x.cj.length+1-(m+1+1)) _ _ (by omega) ⟨m+1+1,rfl,by omega,by omega,by omega,cu,?_⟩;intro m' a' b' h1 h2 tP c9;by_cases hm:m'<m+1
     .exact abP m' a' b' h1 hm tP c9
     .have:m'=m+1:=by omega
      subst this;rw[show m+1-1=m by omega]at tP;rw[ha]at tP;rw[dR]at c9;grind
   .rw[aF (show ¬(k:Int)<(x.cj.length:Int) by omega),af]
    rw[Zc];refine aN (l.length-(i+1)) _ _ (by omega) ⟨i+1,rfl,by omega,by omega,cu,?_⟩;intro j y hj ey;by_cases nz:j<i
    .exact ag1 j y nz ey
    .have:j=i:=by omega
     subst this;rw[hx]at ey;cases ey;refine⟨cA,(Zs8 _).2 λm a b h1 ha dR=>abP m a b h1 ?_ ha dR⟩;have:=(ef.1 dR).1;omega
 .intro jk vr
  cases hr:qJ x.name with
  |false=>
   rw[bn,ae];refine vr _ _ ⟨true,rfl,hp.trans aH,?_⟩;unfold F0;rw[hr];simp
  |true=>
   rw[br,af,Za];by_cases h0:0<i
   .obtain⟨m,rfl⟩: ∃m,i=m+1:=⟨i-1,by omega⟩
    rw[ax (show((m+1:Nat):Int)>0 by omega),ae];obtain⟨g,hg⟩: ∃g,l[m]? =some g:=by grind
    have yw:=sz.name g (ur hg);have aU:=hp.trans aH;rw[bd,Zc,show(((m+1:Nat):Int)-1)=(m:Int) by omega,Zb (Zj),bp,FL (hs.mono aU) (hh.mono aU) hg];simp only[zB];rw[bd,Zb (Zj aw),FL (hs.mono aU) (hh.mono aU) hx];simp only[zB];refine Ok.call (ZiB n g.name x.name (by omega) (by omega) (by omega) (by omega) s1) ?_;rintro _ ⟨s2,rfl,cu⟩;refine⟨_,s2,rfl,?_⟩;simp only[av,au,aq];refine vr _ _ ⟨_,rfl,aU.trans cu,?_⟩;unfold F0;rw[hr,show m+1-1=m by omega,hg];grind
   .rw[aF (show ¬(i:Int)>0 by omega),af]
    simp only[au,aq];refine vr _ _ ⟨false,rfl,hp.trans aH,?_⟩;unfold F0;rw[hr];grind
def tH (l:List dO):List bh:=(l.map (·.cj)).flatten
def Zpj (x:fJ):Zq x=tH x.aM:=rfl
def ZtV (l:List dO) {h:dO} (e:l[i]? =some h):tH (l.take (i+1))=tH (l.take i)++h.cj:=by
 obtain⟨hi,rfl⟩:=ef.1 e;unfold tH;rw[lV hi,fA,Hw,oG,List.map_nil,C6,List.flatten_nil,gz]
def Zwi (l:List dO) (i:Nat):(tH (l.take i)).length<=(tH l).length:=by
 have:tH l=tH (l.take i)++tH (l.drop i):=by
  grind[tH,Hw,fA,rQ]
 rw[this,bB];omega
def Zji (n:Nat) (x:fJ) (z1 z2 z3:Nat) (p1 p2 p3:ai) (st:St) (kP:z1=2\/p1=none) (gS:z2=1\/p2=none) (mA:z3=1\/p3=none) (hr:lf st x p1 p2 p3)
  (hl:x.aM.length<=50000) (he:(Zq x).length<=50000) (hn:50100<=n:=by omega):
  Ok (λo=>∃q s',o=(.val [.slice 4 q (Zq x).length],s')/\aB st s'/\Sl s' q (bY (Zq x))) (run Bd n 142 [.agg (dE x z1 p1 z2 p2 z3 p3)] st):=by
 obtain⟨n,rfl⟩: ∃m,n=m+1:=⟨n-1,by omega⟩;rw[Ze,h.ad9];unfold Qz Zx Dh cP N_ rW iw;have ag: ∀(l:ah) (K:ah->ah->M ah),ba (.agg (dE x z1 p1 z2 p2 z3 p3)::l) K=K (dE x z1 p1 z2 p2 z3 p3) l:=λ_ _=>rfl
 rw[ag];unfold dE;simp only[av,Zg 2 z1 p1 _ kP,Zg 1 z2 p2 _ gS,Zg 1 z3 p3 _ mA,aq];rw[ZL,Za];obtain⟨ds,hs,hh⟩:=hr.hp;rw[Zpj]at he;rw[Zpj];refine Zi _ (λq y s=>∃(i z:Nat) (a:ai),y=[.slice z a (tH (x.aM.take i)).length,.int .i64 i]/\(z=4\/a=none)/\i<=x.aM.length/\x.aM.length-i<=q/\bm st s a (bY (tH (x.aM.take i)))) ?_ x.aM.length n _ _ ⟨0,0,none,rfl,.inr rfl,cz _,by omega,bm.nil (.refl _)⟩ (by omega);rintro q _ s ⟨i,z,a,rfl,hz,hi,hq,ho⟩ rec aN;simp only[Zg 4 z a _ hz,av,aq];by_cases aw:i<x.aM.length
 .rw[ax (show(i:Int)<(x.aM.length:Int) by omega),ae]
  obtain⟨i1,o1,rfl⟩:=hs.cH (by rw[hh.len];omega);obtain⟨g,hg⟩: ∃g,x.aM[i]? =some g:=⟨_,cq aw⟩;rw[bd,Zb (Zj aw),bp];obtain⟨pe,pY,le⟩:=Mo (β:=ah) (hs.mono ho.1) (hh.mono ho.1) hg;rw[le];rw[<-Zt,iR pY];have et:=ZtV x.aM hg;have hle:=Zwi x.aM (i+1);rw[et,bB]at hle;rw[Zc];by_cases h0:0<g.cj.length
  .obtain⟨q2,s2,g1,g2⟩:=ho.app (β:=ah) (sz:=4) (n:=(tH (x.aM.take i)).length) (m:=g.cj.length) (lim:=2199023255552) (ds:=bY g.cj) (by omega) (Zt _) h0 (by omega)
   rw[g2];exact aN (x.aM.length-(i+1)) _ _ (by omega) ⟨i+1,4,q2,by rw[et,bB];rfl,.inl rfl,by omega,by omega,by rw[et,zL];exact g1⟩
  .have e0:g.cj=[]:=by grind
   rw[e0]at et⊢;rw[show(bY []:ah)=[]from rfl,show(([]:List bh).length)=0 from rfl,ZxG];rw[gz]at et;exact aN (x.aM.length-(i+1)) _ _ (by omega) ⟨i+1,4,a,by rw[et];rfl,.inl rfl,by omega,by omega,by rw[et];exact ho⟩
 .rw[aF (show ¬(i:Int)<(x.aM.length:Int) by omega),af]
  have:i=x.aM.length:=by omega
  subst this;rw[rR]at ho⊢;simp only[aX,aq,Zp];exact .mk ⟨a,_,rfl,Zr ho.1,ho.sl.dQ _⟩
def lv (n:Nat) (D:ak):ah:=(List.range n).map λ(k:Nat)=>DV.bool (decide ((k:Int)∈D))
def Zv5 (n:Nat) (D:ak):(lv n D).length=n:=by simp[lv]
def ZAp (h:0<=k/\k<(n:Int)):(lv n D)[k.toNat]? =some (.bool (decide (k∈D))):=by
 grind[bp,lv,th]
def Zz3 (h:0<=k/\k<(n:Int)):cE (lv n D) (k.toNat*1) [.bool true]=lv n (D++[k]):=by
 obtain⟨m,rfl⟩: ∃m:Nat,k=(m:Int):=⟨k.toNat,by omega⟩;rw[bp,cR,BL _ _ _ (by rw[Zv5];omega)];refine tg λj=>?_
 rw[List.getElem?_set];unfold lv;by_cases hj:j<n
 .grind
 grind
def ZAh (n:Nat):gY n [.bool false]=lv n []:=by
 unfold gY lv;refine tg λj=>?_
 have:(List.replicate n [DV.bool false]).flatten=List.replicate n (DV.bool false):=by
  simp
 rw[this];by_cases hj:j<n
 .simp[hj]
 grind
def zN (h:0<=k/\k<(n:Int)):aR k n=true:=by grind[aR]
def Ve {x:fJ} (h:0<=k/\k<(x.aK.length:Int)):(ints x.aK)[k.toNat]? =some (.int .i64 (iz x k)):=by
 grind[ints,iz]
def Pl: ∀(n:Nat) (l:ak),l.Nodup->(∀k∈l,0<=k/\k<(n:Int))->l.length<=n
 |0,l,_,h=>by
  cases l with
  |nil=>exact aQ _
  |cons k l=>have:=h k (uq);omega
 |n+1,l,hd,h=>by
  have h1:=Pl n (l.erase (n:Int)) (hd.erase _) (by grind);rw[List.length_erase]at h1;grind
structure Dj (x:fJ):Prop where
 h:SzH x.aM
 e:(Zq x).length<=50000
 g:x.aK.length<=50000
 f:x.free.length<=50000
def VD (hs:s[i]? =some (some ⟨false,lv n D⟩)) (h:0<=k/\k<(n:Int)) (K:DV->M β):bD i (k.toNat*1) K s=K (.bool (decide (k∈D))) s:=by
 rw[cR];exact Zo hs (ZAp h) K
def lL (l:List bh):ak:=l.map (·.slot)
def Zvc (l:List bh) (h:i<l.length):lL (l.take (i+1))=lL (l.take i)++[l[i].slot]:=by
 unfold lL;rw[lV h,fA];rfl
def Ts {l:ak} :(l++[k]).Nodup↔l.Nodup/\k∉l:=by
 rw[rO];grind
def Uk {l m:ak} (h:(l++m).Nodup):l.Nodup:=(rO.1 h).1
def Zuv {x:fJ} (h:rY x) (i:Nat):(lL ((Zq x).take i)).Nodup:=by
 have h1:(lL (Zq x)).Nodup:=Uk h.nodup;have e:lL (Zq x)=lL ((Zq x).take i)++lL ((Zq x).drop i):=by
  simp[lL]
 rw[e]at h1;exact Uk h1
def ZvS {x:fJ} (h:rY x):x.free.Nodup:=(rO.1 h.nodup).2.1
def Ztq (n:Nat) (x:fJ) (z1 z2 z3:Nat) (p1 p2 p3:ai) (st:St) (kP:z1=2\/p1=none) (gS:z2=1\/p2=none) (mA:z3=1\/p3=none) (hr:lf st x p1 p2 p3)
  (sz:Dj x) (hn:50200<=n):
  Ok (λo=>∃b s',o=(.val [.bool b],s')/\aB st s'/\(b=true↔rY x)) (run Bd n 133 [.agg (dE x z1 p1 z2 p2 z3 p3)] st):=by
 obtain⟨n,rfl⟩: ∃m,n=m+1:=⟨n-1,by omega⟩;rw[Ze,h.ad6];unfold SX Zx bq aA Q_ cM Zn qQ N_ iX uQ Lb Bo Li dY;have ag: ∀(l:ah) (K:ah->ah->M ah),ba (.agg (dE x z1 p1 z2 p2 z3 p3)::l) K=K (dE x z1 p1 z2 p2 z3 p3) l:=λ_ _=>rfl
 rw[ag];unfold dE;simp only[av,Zg 2 z1 p1 _ kP,Zg 1 z2 p2 _ gS,Zg 1 z3 p3 _ mA,aq];have hsg:=sz.g;have no: ∀s,aB st s->¬rY x->Ok (λo=>∃b s',o=(.val [.bool b],s')/\aB st s'/\(b=true↔rY x)) ((ay [.bool false]:M ah) s):=by
  intro s hp hm;rw[Zd];exact .mk (by grind)
 have Ax:=ZkK (n-1) x.blocks x.de x.g st;rw[show n-1+1=n by omega]at Ax;rw[Zk Ax];simp only[au,aq];rw[Za];cases hg:oY x.blocks x.de x.g with
 |false=>
  rw[bn,ae];simp only[au,aq];rw[Za,ae];simp only[au,aq];rw[ae];exact no st (.refl _) λhm=>by have:=hm.NS;rw[hg]at this;cases this
 |true=>
 rw[br,af];simp only[au,aq];rw[Za];by_cases c1:(x.aK.length:Int)>x.de
 .rw[ax c1,ae]
  simp only[au,aq];rw[ae];exact no st (.refl _) λhm=>by have:=hm.de;omega
 rw[aF c1,af];obtain⟨ds,hs,hh⟩:=hr.hp;refine Ok.call (Zp1 n 2 x.aM p1 ds st (.inl rfl) hs hh sz.h (by omega)) ?_;rintro _ ⟨b,s1,rfl,aH,hb⟩;refine⟨_,s1,rfl,?_⟩;simp only[au,aq];cases b with
 |false=>
  rw[bn,ae];exact no s1 aH λhm=>by
   have:=hb.2 ⟨hm.DZ,hm.right,hm.order⟩;cases this
 |true=>
 have Xt:M6 x.aM:=hb.1 rfl;rw[br,af];refine Ok.call (Zji n x 2 1 1 p1 p2 p3 s1 (.inl rfl) (.inl rfl) (.inl rfl) (hr.pre aH) sz.h.len sz.e) ?_;rintro _ ⟨qe,s2,rfl,aU,hE⟩;refine⟨_,s2,rfl,?_⟩;simp only[aX,aq];have aU:=aH.trans aU;rw[Za];by_cases c2:((Zq x).length:Int)>(x.aK.length:Int)
 .rw[ax c2,ae]
  simp only[au,aq];rw[ae];refine no s2 aU λhm=>?_
  have:=Pl x.aK.length _ hm.nodup hm.range;rw[bB,nQ]at this;omega
 rw[aF c2,af];simp only[au,aq];by_cases c3:(x.free.length:Int)>(x.aK.length:Int)
 .rw[ax c3,ae]
  refine no s2 aU λhm=>?_
  have:=Pl x.aK.length _ hm.nodup hm.range;rw[bB,nQ]at this;omega
 rw[aF c3,af];rw[Zb (by simp;omega),Zz,bp,ZAh];rw[Za,Za,Za];have ahe:=(hr.gn.mono aU);refine Zi _ (λq y s=>∃i:Nat,y=[.int .i64 i]/\i<=(Zq x).length/\(Zq x).length-i<=q/\aB s2 s/\s[s2.length]? =some (some ⟨false,lv x.aK.length (lL ((Zq x).take i))⟩)/\
   (lL ((Zq x).take i)).Nodup/\∀e∈(Zq x).take i,(0<=e.slot/\e.slot<(x.aK.length:Int))/\iz x e.slot=e.gen) ?_ (Zq x).length n _ _ ⟨0,rfl,cz _,by omega,.new _ _,by simp[lL],by simp[lL],by simp⟩ (by omega)
 rintro q _ s ⟨i,rfl,hi,hq,hp,eN,jo,dt⟩ rec aN;simp only[av,aq];by_cases aw:i<(Zq x).length
 .rw[ax (show(i:Int)<((Zq x).length:Int) by omega),ae]
  obtain⟨ei,eo,rfl⟩:=hE.cH (by rw[Zt];omega);have he:(Zq x)[i]? =some (Zq x)[i]:=cq aw;have cg:=Zvc _ aw;have Gz: ¬((0<=(Zq x)[i].slot/\(Zq x)[i].slot<(x.aK.length:Int))/\iz x (Zq x)[i].slot=(Zq x)[i].gen)->¬rY x:=λcA hm=>
   cA ⟨hm.range _ (by grind),hm.gen _ (kz aw)⟩
  have ue:(Zq x).take (i+1)=(Zq x).take i++[(Zq x)[i]]:=lV aw;generalize Oa:(Zq x)[i]=e at he cg Gz ue;rw[bd,Zb (Zj aw),bp,Zwy (hE.mono hp) he];simp only[av,aq];have ah5:=aU.trans hp;rw[Za];by_cases d1:e.slot<0
  .rw[ax d1,ae]
   simp only[au,aq];rw[Za,ae];simp only[au,aq];rw[Za,ae];simp only[au,aq];rw[ae];grind
  rw[aF d1,af];simp only[au,aq];rw[Za];by_cases d2:e.slot>=(x.aK.length:Int)
  .rw[ax d2,ae]
   simp only[au,aq];rw[Za,ae];simp only[au,aq];rw[ae];grind
  rw[aF d2,af];have gM:0<=e.slot/\e.slot<(x.aK.length:Int):=by omega
  rw[Zb (zN gM),VD eN gM];simp only[tm,au,aq];rw[Za];by_cases d3:e.slot∈lL ((Zq x).take i)
  .rw[ax d3,ae]
   simp only[au,aq];rw[ae];refine no s ah5 λhm=>?_
   have:=Zuv hm (i+1);rw[cg]at this;grind
  rw[aF d3,af];obtain⟨gi,go,rfl⟩:=hr.gn.cH (by simp[ints];omega);rw[bd,Zb (zN gM),(ahe.mono hp).dJ (Ve gM)];simp only[bg,au,aq];by_cases d4:iz x e.slot=e.gen
  .rw[show(e.gen==iz x e.slot)=true by rw[d4];grind,br,af,Zb (zN gM),MX eN (by rw[Zv5];simp;omega),Zz3 gM]
   rw[Zc];refine aN ((Zq x).length-(i+1)) _ _ (by omega) ⟨i+1,rfl,by omega,by omega,tC hp (aQ _) _,?_,?_,?_⟩
   .rw[cg]
    grind
   .rw[cg]
    exact Ts.2 ⟨jo,d3⟩
   grind
  grind
 rw[aF (show ¬(i:Int)<((Zq x).length:Int) by omega),af];have:i=(Zq x).length:=by omega
 subst this;rw[rR]at eN jo dt;clear aN rec;have cu:=aU.trans hp;have dS:=hr.fr.mono cu;have yw:=hr.gn.mono cu;have WX: ∀k∈x.free,¬((0<=k/\k<(x.aK.length:Int))/\k∉lL (Zq x)/\iz x k<x.g)->¬rY x:=λk hk cA hm=>
  cA ⟨hm.range _ (Lh _ hk),λjn=>(rO.1 hm.nodup).2.2 k jn k hk rfl,hm.low k hk⟩
 refine Zi _ (λq y s'=>∃i:Nat,y=[.int .i64 i]/\i<=x.free.length/\x.free.length-i<=q/\s'=s/\(x.free.take i).Nodup/\∀k∈x.free.take i,(0<=k/\k<(x.aK.length:Int))/\k∉lL (Zq x)/\iz x k<x.g) ?_ x.free.length n _ _
  ⟨0,rfl,cz _,by omega,rfl,by simp,by simp⟩ (by omega)
 rintro q' _ s' ⟨i,rfl,GI,sL,rfl,XI,Ju⟩ rec aN;simp only[av,aq];by_cases aw:i<x.free.length
 .rw[ax (show(i:Int)<(x.free.length:Int) by omega),ae]
  obtain⟨fi,fo,rfl⟩:=hr.fr.cH (by simp[ints];omega);rw[bd,Zb (Zj aw),bp,dS.dJ (d:= .int .i64 x.free[i]) (by simp[ints,aw])];simp only[bg];have WX:=WX _ (kz aw);have ue:x.free.take (i+1)=x.free.take i++[x.free[i]]:=lV aw;generalize x.free[i]=k at WX ue;rw[Za];by_cases d1:k<0
  .rw[ax d1,ae]
   simp only[au,aq];rw[Za,ae];simp only[au,aq];rw[Za,ae];simp only[au,aq];rw[Za,ae];simp only[au,aq];rw[ae];grind
  rw[aF d1,af];simp only[au,aq];rw[Za];by_cases d2:k>=(x.aK.length:Int)
  .rw[ax d2,ae]
   simp only[au,aq];rw[Za,ae];simp only[au,aq];rw[Za,ae];simp only[au,aq];rw[ae];grind
  rw[aF d2,af];have gM:0<=k/\k<(x.aK.length:Int):=by omega
  rw[Zb (zN gM),VD eN gM];simp only[tm,au,aq];rw[Za];by_cases d3:k∈lL (Zq x)
  .rw[ax d3,ae]
   simp only[au,aq];rw[Za,ae];simp only[au,aq];rw[ae];grind
  rw[aF d3,af];obtain⟨gi,go,rfl⟩:=hr.gn.cH (by simp[ints];omega);rw[bd,Zb (zN gM),yw.dJ (Ve gM)];simp only[bg,au,aq];rw[Za];by_cases d4:iz x k>=x.g
  .rw[ax d4,ae]
   simp only[au,aq];rw[ae];grind
  rw[aF d4,af,Zb (by simp;omega)];have wU:Sl s' (some (fi,fo)) (ints (x.free.take i)):=by
   obtain⟨f,all,h1,h2,h3⟩:=dS;have jT:(ints (x.free.take i)).length=i:=by simp[ints];omega
   have ep:(ints x.free).length=x.free.length:=by simp[ints]
   refine⟨f,all,h1,by omega,?_⟩;have:=congrArg (List.take i) h3;rw[C7,ep,nS (by omega)]at this;rw[jT,this];unfold ints;rw[List.map_take]
  have hlen:(x.free.take i).length=i:=by simp;omega
  have aby:=Br n 1 (x.free.take i) k (some (fi,fo)) s' (.inl rfl) wU;rw[hlen]at aby;refine Ok.call aby ?_;rintro _ rfl;refine⟨_,s',rfl,?_⟩;simp only[au,aq];by_cases d5:k∈x.free.take i
  .rw[ax d5,ae]
   refine no s' cu λhm=>?_
   have:=ZvS hm;rw[<-rQ (i+1) x.free]at this;have:=Uk this;rw[ue]at this;exact(Ts.1 this).2 d5
  .rw[aF d5,af,Zc]
   refine aN (x.free.length-(i+1)) _ _ (by omega) ⟨i+1,rfl,by omega,by omega,rfl,?_,?_⟩
   .rw[ue]
    exact Ts.2 ⟨XI,d5⟩
   .intro k' nB
    rw[ue]at nB;rcases gx.1 nB with h|h
    .exact Ju k' h
    .rw[cB.1 h]
     grind
 rw[aF (show ¬(i:Int)<(x.free.length:Int) by omega),af];have:i=x.free.length:=by omega
 subst this;rw[rR]at XI Ju;clear aN rec;have Jv: ∀i:Nat,i<x.aK.length->¬(1<=iz x i/\iz x i<=x.g/\((i:Int)∉lL (Zq x)->iz x i<x.g->(i:Int)∈x.free))->¬rY x:=by
  intro i hi cA hm;have hv:iz x (i:Int)∈x.aK:=by
   unfold iz;rw[bp,dW,cq hi];grind
  refine cA ⟨(hm.aK _ hv).1,(hm.aK _ hv).2,λh1 h2=>?_⟩;refine Classical.byContradiction λh3=>?_
  have:=hm.rest i hi (λh4=>by
   rcases gx.1 h4 with h|h
   .exact h1 h
   .exact h3 h)
  omega
 refine Zi _ (λq y qk=>∃i:Nat,y=[.int .i64 i]/\i<=x.aK.length/\x.aK.length-i<=q/\qk=s'/\∀j:Nat,j<i->1<=iz x j/\iz x j<=x.g/\((j:Int)∉lL (Zq x)->iz x j<x.g->(j:Int)∈x.free)) ?_ x.aK.length n _ _
  ⟨0,rfl,cz _,by omega,rfl,by omega⟩ (by omega)
 rintro q'' _ qk ⟨i,rfl,akc,ako,rfl,WW⟩ rec aN;simp only[av,aq];by_cases aw:i<x.aK.length
 .rw[ax (by omega),ae]
  obtain⟨gi,go,rfl⟩:=hr.gn.cH (by simp[ints];omega);have gM:0<=(i:Int)/\(i:Int)<(x.aK.length:Int):=by omega
  have Jv:=Jv i aw;have ld: ∀K:DV->M ah,bD gi ((i:Int).toNat*1+go) K qk=K (.int .i64 (iz x i)) qk:=λK=>yw.dJ (Ve gM) K
  rw[bd,Zb (zN gM),ld];simp only[bg];rw[Za];by_cases d1:iz x i<1
  .rw[ax d1,ae]
   simp only[au,aq];rw[Za,ae];simp only[au,aq];rw[ae];exact no qk cu (Jv (by omega))
  rw[aF d1,af,bd,Zb (zN gM),ld];simp only[bg,au,aq];rw[Za];by_cases d2:iz x i>x.g
  .rw[ax d2,ae]
   simp only[au,aq];rw[ae];exact no qk cu (Jv (by omega))
  rw[aF d2,af,Zb (zN gM),VD eN gM];simp only[tm];have Wy:(1<=iz x i/\iz x i<=x.g/\((i:Int)∉lL (Zq x)->iz x i<x.g->(i:Int)∈x.free))->Ok (λo=>∃b s',o=(.val [.bool b],s')/\aB st s'/\(b=true↔rY x)) (rec [.int .i64 (ar ((i:Int)+1))] qk):=by
   intro ahg;rw[Zc];refine aN (x.aK.length-(i+1)) _ _ (by omega) ⟨i+1,rfl,by omega,by omega,rfl,λj hj=>?_⟩;by_cases nz:j<i
   .exact WW j nz
   .have:j=i:=by omega
    subst this;exact ahg
  rw[Za];by_cases d3:(i:Int)∈lL (Zq x)
  .rw[ax d3,br,af]
   simp only[au,aq];rw[Za,af];simp only[au,aq];rw[af];exact Wy ⟨by omega,by omega,λh=>absurd d3 h⟩
  rw[aF d3,bn,ae,bd,Zb (zN gM),ld];simp only[bg,au,aq];rw[Za];by_cases d4:iz x i<x.g
  .rw[ax d4,ae]
   refine Ok.call (Br n 1 x.free i p3 qk (.inl rfl) dS) ?_;rintro _ rfl;refine⟨_,qk,rfl,?_⟩;simp only[au,aq];by_cases d5:(i:Int)∈x.free
   .rw[ax d5,br,af]
    exact Wy ⟨by omega,by omega,λ_ _=>d5⟩
   .rw[aF d5,bn,ae]
    exact no qk cu (Jv λhh=>d5 (hh.2.2 d3 d4))
  .rw[aF d4,af]
   simp only[au,aq];rw[af];exact Wy (by omega)
 rw[aF (by omega),af,Zd];have:i=x.aK.length:=by omega
 subst this;refine .mk ⟨true,qk,rfl,cu,?_⟩;simp only[true_iff];exact {
  NS:=hg
  de:=by omega
  DZ:=Xt.1
  right:=Xt.2.1
  order:=Xt.2.2
  nodup:=rO.2 ⟨jo,XI,λa ha b hb=>by rintro rfl;exact(Ju a hb).2.1 ha⟩
  range:=λk hk=>by
   rcases gx.1 hk with h|h
   .obtain⟨e,he,rfl⟩:=pK.1 h
    exact(dt e he).1
   .exact(Ju k h).1
  gen:=λe he=>(dt e he).2
  low:=λk hk=>(Ju k hk).2.2
  aK:=λv hv=>by
   obtain⟨i,hi,rfl⟩:=List.getElem_of_mem hv;have:=WW i hi;unfold iz at this;rw[bp,dW,cq hi]at this;exact⟨this.1,this.2.1⟩
  rest:=λi hi cA=>by
   have:=WW i hi;refine Int.not_lt.1 λaw=>cA ?_
   by_cases hs:(i:Int)∈lL (Zq x)
   .exact List.mem_append_left _ hs
   .exact Lh _ (this.2.2 hs aw) }
def J_f (f:Nat) (ff fc r:ah) (K:Nat->ah->ah->ah->M β):VA (.func f ff fc::r) K=K f ff fc r:=rfl
def Zqc (n z f:Nat) (ff fc:ah) (l:ak) (p:ai) (st:St) (P:Int->Bool) (hz:z=1\/p=none) (hs:Sl st p (ints l)) (hn:l.length+10<=n) (hl:l.length<1000000)
  (hc: ∀v∈l,run Bd (n-2) f (ff++[.int .i64 v]++fc) st=some (.val [.bool (P v)],st)):
  run Bd n 147 [.slice z p l.length,.func f ff fc] st=some (.val [.bool (l.any P)],st):=by
 obtain⟨n,rfl⟩: ∃m,n=m+2:=⟨n-2,by omega⟩;rw[Ze,h.aed];unfold P9 cw Lb;simp only[Zg 1 z p _ hz,J_f,aq];have gM:Ok (λo=>∃y:Int,o=(.val [.int .i64 y],st)/\decide (y>=0)=l.any P) (run Bd (n+1) 156 [.slice 1 p l.length,.func f ff fc] st):=by
  rw[Ze,h.aef];unfold P7 Q_ cM Zn bq Li;simp only[aX,J_f,aq];rw[Za];refine Zi _ (λq y s=>∃i:Nat,y=[.int .i64 i]/\i<=l.length/\l.length-i<=q/\s=st/\∀v∈l.take i,P v=false) ?_ l.length n _ _ (by grind) (by omega);rintro q _ s ⟨i,rfl,hi,hq,rfl,cA⟩ rec aN;simp only[av,aq];by_cases aw:i<l.length
  .obtain⟨i1,o1,rfl⟩:=hs.cH (by simp[ints];omega)
   rw[ax (show(i:Int)<(l.length:Int) by omega),ae,bd,Zb (Zj aw),bp,hs.dJ (d:= .int .i64 l[i]) (by simp[ints,aw])];simp only[bg];have hv:=hc l[i] (kz aw);rw[show n+2-2=n by omega]at hv;rw[Zk hv];simp only[au,aq];cases hp:P l[i]with
   |true=>
    rw[ae,Zd];refine .mk ⟨_,rfl,?_⟩;rw[ax (by omega),List.any_eq_true.2 ⟨_,kz aw,hp⟩]
   |false=>
    rw[af,Zc];refine aN (l.length-(i+1)) _ _ (by omega) ⟨i+1,rfl,by omega,by omega,rfl,?_⟩;intro v hv;rw[lV aw]at hv;grind
  .rw[aF (show ¬(i:Int)<(l.length:Int) by omega),af,Zd]
   rw[dG (by omega)]at cA;refine .mk ⟨_,rfl,?_⟩;rw[show decide ((-1:Int)>=0)=false from rfl];grind
 obtain⟨_,e,y,rfl,hy⟩:=gM;rw[Zk e];simp[av,aq,hy,Zd]
end Go.Gv.F
