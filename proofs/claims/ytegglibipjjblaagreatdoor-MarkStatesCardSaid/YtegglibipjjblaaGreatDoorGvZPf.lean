/- States: in memory; which ones may be; small functions over them. -/
import Derived.Test.YtegglibipjjblaaGreatDoorGvZPe
import Derived.Test.YtegglibipjjblaaGreatDoorGvZPa
import Derived.Test.YtegglibipjjblaaGreatDoorGvZBod
namespace Go.Gv.F
open Go.Gv
structure bc where
 slot:Int
 gen:Int
 key:Int
 value:Int
structure cJ where
 name:List UInt8
 aK:List bc
structure cK where
 blocks:Int
 bX:Int
 g:Int
 av:List cJ
 gens:List Int
 free:List Int
def fA (e:bc):List DV:=[.int .i64 e.slot,.int .i64 e.gen,.int .i64 e.key,.int .i64 e.value]
def bK (l:List bc):List DV:=(l.map fA).flatten
theorem Zx (l:List bc):(bK l).length=l.length*4:=by
 unfold bK;induction l with
 |nil=>rfl
 |cons e l ih=>rw[gK,mQ,aZ,ih,ee];show 4+_=_;omega
theorem NM: ∀ {l:List bc} {j:Nat} {e:bc},l[j]? =some e->((bK l).drop (j*4)).take 4=fA e
 |[],j,e,h=>by simp at h
 |x::l,0,e,h=>by
  simp only[gJ,cQ]at h;subst h;rw[nV,dw];rfl
 |x::l,j+1,e,h=>by
  have e2:bK (x::l)=fA x++bK l:=rfl;rw[e2,show(j+1)*4=(fA x).length+j*4 by show _=4+_;omega,<-iM,pR];exact NM (by simpa using h)
theorem Ni (l m:List bc):bK (l++m)=bK l++bK m:=by
 unfold bK;rw[dD,vb]
def kX (h:cJ) (z:Nat) (p:Option (Nat×Nat)):List DV:=[.str h.name,.slice z p h.aK.length]
def hU (s:St):List DV->List cJ->Prop
 |ds,[]=>ds=[]
 |ds,x::r=>∃z p t,(z=4\/p=none)/\ds=kX x z p++t/\Sl s p (bK x.aK)/\hU s t r
theorem sA (x:cJ) (z:Nat) (p:Option (Nat×Nat)):(kX x z p).length=2:=rfl
theorem Z5 {β:Type} (sz z:Nat) (a:Option (Nat×Nat)) (n:Nat) (h:z=sz\/a=none) (K:Option (Nat×Nat)->Nat->M β):D.slice sz (.slice z a n) K=K a n:=by
 rcases h with rfl|rfl
 ·exact jw _ _ _ _
 ·exact SF _ _ _ _
theorem hU.len {s:St} : ∀ {ds:List DV} {xs:List cJ},hU s ds xs->ds.length=xs.length*2
 |ds,[],h=>by rw[show ds=[]from h];rfl
 |ds,x::r,⟨z,p,t,_,h1,_,h3⟩=>by rw[h1,aZ,h3.len,sA,ee];omega
theorem hU.mono {s s':St} (k:aw s s'): ∀ {ds:List DV} {xs:List cJ},hU s ds xs->hU s' ds xs
 |_,[],h=>h
 |_,_::_,⟨z,p,t,hz,h1,h2,h3⟩=>⟨z,p,t,hz,h1,h2.mono k,h3.mono k⟩
theorem hU.get {s:St} : ∀ {ds:List DV} {xs:List cJ},hU s ds xs->∀ {j:Nat} {x:cJ},xs[j]? =some x->∃z p,(z=4\/p=none)/\(ds.drop (j*2)).take 2=kX x z p/\ds[j*2]? =some (.str x.name)/\ds[j*2+1]? =some (.slice z p x.aK.length)/\Sl s p (bK x.aK)
 |_,[],_,j,x,e=>by simp at e
 |ds,y::r,⟨zq,q,t,DL,h1,h2,h3⟩,0,x,e=>by
  simp only[gJ,cQ]at e;subst e;subst h1;exact⟨zq,q,DL,rfl,rfl,rfl,h2⟩
 |ds,y::r,⟨zq,q,t,DL,h1,h2,h3⟩,j+1,x,e=>by
  obtain⟨z,p,hz,g1,g2,g3,g4⟩:=h3.get (j:=j) (x:=x) (by simpa using e);refine⟨z,p,hz,?_,?_,?_,g4⟩
  ·rw[h1,show(j+1)*2=(kX y zq q).length+j*2 by rw[sA];omega,<-iM,pR]
   exact g1
  ·rw[h1,gN (by rw[sA];omega),sA,show(j+1)*2-2=j*2 by omega]
   exact g2
  ·rw[h1,gN (by rw[sA];omega),sA,show(j+1)*2+1-2=j*2+1 by omega]
   exact g3
def cP (x:cK) (z1:Nat) (p1:Option (Nat×Nat)) (z2:Nat) (p2:Option (Nat×Nat)) (z3:Nat) (p3:Option (Nat×Nat)):List DV:=
 [.int .i64 x.blocks,.int .i64 x.bX,.int .i64 x.g,.slice z1 p1 x.av.length,.slice z2 p2 x.gens.length,.slice z3 p3 x.free.length]
structure l8 (s:St) (x:cK) (p1 p2 p3:Option (Nat×Nat)):Prop where
 hp: ∃ds,Sl s p1 ds/\hU s ds x.av
 gn:Sl s p2 (ints x.gens)
 fr:Sl s p3 (ints x.free)
theorem l8.pre {s s':St} {x:cK} {p1 p2 p3:Option (Nat×Nat)} (h:l8 s x p1 p2 p3) (k:aw s s'):l8 s' x p1 p2 p3:=
 let ⟨ds,h1,h2⟩:=h.hp
 ⟨⟨ds,h1.mono k,h2.mono k⟩,h.gn.mono k,h.fr.mono k⟩
def lL (b s g:Int):Bool:=decide (b>=16)&&(decide (b<=3072)&&(decide (s>=1)&&(decide (s<=1792)&&(decide (g>=1)&&decide (g<=4294967295)))))
def hY (a b:bc):Bool:=if a.key≠b.key then decide (a.key<b.key)else if a.slot≠b.slot then decide (a.slot<b.slot)else decide (a.gen<b.gen)
def zR (l:List bc):Prop:=∀i a b,l[i]? =some a->l[i+1]? =some b->hY a b=true
def N1 (l:List cJ):Prop:=∀i a b,l[i]? =some a->l[i+1]? =some b->cmpL (cH a.name) (cH b.name)<0
def Zo (x:cK):List bc:=(x.av.map (·.aK)).flatten
def fB (x:cK) (k:Int):Int:=x.gens.getD k.toNat 0
structure jx (x:cK):Prop where
 xS:lL x.blocks x.bX x.g=true
 bX:(x.gens.length:Int)<=x.bX
 CK:x.av.length<=16
 right: ∀h∈x.av,mg h.name=true/\zR h.aK
 order:N1 x.av
 nodup:((Zo x).map (·.slot)++x.free).Nodup
 range: ∀k∈(Zo x).map (·.slot)++x.free,0<=k/\k<(x.gens.length:Int)
 gen: ∀e∈Zo x,fB x e.slot=e.gen
 low: ∀k∈x.free,fB x k<x.g
 gens: ∀v∈x.gens,1<=v/\v<=x.g
 rest: ∀i,i<x.gens.length->((i:Int)∉(Zo x).map (·.slot)++x.free)->x.g<=fB x i
theorem Zo9 (b s g:Int) (st:St) (X:Zg->Nat->List DV->M (List DV)) (hX: ∀c n,X c n [.agg [.int .i64 b,.int .i64 s,.int .i64 g]] st=zu c n [.agg [.int .i64 b,.int .i64 s,.int .i64 g]] st) (c:Zg) (n:Nat):
  X c n [.agg [.int .i64 b,.int .i64 s,.int .i64 g]] st=some (.val [.bool (lL b s g)],st):=by
 rw[hX];unfold zu lL;simp only[bU,al,ae];cases decide (b>=16)with
 |false=>simp only[Zb,cond_false,ai,ae];rfl
 |true=>
 cases decide (b<=3072)with
 |false=>simp only[Zb,cond_false,cond_true,ai,ae];rfl
 |true=>
 cases decide (s>=1)with
 |false=>simp only[Zb,cond_false,cond_true,ai,ae];rfl
 |true=>
 cases decide (s<=1792)with
 |false=>simp only[Zb,cond_false,cond_true,ai,ae];rfl
 |true=>
 cases decide (g>=1)with
 |false=>simp only[Zb,cond_false,cond_true,ai,ae];rfl
 |true=>
  simp only[Zb,cond_true,ai,ae];rfl
theorem Zln {Bd:Za} (h:GI Bd) (n:Nat) (b s g:Int) (st:St):run Bd (n+1) 145 [.agg [.int .i64 b,.int .i64 s,.int .i64 g]] st=some (.val [.bool (lL b s g)],st):=by
 rw[Zf,h.eq];exact Zo9 b s g st zu (fun _ _=>rfl) _ _
theorem Zkj {Bd:Za} (h:F5 Bd) (n:Nat) (b s g:Int) (st:St):run Bd (n+1) 141 [.agg [.int .i64 b,.int .i64 s,.int .i64 g]] st=some (.val [.bool (lL b s g)],st):=by
 rw[Zf,h.eq];exact Zo9 b s g st FX (fun _ _=>rfl) _ _
theorem ZqW {Bd:Za} (h:LL Bd) (n:Nat) (a b:bc) (st:St):run Bd (n+1) 155 [.agg (fA a),.agg (fA b)] st=some (.val [.bool (hY a b)],st):=by
 rw[Zf,h.eq];unfold F9 fA hY;simp only[bU,al,ae];by_cases h1:a.key=b.key
 ·have e1:(a.key==b.key)=true:=by rw[h1];exact fH _
  rw[e1,bg,cond_false,ay (by simp[h1])];by_cases h2:a.slot=b.slot
  ·have e2:(a.slot==b.slot)=true:=by rw[h2];exact fH _
   rw[e2,bg,cond_false,ay (by simp[h2])];rfl
  ·have e2:(a.slot==b.slot)=false:=cg.2 h2
   rw[e2,bu,cond_true,aF h2];rfl
 ·have e1:(a.key==b.key)=false:=cg.2 h1
  rw[e1,bu,cond_true,aF h1];rfl
def eY (x y:Int):Int:=if x<y then-1 else if x>y then 1 else 0
theorem MV {Bd:Za} (h:Fb Bd) (n:Nat) (x y:Int) (st:St):run Bd (n+2) 161 [.int .i64 x,.int .i64 y] st=some (.val [.int .i64 (eY x y)],st):=by
 have e: ∀z:Int,run Bd (n+1) 163 [.int .i64 z] st=some (.val [.bool false],st):=by
  intro z;rw[Zf,h.q37.eq];unfold BJ;simp only[al,ae,fH,bg,Zc]
 rw[Zf,h.eq];unfold BI eY;simp only[al,ae];rw[Zj (e x)];simp only[ai,ae];rw[Zj (e y)];simp only[ai,ae,cond_false];by_cases h1:x<y
 ·rw[ah h1,cond_true,aF h1];rfl
 ·rw[ao h1,cond_false,ay h1]
  by_cases h2:x>y
  ·rw[ah h2,cond_true,aF h2];rfl
  ·rw[ao h2,cond_false,ay h2];rfl
theorem SU {Bd:Za} (h:xq Bd) (n:Nat) (hn:8<=n) (a b:bc) (st:St):
  Ok (fun o=>∃z s',o=(.val [.int .i64 z],s')/\aw st s'/\decide (z>=0)= !hY a b) (run Bd n 159 [.agg (fA a),.agg (fA b)] st):=by
 obtain⟨n,rfl⟩: ∃m,n=m+3:=⟨n-3,by omega⟩;rw[Zf,h.eq];unfold BH fA;simp only[bU,al,ae];rw[If (MV h.RM n a.key b.key st)];simp only[al,ae];rw[If (MV h.RM n a.slot b.slot st)];simp only[al,ae];rw[Zj (MV h.RM n a.gen b.gen st)];simp only[al,ae];rw[Zy];have hp:=aw.new st (some ⟨false,[DV.int .i64 (eY a.key b.key),.int .i64 (eY a.slot b.slot),.int .i64 (eY a.gen b.gen)]⟩);have hs:Sl (st++[some ⟨false,[DV.int .i64 (eY a.key b.key),.int .i64 (eY a.slot b.slot),.int .i64 (eY a.gen b.gen)]⟩]) (some (st.length,0)) [DV.int .i64 (eY a.key b.key),.int .i64 (eY a.slot b.slot),.int .i64 (eY a.gen b.gen)]:=Cv st _;generalize (st++[some ⟨false,[DV.int .i64 (eY a.key b.key),.int .i64 (eY a.slot b.slot),.int .i64 (eY a.gen b.gen)]⟩])=s1 at hp hs;have hor:run Bd (n+2) 162 [.slice 1 (some (st.length,0)) 3] s1=some (.val [.int .i64 (if eY a.key b.key≠0 then eY a.key b.key else if eY a.slot b.slot≠0 then eY a.slot b.slot else eY a.gen b.gen)],s1):=by
  rw[Zf,h.q83.eq];unfold BK;obtain⟨n,rfl⟩: ∃m,n=m+5:=⟨n-5,by omega⟩;simp only[br,ae];rw[Zb];have step: ∀(m i:Nat) (z:Int) (R:Option (Out (List DV)×St)),i<3->[DV.int .i64 (eY a.key b.key),.int .i64 (eY a.slot b.slot),.int .i64 (eY a.gen b.gen)][i]? =some (.int .i64 z)->
    (z≠0->R=some (.val [.int .i64 z],s1))->∀(F:(List DV->M (List DV))->List DV->M (List DV)),True:=fun _ _ _ _ _ _ _ _=>trivial
  clear step;have ld: ∀(i:Nat) (d:DV) (K:DV->M (List DV)),[DV.int .i64 (eY a.key b.key),.int .i64 (eY a.slot b.slot),.int .i64 (eY a.gen b.gen)][i]? =some d->M.ar st.length (i*1+0) K s1=K d s1:=fun i d K hd=>hs.dj hd K
  rw[vA];simp only[al,ae];rw[show decide ((0:Int)<((3:Nat):Int))=true from rfl,cond_true,aW,Ze (by rfl)];rw[show(0:Int).toNat=0 from rfl,ld 0 _ _ rfl];simp only[aS];by_cases c1:eY a.key b.key=0
  ·have e1:(eY a.key b.key==0)=true:=by rw[c1];rfl
   rw[e1,bg,cond_false,ay (by simp[c1]),vA];simp only[al,ae];rw[show af ((0:Int)+1)=1 from Zd (by omega) (by omega),show decide ((1:Int)<((3:Nat):Int))=true from rfl,cond_true,aW,Ze (by rfl)];rw[show(1:Int).toNat=1 from rfl,ld 1 _ _ rfl];simp only[aS];by_cases c2:eY a.slot b.slot=0
   ·have e2:(eY a.slot b.slot==0)=true:=by rw[c2];rfl
    rw[e2,bg,cond_false,ay (by simp[c2]),vA];simp only[al,ae];rw[show af ((1:Int)+1)=2 from Zd (by omega) (by omega),show decide ((2:Int)<((3:Nat):Int))=true from rfl,cond_true,aW,Ze (by rfl)];rw[show(2:Int).toNat=2 from rfl,ld 2 _ _ rfl];simp only[aS];by_cases c3:eY a.gen b.gen=0
    ·have e3:(eY a.gen b.gen==0)=true:=by rw[c3];rfl
     rw[e3,bg,cond_false,vA];simp only[al,ae];rw[show af ((2:Int)+1)=3 from Zd (by omega) (by omega),show decide ((3:Int)<((3:Nat):Int))=false from rfl,cond_false,c3];rfl
    ·have e3:(eY a.gen b.gen==0)=false:=cg.2 c3
     rw[e3,bu,cond_true];rfl
   ·have e2:(eY a.slot b.slot==0)=false:=cg.2 c2
    rw[e2,bu,cond_true,aF c2];rfl
  ·have e1:(eY a.key b.key==0)=false:=cg.2 c1
   rw[e1,bu,cond_true,aF c1];rfl
 rw[Zj hor];simp only[al,ae,Zc];refine .mk ⟨_,s1,rfl,hp,?_⟩;unfold hY eY;rw[mN];by_cases h1:a.key<b.key
 ·simp[h1,show ¬a.key=b.key by omega]
 ·by_cases h2:a.key>b.key
  ·simp[h1,h2,show ¬a.key=b.key by omega]
  ·have hk:a.key=b.key:=by omega
   by_cases h3:a.slot<b.slot
   ·simp[hk,h3,show ¬a.slot=b.slot by omega]
   ·by_cases h4:a.slot>b.slot
    ·simp[hk,h3,h4,show ¬a.slot=b.slot by omega]
    ·have gM:a.slot=b.slot:=by omega
     by_cases h5:a.gen<b.gen
     ·simp[hk,gM,h5]
     ·by_cases h6:a.gen>b.gen
      ·simp[hk,gM,h5,h6]
      ·simp[hk,gM,h5,h6]
theorem ZlE {Bd:Za} (h:Mx Bd) (n z:Nat) (l:List Int) (k:Int) (p:Option (Nat×Nat)) (st:St) (hz:z=1\/p=none) (hs:Sl st p (ints l)) (hn:l.length+3<=n) (hl:l.length<1000000):
  Ok (fun o=>o=(.val [.bool (decide (k∈l))],st)) (run Bd n 143 [.slice z p l.length,.int .i64 k] st):=by
 obtain⟨n,rfl⟩: ∃m,n=m+1:=⟨n-1,by omega⟩;rw[Zf,h.eq];unfold Hu;simp only[Zm 1 z p _ hz,al,ae];rw[Zb];refine Zl _ (fun q x s=>∃i:Nat,x=[.int .i64 i]/\i<=l.length/\l.length-i<=q/\s=st/\k∉l.take i) ?_ l.length n _ _ ⟨0,rfl,bH _,by omega,rfl,by simp⟩ (by omega);rintro q _ s ⟨i,rfl,hi,hq,rfl,bA⟩ rec aD;simp only[al,ae];by_cases aj:i<l.length
 ·have e:decide ((i:Int)<(l.length:Int))=true:=ah (by omega)
  obtain⟨p1,o1,rfl⟩:=hs.cm (by simp[ints];omega);rw[e,cond_true,aW,Ze (Zk aj),aY,hs.dj (d:= .int .i64 l[i]) (by simp[ints,aj])];simp only[aS];by_cases hk:l[i]=k
  ·have e2:(l[i]==k)=true:=by rw[hk];exact fH _
   rw[e2,cond_true,Zc,ah (by rw[<-hk];exact gC aj)];exact .mk rfl
  ·have e2:(l[i]==k)=false:=cg.2 hk
   rw[e2,cond_false,Zd (by omega) (by omega)];refine aD (l.length-(i+1)) _ _ (by omega) ⟨i+1,rfl,by omega,by omega,rfl,?_⟩;rw[kL aj];intro hm;rcases de.1 hm with h|h
   ·exact bA h
   ·exact hk (bP.1 h).symm
 ·have e:decide ((i:Int)<(l.length:Int))=false:=ao (by omega)
  rw[e,cond_false,Zc];rw[cF (by omega)]at bA;rw[ao bA];exact .mk rfl
end Go.Gv.F
namespace Go.Gv.F
open Go.Gv
variable {β:Type}
theorem xx {s:St} {i o j:Nat} {ds:List DV} {xs:List cJ} {x:cJ} (hs:Sl s (some (i,o)) ds) (hh:hU s ds xs) (e:xs[j]? =some x) (K:DV->M β):M.ar i (j*2+o) K s=K (.str x.name) s:=by
 obtain⟨_,p,_,_,g2,_,_⟩:=hh.get e;exact hs.get g2 K
theorem B6 {s:St} {i o j:Nat} {ds:List DV} {xs:List cJ} {x:cJ} (hs:Sl s (some (i,o)) ds) (hh:hU s ds xs) (e:xs[j]? =some x): ∃p,Sl s p (bK x.aK)/\∀K:Option (Nat×Nat)->Nat->M β,M.ar i (j*2+o+1) (fun d=>D.slice 4 d K) s=K p x.aK.length s:=by
 obtain⟨z,p,hz,_,_,g3,g4⟩:=hh.get e;refine⟨p,g4,fun K=>?_⟩;have e2:j*2+o+1=(j*2+1)+o:=by omega
 rw[e2,hs.get g3,Z5 4 z p _ hz]
theorem Ce {s:St} {i o k:Nat} {l:List bc} {x:bc} (hs:Sl s (some (i,o)) (bK l)) (e:l[k]? =some x) (K:List DV->M β):M.load i (k*4+o) 4 K s=K (fA x) s:=by
 have hk:k<l.length:=(cw.1 e).1;rw[hs.I8 (k:=k*4) (n:=4) (by rw[Zx];omega) K,NM e]
theorem Zx2 {s:St} {i o k:Nat} {l:List bc} {x:bc} (hs:Sl s (some (i,o)) (bK l)) (e:l[k]? =some x) (K:List DV->M β):M.load i (k*4+o) 2 K s=K [.int .i64 x.slot,.int .i64 x.gen] s:=by
 have hk:k<l.length:=(cw.1 e).1;rw[hs.I8 (k:=k*4) (n:=2) (by rw[Zx];omega) K];have:=congrArg (List.take 2) (NM e);rw[Bu]at this;rw[show((bK l).drop (k*4)).take 2=[.int .i64 x.slot,.int .i64 x.gen]from this]
def Iu (l:List cJ):Prop:=l.length<=16/\(∀h∈l,mg h.name=true/\zR h.aK)/\N1 l
def Ai (l:List cJ) (i:Nat) (h:cJ):Prop:=mg h.name=true/\∀g,0<i->l[i-1]? =some g->cmpL (cH g.name) (cH h.name)<0
theorem ZuX (l:List cJ) (hl:l.length<=16):Iu l↔ ∀i h,l[i]? =some h->Ai l i h/\zR h.aK:=by
 constructor
 ·intro ⟨_,h1,h2⟩ i h e
  refine⟨⟨(h1 h (kK e)).1,fun g hi eg=>h2 (i-1) g h eg ?_⟩,(h1 h (kK e)).2⟩;rw[show i-1+1=i by omega];exact e
 ·intro h
  refine⟨hl,fun x hx=>?_,fun i a b ea eb=>?_⟩
  ·obtain⟨i,hi,rfl⟩:=Br hx
   have:=h i _ (ba hi);exact⟨this.1.1,this.2⟩
  ·exact(h (i+1) b eb).1.2 a (by omega) (by rw[show i+1-1=i by omega];exact ea)
theorem Zt9 (l:List bc):zR l↔ ∀k a b,1<=k->l[k-1]? =some a->l[k]? =some b->hY a b=true:=by
 constructor
 ·intro h k a b hk ha hb
  exact h (k-1) a b ha (by rw[show k-1+1=k by omega];exact hb)
 ·intro h i a b ha hb
  exact h (i+1) a b (by omega) (by rw[show i+1-1=i by omega];exact ha) hb
structure KM (l:List cJ):Prop where
 len:l.length<=50000
 aK: ∀h∈l,h.aK.length<=50000
 name: ∀h∈l,h.name.length<=50000
theorem ZqV {Bd:Za} (h:LB Bd) (n z:Nat) (l:List cJ) (p:Option (Nat×Nat)) (ds:List DV) (st:St) (hz:z=2\/p=none) (hs:Sl st p ds) (hh:hU st ds l) (sz:KM l) (hn:50100<=n):
  Ok (fun o=>∃b s',o=(.val [.bool b],s')/\aw st s'/\(b=true↔Iu l)) (run Bd n 144 [.slice z p l.length] st):=by
 obtain⟨n,rfl⟩: ∃m,n=m+1:=⟨n-1,by omega⟩;rw[Zf,h.eq];unfold Ga;simp only[Zm 2 z p _ hz,ae];by_cases nk:l.length>16
 ·rw[ah (show(l.length:Int)>16 by omega),cond_true,Zc]
  exact .mk ⟨false,st,rfl,.refl _,by unfold Iu;simp;omega⟩
 rw[ao (show ¬(l.length:Int)>16 by omega),cond_false,Zb];have nk:l.length<=16:=by omega
 have dN:=ZuX l nk;refine Zl _ (fun q x s=>∃i:Nat,x=[.int .i64 i]/\i<=l.length/\l.length-i<=q/\aw st s/\∀j h,j<i->l[j]? =some h->Ai l j h/\zR h.aK) ?_ l.length n _ _ ⟨0,rfl,bH _,by omega,.refl _,fun j h hj=>absurd hj (sc j)⟩ (by omega);rintro q _ s ⟨i,rfl,hi,hq,hp,Tj⟩ rec aD;simp only[al,ae];by_cases aj:i<l.length;rotate_left
 ·rw[ao (show ¬(i:Int)<(l.length:Int) by omega),cond_false,Zc]
  refine .mk ⟨true,s,rfl,hp,?_⟩;simp only[true_iff];rw[dN];intro j x e;exact Tj j x (by have:=(cw.1 e).1;omega) e
 rw[ah (show(i:Int)<(l.length:Int) by omega),cond_true];obtain⟨i1,o1,rfl⟩:=hs.cm (by rw[hh.len];omega);obtain⟨x,hx⟩: ∃x,l[i]? =some x:=⟨_,ba aj⟩;have DJ:=kK hx;have JW:=sz.aK x DJ;have hxn:=sz.name x DJ;rw[Zb,aW,Ze (Zk aj),aY,xx (hs.mono hp) (hh.mono hp) hx];simp only[vk];refine Ok.call (ZpJ h.q72 n x.name (by omega) (by omega) s) ?_;rintro _ ⟨s1,rfl,aJ⟩;refine⟨_,s1,rfl,?_⟩;simp only[ai,ae];refine ZxF (fun y s=>∃b:Bool,y=[.bool b]/\aw st s/\(b=false↔Ai l i x)) ?_ ?_
 ·rintro _ s2 ⟨b,rfl,bj,hb⟩
  simp only[ai,ae];cases b with
  |true=>
   rw[cond_true,Zc];refine .mk ⟨false,s2,rfl,bj,?_⟩;rw[dN];simp only[nQ,false_iff];intro bW;exact absurd (hb.2 (bW i x hx).1) (by decide)
  |false=>
   have bA:=hb.1 rfl;rw[cond_false,Zb];refine Zl _ (fun q y s=>∃k:Nat,y=[.int .i64 k]/\1<=k/\x.aK.length+1-k<=q/\k<=x.aK.length+1/\aw st s/\∀m a b,1<=m->m<k->x.aK[m-1]? =some a->x.aK[m]? =some b->hY a b=true) ?_ x.aK.length n _ _ ⟨1,rfl,aA _,by omega,by omega,bj,fun m a b h1 h2=>by omega⟩ (by omega);rintro q' _ s3 ⟨k,rfl,jE,hkq,ik,cG,uE⟩ dW pE;simp only[al,ae];rw[aW,Ze (Zk aj),aY];obtain⟨pe,qy,le⟩:=B6 (β:=List DV) (hs.mono cG) (hh.mono cG) hx;rw[le];by_cases hk:k<x.aK.length
   ·rw[ah (show(k:Int)<(x.aK.length:Int) by omega),cond_true,aW,Ze (Zk aj),le]
    obtain⟨m,rfl⟩: ∃m,k=m+1:=⟨k-1,by omega⟩;obtain⟨pi,po,rfl⟩:=qy.cm (by rw[Zx];omega);obtain⟨a,ha⟩: ∃a,x.aK[m]? =some a:=⟨_,ba (by omega)⟩;obtain⟨b,cq⟩: ∃b,x.aK[m+1]? =some b:=⟨_,ba hk⟩;rw[aW,Zd (by omega) (by omega),show(((m+1:Nat):Int)-1)=(m:Int) by omega,Ze (Zk (by omega)),aY,Ce qy ha];unfold fA;simp only[al,ae];rw[aW,Ze (Zk aj),le];rw[aW,Ze (Zk hk),Ce qy cq];unfold fA;simp only[al,ae];have pw:=ZqW h.q74 (n-1) a b s3;rw[show n-1+1=n by omega]at pw;unfold fA at pw;rw[Zj pw];simp only[ai,ae];cases cR:hY a b with
    |false=>
     rw[bu,cond_true,Zc];refine .mk ⟨false,s3,rfl,cG,?_⟩;rw[dN];simp only[nQ,false_iff];intro bW;have:=(Zt9 _).1 (bW i x hx).2 (m+1) a b (by omega) (by rw[show m+1-1=m by omega];exact ha) cq;rw[cR]at this;cases this
    |true=>
     rw[bg,cond_false,Zd (by omega) (by omega)];refine pE (x.aK.length+1-(m+1+1)) _ _ (by omega) ⟨m+1+1,rfl,by omega,by omega,by omega,cG,?_⟩;intro m' a' b' h1 h2 vY eH;by_cases hm:m'<m+1
     ·exact uE m' a' b' h1 hm vY eH
     ·have:m'=m+1:=by omega
      subst this;rw[show m+1-1=m by omega]at vY;rw[ha]at vY;rw[cq]at eH;cases vY;cases eH;exact cR
   ·rw[ao (show ¬(k:Int)<(x.aK.length:Int) by omega),cond_false]
    rw[Zd (by omega) (by omega)];refine aD (l.length-(i+1)) _ _ (by omega) ⟨i+1,rfl,by omega,by omega,cG,?_⟩;intro j y hj ey;by_cases ij:j<i
    ·exact Tj j y ij ey
    ·have:j=i:=by omega
     subst this;rw[hx]at ey;cases ey;refine⟨bA,(Zt9 _).2 fun m a b h1 ha cq=>uE m a b h1 ?_ ha cq⟩;have:=(cw.1 cq).1;omega
 ·intro jk wo
  cases hr:mg x.name with
  |false=>
   rw[bu,cond_true];refine wo _ _ ⟨true,rfl,hp.trans aJ,?_⟩;unfold Ai;rw[hr];simp
  |true=>
   rw[bg,cond_false,Zb];by_cases h0:0<i
   ·obtain⟨m,rfl⟩: ∃m,i=m+1:=⟨i-1,by omega⟩
    rw[ah (show((m+1:Nat):Int)>0 by omega),cond_true];obtain⟨g,hg⟩: ∃g,l[m]? =some g:=⟨_,ba (by omega)⟩;have nz:=sz.name g (kK hg);have bj:=hp.trans aJ;rw[aW,Zd (by omega) (by omega),show(((m+1:Nat):Int)-1)=(m:Int) by omega,Ze (Zk (by omega)),aY,xx (hs.mono bj) (hh.mono bj) hg];simp only[vk];rw[aW,Ze (Zk aj),xx (hs.mono bj) (hh.mono bj) hx];simp only[vk];refine Ok.call (ZnJ h.q40 n g.name x.name (by omega) (by omega) (by omega) (by omega) s1) ?_;rintro _ ⟨s2,rfl,cG⟩;refine⟨_,s2,rfl,?_⟩;simp only[al,ai,ae];refine wo _ _ ⟨_,rfl,bj.trans cG,?_⟩;unfold Ai;rw[hr,show m+1-1=m by omega,hg];simp only[j6,true_and];constructor
    ·intro hc g' _ e
     cases e;omega
    ·intro hc
     have:=hc g (by omega) rfl;omega
   ·rw[ao (show ¬(i:Int)>0 by omega),cond_false]
    simp only[ai,ae];refine wo _ _ ⟨false,rfl,hp.trans aJ,?_⟩;unfold Ai;rw[hr];simp only[true_and,true_iff];intro g hg;exact absurd hg h0
end Go.Gv.F
namespace Go.Gv.F
open Go.Gv
def mh (l:List cJ):List bc:=(l.map (·.aK)).flatten
theorem MU (x:cK):Zo x=mh x.av:=rfl
theorem Zvh (l:List cJ) {i:Nat} {h:cJ} (e:l[i]? =some h):mh (l.take (i+1))=mh (l.take i)++h.aK:=by
 obtain⟨hi,rfl⟩:=cw.1 e;unfold mh;rw[kL hi,dD,vb,gK,List.map_nil,mQ,List.flatten_nil,dZ]
theorem ZxE (l:List cJ) (i:Nat):(mh (l.take i)).length<=(mh l).length:=by
 have:mh l=mh (l.take i)++mh (l.drop i):=by
  unfold mh;rw[<-vb,<-dD,nU]
 rw[this,aZ];omega
theorem ZnP {Bd:Za} (h:Ln Bd) (n:Nat) (x:cK) (z1 z2 z3:Nat) (p1 p2 p3:Option (Nat×Nat)) (st:St) (iu:z1=2\/p1=none) (gv:z2=1\/p2=none) (iZ:z3=1\/p3=none) (hr:l8 st x p1 p2 p3)
  (hl:x.av.length<=50000) (he:(Zo x).length<=50000) (hn:50100<=n):
  Ok (fun o=>∃q s',o=(.val [.slice 4 q (Zo x).length],s')/\aw st s'/\Sl s' q (bK (Zo x))) (run Bd n 142 [.agg (cP x z1 p1 z2 p2 z3 p3)] st):=by
 obtain⟨n,rfl⟩: ∃m,n=m+1:=⟨n-1,by omega⟩;rw[Zf,h.eq];unfold FR;have ag: ∀(l:List DV) (K:List DV->List DV->M (List DV)),J.a (.agg (cP x z1 p1 z2 p2 z3 p3)::l) K=K (cP x z1 p1 z2 p2 z3 p3) l:=fun _ _=>rfl
 rw[ag];unfold cP;simp only[al,Zm 2 z1 p1 _ iu,Zm 1 z2 p2 _ gv,Zm 1 z3 p3 _ iZ,ae];rw[sD,Zb];obtain⟨ds,hs,hh⟩:=hr.hp;rw[MU]at he;rw[MU];refine Zl _ (fun q y s=>∃(i z:Nat) (a:Option (Nat×Nat)),y=[.slice z a (mh (x.av.take i)).length,.int .i64 i]/\(z=4\/a=none)/\i<=x.av.length/\x.av.length-i<=q/\bh st s a (bK (mh (x.av.take i)))) ?_ x.av.length n _ _ ⟨0,0,none,rfl,.inr rfl,bH _,by omega,bh.nil (.refl _)⟩ (by omega);rintro q _ s ⟨i,z,a,rfl,hz,hi,hq,ho⟩ rec aD;simp only[Zm 4 z a _ hz,al,ae];by_cases aj:i<x.av.length
 ·rw[ah (show(i:Int)<(x.av.length:Int) by omega),cond_true]
  obtain⟨i1,o1,rfl⟩:=hs.cm (by rw[hh.len];omega);obtain⟨g,hg⟩: ∃g,x.av[i]? =some g:=⟨_,ba aj⟩;rw[aW,Ze (Zk aj),aY];obtain⟨pe,qy,le⟩:=B6 (β:=List DV) (hs.mono ho.1) (hh.mono ho.1) hg;rw[le];rw[<-Zx,Bj qy];have et:=Zvh x.av hg;have hle:=ZxE x.av (i+1);rw[et,aZ]at hle;rw[Zd (by omega) (by omega)];by_cases h0:0<g.aK.length
  ·obtain⟨q2,s2,g1,g2⟩:=ho.app (β:=List DV) (sz:=4) (n:=(mh (x.av.take i)).length) (m:=g.aK.length) (lim:=2199023255552) (ds:=bK g.aK) (by omega) (Zx _) h0 (by omega)
   rw[g2];exact aD (x.av.length-(i+1)) _ _ (by omega) ⟨i+1,4,q2,by rw[et,aZ];rfl,.inl rfl,by omega,by omega,by rw[et,Ni];exact g1⟩
  ·have e0:g.aK=[]:=r8.1 (by omega)
   rw[e0]at et⊢;rw[show(bK []:List DV)=[]from rfl,show(([]:List bc).length)=0 from rfl,Zzk];rw[dZ]at et;exact aD (x.av.length-(i+1)) _ _ (by omega) ⟨i+1,4,a,by rw[et];rfl,.inl rfl,by omega,by omega,by rw[et];exact ho⟩
 ·rw[ao (show ¬(i:Int)<(x.av.length:Int) by omega),cond_false]
  have:i=x.av.length:=by omega
  subst this;rw[oQ]at ho⊢;simp only[br,ae,ZY];exact .mk ⟨a,_,rfl,Z1 ho.1,ho.sl.jA _⟩
def lv (n:Nat) (D:List Int):List DV:=(List.range n).map fun(k:Nat)=>DV.bool (decide ((k:Int)∈D))
theorem ZxB (n:Nat) (D:List Int):(lv n D).length=n:=by simp[lv]
theorem ZAq {n:Nat} {D:List Int} {k:Int} (h:0<=k/\k<(n:Int)):(lv n D)[k.toNat]? =some (.bool (decide (k∈D))):=by
 obtain⟨m,rfl⟩: ∃m:Nat,k=(m:Int):=⟨k.toNat,by omega⟩;rw[aY];simp only[lv,gB];rw[nS (by omega)];rfl
theorem ZAA {n:Nat} {D:List Int} {k:Int} (h:0<=k/\k<(n:Int)):bN (lv n D) (k.toNat*1) [.bool true]=lv n (D++[k]):=by
 obtain⟨m,rfl⟩: ∃m:Nat,k=(m:Int):=⟨k.toNat,by omega⟩;rw[aY,dx,xC _ _ _ (by rw[ZxB];omega)];refine mP fun j=>?_
 rw[List.getElem?_set];unfold lv;by_cases hj:j<n
 ·simp only[lV,Eu,gB,nS hj,lD]
  by_cases hm:m=j
  ·subst hm
   rw[aF rfl,aF (by omega)];simp
  ·rw[ay hm]
   have e:((j:Int)∈D++[(m:Int)])↔((j:Int)∈D):=by
    rw[de,bP];constructor
    ·rintro(h|h)
     ·exact h
     ·omega
    ·exact .inl
   simp only[e]
 ·rw[dL (show(List.map (fun k:Nat=>DV.bool (decide ((k:Int)∈D++[(m:Int)]))) (List.range n)).length<=j by simp;omega)]
  rw[ay (by omega),dL (by simp;omega)]
theorem ZAi (n:Nat):fj n [.bool false]=lv n []:=by
 unfold fj lv;refine mP fun j=>?_
 have:(List.replicate n [DV.bool false]).flatten=List.replicate n (DV.bool false):=by
  induction n with
  |zero=>rfl
  |succ n ih=>rw[sb,sb,mQ,ih];rfl
 rw[this];by_cases hj:j<n
 ·simp[hj]
 ·rw[dL (by simp;omega),dL (by simp;omega)]
theorem tU {k:Int} {n:Nat} (h:0<=k/\k<(n:Int)):au k n=true:=by unfold au;simp[h.1,h.2]
theorem OE {x:cK} {k:Int} (h:0<=k/\k<(x.gens.length:Int)):(ints x.gens)[k.toNat]? =some (.int .i64 (fB x k)):=by
 unfold ints fB;have hk:k.toNat<x.gens.length:=by omega
 rw[gB,ba hk,bM,ba hk];rfl
theorem D1: ∀(n:Nat) (l:List Int),l.Nodup->(∀k∈l,0<=k/\k<(n:Int))->l.length<=n
 |0,l,_,h=>by
  cases l with
  |nil=>exact aA _
  |cons k l=>have:=h k (nT);omega
 |n+1,l,hd,h=>by
  have h1:=D1 n (l.erase (n:Int)) (hd.erase _) (fun k hk=>by
   rw[hd.mem_erase_iff]at hk;have:=h k hk.2;have:=hk.1;omega)
  rw[List.length_erase]at h1;split at h1
  ·omega
  ·omega
structure zn (x:cK):Prop where
 h:KM x.av
 e:(Zo x).length<=50000
 g:x.gens.length<=50000
 f:x.free.length<=50000
end Go.Gv.F
namespace Go.Gv.F
open Go.Gv
variable {β:Type}
theorem Ot {s:St} {i n:Nat} {D:List Int} {k:Int} (hs:s[i]? =some (some ⟨false,lv n D⟩)) (h:0<=k/\k<(n:Int)) (K:DV->M β):M.ar i (k.toNat*1) K s=K (.bool (decide (k∈D))) s:=by
 rw[dx];exact Zn hs (ZAq h) K
def ZT (l:List bc):List Int:=l.map (·.slot)
theorem Zw3 (l:List bc) {i:Nat} (h:i<l.length):ZT (l.take (i+1))=ZT (l.take i)++[l[i].slot]:=by
 unfold ZT;rw[kL h,dD];rfl
theorem HB {l:List Int} {k:Int} :(l++[k]).Nodup↔l.Nodup/\k∉l:=by
 rw[gO];constructor
 ·rintro⟨h1,_,h3⟩
  exact⟨h1,fun hk=>h3 k hk k (bP.2 rfl) rfl⟩
 ·rintro⟨h1,h2⟩
  exact⟨h1,by simp,fun a ha b hb=>by rw[bP.1 hb];rintro rfl;exact h2 ha⟩
theorem M9 {l m:List Int} (h:(l++m).Nodup):l.Nodup:=(gO.1 h).1
theorem Zu1 {x:cK} (h:jx x) (i:Nat):(ZT ((Zo x).take i)).Nodup:=by
 have h1:(ZT (Zo x)).Nodup:=M9 h.nodup;have e:ZT (Zo x)=ZT ((Zo x).take i)++ZT ((Zo x).drop i):=by
  unfold ZT;rw[<-dD,nU]
 rw[e]at h1;exact M9 h1
theorem ZwM {x:cK} (h:jx x):x.free.Nodup:=(gO.1 h.nodup).2.1
theorem Zt2 {Bd:Za} (h:Mw Bd) (n:Nat) (x:cK) (z1 z2 z3:Nat) (p1 p2 p3:Option (Nat×Nat)) (st:St) (iu:z1=2\/p1=none) (gv:z2=1\/p2=none) (iZ:z3=1\/p3=none) (hr:l8 st x p1 p2 p3)
  (sz:zn x) (hn:50200<=n):
  Ok (fun o=>∃b s',o=(.val [.bool b],s')/\aw st s'/\(b=true↔jx x)) (run Bd n 133 [.agg (cP x z1 p1 z2 p2 z3 p3)] st):=by
 obtain⟨n,rfl⟩: ∃m,n=m+1:=⟨n-1,by omega⟩;rw[Zf,h.eq];unfold GS;have ag: ∀(l:List DV) (K:List DV->List DV->M (List DV)),J.a (.agg (cP x z1 p1 z2 p2 z3 p3)::l) K=K (cP x z1 p1 z2 p2 z3 p3) l:=fun _ _=>rfl
 rw[ag];unfold cP;simp only[al,Zm 2 z1 p1 _ iu,Zm 1 z2 p2 _ gv,Zm 1 z3 p3 _ iZ,ae];have hsg:=sz.g;have yv:=sz.f;have yu:=sz.e;have no: ∀s,aw st s->¬jx x->Ok (fun o=>∃b s',o=(.val [.bool b],s')/\aw st s'/\(b=true↔jx x)) ((M.ret [.bool false]:M (List DV)) s):=by
  intro s hp hm;rw[Zc];exact .mk ⟨false,s,rfl,hp,by simp[hm]⟩
 have qC:=Zkj h.RT (n-1) x.blocks x.bX x.g st;rw[show n-1+1=n by omega]at qC;rw[Zj qC];simp only[ai,ae];rw[Zb];cases hg:lL x.blocks x.bX x.g with
 |false=>
  rw[bu,cond_true];simp only[ai,ae];rw[Zb,cond_true];simp only[ai,ae];rw[cond_true];exact no st (.refl _) fun hm=>by have:=hm.xS;rw[hg]at this;cases this
 |true=>
 rw[bg,cond_false];simp only[ai,ae];rw[Zb];by_cases c1:(x.gens.length:Int)>x.bX
 ·rw[ah c1,cond_true]
  simp only[ai,ae];rw[cond_true];exact no st (.refl _) fun hm=>by have:=hm.bX;omega
 rw[ao c1,cond_false];obtain⟨ds,hs,hh⟩:=hr.hp;refine Ok.call (ZqV h.q79 n 2 x.av p1 ds st (.inl rfl) hs hh sz.h (by omega)) ?_;rintro _ ⟨b,s1,rfl,aJ,hb⟩;refine⟨_,s1,rfl,?_⟩;simp only[ai,ae];cases b with
 |false=>
  rw[bu,cond_true];exact no s1 aJ fun hm=>by
   have:=hb.2 ⟨hm.CK,hm.right,hm.order⟩;cases this
 |true=>
 have Qo:Iu x.av:=hb.1 rfl;rw[bg,cond_false];refine Ok.call (ZnP h.q43 n x 2 1 1 p1 p2 p3 s1 (.inl rfl) (.inl rfl) (.inl rfl) (hr.pre aJ) sz.h.len sz.e (by omega)) ?_;rintro _ ⟨qe,s2,rfl,bj,hE⟩;refine⟨_,s2,rfl,?_⟩;simp only[br,ae];have bj:=aJ.trans bj;rw[Zb];by_cases c2:((Zo x).length:Int)>(x.gens.length:Int)
 ·rw[ah c2,cond_true]
  simp only[ai,ae];rw[cond_true];refine no s2 bj fun hm=>?_
  have:=D1 x.gens.length _ hm.nodup hm.range;rw[aZ,lV]at this;omega
 rw[ao c2,cond_false];simp only[ai,ae];by_cases c3:(x.free.length:Int)>(x.gens.length:Int)
 ·rw[ah c3,cond_true]
  refine no s2 bj fun hm=>?_
  have:=D1 x.gens.length _ hm.nodup hm.range;rw[aZ,lV]at this;omega
 rw[ao c3,cond_false];rw[Ze (by simp;omega),Zy,aY,ZAi];rw[Zb,Zb,Zb];have VU:=(hr.gn.mono bj);refine Zl _ (fun q y s=>∃i:Nat,y=[.int .i64 i]/\i<=(Zo x).length/\(Zo x).length-i<=q/\aw s2 s/\s[s2.length]? =some (some ⟨false,lv x.gens.length (ZT ((Zo x).take i))⟩)/\
   (ZT ((Zo x).take i)).Nodup/\∀e∈(Zo x).take i,(0<=e.slot/\e.slot<(x.gens.length:Int))/\fB x e.slot=e.gen) ?_ (Zo x).length n _ _ ⟨0,rfl,bH _,by omega,.new _ _,by simp[ZT],by simp[ZT],by simp⟩ (by omega)
 rintro q _ s ⟨i,rfl,hi,hq,hp,gr,cT,bW⟩ rec aD;simp only[al,ae];by_cases aj:i<(Zo x).length
 ·rw[ah (show(i:Int)<((Zo x).length:Int) by omega),cond_true]
  obtain⟨ei,eo,rfl⟩:=hE.cm (by rw[Zx];omega);have he:(Zo x)[i]? =some (Zo x)[i]:=ba aj;have bE:=Zw3 _ aj;have AJ: ¬((0<=(Zo x)[i].slot/\(Zo x)[i].slot<(x.gens.length:Int))/\fB x (Zo x)[i].slot=(Zo x)[i].gen)->¬jx x:=fun bA hm=>
   bA ⟨hm.range _ (ve _ (dE.2 ⟨_,gC aj,rfl⟩)),hm.gen _ (gC aj)⟩
  have qF:(Zo x).take (i+1)=(Zo x).take i++[(Zo x)[i]]:=kL aj;generalize hee:(Zo x)[i]=e at he bE AJ qF;rw[aW,Ze (Zk aj),aY,Zx2 (hE.mono hp) he];simp only[al,ae];have JK:=bj.trans hp;rw[Zb];by_cases d1:e.slot<0
  ·rw[ah d1,cond_true]
   simp only[ai,ae];rw[Zb,cond_true];simp only[ai,ae];rw[Zb,cond_true];simp only[ai,ae];rw[cond_true];exact no s JK (AJ (by omega))
  rw[ao d1,cond_false];simp only[ai,ae];rw[Zb];by_cases d2:e.slot>=(x.gens.length:Int)
  ·rw[ah d2,cond_true]
   simp only[ai,ae];rw[Zb,cond_true];simp only[ai,ae];rw[cond_true];exact no s JK (AJ (by omega))
  rw[ao d2,cond_false];have fM:0<=e.slot/\e.slot<(x.gens.length:Int):=by omega
  rw[Ze (tU fM),Ot gr fM];simp only[xh,ai,ae];rw[Zb];by_cases d3:e.slot∈ZT ((Zo x).take i)
  ·rw[ah d3,cond_true]
   simp only[ai,ae];rw[cond_true];refine no s JK fun hm=>?_
   have:=Zu1 hm (i+1);rw[bE]at this;exact(HB.1 this).2 d3
  rw[ao d3,cond_false];obtain⟨gi,go,rfl⟩:=hr.gn.cm (by simp[ints];omega);rw[aW,Ze (tU fM),(VU.mono hp).dj (OE fM)];simp only[aS,ai,ae];by_cases d4:fB x e.slot=e.gen
  ·rw[show(e.gen==fB x e.slot)=true by rw[d4];exact fH _,bg,cond_false,Ze (tU fM),Ir gr (by rw[ZxB];simp;omega),ZAA fM]
   rw[Zd (by omega) (by omega)];refine aD ((Zo x).length-(i+1)) _ _ (by omega) ⟨i+1,rfl,by omega,by omega,xE hp (aA _) _,?_,?_,?_⟩
   ·rw[bE]
    exact ZsL gr _
   ·rw[bE]
    exact HB.2 ⟨cT,d3⟩
   ·intro e' nx
    rw[qF]at nx;rcases de.1 nx with h|h
    ·exact bW e' h
    ·rw[bP.1 h]
     exact⟨fM,d4⟩
  ·rw[show(e.gen==fB x e.slot)=false from cg.2 (Ne.symm d4),bu,cond_true]
   exact no s JK (AJ fun hh=>d4 hh.2)
 rw[ao (show ¬(i:Int)<((Zo x).length:Int) by omega),cond_false];have:i=(Zo x).length:=by omega
 subst this;rw[oQ]at gr cT bW;clear aD rec;have cG:=bj.trans hp;have eK:=hr.fr.mono cG;have nz:=hr.gn.mono cG;have xY: ∀k∈x.free,¬((0<=k/\k<(x.gens.length:Int))/\k∉ZT (Zo x)/\fB x k<x.g)->¬jx x:=fun k hk bA hm=>
  bA ⟨hm.range _ (zd _ hk),fun ik=>(gO.1 hm.nodup).2.2 k ik k hk rfl,hm.low k hk⟩
 refine Zl _ (fun q y s'=>∃i:Nat,y=[.int .i64 i]/\i<=x.free.length/\x.free.length-i<=q/\s'=s/\(x.free.take i).Nodup/\∀k∈x.free.take i,(0<=k/\k<(x.gens.length:Int))/\k∉ZT (Zo x)/\fB x k<x.g) ?_ x.free.length n _ _
  ⟨0,rfl,bH _,by omega,rfl,by simp,by simp⟩ (by omega)
 rintro q' _ s' ⟨i,rfl,wi,wD,rfl,QG,CT⟩ rec aD;simp only[al,ae];by_cases aj:i<x.free.length
 ·rw[ah (show(i:Int)<(x.free.length:Int) by omega),cond_true]
  obtain⟨fi,fo,rfl⟩:=hr.fr.cm (by simp[ints];omega);rw[aW,Ze (Zk aj),aY,eK.dj (d:= .int .i64 x.free[i]) (by simp[ints,aj])];simp only[aS];have xY:=xY _ (gC aj);have qF:x.free.take (i+1)=x.free.take i++[x.free[i]]:=kL aj;generalize x.free[i]=k at xY qF;rw[Zb];by_cases d1:k<0
  ·rw[ah d1,cond_true]
   simp only[ai,ae];rw[Zb,cond_true];simp only[ai,ae];rw[Zb,cond_true];simp only[ai,ae];rw[Zb,cond_true];simp only[ai,ae];rw[cond_true];exact no s' cG (xY (by omega))
  rw[ao d1,cond_false];simp only[ai,ae];rw[Zb];by_cases d2:k>=(x.gens.length:Int)
  ·rw[ah d2,cond_true]
   simp only[ai,ae];rw[Zb,cond_true];simp only[ai,ae];rw[Zb,cond_true];simp only[ai,ae];rw[cond_true];exact no s' cG (xY (by omega))
  rw[ao d2,cond_false];have fM:0<=k/\k<(x.gens.length:Int):=by omega
  rw[Ze (tU fM),Ot gr fM];simp only[xh,ai,ae];rw[Zb];by_cases d3:k∈ZT (Zo x)
  ·rw[ah d3,cond_true]
   simp only[ai,ae];rw[Zb,cond_true];simp only[ai,ae];rw[cond_true];exact no s' cG (xY fun hh=>hh.2.1 d3)
  rw[ao d3,cond_false];obtain⟨gi,go,rfl⟩:=hr.gn.cm (by simp[ints];omega);rw[aW,Ze (tU fM),nz.dj (OE fM)];simp only[aS,ai,ae];rw[Zb];by_cases d4:fB x k>=x.g
  ·rw[ah d4,cond_true]
   simp only[ai,ae];rw[cond_true];exact no s' cG (xY fun hh=>by have:=hh.2.2;omega)
  rw[ao d4,cond_false,Ze (by simp;omega)];have rH:Sl s' (some (fi,fo)) (ints (x.free.take i)):=by
   obtain⟨f,all,h1,h2,h3⟩:=eK;have AR:(ints (x.free.take i)).length=i:=by simp[ints];omega
   have eI:(ints x.free).length=x.free.length:=by simp[ints]
   refine⟨f,all,h1,by omega,?_⟩;have:=congrArg (List.take i) h3;rw[Bu,eI,jK (by omega)]at this;rw[AR,this];unfold ints;rw[List.map_take]
  have hlen:(x.free.take i).length=i:=by simp;omega
  have Tz:=ZlE h.UE n 1 (x.free.take i) k (some (fi,fo)) s' (.inl rfl) rH (by omega) (by omega);rw[hlen]at Tz;refine Ok.call Tz ?_;rintro _ rfl;refine⟨_,s',rfl,?_⟩;simp only[ai,ae];by_cases d5:k∈x.free.take i
  ·rw[ah d5,cond_true]
   refine no s' cG fun hm=>?_
   have:=ZwM hm;rw[<-nU (i+1) x.free]at this;have:=M9 this;rw[qF]at this;exact(HB.1 this).2 d5
  ·rw[ao d5,cond_false,Zd (by omega) (by omega)]
   refine aD (x.free.length-(i+1)) _ _ (by omega) ⟨i+1,rfl,by omega,by omega,rfl,?_,?_⟩
   ·rw[qF]
    exact HB.2 ⟨QG,d5⟩
   ·intro k' Dd
    rw[qF]at Dd;rcases de.1 Dd with h|h
    ·exact CT k' h
    ·rw[bP.1 h]
     exact⟨fM,d3,by omega⟩
 rw[ao (show ¬(i:Int)<(x.free.length:Int) by omega),cond_false];have:i=x.free.length:=by omega
 subst this;rw[oQ]at QG CT;clear aD rec;have CV: ∀i:Nat,i<x.gens.length->¬(1<=fB x i/\fB x i<=x.g/\((i:Int)∉ZT (Zo x)->fB x i<x.g->(i:Int)∈x.free))->¬jx x:=by
  intro i hi bA hm;have hv:fB x (i:Int)∈x.gens:=by
   unfold fB;rw[aY,bM,ba hi];exact gC hi
  refine bA ⟨(hm.gens _ hv).1,(hm.gens _ hv).2,fun h1 h2=>?_⟩;refine Classical.byContradiction fun h3=>?_
  have:=hm.rest i hi (fun h4=>by
   rcases de.1 h4 with h|h
   ·exact h1 h
   ·exact h3 h)
  omega
 refine Zl _ (fun q y oI=>∃i:Nat,y=[.int .i64 i]/\i<=x.gens.length/\x.gens.length-i<=q/\oI=s'/\∀j:Nat,j<i->1<=fB x j/\fB x j<=x.g/\((j:Int)∉ZT (Zo x)->fB x j<x.g->(j:Int)∈x.free)) ?_ x.gens.length n _ _
  ⟨0,rfl,bH _,by omega,rfl,fun j hj=>absurd hj (sc j)⟩ (by omega)
 rintro q'' _ oI ⟨i,rfl,Yl,Yx,rfl,PY⟩ rec aD;simp only[al,ae];by_cases aj:i<x.gens.length
 ·rw[ah (show(i:Int)<(x.gens.length:Int) by omega),cond_true]
  obtain⟨gi,go,rfl⟩:=hr.gn.cm (by simp[ints];omega);have fM:0<=(i:Int)/\(i:Int)<(x.gens.length:Int):=by omega
  have CV:=CV i aj;have ld: ∀K:DV->M (List DV),M.ar gi ((i:Int).toNat*1+go) K oI=K (.int .i64 (fB x i)) oI:=fun K=>nz.dj (OE fM) K
  rw[aW,Ze (tU fM),ld];simp only[aS];rw[Zb];by_cases d1:fB x i<1
  ·rw[ah d1,cond_true]
   simp only[ai,ae];rw[Zb,cond_true];simp only[ai,ae];rw[cond_true];exact no oI cG (CV (by omega))
  rw[ao d1,cond_false,aW,Ze (tU fM),ld];simp only[aS,ai,ae];rw[Zb];by_cases d2:fB x i>x.g
  ·rw[ah d2,cond_true]
   simp only[ai,ae];rw[cond_true];exact no oI cG (CV (by omega))
  rw[ao d2,cond_false,Ze (tU fM),Ot gr fM];simp only[xh];have Py:(1<=fB x i/\fB x i<=x.g/\((i:Int)∉ZT (Zo x)->fB x i<x.g->(i:Int)∈x.free))->Ok (fun o=>∃b s',o=(.val [.bool b],s')/\aw st s'/\(b=true↔jx x)) (rec [.int .i64 (af ((i:Int)+1))] oI):=by
   intro VW;rw[Zd (by omega) (by omega)];refine aD (x.gens.length-(i+1)) _ _ (by omega) ⟨i+1,rfl,by omega,by omega,rfl,fun j hj=>?_⟩;by_cases ij:j<i
   ·exact PY j ij
   ·have:j=i:=by omega
    subst this;exact VW
  rw[Zb];by_cases d3:(i:Int)∈ZT (Zo x)
  ·rw[ah d3,bg,cond_false]
   simp only[ai,ae];rw[Zb,cond_false];simp only[ai,ae];rw[cond_false];exact Py ⟨by omega,by omega,fun h=>absurd d3 h⟩
  rw[ao d3,bu,cond_true,aW,Ze (tU fM),ld];simp only[aS,ai,ae];rw[Zb];by_cases d4:fB x i<x.g
  ·rw[ah d4,cond_true]
   refine Ok.call (ZlE h.UE n 1 x.free i p3 oI (.inl rfl) eK (by omega) (by omega)) ?_;rintro _ rfl;refine⟨_,oI,rfl,?_⟩;simp only[ai,ae];by_cases d5:(i:Int)∈x.free
   ·rw[ah d5,bg,cond_false]
    exact Py ⟨by omega,by omega,fun _ _=>d5⟩
   ·rw[ao d5,bu,cond_true]
    exact no oI cG (CV fun hh=>d5 (hh.2.2 d3 d4))
  ·rw[ao d4,cond_false]
   simp only[ai,ae];rw[cond_false];exact Py ⟨by omega,by omega,fun _ h=>absurd h d4⟩
 rw[ao (show ¬(i:Int)<(x.gens.length:Int) by omega),cond_false,Zc];have:i=x.gens.length:=by omega
 subst this;refine .mk ⟨true,oI,rfl,cG,?_⟩;simp only[true_iff];exact {
  xS:=hg
  bX:=by omega
  CK:=Qo.1
  right:=Qo.2.1
  order:=Qo.2.2
  nodup:=gO.2 ⟨cT,QG,fun a ha b hb=>by rintro rfl;exact(CT a hb).2.1 ha⟩
  range:=fun k hk=>by
   rcases de.1 hk with h|h
   ·obtain⟨e,he,rfl⟩:=dE.1 h
    exact(bW e he).1
   ·exact(CT k h).1
  gen:=fun e he=>(bW e he).2
  low:=fun k hk=>(CT k hk).2.2
  gens:=fun v hv=>by
   obtain⟨i,hi,rfl⟩:=Br hv;have:=PY i hi;unfold fB at this;rw[aY,bM,ba hi]at this;exact⟨this.1,this.2.1⟩
  rest:=fun i hi bA=>by
   have:=PY i hi;refine Int.not_lt.1 fun aj=>bA ?_
   by_cases hs:(i:Int)∈ZT (Zo x)
   ·exact ve _ hs
   ·exact zd _ (this.2.2 hs aj) }
end Go.Gv.F
namespace Go.Gv.F
open Go.Gv
variable {β:Type}
theorem KJ (f:Nat) (ff fc r:List DV) (K:Nat->List DV->List DV->List DV->M β):J.f (.func f ff fc::r) K=K f ff fc r:=rfl
theorem ZpI {Bd:Za} (h:KQ Bd) (n z f:Nat) (ff fc:List DV) (l:List Int) (p:Option (Nat×Nat)) (st:St) (P:Int->Bool) (hz:z=1\/p=none) (hs:Sl st p (ints l)) (hn:l.length+10<=n) (hl:l.length<1000000)
  (hc: ∀v∈l,run Bd (n-2) f (ff++[.int .i64 v]++fc) st=some (.val [.bool (P v)],st)):
  run Bd n 147 [.slice z p l.length,.func f ff fc] st=some (.val [.bool (l.any P)],st):=by
 obtain⟨n,rfl⟩: ∃m,n=m+2:=⟨n-2,by omega⟩;rw[Zf,h.eq];unfold Z2;simp only[Zm 1 z p _ hz,KJ,ae];have fM:Ok (fun o=>∃y:Int,o=(.val [.int .i64 y],st)/\decide (y>=0)=l.any P) (run Bd (n+1) 156 [.slice 1 p l.length,.func f ff fc] st):=by
  rw[Zf,h.q7.eq];unfold EM;simp only[br,KJ,ae];rw[Zb];refine Zl _ (fun q y s=>∃i:Nat,y=[.int .i64 i]/\i<=l.length/\l.length-i<=q/\s=st/\∀v∈l.take i,P v=false) ?_ l.length n _ _ ⟨0,rfl,bH _,by omega,rfl,by simp⟩ (by omega);rintro q _ s ⟨i,rfl,hi,hq,rfl,bA⟩ rec aD;simp only[al,ae];by_cases aj:i<l.length
  ·obtain⟨i1,o1,rfl⟩:=hs.cm (by simp[ints];omega)
   rw[ah (show(i:Int)<(l.length:Int) by omega),cond_true,aW,Ze (Zk aj),aY,hs.dj (d:= .int .i64 l[i]) (by simp[ints,aj])];simp only[aS];have hv:=hc l[i] (gC aj);rw[show n+2-2=n by omega]at hv;rw[Zj hv];simp only[ai,ae];cases hp:P l[i]with
   |true=>
    rw[cond_true,Zc];refine .mk ⟨_,rfl,?_⟩;rw[ah (by omega),List.any_eq_true.2 ⟨_,gC aj,hp⟩]
   |false=>
    rw[cond_false,Zd (by omega) (by omega)];refine aD (l.length-(i+1)) _ _ (by omega) ⟨i+1,rfl,by omega,by omega,rfl,?_⟩;intro v hv;rw[kL aj]at hv;rcases de.1 hv with h|h
    ·exact bA v h
    ·rw[bP.1 h];exact hp
  ·rw[ao (show ¬(i:Int)<(l.length:Int) by omega),cond_false,Zc]
   rw[cF (by omega)]at bA;refine .mk ⟨_,rfl,?_⟩;rw[show decide ((-1:Int)>=0)=false from rfl];symm;rw[List.any_eq_false];intro v hv;rw[bA v hv];exact Bool.false_ne_true
 obtain⟨_,e,y,rfl,hy⟩:=fM;rw[Zj e];simp only[al,ae];rw[hy,Zc]
end Go.Gv.F
namespace Go.Gv.F
open Go.Gv
variable {β:Type}
end Go.Gv.F
