/- States: in memory; which ones may be; small functions over them. -/
import Derived.Test.YtegglibipjjblaaGreatDoorGvZPe
import Derived.Test.YtegglibipjjblaaGreatDoorGvZPa
import Derived.Test.YtegglibipjjblaaGreatDoorGvZBod
namespace Go.Gv.F
open Go.Gv
structure bm where
 slot:Int
 gen:Int
 key:Int
 value:Int
structure cN where
 name:List UInt8
 aN:List bm
structure cT where
 blocks:Int
 cu:Int
 g:Int
 aB:List cN
 gens:List Int
 free:List Int
def fN (e:bm):List DV:=[.int .i64 e.slot,.int .i64 e.gen,.int .i64 e.key,.int .i64 e.value]
def bP (l:List bm):List DV:=(l.map fN).flatten
theorem ZB (l:List bm):(bP l).length=l.length*4:=by
 unfold bP;induction l with
 |nil=>rfl
 |cons e l ih=>rw[gM,mo,bg,ih,dF];show 4+_=_;omega
theorem OP: ∀ {l:List bm} {j:Nat} {e:bm},l[j]? =some e->((bP l).drop (j*4)).take 4=fN e
 |[],j,e,h=>by simp at h
 |x::l,0,e,h=>by
  simp only[gV,cX]at h;subst h;rw[nf,dE];rfl
 |x::l,j+1,e,h=>by
  have e2:bP (x::l)=fN x++bP l:=rfl;rw[e2,show(j+1)*4=(fN x).length+j*4 by show _=4+_;omega,<-iK,qm];exact OP (by simpa using h)
theorem Pb (l m:List bm):bP (l++m)=bP l++bP m:=by
 unfold bP;rw[dL,vR]
def lG (h:cN) (z:Nat) (p:Option (Nat×Nat)):List DV:=[.str h.name,.slice z p h.aN.length]
def iz (s:St):List DV->List cN->Prop
 |ds,[]=>ds=[]
 |ds,x::r=>∃z p t,(z=4\/p=none)/\ds=lG x z p++t/\Sl s p (bP x.aN)/\iz s t r
theorem sY (x:cN) (z:Nat) (p:Option (Nat×Nat)):(lG x z p).length=2:=rfl
theorem Z5 {β:Type} (sz z:Nat) (a:Option (Nat×Nat)) (n:Nat) (h:z=sz\/a=none) (K:Option (Nat×Nat)->Nat->M β):D.slice sz (.slice z a n) K=K a n:=by
 rcases h with rfl|rfl
 ·exact jJ _ _ _ _
 ·exact Ue _ _ _ _
theorem iz.len {s:St} : ∀ {ds:List DV} {xs:List cN},iz s ds xs->ds.length=xs.length*2
 |ds,[],h=>by rw[show ds=[]from h];rfl
 |ds,x::r,⟨z,p,t,_,h1,_,h3⟩=>by rw[h1,bg,h3.len,sY,dF];omega
theorem iz.mono {s s':St} (k:ar s s'): ∀ {ds:List DV} {xs:List cN},iz s ds xs->iz s' ds xs
 |_,[],h=>h
 |_,_::_,⟨z,p,t,hz,h1,h2,h3⟩=>⟨z,p,t,hz,h1,h2.mono k,h3.mono k⟩
theorem iz.get {s:St} : ∀ {ds:List DV} {xs:List cN},iz s ds xs->∀ {j:Nat} {x:cN},xs[j]? =some x->∃z p,(z=4\/p=none)/\(ds.drop (j*2)).take 2=lG x z p/\ds[j*2]? =some (.str x.name)/\ds[j*2+1]? =some (.slice z p x.aN.length)/\Sl s p (bP x.aN)
 |_,[],_,j,x,e=>by simp at e
 |ds,y::r,⟨zq,q,t,Ez,h1,h2,h3⟩,0,x,e=>by
  simp only[gV,cX]at e;subst e;subst h1;exact⟨zq,q,Ez,rfl,rfl,rfl,h2⟩
 |ds,y::r,⟨zq,q,t,Ez,h1,h2,h3⟩,j+1,x,e=>by
  obtain⟨z,p,hz,g1,g2,g3,g4⟩:=h3.get (j:=j) (x:=x) (by simpa using e);refine⟨z,p,hz,?_,?_,?_,g4⟩
  ·rw[h1,show(j+1)*2=(lG y zq q).length+j*2 by rw[sY];omega,<-iK,qm]
   exact g1
  ·rw[h1,gU (by rw[sY];omega),sY,show(j+1)*2-2=j*2 by omega]
   exact g2
  ·rw[h1,gU (by rw[sY];omega),sY,show(j+1)*2+1-2=j*2+1 by omega]
   exact g3
def dA (x:cT) (z1:Nat) (p1:Option (Nat×Nat)) (z2:Nat) (p2:Option (Nat×Nat)) (z3:Nat) (p3:Option (Nat×Nat)):List DV:=
 [.int .i64 x.blocks,.int .i64 x.cu,.int .i64 x.g,.slice z1 p1 x.aB.length,.slice z2 p2 x.gens.length,.slice z3 p3 x.free.length]
structure oq (s:St) (x:cT) (p1 p2 p3:Option (Nat×Nat)):Prop where
 hp: ∃ds,Sl s p1 ds/\iz s ds x.aB
 gn:Sl s p2 (ints x.gens)
 fr:Sl s p3 (ints x.free)
theorem oq.pre {s s':St} {x:cT} {p1 p2 p3:Option (Nat×Nat)} (h:oq s x p1 p2 p3) (k:ar s s'):oq s' x p1 p2 p3:=
 let ⟨ds,h1,h2⟩:=h.hp
 ⟨⟨ds,h1.mono k,h2.mono k⟩,h.gn.mono k,h.fr.mono k⟩
def mj (b s g:Int):Bool:=decide (b>=16)&&(decide (b<=3072)&&(decide (s>=1)&&(decide (s<=1792)&&(decide (g>=1)&&decide (g<=4294967295)))))
def iA (a b:bm):Bool:=if a.key≠b.key then decide (a.key<b.key)else if a.slot≠b.slot then decide (a.slot<b.slot)else decide (a.gen<b.gen)
def AF (l:List bm):Prop:=∀i a b,l[i]? =some a->l[i+1]? =some b->iA a b=true
def Pr (l:List cN):Prop:=∀i a b,l[i]? =some a->l[i+1]? =some b->cmpL (cL a.name) (cL b.name)<0
def Zo (x:cT):List bm:=(x.aB.map (·.aN)).flatten
def fO (x:cT) (k:Int):Int:=x.gens.getD k.toNat 0
structure jK (x:cT):Prop where
 yD:mj x.blocks x.cu x.g=true
 cu:(x.gens.length:Int)<=x.cu
 Dt:x.aB.length<=16
 right: ∀h∈x.aB,mG h.name=true/\AF h.aN
 order:Pr x.aB
 nodup:((Zo x).map (·.slot)++x.free).Nodup
 range: ∀k∈(Zo x).map (·.slot)++x.free,0<=k/\k<(x.gens.length:Int)
 gen: ∀e∈Zo x,fO x e.slot=e.gen
 low: ∀k∈x.free,fO x k<x.g
 gens: ∀v∈x.gens,1<=v/\v<=x.g
 rest: ∀i,i<x.gens.length->((i:Int)∉(Zo x).map (·.slot)++x.free)->x.g<=fO x i
theorem ZpK (b s g:Int) (st:St) (X:Zg->Nat->List DV->M (List DV)) (hX: ∀c n,X c n [.agg [.int .i64 b,.int .i64 s,.int .i64 g]] st=Ag c n [.agg [.int .i64 b,.int .i64 s,.int .i64 g]] st) (c:Zg) (n:Nat):
  X c n [.agg [.int .i64 b,.int .i64 s,.int .i64 g]] st=some (.val [.bool (mj b s g)],st):=by
 rw[hX];unfold Ag mj;simp only[bZ,al,ae];cases decide (b>=16)with
 |false=>simp only[Zc,cond_false,ai,ae];rfl
 |true=>
 cases decide (b<=3072)with
 |false=>simp only[Zc,cond_false,cond_true,ai,ae];rfl
 |true=>
 cases decide (s>=1)with
 |false=>simp only[Zc,cond_false,cond_true,ai,ae];rfl
 |true=>
 cases decide (s<=1792)with
 |false=>simp only[Zc,cond_false,cond_true,ai,ae];rfl
 |true=>
 cases decide (g>=1)with
 |false=>simp only[Zc,cond_false,cond_true,ai,ae];rfl
 |true=>
  simp only[Zc,cond_true,ai,ae];rfl
theorem ZlH {Bd:Za} (h:HZ Bd) (n:Nat) (b s g:Int) (st:St):run Bd (n+1) 145 [.agg [.int .i64 b,.int .i64 s,.int .i64 g]] st=some (.val [.bool (mj b s g)],st):=by
 rw[Zf,h.eq];exact ZpK b s g st Ag (fun _ _=>rfl) _ _
theorem ZkK {Bd:Za} (h:G9 Bd) (n:Nat) (b s g:Int) (st:St):run Bd (n+1) 141 [.agg [.int .i64 b,.int .i64 s,.int .i64 g]] st=some (.val [.bool (mj b s g)],st):=by
 rw[Zf,h.eq];exact ZpK b s g st GF (fun _ _=>rfl) _ _
theorem Zq9 {Bd:Za} (h:Nv Bd) (n:Nat) (a b:bm) (st:St):run Bd (n+1) 155 [.agg (fN a),.agg (fN b)] st=some (.val [.bool (iA a b)],st):=by
 rw[Zf,h.eq];unfold G7 fN iA;simp only[bZ,al,ae];by_cases h1:a.key=b.key
 ·have e1:(a.key==b.key)=true:=by rw[h1];exact gN _
  rw[e1,bx,cond_false,ax (by simp[h1])];by_cases h2:a.slot=b.slot
  ·have e2:(a.slot==b.slot)=true:=by rw[h2];exact gN _
   rw[e2,bx,cond_false,ax (by simp[h2])];rfl
  ·have e2:(a.slot==b.slot)=false:=cx.2 h2
   rw[e2,bD,cond_true,aG h2];rfl
 ·have e1:(a.key==b.key)=false:=cx.2 h1
  rw[e1,bD,cond_true,aG h1];rfl
def fp (x y:Int):Int:=if x<y then-1 else if x>y then 1 else 0
theorem Oy {Bd:Za} (h:FU Bd) (n:Nat) (x y:Int) (st:St):run Bd (n+2) 161 [.int .i64 x,.int .i64 y] st=some (.val [.int .i64 (fp x y)],st):=by
 have e: ∀z:Int,run Bd (n+1) 163 [.int .i64 z] st=some (.val [.bool false],st):=by
  intro z;rw[Zf,h.q37.eq];unfold Co;simp only[al,ae,gN,bx,Ze]
 rw[Zf,h.eq];unfold Cp fp;simp only[al,ae];rw[Zi (e x)];simp only[ai,ae];rw[Zi (e y)];simp only[ai,ae,cond_false];by_cases h1:x<y
 ·rw[ah h1,cond_true,aG h1];rfl
 ·rw[ao h1,cond_false,ax h1]
  by_cases h2:x>y
  ·rw[ah h2,cond_true,aG h2];rfl
  ·rw[ao h2,cond_false,ax h2];rfl
theorem Uu {Bd:Za} (h:yd Bd) (n:Nat) (hn:8<=n) (a b:bm) (st:St):
  Ok (fun o=>∃z s',o=(.val [.int .i64 z],s')/\ar st s'/\decide (z>=0)= !iA a b) (run Bd n 159 [.agg (fN a),.agg (fN b)] st):=by
 obtain⟨n,rfl⟩: ∃m,n=m+3:=⟨n-3,by omega⟩;rw[Zf,h.eq];unfold Cj fN;simp only[bZ,al,ae];rw[AH (Oy h.Tv n a.key b.key st)];simp only[al,ae];rw[AH (Oy h.Tv n a.slot b.slot st)];simp only[al,ae];rw[Zi (Oy h.Tv n a.gen b.gen st)];simp only[al,ae];rw[Zw];have hp:=ar.new st (some ⟨false,[DV.int .i64 (fp a.key b.key),.int .i64 (fp a.slot b.slot),.int .i64 (fp a.gen b.gen)]⟩);have hs:Sl (st++[some ⟨false,[DV.int .i64 (fp a.key b.key),.int .i64 (fp a.slot b.slot),.int .i64 (fp a.gen b.gen)]⟩]) (some (st.length,0)) [DV.int .i64 (fp a.key b.key),.int .i64 (fp a.slot b.slot),.int .i64 (fp a.gen b.gen)]:=Dc st _;generalize (st++[some ⟨false,[DV.int .i64 (fp a.key b.key),.int .i64 (fp a.slot b.slot),.int .i64 (fp a.gen b.gen)]⟩])=s1 at hp hs;have hor:run Bd (n+2) 162 [.slice 1 (some (st.length,0)) 3] s1=some (.val [.int .i64 (if fp a.key b.key≠0 then fp a.key b.key else if fp a.slot b.slot≠0 then fp a.slot b.slot else fp a.gen b.gen)],s1):=by
  rw[Zf,h.q85.eq];unfold Ct;obtain⟨n,rfl⟩: ∃m,n=m+5:=⟨n-5,by omega⟩;simp only[bh,ae];rw[Zc];have step: ∀(m i:Nat) (z:Int) (R:Option (Out (List DV)×St)),i<3->[DV.int .i64 (fp a.key b.key),.int .i64 (fp a.slot b.slot),.int .i64 (fp a.gen b.gen)][i]? =some (.int .i64 z)->
    (z≠0->R=some (.val [.int .i64 z],s1))->∀(F:(List DV->M (List DV))->List DV->M (List DV)),True:=fun _ _ _ _ _ _ _ _=>trivial
  clear step;have ld: ∀(i:Nat) (d:DV) (K:DV->M (List DV)),[DV.int .i64 (fp a.key b.key),.int .i64 (fp a.slot b.slot),.int .i64 (fp a.gen b.gen)][i]? =some d->M.au st.length (i*1+0) K s1=K d s1:=fun i d K hd=>hs.cP hd K
  rw[wm];simp only[al,ae];rw[show decide ((0:Int)<((3:Nat):Int))=true from rfl,cond_true,aV,Zd (by rfl)];rw[show(0:Int).toNat=0 from rfl,ld 0 _ _ rfl];simp only[aM];by_cases c1:fp a.key b.key=0
  ·have e1:(fp a.key b.key==0)=true:=by rw[c1];rfl
   rw[e1,bx,cond_false,ax (by simp[c1]),wm];simp only[al,ae];rw[show af ((0:Int)+1)=1 from Zb (by omega) (by omega),show decide ((1:Int)<((3:Nat):Int))=true from rfl,cond_true,aV,Zd (by rfl)];rw[show(1:Int).toNat=1 from rfl,ld 1 _ _ rfl];simp only[aM];by_cases c2:fp a.slot b.slot=0
   ·have e2:(fp a.slot b.slot==0)=true:=by rw[c2];rfl
    rw[e2,bx,cond_false,ax (by simp[c2]),wm];simp only[al,ae];rw[show af ((1:Int)+1)=2 from Zb (by omega) (by omega),show decide ((2:Int)<((3:Nat):Int))=true from rfl,cond_true,aV,Zd (by rfl)];rw[show(2:Int).toNat=2 from rfl,ld 2 _ _ rfl];simp only[aM];by_cases c3:fp a.gen b.gen=0
    ·have e3:(fp a.gen b.gen==0)=true:=by rw[c3];rfl
     rw[e3,bx,cond_false,wm];simp only[al,ae];rw[show af ((2:Int)+1)=3 from Zb (by omega) (by omega),show decide ((3:Int)<((3:Nat):Int))=false from rfl,cond_false,c3];rfl
    ·have e3:(fp a.gen b.gen==0)=false:=cx.2 c3
     rw[e3,bD,cond_true];rfl
   ·have e2:(fp a.slot b.slot==0)=false:=cx.2 c2
    rw[e2,bD,cond_true,aG c2];rfl
  ·have e1:(fp a.key b.key==0)=false:=cx.2 c1
   rw[e1,bD,cond_true,aG c1];rfl
 rw[Zi hor];simp only[al,ae,Ze];refine .mk ⟨_,s1,rfl,hp,?_⟩;unfold iA fp;rw[jY];by_cases h1:a.key<b.key
 ·simp[h1,show ¬a.key=b.key by omega]
 ·by_cases h2:a.key>b.key
  ·simp[h1,h2,show ¬a.key=b.key by omega]
  ·have hk:a.key=b.key:=by omega
   by_cases h3:a.slot<b.slot
   ·simp[hk,h3,show ¬a.slot=b.slot by omega]
   ·by_cases h4:a.slot>b.slot
    ·simp[hk,h3,h4,show ¬a.slot=b.slot by omega]
    ·have gY:a.slot=b.slot:=by omega
     by_cases h5:a.gen<b.gen
     ·simp[hk,gY,h5]
     ·by_cases h6:a.gen>b.gen
      ·simp[hk,gY,h5,h6]
      ·simp[hk,gY,h5,h6]
theorem H4 {Bd:Za} (h:Cx Bd) (n z:Nat) (l:List Int) (k:Int) (p:Option (Nat×Nat)) (st:St) (hz:z=1\/p=none) (hs:Sl st p (ints l)) (hn:l.length+3<=n) (hl:l.length<1000000):
  Ok (fun o=>o=(.val [.bool (decide (k∈l))],st)) (run Bd n 143 [.slice z p l.length,.int .i64 k] st):=by
 obtain⟨n,rfl⟩: ∃m,n=m+1:=⟨n-1,by omega⟩;rw[Zf,h.eq];unfold HW;simp only[Zm 1 z p _ hz,al,ae];rw[Zc];refine Zl _ (fun q x s=>∃i:Nat,x=[.int .i64 i]/\i<=l.length/\l.length-i<=q/\s=st/\k∉l.take i) ?_ l.length n _ _ ⟨0,rfl,bH _,by omega,rfl,by simp⟩ (by omega);rintro q _ s ⟨i,rfl,hi,hq,rfl,bz⟩ rec aD;simp only[al,ae];by_cases aj:i<l.length
 ·have e:decide ((i:Int)<(l.length:Int))=true:=ah (by omega)
  obtain⟨p1,o1,rfl⟩:=hs.ck (by simp[ints];omega);rw[e,cond_true,aV,Zd (Zk aj),aX,hs.cP (d:= .int .i64 l[i]) (by simp[ints,aj])];simp only[aM];by_cases hk:l[i]=k
  ·have e2:(l[i]==k)=true:=by rw[hk];exact gN _
   rw[e2,cond_true,Ze,ah (by rw[<-hk];exact fK aj)];exact .mk rfl
  ·have e2:(l[i]==k)=false:=cx.2 hk
   rw[e2,cond_false,Zb (by omega) (by omega)];refine aD (l.length-(i+1)) _ _ (by omega) ⟨i+1,rfl,by omega,by omega,rfl,?_⟩;rw[jG aj];intro hm;rcases cW.1 hm with h|h
   ·exact bz h
   ·exact hk (bK.1 h).symm
 ·have e:decide ((i:Int)<(l.length:Int))=false:=ao (by omega)
  rw[e,cond_false,Ze];rw[cA (by omega)]at bz;rw[ao bz];exact .mk rfl
end Go.Gv.F
namespace Go.Gv.F
open Go.Gv
variable {β:Type}
theorem CN {s:St} {i o j:Nat} {ds:List DV} {xs:List cN} {x:cN} (hs:Sl s (some (i,o)) ds) (hh:iz s ds xs) (e:xs[j]? =some x) (K:DV->M β):M.au i (j*2+o) K s=K (.str x.name) s:=by
 obtain⟨_,p,_,_,g2,_,_⟩:=hh.get e;exact hs.get g2 K
theorem OR {s:St} {i o j:Nat} {ds:List DV} {xs:List cN} {x:cN} (hs:Sl s (some (i,o)) ds) (hh:iz s ds xs) (e:xs[j]? =some x): ∃p,Sl s p (bP x.aN)/\∀K:Option (Nat×Nat)->Nat->M β,M.au i (j*2+o+1) (fun d=>D.slice 4 d K) s=K p x.aN.length s:=by
 obtain⟨z,p,hz,_,_,g3,g4⟩:=hh.get e;refine⟨p,g4,fun K=>?_⟩;have e2:j*2+o+1=(j*2+1)+o:=by omega
 rw[e2,hs.get g3,Z5 4 z p _ hz]
theorem CV {s:St} {i o k:Nat} {l:List bm} {x:bm} (hs:Sl s (some (i,o)) (bP l)) (e:l[k]? =some x) (K:List DV->M β):M.load i (k*4+o) 4 K s=K (fN x) s:=by
 have hk:k<l.length:=(cd.1 e).1;rw[hs.Kb (k:=k*4) (n:=4) (by rw[ZB];omega) K,OP e]
theorem Zze {s:St} {i o k:Nat} {l:List bm} {x:bm} (hs:Sl s (some (i,o)) (bP l)) (e:l[k]? =some x) (K:List DV->M β):M.load i (k*4+o) 2 K s=K [.int .i64 x.slot,.int .i64 x.gen] s:=by
 have hk:k<l.length:=(cd.1 e).1;rw[hs.Kb (k:=k*4) (n:=2) (by rw[ZB];omega) K];have:=congrArg (List.take 2) (OP e);rw[B4]at this;rw[show((bP l).drop (k*4)).take 2=[.int .i64 x.slot,.int .i64 x.gen]from this]
def JE (l:List cN):Prop:=l.length<=16/\(∀h∈l,mG h.name=true/\AF h.aN)/\Pr l
def AQ (l:List cN) (i:Nat) (h:cN):Prop:=mG h.name=true/\∀g,0<i->l[i-1]? =some g->cmpL (cL g.name) (cL h.name)<0
theorem Zv3 (l:List cN) (hl:l.length<=16):JE l↔ ∀i h,l[i]? =some h->AQ l i h/\AF h.aN:=by
 constructor
 ·intro ⟨_,h1,h2⟩ i h e
  refine⟨⟨(h1 h (lh e)).1,fun g hi eg=>h2 (i-1) g h eg ?_⟩,(h1 h (lh e)).2⟩;rw[show i-1+1=i by omega];exact e
 ·intro h
  refine⟨hl,fun x hx=>?_,fun i a b ea eb=>?_⟩
  ·obtain⟨i,hi,rfl⟩:=BZ hx
   have:=h i _ (ba hi);exact⟨this.1.1,this.2⟩
  ·exact(h (i+1) b eb).1.2 a (by omega) (by rw[show i+1-1=i by omega];exact ea)
theorem Zt9 (l:List bm):AF l↔ ∀k a b,1<=k->l[k-1]? =some a->l[k]? =some b->iA a b=true:=by
 constructor
 ·intro h k a b hk ha hb
  exact h (k-1) a b ha (by rw[show k-1+1=k by omega];exact hb)
 ·intro h i a b ha hb
  exact h (i+1) a b (by omega) (by rw[show i+1-1=i by omega];exact ha) hb
structure L9 (l:List cN):Prop where
 len:l.length<=50000
 aN: ∀h∈l,h.aN.length<=50000
 name: ∀h∈l,h.name.length<=50000
theorem ZrM {Bd:Za} (h:M2 Bd) (n z:Nat) (l:List cN) (p:Option (Nat×Nat)) (ds:List DV) (st:St) (hz:z=2\/p=none) (hs:Sl st p ds) (hh:iz st ds l) (sz:L9 l) (hn:50100<=n):
  Ok (fun o=>∃b s',o=(.val [.bool b],s')/\ar st s'/\(b=true↔JE l)) (run Bd n 144 [.slice z p l.length] st):=by
 obtain⟨n,rfl⟩: ∃m,n=m+1:=⟨n-1,by omega⟩;rw[Zf,h.eq];unfold GO;simp only[Zm 2 z p _ hz,ae];by_cases nE:l.length>16
 ·rw[ah (show(l.length:Int)>16 by omega),cond_true,Ze]
  exact .mk ⟨false,st,rfl,.refl _,by unfold JE;simp;omega⟩
 rw[ao (show ¬(l.length:Int)>16 by omega),cond_false,Zc];have nE:l.length<=16:=by omega
 have dQ:=Zv3 l nE;refine Zl _ (fun q x s=>∃i:Nat,x=[.int .i64 i]/\i<=l.length/\l.length-i<=q/\ar st s/\∀j h,j<i->l[j]? =some h->AQ l j h/\AF h.aN) ?_ l.length n _ _ ⟨0,rfl,bH _,by omega,.refl _,fun j h hj=>absurd hj (uu j)⟩ (by omega);rintro q _ s ⟨i,rfl,hi,hq,hp,UM⟩ rec aD;simp only[al,ae];by_cases aj:i<l.length;rotate_left
 ·rw[ao (show ¬(i:Int)<(l.length:Int) by omega),cond_false,Ze]
  refine .mk ⟨true,s,rfl,hp,?_⟩;simp only[true_iff];rw[dQ];intro j x e;exact UM j x (by have:=(cd.1 e).1;omega) e
 rw[ah (show(i:Int)<(l.length:Int) by omega),cond_true];obtain⟨i1,o1,rfl⟩:=hs.ck (by rw[hh.len];omega);obtain⟨x,hx⟩: ∃x,l[i]? =some x:=⟨_,ba aj⟩;have Ew:=lh hx;have Lm:=sz.aN x Ew;have hxn:=sz.name x Ew;rw[Zc,aV,Zd (Zk aj),aX,CN (hs.mono hp) (hh.mono hp) hx];simp only[z8];refine Ok.call (Zq7 h.q73 n x.name (by omega) (by omega) s) ?_;rintro _ ⟨s1,rfl,aI⟩;refine⟨_,s1,rfl,?_⟩;simp only[ai,ae];refine Zyh (fun y s=>∃b:Bool,y=[.bool b]/\ar st s/\(b=false↔AQ l i x)) ?_ ?_
 ·rintro _ s2 ⟨b,rfl,bd,hb⟩
  simp only[ai,ae];cases b with
  |true=>
   rw[cond_true,Ze];refine .mk ⟨false,s2,rfl,bd,?_⟩;rw[dQ];simp only[oe,false_iff];intro ca;exact absurd (hb.2 (ca i x hx).1) (by decide)
  |false=>
   have bz:=hb.1 rfl;rw[cond_false,Zc];refine Zl _ (fun q y s=>∃k:Nat,y=[.int .i64 k]/\1<=k/\x.aN.length+1-k<=q/\k<=x.aN.length+1/\ar st s/\∀m a b,1<=m->m<k->x.aN[m-1]? =some a->x.aN[m]? =some b->iA a b=true) ?_ x.aN.length n _ _ ⟨1,rfl,ay _,by omega,by omega,bd,fun m a b h1 h2=>by omega⟩ (by omega);rintro q' _ s3 ⟨k,rfl,ig,hkq,gX,cn,vt⟩ dO nO;simp only[al,ae];rw[aV,Zd (Zk aj),aX];obtain⟨pe,qZ,le⟩:=OR (β:=List DV) (hs.mono cn) (hh.mono cn) hx;rw[le];by_cases hk:k<x.aN.length
   ·rw[ah (show(k:Int)<(x.aN.length:Int) by omega),cond_true,aV,Zd (Zk aj),le]
    obtain⟨m,rfl⟩: ∃m,k=m+1:=⟨k-1,by omega⟩;obtain⟨pi,po,rfl⟩:=qZ.ck (by rw[ZB];omega);obtain⟨a,ha⟩: ∃a,x.aN[m]? =some a:=⟨_,ba (by omega)⟩;obtain⟨b,cz⟩: ∃b,x.aN[m+1]? =some b:=⟨_,ba hk⟩;rw[aV,Zb (by omega) (by omega),show(((m+1:Nat):Int)-1)=(m:Int) by omega,Zd (Zk (by omega)),aX,CV qZ ha];unfold fN;simp only[al,ae];rw[aV,Zd (Zk aj),le];rw[aV,Zd (Zk hk),CV qZ cz];unfold fN;simp only[al,ae];have pO:=Zq9 h.q76 (n-1) a b s3;rw[show n-1+1=n by omega]at pO;unfold fN at pO;rw[Zi pO];simp only[ai,ae];cases dc:iA a b with
    |false=>
     rw[bD,cond_true,Ze];refine .mk ⟨false,s3,rfl,cn,?_⟩;rw[dQ];simp only[oe,false_iff];intro ca;have:=(Zt9 _).1 (ca i x hx).2 (m+1) a b (by omega) (by rw[show m+1-1=m by omega];exact ha) cz;rw[dc]at this;cases this
    |true=>
     rw[bx,cond_false,Zb (by omega) (by omega)];refine nO (x.aN.length+1-(m+1+1)) _ _ (by omega) ⟨m+1+1,rfl,by omega,by omega,by omega,cn,?_⟩;intro m' a' b' h1 h2 wP eQ;by_cases hm:m'<m+1
     ·exact vt m' a' b' h1 hm wP eQ
     ·have:m'=m+1:=by omega
      subst this;rw[show m+1-1=m by omega]at wP;rw[ha]at wP;rw[cz]at eQ;cases wP;cases eQ;exact dc
   ·rw[ao (show ¬(k:Int)<(x.aN.length:Int) by omega),cond_false]
    rw[Zb (by omega) (by omega)];refine aD (l.length-(i+1)) _ _ (by omega) ⟨i+1,rfl,by omega,by omega,cn,?_⟩;intro j y hj ey;by_cases jf:j<i
    ·exact UM j y jf ey
    ·have:j=i:=by omega
     subst this;rw[hx]at ey;cases ey;refine⟨bz,(Zt9 _).2 fun m a b h1 ha cz=>vt m a b h1 ?_ ha cz⟩;have:=(cd.1 cz).1;omega
 ·intro jk rj
  cases hr:mG x.name with
  |false=>
   rw[bD,cond_true];refine rj _ _ ⟨true,rfl,hp.trans aI,?_⟩;unfold AQ;rw[hr];simp
  |true=>
   rw[bx,cond_false,Zc];by_cases h0:0<i
   ·obtain⟨m,rfl⟩: ∃m,i=m+1:=⟨i-1,by omega⟩
    rw[ah (show((m+1:Nat):Int)>0 by omega),cond_true];obtain⟨g,hg⟩: ∃g,l[m]? =some g:=⟨_,ba (by omega)⟩;have vj:=sz.name g (lh hg);have bd:=hp.trans aI;rw[aV,Zb (by omega) (by omega),show(((m+1:Nat):Int)-1)=(m:Int) by omega,Zd (Zk (by omega)),aX,CN (hs.mono bd) (hh.mono bd) hg];simp only[z8];rw[aV,Zd (Zk aj),CN (hs.mono bd) (hh.mono bd) hx];simp only[z8];refine Ok.call (ZoA h.q40 n g.name x.name (by omega) (by omega) (by omega) (by omega) s1) ?_;rintro _ ⟨s2,rfl,cn⟩;refine⟨_,s2,rfl,?_⟩;simp only[al,ai,ae];refine rj _ _ ⟨_,rfl,bd.trans cn,?_⟩;unfold AQ;rw[hr,show m+1-1=m by omega,hg];simp only[j3,true_and];constructor
    ·intro hc g' _ e
     cases e;omega
    ·intro hc
     have:=hc g (by omega) rfl;omega
   ·rw[ao (show ¬(i:Int)>0 by omega),cond_false]
    simp only[ai,ae];refine rj _ _ ⟨false,rfl,hp.trans aI,?_⟩;unfold AQ;rw[hr];simp only[true_and,true_iff];intro g hg;exact absurd hg h0
end Go.Gv.F
namespace Go.Gv.F
open Go.Gv
def mE (l:List cN):List bm:=(l.map (·.aN)).flatten
theorem OB (x:cT):Zo x=mE x.aB:=rfl
theorem Zv4 (l:List cN) {i:Nat} {h:cN} (e:l[i]? =some h):mE (l.take (i+1))=mE (l.take i)++h.aN:=by
 obtain⟨hi,rfl⟩:=cd.1 e;unfold mE;rw[jG hi,dL,vR,gM,List.map_nil,mo,List.flatten_nil,ez]
theorem Zzj (l:List cN) (i:Nat):(mE (l.take i)).length<=(mE l).length:=by
 have:mE l=mE (l.take i)++mE (l.drop i):=by
  unfold mE;rw[<-vR,<-dL,lj]
 rw[this,bg];omega
theorem ZoR {Bd:Za} (h:MR Bd) (n:Nat) (x:cT) (z1 z2 z3:Nat) (p1 p2 p3:Option (Nat×Nat)) (st:St) (jn:z1=2\/p1=none) (gZ:z2=1\/p2=none) (jR:z3=1\/p3=none) (hr:oq st x p1 p2 p3)
  (hl:x.aB.length<=50000) (he:(Zo x).length<=50000) (hn:50100<=n):
  Ok (fun o=>∃q s',o=(.val [.slice 4 q (Zo x).length],s')/\ar st s'/\Sl s' q (bP (Zo x))) (run Bd n 142 [.agg (dA x z1 p1 z2 p2 z3 p3)] st):=by
 obtain⟨n,rfl⟩: ∃m,n=m+1:=⟨n-1,by omega⟩;rw[Zf,h.eq];unfold Gj;have ag: ∀(l:List DV) (K:List DV->List DV->M (List DV)),J.a (.agg (dA x z1 p1 z2 p2 z3 p3)::l) K=K (dA x z1 p1 z2 p2 z3 p3) l:=fun _ _=>rfl
 rw[ag];unfold dA;simp only[al,Zm 2 z1 p1 _ jn,Zm 1 z2 p2 _ gZ,Zm 1 z3 p3 _ jR,ae];rw[ni,Zc];obtain⟨ds,hs,hh⟩:=hr.hp;rw[OB]at he;rw[OB];refine Zl _ (fun q y s=>∃(i z:Nat) (a:Option (Nat×Nat)),y=[.slice z a (mE (x.aB.take i)).length,.int .i64 i]/\(z=4\/a=none)/\i<=x.aB.length/\x.aB.length-i<=q/\aY st s a (bP (mE (x.aB.take i)))) ?_ x.aB.length n _ _ ⟨0,0,none,rfl,.inr rfl,bH _,by omega,aY.nil (.refl _)⟩ (by omega);rintro q _ s ⟨i,z,a,rfl,hz,hi,hq,ho⟩ rec aD;simp only[Zm 4 z a _ hz,al,ae];by_cases aj:i<x.aB.length
 ·rw[ah (show(i:Int)<(x.aB.length:Int) by omega),cond_true]
  obtain⟨i1,o1,rfl⟩:=hs.ck (by rw[hh.len];omega);obtain⟨g,hg⟩: ∃g,x.aB[i]? =some g:=⟨_,ba aj⟩;rw[aV,Zd (Zk aj),aX];obtain⟨pe,qZ,le⟩:=OR (β:=List DV) (hs.mono ho.1) (hh.mono ho.1) hg;rw[le];rw[<-ZB,qg qZ];have et:=Zv4 x.aB hg;have hle:=Zzj x.aB (i+1);rw[et,bg]at hle;rw[Zb (by omega) (by omega)];by_cases h0:0<g.aN.length
  ·obtain⟨q2,s2,g1,g2⟩:=ho.app (β:=List DV) (sz:=4) (n:=(mE (x.aB.take i)).length) (m:=g.aN.length) (lim:=2199023255552) (ds:=bP g.aN) (by omega) (ZB _) h0 (by omega)
   rw[g2];exact aD (x.aB.length-(i+1)) _ _ (by omega) ⟨i+1,4,q2,by rw[et,bg];rfl,.inl rfl,by omega,by omega,by rw[et,Pb];exact g1⟩
  ·have e0:g.aN=[]:=pd.1 (by omega)
   rw[e0]at et⊢;rw[show(bP []:List DV)=[]from rfl,show(([]:List bm).length)=0 from rfl,ZzW];rw[ez]at et;exact aD (x.aB.length-(i+1)) _ _ (by omega) ⟨i+1,4,a,by rw[et];rfl,.inl rfl,by omega,by omega,by rw[et];exact ho⟩
 ·rw[ao (show ¬(i:Int)<(x.aB.length:Int) by omega),cond_false]
  have:i=x.aB.length:=by omega
  subst this;rw[pj]at ho⊢;simp only[bh,ae,ZE];exact .mk ⟨a,_,rfl,ZH ho.1,ho.sl.jc _⟩
def lv (n:Nat) (D:List Int):List DV:=(List.range n).map fun(k:Nat)=>DV.bool (decide ((k:Int)∈D))
theorem Zzg (n:Nat) (D:List Int):(lv n D).length=n:=by simp[lv]
theorem ZBo {n:Nat} {D:List Int} {k:Int} (h:0<=k/\k<(n:Int)):(lv n D)[k.toNat]? =some (.bool (decide (k∈D))):=by
 obtain⟨m,rfl⟩: ∃m:Nat,k=(m:Int):=⟨k.toNat,by omega⟩;rw[aX];simp only[lv,gL];rw[og (by omega)];rfl
theorem ZBh {n:Nat} {D:List Int} {k:Int} (h:0<=k/\k<(n:Int)):bC (lv n D) (k.toNat*1) [.bool true]=lv n (D++[k]):=by
 obtain⟨m,rfl⟩: ∃m:Nat,k=(m:Int):=⟨k.toNat,by omega⟩;rw[aX,di,yl _ _ _ (by rw[Zzg];omega)];refine na fun j=>?_
 rw[List.getElem?_set];unfold lv;by_cases hj:j<n
 ·simp only[lS,Fv,gL,og hj,lX]
  by_cases hm:m=j
  ·subst hm
   rw[aG rfl,aG (by omega)];simp
  ·rw[ax hm]
   have e:((j:Int)∈D++[(m:Int)])↔((j:Int)∈D):=by
    rw[cW,bK];constructor
    ·rintro(h|h)
     ·exact h
     ·omega
    ·exact .inl
   simp only[e]
 ·rw[dT (show(List.map (fun k:Nat=>DV.bool (decide ((k:Int)∈D++[(m:Int)]))) (List.range n)).length<=j by simp;omega)]
  rw[ax (by omega),dT (by simp;omega)]
theorem ZBf (n:Nat):fD n [.bool false]=lv n []:=by
 unfold fD lv;refine na fun j=>?_
 have:(List.replicate n [DV.bool false]).flatten=List.replicate n (DV.bool false):=by
  induction n with
  |zero=>rfl
  |succ n ih=>rw[sM,sM,mo,ih];rfl
 rw[this];by_cases hj:j<n
 ·simp[hj]
 ·rw[dT (by simp;omega),dT (by simp;omega)]
theorem uD {k:Int} {n:Nat} (h:0<=k/\k<(n:Int)):av k n=true:=by unfold av;simp[h.1,h.2]
theorem Qd {x:cT} {k:Int} (h:0<=k/\k<(x.gens.length:Int)):(ints x.gens)[k.toNat]? =some (.int .i64 (fO x k)):=by
 unfold ints fO;have hk:k.toNat<x.gens.length:=by omega
 rw[gL,ba hk,bJ,ba hk];rfl
theorem EO: ∀(n:Nat) (l:List Int),l.Nodup->(∀k∈l,0<=k/\k<(n:Int))->l.length<=n
 |0,l,_,h=>by
  cases l with
  |nil=>exact ay _
  |cons k l=>have:=h k (jZ);omega
 |n+1,l,hd,h=>by
  have h1:=EO n (l.erase (n:Int)) (hd.erase _) (fun k hk=>by
   rw[hd.mem_erase_iff]at hk;have:=h k hk.2;have:=hk.1;omega)
  rw[List.length_erase]at h1;split at h1
  ·omega
  ·omega
structure Cg (x:cT):Prop where
 h:L9 x.aB
 e:(Zo x).length<=50000
 g:x.gens.length<=50000
 f:x.free.length<=50000
end Go.Gv.F
namespace Go.Gv.F
open Go.Gv
variable {β:Type}
theorem Qh {s:St} {i n:Nat} {D:List Int} {k:Int} (hs:s[i]? =some (some ⟨false,lv n D⟩)) (h:0<=k/\k<(n:Int)) (K:DV->M β):M.au i (k.toNat*1) K s=K (.bool (decide (k∈D))) s:=by
 rw[di];exact Zn hs (ZBo h) K
def ZX (l:List bm):List Int:=l.map (·.slot)
theorem ZxN (l:List bm) {i:Nat} (h:i<l.length):ZX (l.take (i+1))=ZX (l.take i)++[l[i].slot]:=by
 unfold ZX;rw[jG h,dL];rfl
theorem IL {l:List Int} {k:Int} :(l++[k]).Nodup↔l.Nodup/\k∉l:=by
 rw[hY];constructor
 ·rintro⟨h1,_,h3⟩
  exact⟨h1,fun hk=>h3 k hk k (bK.2 rfl) rfl⟩
 ·rintro⟨h1,h2⟩
  exact⟨h1,by simp,fun a ha b hb=>by rw[bK.1 hb];rintro rfl;exact h2 ha⟩
theorem Pc {l m:List Int} (h:(l++m).Nodup):l.Nodup:=(hY.1 h).1
theorem ZvS {x:cT} (h:jK x) (i:Nat):(ZX ((Zo x).take i)).Nodup:=by
 have h1:(ZX (Zo x)).Nodup:=Pc h.nodup;have e:ZX (Zo x)=ZX ((Zo x).take i)++ZX ((Zo x).drop i):=by
  unfold ZX;rw[<-dL,lj]
 rw[e]at h1;exact Pc h1
theorem Zxl {x:cT} (h:jK x):x.free.Nodup:=(hY.1 h.nodup).2.1
theorem Zu9 {Bd:Za} (h:NC Bd) (n:Nat) (x:cT) (z1 z2 z3:Nat) (p1 p2 p3:Option (Nat×Nat)) (st:St) (jn:z1=2\/p1=none) (gZ:z2=1\/p2=none) (jR:z3=1\/p3=none) (hr:oq st x p1 p2 p3)
  (sz:Cg x) (hn:50200<=n):
  Ok (fun o=>∃b s',o=(.val [.bool b],s')/\ar st s'/\(b=true↔jK x)) (run Bd n 133 [.agg (dA x z1 p1 z2 p2 z3 p3)] st):=by
 obtain⟨n,rfl⟩: ∃m,n=m+1:=⟨n-1,by omega⟩;rw[Zf,h.eq];unfold HK;have ag: ∀(l:List DV) (K:List DV->List DV->M (List DV)),J.a (.agg (dA x z1 p1 z2 p2 z3 p3)::l) K=K (dA x z1 p1 z2 p2 z3 p3) l:=fun _ _=>rfl
 rw[ag];unfold dA;simp only[al,Zm 2 z1 p1 _ jn,Zm 1 z2 p2 _ gZ,Zm 1 z3 p3 _ jR,ae];have hsg:=sz.g;have y8:=sz.f;have vw:=sz.e;have no: ∀s,ar st s->¬jK x->Ok (fun o=>∃b s',o=(.val [.bool b],s')/\ar st s'/\(b=true↔jK x)) ((M.ret [.bool false]:M (List DV)) s):=by
  intro s hp hm;rw[Ze];exact .mk ⟨false,s,rfl,hp,by simp[hm]⟩
 have vg:=ZkK h.TD (n-1) x.blocks x.cu x.g st;rw[show n-1+1=n by omega]at vg;rw[Zi vg];simp only[ai,ae];rw[Zc];cases hg:mj x.blocks x.cu x.g with
 |false=>
  rw[bD,cond_true];simp only[ai,ae];rw[Zc,cond_true];simp only[ai,ae];rw[cond_true];exact no st (.refl _) fun hm=>by have:=hm.yD;rw[hg]at this;cases this
 |true=>
 rw[bx,cond_false];simp only[ai,ae];rw[Zc];by_cases c1:(x.gens.length:Int)>x.cu
 ·rw[ah c1,cond_true]
  simp only[ai,ae];rw[cond_true];exact no st (.refl _) fun hm=>by have:=hm.cu;omega
 rw[ao c1,cond_false];obtain⟨ds,hs,hh⟩:=hr.hp;refine Ok.call (ZrM h.q81 n 2 x.aB p1 ds st (.inl rfl) hs hh sz.h (by omega)) ?_;rintro _ ⟨b,s1,rfl,aI,hb⟩;refine⟨_,s1,rfl,?_⟩;simp only[ai,ae];cases b with
 |false=>
  rw[bD,cond_true];exact no s1 aI fun hm=>by
   have:=hb.2 ⟨hm.Dt,hm.right,hm.order⟩;cases this
 |true=>
 have RQ:JE x.aB:=hb.1 rfl;rw[bx,cond_false];refine Ok.call (ZoR h.q43 n x 2 1 1 p1 p2 p3 s1 (.inl rfl) (.inl rfl) (.inl rfl) (hr.pre aI) sz.h.len sz.e (by omega)) ?_;rintro _ ⟨qe,s2,rfl,bd,hE⟩;refine⟨_,s2,rfl,?_⟩;simp only[bh,ae];have bd:=aI.trans bd;rw[Zc];by_cases c2:((Zo x).length:Int)>(x.gens.length:Int)
 ·rw[ah c2,cond_true]
  simp only[ai,ae];rw[cond_true];refine no s2 bd fun hm=>?_
  have:=EO x.gens.length _ hm.nodup hm.range;rw[bg,lS]at this;omega
 rw[ao c2,cond_false];simp only[ai,ae];by_cases c3:(x.free.length:Int)>(x.gens.length:Int)
 ·rw[ah c3,cond_true]
  refine no s2 bd fun hm=>?_
  have:=EO x.gens.length _ hm.nodup hm.range;rw[bg,lS]at this;omega
 rw[ao c3,cond_false];rw[Zd (by simp;omega),Zw,aX,ZBf];rw[Zc,Zc,Zc];have XC:=(hr.gn.mono bd);refine Zl _ (fun q y s=>∃i:Nat,y=[.int .i64 i]/\i<=(Zo x).length/\(Zo x).length-i<=q/\ar s2 s/\s[s2.length]? =some (some ⟨false,lv x.gens.length (ZX ((Zo x).take i))⟩)/\
   (ZX ((Zo x).take i)).Nodup/\∀e∈(Zo x).take i,(0<=e.slot/\e.slot<(x.gens.length:Int))/\fO x e.slot=e.gen) ?_ (Zo x).length n _ _ ⟨0,rfl,bH _,by omega,.new _ _,by simp[ZX],by simp[ZX],by simp⟩ (by omega)
 rintro q _ s ⟨i,rfl,hi,hq,hp,gE,cZ,ca⟩ rec aD;simp only[al,ae];by_cases aj:i<(Zo x).length
 ·rw[ah (show(i:Int)<((Zo x).length:Int) by omega),cond_true]
  obtain⟨ei,eo,rfl⟩:=hE.ck (by rw[ZB];omega);have he:(Zo x)[i]? =some (Zo x)[i]:=ba aj;have bB:=ZxN _ aj;have u7: ¬((0<=(Zo x)[i].slot/\(Zo x)[i].slot<(x.gens.length:Int))/\fO x (Zo x)[i].slot=(Zo x)[i].gen)->¬jK x:=fun bz hm=>
   bz ⟨hm.range _ (vS _ (dP.2 ⟨_,fK aj,rfl⟩)),hm.gen _ (fK aj)⟩
  have rl:(Zo x).take (i+1)=(Zo x).take i++[(Zo x)[i]]:=jG aj;generalize hee:(Zo x)[i]=e at he bB u7 rl;rw[aV,Zd (Zk aj),aX,Zze (hE.mono hp) he];simp only[al,ae];have K9:=bd.trans hp;rw[Zc];by_cases d1:e.slot<0
  ·rw[ah d1,cond_true]
   simp only[ai,ae];rw[Zc,cond_true];simp only[ai,ae];rw[Zc,cond_true];simp only[ai,ae];rw[cond_true];exact no s K9 (u7 (by omega))
  rw[ao d1,cond_false];simp only[ai,ae];rw[Zc];by_cases d2:e.slot>=(x.gens.length:Int)
  ·rw[ah d2,cond_true]
   simp only[ai,ae];rw[Zc,cond_true];simp only[ai,ae];rw[cond_true];exact no s K9 (u7 (by omega))
  rw[ao d2,cond_false];have fq:0<=e.slot/\e.slot<(x.gens.length:Int):=by omega
  rw[Zd (uD fq),Qh gE fq];simp only[vW,ai,ae];rw[Zc];by_cases d3:e.slot∈ZX ((Zo x).take i)
  ·rw[ah d3,cond_true]
   simp only[ai,ae];rw[cond_true];refine no s K9 fun hm=>?_
   have:=ZvS hm (i+1);rw[bB]at this;exact(IL.1 this).2 d3
  rw[ao d3,cond_false];obtain⟨gi,go,rfl⟩:=hr.gn.ck (by simp[ints];omega);rw[aV,Zd (uD fq),(XC.mono hp).cP (Qd fq)];simp only[aM,ai,ae];by_cases d4:fO x e.slot=e.gen
  ·rw[show(e.gen==fO x e.slot)=true by rw[d4];exact gN _,bx,cond_false,Zd (uD fq),Js gE (by rw[Zzg];simp;omega),ZBh fq]
   rw[Zb (by omega) (by omega)];refine aD ((Zo x).length-(i+1)) _ _ (by omega) ⟨i+1,rfl,by omega,by omega,uF hp (ay _) _,?_,?_,?_⟩
   ·rw[bB]
    exact Zt1 gE _
   ·rw[bB]
    exact IL.2 ⟨cZ,d3⟩
   ·intro e' nI
    rw[rl]at nI;rcases cW.1 nI with h|h
    ·exact ca e' h
    ·rw[bK.1 h]
     exact⟨fq,d4⟩
  ·rw[show(e.gen==fO x e.slot)=false from cx.2 (Ne.symm d4),bD,cond_true]
   exact no s K9 (u7 fun hh=>d4 hh.2)
 rw[ao (show ¬(i:Int)<((Zo x).length:Int) by omega),cond_false];have:i=(Zo x).length:=by omega
 subst this;rw[pj]at gE cZ ca;clear aD rec;have cn:=bd.trans hp;have fR:=hr.fr.mono cn;have vj:=hr.gn.mono cn;have yH: ∀k∈x.free,¬((0<=k/\k<(x.gens.length:Int))/\k∉ZX (Zo x)/\fO x k<x.g)->¬jK x:=fun k hk bz hm=>
  bz ⟨hm.range _ (zU _ hk),fun gX=>(hY.1 hm.nodup).2.2 k gX k hk rfl,hm.low k hk⟩
 refine Zl _ (fun q y s'=>∃i:Nat,y=[.int .i64 i]/\i<=x.free.length/\x.free.length-i<=q/\s'=s/\(x.free.take i).Nodup/\∀k∈x.free.take i,(0<=k/\k<(x.gens.length:Int))/\k∉ZX (Zo x)/\fO x k<x.g) ?_ x.free.length n _ _
  ⟨0,rfl,bH _,by omega,rfl,by simp,by simp⟩ (by omega)
 rintro q' _ s' ⟨i,rfl,wY,xj,rfl,Sg,DC⟩ rec aD;simp only[al,ae];by_cases aj:i<x.free.length
 ·rw[ah (show(i:Int)<(x.free.length:Int) by omega),cond_true]
  obtain⟨fi,fo,rfl⟩:=hr.fr.ck (by simp[ints];omega);rw[aV,Zd (Zk aj),aX,fR.cP (d:= .int .i64 x.free[i]) (by simp[ints,aj])];simp only[aM];have yH:=yH _ (fK aj);have rl:x.free.take (i+1)=x.free.take i++[x.free[i]]:=jG aj;generalize x.free[i]=k at yH rl;rw[Zc];by_cases d1:k<0
  ·rw[ah d1,cond_true]
   simp only[ai,ae];rw[Zc,cond_true];simp only[ai,ae];rw[Zc,cond_true];simp only[ai,ae];rw[Zc,cond_true];simp only[ai,ae];rw[cond_true];exact no s' cn (yH (by omega))
  rw[ao d1,cond_false];simp only[ai,ae];rw[Zc];by_cases d2:k>=(x.gens.length:Int)
  ·rw[ah d2,cond_true]
   simp only[ai,ae];rw[Zc,cond_true];simp only[ai,ae];rw[Zc,cond_true];simp only[ai,ae];rw[cond_true];exact no s' cn (yH (by omega))
  rw[ao d2,cond_false];have fq:0<=k/\k<(x.gens.length:Int):=by omega
  rw[Zd (uD fq),Qh gE fq];simp only[vW,ai,ae];rw[Zc];by_cases d3:k∈ZX (Zo x)
  ·rw[ah d3,cond_true]
   simp only[ai,ae];rw[Zc,cond_true];simp only[ai,ae];rw[cond_true];exact no s' cn (yH fun hh=>hh.2.1 d3)
  rw[ao d3,cond_false];obtain⟨gi,go,rfl⟩:=hr.gn.ck (by simp[ints];omega);rw[aV,Zd (uD fq),vj.cP (Qd fq)];simp only[aM,ai,ae];rw[Zc];by_cases d4:fO x k>=x.g
  ·rw[ah d4,cond_true]
   simp only[ai,ae];rw[cond_true];exact no s' cn (yH fun hh=>by have:=hh.2.2;omega)
  rw[ao d4,cond_false,Zd (by simp;omega)];have sq:Sl s' (some (fi,fo)) (ints (x.free.take i)):=by
   obtain⟨f,all,h1,h2,h3⟩:=fR;have ri:(ints (x.free.take i)).length=i:=by simp[ints];omega
   have eC:(ints x.free).length=x.free.length:=by simp[ints]
   refine⟨f,all,h1,by omega,?_⟩;have:=congrArg (List.take i) h3;rw[B4,eC,j1 (by omega)]at this;rw[ri,this];unfold ints;rw[List.map_take]
  have hlen:(x.free.take i).length=i:=by simp;omega
  have U0:=H4 h.BO n 1 (x.free.take i) k (some (fi,fo)) s' (.inl rfl) sq (by omega) (by omega);rw[hlen]at U0;refine Ok.call U0 ?_;rintro _ rfl;refine⟨_,s',rfl,?_⟩;simp only[ai,ae];by_cases d5:k∈x.free.take i
  ·rw[ah d5,cond_true]
   refine no s' cn fun hm=>?_
   have:=Zxl hm;rw[<-lj (i+1) x.free]at this;have:=Pc this;rw[rl]at this;exact(IL.1 this).2 d5
  ·rw[ao d5,cond_false,Zb (by omega) (by omega)]
   refine aD (x.free.length-(i+1)) _ _ (by omega) ⟨i+1,rfl,by omega,by omega,rfl,?_,?_⟩
   ·rw[rl]
    exact IL.2 ⟨Sg,d5⟩
   ·intro k' tJ
    rw[rl]at tJ;rcases cW.1 tJ with h|h
    ·exact DC k' h
    ·rw[bK.1 h]
     exact⟨fq,d3,by omega⟩
 rw[ao (show ¬(i:Int)<(x.free.length:Int) by omega),cond_false];have:i=x.free.length:=by omega
 subst this;rw[pj]at Sg DC;clear aD rec;have DE: ∀i:Nat,i<x.gens.length->¬(1<=fO x i/\fO x i<=x.g/\((i:Int)∉ZX (Zo x)->fO x i<x.g->(i:Int)∈x.free))->¬jK x:=by
  intro i hi bz hm;have hv:fO x (i:Int)∈x.gens:=by
   unfold fO;rw[aX,bJ,ba hi];exact fK hi
  refine bz ⟨(hm.gens _ hv).1,(hm.gens _ hv).2,fun h1 h2=>?_⟩;refine Classical.byContradiction fun h3=>?_
  have:=hm.rest i hi (fun h4=>by
   rcases cW.1 h4 with h|h
   ·exact h1 h
   ·exact h3 h)
  omega
 refine Zl _ (fun q y oT=>∃i:Nat,y=[.int .i64 i]/\i<=x.gens.length/\x.gens.length-i<=q/\oT=s'/\∀j:Nat,j<i->1<=fO x j/\fO x j<=x.g/\((j:Int)∉ZX (Zo x)->fO x j<x.g->(j:Int)∈x.free)) ?_ x.gens.length n _ _
  ⟨0,rfl,bH _,by omega,rfl,fun j hj=>absurd hj (uu j)⟩ (by omega)
 rintro q'' _ oT ⟨i,rfl,abe,abu,rfl,Rm⟩ rec aD;simp only[al,ae];by_cases aj:i<x.gens.length
 ·rw[ah (show(i:Int)<(x.gens.length:Int) by omega),cond_true]
  obtain⟨gi,go,rfl⟩:=hr.gn.ck (by simp[ints];omega);have fq:0<=(i:Int)/\(i:Int)<(x.gens.length:Int):=by omega
  have DE:=DE i aj;have ld: ∀K:DV->M (List DV),M.au gi ((i:Int).toNat*1+go) K oT=K (.int .i64 (fO x i)) oT:=fun K=>vj.cP (Qd fq) K
  rw[aV,Zd (uD fq),ld];simp only[aM];rw[Zc];by_cases d1:fO x i<1
  ·rw[ah d1,cond_true]
   simp only[ai,ae];rw[Zc,cond_true];simp only[ai,ae];rw[cond_true];exact no oT cn (DE (by omega))
  rw[ao d1,cond_false,aV,Zd (uD fq),ld];simp only[aM,ai,ae];rw[Zc];by_cases d2:fO x i>x.g
  ·rw[ah d2,cond_true]
   simp only[ai,ae];rw[cond_true];exact no oT cn (DE (by omega))
  rw[ao d2,cond_false,Zd (uD fq),Qh gE fq];simp only[vW];have QW:(1<=fO x i/\fO x i<=x.g/\((i:Int)∉ZX (Zo x)->fO x i<x.g->(i:Int)∈x.free))->Ok (fun o=>∃b s',o=(.val [.bool b],s')/\ar st s'/\(b=true↔jK x)) (rec [.int .i64 (af ((i:Int)+1))] oT):=by
   intro XE;rw[Zb (by omega) (by omega)];refine aD (x.gens.length-(i+1)) _ _ (by omega) ⟨i+1,rfl,by omega,by omega,rfl,fun j hj=>?_⟩;by_cases jf:j<i
   ·exact Rm j jf
   ·have:j=i:=by omega
    subst this;exact XE
  rw[Zc];by_cases d3:(i:Int)∈ZX (Zo x)
  ·rw[ah d3,bx,cond_false]
   simp only[ai,ae];rw[Zc,cond_false];simp only[ai,ae];rw[cond_false];exact QW ⟨by omega,by omega,fun h=>absurd d3 h⟩
  rw[ao d3,bD,cond_true,aV,Zd (uD fq),ld];simp only[aM,ai,ae];rw[Zc];by_cases d4:fO x i<x.g
  ·rw[ah d4,cond_true]
   refine Ok.call (H4 h.BO n 1 x.free i p3 oT (.inl rfl) fR (by omega) (by omega)) ?_;rintro _ rfl;refine⟨_,oT,rfl,?_⟩;simp only[ai,ae];by_cases d5:(i:Int)∈x.free
   ·rw[ah d5,bx,cond_false]
    exact QW ⟨by omega,by omega,fun _ _=>d5⟩
   ·rw[ao d5,bD,cond_true]
    exact no oT cn (DE fun hh=>d5 (hh.2.2 d3 d4))
  ·rw[ao d4,cond_false]
   simp only[ai,ae];rw[cond_false];exact QW ⟨by omega,by omega,fun _ h=>absurd h d4⟩
 rw[ao (show ¬(i:Int)<(x.gens.length:Int) by omega),cond_false,Ze];have:i=x.gens.length:=by omega
 subst this;refine .mk ⟨true,oT,rfl,cn,?_⟩;simp only[true_iff];exact {
  yD:=hg
  cu:=by omega
  Dt:=RQ.1
  right:=RQ.2.1
  order:=RQ.2.2
  nodup:=hY.2 ⟨cZ,Sg,fun a ha b hb=>by rintro rfl;exact(DC a hb).2.1 ha⟩
  range:=fun k hk=>by
   rcases cW.1 hk with h|h
   ·obtain⟨e,he,rfl⟩:=dP.1 h
    exact(ca e he).1
   ·exact(DC k h).1
  gen:=fun e he=>(ca e he).2
  low:=fun k hk=>(DC k hk).2.2
  gens:=fun v hv=>by
   obtain⟨i,hi,rfl⟩:=BZ hv;have:=Rm i hi;unfold fO at this;rw[aX,bJ,ba hi]at this;exact⟨this.1,this.2.1⟩
  rest:=fun i hi bz=>by
   have:=Rm i hi;refine Int.not_lt.1 fun aj=>bz ?_
   by_cases hs:(i:Int)∈ZX (Zo x)
   ·exact vS _ hs
   ·exact zU _ (this.2.2 hs aj) }
end Go.Gv.F
namespace Go.Gv.F
open Go.Gv
variable {β:Type}
theorem L7 (f:Nat) (ff fc r:List DV) (K:Nat->List DV->List DV->List DV->M β):J.f (.func f ff fc::r) K=K f ff fc r:=rfl
theorem Zry {Bd:Za} (h:Mc Bd) (n z f:Nat) (ff fc:List DV) (l:List Int) (p:Option (Nat×Nat)) (st:St) (P:Int->Bool) (hz:z=1\/p=none) (hs:Sl st p (ints l)) (hn:l.length+10<=n) (hl:l.length<1000000)
  (hc: ∀v∈l,run Bd (n-2) f (ff++[.int .i64 v]++fc) st=some (.val [.bool (P v)],st)):
  run Bd n 147 [.slice z p l.length,.func f ff fc] st=some (.val [.bool (l.any P)],st):=by
 obtain⟨n,rfl⟩: ∃m,n=m+2:=⟨n-2,by omega⟩;rw[Zf,h.eq];unfold Z2;simp only[Zm 1 z p _ hz,L7,ae];have fq:Ok (fun o=>∃y:Int,o=(.val [.int .i64 y],st)/\decide (y>=0)=l.any P) (run Bd (n+1) 156 [.slice 1 p l.length,.func f ff fc] st):=by
  rw[Zf,h.q7.eq];unfold FP;simp only[bh,L7,ae];rw[Zc];refine Zl _ (fun q y s=>∃i:Nat,y=[.int .i64 i]/\i<=l.length/\l.length-i<=q/\s=st/\∀v∈l.take i,P v=false) ?_ l.length n _ _ ⟨0,rfl,bH _,by omega,rfl,by simp⟩ (by omega);rintro q _ s ⟨i,rfl,hi,hq,rfl,bz⟩ rec aD;simp only[al,ae];by_cases aj:i<l.length
  ·obtain⟨i1,o1,rfl⟩:=hs.ck (by simp[ints];omega)
   rw[ah (show(i:Int)<(l.length:Int) by omega),cond_true,aV,Zd (Zk aj),aX,hs.cP (d:= .int .i64 l[i]) (by simp[ints,aj])];simp only[aM];have hv:=hc l[i] (fK aj);rw[show n+2-2=n by omega]at hv;rw[Zi hv];simp only[ai,ae];cases hp:P l[i]with
   |true=>
    rw[cond_true,Ze];refine .mk ⟨_,rfl,?_⟩;rw[ah (by omega),List.any_eq_true.2 ⟨_,fK aj,hp⟩]
   |false=>
    rw[cond_false,Zb (by omega) (by omega)];refine aD (l.length-(i+1)) _ _ (by omega) ⟨i+1,rfl,by omega,by omega,rfl,?_⟩;intro v hv;rw[jG aj]at hv;rcases cW.1 hv with h|h
    ·exact bz v h
    ·rw[bK.1 h];exact hp
  ·rw[ao (show ¬(i:Int)<(l.length:Int) by omega),cond_false,Ze]
   rw[cA (by omega)]at bz;refine .mk ⟨_,rfl,?_⟩;rw[show decide ((-1:Int)>=0)=false from rfl];symm;rw[List.any_eq_false];intro v hv;rw[bz v hv];exact Bool.false_ne_true
 obtain⟨_,e,y,rfl,hy⟩:=fq;rw[Zi e];simp only[al,ae];rw[hy,Ze]
end Go.Gv.F
namespace Go.Gv.F
open Go.Gv
variable {β:Type}
end Go.Gv.F
