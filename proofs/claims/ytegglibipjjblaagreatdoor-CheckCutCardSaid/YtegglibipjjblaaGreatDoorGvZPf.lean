/- States: in memory; which ones may be; small functions over them. -/
import Derived.Test.YtegglibipjjblaaGreatDoorGvZPe
import Derived.Test.YtegglibipjjblaaGreatDoorGvZPa
import Derived.Test.YtegglibipjjblaaGreatDoorGvZBod
namespace Go.Gv.F
open Go.Gv
structure EntV where
 slot:Int
 gen:Int
 key:Int
 value:Int
structure HeapV where
 name:List UInt8
 ents:List EntV
structure StV where
 blocks:Int
 slots:Int
 g:Int
 heaps:List HeapV
 gens:List Int
 free:List Int
def entC (e:EntV):List DV:=[.int .i64 e.slot,.int .i64 e.gen,.int .i64 e.key,.int .i64 e.value]
def entsC (l:List EntV):List DV:=(l.map entC).flatten
theorem ZA (l:List EntV):(entsC l).length=l.length*4:=by
 unfold entsC;induction l with
 |nil=>rfl
 |cons e l ih=>rw[List.map_cons,List.flatten_cons,List.length_append,ih,List.length_cons];show 4+_=_;omega
theorem ZlM: ∀ {l:List EntV} {j:Nat} {e:EntV},l[j]? =some e→((entsC l).drop (j*4)).take 4=entC e
 |[],j,e,h=>by simp at h
 |x::l,0,e,h=>by
  simp only[List.getElem?_cons_zero,Option.some.injEq]at h;subst h;rw[Nat.zero_mul,List.drop_zero];rfl
 |x::l,j+1,e,h=>by
  have e2:entsC (x::l)=entC x++entsC l:=rfl;rw[e2,show(j+1)*4=(entC x).length+j*4 by show _=4+_;omega,←List.drop_drop,List.drop_left];exact ZlM (by simpa using h)
theorem Zl5 (l m:List EntV):entsC (l++m)=entsC l++entsC m:=by
 unfold entsC;rw[List.map_append,List.flatten_append]
def heapZ (h:HeapV) (z:Nat) (p:Option (Nat×Nat)):List DV:=[.str h.name,.slice z p h.ents.length]
def Heaps (s:St):List DV→List HeapV→Prop
 |ds,[]=>ds=[]
 |ds,x::r=>∃z p t,(z=4∨p=none)∧ds=heapZ x z p++t∧Sl s p (entsC x.ents)∧Heaps s t r
theorem Zb5 (x:HeapV) (z:Nat) (p:Option (Nat×Nat)):(heapZ x z p).length=2:=rfl
theorem ZB {β:Type} (sz z:Nat) (a:Option (Nat×Nat)) (n:Nat) (h:z=sz∨a=none) (K:Option (Nat×Nat)→Nat→M β):D.slice sz (.slice z a n) K=K a n:=by
 rcases h with rfl|rfl
 ·exact D_slice _ _ _ _
 ·exact D_slice_nil _ _ _ _
theorem Heaps.len {s:St} : ∀ {ds:List DV} {xs:List HeapV},Heaps s ds xs→ds.length=xs.length*2
 |ds,[],h=>by rw[show ds=[]from h];rfl
 |ds,x::r,⟨z,p,t,_,h1,_,h3⟩=>by rw[h1,List.length_append,h3.len,Zb5,List.length_cons];omega
theorem Heaps.mono {s s':St} (k:Pre s s'): ∀ {ds:List DV} {xs:List HeapV},Heaps s ds xs→Heaps s' ds xs
 |_,[],h=>h
 |_,_::_,⟨z,p,t,hz,h1,h2,h3⟩=>⟨z,p,t,hz,h1,h2.mono k,h3.mono k⟩
theorem Heaps.get {s:St} : ∀ {ds:List DV} {xs:List HeapV},Heaps s ds xs→∀ {j:Nat} {x:HeapV},xs[j]? =some x→∃z p,(z=4∨p=none)∧(ds.drop (j*2)).take 2=heapZ x z p∧ds[j*2]? =some (.str x.name)∧ds[j*2+1]? =some (.slice z p x.ents.length)∧Sl s p (entsC x.ents)
 |_,[],_,j,x,e=>by simp at e
 |ds,y::r,⟨zq,q,t,hzq,h1,h2,h3⟩,0,x,e=>by
  simp only[List.getElem?_cons_zero,Option.some.injEq]at e;subst e;subst h1;exact⟨zq,q,hzq,rfl,rfl,rfl,h2⟩
 |ds,y::r,⟨zq,q,t,hzq,h1,h2,h3⟩,j+1,x,e=>by
  obtain⟨z,p,hz,g1,g2,g3,g4⟩:=h3.get (j:=j) (x:=x) (by simpa using e);refine⟨z,p,hz,?_,?_,?_,g4⟩
  ·rw[h1,show(j+1)*2=(heapZ y zq q).length+j*2 by rw[Zb5];omega,←List.drop_drop,List.drop_left]
   exact g1
  ·rw[h1,List.getElem?_append_right (by rw[Zb5];omega),Zb5,show(j+1)*2-2=j*2 by omega]
   exact g2
  ·rw[h1,List.getElem?_append_right (by rw[Zb5];omega),Zb5,show(j+1)*2+1-2=j*2+1 by omega]
   exact g3
def stC (x:StV) (z1:Nat) (p1:Option (Nat×Nat)) (z2:Nat) (p2:Option (Nat×Nat)) (z3:Nat) (p3:Option (Nat×Nat)):List DV:=
 [.int .i64 x.blocks,.int .i64 x.slots,.int .i64 x.g,.slice z1 p1 x.heaps.length,.slice z2 p2 x.gens.length,.slice z3 p3 x.free.length]
structure StR (s:St) (x:StV) (p1 p2 p3:Option (Nat×Nat)):Prop where
 hp: ∃ds,Sl s p1 ds∧Heaps s ds x.heaps
 gn:Sl s p2 (ints x.gens)
 fr:Sl s p3 (ints x.free)
theorem StR.pre {s s':St} {x:StV} {p1 p2 p3:Option (Nat×Nat)} (h:StR s x p1 p2 p3) (k:Pre s s'):StR s' x p1 p2 p3:=
 let ⟨ds,h1,h2⟩:=h.hp
 ⟨⟨ds,h1.mono k,h2.mono k⟩,h.gn.mono k,h.fr.mono k⟩
def geomF (b s g:Int):Bool:=decide (b≥16)&&(decide (b≤3072)&&(decide (s≥1)&&(decide (s≤1792)&&(decide (g≥1)&&decide (g≤4294967295)))))
def aheadF (a b:EntV):Bool:=if a.key≠b.key then decide (a.key<b.key)else if a.slot≠b.slot then decide (a.slot<b.slot)else decide (a.gen<b.gen)
def Zio (l:List EntV):Prop:=∀i a b,l[i]? =some a→l[i+1]? =some b→aheadF a b=true
def Zte (l:List HeapV):Prop:=∀i a b,l[i]? =some a→l[i+1]? =some b→cmpL (rns a.name) (rns b.name)<0
def Zs (x:StV):List EntV:=(x.heaps.map (·.ents)).flatten
def genAt (x:StV) (k:Int):Int:=x.gens.getD k.toNat 0
structure MayP (x:StV):Prop where
 geom:geomF x.blocks x.slots x.g=true
 slots:(x.gens.length:Int)≤x.slots
 few:x.heaps.length≤16
 right: ∀h∈x.heaps,Zdx h.name=true∧Zio h.ents
 order:Zte x.heaps
 nodup:((Zs x).map (·.slot)++x.free).Nodup
 range: ∀k∈(Zs x).map (·.slot)++x.free,0≤k∧k<(x.gens.length:Int)
 gen: ∀e∈Zs x,genAt x e.slot=e.gen
 low: ∀k∈x.free,genAt x k<x.g
 gens: ∀v∈x.gens,1≤v∧v≤x.g
 rest: ∀i,i<x.gens.length→((i:Int)∉(Zs x).map (·.slot)++x.free)→x.g≤genAt x i
theorem ZoG (b s g:Int) (st:St) (X:Zg→Nat→List DV→M (List DV)) (hX: ∀c n,X c n [.agg [.int .i64 b,.int .i64 s,.int .i64 g]] st=ZcM c n [.agg [.int .i64 b,.int .i64 s,.int .i64 g]] st) (c:Zg) (n:Nat):
  X c n [.agg [.int .i64 b,.int .i64 s,.int .i64 g]] st=some (.val [.bool (geomF b s g)],st):=by
 rw[hX];unfold ZcM geomF;simp only[J_a,J_i,D_nil];cases decide (b≥16)with
 |false=>simp only[Zc,cond_false,J_b,D_nil];rfl
 |true=>
 cases decide (b≤3072)with
 |false=>simp only[Zc,cond_false,cond_true,J_b,D_nil];rfl
 |true=>
 cases decide (s≥1)with
 |false=>simp only[Zc,cond_false,cond_true,J_b,D_nil];rfl
 |true=>
 cases decide (s≤1792)with
 |false=>simp only[Zc,cond_false,cond_true,J_b,D_nil];rfl
 |true=>
 cases decide (g≥1)with
 |false=>simp only[Zc,cond_false,cond_true,J_b,D_nil];rfl
 |true=>
  simp only[Zc,cond_true,J_b,D_nil];rfl
theorem Zlc {Bd:Za} (h:ZfO Bd) (n:Nat) (b s g:Int) (st:St):run Bd (n+1) 145 [.agg [.int .i64 b,.int .i64 s,.int .i64 g]] st=some (.val [.bool (geomF b s g)],st):=by
 rw[Zf,h.eq];exact ZoG b s g st ZcM (fun _ _=>rfl) _ _
theorem Zj8 {Bd:Za} (h:Zep Bd) (n:Nat) (b s g:Int) (st:St):run Bd (n+1) 141 [.agg [.int .i64 b,.int .i64 s,.int .i64 g]] st=some (.val [.bool (geomF b s g)],st):=by
 rw[Zf,h.eq];exact ZoG b s g st ZeI (fun _ _=>rfl) _ _
theorem Zpx {Bd:Za} (h:Zg9 Bd) (n:Nat) (a b:EntV) (st:St):run Bd (n+1) 155 [.agg (entC a),.agg (entC b)] st=some (.val [.bool (aheadF a b)],st):=by
 rw[Zf,h.eq];unfold ZeC entC aheadF;simp only[J_a,J_i,D_nil];by_cases h1:a.key=b.key
 ·have e1:(a.key==b.key)=true:=by rw[h1];exact beq_self_eq_true _
  rw[e1,Bool.not_true,cond_false,if_neg (by simp[h1])];by_cases h2:a.slot=b.slot
  ·have e2:(a.slot==b.slot)=true:=by rw[h2];exact beq_self_eq_true _
   rw[e2,Bool.not_true,cond_false,if_neg (by simp[h2])];rfl
  ·have e2:(a.slot==b.slot)=false:=beq_eq_false_iff_ne.2 h2
   rw[e2,Bool.not_false,cond_true,if_pos h2];rfl
 ·have e1:(a.key==b.key)=false:=beq_eq_false_iff_ne.2 h1
  rw[e1,Bool.not_false,cond_true,if_pos h1];rfl
def cmpI (x y:Int):Int:=if x<y then-1 else if x>y then 1 else 0
theorem ZkU {Bd:Za} (h:ZcI Bd) (n:Nat) (x y:Int) (st:St):run Bd (n+2) 161 [.int .i64 x,.int .i64 y] st=some (.val [.int .i64 (cmpI x y)],st):=by
 have e: ∀z:Int,run Bd (n+1) 163 [.int .i64 z] st=some (.val [.bool false],st):=by
  intro z;rw[Zf,h.q38.eq];unfold Zcx;simp only[J_i,D_nil,beq_self_eq_true,Bool.not_true,Zb]
 rw[Zf,h.eq];unfold ZbY cmpI;simp only[J_i,D_nil];rw[Zi (e x)];simp only[J_b,D_nil];rw[Zi (e y)];simp only[J_b,D_nil,cond_false];by_cases h1:x<y
 ·rw[decide_eq_true h1,cond_true,if_pos h1];rfl
 ·rw[decide_eq_false h1,cond_false,if_neg h1]
  by_cases h2:x>y
  ·rw[decide_eq_true h2,cond_true,if_pos h2];rfl
  ·rw[decide_eq_false h2,cond_false,if_neg h2];rfl
theorem ev_node_Compare {Bd:Za} (h:Zbx Bd) (n:Nat) (hn:8≤n) (a b:EntV) (st:St):
  Ok (fun o=>∃z s',o=(.val [.int .i64 z],s')∧Pre st s'∧decide (z≥0)= !aheadF a b) (run Bd n 159 [.agg (entC a),.agg (entC b)] st):=by
 obtain⟨n,rfl⟩: ∃m,n=m+3:=⟨n-3,by omega⟩;rw[Zf,h.eq];unfold ZcQ entC;simp only[J_a,J_i,D_nil];rw[ZiE (ZkU h.q25 n a.key b.key st)];simp only[J_i,D_nil];rw[ZiE (ZkU h.q25 n a.slot b.slot st)];simp only[J_i,D_nil];rw[Zi (ZkU h.q25 n a.gen b.gen st)];simp only[J_i,D_nil];rw[Zu];have hp:=Pre.new st (some ⟨false,[DV.int .i64 (cmpI a.key b.key),.int .i64 (cmpI a.slot b.slot),.int .i64 (cmpI a.gen b.gen)]⟩);have hs:Sl (st++[some ⟨false,[DV.int .i64 (cmpI a.key b.key),.int .i64 (cmpI a.slot b.slot),.int .i64 (cmpI a.gen b.gen)]⟩]) (some (st.length,0)) [DV.int .i64 (cmpI a.key b.key),.int .i64 (cmpI a.slot b.slot),.int .i64 (cmpI a.gen b.gen)]:=ZlU st _;generalize (st++[some ⟨false,[DV.int .i64 (cmpI a.key b.key),.int .i64 (cmpI a.slot b.slot),.int .i64 (cmpI a.gen b.gen)]⟩])=s1 at hp hs;have hor:run Bd (n+2) 162 [.slice 1 (some (st.length,0)) 3] s1=some (.val [.int .i64 (if cmpI a.key b.key≠0 then cmpI a.key b.key else if cmpI a.slot b.slot≠0 then cmpI a.slot b.slot else cmpI a.gen b.gen)],s1):=by
  rw[Zf,h.q86.eq];unfold ZdH;obtain⟨n,rfl⟩: ∃m,n=m+5:=⟨n-5,by omega⟩;simp only[J_l,D_nil];rw[Zc];have step: ∀(m i:Nat) (z:Int) (R:Option (Out (List DV)×St)),i<3→[DV.int .i64 (cmpI a.key b.key),.int .i64 (cmpI a.slot b.slot),.int .i64 (cmpI a.gen b.gen)][i]? =some (.int .i64 z)→
    (z≠0→R=some (.val [.int .i64 z],s1))→∀(F:(List DV→M (List DV))→List DV→M (List DV)),True:=fun _ _ _ _ _ _ _ _=>trivial
  clear step;have ld: ∀(i:Nat) (d:DV) (K:DV→M (List DV)),[DV.int .i64 (cmpI a.key b.key),.int .i64 (cmpI a.slot b.slot),.int .i64 (cmpI a.gen b.gen)][i]? =some d→M.load1 st.length (i*1+0) K s1=K d s1:=fun i d K hd=>hs.get1 hd K
  rw[ZcS];simp only[J_i,D_nil];rw[show decide ((0:Int)<((3:Nat):Int))=true from rfl,cond_true,nn_some',Ze (by rfl)];rw[show(0:Int).toNat=0 from rfl,ld 0 _ _ rfl];simp only[D_int];by_cases c1:cmpI a.key b.key=0
  ·have e1:(cmpI a.key b.key==0)=true:=by rw[c1];rfl
   rw[e1,Bool.not_true,cond_false,if_neg (by simp[c1]),ZcS];simp only[J_i,D_nil];rw[show wr64 ((0:Int)+1)=1 from Zd (by omega) (by omega),show decide ((1:Int)<((3:Nat):Int))=true from rfl,cond_true,nn_some',Ze (by rfl)];rw[show(1:Int).toNat=1 from rfl,ld 1 _ _ rfl];simp only[D_int];by_cases c2:cmpI a.slot b.slot=0
   ·have e2:(cmpI a.slot b.slot==0)=true:=by rw[c2];rfl
    rw[e2,Bool.not_true,cond_false,if_neg (by simp[c2]),ZcS];simp only[J_i,D_nil];rw[show wr64 ((1:Int)+1)=2 from Zd (by omega) (by omega),show decide ((2:Int)<((3:Nat):Int))=true from rfl,cond_true,nn_some',Ze (by rfl)];rw[show(2:Int).toNat=2 from rfl,ld 2 _ _ rfl];simp only[D_int];by_cases c3:cmpI a.gen b.gen=0
    ·have e3:(cmpI a.gen b.gen==0)=true:=by rw[c3];rfl
     rw[e3,Bool.not_true,cond_false,ZcS];simp only[J_i,D_nil];rw[show wr64 ((2:Int)+1)=3 from Zd (by omega) (by omega),show decide ((3:Int)<((3:Nat):Int))=false from rfl,cond_false,c3];rfl
    ·have e3:(cmpI a.gen b.gen==0)=false:=beq_eq_false_iff_ne.2 c3
     rw[e3,Bool.not_false,cond_true];rfl
   ·have e2:(cmpI a.slot b.slot==0)=false:=beq_eq_false_iff_ne.2 c2
    rw[e2,Bool.not_false,cond_true,if_pos c2];rfl
  ·have e1:(cmpI a.key b.key==0)=false:=beq_eq_false_iff_ne.2 c1
   rw[e1,Bool.not_false,cond_true,if_pos c1];rfl
 rw[Zi hor];simp only[J_i,D_nil,Zb];refine .mk ⟨_,s1,rfl,hp,?_⟩;unfold aheadF cmpI;rw[Bool.eq_iff_iff];by_cases h1:a.key<b.key
 ·simp[h1,show ¬a.key=b.key by omega]
 ·by_cases h2:a.key>b.key
  ·simp[h1,h2,show ¬a.key=b.key by omega]
  ·have hk:a.key=b.key:=by omega
   by_cases h3:a.slot<b.slot
   ·simp[hk,h3,show ¬a.slot=b.slot by omega]
   ·by_cases h4:a.slot>b.slot
    ·simp[hk,h3,h4,show ¬a.slot=b.slot by omega]
    ·have hs':a.slot=b.slot:=by omega
     by_cases h5:a.gen<b.gen
     ·simp[hk,hs',h5]
     ·by_cases h6:a.gen>b.gen
      ·simp[hk,hs',h5,h6]
      ·simp[hk,hs',h5,h6]
theorem Zmr {Bd:Za} (h:ZjF Bd) (n z:Nat) (l:List Int) (k:Int) (p:Option (Nat×Nat)) (st:St) (hz:z=1∨p=none) (hs:Sl st p (ints l)) (hn:l.length+3≤n) (hl:l.length<1000000):
  Ok (fun o=>o=(.val [.bool (decide (k∈l))],st)) (run Bd n 143 [.slice z p l.length,.int .i64 k] st):=by
 obtain⟨n,rfl⟩: ∃m,n=m+1:=⟨n-1,by omega⟩;rw[Zf,h.eq];unfold Zgr;simp only[Zm 1 z p _ hz,J_i,D_nil];rw[Zc];refine Zk _ (fun q x s=>∃i:Nat,x=[.int .i64 i]∧i≤l.length∧l.length-i≤q∧s=st∧k∉l.take i) ?_ l.length n _ _ ⟨0,rfl,Nat.zero_le _,by omega,rfl,by simp⟩ (by omega);rintro q _ s ⟨i,rfl,hi,hq,rfl,hno⟩ rec hrec;simp only[J_i,D_nil];by_cases hlt:i<l.length
 ·have e:decide ((i:Int)<(l.length:Int))=true:=decide_eq_true (by omega)
  obtain⟨p1,o1,rfl⟩:=hs.some_of (by simp[ints];omega);rw[e,cond_true,nn_some',Ze (Zl hlt),Int.toNat_natCast,hs.get1 (d:= .int .i64 l[i]) (by simp[ints,hlt])];simp only[D_int];by_cases hk:l[i]=k
  ·have e2:(l[i]==k)=true:=by rw[hk];exact beq_self_eq_true _
   rw[e2,cond_true,Zb,decide_eq_true (by rw[←hk];exact List.getElem_mem hlt)];exact .mk rfl
  ·have e2:(l[i]==k)=false:=beq_eq_false_iff_ne.2 hk
   rw[e2,cond_false,Zd (by omega) (by omega)];refine hrec (l.length-(i+1)) _ _ (by omega) ⟨i+1,rfl,by omega,by omega,rfl,?_⟩;rw[List.take_succ_eq_append_getElem hlt];intro hm;rcases List.mem_append.1 hm with h|h
   ·exact hno h
   ·exact hk (List.mem_singleton.1 h).symm
 ·have e:decide ((i:Int)<(l.length:Int))=false:=decide_eq_false (by omega)
  rw[e,cond_false,Zb];rw[List.take_of_length_le (by omega)]at hno;rw[decide_eq_false hno];exact .mk rfl
end Go.Gv.F
namespace Go.Gv.F
open Go.Gv
variable {β:Type}
theorem ZgY {s:St} {i o j:Nat} {ds:List DV} {xs:List HeapV} {x:HeapV} (hs:Sl s (some (i,o)) ds) (hh:Heaps s ds xs) (e:xs[j]? =some x) (K:DV→M β):M.load1 i (j*2+o) K s=K (.str x.name) s:=by
 obtain⟨_,p,_,_,g2,_,_⟩:=hh.get e;exact hs.get g2 K
theorem ZlA {s:St} {i o j:Nat} {ds:List DV} {xs:List HeapV} {x:HeapV} (hs:Sl s (some (i,o)) ds) (hh:Heaps s ds xs) (e:xs[j]? =some x): ∃p,Sl s p (entsC x.ents)∧∀K:Option (Nat×Nat)→Nat→M β,M.load1 i (j*2+o+1) (fun d=>D.slice 4 d K) s=K p x.ents.length s:=by
 obtain⟨z,p,hz,_,_,g3,g4⟩:=hh.get e;refine⟨p,g4,fun K=>?_⟩;have e2:j*2+o+1=(j*2+1)+o:=by omega
 rw[e2,hs.get g3,ZB 4 z p _ hz]
theorem ZnY {s:St} {i o k:Nat} {l:List EntV} {x:EntV} (hs:Sl s (some (i,o)) (entsC l)) (e:l[k]? =some x) (K:List DV→M β):M.load i (k*4+o) 4 K s=K (entC x) s:=by
 have hk:k<l.length:=(List.getElem?_eq_some_iff.1 e).1;rw[hs.gets (k:=k*4) (n:=4) (by rw[ZA];omega) K,ZlM e]
theorem Zxs {s:St} {i o k:Nat} {l:List EntV} {x:EntV} (hs:Sl s (some (i,o)) (entsC l)) (e:l[k]? =some x) (K:List DV→M β):M.load i (k*4+o) 2 K s=K [.int .i64 x.slot,.int .i64 x.gen] s:=by
 have hk:k<l.length:=(List.getElem?_eq_some_iff.1 e).1;rw[hs.gets (k:=k*4) (n:=2) (by rw[ZA];omega) K];have:=congrArg (List.take 2) (ZlM e);rw[List.take_take]at this;rw[show((entsC l).drop (k*4)).take 2=[.int .i64 x.slot,.int .i64 x.gen]from this]
def Zmx (l:List HeapV):Prop:=l.length≤16∧(∀h∈l,Zdx h.name=true∧Zio h.ents)∧Zte l
def ZjL (l:List HeapV) (i:Nat) (h:HeapV):Prop:=Zdx h.name=true∧∀g,0<i→l[i-1]? =some g→cmpL (rns g.name) (rns h.name)<0
theorem Zvq (l:List HeapV) (hl:l.length≤16):Zmx l↔ ∀i h,l[i]? =some h→ZjL l i h∧Zio h.ents:=by
 constructor
 ·intro ⟨_,h1,h2⟩ i h e
  refine⟨⟨(h1 h (List.mem_of_getElem? e)).1,fun g hi eg=>h2 (i-1) g h eg ?_⟩,(h1 h (List.mem_of_getElem? e)).2⟩;rw[show i-1+1=i by omega];exact e
 ·intro h
  refine⟨hl,fun x hx=>?_,fun i a b ea eb=>?_⟩
  ·obtain⟨i,hi,rfl⟩:=List.getElem_of_mem hx
   have:=h i _ (List.getElem?_eq_getElem hi);exact⟨this.1.1,this.2⟩
  ·exact(h (i+1) b eb).1.2 a (by omega) (by rw[show i+1-1=i by omega];exact ea)
theorem Ztb (l:List EntV):Zio l↔ ∀k a b,1≤k→l[k-1]? =some a→l[k]? =some b→aheadF a b=true:=by
 constructor
 ·intro h k a b hk ha hb
  exact h (k-1) a b ha (by rw[show k-1+1=k by omega];exact hb)
 ·intro h i a b ha hb
  exact h (i+1) a b (by omega) (by rw[show i+1-1=i by omega];exact ha) hb
structure SzH (l:List HeapV):Prop where
 len:l.length≤50000
 ents: ∀h∈l,h.ents.length≤50000
 name: ∀h∈l,h.name.length≤50000
theorem Zqn {Bd:Za} (h:Zhp Bd) (n z:Nat) (l:List HeapV) (p:Option (Nat×Nat)) (ds:List DV) (st:St) (hz:z=2∨p=none) (hs:Sl st p ds) (hh:Heaps st ds l) (sz:SzH l) (hn:50100≤n):
  Ok (fun o=>∃b s',o=(.val [.bool b],s')∧Pre st s'∧(b=true↔Zmx l)) (run Bd n 144 [.slice z p l.length] st):=by
 obtain⟨n,rfl⟩: ∃m,n=m+1:=⟨n-1,by omega⟩;rw[Zf,h.eq];unfold ZeM;simp only[Zm 2 z p _ hz,D_nil];by_cases h16:l.length>16
 ·rw[decide_eq_true (show(l.length:Int)>16 by omega),cond_true,Zb]
  exact .mk ⟨false,st,rfl,.refl _,by unfold Zmx;simp;omega⟩
 rw[decide_eq_false (show ¬(l.length:Int)>16 by omega),cond_false,Zc];have h16:l.length≤16:=by omega
 have hok:=Zvq l h16;refine Zk _ (fun q x s=>∃i:Nat,x=[.int .i64 i]∧i≤l.length∧l.length-i≤q∧Pre st s∧∀j h,j<i→l[j]? =some h→ZjL l j h∧Zio h.ents) ?_ l.length n _ _ ⟨0,rfl,Nat.zero_le _,by omega,.refl _,fun j h hj=>absurd hj (Nat.not_lt_zero j)⟩ (by omega);rintro q _ s ⟨i,rfl,hi,hq,hp,hdone⟩ rec hrec;simp only[J_i,D_nil];by_cases hlt:i<l.length;rotate_left
 ·rw[decide_eq_false (show ¬(i:Int)<(l.length:Int) by omega),cond_false,Zb]
  refine .mk ⟨true,s,rfl,hp,?_⟩;simp only[true_iff];rw[hok];intro j x e;exact hdone j x (by have:=(List.getElem?_eq_some_iff.1 e).1;omega) e
 rw[decide_eq_true (show(i:Int)<(l.length:Int) by omega),cond_true];obtain⟨i1,o1,rfl⟩:=hs.some_of (by rw[hh.len];omega);obtain⟨x,hx⟩: ∃x,l[i]? =some x:=⟨_,List.getElem?_eq_getElem hlt⟩;have hxm:=List.mem_of_getElem? hx;have hxe:=sz.ents x hxm;have hxn:=sz.name x hxm;rw[Zc,nn_some',Ze (Zl hlt),Int.toNat_natCast,ZgY (hs.mono hp) (hh.mono hp) hx];simp only[D_str];refine Ok.call (Zp6 h.q75 n x.name (by omega) (by omega) s) ?_;rintro _ ⟨s1,rfl,hp1⟩;refine⟨_,s1,rfl,?_⟩;simp only[J_b,D_nil];refine ZwS (fun y s=>∃b:Bool,y=[.bool b]∧Pre st s∧(b=false↔ZjL l i x)) ?_ ?_
 ·rintro _ s2 ⟨b,rfl,hp2,hb⟩
  simp only[J_b,D_nil];cases b with
  |true=>
   rw[cond_true,Zb];refine .mk ⟨false,s2,rfl,hp2,?_⟩;rw[hok];simp only[Bool.false_eq_true,false_iff];intro hall;exact absurd (hb.2 (hall i x hx).1) (by decide)
  |false=>
   have hno:=hb.1 rfl;rw[cond_false,Zc];refine Zk _ (fun q y s=>∃k:Nat,y=[.int .i64 k]∧1≤k∧x.ents.length+1-k≤q∧k≤x.ents.length+1∧Pre st s∧∀m a b,1≤m→m<k→x.ents[m-1]? =some a→x.ents[m]? =some b→aheadF a b=true) ?_ x.ents.length n _ _ ⟨1,rfl,Nat.le_refl _,by omega,by omega,hp2,fun m a b h1 h2=>by omega⟩ (by omega);rintro q' _ s3 ⟨k,rfl,hk1,hkq,hk2,hp3,hord⟩ rec2 hrec2;simp only[J_i,D_nil];rw[nn_some',Ze (Zl hlt),Int.toNat_natCast];obtain⟨pe,hfe,le⟩:=ZlA (β:=List DV) (hs.mono hp3) (hh.mono hp3) hx;rw[le];by_cases hk:k<x.ents.length
   ·rw[decide_eq_true (show(k:Int)<(x.ents.length:Int) by omega),cond_true,nn_some',Ze (Zl hlt),le]
    obtain⟨m,rfl⟩: ∃m,k=m+1:=⟨k-1,by omega⟩;obtain⟨pi,po,rfl⟩:=hfe.some_of (by rw[ZA];omega);obtain⟨a,ha⟩: ∃a,x.ents[m]? =some a:=⟨_,List.getElem?_eq_getElem (by omega)⟩;obtain⟨b,hb'⟩: ∃b,x.ents[m+1]? =some b:=⟨_,List.getElem?_eq_getElem hk⟩;rw[nn_some',Zd (by omega) (by omega),show(((m+1:Nat):Int)-1)=(m:Int) by omega,Ze (Zl (by omega)),Int.toNat_natCast,ZnY hfe ha];unfold entC;simp only[J_i,D_nil];rw[nn_some',Ze (Zl hlt),le];rw[nn_some',Ze (Zl hk),ZnY hfe hb'];unfold entC;simp only[J_i,D_nil];have hcall:=Zpx h.q77 (n-1) a b s3;rw[show n-1+1=n by omega]at hcall;unfold entC at hcall;rw[Zi hcall];simp only[J_b,D_nil];cases hab:aheadF a b with
    |false=>
     rw[Bool.not_false,cond_true,Zb];refine .mk ⟨false,s3,rfl,hp3,?_⟩;rw[hok];simp only[Bool.false_eq_true,false_iff];intro hall;have:=(Ztb _).1 (hall i x hx).2 (m+1) a b (by omega) (by rw[show m+1-1=m by omega];exact ha) hb';rw[hab]at this;cases this
    |true=>
     rw[Bool.not_true,cond_false,Zd (by omega) (by omega)];refine hrec2 (x.ents.length+1-(m+1+1)) _ _ (by omega) ⟨m+1+1,rfl,by omega,by omega,by omega,hp3,?_⟩;intro m' a' b' h1 h2 ha' hb2;by_cases hm:m'<m+1
     ·exact hord m' a' b' h1 hm ha' hb2
     ·have:m'=m+1:=by omega
      subst this;rw[show m+1-1=m by omega]at ha';rw[ha]at ha';rw[hb']at hb2;cases ha';cases hb2;exact hab
   ·rw[decide_eq_false (show ¬(k:Int)<(x.ents.length:Int) by omega),cond_false]
    rw[Zd (by omega) (by omega)];refine hrec (l.length-(i+1)) _ _ (by omega) ⟨i+1,rfl,by omega,by omega,hp3,?_⟩;intro j y hj ey;by_cases hji:j<i
    ·exact hdone j y hji ey
    ·have:j=i:=by omega
     subst this;rw[hx]at ey;cases ey;refine⟨hno,(Ztb _).2 fun m a b h1 ha hb'=>hord m a b h1 ?_ ha hb'⟩;have:=(List.getElem?_eq_some_iff.1 hb').1;omega
 ·intro jk hjk
  cases hr:Zdx x.name with
  |false=>
   rw[Bool.not_false,cond_true];refine hjk _ _ ⟨true,rfl,hp.trans hp1,?_⟩;unfold ZjL;rw[hr];simp
  |true=>
   rw[Bool.not_true,cond_false,Zc];by_cases h0:0<i
   ·obtain⟨m,rfl⟩: ∃m,i=m+1:=⟨i-1,by omega⟩
    rw[decide_eq_true (show((m+1:Nat):Int)>0 by omega),cond_true];obtain⟨g,hg⟩: ∃g,l[m]? =some g:=⟨_,List.getElem?_eq_getElem (by omega)⟩;have hgn:=sz.name g (List.mem_of_getElem? hg);have hp2:=hp.trans hp1;rw[nn_some',Zd (by omega) (by omega),show(((m+1:Nat):Int)-1)=(m:Int) by omega,Ze (Zl (by omega)),Int.toNat_natCast,ZgY (hs.mono hp2) (hh.mono hp2) hg];simp only[D_str];rw[nn_some',Ze (Zl hlt),ZgY (hs.mono hp2) (hh.mono hp2) hx];simp only[D_str];refine Ok.call (ZnA h.q41 n g.name x.name (by omega) (by omega) (by omega) (by omega) s1) ?_;rintro _ ⟨s2,rfl,hp3⟩;refine⟨_,s2,rfl,?_⟩;simp only[J_i,J_b,D_nil];refine hjk _ _ ⟨_,rfl,hp2.trans hp3,?_⟩;unfold ZjL;rw[hr,show m+1-1=m by omega,hg];simp only[decide_eq_false_iff_not,true_and];constructor
    ·intro hc g' _ e
     cases e;omega
    ·intro hc
     have:=hc g (by omega) rfl;omega
   ·rw[decide_eq_false (show ¬(i:Int)>0 by omega),cond_false]
    simp only[J_b,D_nil];refine hjk _ _ ⟨false,rfl,hp.trans hp1,?_⟩;unfold ZjL;rw[hr];simp only[true_and,true_iff];intro g hg;exact absurd hg h0
end Go.Gv.F
namespace Go.Gv.F
open Go.Gv
def ZbW (l:List HeapV):List EntV:=(l.map (·.ents)).flatten
theorem Zkm (x:StV):Zs x=ZbW x.heaps:=rfl
theorem ZuG (l:List HeapV) {i:Nat} {h:HeapV} (e:l[i]? =some h):ZbW (l.take (i+1))=ZbW (l.take i)++h.ents:=by
 obtain⟨hi,rfl⟩:=List.getElem?_eq_some_iff.1 e;unfold ZbW;rw[List.take_succ_eq_append_getElem hi,List.map_append,List.flatten_append,List.map_cons,List.map_nil,List.flatten_cons,List.flatten_nil,List.append_nil]
theorem Zw9 (l:List HeapV) (i:Nat):(ZbW (l.take i)).length≤(ZbW l).length:=by
 have:ZbW l=ZbW (l.take i)++ZbW (l.drop i):=by
  unfold ZbW;rw[←List.flatten_append,←List.map_append,List.take_append_drop]
 rw[this,List.length_append];omega
theorem Znr {Bd:Za} (h:ZfA Bd) (n:Nat) (x:StV) (z1 z2 z3:Nat) (p1 p2 p3:Option (Nat×Nat)) (st:St) (hz1:z1=2∨p1=none) (hz2:z2=1∨p2=none) (hz3:z3=1∨p3=none) (hr:StR st x p1 p2 p3)
  (hl:x.heaps.length≤50000) (he:(Zs x).length≤50000) (hn:50100≤n):
  Ok (fun o=>∃q s',o=(.val [.slice 4 q (Zs x).length],s')∧Pre st s'∧Sl s' q (entsC (Zs x))) (run Bd n 142 [.agg (stC x z1 p1 z2 p2 z3 p3)] st):=by
 obtain⟨n,rfl⟩: ∃m,n=m+1:=⟨n-1,by omega⟩;rw[Zf,h.eq];unfold Zdr;have ag: ∀(l:List DV) (K:List DV→List DV→M (List DV)),J.a (.agg (stC x z1 p1 z2 p2 z3 p3)::l) K=K (stC x z1 p1 z2 p2 z3 p3) l:=fun _ _=>rfl
 rw[ag];unfold stC;simp only[J_i,Zm 2 z1 p1 _ hz1,Zm 1 z2 p2 _ hz2,Zm 1 z3 p3 _ hz3,D_nil];rw[Zb6,Zc];obtain⟨ds,hs,hh⟩:=hr.hp;rw[Zkm]at he;rw[Zkm];refine Zk _ (fun q y s=>∃(i z:Nat) (a:Option (Nat×Nat)),y=[.slice z a (ZbW (x.heaps.take i)).length,.int .i64 i]∧(z=4∨a=none)∧i≤x.heaps.length∧x.heaps.length-i≤q∧Own st s a (entsC (ZbW (x.heaps.take i)))) ?_ x.heaps.length n _ _ ⟨0,0,none,rfl,.inr rfl,Nat.zero_le _,by omega,Own.nil (.refl _)⟩ (by omega);rintro q _ s ⟨i,z,a,rfl,hz,hi,hq,ho⟩ rec hrec;simp only[Zm 4 z a _ hz,J_i,D_nil];by_cases hlt:i<x.heaps.length
 ·rw[decide_eq_true (show(i:Int)<(x.heaps.length:Int) by omega),cond_true]
  obtain⟨i1,o1,rfl⟩:=hs.some_of (by rw[hh.len];omega);obtain⟨g,hg⟩: ∃g,x.heaps[i]? =some g:=⟨_,List.getElem?_eq_getElem hlt⟩;rw[nn_some',Ze (Zl hlt),Int.toNat_natCast];obtain⟨pe,hfe,le⟩:=ZlA (β:=List DV) (hs.mono ho.1) (hh.mono ho.1) hg;rw[le];rw[←ZA,rd_eq hfe];have et:=ZuG x.heaps hg;have hle:=Zw9 x.heaps (i+1);rw[et,List.length_append]at hle;rw[Zd (by omega) (by omega)];by_cases h0:0<g.ents.length
  ·obtain⟨q2,s2,g1,g2⟩:=ho.app (β:=List DV) (sz:=4) (n:=(ZbW (x.heaps.take i)).length) (m:=g.ents.length) (lim:=2199023255552) (ds:=entsC g.ents) (by omega) (ZA _) h0 (by omega)
   rw[g2];exact hrec (x.heaps.length-(i+1)) _ _ (by omega) ⟨i+1,4,q2,by rw[et,List.length_append];rfl,.inl rfl,by omega,by omega,by rw[et,Zl5];exact g1⟩
  ·have e0:g.ents=[]:=List.length_eq_zero_iff.1 (by omega)
   rw[e0]at et⊢;rw[show(entsC []:List DV)=[]from rfl,show(([]:List EntV).length)=0 from rfl,Zx4];rw[List.append_nil]at et;exact hrec (x.heaps.length-(i+1)) _ _ (by omega) ⟨i+1,4,a,by rw[et];rfl,.inl rfl,by omega,by omega,by rw[et];exact ho⟩
 ·rw[decide_eq_false (show ¬(i:Int)<(x.heaps.length:Int) by omega),cond_false]
  have:i=x.heaps.length:=by omega
  subst this;rw[List.take_length]at ho⊢;simp only[J_l,D_nil,ZE];exact .mk ⟨a,_,rfl,ZL ho.1,ho.sl.frz _⟩
def lv (n:Nat) (D:List Int):List DV:=(List.range n).map fun(k:Nat)=>DV.bool (decide ((k:Int)∈D))
theorem Zxg (n:Nat) (D:List Int):(lv n D).length=n:=by simp[lv]
theorem ZzQ {n:Nat} {D:List Int} {k:Int} (h:0≤k∧k<(n:Int)):(lv n D)[k.toNat]? =some (.bool (decide (k∈D))):=by
 obtain⟨m,rfl⟩: ∃m:Nat,k=(m:Int):=⟨k.toNat,by omega⟩;rw[Int.toNat_natCast];simp only[lv,List.getElem?_map];rw[List.getElem?_range (by omega)];rfl
theorem Zz3 {n:Nat} {D:List Int} {k:Int} (h:0≤k∧k<(n:Int)):spl (lv n D) (k.toNat*1) [.bool true]=lv n (D++[k]):=by
 obtain⟨m,rfl⟩: ∃m:Nat,k=(m:Int):=⟨k.toNat,by omega⟩;rw[Int.toNat_natCast,Nat.mul_one,Ze6 _ _ _ (by rw[Zxg];omega)];refine List.ext_getElem? fun j=>?_
 rw[List.getElem?_set];unfold lv;by_cases hj:j<n
 ·simp only[List.length_map,List.length_range,List.getElem?_map,List.getElem?_range hj,Option.map_some]
  by_cases hm:m=j
  ·subst hm
   rw[if_pos rfl,if_pos (by omega)];simp
  ·rw[if_neg hm]
   have e:((j:Int)∈D++[(m:Int)])↔((j:Int)∈D):=by
    rw[List.mem_append,List.mem_singleton];constructor
    ·rintro(h|h)
     ·exact h
     ·omega
    ·exact .inl
   simp only[e]
 ·rw[List.getElem?_eq_none (show(List.map (fun k:Nat=>DV.bool (decide ((k:Int)∈D++[(m:Int)]))) (List.range n)).length≤j by simp;omega)]
  rw[if_neg (by omega),List.getElem?_eq_none (by simp;omega)]
theorem ZzR (n:Nat):rep n [.bool false]=lv n []:=by
 unfold rep lv;refine List.ext_getElem? fun j=>?_
 have:(List.replicate n [DV.bool false]).flatten=List.replicate n (DV.bool false):=by
  induction n with
  |zero=>rfl
  |succ n ih=>rw[List.replicate_succ,List.replicate_succ,List.flatten_cons,ih];rfl
 rw[this];by_cases hj:j<n
 ·simp[hj]
 ·rw[List.getElem?_eq_none (by simp;omega),List.getElem?_eq_none (by simp;omega)]
theorem Zd0 {k:Int} {n:Nat} (h:0≤k∧k<(n:Int)):inB k n=true:=by unfold inB;simp[h.1,h.2]
theorem ZpF {x:StV} {k:Int} (h:0≤k∧k<(x.gens.length:Int)):(ints x.gens)[k.toNat]? =some (.int .i64 (genAt x k)):=by
 unfold ints genAt;have hk:k.toNat<x.gens.length:=by omega
 rw[List.getElem?_map,List.getElem?_eq_getElem hk,List.getD_eq_getElem?_getD,List.getElem?_eq_getElem hk];rfl
theorem pig: ∀(n:Nat) (l:List Int),l.Nodup→(∀k∈l,0≤k∧k<(n:Int))→l.length≤n
 |0,l,_,h=>by
  cases l with
  |nil=>exact Nat.le_refl _
  |cons k l=>have:=h k (List.mem_cons_self);omega
 |n+1,l,hd,h=>by
  have h1:=pig n (l.erase (n:Int)) (hd.erase _) (fun k hk=>by
   rw[hd.mem_erase_iff]at hk;have:=h k hk.2;have:=hk.1;omega)
  rw[List.length_erase]at h1;split at h1
  ·omega
  ·omega
structure SzS (x:StV):Prop where
 h:SzH x.heaps
 e:(Zs x).length≤50000
 g:x.gens.length≤50000
 f:x.free.length≤50000
end Go.Gv.F
namespace Go.Gv.F
open Go.Gv
variable {β:Type}
theorem Zp4 {s:St} {i n:Nat} {D:List Int} {k:Int} (hs:s[i]? =some (some ⟨false,lv n D⟩)) (h:0≤k∧k<(n:Int)) (K:DV→M β):M.load1 i (k.toNat*1) K s=K (.bool (decide (k∈D))) s:=by
 rw[Nat.mul_one];exact Zn hs (ZzQ h) K
def ZS (l:List EntV):List Int:=l.map (·.slot)
theorem Zwz (l:List EntV) {i:Nat} (h:i<l.length):ZS (l.take (i+1))=ZS (l.take i)++[l[i].slot]:=by
 unfold ZS;rw[List.take_succ_eq_append_getElem h,List.map_append];rfl
theorem ZhD {l:List Int} {k:Int} :(l++[k]).Nodup↔l.Nodup∧k∉l:=by
 rw[List.nodup_append];constructor
 ·rintro⟨h1,_,h3⟩
  exact⟨h1,fun hk=>h3 k hk k (List.mem_singleton.2 rfl) rfl⟩
 ·rintro⟨h1,h2⟩
  exact⟨h1,by simp,fun a ha b hb=>by rw[List.mem_singleton.1 hb];rintro rfl;exact h2 ha⟩
theorem Zmd {l m:List Int} (h:(l++m).Nodup):l.Nodup:=(List.nodup_append.1 h).1
theorem Zvr {x:StV} (h:MayP x) (i:Nat):(ZS ((Zs x).take i)).Nodup:=by
 have h1:(ZS (Zs x)).Nodup:=Zmd h.nodup;have e:ZS (Zs x)=ZS ((Zs x).take i)++ZS ((Zs x).drop i):=by
  unfold ZS;rw[←List.map_append,List.take_append_drop]
 rw[e]at h1;exact Zmd h1
theorem Zwl {x:StV} (h:MayP x):x.free.Nodup:=(List.nodup_append.1 h.nodup).2.1
theorem ZtB {Bd:Za} (h:Zjc Bd) (n:Nat) (x:StV) (z1 z2 z3:Nat) (p1 p2 p3:Option (Nat×Nat)) (st:St) (hz1:z1=2∨p1=none) (hz2:z2=1∨p2=none) (hz3:z3=1∨p3=none) (hr:StR st x p1 p2 p3)
  (sz:SzS x) (hn:50200≤n):
  Ok (fun o=>∃b s',o=(.val [.bool b],s')∧Pre st s'∧(b=true↔MayP x)) (run Bd n 133 [.agg (stC x z1 p1 z2 p2 z3 p3)] st):=by
 obtain⟨n,rfl⟩: ∃m,n=m+1:=⟨n-1,by omega⟩;rw[Zf,h.eq];unfold Zgs;have ag: ∀(l:List DV) (K:List DV→List DV→M (List DV)),J.a (.agg (stC x z1 p1 z2 p2 z3 p3)::l) K=K (stC x z1 p1 z2 p2 z3 p3) l:=fun _ _=>rfl
 rw[ag];unfold stC;simp only[J_i,Zm 2 z1 p1 _ hz1,Zm 1 z2 p2 _ hz2,Zm 1 z3 p3 _ hz3,D_nil];have hsg:=sz.g;have hsf:=sz.f;have hse:=sz.e;have no: ∀s,Pre st s→¬MayP x→Ok (fun o=>∃b s',o=(.val [.bool b],s')∧Pre st s'∧(b=true↔MayP x)) ((M.ret [.bool false]:M (List DV)) s):=by
  intro s hp hm;rw[Zb];exact .mk ⟨false,s,rfl,hp,by simp[hm]⟩
 have hgeo:=Zj8 h.q79 (n-1) x.blocks x.slots x.g st;rw[show n-1+1=n by omega]at hgeo;rw[Zi hgeo];simp only[J_b,D_nil];rw[Zc];cases hg:geomF x.blocks x.slots x.g with
 |false=>
  rw[Bool.not_false,cond_true];simp only[J_b,D_nil];rw[Zc,cond_true];simp only[J_b,D_nil];rw[cond_true];exact no st (.refl _) fun hm=>by have:=hm.geom;rw[hg]at this;cases this
 |true=>
 rw[Bool.not_true,cond_false];simp only[J_b,D_nil];rw[Zc];by_cases c1:(x.gens.length:Int)>x.slots
 ·rw[decide_eq_true c1,cond_true]
  simp only[J_b,D_nil];rw[cond_true];exact no st (.refl _) fun hm=>by have:=hm.slots;omega
 rw[decide_eq_false c1,cond_false];obtain⟨ds,hs,hh⟩:=hr.hp;refine Ok.call (Zqn h.q82 n 2 x.heaps p1 ds st (.inl rfl) hs hh sz.h (by omega)) ?_;rintro _ ⟨b,s1,rfl,hp1,hb⟩;refine⟨_,s1,rfl,?_⟩;simp only[J_b,D_nil];cases b with
 |false=>
  rw[Bool.not_false,cond_true];exact no s1 hp1 fun hm=>by
   have:=hb.2 ⟨hm.few,hm.right,hm.order⟩;cases this
 |true=>
 have hheaps:Zmx x.heaps:=hb.1 rfl;rw[Bool.not_true,cond_false];refine Ok.call (Znr h.q43 n x 2 1 1 p1 p2 p3 s1 (.inl rfl) (.inl rfl) (.inl rfl) (hr.pre hp1) sz.h.len sz.e (by omega)) ?_;rintro _ ⟨qe,s2,rfl,hp2,hE⟩;refine⟨_,s2,rfl,?_⟩;simp only[J_l,D_nil];have hp2:=hp1.trans hp2;rw[Zc];by_cases c2:((Zs x).length:Int)>(x.gens.length:Int)
 ·rw[decide_eq_true c2,cond_true]
  simp only[J_b,D_nil];rw[cond_true];refine no s2 hp2 fun hm=>?_
  have:=pig x.gens.length _ hm.nodup hm.range;rw[List.length_append,List.length_map]at this;omega
 rw[decide_eq_false c2,cond_false];simp only[J_b,D_nil];by_cases c3:(x.free.length:Int)>(x.gens.length:Int)
 ·rw[decide_eq_true c3,cond_true]
  refine no s2 hp2 fun hm=>?_
  have:=pig x.gens.length _ hm.nodup hm.range;rw[List.length_append,List.length_map]at this;omega
 rw[decide_eq_false c3,cond_false];rw[Ze (by simp;omega),Zu,Int.toNat_natCast,ZzR];rw[Zc,Zc,Zc];have hgn2:=(hr.gn.mono hp2);refine Zk _ (fun q y s=>∃i:Nat,y=[.int .i64 i]∧i≤(Zs x).length∧(Zs x).length-i≤q∧Pre s2 s∧s[s2.length]? =some (some ⟨false,lv x.gens.length (ZS ((Zs x).take i))⟩)∧
   (ZS ((Zs x).take i)).Nodup∧∀e∈(Zs x).take i,(0≤e.slot∧e.slot<(x.gens.length:Int))∧genAt x e.slot=e.gen) ?_ (Zs x).length n _ _ ⟨0,rfl,Nat.zero_le _,by omega,.new _ _,by simp[ZS],by simp[ZS],by simp⟩ (by omega)
 rintro q _ s ⟨i,rfl,hi,hq,hp,hlv,hnd,hall⟩ rec hrec;simp only[J_i,D_nil];by_cases hlt:i<(Zs x).length
 ·rw[decide_eq_true (show(i:Int)<((Zs x).length:Int) by omega),cond_true]
  obtain⟨ei,eo,rfl⟩:=hE.some_of (by rw[ZA];omega);have he:(Zs x)[i]? =some (Zs x)[i]:=List.getElem?_eq_getElem hlt;have hst:=Zwz _ hlt;have hbad: ¬((0≤(Zs x)[i].slot∧(Zs x)[i].slot<(x.gens.length:Int))∧genAt x (Zs x)[i].slot=(Zs x)[i].gen)→¬MayP x:=fun hno hm=>
   hno ⟨hm.range _ (List.mem_append_left _ (List.mem_map.2 ⟨_,List.getElem_mem hlt,rfl⟩)),hm.gen _ (List.getElem_mem hlt)⟩
  have htk:(Zs x).take (i+1)=(Zs x).take i++[(Zs x)[i]]:=List.take_succ_eq_append_getElem hlt;generalize hee:(Zs x)[i]=e at he hst hbad htk;rw[nn_some',Ze (Zl hlt),Int.toNat_natCast,Zxs (hE.mono hp) he];simp only[J_i,D_nil];have hpst:=hp2.trans hp;rw[Zc];by_cases d1:e.slot<0
  ·rw[decide_eq_true d1,cond_true]
   simp only[J_b,D_nil];rw[Zc,cond_true];simp only[J_b,D_nil];rw[Zc,cond_true];simp only[J_b,D_nil];rw[cond_true];exact no s hpst (hbad (by omega))
  rw[decide_eq_false d1,cond_false];simp only[J_b,D_nil];rw[Zc];by_cases d2:e.slot≥(x.gens.length:Int)
  ·rw[decide_eq_true d2,cond_true]
   simp only[J_b,D_nil];rw[Zc,cond_true];simp only[J_b,D_nil];rw[cond_true];exact no s hpst (hbad (by omega))
  rw[decide_eq_false d2,cond_false];have hin:0≤e.slot∧e.slot<(x.gens.length:Int):=by omega
  rw[Ze (Zd0 hin),Zp4 hlv hin];simp only[D_bool,J_b,D_nil];rw[Zc];by_cases d3:e.slot∈ZS ((Zs x).take i)
  ·rw[decide_eq_true d3,cond_true]
   simp only[J_b,D_nil];rw[cond_true];refine no s hpst fun hm=>?_
   have:=Zvr hm (i+1);rw[hst]at this;exact(ZhD.1 this).2 d3
  rw[decide_eq_false d3,cond_false];obtain⟨gi,go,rfl⟩:=hr.gn.some_of (by simp[ints];omega);rw[nn_some',Ze (Zd0 hin),(hgn2.mono hp).get1 (ZpF hin)];simp only[D_int,J_b,D_nil];by_cases d4:genAt x e.slot=e.gen
  ·rw[show(e.gen==genAt x e.slot)=true by rw[d4];exact beq_self_eq_true _,Bool.not_true,cond_false,Ze (Zd0 hin),ZkA hlv (by rw[Zxg];simp;omega),Zz3 hin]
   rw[Zd (by omega) (by omega)];refine hrec ((Zs x).length-(i+1)) _ _ (by omega) ⟨i+1,rfl,by omega,by omega,Zcj hp (Nat.le_refl _) _,?_,?_,?_⟩
   ·rw[hst]
    exact Zs0 hlv _
   ·rw[hst]
    exact ZhD.2 ⟨hnd,d3⟩
   ·intro e' he'
    rw[htk]at he';rcases List.mem_append.1 he' with h|h
    ·exact hall e' h
    ·rw[List.mem_singleton.1 h]
     exact⟨hin,d4⟩
  ·rw[show(e.gen==genAt x e.slot)=false from beq_eq_false_iff_ne.2 (Ne.symm d4),Bool.not_false,cond_true]
   exact no s hpst (hbad fun hh=>d4 hh.2)
 rw[decide_eq_false (show ¬(i:Int)<((Zs x).length:Int) by omega),cond_false];have:i=(Zs x).length:=by omega
 subst this;rw[List.take_length]at hlv hnd hall;clear hrec rec;have hp3:=hp2.trans hp;have hfr:=hr.fr.mono hp3;have hgn:=hr.gn.mono hp3;have hbadF: ∀k∈x.free,¬((0≤k∧k<(x.gens.length:Int))∧k∉ZS (Zs x)∧genAt x k<x.g)→¬MayP x:=fun k hk hno hm=>
  hno ⟨hm.range _ (List.mem_append_right _ hk),fun hk2=>(List.nodup_append.1 hm.nodup).2.2 k hk2 k hk rfl,hm.low k hk⟩
 refine Zk _ (fun q y s'=>∃i:Nat,y=[.int .i64 i]∧i≤x.free.length∧x.free.length-i≤q∧s'=s∧(x.free.take i).Nodup∧∀k∈x.free.take i,(0≤k∧k<(x.gens.length:Int))∧k∉ZS (Zs x)∧genAt x k<x.g) ?_ x.free.length n _ _
  ⟨0,rfl,Nat.zero_le _,by omega,rfl,by simp,by simp⟩ (by omega)
 rintro q' _ s' ⟨i,rfl,hi',hq',rfl,hndf,hallf⟩ rec hrec;simp only[J_i,D_nil];by_cases hlt:i<x.free.length
 ·rw[decide_eq_true (show(i:Int)<(x.free.length:Int) by omega),cond_true]
  obtain⟨fi,fo,rfl⟩:=hr.fr.some_of (by simp[ints];omega);rw[nn_some',Ze (Zl hlt),Int.toNat_natCast,hfr.get1 (d:= .int .i64 x.free[i]) (by simp[ints,hlt])];simp only[D_int];have hbadF:=hbadF _ (List.getElem_mem hlt);have htk:x.free.take (i+1)=x.free.take i++[x.free[i]]:=List.take_succ_eq_append_getElem hlt;generalize x.free[i]=k at hbadF htk;rw[Zc];by_cases d1:k<0
  ·rw[decide_eq_true d1,cond_true]
   simp only[J_b,D_nil];rw[Zc,cond_true];simp only[J_b,D_nil];rw[Zc,cond_true];simp only[J_b,D_nil];rw[Zc,cond_true];simp only[J_b,D_nil];rw[cond_true];exact no s' hp3 (hbadF (by omega))
  rw[decide_eq_false d1,cond_false];simp only[J_b,D_nil];rw[Zc];by_cases d2:k≥(x.gens.length:Int)
  ·rw[decide_eq_true d2,cond_true]
   simp only[J_b,D_nil];rw[Zc,cond_true];simp only[J_b,D_nil];rw[Zc,cond_true];simp only[J_b,D_nil];rw[cond_true];exact no s' hp3 (hbadF (by omega))
  rw[decide_eq_false d2,cond_false];have hin:0≤k∧k<(x.gens.length:Int):=by omega
  rw[Ze (Zd0 hin),Zp4 hlv hin];simp only[D_bool,J_b,D_nil];rw[Zc];by_cases d3:k∈ZS (Zs x)
  ·rw[decide_eq_true d3,cond_true]
   simp only[J_b,D_nil];rw[Zc,cond_true];simp only[J_b,D_nil];rw[cond_true];exact no s' hp3 (hbadF fun hh=>hh.2.1 d3)
  rw[decide_eq_false d3,cond_false];obtain⟨gi,go,rfl⟩:=hr.gn.some_of (by simp[ints];omega);rw[nn_some',Ze (Zd0 hin),hgn.get1 (ZpF hin)];simp only[D_int,J_b,D_nil];rw[Zc];by_cases d4:genAt x k≥x.g
  ·rw[decide_eq_true d4,cond_true]
   simp only[J_b,D_nil];rw[cond_true];exact no s' hp3 (hbadF fun hh=>by have:=hh.2.2;omega)
  rw[decide_eq_false d4,cond_false,Ze (by simp;omega)];have hsub:Sl s' (some (fi,fo)) (ints (x.free.take i)):=by
   obtain⟨f,all,h1,h2,h3⟩:=hfr;have hil:(ints (x.free.take i)).length=i:=by simp[ints];omega
   have hfl:(ints x.free).length=x.free.length:=by simp[ints]
   refine⟨f,all,h1,by omega,?_⟩;have:=congrArg (List.take i) h3;rw[List.take_take,hfl,Nat.min_eq_left (by omega)]at this;rw[hil,this];unfold ints;rw[List.map_take]
  have hlen:(x.free.take i).length=i:=by simp;omega
  have hhas:=Zmr h.q120 n 1 (x.free.take i) k (some (fi,fo)) s' (.inl rfl) hsub (by omega) (by omega);rw[hlen]at hhas;refine Ok.call hhas ?_;rintro _ rfl;refine⟨_,s',rfl,?_⟩;simp only[J_b,D_nil];by_cases d5:k∈x.free.take i
  ·rw[decide_eq_true d5,cond_true]
   refine no s' hp3 fun hm=>?_
   have:=Zwl hm;rw[←List.take_append_drop (i+1) x.free]at this;have:=Zmd this;rw[htk]at this;exact(ZhD.1 this).2 d5
  ·rw[decide_eq_false d5,cond_false,Zd (by omega) (by omega)]
   refine hrec (x.free.length-(i+1)) _ _ (by omega) ⟨i+1,rfl,by omega,by omega,rfl,?_,?_⟩
   ·rw[htk]
    exact ZhD.2 ⟨hndf,d5⟩
   ·intro k' hk'
    rw[htk]at hk';rcases List.mem_append.1 hk' with h|h
    ·exact hallf k' h
    ·rw[List.mem_singleton.1 h]
     exact⟨hin,d3,by omega⟩
 rw[decide_eq_false (show ¬(i:Int)<(x.free.length:Int) by omega),cond_false];have:i=x.free.length:=by omega
 subst this;rw[List.take_length]at hndf hallf;clear hrec rec;have hbadG: ∀i:Nat,i<x.gens.length→¬(1≤genAt x i∧genAt x i≤x.g∧((i:Int)∉ZS (Zs x)→genAt x i<x.g→(i:Int)∈x.free))→¬MayP x:=by
  intro i hi hno hm;have hv:genAt x (i:Int)∈x.gens:=by
   unfold genAt;rw[Int.toNat_natCast,List.getD_eq_getElem?_getD,List.getElem?_eq_getElem hi];exact List.getElem_mem hi
  refine hno ⟨(hm.gens _ hv).1,(hm.gens _ hv).2,fun h1 h2=>?_⟩;refine Classical.byContradiction fun h3=>?_
  have:=hm.rest i hi (fun h4=>by
   rcases List.mem_append.1 h4 with h|h
   ·exact h1 h
   ·exact h3 h)
  omega
 refine Zk _ (fun q y s''=>∃i:Nat,y=[.int .i64 i]∧i≤x.gens.length∧x.gens.length-i≤q∧s''=s'∧∀j:Nat,j<i→1≤genAt x j∧genAt x j≤x.g∧((j:Int)∉ZS (Zs x)→genAt x j<x.g→(j:Int)∈x.free)) ?_ x.gens.length n _ _
  ⟨0,rfl,Nat.zero_le _,by omega,rfl,fun j hj=>absurd hj (Nat.not_lt_zero j)⟩ (by omega)
 rintro q'' _ s'' ⟨i,rfl,hi'',hq'',rfl,hallg⟩ rec hrec;simp only[J_i,D_nil];by_cases hlt:i<x.gens.length
 ·rw[decide_eq_true (show(i:Int)<(x.gens.length:Int) by omega),cond_true]
  obtain⟨gi,go,rfl⟩:=hr.gn.some_of (by simp[ints];omega);have hin:0≤(i:Int)∧(i:Int)<(x.gens.length:Int):=by omega
  have hbadG:=hbadG i hlt;have ld: ∀K:DV→M (List DV),M.load1 gi ((i:Int).toNat*1+go) K s''=K (.int .i64 (genAt x i)) s'':=fun K=>hgn.get1 (ZpF hin) K
  rw[nn_some',Ze (Zd0 hin),ld];simp only[D_int];rw[Zc];by_cases d1:genAt x i<1
  ·rw[decide_eq_true d1,cond_true]
   simp only[J_b,D_nil];rw[Zc,cond_true];simp only[J_b,D_nil];rw[cond_true];exact no s'' hp3 (hbadG (by omega))
  rw[decide_eq_false d1,cond_false,nn_some',Ze (Zd0 hin),ld];simp only[D_int,J_b,D_nil];rw[Zc];by_cases d2:genAt x i>x.g
  ·rw[decide_eq_true d2,cond_true]
   simp only[J_b,D_nil];rw[cond_true];exact no s'' hp3 (hbadG (by omega))
  rw[decide_eq_false d2,cond_false,Ze (Zd0 hin),Zp4 hlv hin];simp only[D_bool];have go1:(1≤genAt x i∧genAt x i≤x.g∧((i:Int)∉ZS (Zs x)→genAt x i<x.g→(i:Int)∈x.free))→Ok (fun o=>∃b s',o=(.val [.bool b],s')∧Pre st s'∧(b=true↔MayP x)) (rec [.int .i64 (wr64 ((i:Int)+1))] s''):=by
   intro hgood;rw[Zd (by omega) (by omega)];refine hrec (x.gens.length-(i+1)) _ _ (by omega) ⟨i+1,rfl,by omega,by omega,rfl,fun j hj=>?_⟩;by_cases hji:j<i
   ·exact hallg j hji
   ·have:j=i:=by omega
    subst this;exact hgood
  rw[Zc];by_cases d3:(i:Int)∈ZS (Zs x)
  ·rw[decide_eq_true d3,Bool.not_true,cond_false]
   simp only[J_b,D_nil];rw[Zc,cond_false];simp only[J_b,D_nil];rw[cond_false];exact go1 ⟨by omega,by omega,fun h=>absurd d3 h⟩
  rw[decide_eq_false d3,Bool.not_false,cond_true,nn_some',Ze (Zd0 hin),ld];simp only[D_int,J_b,D_nil];rw[Zc];by_cases d4:genAt x i<x.g
  ·rw[decide_eq_true d4,cond_true]
   refine Ok.call (Zmr h.q120 n 1 x.free i p3 s'' (.inl rfl) hfr (by omega) (by omega)) ?_;rintro _ rfl;refine⟨_,s'',rfl,?_⟩;simp only[J_b,D_nil];by_cases d5:(i:Int)∈x.free
   ·rw[decide_eq_true d5,Bool.not_true,cond_false]
    exact go1 ⟨by omega,by omega,fun _ _=>d5⟩
   ·rw[decide_eq_false d5,Bool.not_false,cond_true]
    exact no s'' hp3 (hbadG fun hh=>d5 (hh.2.2 d3 d4))
  ·rw[decide_eq_false d4,cond_false]
   simp only[J_b,D_nil];rw[cond_false];exact go1 ⟨by omega,by omega,fun _ h=>absurd h d4⟩
 rw[decide_eq_false (show ¬(i:Int)<(x.gens.length:Int) by omega),cond_false,Zb];have:i=x.gens.length:=by omega
 subst this;refine .mk ⟨true,s'',rfl,hp3,?_⟩;simp only[true_iff];exact {
  geom:=hg
  slots:=by omega
  few:=hheaps.1
  right:=hheaps.2.1
  order:=hheaps.2.2
  nodup:=List.nodup_append.2 ⟨hnd,hndf,fun a ha b hb=>by rintro rfl;exact(hallf a hb).2.1 ha⟩
  range:=fun k hk=>by
   rcases List.mem_append.1 hk with h|h
   ·obtain⟨e,he,rfl⟩:=List.mem_map.1 h
    exact(hall e he).1
   ·exact(hallf k h).1
  gen:=fun e he=>(hall e he).2
  low:=fun k hk=>(hallf k hk).2.2
  gens:=fun v hv=>by
   obtain⟨i,hi,rfl⟩:=List.getElem_of_mem hv;have:=hallg i hi;unfold genAt at this;rw[Int.toNat_natCast,List.getD_eq_getElem?_getD,List.getElem?_eq_getElem hi]at this;exact⟨this.1,this.2.1⟩
  rest:=fun i hi hno=>by
   have:=hallg i hi;refine Int.not_lt.1 fun hlt=>hno ?_
   by_cases hs:(i:Int)∈ZS (Zs x)
   ·exact List.mem_append_left _ hs
   ·exact List.mem_append_right _ (this.2.2 hs hlt) }
end Go.Gv.F
namespace Go.Gv.F
open Go.Gv
variable {β:Type}
theorem J_f (f:Nat) (ff fc r:List DV) (K:Nat→List DV→List DV→List DV→M β):J.f (.func f ff fc::r) K=K f ff fc r:=rfl
theorem Zql {Bd:Za} (h:Zbu Bd) (n z f:Nat) (ff fc:List DV) (l:List Int) (p:Option (Nat×Nat)) (st:St) (P:Int→Bool) (hz:z=1∨p=none) (hs:Sl st p (ints l)) (hn:l.length+10≤n) (hl:l.length<1000000)
  (hc: ∀v∈l,run Bd (n-2) f (ff++[.int .i64 v]++fc) st=some (.val [.bool (P v)],st)):
  run Bd n 147 [.slice z p l.length,.func f ff fc] st=some (.val [.bool (l.any P)],st):=by
 obtain⟨n,rfl⟩: ∃m,n=m+2:=⟨n-2,by omega⟩;rw[Zf,h.eq];unfold Z0;simp only[Zm 1 z p _ hz,J_f,D_nil];have hin:Ok (fun o=>∃y:Int,o=(.val [.int .i64 y],st)∧decide (y≥0)=l.any P) (run Bd (n+1) 156 [.slice 1 p l.length,.func f ff fc] st):=by
  rw[Zf,h.q5.eq];unfold Zbd;simp only[J_l,J_f,D_nil];rw[Zc];refine Zk _ (fun q y s=>∃i:Nat,y=[.int .i64 i]∧i≤l.length∧l.length-i≤q∧s=st∧∀v∈l.take i,P v=false) ?_ l.length n _ _ ⟨0,rfl,Nat.zero_le _,by omega,rfl,by simp⟩ (by omega);rintro q _ s ⟨i,rfl,hi,hq,rfl,hno⟩ rec hrec;simp only[J_i,D_nil];by_cases hlt:i<l.length
  ·obtain⟨i1,o1,rfl⟩:=hs.some_of (by simp[ints];omega)
   rw[decide_eq_true (show(i:Int)<(l.length:Int) by omega),cond_true,nn_some',Ze (Zl hlt),Int.toNat_natCast,hs.get1 (d:= .int .i64 l[i]) (by simp[ints,hlt])];simp only[D_int];have hv:=hc l[i] (List.getElem_mem hlt);rw[show n+2-2=n by omega]at hv;rw[Zi hv];simp only[J_b,D_nil];cases hp:P l[i]with
   |true=>
    rw[cond_true,Zb];refine .mk ⟨_,rfl,?_⟩;rw[decide_eq_true (by omega),List.any_eq_true.2 ⟨_,List.getElem_mem hlt,hp⟩]
   |false=>
    rw[cond_false,Zd (by omega) (by omega)];refine hrec (l.length-(i+1)) _ _ (by omega) ⟨i+1,rfl,by omega,by omega,rfl,?_⟩;intro v hv;rw[List.take_succ_eq_append_getElem hlt]at hv;rcases List.mem_append.1 hv with h|h
    ·exact hno v h
    ·rw[List.mem_singleton.1 h];exact hp
  ·rw[decide_eq_false (show ¬(i:Int)<(l.length:Int) by omega),cond_false,Zb]
   rw[List.take_of_length_le (by omega)]at hno;refine .mk ⟨_,rfl,?_⟩;rw[show decide ((-1:Int)≥0)=false from rfl];symm;rw[List.any_eq_false];intro v hv;rw[hno v hv];exact Bool.false_ne_true
 obtain⟨_,e,y,rfl,hy⟩:=hin;rw[Zi e];simp only[J_i,D_nil];rw[hy,Zb]
end Go.Gv.F
namespace Go.Gv.F
open Go.Gv
variable {β:Type}
end Go.Gv.F
