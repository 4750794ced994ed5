/- The walker's trees: what they are, no program in sight. -/
import Derived.Test.YtegglibipjjblaaGreatDoorGvZMb
namespace Go.Gv.F
open Go.Gv
structure TodoV where
 block:Int
 deg:Int
 par:EntV
 top:Bool
def kidsT (x:NodeV) (n:Nat):List TodoV:=((List.range n).map fun i=>(⟨x.kids.getD i 0,i,x.ent,false⟩:TodoV)).reverse
theorem ZvX (x:NodeV) (n:Nat):kidsT x (n+1)=⟨x.kids.getD n 0,n,x.ent,false⟩::kidsT x n:=by
 unfold kidsT;rw[List.range_succ,List.map_append,List.reverse_append];rfl
def ZlZ (v:WkV) (e:EntV) (k:Int):Bool:=match v.seats[e.slot.toNat]? with
 |none=>false
 |some x=>(x.live==true)&&((x.gen==e.gen)&&((x.block==k)&&true))
def ZfY (K:WkK) (v:WkV) (t:TodoV) (x:NodeV):Bool:=
 (bif ((x.kids.length:Nat):Int)==t.deg then(bif t.top then true else aheadF t.par x.ent)else false)&&
 (bif decide (x.ent.slot<K.sup.used)then ZlZ v x.ent t.block else false)
def ZdL (K:WkK):Nat→List EntV→List TodoV→WkV→Option (List EntV×WkV)
 |0,_,_,_=>none
 |_+1,out,[],v=>some (out,v)
 |f+1,out,t::r,v=>match takeM K t.block v with
  |some (.node x,v')=>bif ZfY K v' t x then ZdL K f (out++[x.ent]) (kidsT x x.kids.length++r) { v' with nodes:=v'.nodes+1 } else none
  |_=>none
def ent0:EntV:=⟨0,0,0,0⟩
def treeM (K:WkK) (k deg:Int) (v:WkV):Option (List EntV×WkV):=ZdL K (K.m+1) [] [⟨k,deg,ent0,true⟩] v
def room (m:Nat) (W:List Nat):Nat:=(List.range m).countP fun b=> !inW W b
theorem Zq0 {P Q:Nat→Bool} : ∀ {l:List Nat} {k:Nat},(∀b,Q b=true→P b=true)→k∈l→P k=true→Q k=false→l.countP Q+1≤l.countP P
 |[],_,_,h,_,_=>by cases h
 |a::l,k,hm,h,hp,hq=>by
  rw[List.countP_cons,List.countP_cons];rcases List.mem_cons.1 h with rfl|h
  ·rw[hp,hq]
   have:=List.countP_mono_left (l:=l) (p:=Q) (q:=P) fun b _ hb=>hm b hb
   simp;omega
  ·have:=Zq0 hm h hp hq
   cases hQ:Q a with
   |true=>rw[hm a hQ];omega
   |false=>cases P a<;>simp<;>omega
theorem ZvE (m:Nat) (W:List Nat):room m W≤m:=by
 unfold room;exact Nat.le_trans (List.countP_le_length) (by simp)
theorem Znl {m:Nat} {W:List Nat} {k:Int} (hl:W.length=(m+63)/64) (h:freeF m W k=true):room m (addW m W k)+1≤room m W:=by
 unfold freeF at h;rw[Bool.and_eq_true,Bool.and_eq_true]at h;obtain⟨_,hm,hi⟩:=h;have hm':=hm;unfold mayF at hm';rw[Bool.and_eq_true,decide_eq_true_iff,decide_eq_true_iff]at hm';refine Zq0 (k:=k.toNat) (fun b hb=>?_) (List.mem_range.2 (by omega)) hi ?_
 ·rw[ZmB hl]at hb
  rw[Bool.not_eq_true']at hb⊢;rw[Bool.or_eq_false_iff]at hb;exact hb.1
 ·rw[ZmB hl,hm]
  simp
theorem ZhR {K:WkK} {k:Int} {v v':WkV} {b:BlockV} (h:takeM K k v=some (b,v')):freeF K.m v.W k=true∧v'.W=addW K.m v.W k:=by
 unfold takeM at h;cases hf:freeF K.m v.W k with
 |false=>rw[hf]at h;cases h
 |true=>rw[hf]at h;cases h;exact⟨rfl,rfl⟩
def EntOk (v:WkV) (e:EntV):Prop:=0≤e.slot∧∃(x:SeatV) (k:Nat),v.seats[e.slot.toNat]? =some x∧x.block=(k:Int)∧inW v.W k=true
def Diff (l:List EntV):Prop:=l.Pairwise fun a b=>a.slot≠b.slot
theorem Zvp {l:List UInt8} {x:NodeV} (h:ZbV l= .node x):Zej x=true∧x.kids.length≤12:=by
 unfold ZbV at h;split at h
 ·rename_i e;cases h;exact Zlq e
 ·split at h
  ·cases h
  ·split at h
   ·cases h
   ·split at h
    ·cases h
    ·split at h<;>cases h
theorem Znh {x:NodeV} (h:Zej x=true):0≤x.ent.slot∧x.ent.slot<1792:=by
 unfold Zej at h;rw[Bool.and_eq_true,Bool.not_eq_true',Bool.or_eq_false_iff,Bool.or_eq_false_iff,decide_eq_false_iff_not,decide_eq_false_iff_not]at h;omega
theorem Zl4 {K:WkK} : ∀ {f:Nat} {acc out out':List EntV} {todo:List TodoV} {v v':WkV},v.W.length=(K.m+63)/64→ZdL K f out todo v=some (out',v')→(∀e∈acc++out,EntOk v e)→Diff (acc++out)→(∀e∈acc++out',EntOk v' e)∧Diff (acc++out')∧v'.W.length=(K.m+63)/64∧(∀k,inW v.W k=true→inW v'.W k=true)∧v'.seats=v.seats∧v'.heaps=v.heaps∧v'.gens=v.gens∧v'.free=v.free
 |0,_,_,_,_,_,_,_,h,_,_=>by cases h
 |f+1,acc,out,out',[],v,v',hl,h,h1,h2=>by cases h;exact⟨h1,h2,hl,fun _ h=>h,rfl,rfl,rfl,rfl⟩
 |f+1,acc,out,out',t::r,v,v',hl,h,h1,h2=>by
  unfold ZdL at h;cases ht:takeM K t.block v with
  |none=>rw[ht]at h;cases h
  |some q=>
   obtain⟨b,v1⟩:=q;rw[ht]at h;obtain⟨g1,g2,g3,g4,g5,g6⟩:=ZV ht;obtain⟨g7,g8⟩:=ZhR ht;cases b with
   |leaf x=>cases h
   |fan x=>cases h
   |queue x=>cases h
   |dir x=>cases h
   |none=>cases h
   |node x=>
    simp only at h;cases hf:ZfY K v1 t x with
    |false=>rw[hf]at h;cases h
    |true=>
     rw[hf,cond_true]at h;have hin: ∀k,inW v.W k=true→inW v1.W k=true:=fun k hk=>by rw[g8,ZmB hl,hk];rfl
     have hl1:v1.W.length=(K.m+63)/64:=by rw[g8,Zf8];exact hl
     have hfr:=g7;unfold freeF at hfr;rw[Bool.and_eq_true,Bool.and_eq_true,decide_eq_true_iff]at hfr;obtain⟨hk2,hkm,hki⟩:=hfr;have hslot:=(Znh (Zvp g6.symm).1).1;unfold ZfY at hf;rw[Bool.and_eq_true]at hf;have hseat:ZlZ v1 x.ent t.block=true:=by
      have h3:=hf.2;cases hd:decide (x.ent.slot<K.sup.used)with
      |false=>rw[hd]at h3;cases h3
      |true=>rw[hd]at h3;exact h3
     unfold ZlZ at hseat;cases hse:v1.seats[x.ent.slot.toNat]? with
     |none=>rw[hse]at hseat;cases hseat
     |some y=>
      rw[hse]at hseat;simp only[Bool.and_eq_true,and_true]at hseat;obtain⟨hy1,hy2,hy3⟩:=hseat;have hyb:y.block=(t.block.toNat:Int):=by rw[eq_of_beq hy3];omega
      have hold: ∀e∈acc++out,EntOk v1 e:=fun e he=>by
       obtain⟨a1,z,k,a2,a3,a4⟩:=h1 e he;exact⟨a1,z,k,by rw[g1];exact a2,a3,hin k a4⟩
      have hnew:EntOk v1 x.ent:=⟨hslot,y,t.block.toNat,hse,hyb,by
       rw[g8,ZmB hl,hkm];simp⟩
      have hdiff: ∀e∈acc++out,e.slot≠x.ent.slot:=fun e he heq=>by
       obtain⟨a1,z,k,a2,a3,a4⟩:=h1 e he;rw[heq,←g1,hse]at a2;cases a2;rw[a3]at hyb;have:k=t.block.toNat:=by omega
       rw[this]at a4;rw[a4]at hki;cases hki
      have key:=Zl4 (acc:=acc) (v:= { v1 with nodes:=v1.nodes+1 }) hl1 h (fun e he=>by
       rw[←List.append_assoc]at he;rcases List.mem_append.1 he with he|he
       ·exact hold e he
       ·rw[List.mem_singleton.1 he];exact hnew) (by
       unfold Diff;rw[←List.append_assoc,List.pairwise_append];refine⟨h2,List.pairwise_singleton _ _,fun a ha b hb=>?_⟩;rw[List.mem_singleton.1 hb];exact hdiff a ha)
      obtain⟨k1,k2,k3,k4,k5,k6,k7,k8⟩:=key;exact⟨k1,k2,k3,fun k hk=>k4 k (hin k hk),k5.trans g1,k6.trans g2,k7.trans g3,k8.trans g4⟩
end Go.Gv.F
namespace Go.Gv.F
open Go.Gv
variable {β:Type}
variable {K:WkK} {s:St} {v:WkV} {L:List Nat} {z1 z2 z3 z4:Nat} {p1 p2 p3 p4:Option (Nat×Nat)} {hd:List DV}
def OwnP (s:St) (a:Option (Nat×Nat)) (cs:List DV):Prop:=(a=none∧cs=[])∨∃b rest,a=some (b,0)∧s[b]? =some (some ⟨false,cs++rest⟩)
theorem OwnP.fx {T:List Nat} {s s':St} {a:Option (Nat×Nat)} {cs:List DV} (h:OwnP s a cs) (k:Fx T s s') (n: ∀b∈blk a,b∉T):OwnP s' a cs:=by
 rcases h with h1|⟨i,r,rfl,h3⟩
 ·exact .inl h1
 ·exact .inr ⟨i,r,rfl,k.2 i _ (n i (by simp[blk])) h3⟩
theorem OwnP.lt {s:St} {a:Option (Nat×Nat)} {cs:List DV} (h:OwnP s a cs): ∀b∈blk a,b<s.length:=by
 rcases h with⟨rfl,_⟩|⟨i,r,rfl,h3⟩
 ·intro b hb;cases hb
 ·intro b hb;rw[List.mem_singleton.1 hb];exact(List.getElem?_eq_some_iff.1 h3).1
theorem ZxY {s:St} {a:Option (Nat×Nat)} {cs:List DV} (h:OwnP s a cs) {sz n lim:Nat} (ds:List DV) (hz:0<sz) (hn:cs.length=n*sz) (hd:ds.length=sz) (hl:n+1≤lim):
  ∃b s',s.length≤b∧s'[b]? =some (some ⟨false,cs++ds⟩)∧Fx (blk a) s s'∧Kp s s'∧∀K:Option (Nat×Nat)→M β,(M.new ds fun i=>M.load i 0 sz fun cs'=>M.app sz a n cs' 1 lim K) s=K (some (b,0)) s':=by
 rcases h with⟨rfl,rfl⟩|⟨i,rest,rfl,hs⟩
 ·obtain⟨b,s',h1,h2,h3,h4,h5⟩:=Own.push3 (β:=β) (s0:=[]) (s:=s) (a:=none) (cs:=[]) (Own.nil ⟨s,rfl⟩) ds hz hn hd hl
  rcases h2.2 with⟨e,_⟩|⟨i,e,_,h6⟩
  ·cases e
  ·cases e
   exact⟨b,s',h1,h6,⟨by have:=(List.getElem?_eq_some_iff.1 h6).1;omega,fun i x _ e=>h4 i x e (fun o e=>by cases e)⟩,h3,h5⟩
 ·have hil:i<s.length:=(List.getElem?_eq_some_iff.1 hs).1
  have hs2:(s++[some (⟨false,ds⟩:Blk)])[i]? =some (some (⟨false,cs++rest⟩:Blk)):=by rw[List.getElem?_append_left hil];exact hs
  have hop:(s++[some (⟨false,ds⟩:Blk)]).open? i=some (cs++rest):=by unfold St.open?;rw[hs2]
  have hb:Nat.beq 1 0=false:=rfl;refine⟨s.length+1,(s++[some (⟨false,ds⟩:Blk)]).set i none++[some (⟨false,cs++ds⟩:Blk)],by omega,?_,⟨by simp;omega,fun y x hy e=>?_⟩,(Pre.new _ _).kp.trans ((Kp.set hs2 none).trans (Pre.new _ _).kp),fun K=>?_⟩
  ·rw[List.getElem?_append_right (by simp)];simp
  ·have hyl:=(List.getElem?_eq_some_iff.1 e).1
   have hne:i≠y:=fun e=>hy (by simp[blk,e])
   rw[List.getElem?_append_left (by simp;omega),List.getElem?_set_ne hne,List.getElem?_append_left hyl];exact e
  ·rw[Zu,ZT (f:=false) (all:=ds) (by simp) (by omega),List.drop_zero,List.take_of_length_le (by omega)]
   unfold M.app;simp only[hb,Nat.ble_eq_true_of_le hl,cond_true,cond_false,hop];rw[Nat.zero_add,Nat.ble_eq_true_of_le (by rw[List.length_append];omega),cond_true,List.drop_zero,←hn,List.take_left];simp
theorem WkM.setNodes (h:WkM K s v L z1 p1 z2 p2 z3 p3 z4 p4 hd) (x:Int):
  ∃s',(∀Kc:M β,M.store K.w 18 [.int .i64 x] Kc s=Kc s')∧WkM K s' { v with nodes:=x } L z1 p1 z2 p2 z3 p3 z4 p4 hd∧Fx [K.w] s s'∧Kp s s':=by
 have hne:=h.ne;have hfx:=Fx.set s K.w (some (⟨false,wkC K { v with nodes:=x } (slC z1 p1 v.seats.length) (slC z2 p2 v.heaps.length) (slC z3 p3 v.gens.length) (slC z4 p4 v.free.length)⟩:Blk));have hfxL:=hfx.mono (T':=L) fun y hy=>by rw[List.mem_singleton.1 hy];exact h.mem_w
 refine⟨_,fun Kc=>?_,⟨?_,h.e1,h.e2,h.e3,h.e4,h.o1.fx hfx fun b hb=>?_,h.o2.fx hfx fun b hb=>?_,h.o3.fx hfx fun b hb=>?_,h.o4.fx hfx fun b hb=>?_,h.heaps.fx hfxL (Nw.refl L s),h.set.fx hfx (by simpa using hne.1.symm) (by simpa using hne.2.1.symm),Sl.fx h.img hfxL h.off,h.off,h.own,h.nodup⟩,hfx,Kp.set h.cell _⟩
 ·rw[Z1 h.cell (by show 18<19;omega)]
  rfl
 ·exact List.getElem?_set_self (List.getElem?_eq_some_iff.1 h.cell).1
 all_goals simpa using (hne.2.2.2 b (by simp[hb])).1
def Zj1 (t:TodoV):List DV:=[.int .i64 t.block,.int .i64 t.deg,.int .i64 t.par.slot,.int .i64 t.par.gen,.int .i64 t.par.key,.int .i64 t.par.value,.bool t.top]
def todoC (l:List TodoV):List DV:=(l.map Zj1).flatten
theorem Zi3 (l:List TodoV):(todoC l).length=l.length*7:=by
 unfold todoC;induction l with
 |nil=>rfl
 |cons e l ih=>rw[List.map_cons,List.flatten_cons,List.length_append,ih,List.length_cons];show 7+_=_;omega
theorem ZqW (l m:List TodoV):todoC (l++m)=todoC l++todoC m:=by unfold todoC;rw[List.map_append,List.flatten_append]
theorem Zmo (x:NodeV) (n:Nat):(kidsT x n).length=n:=by unfold kidsT;simp
theorem ZzJ {Kn:List DV→M (List DV)} {Q:Out (List DV)×St→Prop} (n:Nat) (_hd0:s.length=s.length) (x:NodeV) (px:Option (Nat×Nat)) (r:List TodoV) (t0:St) (pT0:Option (Nat×Nat)) (hx:Fz t0 px (ints x.kids)) (hx12:x.kids.length≤12) (ho:OwnP t0 pT0 (todoC r.reverse)) (hr:r.length<100000) (hnw: ∀b∈blk pT0,s.length≤b) (hsl:s.length≤t0.length) (hn:20≤n)
  (hK: ∀t pT z,(z=7∨pT=none)→OwnP t pT (todoC (kidsT x x.kids.length++r).reverse)→(∀b∈blk pT,s.length≤b∧(b∈blk pT0∨t0.length≤b))→Fx (blk pT0) t0 t→Ok Q (Kn [.slice z pT (r.length+x.kids.length)] t)) (z0:Nat) (hz0:z0=7∨pT0=none):
  Ok Q (M.loop (fun rec2 st=>
      J.l 7 st fun todo3 todo3n st=>
      J.i .i64 st fun x15 st=>
      D.nil st<|
      bif decide (x15<(x.kids.length:Int))then
       M.nn px fun i6 o4=>
      M.chk (inB x15 x.kids.length)<|
      M.load1 i6 (x15.toNat*1+o4) fun d3=>
      D.int .i64 d3 fun x16=>
      M.new [.int .i64 x16,.int .i64 x15,.int .i64 x.ent.slot,.int .i64 x.ent.gen,.int .i64 x.ent.key,.int .i64 x.ent.value,.bool false] fun i7=>
      M.load i7 0 7 fun cs3=>
      M.app 7 todo3 todo3n cs3 1 1256584717458 fun p1=>
      rec2 [.slice 7 p1 (todo3n+1),.int .i64 (wr64 (x15+1))]
      else
       Kn [.slice 7 todo3 todo3n]) n [.slice z0 pT0 r.length,.int .i64 0] t0):=by
 refine Zk _ (fun q y t=>∃(i z:Nat) (pT:Option (Nat×Nat)),y=[.slice z pT (r.length+i),.int .i64 i]∧(z=7∨pT=none)∧i≤x.kids.length∧x.kids.length-i≤q∧OwnP t pT (todoC (kidsT x i++r).reverse)∧(∀b∈blk pT,s.length≤b∧(b∈blk pT0∨t0.length≤b))∧Fx (blk pT0) t0 t∧Fz t px (ints x.kids)) ?_ x.kids.length n _ _ ⟨0,z0,pT0,rfl,hz0,Nat.zero_le _,by omega,ho,fun b hb=>⟨hnw b hb,.inl hb⟩,.refl _ _,hx⟩ (by omega);rintro q _ t ⟨i,z,pT,rfl,hz,hi,hq,hoT,hbT,hfx,hxt⟩ rec hrec;simp only[J_i,Zm 7 z pT _ hz,D_nil];by_cases hlt:i<x.kids.length
 ·obtain⟨i1,o1,rfl⟩:=hxt.1.some_of (by simp[ints];omega)
  rw[decide_eq_true (show(i:Int)<(x.kids.length:Int) by omega),cond_true,nn_some',Ze (Zl hlt),Int.toNat_natCast,hxt.1.get1 (Zw hlt)];simp only[D_int];have hl7:(todoC (kidsT x i++r).reverse).length=(r.length+i)*7:=by rw[Zi3,List.length_reverse,List.length_append,Zmo];omega
  obtain⟨b,t1,g1,g2,g3,g4,g5⟩:=ZxY (β:=List DV) hoT (sz:=7) (n:=r.length+i) (lim:=1256584717458) (Zj1 ⟨x.kids[i],i,x.ent,false⟩) (by omega) hl7 rfl (by omega);refine Eq.mpr (congrArg (Ok _) (g5 _)) ?_;have hw4:wr64 ((i:Int)+1)=((i+1:Nat):Int):=Zd (by omega) (by omega);rw[hw4];refine hrec (x.kids.length-(i+1)) _ _ (by omega) ⟨i+1,7,some (b,0),rfl,.inl rfl,by omega,Nat.le_refl _,.inr ⟨b,[],rfl,?_⟩,?_,?_,hxt.kp g4⟩
  ·rw[g2,List.append_nil,ZvX,List.cons_append,List.reverse_cons,ZqW]
   have:x.kids.getD i 0=x.kids[i]:=by rw[List.getD_eq_getElem?_getD,List.getElem?_eq_getElem hlt];rfl
   rw[this];simp[todoC]
  ·intro y hy
   rw[List.mem_singleton.1 hy];have:=hfx.1;exact⟨by omega,.inr (by omega)⟩
  ·exact hfx.step g3 fun y hy=>(hbT y hy).2
 ·rw[decide_eq_false (show ¬(i:Int)<(x.kids.length:Int) by omega),cond_false]
  have:i=x.kids.length:=by omega
  subst this;exact hK t pT 7 (.inl rfl) hoT hbT hfx
end Go.Gv.F
namespace Go.Gv.F
open Go.Gv
variable {β:Type}
variable {K:WkK} {s:St} {v:WkV} {L:List Nat} {z1 z2 z3 z4:Nat} {p1 p2 p3 p4:Option (Nat×Nat)} {hd:List DV}
theorem ZxT {Bd:Za} (h:Zbx Bd) (n:Nat) (hn:8≤n) (a b:EntV) (st:St):
  Ok (fun o=>∃z s',o=(.val [.int .i64 z],s')∧Pre st s'∧decide (z<0)=aheadF a b) (run Bd n 159 [.agg (entC a),.agg (entC b)] st):=by
 refine(ev_node_Compare h n hn a b st).mono ?_;rintro _ ⟨z,s',rfl,hp,e⟩;refine⟨z,s',rfl,hp,?_⟩;cases ha:aheadF a b with
 |true=>
  rw[ha]at e;have:=of_decide_eq_false e;exact decide_eq_true (by omega)
 |false=>
  rw[ha]at e;have:=of_decide_eq_true e;exact decide_eq_false (by omega)
theorem Ok.join {Q:Out β×St→Prop} {f:List DV→M β} {g:(List DV→M β)→M β} {s:St} (h: ∀jk,jk=f→Ok Q (g jk s)):Ok Q (M.join f g s):=by rw[Zc];exact h f rfl
theorem Zyl (pn:M β) (x:NodeV) (px:Option (Nat×Nat)) (Kc:Int→Int→Int→Int→Option (Nat×Nat)→Nat→M β):D.asr pn (.iface 6 (.agg (nodeC x 1 px))) 6 (fun d=>D.agg d fun cs1=>J.i .i64 cs1 fun x8 r=>J.i .i64 r fun x9 r=>J.i .i64 r fun x10 r=>J.i .i64 r fun x11 r=>J.l 1 r fun x12 x12n r=>D.nil r<|Kc x8 x9 x10 x11 x12 x12n)=Kc x.ent.slot x.ent.gen x.ent.key x.ent.value px x.kids.length:=rfl
def TreeQ (K:WkK) (s:St) (v:WkV) (L:List Nat) (z1:Nat) (p1:Option (Nat×Nat)) (z2:Nat) (p2:Option (Nat×Nat)) (z3:Nat) (p3:Option (Nat×Nat)) (z4:Nat) (p4:Option (Nat×Nat)) (hd:List DV) (R:Option (List EntV×WkV)) (o:Out (List DV)×St):Prop:=match R with
 |none=>∃s',o=(.pan,s')∧Fx L s s'
 |some (out,v')=>∃p z s',o=(.val [.slice z p out.length],s')∧(z=4∨p=none)∧WkM K s' v' L z1 p1 z2 p2 z3 p3 z4 p4 hd∧Fx L s s'∧OwnP s' p (entsC out)∧(∀b∈blk p,s.length≤b)∧v'.nodes+(room K.m v'.W:Nat)≤v.nodes+(room K.m v.W:Nat)∧v.nodes≤v'.nodes∧out.length≤4000
theorem WkM.keepO {s0 s':St} {T:List Nat} (h:WkM K s v L z1 p1 z2 p2 z3 p3 z4 p4 hd) (h0:HeapsO s0 L hd v.heaps) (hl: ∀x∈L,x<s0.length) (ha: ∀b o,K.a=some (b,o)→b<s0.length) (k0:Fx L s0 s) (k:Fx T s s') (hT: ∀x∈T,s0.length≤x):WkM K s' v L z1 p1 z2 p2 z3 p3 z4 p4 hd∧Fx L s0 s':=by
 have hf:Fx L s0 s':=k0.step k fun x hx=> .inr (hT x hx)
 exact⟨h.keep k (fun x hx hm=>by have:=hl x hm;have:=hT x hx;omega) (fun b o e hm=>by have:=ha b o e;have:=hT b hm;omega) (h0.fx hf (Nw.refl L s0)),hf⟩
theorem Zzl {Bd:Za} (h:Zcv Bd) (n:Nat) (hK:WkOk K) (k deg:Int) (hW:WkM K s v L z1 p1 z2 p2 z3 p3 z4 p4 hd) (h0:0≤K.sup.used) (h1:K.sup.used≤1792) (hs:(v.seats.length:Int)=K.sup.used) (hnd:0≤v.nodes) (hnr:v.nodes+(room K.m v.W:Nat)≤5000) (hm:K.m≤3072) (hn:4010≤n):
  Ok (TreeQ K s v L z1 p1 z2 p2 z3 p3 z4 p4 hd (treeM K k deg v)) (run Bd n 233 [.ptr (some (K.w,0)),.int .i64 k,.int .i64 deg] s):=by
 obtain⟨n,rfl⟩: ∃k,n=k+2:=⟨n-2,by omega⟩;rw[Zf,h.eq];unfold Zco treeM;simp only[J_p,J_i,D_nil];rw[Zu];have hlL:=hW.lt;have haL: ∀b o,K.a=some (b,o)→b<s.length:=fun b o e=>Sl.lt (e▸hW.img)
 have hp0:=Pre.new s (some (⟨false,[DV.int .i64 k,.int .i64 deg,.int .i64 0,.int .i64 0,.int .i64 0,.int .i64 0,.bool true]⟩:Blk));have hb0:(s++[some (⟨false,[DV.int .i64 k,.int .i64 deg,.int .i64 0,.int .i64 0,.int .i64 0,.int .i64 0,.bool true]⟩:Blk)])[s.length]? =some (some ⟨false,todoC [⟨k,deg,ent0,true⟩]⟩):=by simp;rfl
 have hW0:=hW.pre hp0;generalize s++[some (⟨false,[DV.int .i64 k,.int .i64 deg,.int .i64 0,.int .i64 0,.int .i64 0,.int .i64 0,.bool true]⟩:Blk)]=s0 at hp0 hb0 hW0;obtain⟨R,hR⟩: ∃R,ZdL K (K.m+1) [] [⟨k,deg,ent0,true⟩] v=R:=⟨_,rfl⟩;rw[hR,Zc];have hrm:=ZvE K.m v.W;refine Zk _ (fun q y t=>∃(f:Nat) (out:List EntV) (todo:List TodoV) (u:WkV) (zo:Nat) (po:Option (Nat×Nat)) (zt:Nat) (pt:Option (Nat×Nat)),y=[.slice zo po out.length,.slice zt pt todo.length]∧(zo=4∨po=none)∧(zt=7∨pt=none)∧room K.m u.W≤q∧room K.m u.W<f∧WkM K t u L z1 p1 z2 p2 z3 p3 z4 p4 hd∧u.seats=v.seats∧u.heaps=v.heaps∧Fx L s t∧OwnP t po (entsC out)∧OwnP t pt (todoC todo.reverse)∧(∀b∈blk po,s.length≤b)∧(∀b∈blk pt,s.length≤b)∧(∀b∈blk po,b∉blk pt)∧v.nodes≤u.nodes∧u.nodes+(room K.m u.W:Nat)≤v.nodes+(room K.m v.W:Nat)∧out.length+room K.m u.W≤3072∧todo.length+12*room K.m u.W≤40000∧ZdL K f out todo u=R) ?_ (room K.m v.W) (n+1) _ _ ⟨K.m+1,[],[⟨k,deg,ent0,true⟩],v,0,none,7,some (s.length,0),rfl,.inr rfl,.inl rfl,Nat.le_refl _,by omega,hW0,rfl,rfl,Fx.pre L hp0,.inl ⟨rfl,rfl⟩,.inr ⟨s.length,[],rfl,by rw[List.append_nil];exact hb0⟩,fun _ h=>(by cases h),fun b hb=>by rw[List.mem_singleton.1 hb];exact Nat.le_refl _,fun _ h=>(by cases h),Int.le_refl _,Int.le_refl _,by simp;omega,by simp;omega,hR⟩ (by omega);rintro q _ t ⟨f,out,todo,u,zo,po,zt,pt,rfl,hzo,hzt,hrq,hrf,hWu,hus,huh,hfx,hoo,hot,hbo,hbt,hbd,hnn,hnr2,hol,htl,hgo⟩ rec hrec;simp only[Zm 4 zo po _ hzo,Zm 7 zt pt _ hzt,D_nil];obtain⟨f,rfl⟩: ∃k,f=k+1:=⟨f-1,by omega⟩;cases todo with
 |nil=>
  rw[show decide ((([]:List TodoV).length:Int)>0)=false from rfl,cond_false];simp only[J_l,D_nil];unfold ZdL at hgo;rw[Zb,←hgo];exact .mk ⟨po,4,t,rfl,.inl rfl,hWu,hfx,hoo,hbo,hnr2,hnn,by omega⟩
 |cons e r=>
  unfold ZdL at hgo;rw[decide_eq_true (show(((e::r).length:Nat):Int)>0 by simp only[List.length_cons];omega),cond_true];rw[Zc];rcases hot with⟨_,hx⟩|⟨bt,rest,rfl,hbt2⟩
  ·exfalso
   have:=congrArg List.length hx;rw[Zi3]at this;simp at this
  have hw1:wr64 ((((e::r).length:Nat):Int)-1)=(r.length:Int):=by
   have e3:((((e::r).length:Nat):Int)-1)=(r.length:Int):=by simp
   have h9:r.length<100000:=by simp only[List.length_cons]at htl;omega
   rw[e3];exact Zd (by omega) (by omega)
  simp only[hw1,Int.toNat_natCast];rw[nn_some',Ze (Zl (by simp))];have hcells:todoC (e::r).reverse=todoC r.reverse++Zj1 e:=by
   rw[List.reverse_cons,ZqW];simp[todoC]
  have hload: ∀Kc:List DV→M (List DV),M.load bt (r.length*7+0) 7 Kc t=Kc (Zj1 e) t:=fun Kc=>by
   rw[Nat.add_zero,ZT hbt2 (by rw[List.length_append,Zi3,List.length_reverse,List.length_cons];omega)];rw[hcells,show r.length*7=(todoC r.reverse).length by rw[Zi3,List.length_reverse],List.append_assoc,List.drop_left];rfl
  rw[hload];unfold Zj1;simp only[J_i,J_b,D_nil];rw[Ze (by rw[Bool.and_eq_true,decide_eq_true_iff,decide_eq_true_iff];simp;omega)];have hne:=hWu.ne;refine Ok.callP (hWu.take h.q21 (n+1) e.block hK.m hK.big hK.len (by omega)) ?_ ?_
  ·intro s' hp
   cases ht:takeM K e.block u with
   |none=>rw[ht]at hp hgo;cases hp;rw[←hgo];exact⟨t,rfl,hfx⟩
   |some q=>rw[ht]at hp;obtain⟨d,s2,e,_⟩:=hp;cases e
  intro ds t1 hp;cases ht:takeM K e.block u with
  |none=>rw[ht]at hp;cases hp
  |some q=>
   obtain⟨b,u1⟩:=q;rw[ht]at hp hgo;obtain⟨d,s2,e2,hW1,hfx1,hb⟩:=hp;cases e2;obtain⟨g1,g2,g3,g4,g5,g6⟩:=ZV ht;obtain⟨g7,g8⟩:=ZhR ht;have hroom:=Znl hWu.set.len g7;rw[←g8]at hroom;have hfx1L:Fx L s t1:=hfx.trans (hfx1.mono fun y hy=>by rw[List.mem_singleton.1 hy];exact hWu.mem_j);simp only[J_d,D_nil];cases b with
   |leaf x=>obtain⟨rfl,_⟩:=hb;rw[←hgo];exact .mk ⟨t1,rfl,hfx1L⟩
   |fan x=>obtain⟨rfl,_⟩:=hb;rw[←hgo];exact .mk ⟨t1,rfl,hfx1L⟩
   |queue x=>obtain⟨rfl,_⟩:=hb;rw[←hgo];exact .mk ⟨t1,rfl,hfx1L⟩
   |dir x=>obtain⟨p,rfl,_⟩:=hb;rw[←hgo];exact .mk ⟨t1,rfl,hfx1L⟩
   |none=>cases hb;rw[←hgo];exact .mk ⟨t1,rfl,hfx1L⟩
   |node x=>
    obtain⟨px,rfl,hxf,hxr,hx12⟩:=hb;simp only at hgo;rw[Zyl];have hslot:=Znh hxr;have hpan: ∀t',Fx L s t'→ZfY K u1 e x=false→Ok (TreeQ K s v L z1 p1 z2 p2 z3 p3 z4 p4 hd R) (some (.pan,t')):=fun t' hft hf=>by
     rw[hf,cond_false]at hgo;rw[←hgo];exact .mk ⟨t',rfl,hft⟩
    obtain⟨c1,hc1⟩: ∃c1,(bif ((x.kids.length:Nat):Int)==e.deg then(bif e.top then true else aheadF e.par x.ent)else false)=c1:=⟨_,rfl⟩;obtain⟨c2,hc2⟩: ∃c2,(bif decide (x.ent.slot<K.sup.used)then ZlZ u1 x.ent e.block else false)=c2:=⟨_,rfl⟩;have hfits:ZfY K u1 e x=(c1&&c2):=by unfold ZfY;rw[hc1,hc2]
    refine Ok.join fun jk3 hjk3=>?_
    have hA: ∀t2,WkM K t2 u1 L z1 p1 z2 p2 z3 p3 z4 p4 hd→Fx L s t2→OwnP t2 po (entsC out)→OwnP t2 (some (bt,0)) (todoC r.reverse)→Fz t2 px (ints x.kids)→Ok (TreeQ K s v L z1 p1 z2 p2 z3 p3 z4 p4 hd R) (jk3 [.bool c1] t2):=by
     intro t2 hW2 hfx2 hoo2 hot2 hxf2;rw[hjk3];simp only[J_b,D_nil];cases c1 with
     |false=>
      rw[ZH h.q111 n rfl];exact hpan t2 hfx2 (by rw[hfits];rfl)
     |true=>
     rw[Zbi h.q111 n rfl];simp only[D_nil];rw[nn_some',Zn hW2.cell rfl];simp only[D_int];refine Ok.join fun jk4 hjk4=>?_
     have hB:Ok (TreeQ K s v L z1 p1 z2 p2 z3 p3 z4 p4 hd R) (jk4 [.bool c2] t2):=by
      rw[hjk4];simp only[J_b,D_nil];cases c2 with
      |false=>
       rw[ZH h.q111 n rfl];exact hpan t2 hfx2 (by rw[hfits];rfl)
      |true=>
      rw[Zbi h.q111 n rfl];rw[hfits,Bool.and_true,cond_true]at hgo;simp only[D_nil,nn_some'];rw[Zn hW2.cell rfl];simp only[D_int];have hw5:wr64 (u1.nodes+1)=u1.nodes+1:=Zd (by rw[g5];omega) (by rw[g5];omega);rw[hw5,Nat.zero_add];obtain⟨t3,e3,hW3,hfx3,hkp3⟩:=hW2.setNodes (β:=List DV) (u1.nodes+1);rw[e3];have hwl:K.w∈L:=hWu.mem_w;have hfx3L:Fx L s t3:=hfx2.trans (hfx3.mono fun y hy=>by rw[List.mem_singleton.1 hy];exact hwl);have hnl: ∀b,s.length≤b→b∉L:=fun b hb hm=>by have:=hlL b hm;omega
      have hnw: ∀b,s.length≤b→b∉[K.w]:=fun b hb hm=>by rw[List.mem_singleton.1 hm]at hb;have:=hlL _ hwl;omega
      have hoo3:=hoo2.fx hfx3 fun b hb=>hnw b (hbo b hb)
      have hot3:=hot2.fx hfx3 fun b hb=>hnw b (hbt b hb)
      have hxf3:=hxf2.kp hkp3;obtain⟨bo,t4,q1,q2,q3,q4,q5⟩:=ZxY (β:=List DV) hoo3 (sz:=4) (n:=out.length) (lim:=2199023255552) (entC x.ent) (by omega) (ZA _) rfl (by omega);refine Eq.mpr (congrArg (Ok _) (q5 _)) ?_;have hh0:HeapsO s L hd u1.heaps:=by rw[g2,huh];exact hW.heaps
      obtain⟨hW4,hfx4⟩:=hW3.keepO hh0 hlL haL hfx3L q3 hbo;have hot4:=hot3.fx q3 fun b hb hm=>hbd b hm hb
      have hxf4:=hxf3.kp q4;have hs4:s.length≤t4.length:=hfx4.1;rw[Zc];refine ZzJ (s:=s) (n+1) rfl x px r t4 (some (bt,0)) hxf4 hx12 hot4 (by simp at htl;omega) hbt hs4 (by omega) (Kn:=fun ds=>J.l 7 ds fun todo2 todo2n st=>D.nil st<|J.l 4 [.slice 4 (some (bo,0)) (out.length+1),.slice 7 todo2 todo2n] fun out2 out2n st=>J.l 7 st fun todo1 todo1n st=>D.nil st<|rec [.slice 4 out2 out2n,.slice 7 todo1 todo1n]) ?_ 7 (.inl rfl);intro t5 pT z hz hT hbT hfx5;simp only[Zm 7 z pT _ hz,J_l,D_nil];have hbo4:bo∉blk (some (bt,0)):=fun hm=>by
       have:=OwnP.lt hot3 bo hm;omega
      have hs3:=hfx3L.1;obtain⟨hW5,hfx5L⟩:=hW4.keepO hh0 hlL haL hfx4 hfx5 hbt;have hbl4:bo<t4.length:=(List.getElem?_eq_some_iff.1 q2).1;refine hrec (room K.m u1.W) _ _ (by omega) ⟨f,out++[x.ent],kidsT x x.kids.length++r, { u1 with nodes:=u1.nodes+1 },4,some (bo,0),7,pT,?_,.inl rfl,.inl rfl,Nat.le_refl _,(show room K.m u1.W<f by omega),hW5,by show u1.seats=_;rw[g1,hus],by show u1.heaps=_;rw[g2,huh],hfx5L,.inr ⟨bo,[],rfl,?_⟩,hT,fun b hb=>?_,fun b hb=>(hbT b hb).1,fun b hb hm=>?_,?_,?_,?_,?_,hgo⟩
      ·simp[Zmo,Nat.add_comm]
      ·rw[List.append_nil,Zl5]
       have:=hfx5.2 bo _ hbo4 q2;simpa [entsC]using this
      ·rw[List.mem_singleton.1 hb];omega
      ·rw[List.mem_singleton.1 hb]at hm
       rcases(hbT bo hm).2 with h5|h5
       ·exact hbo4 h5
       ·omega
      ·show v.nodes≤u1.nodes+1
       rw[g5];omega
      ·show u1.nodes+1+_≤_
       rw[g5];show u.nodes+1+(room K.m u1.W:Nat)≤_;omega
      ·show(out++[x.ent]).length+room K.m u1.W≤_
       simp;omega
      ·show(kidsT x x.kids.length++r).length+12*room K.m u1.W≤_
       rw[List.length_append,Zmo];simp at htl;omega
     cases hlt:decide (x.ent.slot<K.sup.used)with
     |false=>
      rw[hlt,cond_false]at hc2;rw[cond_false,hc2];exact hB
     |true=>
      rw[hlt,cond_true]at hc2;have hlt':=of_decide_eq_true hlt;rw[cond_true,nn_some',Zn hW2.cell rfl];show Ok _ (D.slice 3 (.slice z1 p1 u1.seats.length) _ t2);rw[ZB 3 z1 p1 _ hW2.e1];have hul:u1.seats.length=v.seats.length:=by rw[g1,hus]
      obtain⟨ks,hks⟩: ∃ks:Nat,x.ent.slot=ks:=⟨x.ent.slot.toNat,by omega⟩;have hkl:ks<u1.seats.length:=by rw[hul];omega
      obtain⟨bs,rfl,hbs⟩:=hW2.o1.some_of (by rw[ZN];omega);have hxi:u1.seats[ks]? =some u1.seats[ks]:=List.getElem?_eq_getElem hkl;unfold ZlZ at hc2;rw[hks,Int.toNat_natCast,hxi]at hc2;rw[nn_some',hks,Ze (Zl hkl),Int.toNat_natCast,Zhw hbs hxi];unfold seatC;simp only[J_b,J_i,D_nil];simp only at hc2;rw[hc2];exact hB
    have hjL:K.j∈L:=hWu.mem_j;have hnj: ∀b,s.length≤b→b∉[K.j]:=fun b hb hm=>by rw[List.mem_singleton.1 hm]at hb;have:=hlL _ hjL;omega
    have hoo1:=hoo.fx hfx1 fun b hb=>hnj b (hbo b hb)
    have hot1:OwnP t1 (some (bt,0)) (todoC r.reverse):= .inr ⟨bt,Zj1 e++rest,rfl,by
     rw[←List.append_assoc,←hcells];exact hfx1.2 bt _ (hnj bt (hbt bt (by simp[blk]))) hbt2⟩
    cases hdg:(((x.kids.length:Nat):Int)==e.deg)with
    |false=>
     rw[hdg,cond_false]at hc1;rw[cond_false,hc1];exact hA t1 hW1 hfx1L hoo1 hot1 hxf
    |true=>
     rw[hdg,cond_true]at hc1;rw[cond_true];refine Ok.join fun jk6 hjk6=>?_
     cases htp:e.top with
     |true=>
      rw[htp,cond_true]at hc1;rw[cond_true,hjk6];simp only[J_b,D_nil];rw[hc1];exact hA t1 hW1 hfx1L hoo1 hot1 hxf
     |false=>
      rw[htp,cond_false]at hc1;rw[cond_false];refine Ok.call (ZxT h.q52 (n+1) (by omega) e.par x.ent t1) ?_;rintro _ ⟨z,t2,rfl,hp2,e2⟩;refine⟨_,t2,rfl,?_⟩;rw[hjk6];simp only[J_i,J_b,D_nil];rw[e2,hc1];exact hA t2 (hW1.pre hp2) (hfx1L.trans (Fx.pre L hp2)) (hoo1.fx (Fx.pre [] hp2) fun _ _ h=>by cases h) (hot1.fx (Fx.pre [] hp2) fun _ _ h=>by cases h) (hxf.pre hp2)
end Go.Gv.F
namespace Go.Gv.F
open Go.Gv
variable {β:Type}
def e4 (e:EntV):E4:=(e.slot,e.gen,e.key,e.value)
def un4 (x:E4):EntV:=⟨x.1,x.2.1,x.2.2.1,x.2.2.2⟩
theorem Go.Gv.dec4_ents: ∀(l:List EntV),Go.Gv.dec4 (entsC l)=some (l.map e4)
 |[]=>rfl
 |e::l=>by
  show(match Go.Gv.dec4 (entsC l)with|some l=>some ((e.slot,e.gen,e.key,e.value)::l)|none=>none)=_;rw[Go.Gv.dec4_ents l];rfl
theorem Zm2: ∀(l:List E4),Zbk l=entsC (l.map un4)
 |[]=>rfl
 |x::l=>by
  show cell4 x++Zbk l=_;rw[Zm2 l];rfl
def sortE (l:List EntV):List EntV:=(sort4 (l.map e4)).map un4
theorem ZqX (l:List EntV):(sortE l).length=l.length:=by unfold sortE;rw[List.length_map,Zlu,List.length_map]
theorem Zx5 {x y:E4} (h:x.1≠y.1):(lt4 x y||lt4 y x)=true:=by
 rw[Bool.or_eq_true,ZhT,ZhT];omega
theorem Zlf: ∀ {l:List EntV},Diff l→Zh7 (l.map e4)=true
 |[],_=>rfl
 |e::l,.cons h1 h2=>by
  show((l.map e4).all (fun y=>lt4 (e4 e) y||lt4 y (e4 e))&&Zh7 (l.map e4))=true;rw[Zlf h2,Bool.and_true,List.all_eq_true];intro y hy;obtain⟨z,hz,rfl⟩:=List.mem_map.1 hy;exact Zx5 (h1 z hz)
theorem Zzq {Bd:Za} (h:ZZ Bd) (n:Nat) (l:List EntV) (p:Option (Nat×Nat)) (st:St) (hs:OwnP st p (entsC l)) (hd:Diff l) (hl:l.length≤1000000):
  ∃s',run Bd (n+1) 232 [.slice 4 p l.length,.func 159 [] []] st=some (.val [],s')∧OwnP s' p (entsC (sortE l))∧Fx (blk p) st s':=by
 rw[Zf,h.eq];unfold Zih;rcases hs with⟨rfl,hx⟩|⟨b,rest,rfl,hb⟩
 ·have h0:l.length=0:=by
   have:=congrArg List.length hx;rw[ZA]at this;rw[List.length_nil]at this;omega
  have h1:l=[]:=List.length_eq_zero_iff.1 h0;subst h1;exact⟨st,rfl,.inl ⟨rfl,rfl⟩,.refl _ _⟩
 ·have hop:st.open? b=some (entsC l++rest):=by unfold St.open?;rw[hb]
  simp only[hop];rw[Nat.ble_eq_true_of_le (by rw[List.length_append,ZA];omega),cond_true,List.drop_zero,←ZA,List.take_left,Go.Gv.dec4_ents];simp only[Zlf hd,Nat.ble_eq_true_of_le hl,Bool.and_self,cond_true];have hse:Zbk (sort4 (l.map e4))=entsC (sortE l):=Zm2 _;rw[hse];have hsp:=ZcN [] (entsC l) rest (entsC (sortE l)) (by rw[ZA,ZA,ZqX]);rw[List.nil_append,List.nil_append]at hsp;refine⟨_,rfl,.inr ⟨b,rest,rfl,?_⟩,Fx.set st b _⟩;rw[List.getElem?_set_self (List.getElem?_eq_some_iff.1 hb).1];exact congrArg (fun c=>some (some (⟨false,c⟩:Blk))) hsp
end Go.Gv.F
namespace Go.Gv.F
open Go.Gv
variable {β:Type}
def supC (x:SupV) (p:Option (Nat×Nat)):List DV:=[.int .i64 x.seq,.int .i64 x.blocks,.int .i64 x.slots,.int .i64 x.g,.int .i64 x.fan,.int .i64 x.used,.int .i64 x.free,.int .i64 x.dir,.slice 1 p x.charts.length]
def okAt (x:SupV) (k:Int):Bool:=bif decide (k≥2)then decide (k<x.blocks)else false
def Zbh (x:SupV):Bool:=(List.range x.charts.length).all fun i=>okAt x (x.charts.getD i 0)&& !decide (x.charts.getD i 0∈x.charts.take i)
def ZI (x:SupV):Bool:=
 !(decide (x.seq<1)||(decide (x.seq>4611686018427387904)||(!geomF x.blocks x.slots x.g||(decide (x.used<0)||(decide (x.used>x.slots)||(decide (x.free<0)||decide (x.free>x.used)))))))&&
 (!((bif x.used==0 then !(x.fan==0)else false)||((bif decide (x.used>0)then !okAt x x.fan else false)||((bif !(x.dir==0)then !okAt x x.dir else false)|| !(((x.charts.length:Nat):Int)==Zd3 x.blocks x.slots x.g))))&&Zbh x)
theorem Znq {Bd:Za} (h:ZfM Bd) (n:Nat) (x:SupV) (p:Option (Nat×Nat)) (b:Nat) (k:Int) (st:St) (hb:st[b]? =some (some ⟨false,supC x p⟩)):
  run Bd (n+1) 221 [.int .i64 k,.ptr (some (b,0))] st=some (.val [.bool (okAt x k)],st):=by
 rw[Zf,h.eq];unfold Zdn okAt;simp only[J_i,J_p,D_nil,Zc,nn_some'];cases decide (k≥2)with
 |false=>rfl
 |true=>
  rw[cond_true,cond_true,Zn hb (d:= .int .i64 x.blocks) rfl];simp only[D_int,J_b,D_nil,Zb]
theorem Zki {Bd:Za} (h:Zen Bd) (n:Nat) (x:SupV) (p:Option (Nat×Nat)) (st:St) (hs:Sl st p (ints x.charts)) (hl:x.charts.length<1000) (hn:x.charts.length+10≤n):
  run Bd n 197 [.agg (supC x p)] st=some (.val [.bool (ZI x)],st++[some ⟨false,supC x p⟩]):=by
 obtain⟨n,rfl⟩: ∃k,n=k+3:=⟨n-3,by omega⟩;rw[Zf,h.eq];unfold Zer ZI;have hb:(st++[some (⟨false,supC x p⟩:Blk)])[st.length]? =some (some ⟨false,supC x p⟩):=by simp
 have hs1:=hs.mono (Pre.new st (some (⟨false,supC x p⟩:Blk)));have hR1:=fun k=>Znq h.q44 (n+1) x p st.length k _ hb
 have ld: ∀(k:Nat) (d:DV),(supC x p)[k]? =some d→∀Kc:DV→M (List DV),M.load1 st.length k Kc (st++[some (⟨false,supC x p⟩:Blk)])=Kc d (st++[some (⟨false,supC x p⟩:Blk)]):=fun k d e Kc=>Zn hb e Kc
 have ld3: ∀Kc:List DV→M (List DV),M.load st.length 1 3 Kc (st++[some (⟨false,supC x p⟩:Blk)])=Kc [.int .i64 x.blocks,.int .i64 x.slots,.int .i64 x.g] (st++[some (⟨false,supC x p⟩:Blk)]):=fun Kc=>by
  rw[ZT hb (by show 1+3≤9;omega)];rfl
 show J.a [.agg (supC x p)] _ st=_;rw[J_a];unfold supC;simp only[J_i,J_l,D_nil];rw[Zu];change _=some (Out.val _,st++[some (⟨false,supC x p⟩:Blk)]);have hcell:([.int .i64 x.seq,.int .i64 x.blocks,.int .i64 x.slots,.int .i64 x.g,.int .i64 x.fan,.int .i64 x.used,.int .i64 x.free,.int .i64 x.dir,.slice 1 p x.charts.length]:List DV)=supC x p:=rfl;rw[hcell];generalize (st++[some (⟨false,supC x p⟩:Blk)])=s1 at hb hs1 hR1 ld ld3⊢;rw[ld 0 (.int .i64 x.seq) rfl];simp only[D_int];refine ok_eq ?_;obtain⟨F1,hF1⟩: ∃F1,(decide (x.seq<1)||(decide (x.seq>4611686018427387904)||(!geomF x.blocks x.slots x.g||(decide (x.used<0)||(decide (x.used>x.slots)||(decide (x.free<0)||decide (x.free>x.used)))))))=F1:=⟨_,rfl⟩;obtain⟨F2,hF2⟩: ∃F2,((bif x.used==0 then !(x.fan==0)else false)||((bif decide (x.used>0)then !okAt x x.fan else false)||((bif !(x.dir==0)then !okAt x x.dir else false)|| !(((x.charts.length:Nat):Int)==Zd3 x.blocks x.slots x.g))))=F2:=⟨_,rfl⟩;rw[hF1,hF2];refine Ok.join fun jk1 h1=>?_
 have A1: ∀b,(decide (x.seq<1)||decide (x.seq>4611686018427387904))=b→Ok (fun p=>p=(Out.val [DV.bool (!F1&&(!F2&&Zbh x))],s1)) (jk1 [.bool b] s1):=by
  intro b1 e1;rw[h1];simp only[J_b,D_nil];refine Ok.join fun jk2 h2=>?_
  have A2: ∀b,(b1|| !geomF x.blocks x.slots x.g)=b→Ok (fun p=>p=(Out.val [DV.bool (!F1&&(!F2&&Zbh x))],s1)) (jk2 [.bool b] s1):=by
   intro b2 e2;rw[h2];simp only[J_b,D_nil];refine Ok.join fun jk3 h3=>?_
   have A3: ∀b,(b2||decide (x.used<0))=b→Ok (fun p=>p=(Out.val [DV.bool (!F1&&(!F2&&Zbh x))],s1)) (jk3 [.bool b] s1):=by
    intro b3 e3;rw[h3];simp only[J_b,D_nil];refine Ok.join fun jk4 h4=>?_
    have A4: ∀b,(b3||decide (x.used>x.slots))=b→Ok (fun p=>p=(Out.val [DV.bool (!F1&&(!F2&&Zbh x))],s1)) (jk4 [.bool b] s1):=by
     intro b4 e4;rw[h4];simp only[J_b,D_nil];refine Ok.join fun jk5 h5=>?_
     have A5: ∀b,(b4||decide (x.free<0))=b→Ok (fun p=>p=(Out.val [DV.bool (!F1&&(!F2&&Zbh x))],s1)) (jk5 [.bool b] s1):=by
      intro b5 e5;rw[h5];simp only[J_b,D_nil];refine Ok.join fun jk6 h6=>?_
      have A6: ∀b,(b5||decide (x.free>x.used))=b→Ok (fun p=>p=(Out.val [DV.bool (!F1&&(!F2&&Zbh x))],s1)) (jk6 [.bool b] s1):=by
       intro b6 e6;rw[h6];simp only[J_b,D_nil];have hb6:F1=b6:=by rw[←hF1,←e6,←e5,←e4,←e3,←e2,←e1];simp only[Bool.or_assoc]
       cases b6 with
       |true=>rw[cond_true,Zb,hb6];exact .mk rfl
       |false=>
        rw[cond_false,hb6,Bool.not_false,Bool.true_and,ld 5 (.int .i64 x.used) rfl];simp only[D_int];refine Ok.join fun jk7 h7=>?_
        have B7: ∀b,(bif x.used==0 then !(x.fan==0)else false)=b→Ok (fun p=>p=(Out.val [DV.bool (!F2&&Zbh x)],s1)) (jk7 [.bool b] s1):=by
         intro b7 e7;rw[h7];simp only[J_b,D_nil];refine Ok.join fun jk8 h8=>?_
         have B8: ∀b,(b7||(bif decide (x.used>0)then !okAt x x.fan else false))=b→Ok (fun p=>p=(Out.val [DV.bool (!F2&&Zbh x)],s1)) (jk8 [.bool b] s1):=by
          intro b8 e8;rw[h8];simp only[J_b,D_nil];refine Ok.join fun jk9 h9=>?_
          have B9: ∀b,(b8||(bif !(x.dir==0)then !okAt x x.dir else false))=b→Ok (fun p=>p=(Out.val [DV.bool (!F2&&Zbh x)],s1)) (jk9 [.bool b] s1):=by
           intro b9 e9;rw[h9];simp only[J_b,D_nil];refine Ok.join fun jk10 h10=>?_
           have B10: ∀b,(b9|| !(((x.charts.length:Nat):Int)==Zd3 x.blocks x.slots x.g))=b→Ok (fun p=>p=(Out.val [DV.bool (!F2&&Zbh x)],s1)) (jk10 [.bool b] s1):=by
            intro b10 e10;rw[h10];simp only[J_b,D_nil];have hb10:F2=b10:=by rw[←hF2,←e10,←e9,←e8,←e7];simp only[Bool.or_assoc]
            cases b10 with
            |true=>rw[cond_true,Zb,hb10];exact .mk rfl
            |false=>
             rw[cond_false,hb10,Bool.not_false,Bool.true_and,ld 8 (.slice 1 p x.charts.length) rfl];simp only[D_slice];rw[Zc];refine Zk _ (fun q y s=>∃i:Nat,y=[.int .i64 i]∧i≤x.charts.length∧x.charts.length-i≤q∧s=s1∧((List.range i).all fun i=>okAt x (x.charts.getD i 0)&& !decide (x.charts.getD i 0∈x.charts.take i))=true) ?_ x.charts.length (n+2) _ _ ⟨0,rfl,by omega,by omega,rfl,rfl⟩ (by omega);rintro q _ s ⟨i,rfl,hi,hq,rfl,hall⟩ rec hrec;simp only[J_i,D_nil];by_cases hlt:i<x.charts.length
             ·obtain⟨i1,o1,rfl⟩:=hs1.some_of (by simp[ints];omega)
              rw[decide_eq_true (show(i:Int)<(x.charts.length:Int) by omega),cond_true,nn_some',Ze (Zl hlt),Int.toNat_natCast,hs1.get1 (Zw hlt)];simp only[D_int];have hw:wr64 ((i:Int)+1)=((i+1:Nat):Int):=Zd (by omega) (by omega);have hgd:x.charts.getD i 0=x.charts[i]:=by rw[List.getD_eq_getElem?_getD,List.getElem?_eq_getElem hlt];rfl
              have hno:(okAt x x.charts[i]&& !decide (x.charts[i]∈x.charts.take i))=false→Zbh x=false:=fun e=>List.all_eq_false.2 ⟨i,List.mem_range.2 hlt,by rw[hgd,e];decide⟩
              rw[Zi (hR1 x.charts[i])];simp only[J_b,D_nil,Zc];cases hb:okAt x x.charts[i]with
              |false=>
               rw[Bool.not_false,cond_true];rw[cond_true,Zb,hno (by rw[hb];rfl)];exact .mk rfl
              |true=>
               rw[Bool.not_true,cond_false,ld 8 (.slice 1 (some (i1,o1)) x.charts.length) rfl];simp only[D_slice];rw[Ze (by rw[Bool.and_eq_true,decide_eq_true_iff,decide_eq_true_iff];omega)];have hti:(x.charts.take i).length=i:=by rw[List.length_take];omega
               have hst:Sl s (some (i1,o1)) (ints (x.charts.take i)):=by
                have:=Sl.takes hs1 i
                rwa [show(ints x.charts).take i=ints (x.charts.take i) by unfold ints;rw[List.map_take]]at this
               have hc:=ZiM h.q6 (n+2) (x.charts.take i) x.charts[i] _ s hst (by omega) (by omega);rw[hti]at hc;rw[Zi hc];simp only[J_b,D_nil];cases hm:decide (x.charts[i]∈x.charts.take i)with
               |true=>
                rw[cond_true,Zb,hno (by rw[hb,hm];rfl)];exact .mk rfl
               |false=>
                rw[cond_false,hw];refine hrec (x.charts.length-(i+1)) _ _ (by omega) ⟨i+1,rfl,by omega,Nat.le_refl _,rfl,?_⟩;rw[List.range_succ,List.all_append,hall,List.all_cons,List.all_nil,hgd,hb,hm];rfl
             ·rw[decide_eq_false (show ¬(i:Int)<(x.charts.length:Int) by omega),cond_false,Zb]
              rw[show i=x.charts.length by omega]at hall;unfold Zbh;rw[hall];exact .mk rfl
           cases b9 with
           |true=>rw[cond_true];exact B10 true rfl
           |false=>
            rw[cond_false,ld 8 (.slice 1 p x.charts.length) rfl];simp only[D_slice];rw[ld3];simp only[J_i,D_nil];rw[ZcD (Zqu h.q63 n x.blocks x.slots x.g s1) (.refl s1)];simp only[J_i,D_nil];exact B10 _ rfl
          cases b8 with
          |true=>rw[cond_true];exact B9 true rfl
          |false=>
           rw[cond_false,ld 7 (.int .i64 x.dir) rfl];simp only[D_int];rw[Zc];cases hd:(!(x.dir==0))with
           |false=>rw[cond_false];simp only[J_b,D_nil];exact B9 _ (by rw[hd];rfl)
           |true=>
            rw[cond_true,ld 7 (.int .i64 x.dir) rfl];simp only[D_int];rw[Zi (hR1 x.dir)];simp only[J_b,D_nil];exact B9 _ (by rw[hd];rfl)
         cases b7 with
         |true=>rw[cond_true];exact B8 true rfl
         |false=>
          rw[cond_false,ld 5 (.int .i64 x.used) rfl];simp only[D_int];rw[Zc];cases hd:decide (x.used>0)with
          |false=>rw[cond_false];simp only[J_b,D_nil];exact B8 _ (by rw[hd];rfl)
          |true=>
           rw[cond_true,ld 4 (.int .i64 x.fan) rfl];simp only[D_int];rw[Zi (hR1 x.fan)];simp only[J_b,D_nil];exact B8 _ (by rw[hd];rfl)
        cases hu:(x.used==0)with
        |true=>rw[cond_true,ld 4 (.int .i64 x.fan) rfl];simp only[D_int];exact B7 _ (by rw[hu];rfl)
        |false=>rw[cond_false];exact B7 _ (by rw[hu];rfl)
      cases b5 with
      |true=>rw[cond_true];exact A6 true rfl
      |false=>rw[cond_false,ld 6 (.int .i64 x.free) rfl];simp only[D_int];rw[ld 5 (.int .i64 x.used) rfl];simp only[D_int];exact A6 _ rfl
     cases b4 with
     |true=>rw[cond_true];exact A5 true rfl
     |false=>rw[cond_false,ld 6 (.int .i64 x.free) rfl];simp only[D_int];exact A5 _ rfl
    cases b3 with
    |true=>rw[cond_true];exact A4 true rfl
    |false=>rw[cond_false,ld 5 (.int .i64 x.used) rfl];simp only[D_int];rw[ld 2 (.int .i64 x.slots) rfl];simp only[D_int];exact A4 _ rfl
   cases b2 with
   |true=>rw[cond_true];exact A3 true rfl
   |false=>rw[cond_false,ld 5 (.int .i64 x.used) rfl];simp only[D_int];exact A3 _ rfl
  cases b1 with
  |true=>rw[cond_true];exact A2 true rfl
  |false=>
   rw[cond_false,ld3];simp only[J_i,D_nil];rw[Zi (Zlc h.q87 (n+1) x.blocks x.slots x.g s1)];simp only[J_b,D_nil];exact A2 _ rfl
 cases hc:decide (x.seq<1)with
 |true=>rw[cond_true];exact A1 true (by rw[hc];rfl)
 |false=>rw[cond_false,ld 0 (.int .i64 x.seq) rfl];simp only[D_int];exact A1 _ (by rw[hc];rfl)
end Go.Gv.F
namespace Go.Gv.F
open Go.Gv
def ZbN (K:WkK):Int→List Int→List EntV→WkV→Option (List EntV×WkV)
 |_,[],acc,v=>some (acc,v)
 |k,y::r,acc,v=>bif !(y==0)then(match treeM K y k v with
   |none=>none
   |some (out,v')=>ZbN K (k+1) r (acc++out) v')else ZbN K (k+1) r acc v
def Zpn (v:WkV) (k:Nat) (nm:List UInt8):Bool:=bif decide (k=0)then true else(match v.heaps[k-1]? with
 |none=>false
 |some x=>decide (cmpL (rns x.name) (rns nm)<0))
def dirGo (K:WkK):Nat→List Int→WkV→Option WkV
 |_,[],v=>some v
 |k,y::r,v=>match takeM K y v with
  |some (.queue q,v1)=>bif Zpn v1 k q.name then(match ZbN K 0 q.heads [] v1 with
   |none=>none
   |some (es,v2)=>dirGo K (k+1) r { v2 with heaps:=v2.heaps++[⟨q.name,sortE es⟩] })else none
  |_=>none
def ZcK (K:WkK) (v:WkV):Option WkV:=bif K.sup.dir==0 then some v else(match takeM K K.sup.dir v with
 |some (.dir x,v')=>dirGo K 0 x v'
 |_=>none)
def wk0 (m:Nat):WkV:=⟨setOf m [0,1],[],[],[],[],0⟩
def walkM (K:WkK):Option WkV:=match Zc5 K (wk0 K.m)with
 |none=>none
 |some v1=>match freeM K v1 with
  |none=>none
  |some v2=>match ZcK K v2 with
   |none=>none
   |some v3=>bif decide ((liveN v3:Int)=v3.nodes)then some (liveM v3)else none
theorem ZhG {K:WkK} : ∀ {l:List Int} {k:Int} {acc es:List EntV} {v v':WkV},v.W.length=(K.m+63)/64→ZbN K k l acc v=some (es,v')→(∀e∈acc,EntOk v e)→Diff acc→(∀e∈es,EntOk v' e)∧Diff es∧v'.W.length=(K.m+63)/64∧v'.seats=v.seats∧v'.heaps=v.heaps∧v'.gens=v.gens∧v'.free=v.free
 |[],_,_,_,_,_,hl,h,h1,h2=>by cases h;exact⟨h1,h2,hl,rfl,rfl,rfl,rfl⟩
 |y::r,k,acc,es,v,v',hl,h,h1,h2=>by
  unfold ZbN at h;cases hy:(!(y==0))with
  |false=>rw[hy,cond_false]at h;exact ZhG hl h h1 h2
  |true=>
   rw[hy,cond_true]at h;cases ht:treeM K y k v with
   |none=>rw[ht]at h;cases h
   |some q=>
    obtain⟨out,v1⟩:=q;rw[ht]at h;obtain⟨a1,a2,a3,_,a5,a6,a7,a8⟩:=Zl4 (acc:=acc) hl ht (by simpa using h1) (by simpa using h2);obtain⟨b1,b2,b3,b4,b5,b6,b7⟩:=ZhG a3 h a1 a2;exact⟨b1,b2,b3,b4.trans a5,b5.trans a6,b6.trans a7,b7.trans a8⟩
end Go.Gv.F
namespace Go.Gv.F
open Go.Gv
variable {β:Type}
theorem app_p {s:St} {a:Option (Nat×Nat)} {cs:List DV} (h:OwnP s a cs) {sz n m lim:Nat} (ds:List DV) (hz:0<sz) (hn:cs.length=n*sz) (hd:ds.length=m*sz) (hl:n+m≤lim):
  ∃a' s',OwnP s' a' (cs++ds)∧Fx (blk a) s s'∧Kp s s'∧(∀b∈blk a',b∈blk a∨s.length≤b)∧∀K:Option (Nat×Nat)→M β,M.app sz a n ds m lim K s=K a' s':=by
 by_cases hm:m=0
 ·subst hm
  have:ds=[]:=List.length_eq_zero_iff.1 (by omega);subst this;exact⟨a,s,by rwa [List.append_nil],.refl _ _,.refl _,fun _ h=> .inl h,fun K=>rfl⟩
 ·have hb:Nat.beq m 0=false:=by cases m with|zero=>exact absurd rfl hm|succ m=>rfl
  rcases h with⟨rfl,rfl⟩|⟨i,rest,rfl,hs⟩
  ·have h0:n=0:=by
    rcases Nat.mul_eq_zero.1 (show n*sz=0 by simpa using hn.symm)with h|h
    ·exact h
    ·omega
   subst h0;refine⟨some (s.length,0),s++[some (⟨false,ds⟩:Blk)],.inr ⟨s.length,[],rfl,by simp⟩,Fx.pre _ (Pre.new _ _),(Pre.new _ _).kp,fun b hb=> .inr (by rw[List.mem_singleton.1 hb];exact Nat.le_refl _),fun K=>?_⟩;unfold M.app;simp only[hb,Nat.ble_eq_true_of_le hl,cond_true,cond_false];rfl
  ·have hil:i<s.length:=(List.getElem?_eq_some_iff.1 hs).1
   have hop:s.open? i=some (cs++rest):=by unfold St.open?;rw[hs]
   refine⟨some (s.length,0),s.set i none++[some (⟨false,cs++ds⟩:Blk)],.inr ⟨s.length,[],rfl,by rw[List.getElem?_append_right (by simp)];simp⟩,⟨by simp,fun y x hy e=>?_⟩,(Kp.set hs none).trans (Pre.new _ _).kp,fun b hb=> .inr (by rw[List.mem_singleton.1 hb];exact Nat.le_refl _),fun K=>?_⟩
   ·have hyl:=(List.getElem?_eq_some_iff.1 e).1
    have hne:i≠y:=fun e=>hy (by simp[blk,e])
    rw[List.getElem?_append_left (by simp;omega),List.getElem?_set_ne hne];exact e
   ·unfold M.app
    simp only[hb,Nat.ble_eq_true_of_le hl,cond_true,cond_false,hop];rw[Nat.zero_add,Nat.ble_eq_true_of_le (by rw[List.length_append];omega),cond_true,List.drop_zero,←hn,List.take_left]
variable {K:WkK} {s:St} {v:WkV} {L:List Nat} {z1 z2 z3 z4:Nat} {p1 p2 p3 p4:Option (Nat×Nat)} {hd:List DV}
theorem Zyt {Bd:Za} (hT:Zcv Bd) (n:Nat) (hK:WkOk K) (nm:List UInt8) (x:List Int) (hx:x.length=12) (s0:St) (L0:List Nat) (hW:WkM K s v L z1 p1 z2 p2 z3 p3 z4 p4 hd) (hf0:Fx L0 s0 s) (hn0:Nw L0 s0 L) (h0:0≤K.sup.used) (h1:K.sup.used≤1792) (hs:(v.seats.length:Int)=K.sup.used) (hnd:0≤v.nodes) (hnr:v.nodes+(room K.m v.W:Nat)≤5000) (hm:K.m≤3072) (hn:4020≤n)
  (R:Option WkV) (Kn:List DV→M (List DV))
  (hno:ZbN K 0 x [] v=none→R=none)
  (hgo: ∀es w,ZbN K 0 x [] v=some (es,w)→∀t p z,(z=4∨p=none)→WkM K t w L z1 p1 z2 p2 z3 p3 z4 p4 hd→Fx L s t→OwnP t p (entsC es)→(∀b∈blk p,s.length≤b)→w.nodes+(room K.m w.W:Nat)≤v.nodes+(room K.m v.W:Nat)→v.nodes≤w.nodes→es.length≤50000→Ok (MEnd K s0 L0 R []) (Kn [.agg [.str nm,.slice 4 p es.length]] t)):
  Ok (MEnd K s0 L0 R []) (M.loop (fun rec2 st=>
      J.a st fun cs4 st=>
      J.s cs4 fun h2 r=>
      J.l 4 r fun h3 h3n r=>
      D.nil r<|
      J.i .i64 st fun x10 st=>
      D.nil st<|
      bif decide (x10<12)then
       M.chk (inB x10 12)<|
      D.nth (ints x) (x10.toNat*1) fun d6=>
      D.int .i64 d6 fun x11=>
      M.join (fun st=>
       J.a st fun cs5 st=>
      J.s cs5 fun h4 r=>
      J.l 4 r fun h5 h5n r=>
      D.nil r<|
      D.nil st<|
      rec2 [.agg [.str h4,.slice 4 h5 h5n],.int .i64 (wr64 (x10+1))]) fun jk5=>
      bif !(x11==0)then
       M.call (run Bd n 233 [.ptr (some (K.w,0)),.int .i64 x11,.int .i64 x10]) fun ds=>
      J.l 4 ds fun x12 x12n ds=>
      D.nil ds<|
      M.rd x12 (x12n*4) fun cs6=>
      M.app 4 h3 h3n cs6 x12n 2199023255552 fun p1=>
      jk5 [.agg [.str h2,.slice 4 p1 (h3n+x12n)]]
      else
       jk5 [.agg [.str h2,.slice 4 h3 h3n]]
      else
       Kn [.agg [.str h2,.slice 4 h3 h3n]]) n [.agg [.str nm,.slice 0 none 0],.int .i64 0] s):=by
 have hlL:=hW.lt;have haL: ∀b o,K.a=some (b,o)→b<s.length:=fun b o e=>Sl.lt (e▸hW.img)
 obtain⟨G,hG⟩: ∃G,ZbN K 0 x [] v=G:=⟨_,rfl⟩;rw[hG]at hgo hno;refine Zk _ (fun q y t=>∃(i:Nat) (acc:List EntV) (u:WkV) (z:Nat) (p:Option (Nat×Nat)),y=[.agg [.str nm,.slice z p acc.length],.int .i64 i]∧(z=4∨p=none)∧i≤12∧12-i≤q∧WkM K t u L z1 p1 z2 p2 z3 p3 z4 p4 hd∧u.seats=v.seats∧u.heaps=v.heaps∧Fx L s t∧OwnP t p (entsC acc)∧(∀b∈blk p,s.length≤b)∧v.nodes≤u.nodes∧u.nodes+(room K.m u.W:Nat)≤v.nodes+(room K.m v.W:Nat)∧acc.length≤4000*i∧ZbN K i (x.drop i) acc u=G) ?_ 12 n _ _ ⟨0,[],v,0,none,rfl,.inr rfl,by omega,by omega,hW,rfl,rfl,.refl L s,.inl ⟨rfl,rfl⟩,fun _ h=>(by cases h),Int.le_refl _,Int.le_refl _,by simp,by simpa using hG⟩ (by omega);rintro q _ t ⟨i,acc,u,z,p,rfl,hz,hi,hq,hWu,hus,huh,hfx,hop,hbp,hnn,hnr2,hal,hgo2⟩ rec hrec;simp only[J_a,J_s,J_i,Zm 4 z p _ hz,D_nil,Zc];by_cases hlt:i<12
 ·have hxi:x[i]? =some (x[i]'(by omega)):=List.getElem?_eq_getElem (by omega)
  have hdr:x.drop i=(x[i]'(by omega))::x.drop (i+1):=List.drop_eq_getElem_cons (by omega);rw[hdr]at hgo2;rw[decide_eq_true (show(i:Int)<12 by omega),cond_true,Ze (show inB (i:Int) 12=true from Zl hlt),Int.toNat_natCast,Nat.mul_one,D_nth (Zw (by omega))];simp only[D_int];generalize x[i]'(by omega)=y at hgo2;have hw:wr64 ((i:Int)+1)=((i+1:Nat):Int):=Zd (by omega) (by omega);have hcast:((i+1:Nat):Int)=(i:Int)+1:=by omega
  rw[hw];unfold ZbN at hgo2;cases hy:(!(y==0))with
  |false=>
   rw[hy,cond_false]at hgo2;rw[cond_false];exact hrec (12-(i+1)) _ _ (by omega) ⟨i+1,acc,u,4,p,rfl,.inl rfl,by omega,Nat.le_refl _,hWu,hus,huh,hfx,hop,hbp,hnn,hnr2,by omega,by rw[hcast];exact hgo2⟩
  |true=>
   rw[hy,cond_true]at hgo2;rw[cond_true];have hfs:Fx L0 s0 t:=hf0.step hfx hn0;refine Ok.callP (Zzl hT n hK y i hWu h0 h1 (by rw[hus];exact hs) (by omega) (by omega) hm (by omega)) ?_ ?_
   ·intro t' hp
    cases ht:treeM K y i u with
    |some q=>rw[ht]at hp;obtain⟨_,_,_,e,_⟩:=hp;cases e
    |none=>
     rw[ht]at hp hgo2;obtain⟨t2,e,hf2⟩:=hp;cases e;rw[hno hgo2.symm];exact⟨t',rfl,hfs.step hf2 hn0⟩
   ·intro ds t' hp
    cases ht:treeM K y i u with
    |none=>rw[ht]at hp;obtain⟨_,e,_⟩:=hp;cases e
    |some q=>
     obtain⟨out,u1⟩:=q;rw[ht]at hp hgo2;obtain⟨po,zo,t2,e,hzo,hW1,hfx1,hoo,hbo,hnr3,hnn3,hol⟩:=hp;cases e;simp only at hgo2;obtain⟨_,_,_,_,a5,a6,_,_⟩:=Zl4 (acc:=[]) hWu.set.len ht (fun _ h=>by cases h) .nil;simp only[Zm 4 zo po _ hzo,D_nil];have hsl:Sl t' po (entsC out):=by
      rcases hoo with⟨rfl,h2⟩|⟨b,rest,rfl,h2⟩
      ·exact h2
      ·exact⟨false,_,h2,by rw[List.length_append];omega,by rw[List.drop_zero,List.take_left]⟩
     have hrd:=rd_eq (β:=List DV) hsl;rw[ZA]at hrd;rw[hrd];have hop1:=hop.fx hfx1 fun b hb hmm=>by have:=hlL b hmm;have:=hbp b hb;omega
     obtain⟨pa,t3,b1,b2,b3,b4,b5⟩:=app_p (β:=List DV) hop1 (sz:=4) (n:=acc.length) (m:=out.length) (lim:=2199023255552) (entsC out) (by omega) (ZA _) (ZA _) (by omega);rw[b5];have hfx1L:Fx L s t':=hfx.trans hfx1;obtain⟨hW3,hfx3⟩:=hW1.keepO (by rw[a6,huh];exact hW.heaps) hlL haL hfx1L b2 hbp;refine hrec (12-(i+1)) _ _ (by omega) ⟨i+1,acc++out,u1,4,pa,by rw[List.length_append],.inl rfl,by omega,Nat.le_refl _,hW3,a5.trans hus,a6.trans huh,hfx3,by rw[Zl5];exact b1,fun b hb=>?_,by omega,by omega,by rw[List.length_append];omega,by rw[hcast];exact hgo2⟩;rcases b4 b hb with h5|h5
     ·exact hbp b h5
     ·have:=hfx1L.1;omega
 ·rw[decide_eq_false (show ¬(i:Int)<12 by omega),cond_false]
  rw[List.drop_eq_nil_of_le (by omega)]at hgo2;exact hgo acc u hgo2.symm t p 4 (.inl rfl) hWu hfx hop hbp hnr2 hnn (by omega)
end Go.Gv.F
namespace Go.Gv.F
open Go.Gv
variable {β:Type}
theorem Zsn {l:List UInt8} {x:Zdb} (h:ZeR l=some x):x.name.length≤24∧Zj3 x=true:=by
 unfold ZeR at h;split at h
 ·cases h
 ·rename_i k t b _
  cases e:(decide (k=5)&&(decide (t≤24)&&Zz (b.drop (28+t))))with
  |false=>rw[e]at h;cases h
  |true=>
   rw[e]at h;cases e2:Zj3 (ZhK b t)with
   |false=>rw[e2]at h;cases h
   |true=>
    rw[e2]at h;cases h;rw[Bool.and_eq_true,Bool.and_eq_true,decide_eq_true_iff]at e;refine⟨?_,e2⟩;have:=of_decide_eq_true e.2.1;show((b.drop 28).take t).length≤24;rw[List.length_take];omega
theorem ZsP {l:List UInt8} {x:Zdb} (h:ZbV l= .queue x):ZeR l=some x:=by
 unfold ZbV at h;split at h
 ·cases h
 ·split at h
  ·cases h
  ·split at h
   ·cases h
   ·split at h
    ·rename_i y hy;cases h;exact hy
    ·split at h<;>cases h
theorem Zxx {K:WkK} {k:Int} {v v':WkV} {b:BlockV} (h:takeM K k v=some (b,v')):ZbV (ZbP K.img k.toNat)=b:=by
 unfold takeM at h;cases e:freeF K.m v.W k with
 |false=>rw[e]at h;cases h
 |true=>rw[e]at h;cases h;rfl
theorem ZyZ (pn:M β) (p:Option (Nat×Nat)) (m:Nat) (Kc:Option (Nat×Nat)→Nat→M β):D.asr pn (.iface 3 (.agg [.slice 1 p m])) 3 (fun d=>D.agg d fun cs=>J.l 1 cs fun x xn r=>D.nil r<|Kc x xn)=Kc p m:=rfl
theorem ZwU (pn:M β) (q:Zdb) (Kc:List UInt8→Int→List DV→M β):D.asr pn (.iface 4 (.agg (ZdE q))) 4 (fun d=>D.agg d fun cs=>J.s cs fun x7 r1=>J.i .i64 r1 fun x8 r2=>Kc x7 x8 r2)=Kc q.name q.mask (ints q.heads):=rfl
theorem ZtW {K:WkK} : ∀ {l:List Int} {k:Nat} {v v':WkV},v.W.length=(K.m+63)/64→dirGo K k l v=some v'→v'.seats=v.seats∧v'.gens=v.gens∧v'.free=v.free∧v'.heaps.length=v.heaps.length+l.length
 |[],_,_,_,_,h=>by cases h;exact⟨rfl,rfl,rfl,rfl⟩
 |y::r,k,v,v',hl,h=>by
  unfold dirGo at h;split at h
  ·rename_i q v1 ht
   cases hn:Zpn v1 k q.name with
   |false=>rw[hn]at h;cases h
   |true=>
    rw[hn,cond_true]at h;obtain⟨g1,g2,g3,g4,g5,g6⟩:=ZV ht;split at h
    ·cases h
    ·rename_i es v2 hh
     obtain⟨_,_,b3,b4,b5,b6,b7⟩:=ZhG (by rw[(ZhR ht).2,Zf8];exact hl) hh (fun _ h=>by cases h) .nil;obtain⟨c1,c2,c3,c4⟩:=ZtW (by exact b3) h;refine⟨c1.trans (b4.trans g1),c2.trans (b6.trans ?_),c3.trans (b7.trans ?_),?_⟩
     ·assumption
     ·assumption
     ·rw[c4,List.length_append,b5,g2];simp;omega
  ·cases h
variable {K:WkK} {s:St} {v:WkV} {L:List Nat} {z1 z2 z3 z4:Nat} {p1 p2 p3 p4:Option (Nat×Nat)} {hd:List DV}
theorem Own.opn {a:Option (Nat×Nat)} {cs:List DV} (h:Own [] s a cs): ∀b∈blk a,∃c,s[b]? =some (some ⟨false,c⟩):=by
 rcases h.2 with⟨rfl,_⟩|⟨i,rfl,_,h3⟩
 ·intro b hb;cases hb
 ·intro b hb;rw[List.mem_singleton.1 hb];exact⟨_,h3⟩
theorem WkM.kp {s':St} (h:WkM K s v L z1 p1 z2 p2 z3 p3 z4 p4 hd) (k:Fx L s s'):Kp s s':=by
 intro i all e;refine k.2 i _ (fun hm=>?_) e;have ho: ∃c,s[i]? =some (some ⟨false,c⟩):=by
  rw[h.own]at hm;simp only[List.mem_cons,List.mem_append]at hm;rcases hm with rfl|rfl|rfl|hm|hm|hm|hm
  ·exact⟨_,h.cell⟩
  ·exact⟨_,h.set.hd⟩
  ·exact⟨_,h.set.wd⟩
  ·exact h.o1.opn i hm
  ·exact h.o2.opn i hm
  ·exact h.o3.opn i hm
  ·exact h.o4.opn i hm
 obtain⟨c,hc⟩:=ho;rw[e]at hc;cases hc
theorem Zxj {Bd:Za} (h:Zc0 Bd) (n:Nat) (hK:WkOk K) (hW:Wk K s v L) (h0:0≤K.sup.used) (h1:K.sup.used≤1792) (hs:(v.seats.length:Int)=K.sup.used) (hnd:0≤v.nodes) (hnr:v.nodes+(room K.m v.W:Nat)≤5000) (hm:K.m≤3072) (hh:v.heaps=[]) (hn:4030≤n):
  Ok (MEnd K s L (ZcK K v) []) (run Bd n 231 [.ptr (some (K.w,0))] s):=by
 obtain⟨n,rfl⟩: ∃k,n=k+2:=⟨n-2,by omega⟩;rw[Zf,h.eq];unfold Zb1;obtain⟨R,hR⟩: ∃R,ZcK K v=R:=⟨_,rfl⟩;rw[hR];unfold ZcK at hR;simp only[J_p,D_nil,nn_some'];obtain⟨z1,p1,z2,p2,z3,p3,z4,p4,hd,hW⟩:=hW;rw[Zn hW.cell rfl];show Ok _ (D.int .i64 (.int .i64 K.sup.dir) _ s);simp only[D_int];cases hd0:(K.sup.dir==0)with
 |true=>
  rw[hd0,cond_true]at hR;rw[cond_true,←hR,Zb];exact .mk ⟨s,L,rfl,hW.wk,.refl L s,.refl L s⟩
 |false=>
 rw[hd0,cond_false]at hR;rw[cond_false,Zn hW.cell rfl];show Ok _ (D.int .i64 (.int .i64 K.sup.dir) _ s);simp only[D_int];refine Ok.callP (hW.take h.q21 (n+1) K.sup.dir hK.m hK.big hK.len (by omega)) ?_ ?_
 ·intro s' hp
  cases ht:takeM K K.sup.dir v with
  |none=>rw[ht]at hp hR;cases hp;rw[←hR];exact⟨s,rfl,.refl L s⟩
  |some q=>rw[ht]at hp;obtain⟨d,s2,e,_⟩:=hp;cases e
 intro ds s1 hp;cases ht:takeM K K.sup.dir v with
 |none=>rw[ht]at hp;cases hp
 |some q=>
 obtain⟨b,v1⟩:=q;rw[ht]at hp hR;obtain⟨d,s2,e2,hW1,hfx1,hb⟩:=hp;cases e2;obtain⟨g1,g2,g3,g4,g5,g6⟩:=ZV ht;obtain⟨g7,g8⟩:=ZhR ht;have hroom:=Znl hW.set.len g7;rw[←g8]at hroom;have hfx1L:Fx L s s1:=hfx1.mono fun y hy=>by rw[List.mem_singleton.1 hy];exact hW.mem_j
 simp only[J_d,D_nil];cases b with
 |leaf x=>obtain⟨rfl,_⟩:=hb;rw[←hR];exact .mk ⟨s1,rfl,hfx1L⟩
 |fan x=>obtain⟨rfl,_⟩:=hb;rw[←hR];exact .mk ⟨s1,rfl,hfx1L⟩
 |queue x=>obtain⟨rfl,_⟩:=hb;rw[←hR];exact .mk ⟨s1,rfl,hfx1L⟩
 |node x=>obtain⟨p,rfl,_⟩:=hb;rw[←hR];exact .mk ⟨s1,rfl,hfx1L⟩
 |none=>cases hb;rw[←hR];exact .mk ⟨s1,rfl,hfx1L⟩
 |dir x=>
 obtain⟨px,rfl,hxf,hx16⟩:=hb;simp only at hR;rw[ZyZ];have hxl:x.length≤16:=hx16;rw[Zc];refine Zk _ (fun q y t=>∃(i:Nat) (u:WkV) (Lu:List Nat),y=[.int .i64 i]∧i≤x.length∧x.length-i≤q∧Wk K t u Lu∧Fx L s t∧Nw L s Lu∧Fz t px (ints x)∧u.seats=v.seats∧u.heaps.length=i∧(∀g∈u.heaps,g.name.length≤24)∧v.nodes≤u.nodes∧u.nodes+(room K.m u.W:Nat)≤v.nodes+(room K.m v.W:Nat)∧dirGo K i (x.drop i) u=R) ?_ x.length (n+1) _ _ ⟨0,v1,L,rfl,Nat.zero_le _,by omega,hW1.wk,hfx1L,.refl L s,hxf,g1,by rw[g2,hh];rfl,(by rw[g2,hh];intro _ h;cases h),by rw[g5];omega,by rw[g5];omega,by simpa using hR⟩ (by omega);rintro q _ t ⟨i,u,Lu,rfl,hi,hq,hWu,hfu,hnu,hxt,hus,huh,hun,hnn,hnr2,hgo⟩ rec hrec;obtain⟨y1,r1,y2,r2,y3,r3,y4,r4,ud,hWu⟩:=hWu;simp only[J_i,D_nil];by_cases hlt:i<x.length
 ·obtain⟨i1,o1,rfl⟩:=hxt.1.some_of (by simp[ints];omega)
  rw[decide_eq_true (show(i:Int)<(x.length:Int) by omega),cond_true];refine Ok.join fun jk2 hjk2=>?_
  rw[nn_some',Ze (Zl hlt),Int.toNat_natCast,hxt.1.get1 (Zw hlt)];simp only[D_int];have hdr:x.drop i=x[i]::x.drop (i+1):=List.drop_eq_getElem_cons hlt;rw[hdr]at hgo;generalize x[i]=y at hgo;unfold dirGo at hgo;refine Ok.callP (hWu.take h.q21 (n+1) y hK.m hK.big hK.len (by omega)) ?_ ?_
  ·intro s' hp
   cases ht2:takeM K y u with
   |none=>rw[ht2]at hp hgo;cases hp;rw[←hgo];exact⟨t,rfl,hfu⟩
   |some q=>rw[ht2]at hp;obtain⟨d,s2,e,_⟩:=hp;cases e
  intro ds t1 hp;cases ht2:takeM K y u with
  |none=>rw[ht2]at hp;cases hp
  |some q=>
  obtain⟨b,u1⟩:=q;rw[ht2]at hp hgo;obtain⟨d,s2,e2,hW2,hfx2,hb⟩:=hp;cases e2;obtain⟨k1,k2,k3,k4,k5,k6⟩:=ZV ht2;obtain⟨k7,k8⟩:=ZhR ht2;have hroom2:=Znl hWu.set.len k7;rw[←k8]at hroom2;have hfx2u:Fx Lu t t1:=hfx2.mono fun y hy=>by rw[List.mem_singleton.1 hy];exact hWu.mem_j
  have hfx2L:Fx L s t1:=hfu.step hfx2u hnu;simp only[J_d,D_nil];cases b with
  |leaf x=>obtain⟨rfl,_⟩:=hb;rw[←hgo];exact .mk ⟨t1,rfl,hfx2L⟩
  |fan x=>obtain⟨rfl,_⟩:=hb;rw[←hgo];exact .mk ⟨t1,rfl,hfx2L⟩
  |dir x=>obtain⟨p,rfl,_⟩:=hb;rw[←hgo];exact .mk ⟨t1,rfl,hfx2L⟩
  |node x=>obtain⟨p,rfl,_⟩:=hb;rw[←hgo];exact .mk ⟨t1,rfl,hfx2L⟩
  |none=>cases hb;rw[←hgo];exact .mk ⟨t1,rfl,hfx2L⟩
  |queue qv=>
  obtain⟨rfl,hq12⟩:=hb;simp only at hgo;rw[ZwU];obtain⟨hqn,_⟩:=Zsn (ZsP (Zxx ht2));have hx1:Fz t1 (some (i1,o1)) (ints x):=hxt.kp (hWu.kp hfx2u);have hl12:(ints qv.heads).length=12:=by simp[ints,hq12]
  rw[D_len (cs:=ints qv.heads) (n:=12) hl12,D_len (n:=14) (by simp[hl12])];refine Ok.join fun jk3 hjk3=>?_
  have hA: ∀t2 bb,Zpn u1 i qv.name=bb→WkM K t2 u1 Lu y1 r1 y2 r2 y3 r3 y4 r4 ud→Fx L s t2→Fz t2 (some (i1,o1)) (ints x)→Ok (MEnd K s L R []) (jk3 [.bool bb] t2):=by
   intro t2 bb hbb hW3 hfx3 hx3;rw[hjk3];simp only[J_b,D_nil];cases bb with
   |false=>
    rw[hbb,cond_false]at hgo;rw[ZH h.q111 n rfl,←hgo];exact .mk ⟨t2,rfl,hfx3⟩
   |true=>
    rw[hbb,cond_true]at hgo;rw[Zbi h.q111 n rfl];simp only[D_nil];refine Ok.join fun jk4 hjk4=>?_
    rw[List.take_of_length_le (by omega)];refine Zyt h.q22 (n+1) hK qv.name qv.heads hq12 s L hW3 hfx3 hnu h0 h1 (by rw[k1,hus];exact hs) (by rw[k5];omega) (by rw[k5];omega) hm (by omega) R jk4 ?_ ?_
    ·intro e
     rw[e]at hgo;exact hgo.symm
    intro es w he t3 p z hz hW4 hfx4 hop hbp hnr4 hnn4 hel;rw[he]at hgo;simp only at hgo;obtain⟨c1,c2,c3,c4,c5,c6,c7⟩:=ZhG hW3.set.len he (fun _ h=>by cases h) .nil;rw[hjk4];simp only[J_a,J_s,J_l,D_nil];obtain⟨t4,e4,ho4,hfx5⟩:=Zzq h.q0 n es p t3 hop c2 (by omega);rw[Zi e4];simp only[D_nil];have haL: ∀b o,K.a=some (b,o)→b<t2.length:=fun b o e=>Sl.lt (e▸hW3.img)
    have hw5:w.heaps=u.heaps:=c5.trans k2;have hh2:HeapsO t2 Lu ud w.heaps:=by rw[c5];exact hW3.heaps
    obtain⟨hW5,hfx6⟩:=hW4.keepO hh2 hW3.lt haL hfx4 hfx5 hbp;have hx5:Fz t4 (some (i1,o1)) (ints x):=hx3.kp (hW3.kp hfx6);have hfx6L:Fx L s t4:=hfx3.step hfx6 hnu;rw[Zn hW5.cell rfl];show Ok _ (D.slice 2 (.slice y2 r2 w.heaps.length) _ t4);rw[ZB 2 y2 r2 _ hW5.e2,←ZqX es];have hsl:Sl t4 p (entsC (sortE es)):=by
     rcases ho4 with⟨rfl,h2⟩|⟨b,rest,rfl,h2⟩
     ·exact h2
     ·exact⟨false,_,h2,by rw[List.length_append];omega,by rw[List.drop_zero,List.take_left]⟩
    have hpo:Off Lu p:=Off.blk fun b hb hm=>by have:=hbp b hb;have:=hW3.lt b hm;omega
    obtain⟨b,t5,t6,L6,q1,q2,q3,q4,q5,q6⟩:=hW5.pushHeap (β:=List DV) ⟨qv.name,sortE es⟩ (by rw[hw5,huh];omega) (z:=4) (.inl rfl) hsl hpo;refine Eq.mpr (congrArg (Ok _) (q1 _)) ?_;refine Eq.mpr (congrArg (Ok _) (q2 _)) ?_;rw[hjk2];simp only[D_nil];have hw4:wr64 ((i:Int)+1)=((i+1:Nat):Int):=Zd (by omega) (by omega);rw[hw4];refine hrec (x.length-(i+1)) _ _ (by omega) ⟨i+1,_,L6,rfl,by omega,Nat.le_refl _,q3.wk,hfx6L.step q4 hnu,hnu.trans hfx6L.1 q5,hx5.kp (hW5.kp q4),(c4.trans k1).trans hus,?_,?_,?_,?_,hgo⟩
    ·show(w.heaps++[_]).length=i+1
     rw[List.length_append,hw5,huh];rfl
    ·intro g hg
     have hg':g∈w.heaps++[⟨qv.name,sortE es⟩]:=hg;rw[hw5]at hg';rcases List.mem_append.1 hg' with hg'|hg'
     ·exact hun g hg'
     ·rw[List.mem_singleton.1 hg'];exact hqn
    ·show v.nodes≤w.nodes
     rw[k5]at hnn4;omega
    ·show w.nodes+(room K.m w.W:Nat)≤_
     rw[k5]at hnr4;omega
  by_cases hi0:i=0
  ·subst hi0
   rw[show(((0:Nat):Int)==0)=true from rfl,cond_true];exact hA t1 true rfl hW2 hfx2L hx1
  ·have hib:(((i:Nat):Int)==0)=false:=by rw[beq_eq_false_iff_ne];omega
   rw[hib,cond_false,Zn hW2.cell rfl];show Ok _ (D.slice 2 (.slice y2 r2 u1.heaps.length) _ t1);rw[ZB 2 y2 r2 _ hW2.e2];have hhl:u1.heaps.length=i:=by rw[k2];exact huh
   have hudl:ud.length=u1.heaps.length*2:=hW2.heaps.heaps.len;obtain⟨b,rfl,hbs⟩:=hW2.o2.some_of (by omega);have hw1:wr64 ((i:Int)-1)=((i-1:Nat):Int):=by rw[Zd (by omega) (by omega)];omega
   have hgi:u1.heaps[i-1]? =some u1.heaps[i-1]:=List.getElem?_eq_getElem (by omega);rw[nn_some',hw1,Ze (Zl (by omega)),Int.toNat_natCast,ZgY hW2.o2.sl hW2.heaps.heaps hgi];have hgm:u1.heaps[i-1].name.length≤24:=hun _ (by rw[←k2];exact List.getElem_mem _);obtain⟨gg,hgg⟩: ∃gg,u1.heaps[i-1]=gg:=⟨_,rfl⟩;rw[hgg]at hgi hgm⊢;simp only[D_str];refine Ok.call (Zpm h.q51 (n+1) gg.name qv.name (by omega) (by omega) (by omega) (by omega) t1) ?_;rintro _ ⟨t2,rfl,hp2⟩;refine⟨_,t2,rfl,?_⟩;simp only[J_i,D_nil];refine hA t2 _ ?_ (hW2.pre hp2) (hfx2L.trans (Fx.pre _ hp2)) (hx1.kp hp2.kp);unfold Zpn;rw[decide_eq_false hi0,cond_false,hgi]
 ·rw[decide_eq_false (show ¬(i:Int)<(x.length:Int) by omega),cond_false]
  simp only[Zb];rw[List.drop_eq_nil_of_le (by omega)]at hgo;rw[←hgo];exact .mk ⟨t,Lu,rfl,hWu.wk,hfu,hnu⟩
end Go.Gv.F
namespace Go.Gv.F
open Go.Gv
variable {β:Type}
theorem Fx.toPre {s s':St} (h:Fx [] s s'):Pre s s':=by
 refine⟨s'.drop s.length,?_⟩;have:s'.take s.length=s:=by
  apply List.ext_getElem?;intro i;by_cases hi:i<s.length
  ·rw[List.getElem?_take_of_lt hi]
   have e:s[i]? =some s[i]:=List.getElem?_eq_getElem hi;rw[e];exact h.2 i _ (fun h=>by cases h) e
  ·rw[List.getElem?_eq_none (by rw[List.length_take];omega),List.getElem?_eq_none (by omega)]
 conv=>lhs;rw[←List.take_append_drop s.length s',this]
theorem Ok.catch {P:Out (List DV)×St→Prop} {Q:Out β×St→Prop} {m:M (List DV)} {H:Bool→M β} {s:St} (h:Ok P (m s))
  (k1: ∀s',P (.pan,s')→Ok Q (H true s')) (k2: ∀ds s',P (.val ds,s')→Ok Q (H false s')):Ok Q (M.catch m H s):=by
 obtain⟨⟨o,s'⟩,e,hp⟩:=h;unfold M.catch;rw[e];cases o with
 |val ds=>exact k2 ds s' hp
 |pan=>exact k1 s' hp
theorem ZyK {s:St} {i p:Nat} {f:Bool} {all:List DV} {k:IntKind} {n:Int} (h:s[i]? =some (some ⟨f,all⟩)) (hd:all[p]? =some (.int k n)) (K:IntKind→Int→M β):cellK i p K s=K k n s:=by
 unfold cellK;rw[Zn h hd]
theorem Znt {s:St} {i p:Nat} {f:Bool} {all:List DV} {n:Int} (h:s[i]? =some (some ⟨f,all⟩)) (hd:all[p]? =some (.int .i64 n)) (K:M β):sameK i p .i64 n K s=K s:=by
 unfold sameK;rw[Zn h hd];show(bif ikEq .i64 .i64&&(n==n)then K else fail) s=K s;rw[beq_self_eq_true];rfl
def Kept (v v':WkV):Prop:=v'.heaps=v.heaps∧v'.gens=v.gens∧v'.free=v.free∧v'.nodes=v.nodes
theorem Kept.refl (v:WkV):Kept v v:=⟨rfl,rfl,rfl,rfl⟩
theorem Kept.trans {a b c:WkV} (h:Kept a b) (k:Kept b c):Kept a c:=⟨k.1.trans h.1,k.2.1.trans h.2.1,k.2.2.1.trans h.2.2.1,k.2.2.2.trans h.2.2.2⟩
theorem ZkC {K:WkK} {k:Int} {v v':WkV} {b:BlockV} (h:takeM K k v=some (b,v')):Kept v v':=by
 obtain⟨_,h2,h3,h4,h5,_⟩:=ZV h;exact⟨h2,h3,h4,h5⟩
theorem ZmV {K:WkK} : ∀ {x:List SeatV} {k:Int} {v v':WkV},Zca K k x v=some v'→Kept v v'
 |[],_,_,_,h=>by cases h;exact .refl _
 |x::r,k,v,v',h=>by
  unfold Zca at h;cases h1:ZbC K k x v with
  |none=>rw[h1]at h;cases h
  |some w=>
   rw[h1]at h;refine Kept.trans ?_ (ZmV h);unfold ZbC at h1;cases h2:decide (k≥K.sup.used)with
   |true=>
    rw[h2,cond_true]at h1;cases h3:Zkg x with
    |true=>rw[h3]at h1;cases h1;exact .refl _
    |false=>rw[h3]at h1;cases h1
   |false=>
    rw[h2,cond_false]at h1;cases h3:Zim K.sup x with
    |true=>rw[h3]at h1;cases h1;exact⟨rfl,rfl,rfl,rfl⟩
    |false=>rw[h3]at h1;cases h1
theorem ZvZ {K:WkK} {k slot:Int} {v v':WkV} (h:leafM K k slot v=some v'):Kept v v':=by
 unfold leafM at h;split at h
 ·rename_i x v1 ht
  exact(ZkC ht).trans (ZmV h)
 ·cases h
theorem Zjw {K:WkK} {cnt x5:Int} : ∀ {x:List Int} {k:Int} {v v':WkV},Zbr K cnt x5 k x v=some v'→Kept v v'
 |[],_,_,_,h=>by cases h;exact .refl _
 |y::r,k,v,v',h=>by
  unfold Zbr at h;cases h1:((!(y==0))==decide (x5*16+k<cnt))with
  |false=>rw[h1]at h;cases h
  |true=>
   rw[h1,cond_true]at h;cases h2:(!(y==0))with
   |false=>rw[h2]at h;exact Zjw h
   |true=>
    rw[h2,cond_true]at h;split at h
    ·cases h
    ·rename_i w hw
     exact(ZvZ hw).trans (Zjw h)
theorem Zjn {K:WkK} {cnt:Int} : ∀ {x:List Int} {k:Int} {v v':WkV},Zcm K cnt k x v=some v'→Kept v v'
 |[],_,_,_,h=>by cases h;exact .refl _
 |y::r,k,v,v',h=>by
  unfold Zcm at h;cases h1:((!(y==0))==decide (k*16<cnt))with
  |false=>rw[h1]at h;cases h
  |true=>
   rw[h1,cond_true]at h;cases h2:(y==0)with
   |true=>rw[h2]at h;exact Zjn h
   |false=>
    rw[h2,cond_false]at h;split at h
    ·rename_i x v1 ht
     split at h
     ·cases h
     ·rename_i w hw
      exact((ZkC ht).trans (Zjw hw)).trans (Zjn h)
    ·cases h
theorem ZuO {K:WkK} {v v':WkV} (h:Zc5 K v=some v'):Kept v v':=by
 unfold Zc5 at h;cases h1:(K.sup.used==0)with
 |true=>rw[h1]at h;cases h;exact .refl _
 |false=>
  rw[h1,cond_false]at h;split at h
  ·rename_i x v1 ht
   exact(ZkC ht).trans (Zjn h)
  ·cases h
theorem Zm8 {K:WkK} : ∀ {f:Nat} {fl fl':List Bool} {k:Int} {v v':WkV},Zc7 K f fl k v=some (fl',v')→v'.seats=v.seats∧v'.heaps=v.heaps∧v'.gens=v.gens∧v'.nodes=v.nodes
 |0,_,_,_,_,_,h=>by cases h
 |f+1,fl,fl',k,v,v',h=>by
  unfold Zc7 at h;cases h1:(k==0)with
  |true=>rw[h1]at h;cases h;exact⟨rfl,rfl,rfl,rfl⟩
  |false=>
   rw[h1,cond_false]at h;cases h2:decide (k≤K.sup.used)with
   |false=>rw[h2]at h;cases h
   |true=>
    rw[h2,cond_true]at h;split at h
    ·cases h
    ·rename_i x hx
     cases h3:(bif (bif !x.live then decide (x.gen<K.sup.g)else false)then !fl.getD (k-1).toNat false else false)with
     |false=>rw[h3]at h;cases h
     |true=>
      rw[h3,cond_true]at h;exact Zm8 (v:= { v with free:=v.free++[k-1] }) h
theorem Zv0 {K:WkK} {v v':WkV} (h:freeM K v=some v'):v'.seats=v.seats∧v'.heaps=v.heaps∧v'.gens=v.gens∧v'.nodes=v.nodes:=by
 unfold freeM at h;cases h1:Zc7 K (K.sup.used.toNat+1) (List.replicate K.sup.used.toNat false) K.sup.free v with
 |none=>rw[h1]at h;cases h
 |some q=>
  obtain⟨fl,w⟩:=q;rw[h1]at h;unfold ZhQ at h;simp only at h;cases h2:Zfa K fl w.seats with
  |false=>rw[h2]at h;cases h
  |true=>rw[h2]at h;cases h;exact Zm8 h1
theorem Zum {K:WkK} {v v':WkV} (hl:v.W.length=(K.m+63)/64) (h:ZcK K v=some v'):v'.seats=v.seats∧v'.gens=v.gens∧v'.free=v.free:=by
 unfold ZcK at h;cases h1:(K.sup.dir==0)with
 |true=>rw[h1]at h;cases h;exact⟨rfl,rfl,rfl⟩
 |false=>
  rw[h1,cond_false]at h;split at h
  ·rename_i x v1 ht
   obtain⟨g1,g2,g3,g4,g5,g6⟩:=ZV ht;obtain⟨c1,c2,c3,c4⟩:=ZtW (by rw[(ZhR ht).2,Zf8];exact hl) h;exact⟨c1.trans g1,c2.trans g3,c3.trans g4⟩
  ·cases h
def stOf (x:SupV) (v:WkV):StV:=⟨x.blocks,x.slots,x.g,v.heaps,v.gens,v.free⟩
def st0:StV:=⟨0,0,0,[],[],[]⟩
def walkF (K:WkK):Option (Option WkV):=bif ZI K.sup then(bif decide (K.sup.blocks≤((K.img.length/64:Nat):Int))then some (walkM K)else some none)else none
def WalkQ (s:St) (m:Nat) (x:SupV) (r:Option (Option WkV)) (o:Out (List DV)×St):Prop:=match r with
 |none=>∃s',o=(.val [.agg (stC st0 0 none 0 none 0 none),.ptr none,.int .i64 2],s')∧Pre s s'
 |some none=>∃s',o=(.val [.agg (stC st0 0 none 0 none 0 none),.ptr none,.int .i64 31],s')∧Pre s s'
 |some (some v)=>∃s' z2 p2 z3 p3 z4 p4 i j,o=(.val [.agg (stC (stOf x v) z2 p2 z3 p3 z4 p4),.ptr (some (i,0)),.int .i64 0],s')∧Pre s s'∧(z2=2∨p2=none)∧(z3=1∨p3=none)∧(z4=1∨p4=none)∧StR s' (stOf x v) p2 p3 p4∧SetM s' false i j m v.W∧s.length≤j∧i≠j
structure Cells (s:St) (b:Nat) (A:List DV) (r e:DV):Prop where
 st:s[b+1]? =some (some ⟨false,A⟩)
 re:s[b+2]? =some (some ⟨false,[r]⟩)
 er:s[b+3]? =some (some ⟨false,[e]⟩)
 len:A.length=6
theorem Cells.fx {s s':St} {b:Nat} {A:List DV} {r e:DV} {T:List Nat} (h:Cells s b A r e) (k:Fx T s s') (hT: ∀x∈T,x<b∨b+4≤x):Cells s' b A r e:=
 ⟨k.2 _ _ (fun hm=>by have:=hT _ hm;omega) h.st,k.2 _ _ (fun hm=>by have:=hT _ hm;omega) h.re,k.2 _ _ (fun hm=>by have:=hT _ hm;omega) h.er,h.len⟩
theorem Cells.stores {s:St} {b:Nat} {A:List DV} {r e:DV} (h:Cells s b A r e) (A':List DV) (r' e':DV) (hl:A'.length=6): ∃s',(∀K:M β,(M.store (b+1) 0 A'<|M.store (b+2) 0 [r']<|M.store (b+3) 0 [e'] K) s=K s')∧Cells s' b A' r' e'∧Fx [b+1,b+2,b+3] s s':=by
 have h1:=(List.getElem?_eq_some_iff.1 h.st).1;have h2:=(List.getElem?_eq_some_iff.1 h.re).1;have h3:=(List.getElem?_eq_some_iff.1 h.er).1;have hsp:spl A 0 A'=A':=by
  have:=ZcN [] A [] A' (by rw[h.len,hl]);simpa using this
 refine⟨((s.set (b+1) (some ⟨false,A'⟩)).set (b+2) (some ⟨false,[r']⟩)).set (b+3) (some ⟨false,[e']⟩),fun K=>?_,⟨?_,?_,?_,hl⟩,⟨by simp,fun i x hi e=>?_⟩⟩
 ·rw[ZkA h.st (by rw[h.len,hl];omega),hsp,Z1 (by rw[List.getElem?_set_ne (by omega)];exact h.re) (by show 0<1;omega),Z1 (by rw[List.getElem?_set_ne (by omega),List.getElem?_set_ne (by omega)];exact h.er) (by show 0<1;omega)]
  rfl
 ·rw[List.getElem?_set_ne (by omega),List.getElem?_set_ne (by omega),List.getElem?_set_self h1]
 ·rw[List.getElem?_set_ne (by omega),List.getElem?_set_self (by simpa using h2)]
 ·rw[List.getElem?_set_self (by simpa using h3)]
 ·simp only[List.mem_cons,List.not_mem_nil,or_false,not_or]at hi
  rw[List.getElem?_set_ne (by omega),List.getElem?_set_ne (by omega),List.getElem?_set_ne (by omega)];exact e
theorem Cells.loads {s:St} {b:Nat} {A:List DV} {r e:DV} (h:Cells s b A r e):(M.load (b+1) 0 6 fun o=>M.load1 (b+2) 0 fun o1=>M.load1 (b+3) 0 fun o2=>M.ret [.agg o,o1,o2]) s=some (.val [.agg A,r,e],s):=by
 rw[ZT h.st (by rw[h.len];omega),Zn h.re rfl,Zn h.er rfl,List.drop_zero,List.take_of_length_le (by rw[h.len];omega),Zb]
theorem ZlV {x:SupV} (h:ZI x=true):geomF x.blocks x.slots x.g=true∧0≤x.used∧x.used≤x.slots∧0≤x.free∧x.free≤x.used:=by
 unfold ZI at h;rw[Bool.and_eq_true,Bool.not_eq_true',Bool.or_eq_false_iff,Bool.or_eq_false_iff,Bool.or_eq_false_iff,Bool.or_eq_false_iff,Bool.or_eq_false_iff,Bool.or_eq_false_iff]at h;obtain⟨⟨_,_,h1,h2,h3,h4,h5⟩,_⟩:=h;refine⟨by simpa using h1,?_,?_,?_,?_⟩
 ·have:=of_decide_eq_false h2;omega
 ·have:=of_decide_eq_false h3;omega
 ·have:=of_decide_eq_false h4;omega
 ·have:=of_decide_eq_false h5;omega
theorem Zb4 {b s g:Int} (h:geomF b s g=true):16≤b∧b≤3072∧1≤s∧s≤1792∧1≤g∧g≤4294967295:=by
 unfold geomF at h;simp only[Bool.and_eq_true,decide_eq_true_iff]at h;omega
theorem Cells.ents {s s':St} {b:Nat} {r e r' e':DV} {A':List DV} (h:Cells s b (stC st0 0 none 0 none 0 none) r e) (h':Cells s' b A' r' e') (k:Fx [b+1,b+2,b+3] s s') {p:Option (Nat×Nat)} {es:List EntV} (hs:Sl s p (entsC es)):Sl s' p (entsC es):=by
 cases p with
 |none=>exact hs
 |some q=>
  obtain⟨i,o⟩:=q;by_cases hi:i∈[b+1,b+2,b+3]
  ·have hnil:es=[]:=by
    cases es with
    |nil=>rfl
    |cons x es=>
     exfalso;obtain⟨f,all,e1,e2,e3⟩:=hs;have hlen:(entsC (x::es)).length=4+(entsC es).length:=by
      rw[ZA,ZA,List.length_cons];omega
     simp only[List.mem_cons,List.not_mem_nil,or_false]at hi;rcases hi with rfl|rfl|rfl
     ·rw[h.st]at e1
      cases e1;have h6:(stC st0 0 none 0 none 0 none).length=6:=rfl;have ho:o=0∨o=1∨o=2:=by omega
      have e4:=congrArg (fun l=>l[3-o]?) e3;rw[List.getElem?_take_of_lt (by omega),List.getElem?_drop]at e4;rcases ho with rfl|rfl|rfl<;>cases e4
     ·rw[h.re]at e1
      cases e1;rw[hlen]at e2;simp only[List.length_singleton]at e2;omega
     ·rw[h.er]at e1
      cases e1;rw[hlen]at e2;simp only[List.length_singleton]at e2;omega
   subst hnil;obtain⟨f,all,e1,e2,_⟩:=hs;simp only[List.mem_cons,List.not_mem_nil,or_false]at hi;rcases hi with rfl|rfl|rfl
   ·rw[h.st]at e1
    cases e1;refine⟨false,_,h'.st,?_,rfl⟩;have:=h'.len;have h6:(stC st0 0 none 0 none 0 none).length=6:=rfl;have h0:(entsC []).length=0:=rfl;omega
   ·rw[h.re]at e1
    cases e1;exact⟨false,_,h'.re,e2,rfl⟩
   ·rw[h.er]at e1
    cases e1;exact⟨false,_,h'.er,e2,rfl⟩
  ·exact Sl.fx hs k fun b' o' e=>by cases e;exact hi
theorem Heaps.ents {s s':St} (h: ∀(p:Option (Nat×Nat)) (es:List EntV),Sl s p (entsC es)→Sl s' p (entsC es)): ∀ {ds:List DV} {xs:List HeapV},Heaps s ds xs→Heaps s' ds xs
 |_,[],h1=>h1
 |_,_::_,⟨z,p,t,hz,h1,h2,h3⟩=>⟨z,p,t,hz,h1,h p _ h2,h3.ents h⟩
def BodyQ (K:WkK) (s:St) (b:Nat) (r:Option WkV) (o:Out (List DV)×St):Prop:=match r with
 |none=>∃s',o=(.pan,s')∧Fx [] s s'
 |some v=>∃s' ds z2 p2 z3 p3 z4 p4,o=(.val ds,s')∧Fx [b+1,b+2,b+3] s s'∧Cells s' b (stC (stOf K.sup v) z2 p2 z3 p3 z4 p4) (.ptr (some (K.i,0))) (.int .i64 0)∧(z2=2∨p2=none)∧(z3=1∨p3=none)∧(z4=1∨p4=none)∧StR s' (stOf K.sup v) p2 p3 p4∧SetM s' false K.i K.j K.m v.W
theorem ZtA {Bd:Za} (h:Zef Bd) (n:Nat) (a:Option (Nat×Nat)) (img:List UInt8) (x:SupV) (pc:Option (Nat×Nat)) (s:St) (ha:Byt s a img) (hc:Sl s pc (ints x.charts)) (hl:img.length<1000000) (hcl:x.charts.length<1000) (hn:5000≤n):
  ∃K:WkK,K.m=x.blocks.toNat∧K.img=img∧K.sup=x∧Ok (WalkQ s x.blocks.toNat x (walkF K)) (run Bd n 171 [.slice 1 a img.length,.agg (supC x pc)] s):=by
 obtain⟨n,rfl⟩: ∃k,n=k+3:=⟨n-3,by omega⟩;refine⟨⟨s.length+8,s.length+7,s.length+6,x.blocks.toNat,a,img,x,pc⟩,rfl,rfl,rfl,?_⟩;obtain⟨K,hK⟩: ∃K:WkK,(⟨s.length+8,s.length+7,s.length+6,x.blocks.toNat,a,img,x,pc⟩:WkK)=K:=⟨_,rfl⟩;rw[hK];have kw:s.length+8=K.w:=by rw[←hK]
 have ki:s.length+7=K.i:=by rw[←hK]
 have kj:s.length+6=K.j:=by rw[←hK]
 have km:K.m=x.blocks.toNat:=by rw[←hK]
 have ka:a=K.a:=by rw[←hK]
 have kg:img=K.img:=by rw[←hK]
 have ks:x=K.sup:=by rw[←hK]
 have kp:pc=K.pc:=by rw[←hK]
 clear hK;obtain⟨R,hR⟩: ∃R,walkF K=R:=⟨_,rfl⟩;rw[hR];unfold walkF at hR;rw[←ks,←kg]at hR;rw[Zf,h.eq];unfold ZgN;simp only[J_l];rw[J_a];unfold supC;simp only[J_i,J_l,D_nil];have hsup:([.int .i64 x.seq,.int .i64 x.blocks,.int .i64 x.slots,.int .i64 x.g,.int .i64 x.fan,.int .i64 x.used,.int .i64 x.free,.int .i64 x.dir,.slice 1 pc x.charts.length]:List DV)=supC x pc:=rfl;rw[hsup,Zu,Zu,Zu,Zu];have hst0:([.int .i64 0,.int .i64 0,.int .i64 0,.slice 0 none 0,.slice 0 none 0,.slice 0 none 0]:List DV)=stC st0 0 none 0 none 0 none:=rfl;simp only[hst0];have l1: ∀c,(s++[some (c:Blk)]).length=s.length+1:=fun c=>by simp
 have l2: ∀c d,((s++[some (c:Blk)])++[some (d:Blk)]).length=s.length+2:=fun c d=>by simp
 have l3: ∀c d e,(((s++[some (c:Blk)])++[some (d:Blk)])++[some (e:Blk)]).length=s.length+3:=fun c d e=>by simp
 simp only[l1,l2,l3];obtain⟨S1,hS1⟩: ∃S1,(((s++[some (⟨false,supC x pc⟩:Blk)])++[some (⟨false,stC st0 0 none 0 none 0 none⟩:Blk)])++[some (⟨false,[.ptr none]⟩:Blk)])++[some (⟨false,[.int .i64 0]⟩:Blk)]=S1:=⟨_,rfl⟩;rw[hS1];have hp1:Pre s S1:=by rw[←hS1];exact((((Pre.new _ _).trans (Pre.new _ _)).trans (Pre.new _ _)).trans (Pre.new _ _))
 have hlen1:S1.length=s.length+4:=by rw[←hS1];simp
 have h9:S1[s.length]? =some (some ⟨false,supC x pc⟩):=by rw[←hS1];simp
 have hC1:Cells S1 s.length (stC st0 0 none 0 none 0 none) (.ptr none) (.int .i64 0):=by
  rw[←hS1];exact⟨by simp,by simp,by simp,rfl⟩
 clear hS1;rw[ZT h9 (by show 0+9≤9;omega)];show Ok _ (J.i .i64 (supC x pc) _ S1);unfold supC;simp only[J_i,J_l,D_nil];rw[hsup];have hsR:=Zki h.q83 (n+2) x pc S1 (hc.mono hp1) hcl (by omega);rw[Zi hsR];simp only[J_b,D_nil];obtain⟨S2,hS2⟩: ∃S2,S1++[some (⟨false,supC x pc⟩:Blk)]=S2:=⟨_,rfl⟩;rw[hS2];have hp2:Pre S1 S2:=by rw[←hS2];exact Pre.new _ _
 have hlen2:S2.length=s.length+5:=by rw[←hS2];simp[hlen1]
 have h92:=hp2.get h9;have hC2:Cells S2 s.length (stC st0 0 none 0 none 0 none) (.ptr none) (.int .i64 0):=⟨hp2.get hC1.st,hp2.get hC1.re,hp2.get hC1.er,rfl⟩;have hp12:=hp1.trans hp2;clear hS2 hp1 hp2 hC1 h9 hsR;have hfin: ∀S3,Fx [s.length+1,s.length+2,s.length+3] S2 S3→Pre s S3:=fun S3 k=>by
  refine Fx.toPre ((Fx.pre [] hp12).step k fun y hy=> .inr ?_);simp only[List.mem_cons,List.not_mem_nil,or_false]at hy;omega
 cases hsf:ZI x with
 |false=>
  rw[hsf,cond_false]at hR;obtain⟨S3,e3,hC3,hf3⟩:=hC2.stores (β:=List DV) (stC st0 0 none 0 none 0 none) (.ptr none) (.int .i64 2) rfl;rw[Bool.not_false,cond_true,e3,hC3.loads,←hR];exact .mk ⟨S3,rfl,hfin S3 hf3⟩
 |true=>
 rw[hsf,cond_true]at hR;rw[Bool.not_true,cond_false];obtain⟨hgeo,hu0,hu1,hf0,hf1⟩:=ZlV hsf;obtain⟨g1,g2,g3,g4,g5,g6⟩:=Zb4 hgeo;refine Ok.catch (P:=BodyQ K S2 s.length (bif decide (x.blocks≤((img.length/64:Nat):Int))then walkM K else none)) ?_ ?_ ?_
 ·have hx0: ∃m:Nat,x.blocks=(m:Int):=⟨x.blocks.toNat,by omega⟩
  rw[Zn h92 (d:= .int .i64 x.blocks) rfl];simp only[D_int];have hw:wr64 (((img.length:Nat):Int).tdiv 64)=((img.length/64:Nat):Int):=by
   rw[Ztp (by omega),Int.toNat_natCast];exact Zd (by omega) (by omega)
  rw[hw];cases hbl:decide (x.blocks≤((img.length/64:Nat):Int))with
  |false=>
   rw[ZH h.q111 (n+1) rfl,cond_false];exact .mk ⟨S2,rfl,.refl _ _⟩
  |true=>
  have hble:=of_decide_eq_true hbl;rw[Zbi h.q111 (n+1) rfl,cond_true];simp only[D_nil];rw[ZT h92 (by show 0+9≤9;omega)];show Ok _ (J.i .i64 (supC x pc) _ S2);unfold supC;simp only[J_i,J_l,D_nil];rw[Zn h92 (d:= .int .i64 x.blocks) rfl];simp only[D_int];rw[Zu];obtain⟨S3,hS3⟩: ∃S3,S2++[some (⟨false,[.int .i64 0,.int .i64 1]⟩:Blk)]=S3:=⟨_,rfl⟩;have hp3:Pre S2 S3:=by rw[←hS3];exact Pre.new _ _
  have hlen3:S3.length=s.length+6:=by rw[←hS3];simp[hlen2]
  have hs01:Sl S3 (some (S2.length,0)) (ints [0,1]):=⟨false,[.int .i64 0,.int .i64 1],by rw[←hS3];simp,Nat.le_refl _,rfl⟩;rw[hS3];obtain⟨m,hm⟩:=hx0;obtain⟨S4,e4,hp4,hlen4,hset4⟩:=ZkG h.q133 (n+2) m [0,1] (some (S2.length,0)) S3 (by omega) hs01 (by show 2<1000000;omega) (by show 2+4≤n+2;omega);have hKm:m=K.m:=by rw[km,hm];rfl
  have e4':run Bd (n+2) 177 [.int .i64 x.blocks,.slice 1 (some (S2.length,0)) 2] S3=some (.val [.ptr (some (S3.length+1,0))],S4):=by rw[hm];exact e4
  rw[ZcD e4' hp4];simp only[J_p,D_nil];have h94:=hp4.get (hp3.get h92);rw[ZT h94 (by show 1+3≤9;omega)];show Ok _ (J.i .i64 (.int .i64 x.blocks::[.int .i64 x.slots,.int .i64 x.g]) _ S4);simp only[J_i,D_nil];rw[Zu];have hw8:S4.length=K.w:=by rw[hlen4,hlen3];omega
  have hi7:S3.length+1=K.i:=by rw[hlen3];omega
  rw[hw8,hi7];have hset5:SetM S4 false K.i K.j K.m (setOf K.m [0,1]):=by
   rw[hi7]at hset4;rw[←kj,←hlen3,←hKm];exact hset4
  obtain⟨S5,hS5⟩: ∃S5,S4++[some (⟨false,wkC K (wk0 K.m) (slC 0 none 0) (slC 0 none 0) (slC 0 none 0) (slC 0 none 0)⟩:Blk)]=S5:=⟨_,rfl⟩;have hcell:([.slice 1 a img.length,.int .i64 x.seq,.int .i64 x.blocks,.int .i64 x.slots,.int .i64 x.g,.int .i64 x.fan,.int .i64 x.used,.int .i64 x.free,.int .i64 x.dir,.slice 1 pc x.charts.length,.ptr (some (K.i,0)),.slice 0 none 0,.int .i64 x.blocks,.int .i64 x.slots,.int .i64 x.g,.slice 0 none 0,.slice 0 none 0,.slice 0 none 0,.int .i64 0]:List DV)=wkC K (wk0 K.m) (slC 0 none 0) (slC 0 none 0) (slC 0 none 0) (slC 0 none 0):=by
   unfold wkC;rw[←ka,←kg,←ks,←kp];rfl
  rw[hcell,hS5];have hp5:Pre S4 S5:=by rw[←hS5];exact Pre.new _ _
  have hlen5:S5.length=s.length+9:=by rw[←hS5];simp[hlen4,hlen3]
  have hS5w:S5[K.w]? =some (some ⟨false,wkC K (wk0 K.m) (slC 0 none 0) (slC 0 none 0) (slC 0 none 0) (slC 0 none 0)⟩):=by rw[←hS5,←hw8];simp
  have hpA:Pre s S5:=((hp12.trans hp3).trans hp4).trans hp5;have hW:WkM K S5 (wk0 K.m) [K.w,K.i,K.j] 0 none 0 none 0 none 0 none []:=by
   refine⟨hS5w,.inr rfl,.inr rfl,.inr rfl,.inr rfl,Own.nil ⟨S5,rfl⟩,Own.nil ⟨S5,rfl⟩,Own.nil ⟨S5,rfl⟩,Own.nil ⟨S5,rfl⟩,rfl,hset5.pre hp5,?_,?_,rfl,?_⟩
   ·rw[←ka,←kg];exact ha.mono hpA
   ·rw[←ka]
    rintro b o rfl hm;have:=Sl.lt ha;simp only[List.mem_cons,List.not_mem_nil,or_false]at hm;omega
   ·simp only[List.nodup_cons,List.mem_cons,List.not_mem_nil,or_false,not_or]
    refine⟨⟨by omega,by omega⟩,by omega,not_false,.nil⟩
  have hC5:Cells S5 s.length (stC st0 0 none 0 none 0 none) (.ptr none) (.int .i64 0):=hC2.fx (Fx.pre [] ((hp3.trans hp4).trans hp5)) fun y hy=>by cases hy
  have hf25:Fx [] S2 S5:=Fx.pre [] ((hp3.trans hp4).trans hp5);have hKok:WkOk K:=⟨by rw[←ks,hm,hKm],by rw[←kg,←hKm];omega,by rw[←kg];exact hl⟩;have hnew: ∀y∈[K.w,K.i,K.j],S2.length≤y:=fun y hy=>by
   simp only[List.mem_cons,List.not_mem_nil,or_false]at hy;omega
  have hpan: ∀t,Fx [K.w,K.i,K.j] S5 t→Fx [] S2 t:=fun t k=>hf25.step k fun y hy=> .inr (hnew y hy)
  obtain⟨W1,hW1⟩: ∃W1,walkM K=W1:=⟨_,rfl⟩;rw[hW1];unfold walkM at hW1;have hKu0:0≤K.sup.used:=by rw[←ks];exact hu0
  have hKu1:K.sup.used≤1792:=by rw[←ks];omega
  have hKf:0≤K.sup.free:=by rw[←ks];exact hf0
  have hKm2:K.m≤3072:=by omega
  refine Ok.callP (ZyF h.q11 (n+2) hKok hW.wk (by show 0<1000;omega) (by omega)) ?_ ?_
  ·intro t hp
   cases hr:Zc5 K (wk0 K.m)with
   |none=>rw[hr]at hp hW1;obtain⟨_,e,hf⟩:=hp;cases e;rw[←hW1];exact⟨t,rfl,hpan t hf⟩
   |some v=>rw[hr]at hp;obtain⟨_,_,e,_⟩:=hp;cases e
  intro ds t1 hp;cases hr1:Zc5 K (wk0 K.m)with
  |none=>rw[hr1]at hp;obtain⟨_,e,_⟩:=hp;cases e
  |some v1=>
  rw[hr1]at hp hW1;obtain⟨_,L1,e,hWk1,hfx1,hnw1⟩:=hp;cases e;simp only at hW1;simp only[D_nil];obtain⟨k1,k2,k3,k4⟩:=ZuO hr1;obtain⟨hs1,hr1s⟩:=Zxk hKu0 hKu1 rfl hr1;refine Ok.callP (ZyW h.q18 (n+2) hWk1 hKu0 hKu1 hKf hs1 hr1s k1 k3 (by omega)) ?_ ?_
  ·intro t hp
   cases hr:freeM K v1 with
   |none=>rw[hr]at hp hW1;obtain⟨_,e,hf⟩:=hp;cases e;rw[←hW1];exact⟨t,rfl,hpan t (hfx1.step hf hnw1)⟩
   |some v=>rw[hr]at hp;obtain⟨_,_,e,_⟩:=hp;cases e
  intro ds t2 hp;cases hr2:freeM K v1 with
  |none=>rw[hr2]at hp;obtain⟨_,e,_⟩:=hp;cases e
  |some v2=>
  rw[hr2]at hp hW1;obtain⟨_,L2,e,hWk2,hfx2,hnw2⟩:=hp;cases e;simp only at hW1;simp only[D_nil];obtain⟨q1,q2,q3,q4⟩:=Zv0 hr2;have hfx2':Fx [K.w,K.i,K.j] S5 t2:=hfx1.step hfx2 hnw1;have hnw2':Nw [K.w,K.i,K.j] S5 L2:=hnw1.trans hfx1.1 hnw2;have hWl:v2.W.length=(K.m+63)/64:=by obtain⟨_,_,_,_,_,_,_,_,_,hw⟩:=hWk2;exact hw.set.len
  have hn0:v2.nodes=0:=by rw[q4,k4];rfl
  have hroom:=ZvE K.m v2.W;refine Ok.callP (Zxj h.q9 (n+2) hKok hWk2 hKu0 hKu1 (by rw[q1];exact hs1) (by rw[hn0];exact Int.le_refl _) (by rw[hn0];omega) hKm2 (by rw[q2,k1];rfl) (by omega)) ?_ ?_
  ·intro t hp
   cases hr:ZcK K v2 with
   |none=>rw[hr]at hp hW1;obtain⟨_,e,hf⟩:=hp;cases e;rw[←hW1];exact⟨t,rfl,hpan t (hfx2'.step hf hnw2')⟩
   |some v=>rw[hr]at hp;obtain⟨_,_,e,_⟩:=hp;cases e
  intro ds t3 hp;cases hr3:ZcK K v2 with
  |none=>rw[hr3]at hp;obtain⟨_,e,_⟩:=hp;cases e
  |some v3=>
  rw[hr3]at hp hW1;obtain⟨_,L3,e,hWk3,hfx3,hnw3⟩:=hp;cases e;simp only at hW1;simp only[D_nil];obtain⟨w1,w2,w3⟩:=Zum hWl hr3;have hfx3':Fx [K.w,K.i,K.j] S5 t3:=hfx2'.step hfx3 hnw2';have hnw3':Nw [K.w,K.i,K.j] S5 L3:=hnw2'.trans hfx2'.1 hnw3;have hsl:(v3.seats.length:Int)=K.sup.used:=by rw[w1,q1];exact hs1
  have hgl:v3.gens=[]:=by rw[w2,q3,k2];rfl
  obtain⟨y1,r1,y2,r2,y3,r3,y4,r4,hd,hWm⟩:=hWk3;rw[ZyK hWm.cell (k:= .i64) (n:=v3.nodes) rfl,Zn hWm.cell (d:= .int .i64 v3.nodes) rfl];simp only[D_int];refine Ok.call (ZzF h.q20 (n+2) hWm.wk (by omega) (by rw[hgl];show 0<100000;omega) (by omega)) ?_;rintro _ ⟨t4,L4,rfl,hWk4,hfx4,hnw4⟩;refine⟨_,t4,rfl,?_⟩;simp only[J_i,D_nil];have hfx4':Fx [K.w,K.i,K.j] S5 t4:=hfx3'.step hfx4 hnw3';have hnw4':Nw [K.w,K.i,K.j] S5 L4:=hnw3'.trans hfx3'.1 hnw4;obtain⟨y1,r1,y2,r2,y3,r3,y4,r4,hd,hW4⟩:=hWk4;have hcn:(wkC K (liveM v3) (slC y1 r1 (liveM v3).seats.length) (slC y2 r2 (liveM v3).heaps.length) (slC y3 r3 (liveM v3).gens.length) (slC y4 r4 (liveM v3).free.length))[18]? =some (.int .i64 v3.nodes):=rfl;rw[Znt hW4.cell hcn,Znt hW4.cell hcn];have hbd:((((liveN v3:Nat):Int))==v3.nodes)=decide (((liveN v3:Nat):Int)=v3.nodes):=rfl;rw[hbd];cases hlv:decide (((liveN v3:Nat):Int)=v3.nodes)with
  |false=>
   rw[hlv,cond_false]at hW1;rw[ZH h.q111 (n+1) rfl,←hW1];exact .mk ⟨t4,rfl,hpan t4 hfx4'⟩
  |true=>
  rw[hlv,cond_true]at hW1;rw[Zbi h.q111 (n+1) rfl];simp only[D_nil];rw[Znt hW4.cell hcn,ZT hW4.cell (by show 12+6≤19;omega)];show Ok _ (J.i .i64 (.int .i64 K.sup.blocks:: .int .i64 K.sup.slots:: .int .i64 K.sup.g::slC y2 r2 (liveM v3).heaps.length::slC y3 r3 (liveM v3).gens.length::slC y4 r4 (liveM v3).free.length::[]) _ t4);unfold slC;simp only[J_i,Zm 2 y2 r2 _ hW4.e2,Zm 1 y3 r3 _ hW4.e3,Zm 1 y4 r4 _ hW4.e4,D_nil];rw[Zn hW4.cell (d:= .ptr (some (K.i,0))) rfl];simp only[D_ptr];have hap:apart (some (s.length+1,0)) K.w=true:=by
   show(!Nat.beq K.w (s.length+1))=true;cases hbq:Nat.beq K.w (s.length+1)with
   |false=>rfl
   |true=>have:=Nat.eq_of_beq_eq_true hbq;omega
  rw[Ze hap];have hC4:Cells t4 s.length (stC st0 0 none 0 none 0 none) (.ptr none) (.int .i64 0):=hC5.fx hfx4' fun y hy=>by
   have:=hnew y hy;omega
  obtain⟨t5,e5,hC6,hf5⟩:=hC4.stores (β:=List DV) (stC (stOf K.sup (liveM v3)) 2 r2 1 r3 1 r4) (.ptr (some (K.i,0))) (.int .i64 0) rfl;refine Eq.mpr (congrArg (Ok _) (e5 (M.ret []))) ?_;rw[Zb,←hW1];have hno: ∀y∈L4,y∉[s.length+1,s.length+2,s.length+3]:=fun y hy hm=>by
   have h1:S2.length≤y:=by
    rcases hnw4' y hy with h2|h2
    ·exact hnew y h2
    ·have:=hf25.1;omega
   simp only[List.mem_cons,List.not_mem_nil,or_false]at hm;omega
  have hoL:=hW4.own;refine .mk ⟨t5,[],2,r2,1,r3,1,r4,rfl,((hpan t4 hfx4').mono fun y hy=>by cases hy).trans hf5,hC6,.inl rfl,.inl rfl,.inl rfl,⟨⟨hd,(hW4.o2.fx hf5 fun y hy=>hno y (by rw[hoL];simp[hy])).sl,Heaps.ents (fun _ _ k=>hC4.ents hC6 hf5 k) hW4.heaps.heaps⟩,(hW4.o3.fx hf5 fun y hy=>hno y (by rw[hoL];simp[hy])).sl,(hW4.o4.fx hf5 fun y hy=>hno y (by rw[hoL];simp[hy])).sl⟩,hW4.set.fx hf5 (hno _ (by rw[hoL];simp)) (hno _ (by rw[hoL];simp))⟩
 ·intro S3 hp
  cases hb:(bif decide (x.blocks≤((img.length/64:Nat):Int))then walkM K else none)with
  |some v=>rw[hb]at hp;obtain⟨_,_,_,_,_,_,_,_,e,_⟩:=hp;cases e
  |none=>
   rw[hb]at hp;obtain⟨_,e,hf⟩:=hp;cases e;rw[cond_true];have hC3:=hC2.fx hf fun y hy=>by cases hy
   obtain⟨S4,e4,hC4,hf4⟩:=hC3.stores (β:=List DV) (stC st0 0 none 0 none 0 none) (.ptr none) (.int .i64 31) rfl;have hR2:R=some none:=by
    rw[←hR];cases hd:decide (x.blocks≤((img.length/64:Nat):Int))with
    |true=>rw[hd]at hb;rw[cond_true]at hb⊢;rw[hb]
    |false=>rfl
   rw[hR2];refine Ok.catch (P:=fun o=>o=(.val [],S4)) (by rw[e4];exact .mk rfl) ?_ ?_
   ·intro S5 e;cases e
   ·intro ds S5 e
    cases e;rw[cond_false,hC4.loads];exact .mk ⟨S4,rfl,hfin S4 ((hf.mono fun y hy=>by cases hy).trans hf4)⟩
 ·intro ds S3 hp
  cases hb:(bif decide (x.blocks≤((img.length/64:Nat):Int))then walkM K else none)with
  |none=>rw[hb]at hp;obtain⟨_,e,_⟩:=hp;cases e
  |some v=>
   rw[hb]at hp;obtain⟨_,_,z2,p2,z3,p3,z4,p4,e,hf,hC3,hz2,hz3,hz4,hst,hset⟩:=hp;cases e;rw[cond_false,hC3.loads];have hR2:R=some (some v):=by
    rw[←hR];cases hd:decide (x.blocks≤((img.length/64:Nat):Int))with
    |true=>rw[hd]at hb;rw[cond_true]at hb⊢;rw[hb]
    |false=>rw[hd]at hb;cases hb
   rw[hR2,←km,ks];exact .mk ⟨S3,z2,p2,z3,p3,z4,p4,K.i,K.j,rfl,hfin S3 hf,hz2,hz3,hz4,hst,hset,by omega,by omega⟩
end Go.Gv.F
namespace Go.Gv.F
open Go.Gv
def wkOf (img:List UInt8) (x:SupV):WkK:=⟨0,0,0,x.blocks.toNat,none,img,x,none⟩
section
variable (w i j m:Nat) (a:Option (Nat×Nat)) (img:List UInt8) (x:SupV) (pc:Option (Nat×Nat))
theorem ZsF: ∀(l:List SeatV) (k:Int) (v:WkV),Zca ⟨w,i,j,m,a,img,x,pc⟩ k l v=Zca ⟨0,0,0,m,none,img,x,none⟩ k l v
 |[],_,_=>rfl
 |y::r,k,v=>by
  unfold Zca;rw[show ZbC ⟨w,i,j,m,a,img,x,pc⟩ k y v=ZbC ⟨0,0,0,m,none,img,x,none⟩ k y v from rfl];cases ZbC ⟨0,0,0,m,none,img,x,none⟩ k y v with
  |none=>rfl
  |some v'=>exact ZsF r (k+1) v'
theorem ZzB (k slot:Int) (v:WkV):leafM ⟨w,i,j,m,a,img,x,pc⟩ k slot v=leafM ⟨0,0,0,m,none,img,x,none⟩ k slot v:=by
 unfold leafM;rw[show takeM ⟨w,i,j,m,a,img,x,pc⟩ k v=takeM ⟨0,0,0,m,none,img,x,none⟩ k v from rfl];cases takeM ⟨0,0,0,m,none,img,x,none⟩ k v with
 |none=>rfl
 |some q=>
  obtain⟨b,v1⟩:=q;cases b<;>first|rfl|exact ZsF w i j m a img x pc _ _ _
theorem ZnV (cnt x5:Int): ∀(l:List Int) (k:Int) (v:WkV),Zbr ⟨w,i,j,m,a,img,x,pc⟩ cnt x5 k l v=Zbr ⟨0,0,0,m,none,img,x,none⟩ cnt x5 k l v
 |[],_,_=>rfl
 |y::r,k,v=>by
  unfold Zbr;rw[ZzB,ZnV cnt x5 r (k+1) v];cases leafM ⟨0,0,0,m,none,img,x,none⟩ y ((x5*16+k)*7) v with
  |none=>rfl
  |some v'=>simp only[ZnV cnt x5 r (k+1) v']
theorem ZnL (cnt:Int): ∀(l:List Int) (k:Int) (v:WkV),Zcm ⟨w,i,j,m,a,img,x,pc⟩ cnt k l v=Zcm ⟨0,0,0,m,none,img,x,none⟩ cnt k l v
 |[],_,_=>rfl
 |y::r,k,v=>by
  unfold Zcm;rw[show takeM ⟨w,i,j,m,a,img,x,pc⟩ y v=takeM ⟨0,0,0,m,none,img,x,none⟩ y v from rfl,ZnL cnt r (k+1) v];cases takeM ⟨0,0,0,m,none,img,x,none⟩ y v with
  |none=>rfl
  |some q=>
   obtain⟨b,v1⟩:=q;cases b<;>try rfl
   rename_i z;simp only[ZnV];cases Zbr ⟨0,0,0,m,none,img,x,none⟩ cnt k 0 z v1 with
   |none=>rfl
   |some v2=>simp only[ZnL cnt r (k+1) v2]
theorem Zyc (v:WkV):Zc5 ⟨w,i,j,m,a,img,x,pc⟩ v=Zc5 ⟨0,0,0,m,none,img,x,none⟩ v:=by
 unfold Zc5;rw[show takeM ⟨w,i,j,m,a,img,x,pc⟩ x.fan v=takeM ⟨0,0,0,m,none,img,x,none⟩ x.fan v from rfl];cases takeM ⟨0,0,0,m,none,img,x,none⟩ x.fan v with
 |none=>rfl
 |some q=>
  obtain⟨b,v1⟩:=q;cases b<;>try rfl
  simp only[ZnL]
theorem Zui: ∀(f:Nat) (fl:List Bool) (k:Int) (v:WkV),Zc7 ⟨w,i,j,m,a,img,x,pc⟩ f fl k v=Zc7 ⟨0,0,0,m,none,img,x,none⟩ f fl k v
 |0,_,_,_=>rfl
 |f+1,fl,k,v=>by
  unfold Zc7;cases v.seats[(k-1).toNat]? with
  |none=>rfl
  |some y=>simp only[Zui f]
theorem ZsE: ∀(l:List SeatV) (fl:List Bool),Zfa ⟨w,i,j,m,a,img,x,pc⟩ fl l=Zfa ⟨0,0,0,m,none,img,x,none⟩ fl l
 |[],_=>by unfold Zfa;rfl
 |y::r,fl=>by
  unfold Zfa;rw[ZsE r];rfl
theorem Zzf (v:WkV):freeM ⟨w,i,j,m,a,img,x,pc⟩ v=freeM ⟨0,0,0,m,none,img,x,none⟩ v:=by
 unfold freeM;rw[Zui];simp only;cases Zc7 ⟨0,0,0,m,none,img,x,none⟩ (x.used.toNat+1) (List.replicate x.used.toNat false) x.free v with
 |none=>rfl
 |some q=>unfold ZhQ;simp only[ZsE]
theorem ZtU: ∀(f:Nat) (out:List EntV) (todo:List TodoV) (v:WkV),ZdL ⟨w,i,j,m,a,img,x,pc⟩ f out todo v=ZdL ⟨0,0,0,m,none,img,x,none⟩ f out todo v
 |0,_,_,_=>rfl
 |f+1,out,[],v=>rfl
 |f+1,out,t::r,v=>by
  unfold ZdL;rw[show takeM ⟨w,i,j,m,a,img,x,pc⟩ t.block v=takeM ⟨0,0,0,m,none,img,x,none⟩ t.block v from rfl];cases takeM ⟨0,0,0,m,none,img,x,none⟩ t.block v with
  |none=>rfl
  |some q=>
   obtain⟨b,v1⟩:=q;cases b<;>try rfl
   rename_i z;simp only[ZtU f];rfl
theorem ZlE: ∀(l:List Int) (k:Int) (acc:List EntV) (v:WkV),ZbN ⟨w,i,j,m,a,img,x,pc⟩ k l acc v=ZbN ⟨0,0,0,m,none,img,x,none⟩ k l acc v
 |[],_,_,_=>rfl
 |y::r,k,acc,v=>by
  unfold ZbN;rw[show treeM ⟨w,i,j,m,a,img,x,pc⟩ y k v=treeM ⟨0,0,0,m,none,img,x,none⟩ y k v from ZtU w i j m a img x pc _ _ _ _,ZlE r (k+1) acc v];cases treeM ⟨0,0,0,m,none,img,x,none⟩ y k v with
  |none=>rfl
  |some q=>
   obtain⟨es,v1⟩:=q;simp only[ZlE r (k+1)]
theorem ZvI: ∀(l:List Int) (k:Nat) (v:WkV),dirGo ⟨w,i,j,m,a,img,x,pc⟩ k l v=dirGo ⟨0,0,0,m,none,img,x,none⟩ k l v
 |[],_,_=>rfl
 |y::r,k,v=>by
  unfold dirGo;rw[show takeM ⟨w,i,j,m,a,img,x,pc⟩ y v=takeM ⟨0,0,0,m,none,img,x,none⟩ y v from rfl];cases takeM ⟨0,0,0,m,none,img,x,none⟩ y v with
  |none=>rfl
  |some q=>
   obtain⟨b,v1⟩:=q;cases b<;>try rfl
   rename_i z;simp only[ZlE];cases ZbN ⟨0,0,0,m,none,img,x,none⟩ 0 z.heads [] v1 with
   |none=>rfl
   |some q=>
    obtain⟨es,v2⟩:=q;simp only[ZvI r (k+1)]
theorem ZxZ (v:WkV):ZcK ⟨w,i,j,m,a,img,x,pc⟩ v=ZcK ⟨0,0,0,m,none,img,x,none⟩ v:=by
 unfold ZcK;rw[show takeM ⟨w,i,j,m,a,img,x,pc⟩ x.dir v=takeM ⟨0,0,0,m,none,img,x,none⟩ x.dir v from rfl];cases takeM ⟨0,0,0,m,none,img,x,none⟩ x.dir v with
 |none=>rfl
 |some q=>
  obtain⟨b,v1⟩:=q;cases b<;>try rfl
  simp only[ZvI]
theorem Zy2:walkM ⟨w,i,j,m,a,img,x,pc⟩=walkM ⟨0,0,0,m,none,img,x,none⟩:=by
 unfold walkM;simp only[Zyc w i j m a img x pc,Zzf w i j m a img x pc,ZxZ w i j m a img x pc]
end
theorem Zv7 (K:WkK) (h:K.m=K.sup.blocks.toNat):walkF K=walkF (wkOf K.img K.sup):=by
 obtain⟨w,i,j,m,a,img,sup,pc⟩:=K;simp only at h;subst h;unfold walkF;rw[Zy2];rfl
theorem Zk3 {Bd:Za} (h:Zef Bd) (n:Nat) (a:Option (Nat×Nat)) (img:List UInt8) (x:SupV) (pc:Option (Nat×Nat)) (s:St) (ha:Byt s a img) (hc:Sl s pc (ints x.charts)) (hl:img.length<1000000) (hcl:x.charts.length<1000) (hn:5000≤n):
  Ok (WalkQ s x.blocks.toNat x (walkF (wkOf img x))) (run Bd n 171 [.slice 1 a img.length,.agg (supC x pc)] s):=by
 obtain⟨K,h1,h2,h3,h4⟩:=ZtA h n a img x pc s ha hc hl hcl hn;rw[Zv7 K (by rw[h1,h3]),h2,h3]at h4;exact h4
end Go.Gv.F
