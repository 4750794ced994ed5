/- The walker's trees: what they are, no program in sight. -/
import Derived.Test.YtegglibipjjblaaGreatDoorGvZMb
namespace Go.Gv.F
open Go.Gv
structure mB where
 block:Int
 nA:Int
 par:bm
 top:Bool
def lJ (x:jL) (n:Nat):List mB:=((List.range n).map fun i=>(⟨x.kids.getD i 0,i,x.bI,false⟩:mB)).reverse
theorem IN (x:jL) (n:Nat):lJ x (n+1)=⟨x.kids.getD n 0,n,x.bI,false⟩::lJ x n:=by
 unfold lJ;rw[um,dL,List.reverse_append];rfl
def AT (v:aW) (e:bm) (k:Int):Bool:=match v.aw[e.slot.toNat]? with
 |none=>false
 |some x=>(x.live==true)&&((x.gen==e.gen)&&((x.block==k)&&true))
def wi (K:bA) (v:aW) (t:mB) (x:jL):Bool:=
 (bif ((x.kids.length:Nat):Int)==t.nA then(bif t.top then true else iA t.par x.bI)else false)&&
 (bif decide (x.bI.slot<K.sup.used)then AT v x.bI t.block else false)
def lr (K:bA):Nat->List bm->List mB->aW->Option (List bm×aW)
 |0,_,_,_=>none
 |_+1,out,[],v=>some (out,v)
 |f+1,out,t::r,v=>match dh K t.block v with
  |some (.node x,v')=>bif wi K v' t x then lr K f (out++[x.bI]) (lJ x x.kids.length++r) { v' with nodes:=v'.nodes+1 } else none
  |_=>none
def Dr:bm:=⟨0,0,0,0⟩
def sF (K:bA) (k nA:Int) (v:aW):Option (List bm×aW):=lr K (K.m+1) [] [⟨k,nA,Dr,true⟩] v
def room (m:Nat) (W:List Nat):Nat:=(List.range m).countP fun b=> !cR W b
theorem ZrV {P Q:Nat->Bool} : ∀ {l:List Nat} {k:Nat},(∀b,Q b=true->P b=true)->k∈l->P k=true->Q k=false->l.countP Q+1<=l.countP P
 |[],_,_,h,_,_=>by cases h
 |a::l,k,hm,h,hp,hq=>by
  rw[List.countP_cons,List.countP_cons];rcases bX.1 h with rfl|h
  ·rw[hp,hq]
   have:=List.countP_mono_left (l:=l) (p:=Q) (q:=P) fun b _ hb=>hm b hb
   simp;omega
  ·have:=ZrV hm h hp hq
   cases hQ:Q a with
   |true=>rw[hm a hQ];omega
   |false=>cases P a<;>simp<;>omega
theorem ZwM (m:Nat) (W:List Nat):room m W<=m:=by
 unfold room;exact fw (List.countP_le_length) (by simp)
theorem PK {m:Nat} {W:List Nat} {k:Int} (hl:W.length=(m+63)/64) (h:pK m W k=true):room m (da m W k)+1<=room m W:=by
 unfold pK at h;rw[aH,aH]at h;obtain⟨_,hm,hi⟩:=h;have mM:=hm;unfold gG at mM;rw[aH,bc,bc]at mM;refine ZrV (k:=k.toNat) (fun b hb=>?_) (jE.2 (by omega)) hi ?_
 ·rw[wv hl]at hb
  rw[hJ]at hb⊢;rw[kZ]at hb;exact hb.1
 ·rw[wv hl,hm]
  simp
theorem AN {K:bA} {k:Int} {v v':aW} {b:xY} (h:dh K k v=some (b,v')):pK K.m v.W k=true/\v'.W=da K.m v.W k:=by
 unfold dh at h;cases hf:pK K.m v.W k with
 |false=>rw[hf]at h;cases h
 |true=>rw[hf]at h;cases h;exact⟨rfl,rfl⟩
def Aa (v:aW) (e:bm):Prop:=0<=e.slot/\∃(x:bL) (k:Nat),v.aw[e.slot.toNat]? =some x/\x.block=(k:Int)/\cR v.W k=true
def Diff (l:List bm):Prop:=l.Pairwise fun a b=>a.slot≠b.slot
theorem ZwE {l:List UInt8} {x:jL} (h:ZK l= .node x):mF x=true/\x.kids.length<=12:=by
 unfold ZK at h;split at h
 ·rename_i e;cases h;exact Pe e
 ·split at h
  ·cases h
  ·split at h
   ·cases h
   ·split at h
    ·cases h
    ·split at h<;>cases h
theorem ZnR {x:jL} (h:mF x=true):0<=x.bI.slot/\x.bI.slot<1792:=by
 unfold mF at h;rw[aH,hJ,kZ,kZ,j3,j3]at h;omega
theorem OH {K:bA} : ∀ {f:Nat} {acc out EL:List bm} {todo:List mB} {v v':aW},v.W.length=(K.m+63)/64->lr K f out todo v=some (EL,v')->(∀e∈acc++out,Aa v e)->Diff (acc++out)->(∀e∈acc++EL,Aa v' e)/\Diff (acc++EL)/\v'.W.length=(K.m+63)/64/\(∀k,cR v.W k=true->cR v'.W k=true)/\v'.aw=v.aw/\v'.aB=v.aB/\v'.gens=v.gens/\v'.free=v.free
 |0,_,_,_,_,_,_,_,h,_,_=>by cases h
 |f+1,acc,out,EL,[],v,v',hl,h,h1,h2=>by cases h;exact⟨h1,h2,hl,fun _ h=>h,rfl,rfl,rfl,rfl⟩
 |f+1,acc,out,EL,t::r,v,v',hl,h,h1,h2=>by
  unfold lr at h;cases ht:dh K t.block v with
  |none=>rw[ht]at h;cases h
  |some q=>
   obtain⟨b,v1⟩:=q;rw[ht]at h;obtain⟨g1,g2,g3,g4,g5,g6⟩:=ZY ht;obtain⟨g7,g8⟩:=AN ht;cases b with
   |leaf x=>cases h
   |cE x=>cases h
   |queue x=>cases h
   |dir x=>cases h
   |none=>cases h
   |node x=>
    simp only at h;cases hf:wi K v1 t x with
    |false=>rw[hf]at h;cases h
    |true=>
     rw[hf,cond_true]at h;have fq: ∀k,cR v.W k=true->cR v1.W k=true:=fun k hk=>by rw[g8,wv hl,hk];rfl
     have oI:v1.W.length=(K.m+63)/64:=by rw[g8,sV];exact hl
     have fR:=g7;unfold pK at fR;rw[aH,aH,bc]at fR;obtain⟨gX,DX,hki⟩:=fR;have Vz:=(ZnR (ZwE g6.symm).1).1;unfold wi at hf;rw[aH]at hf;have xp:AT v1 x.bI t.block=true:=by
      have h3:=hf.2;cases hd:decide (x.bI.slot<K.sup.used)with
      |false=>rw[hd]at h3;cases h3
      |true=>rw[hd]at h3;exact h3
     unfold AT at xp;cases vw:v1.aw[x.bI.slot.toNat]? with
     |none=>rw[vw]at xp;cases xp
     |some y=>
      rw[vw]at xp;simp only[aH,and_true]at xp;obtain⟨hy1,hy2,hy3⟩:=xp;have hyb:y.block=(t.block.toNat:Int):=by rw[eq_of_beq hy3];omega
      have hold: ∀e∈acc++out,Aa v1 e:=fun e he=>by
       obtain⟨a1,z,k,a2,a3,a4⟩:=h1 e he;exact⟨a1,z,k,by rw[g1];exact a2,a3,fq k a4⟩
      have fS:Aa v1 x.bI:=⟨Vz,y,t.block.toNat,vw,hyb,by
       rw[g8,wv hl,DX];simp⟩
      have Xn: ∀e∈acc++out,e.slot≠x.bI.slot:=fun e he heq=>by
       obtain⟨a1,z,k,a2,a3,a4⟩:=h1 e he;rw[heq,<-g1,vw]at a2;cases a2;rw[a3]at hyb;have:k=t.block.toNat:=by omega
       rw[this]at a4;rw[a4]at hki;cases hki
      have key:=OH (acc:=acc) (v:= { v1 with nodes:=v1.nodes+1 }) oI h (fun e he=>by
       rw[<-dD]at he;rcases cW.1 he with he|he
       ·exact hold e he
       ·rw[bK.1 he];exact fS) (by
       unfold Diff;rw[<-dD,List.pairwise_append];refine⟨h2,List.pairwise_singleton _ _,fun a ha b hb=>?_⟩;rw[bK.1 hb];exact Xn a ha)
      obtain⟨k1,k2,k3,k4,k5,k6,k7,k8⟩:=key;exact⟨k1,k2,k3,fun k hk=>k4 k (fq k hk),k5.trans g1,k6.trans g2,k7.trans g3,k8.trans g4⟩
end Go.Gv.F
namespace Go.Gv.F
open Go.Gv
variable {β:Type}
variable {K:bA} {s:St} {v:aW} {L:List Nat} {z1 z2 z3 z4:Nat} {p1 p2 p3 p4:Option (Nat×Nat)} {hd:List DV}
def js (s:St) (a:Option (Nat×Nat)) (cs:List DV):Prop:=(a=none/\cs=[])\/∃b rest,a=some (b,0)/\s[b]? =some (some ⟨false,cs++rest⟩)
theorem js.fx {T:List Nat} {s s':St} {a:Option (Nat×Nat)} {cs:List DV} (h:js s a cs) (k:Fx T s s') (n: ∀b∈aF a,b∉T):js s' a cs:=by
 rcases h with h1|⟨i,r,rfl,h3⟩
 ·exact .inl h1
 ·exact .inr ⟨i,r,rfl,k.2 i _ (n i (by simp[aF])) h3⟩
theorem js.lt {s:St} {a:Option (Nat×Nat)} {cs:List DV} (h:js s a cs): ∀b∈aF a,b<s.length:=by
 rcases h with⟨rfl,_⟩|⟨i,r,rfl,h3⟩
 ·intro b hb;cases hb
 ·intro b hb;rw[bK.1 hb];exact(cd.1 h3).1
theorem Zzh {s:St} {a:Option (Nat×Nat)} {cs:List DV} (h:js s a cs) {sz n lim:Nat} (ds:List DV) (hz:0<sz) (hn:cs.length=n*sz) (hd:ds.length=sz) (hl:n+1<=lim):
  ∃b s',s.length<=b/\s'[b]? =some (some ⟨false,cs++ds⟩)/\Fx (aF a) s s'/\Kp s s'/\∀K:Option (Nat×Nat)->M β,(M.new ds fun i=>M.load i 0 sz fun cs'=>M.app sz a n cs' 1 lim K) s=K (some (b,0)) s':=by
 rcases h with⟨rfl,rfl⟩|⟨i,rest,rfl,hs⟩
 ·obtain⟨b,s',h1,h2,h3,h4,h5⟩:=aY.V8 (β:=β) (s0:=[]) (s:=s) (a:=none) (cs:=[]) (aY.nil ⟨s,rfl⟩) ds hz hn hd hl
  rcases h2.2 with⟨e,_⟩|⟨i,e,_,h6⟩
  ·cases e
  ·cases e
   exact⟨b,s',h1,h6,⟨by have:=(cd.1 h6).1;omega,fun i x _ e=>h4 i x e (fun o e=>by cases e)⟩,h3,h5⟩
 ·have ri:i<s.length:=(cd.1 hs).1
  have jQ:(s++[some (⟨false,ds⟩:bq)])[i]? =some (some (⟨false,cs++rest⟩:bq)):=by rw[iL ri];exact hs
  have de:(s++[some (⟨false,ds⟩:bq)]).fH i=some (cs++rest):=by unfold St.fH;rw[jQ]
  have hb:Nat.beq 1 0=false:=rfl;refine⟨s.length+1,(s++[some (⟨false,ds⟩:bq)]).set i none++[some (⟨false,cs++ds⟩:bq)],by omega,?_,⟨by simp;omega,fun y x hy e=>?_⟩,(ar.new _ _).kp.trans ((Kp.set jQ none).trans (ar.new _ _).kp),fun K=>?_⟩
  ·rw[gU (by simp)];simp
  ·have hyl:=(cd.1 e).1
   have bn:i≠y:=fun e=>hy (by simp[aF,e])
   rw[iL (by simp;omega),eu bn,iL hyl];exact e
  ·rw[Zw,lA (f:=false) (all:=ds) (by simp) (by omega),dE,cA (by omega)]
   unfold M.app;simp only[hb,gx hl,cond_true,cond_false,de];rw[dj,gx (by rw[bg];omega),cond_true,dE,<-hn,vT];simp
theorem c9.aau (h:c9 K s v L z1 p1 z2 p2 z3 p3 z4 p4 hd) (x:Int):
  ∃s',(∀Kc:M β,M.store K.w 18 [.int .i64 x] Kc s=Kc s')/\c9 K s' { v with nodes:=x } L z1 p1 z2 p2 z3 p3 z4 p4 hd/\Fx [K.w] s s'/\Kp s s':=by
 have bn:=h.ne;have bQ:=Fx.set s K.w (some (⟨false,oa K { v with nodes:=x } (cD z1 p1 v.aw.length) (cD z2 p2 v.aB.length) (cD z3 p3 v.gens.length) (cD z4 p4 v.free.length)⟩:bq));have mL:=bQ.mono (T':=L) fun y hy=>by rw[bK.1 hy];exact h.zn
 refine⟨_,fun Kc=>?_,⟨?_,h.e1,h.e2,h.e3,h.e4,h.o1.fx bQ fun b hb=>?_,h.o2.fx bQ fun b hb=>?_,h.o3.fx bQ fun b hb=>?_,h.o4.fx bQ fun b hb=>?_,h.aB.fx mL (Nw.refl L s),h.set.fx bQ (by simpa using bn.1.symm) (by simpa using bn.2.1.symm),Sl.fx h.img mL h.off,h.off,h.own,h.nodup⟩,bQ,Kp.set h.cell _⟩
 ·rw[rK h.cell (by show 18<19;omega)]
  rfl
 ·exact fJ (cd.1 h.cell).1
 all_goals simpa using (bn.2.2.2 b (by simp[hb])).1
def AR (t:mB):List DV:=[.int .i64 t.block,.int .i64 t.nA,.int .i64 t.par.slot,.int .i64 t.par.gen,.int .i64 t.par.key,.int .i64 t.par.value,.bool t.top]
def kU (l:List mB):List DV:=(l.map AR).flatten
theorem Jj (l:List mB):(kU l).length=l.length*7:=by
 unfold kU;induction l with
 |nil=>rfl
 |cons e l ih=>rw[gM,mo,bg,ih,dF];show 7+_=_;omega
theorem Zsi (l m:List mB):kU (l++m)=kU l++kU m:=by unfold kU;rw[dL,vR]
theorem Oi (x:jL) (n:Nat):(lJ x n).length=n:=by unfold lJ;simp
theorem ZAU {Kn:List DV->M (List DV)} {Q:Out (List DV)×St->Prop} (n:Nat) (aaZ:s.length=s.length) (x:jL) (px:Option (Nat×Nat)) (r:List mB) (t0:St) (vI:Option (Nat×Nat)) (hx:Fz t0 px (ints x.kids)) (VJ:x.kids.length<=12) (ho:js t0 vI (kU r.reverse)) (hr:r.length<100000) (eV: ∀b∈aF vI,s.length<=b) (df:s.length<=t0.length) (hn:20<=n)
  (hK: ∀t pT z,(z=7\/pT=none)->js t pT (kU (lJ x x.kids.length++r).reverse)->(∀b∈aF pT,s.length<=b/\(b∈aF vI\/t0.length<=b))->Fx (aF vI) t0 t->Ok Q (Kn [.slice z pT (r.length+x.kids.length)] t)) (z0:Nat) (tT:z0=7\/vI=none):
  Ok Q (M.loop (fun dO st=>
      J.l 7 st fun Fb zF st=>
      J.i .i64 st fun fb st=>
      D.nil st<|
      bif decide (fb<(x.kids.length:Int))then
       M.nn px fun i6 o4=>
      M.ak (av fb x.kids.length)<|
      M.au i6 (fb.toNat*1+o4) fun d3=>
      D.int .i64 d3 fun fI=>
      M.new [.int .i64 fI,.int .i64 fb,.int .i64 x.bI.slot,.int .i64 x.bI.gen,.int .i64 x.bI.key,.int .i64 x.bI.value,.bool false] fun i7=>
      M.load i7 0 7 fun fG=>
      M.app 7 Fb zF fG 1 1256584717458 fun p1=>
      dO [.slice 7 p1 (zF+1),.int .i64 (af (fb+1))]
      else
       Kn [.slice 7 Fb zF]) n [.slice z0 vI r.length,.int .i64 0] t0):=by
 refine Zl _ (fun q y t=>∃(i z:Nat) (pT:Option (Nat×Nat)),y=[.slice z pT (r.length+i),.int .i64 i]/\(z=7\/pT=none)/\i<=x.kids.length/\x.kids.length-i<=q/\js t pT (kU (lJ x i++r).reverse)/\(∀b∈aF pT,s.length<=b/\(b∈aF vI\/t0.length<=b))/\Fx (aF vI) t0 t/\Fz t px (ints x.kids)) ?_ x.kids.length n _ _ ⟨0,z0,vI,rfl,tT,bH _,by omega,ho,fun b hb=>⟨eV b hb,.inl hb⟩,.refl _ _,hx⟩ (by omega);rintro q _ t ⟨i,z,pT,rfl,hz,hi,hq,hoT,DD,bQ,zd⟩ rec aD;simp only[al,Zm 7 z pT _ hz,ae];by_cases aj:i<x.kids.length
 ·obtain⟨i1,o1,rfl⟩:=zd.1.ck (by simp[ints];omega)
  rw[ah (show(i:Int)<(x.kids.length:Int) by omega),cond_true,aV,Zd (Zk aj),aX,zd.1.cP (Zu aj)];simp only[aM];have hl7:(kU (lJ x i++r).reverse).length=(r.length+i)*7:=by rw[Jj,List.length_reverse,bg,Oi];omega
  obtain⟨b,t1,g1,g2,g3,g4,g5⟩:=Zzh (β:=List DV) hoT (sz:=7) (n:=r.length+i) (lim:=1256584717458) (AR ⟨x.kids[i],i,x.bI,false⟩) (by omega) hl7 rfl (by omega);refine Eq.mpr (congrArg (Ok _) (g5 _)) ?_;have oM:af ((i:Int)+1)=((i+1:Nat):Int):=Zb (by omega) (by omega);rw[oM];refine aD (x.kids.length-(i+1)) _ _ (by omega) ⟨i+1,7,some (b,0),rfl,.inl rfl,by omega,ay _,.inr ⟨b,[],rfl,?_⟩,?_,?_,zd.kp g4⟩
  ·rw[g2,ez,IN,kz,List.reverse_cons,Zsi]
   have:x.kids.getD i 0=x.kids[i]:=by rw[bJ,ba aj];rfl
   rw[this];simp[kU]
  ·intro y hy
   rw[bK.1 hy];have:=bQ.1;exact⟨by omega,.inr (by omega)⟩
  ·exact bQ.step g3 fun y hy=>(DD y hy).2
 ·rw[ao (show ¬(i:Int)<(x.kids.length:Int) by omega),cond_false]
  have:i=x.kids.length:=by omega
  subst this;exact hK t pT 7 (.inl rfl) hoT DD bQ
end Go.Gv.F
namespace Go.Gv.F
open Go.Gv
variable {β:Type}
variable {K:bA} {s:St} {v:aW} {L:List Nat} {z1 z2 z3 z4:Nat} {p1 p2 p3 p4:Option (Nat×Nat)} {hd:List DV}
theorem Zyj {Bd:Za} (h:yd Bd) (n:Nat) (hn:8<=n) (a b:bm) (st:St):
  Ok (fun o=>∃z s',o=(.val [.int .i64 z],s')/\ar st s'/\decide (z<0)=iA a b) (run Bd n 159 [.agg (fN a),.agg (fN b)] st):=by
 refine(Uu h n hn a b st).mono ?_;rintro _ ⟨z,s',rfl,hp,e⟩;refine⟨z,s',rfl,hp,?_⟩;cases ha:iA a b with
 |true=>
  rw[ha]at e;have:=uv e;exact ah (by omega)
 |false=>
  rw[ha]at e;have:=lY e;exact ao (by omega)
theorem Ok.join {Q:Out β×St->Prop} {f:List DV->M β} {g:(List DV->M β)->M β} {s:St} (h: ∀jk,jk=f->Ok Q (g jk s)):Ok Q (M.join f g s):=by rw[Zc];exact h f rfl
theorem Zzx (pn:M β) (x:jL) (px:Option (Nat×Nat)) (Kc:Int->Int->Int->Int->Option (Nat×Nat)->Nat->M β):D.qK pn (.iface 6 (.agg (vH x 1 px))) 6 (fun d=>D.agg d fun bw=>J.i .i64 bw fun x8 r=>J.i .i64 r fun x9 r=>J.i .i64 r fun cV r=>J.i .i64 r fun eK r=>J.l 1 r fun fk od r=>D.nil r<|Kc x8 x9 cV eK fk od)=Kc x.bI.slot x.bI.gen x.bI.key x.bI.value px x.kids.length:=rfl
def FL (K:bA) (s:St) (v:aW) (L:List Nat) (z1:Nat) (p1:Option (Nat×Nat)) (z2:Nat) (p2:Option (Nat×Nat)) (z3:Nat) (p3:Option (Nat×Nat)) (z4:Nat) (p4:Option (Nat×Nat)) (hd:List DV) (R:Option (List bm×aW)) (o:Out (List DV)×St):Prop:=match R with
 |none=>∃s',o=(.cC,s')/\Fx L s s'
 |some (out,v')=>∃p z s',o=(.val [.slice z p out.length],s')/\(z=4\/p=none)/\c9 K s' v' L z1 p1 z2 p2 z3 p3 z4 p4 hd/\Fx L s s'/\js s' p (bP out)/\(∀b∈aF p,s.length<=b)/\v'.nodes+(room K.m v'.W:Nat)<=v.nodes+(room K.m v.W:Nat)/\v.nodes<=v'.nodes/\out.length<=4000
theorem c9.Lt {s0 s':St} {T:List Nat} (h:c9 K s v L z1 p1 z2 p2 z3 p3 z4 p4 hd) (h0:oj s0 L hd v.aB) (hl: ∀x∈L,x<s0.length) (ha: ∀b o,K.a=some (b,o)->b<s0.length) (k0:Fx L s0 s) (k:Fx T s s') (hT: ∀x∈T,s0.length<=x):c9 K s' v L z1 p1 z2 p2 z3 p3 z4 p4 hd/\Fx L s0 s':=by
 have hf:Fx L s0 s':=k0.step k fun x hx=> .inr (hT x hx)
 exact⟨h.gF k (fun x hx hm=>by have:=hl x hm;have:=hT x hx;omega) (fun b o e hm=>by have:=ha b o e;have:=hT b hm;omega) (h0.fx hf (Nw.refl L s0)),hf⟩
theorem ZAW {Bd:Za} (h:Gb Bd) (n:Nat) (hK:yb K) (k nA:Int) (hW:c9 K s v L z1 p1 z2 p2 z3 p3 z4 p4 hd) (h0:0<=K.sup.used) (h1:K.sup.used<=1792) (hs:(v.aw.length:Int)=K.sup.used) (cZ:0<=v.nodes) (hnr:v.nodes+(room K.m v.W:Nat)<=5000) (hm:K.m<=3072) (hn:4010<=n):
  Ok (FL K s v L z1 p1 z2 p2 z3 p3 z4 p4 hd (sF K k nA v)) (run Bd n 233 [.ptr (some (K.w,0)),.int .i64 k,.int .i64 nA] s):=by
 obtain⟨n,rfl⟩: ∃k,n=k+2:=⟨n-2,by omega⟩;rw[Zf,h.eq];unfold F8 sF;simp only[fm,al,ae];rw[Zw];have xb:=hW.lt;have Bs: ∀b o,K.a=some (b,o)->b<s.length:=fun b o e=>Sl.lt (e▸hW.img)
 have vu:=ar.new s (some (⟨false,[DV.int .i64 k,.int .i64 nA,.int .i64 0,.int .i64 0,.int .i64 0,.int .i64 0,.bool true]⟩:bq));have u6:(s++[some (⟨false,[DV.int .i64 k,.int .i64 nA,.int .i64 0,.int .i64 0,.int .i64 0,.int .i64 0,.bool true]⟩:bq)])[s.length]? =some (some ⟨false,kU [⟨k,nA,Dr,true⟩]⟩):=by simp;rfl
 have Bp:=hW.pre vu;generalize s++[some (⟨false,[DV.int .i64 k,.int .i64 nA,.int .i64 0,.int .i64 0,.int .i64 0,.int .i64 0,.bool true]⟩:bq)]=s0 at vu u6 Bp;obtain⟨R,hR⟩: ∃R,lr K (K.m+1) [] [⟨k,nA,Dr,true⟩] v=R:=⟨_,rfl⟩;rw[hR,Zc];have hrm:=ZwM K.m v.W;refine Zl _ (fun q y t=>∃(f:Nat) (out:List bm) (todo:List mB) (u:aW) (zo:Nat) (po:Option (Nat×Nat)) (zt:Nat) (pt:Option (Nat×Nat)),y=[.slice zo po out.length,.slice zt pt todo.length]/\(zo=4\/po=none)/\(zt=7\/pt=none)/\room K.m u.W<=q/\room K.m u.W<f/\c9 K t u L z1 p1 z2 p2 z3 p3 z4 p4 hd/\u.aw=v.aw/\u.aB=v.aB/\Fx L s t/\js t po (bP out)/\js t pt (kU todo.reverse)/\(∀b∈aF po,s.length<=b)/\(∀b∈aF pt,s.length<=b)/\(∀b∈aF po,b∉aF pt)/\v.nodes<=u.nodes/\u.nodes+(room K.m u.W:Nat)<=v.nodes+(room K.m v.W:Nat)/\out.length+room K.m u.W<=3072/\todo.length+12*room K.m u.W<=40000/\lr K f out todo u=R) ?_ (room K.m v.W) (n+1) _ _ ⟨K.m+1,[],[⟨k,nA,Dr,true⟩],v,0,none,7,some (s.length,0),rfl,.inr rfl,.inl rfl,ay _,by omega,Bp,rfl,rfl,Fx.pre L vu,.inl ⟨rfl,rfl⟩,.inr ⟨s.length,[],rfl,by rw[ez];exact u6⟩,fun _ h=>(by cases h),fun b hb=>by rw[bK.1 hb];exact ay _,fun _ h=>(by cases h),zN _,zN _,by simp;omega,by simp;omega,hR⟩ (by omega);rintro q _ t ⟨f,out,todo,u,zo,po,zt,pt,rfl,SR,hzt,Lb,hrf,cF,iE,p9,bQ,K5,hot,DH,kK,Ro,D5,D6,gQ,p8,aA⟩ rec aD;simp only[Zm 4 zo po _ SR,Zm 7 zt pt _ hzt,ae];obtain⟨f,rfl⟩: ∃k,f=k+1:=⟨f-1,by omega⟩;cases todo with
 |nil=>
  rw[show decide ((([]:List mB).length:Int)>0)=false from rfl,cond_false];simp only[bh,ae];unfold lr at aA;rw[Ze,<-aA];exact .mk ⟨po,4,t,rfl,.inl rfl,cF,bQ,K5,DH,D6,D5,by omega⟩
 |cons e r=>
  unfold lr at aA;rw[ah (show(((e::r).length:Nat):Int)>0 by simp only[dF];omega),cond_true];rw[Zc];rcases hot with⟨_,hx⟩|⟨bt,rest,rfl,UD⟩
  ·exfalso
   have:=congrArg List.length hx;rw[Jj]at this;simp at this
  have cj:af ((((e::r).length:Nat):Int)-1)=(r.length:Int):=by
   have e3:((((e::r).length:Nat):Int)-1)=(r.length:Int):=by simp
   have h9:r.length<100000:=by simp only[dF]at p8;omega
   rw[e3];exact Zb (by omega) (by omega)
  simp only[cj,aX];rw[aV,Zd (Zk (by simp))];have tA:kU (e::r).reverse=kU r.reverse++AR e:=by
   rw[List.reverse_cons,Zsi];simp[kU]
  have XL: ∀Kc:List DV->M (List DV),M.load bt (r.length*7+0) 7 Kc t=Kc (AR e) t:=fun Kc=>by
   rw[dG,lA UD (by rw[bg,Jj,List.length_reverse,dF];omega)];rw[tA,show r.length*7=(kU r.reverse).length by rw[Jj,List.length_reverse],dD,qm];rfl
  rw[XL];unfold AR;simp only[al,ai,ae];rw[Zd (by rw[aH,bc,bc];simp;omega)];have bn:=cF.ne;refine Ok.r8 (cF.take h.vL (n+1) e.block hK.m hK.A9 hK.len (by omega)) ?_ ?_
  ·intro s' hp
   cases ht:dh K e.block u with
   |none=>rw[ht]at hp aA;cases hp;rw[<-aA];exact⟨t,rfl,bQ⟩
   |some q=>rw[ht]at hp;obtain⟨d,s2,e,_⟩:=hp;cases e
  intro ds t1 hp;cases ht:dh K e.block u with
  |none=>rw[ht]at hp;cases hp
  |some q=>
   obtain⟨b,u1⟩:=q;rw[ht]at hp aA;obtain⟨d,s2,e2,gz,jO,hb⟩:=hp;cases e2;obtain⟨g1,g2,g3,g4,g5,g6⟩:=ZY ht;obtain⟨g7,g8⟩:=AN ht;have vv:=PK cF.set.len g7;rw[<-g8]at vv;have lH:Fx L s t1:=bQ.trans (jO.mono fun y hy=>by rw[bK.1 hy];exact cF.sw);simp only[xZ,ae];cases b with
   |leaf x=>obtain⟨rfl,_⟩:=hb;rw[<-aA];exact .mk ⟨t1,rfl,lH⟩
   |cE x=>obtain⟨rfl,_⟩:=hb;rw[<-aA];exact .mk ⟨t1,rfl,lH⟩
   |queue x=>obtain⟨rfl,_⟩:=hb;rw[<-aA];exact .mk ⟨t1,rfl,lH⟩
   |dir x=>obtain⟨p,rfl,_⟩:=hb;rw[<-aA];exact .mk ⟨t1,rfl,lH⟩
   |none=>cases hb;rw[<-aA];exact .mk ⟨t1,rfl,lH⟩
   |node x=>
    obtain⟨px,rfl,Ev,hxr,VJ⟩:=hb;simp only at aA;rw[Zzx];have Vz:=ZnR hxr;have rk: ∀t',Fx L s t'->wi K u1 e x=false->Ok (FL K s v L z1 p1 z2 p2 z3 p3 z4 p4 hd R) (some (.cC,t')):=fun t' rb hf=>by
     rw[hf,cond_false]at aA;rw[<-aA];exact .mk ⟨t',rfl,rb⟩
    obtain⟨c1,fQ⟩: ∃c1,(bif ((x.kids.length:Nat):Int)==e.nA then(bif e.top then true else iA e.par x.bI)else false)=c1:=⟨_,rfl⟩;obtain⟨c2,jv⟩: ∃c2,(bif decide (x.bI.slot<K.sup.used)then AT u1 x.bI e.block else false)=c2:=⟨_,rfl⟩;have RD:wi K u1 e x=(c1&&c2):=by unfold wi;rw[fQ,jv]
    refine Ok.join fun aU DW=>?_
    have hA: ∀t2,c9 K t2 u1 L z1 p1 z2 p2 z3 p3 z4 p4 hd->Fx L s t2->js t2 po (bP out)->js t2 (some (bt,0)) (kU r.reverse)->Fz t2 px (ints x.kids)->Ok (FL K s v L z1 p1 z2 p2 z3 p3 z4 p4 hd R) (aU [.bool c1] t2):=by
     intro t2 jN eG X0 X4 YB;rw[DW];simp only[ai,ae];cases c1 with
     |false=>
      rw[ZN h.fC n rfl];exact rk t2 eG (by rw[RD];rfl)
     |true=>
     rw[pC h.fC n rfl];simp only[ae];rw[aV,Zn jN.cell rfl];simp only[aM];refine Ok.join fun bu RX=>?_
     have hB:Ok (FL K s v L z1 p1 z2 p2 z3 p3 z4 p4 hd R) (bu [.bool c2] t2):=by
      rw[RX];simp only[ai,ae];cases c2 with
      |false=>
       rw[ZN h.fC n rfl];exact rk t2 eG (by rw[RD];rfl)
      |true=>
      rw[pC h.fC n rfl];rw[RD,vQ,cond_true]at aA;simp only[ae,aV];rw[Zn jN.cell rfl];simp only[aM];have vz:af (u1.nodes+1)=u1.nodes+1:=Zb (by rw[g5];omega) (by rw[g5];omega);rw[vz,dj];obtain⟨t3,e3,sb,ee,XJ⟩:=jN.aau (β:=List DV) (u1.nodes+1);rw[e3];have Et:K.w∈L:=cF.zn;have UW:Fx L s t3:=eG.trans (ee.mono fun y hy=>by rw[bK.1 hy];exact Et);have xf: ∀b,s.length<=b->b∉L:=fun b hb hm=>by have:=xb b hm;omega
      have eV: ∀b,s.length<=b->b∉[K.w]:=fun b hb hm=>by rw[bK.1 hm]at hb;have:=xb _ Et;omega
      have X1:=X0.fx ee fun b hb=>eV b (DH b hb)
      have Vj:=X4.fx ee fun b hb=>eV b (kK b hb)
      have YC:=YB.kp XJ;obtain⟨bo,t4,q1,q2,q3,q4,q5⟩:=Zzh (β:=List DV) X1 (sz:=4) (n:=out.length) (lim:=2199023255552) (fN x.bI) (by omega) (ZB _) rfl (by omega);refine Eq.mpr (congrArg (Ok _) (q5 _)) ?_;have hh0:oj s L hd u1.aB:=by rw[g2,p9];exact hW.aB
      obtain⟨lC,oG⟩:=sb.Lt hh0 xb Bs UW q3 DH;have X5:=Vj.fx q3 fun b hb hm=>Ro b hm hb
      have YD:=YC.kp q4;have hs4:s.length<=t4.length:=oG.1;rw[Zc];refine ZAU (s:=s) (n+1) rfl x px r t4 (some (bt,0)) YD VJ X5 (by simp at p8;omega) kK hs4 (by omega) (Kn:=fun ds=>J.l 7 ds fun T2 T3 st=>D.nil st<|J.l 4 [.slice 4 (some (bo,0)) (out.length+1),.slice 7 T2 T3] fun zu zw st=>J.l 7 st fun T0 T1 st=>D.nil st<|rec [.slice 4 zu zw,.slice 7 T0 T1]) ?_ 7 (.inl rfl);intro t5 pT z hz hT DD wW;simp only[Zm 7 z pT _ hz,bh,ae];have UB:bo∉aF (some (bt,0)):=fun hm=>by
       have:=js.lt Vj bo hm;omega
      have y7:=UW.1;obtain⟨Bq,Xy⟩:=lC.Lt hh0 xb Bs oG wW kK;have aa9:bo<t4.length:=(cd.1 q2).1;refine aD (room K.m u1.W) _ _ (by omega) ⟨f,out++[x.bI],lJ x x.kids.length++r, { u1 with nodes:=u1.nodes+1 },4,some (bo,0),7,pT,?_,.inl rfl,.inl rfl,ay _,(show room K.m u1.W<f by omega),Bq,by show u1.aw=_;rw[g1,iE],by show u1.aB=_;rw[g2,p9],Xy,.inr ⟨bo,[],rfl,?_⟩,hT,fun b hb=>?_,fun b hb=>(DD b hb).1,fun b hb hm=>?_,?_,?_,?_,?_,aA⟩
      ·simp[Oi,rH]
      ·rw[ez,Pb]
       have:=wW.2 bo _ UB q2;simpa [bP]using this
      ·rw[bK.1 hb];omega
      ·rw[bK.1 hb]at hm
       rcases(DD bo hm).2 with h5|h5
       ·exact UB h5
       ·omega
      ·show v.nodes<=u1.nodes+1
       rw[g5];omega
      ·show u1.nodes+1+_<=_
       rw[g5];show u.nodes+1+(room K.m u1.W:Nat)<=_;omega
      ·show(out++[x.bI]).length+room K.m u1.W<=_
       simp;omega
      ·show(lJ x x.kids.length++r).length+12*room K.m u1.W<=_
       rw[bg,Oi];simp at p8;omega
     cases aj:decide (x.bI.slot<K.sup.used)with
     |false=>
      rw[aj,cond_false]at jv;rw[cond_false,jv];exact hB
     |true=>
      rw[aj,cond_true]at jv;have oJ:=lY aj;rw[cond_true,aV,Zn jN.cell rfl];show Ok _ (D.slice 3 (.slice z1 p1 u1.aw.length) _ t2);rw[Z5 3 z1 p1 _ jN.e1];have xu:u1.aw.length=v.aw.length:=by rw[g1,iE]
      obtain⟨ks,DY⟩: ∃ks:Nat,x.bI.slot=ks:=⟨x.bI.slot.toNat,by omega⟩;have jg:ks<u1.aw.length:=by rw[xu];omega
      obtain⟨bs,rfl,wS⟩:=jN.o1.ck (by rw[ZT];omega);have jm:u1.aw[ks]? =some u1.aw[ks]:=ba jg;unfold AT at jv;rw[DY,aX,jm]at jv;rw[aV,DY,Zd (Zk jg),aX,ID wS jm];unfold gk;simp only[ai,al,ae];simp only at jv;rw[jv];exact hB
    have hjL:K.j∈L:=cF.sw;have hnj: ∀b,s.length<=b->b∉[K.j]:=fun b hb hm=>by rw[bK.1 hm]at hb;have:=xb _ hjL;omega
    have Sp:=K5.fx jO fun b hb=>hnj b (DH b hb)
    have Sq:js t1 (some (bt,0)) (kU r.reverse):= .inr ⟨bt,AR e++rest,rfl,by
     rw[<-dD,<-tA];exact jO.2 bt _ (hnj bt (kK bt (by simp[aF]))) UD⟩
    cases yJ:(((x.kids.length:Nat):Int)==e.nA)with
    |false=>
     rw[yJ,cond_false]at fQ;rw[cond_false,fQ];exact hA t1 gz lH Sp Sq Ev
    |true=>
     rw[yJ,cond_true]at fQ;rw[cond_true];refine Ok.join fun eS KR=>?_
     cases htp:e.top with
     |true=>
      rw[htp,cond_true]at fQ;rw[cond_true,KR];simp only[ai,ae];rw[fQ];exact hA t1 gz lH Sp Sq Ev
     |false=>
      rw[htp,cond_false]at fQ;rw[cond_false];refine Ok.call (Zyj h.q52 (n+1) (by omega) e.par x.bI t1) ?_;rintro _ ⟨z,t2,rfl,bd,e2⟩;refine⟨_,t2,rfl,?_⟩;rw[KR];simp only[al,ai,ae];rw[e2,fQ];exact hA t2 (gz.pre bd) (lH.trans (Fx.pre L bd)) (Sp.fx (Fx.pre [] bd) fun _ _ h=>by cases h) (Sq.fx (Fx.pre [] bd) fun _ _ h=>by cases h) (Ev.pre bd)
end Go.Gv.F
namespace Go.Gv.F
open Go.Gv
variable {β:Type}
def e4 (e:bm):E4:=(e.slot,e.gen,e.key,e.value)
def BT (x:E4):bm:=⟨x.1,x.2.1,x.2.2.1,x.2.2.2⟩
theorem Go.Gv.Ur: ∀(l:List bm),Go.Gv.uT (bP l)=some (l.map e4)
 |[]=>rfl
 |e::l=>by
  show(match Go.Gv.uT (bP l)with|some l=>some ((e.slot,e.gen,e.key,e.value)::l)|none=>none)=_;rw[Go.Gv.Ur l];rfl
theorem ZnK: ∀(l:List E4),kb l=bP (l.map BT)
 |[]=>rfl
 |x::l=>by
  show oA x++kb l=_;rw[ZnK l];rfl
def qh (l:List bm):List bm:=(iI (l.map e4)).map BT
theorem Zr3 (l:List bm):(qh l).length=l.length:=by unfold qh;rw[lS,OM,lS]
theorem Zzw {x y:E4} (h:x.1≠y.1):(ef x y||ef y x)=true:=by
 rw[jD,yo,yo];omega
theorem NA: ∀ {l:List bm},Diff l->yx (l.map e4)=true
 |[],_=>rfl
 |e::l,.cons h1 h2=>by
  show((l.map e4).all (fun y=>ef (e4 e) y||ef y (e4 e))&&yx (l.map e4))=true;rw[NA h2,vQ,gv];intro y hy;obtain⟨z,hz,rfl⟩:=dP.1 hy;exact Zzw (h1 z hz)
theorem ZAH {Bd:Za} (h:Z1 Bd) (n:Nat) (l:List bm) (p:Option (Nat×Nat)) (st:St) (hs:js st p (bP l)) (hd:Diff l) (hl:l.length<=1000000):
  ∃s',run Bd (n+1) 232 [.slice 4 p l.length,.func 159 [] []] st=some (.val [],s')/\js s' p (bP (qh l))/\Fx (aF p) st s':=by
 rw[Zf,h.eq];unfold CU;rcases hs with⟨rfl,hx⟩|⟨b,rest,rfl,hb⟩
 ·have h0:l.length=0:=by
   have:=congrArg List.length hx;rw[ZB]at this;rw[uk]at this;omega
  have h1:l=[]:=pd.1 h0;subst h1;exact⟨st,rfl,.inl ⟨rfl,rfl⟩,.refl _ _⟩
 ·have de:st.fH b=some (bP l++rest):=by unfold St.fH;rw[hb]
  simp only[de];rw[gx (by rw[bg,ZB];omega),cond_true,dE,<-ZB,vT,Go.Gv.Ur];simp only[NA hd,gx hl,Bool.and_self,cond_true];have vw:kb (iI (l.map e4))=bP (qh l):=ZnK _;rw[vw];have eR:=qF [] (bP l) rest (bP (qh l)) (by rw[ZB,ZB,Zr3]);rw[fe,fe]at eR;refine⟨_,rfl,.inr ⟨b,rest,rfl,?_⟩,Fx.set st b _⟩;rw[fJ (cd.1 hb).1];exact congrArg (fun c=>some (some (⟨false,c⟩:bq))) eR
end Go.Gv.F
namespace Go.Gv.F
open Go.Gv
variable {β:Type}
def dI (x:eU) (p:Option (Nat×Nat)):List DV:=[.int .i64 x.seq,.int .i64 x.blocks,.int .i64 x.cu,.int .i64 x.g,.int .i64 x.cE,.int .i64 x.used,.int .i64 x.free,.int .i64 x.dir,.slice 1 p x.az.length]
def kS (x:eU) (k:Int):Bool:=bif decide (k>=2)then decide (k<x.blocks)else false
def nj (x:eU):Bool:=(List.range x.az.length).all fun i=>kS x (x.az.getD i 0)&& !decide (x.az.getD i 0∈x.az.take i)
def jM (x:eU):Bool:=
 !(decide (x.seq<1)||(decide (x.seq>4611686018427387904)||(!mj x.blocks x.cu x.g||(decide (x.used<0)||(decide (x.used>x.cu)||(decide (x.free<0)||decide (x.free>x.used)))))))&&
 (!((bif x.used==0 then !(x.cE==0)else false)||((bif decide (x.used>0)then !kS x x.cE else false)||((bif !(x.dir==0)then !kS x x.dir else false)|| !(((x.az.length:Nat):Int)==uC x.blocks x.cu x.g))))&&nj x)
theorem ZoH {Bd:Za} (h:Mx Bd) (n:Nat) (x:eU) (p:Option (Nat×Nat)) (b:Nat) (k:Int) (st:St) (hb:st[b]? =some (some ⟨false,dI x p⟩)):
  run Bd (n+1) 221 [.int .i64 k,.ptr (some (b,0))] st=some (.val [.bool (kS x k)],st):=by
 rw[Zf,h.eq];unfold Gs kS;simp only[al,fm,ae,Zc,aV];cases decide (k>=2)with
 |false=>rfl
 |true=>
  rw[cond_true,cond_true,Zn hb (d:= .int .i64 x.blocks) rfl];simp only[aM,ai,ae,Ze]
theorem ZrO {Bd:Za} (h:Nu Bd) (n:Nat) (x:eU) (p:Option (Nat×Nat)) (st:St) (hs:Sl st p (ints x.az)) (hl:x.az.length<1000) (hn:x.az.length+10<=n):
  run Bd n 197 [.agg (dI x p)] st=some (.val [.bool (jM x)],st++[some ⟨false,dI x p⟩]):=by
 obtain⟨n,rfl⟩: ∃k,n=k+3:=⟨n-3,by omega⟩;rw[Zf,h.eq];unfold G4 jM;have hb:(st++[some (⟨false,dI x p⟩:bq)])[st.length]? =some (some ⟨false,dI x p⟩):=by simp
 have ga:=hs.mono (ar.new st (some (⟨false,dI x p⟩:bq)));have Kv:=fun k=>ZoH h.q44 (n+1) x p st.length k _ hb
 have ld: ∀(k:Nat) (d:DV),(dI x p)[k]? =some d->∀Kc:DV->M (List DV),M.au st.length k Kc (st++[some (⟨false,dI x p⟩:bq)])=Kc d (st++[some (⟨false,dI x p⟩:bq)]):=fun k d e Kc=>Zn hb e Kc
 have S8: ∀Kc:List DV->M (List DV),M.load st.length 1 3 Kc (st++[some (⟨false,dI x p⟩:bq)])=Kc [.int .i64 x.blocks,.int .i64 x.cu,.int .i64 x.g] (st++[some (⟨false,dI x p⟩:bq)]):=fun Kc=>by
  rw[lA hb (by show 1+3<=9;omega)];rfl
 show J.a [.agg (dI x p)] _ st=_;rw[bZ];unfold dI;simp only[al,bh,ae];rw[Zw];change _=some (Out.val _,st++[some (⟨false,dI x p⟩:bq)]);have u9:([.int .i64 x.seq,.int .i64 x.blocks,.int .i64 x.cu,.int .i64 x.g,.int .i64 x.cE,.int .i64 x.used,.int .i64 x.free,.int .i64 x.dir,.slice 1 p x.az.length]:List DV)=dI x p:=rfl;rw[u9];generalize (st++[some (⟨false,dI x p⟩:bq)])=s1 at hb ga Kv ld S8⊢;rw[ld 0 (.int .i64 x.seq) rfl];simp only[aM];refine ok_eq ?_;obtain⟨F1,oE⟩: ∃F1,(decide (x.seq<1)||(decide (x.seq>4611686018427387904)||(!mj x.blocks x.cu x.g||(decide (x.used<0)||(decide (x.used>x.cu)||(decide (x.free<0)||decide (x.free>x.used)))))))=F1:=⟨_,rfl⟩;obtain⟨F2,wN⟩: ∃F2,((bif x.used==0 then !(x.cE==0)else false)||((bif decide (x.used>0)then !kS x x.cE else false)||((bif !(x.dir==0)then !kS x x.dir else false)|| !(((x.az.length:Nat):Int)==uC x.blocks x.cu x.g))))=F2:=⟨_,rfl⟩;rw[oE,wN];refine Ok.join fun aq h1=>?_
 have A1: ∀b,(decide (x.seq<1)||decide (x.seq>4611686018427387904))=b->Ok (fun p=>p=(Out.val [DV.bool (!F1&&(!F2&&nj x))],s1)) (aq [.bool b] s1):=by
  intro b1 e1;rw[h1];simp only[ai,ae];refine Ok.join fun aC h2=>?_
  have A2: ∀b,(b1|| !mj x.blocks x.cu x.g)=b->Ok (fun p=>p=(Out.val [DV.bool (!F1&&(!F2&&nj x))],s1)) (aC [.bool b] s1):=by
   intro b2 e2;rw[h2];simp only[ai,ae];refine Ok.join fun aU h3=>?_
   have A3: ∀b,(b2||decide (x.used<0))=b->Ok (fun p=>p=(Out.val [DV.bool (!F1&&(!F2&&nj x))],s1)) (aU [.bool b] s1):=by
    intro b3 e3;rw[h3];simp only[ai,ae];refine Ok.join fun bu h4=>?_
    have A4: ∀b,(b3||decide (x.used>x.cu))=b->Ok (fun p=>p=(Out.val [DV.bool (!F1&&(!F2&&nj x))],s1)) (bu [.bool b] s1):=by
     intro b4 e4;rw[h4];simp only[ai,ae];refine Ok.join fun cm h5=>?_
     have A5: ∀b,(b4||decide (x.free<0))=b->Ok (fun p=>p=(Out.val [DV.bool (!F1&&(!F2&&nj x))],s1)) (cm [.bool b] s1):=by
      intro b5 e5;rw[h5];simp only[ai,ae];refine Ok.join fun eS h6=>?_
      have A6: ∀b,(b5||decide (x.free>x.used))=b->Ok (fun p=>p=(Out.val [DV.bool (!F1&&(!F2&&nj x))],s1)) (eS [.bool b] s1):=by
       intro b6 e6;rw[h6];simp only[ai,ae];have hb6:F1=b6:=by rw[<-oE,<-e6,<-e5,<-e4,<-e3,<-e2,<-e1];simp only[Bool.or_assoc]
       cases b6 with
       |true=>rw[cond_true,Ze,hb6];exact .mk rfl
       |false=>
        rw[cond_false,hb6,bD,cI,ld 5 (.int .i64 x.used) rfl];simp only[aM];refine Ok.join fun iU h7=>?_
        have B7: ∀b,(bif x.used==0 then !(x.cE==0)else false)=b->Ok (fun p=>p=(Out.val [DV.bool (!F2&&nj x)],s1)) (iU [.bool b] s1):=by
         intro b7 e7;rw[h7];simp only[ai,ae];refine Ok.join fun iG h8=>?_
         have B8: ∀b,(b7||(bif decide (x.used>0)then !kS x x.cE else false))=b->Ok (fun p=>p=(Out.val [DV.bool (!F2&&nj x)],s1)) (iG [.bool b] s1):=by
          intro b8 e8;rw[h8];simp only[ai,ae];refine Ok.join fun iV h9=>?_
          have B9: ∀b,(b8||(bif !(x.dir==0)then !kS x x.dir else false))=b->Ok (fun p=>p=(Out.val [DV.bool (!F2&&nj x)],s1)) (iV [.bool b] s1):=by
           intro b9 e9;rw[h9];simp only[ai,ae];refine Ok.join fun kO Bm=>?_
           have B10: ∀b,(b9|| !(((x.az.length:Nat):Int)==uC x.blocks x.cu x.g))=b->Ok (fun p=>p=(Out.val [DV.bool (!F2&&nj x)],s1)) (kO [.bool b] s1):=by
            intro AZ e10;rw[Bm];simp only[ai,ae];have UA:F2=AZ:=by rw[<-wN,<-e10,<-e9,<-e8,<-e7];simp only[Bool.or_assoc]
            cases AZ with
            |true=>rw[cond_true,Ze,UA];exact .mk rfl
            |false=>
             rw[cond_false,UA,bD,cI,ld 8 (.slice 1 p x.az.length) rfl];simp only[jJ];rw[Zc];refine Zl _ (fun q y s=>∃i:Nat,y=[.int .i64 i]/\i<=x.az.length/\x.az.length-i<=q/\s=s1/\((List.range i).all fun i=>kS x (x.az.getD i 0)&& !decide (x.az.getD i 0∈x.az.take i))=true) ?_ x.az.length (n+2) _ _ ⟨0,rfl,by omega,by omega,rfl,rfl⟩ (by omega);rintro q _ s ⟨i,rfl,hi,hq,rfl,ca⟩ rec aD;simp only[al,ae];by_cases aj:i<x.az.length
             ·obtain⟨i1,o1,rfl⟩:=ga.ck (by simp[ints];omega)
              rw[ah (show(i:Int)<(x.az.length:Int) by omega),cond_true,aV,Zd (Zk aj),aX,ga.cP (Zu aj)];simp only[aM];have hw:af ((i:Int)+1)=((i+1:Nat):Int):=Zb (by omega) (by omega);have rh:x.az.getD i 0=x.az[i]:=by rw[bJ,ba aj];rfl
              have bz:(kS x x.az[i]&& !decide (x.az[i]∈x.az.take i))=false->nj x=false:=fun e=>zO.2 ⟨i,jE.2 aj,by rw[rh,e];decide⟩
              rw[Zi (Kv x.az[i])];simp only[ai,ae,Zc];cases hb:kS x x.az[i]with
              |false=>
               rw[bD,cond_true];rw[cond_true,Ze,bz (by rw[hb];rfl)];exact .mk rfl
              |true=>
               rw[bx,cond_false,ld 8 (.slice 1 (some (i1,o1)) x.az.length) rfl];simp only[jJ];rw[Zd (by rw[aH,bc,bc];omega)];have SL:(x.az.take i).length=i:=by rw[bW];omega
               have bB:Sl s (some (i1,o1)) (ints (x.az.take i)):=by
                have:=Sl.kt ga i
                rwa [show(ints x.az).take i=ints (x.az.take i) by unfold ints;rw[List.map_take]]at this
               have hc:=ZjT h.q8 (n+2) (x.az.take i) x.az[i] _ s bB (by omega) (by omega);rw[SL]at hc;rw[Zi hc];simp only[ai,ae];cases hm:decide (x.az[i]∈x.az.take i)with
               |true=>
                rw[cond_true,Ze,bz (by rw[hb,hm];rfl)];exact .mk rfl
               |false=>
                rw[cond_false,hw];refine aD (x.az.length-(i+1)) _ _ (by omega) ⟨i+1,rfl,by omega,ay _,rfl,?_⟩;rw[um,rF,ca,sJ,List.all_nil,rh,hb,hm];rfl
             ·rw[ao (show ¬(i:Int)<(x.az.length:Int) by omega),cond_false,Ze]
              rw[show i=x.az.length by omega]at ca;unfold nj;rw[ca];exact .mk rfl
           cases b9 with
           |true=>rw[cond_true];exact B10 true rfl
           |false=>
            rw[cond_false,ld 8 (.slice 1 p x.az.length) rfl];simp only[jJ];rw[S8];simp only[al,ae];rw[uB (Zrk h.q61 n x.blocks x.cu x.g s1) (.refl s1)];simp only[al,ae];exact B10 _ rfl
          cases b8 with
          |true=>rw[cond_true];exact B9 true rfl
          |false=>
           rw[cond_false,ld 7 (.int .i64 x.dir) rfl];simp only[aM];rw[Zc];cases hd:(!(x.dir==0))with
           |false=>rw[cond_false];simp only[ai,ae];exact B9 _ (by rw[hd];rfl)
           |true=>
            rw[cond_true,ld 7 (.int .i64 x.dir) rfl];simp only[aM];rw[Zi (Kv x.dir)];simp only[ai,ae];exact B9 _ (by rw[hd];rfl)
         cases b7 with
         |true=>rw[cond_true];exact B8 true rfl
         |false=>
          rw[cond_false,ld 5 (.int .i64 x.used) rfl];simp only[aM];rw[Zc];cases hd:decide (x.used>0)with
          |false=>rw[cond_false];simp only[ai,ae];exact B8 _ (by rw[hd];rfl)
          |true=>
           rw[cond_true,ld 4 (.int .i64 x.cE) rfl];simp only[aM];rw[Zi (Kv x.cE)];simp only[ai,ae];exact B8 _ (by rw[hd];rfl)
        cases hu:(x.used==0)with
        |true=>rw[cond_true,ld 4 (.int .i64 x.cE) rfl];simp only[aM];exact B7 _ (by rw[hu];rfl)
        |false=>rw[cond_false];exact B7 _ (by rw[hu];rfl)
      cases b5 with
      |true=>rw[cond_true];exact A6 true rfl
      |false=>rw[cond_false,ld 6 (.int .i64 x.free) rfl];simp only[aM];rw[ld 5 (.int .i64 x.used) rfl];simp only[aM];exact A6 _ rfl
     cases b4 with
     |true=>rw[cond_true];exact A5 true rfl
     |false=>rw[cond_false,ld 6 (.int .i64 x.free) rfl];simp only[aM];exact A5 _ rfl
    cases b3 with
    |true=>rw[cond_true];exact A4 true rfl
    |false=>rw[cond_false,ld 5 (.int .i64 x.used) rfl];simp only[aM];rw[ld 2 (.int .i64 x.cu) rfl];simp only[aM];exact A4 _ rfl
   cases b2 with
   |true=>rw[cond_true];exact A3 true rfl
   |false=>rw[cond_false,ld 5 (.int .i64 x.used) rfl];simp only[aM];exact A3 _ rfl
  cases b1 with
  |true=>rw[cond_true];exact A2 true rfl
  |false=>
   rw[cond_false,S8];simp only[al,ae];rw[Zi (ZlH h.TF (n+1) x.blocks x.cu x.g s1)];simp only[ai,ae];exact A2 _ rfl
 cases hc:decide (x.seq<1)with
 |true=>rw[cond_true];exact A1 true (by rw[hc];rfl)
 |false=>rw[cond_false,ld 0 (.int .i64 x.seq) rfl];simp only[aM];exact A1 _ (by rw[hc];rfl)
end Go.Gv.F
namespace Go.Gv.F
open Go.Gv
def ly (K:bA):Int->List Int->List bm->aW->Option (List bm×aW)
 |_,[],acc,v=>some (acc,v)
 |k,y::r,acc,v=>bif !(y==0)then(match sF K y k v with
   |none=>none
   |some (out,v')=>ly K (k+1) r (acc++out) v')else ly K (k+1) r acc v
def AV (v:aW) (k:Nat) (nm:List UInt8):Bool:=bif decide (k=0)then true else(match v.aB[k-1]? with
 |none=>false
 |some x=>decide (cmpL (cL x.name) (cL nm)<0))
def qL (K:bA):Nat->List Int->aW->Option aW
 |_,[],v=>some v
 |k,y::r,v=>match dh K y v with
  |some (.queue q,v1)=>bif AV v1 k q.name then(match ly K 0 q.cY [] v1 with
   |none=>none
   |some (es,v2)=>qL K (k+1) r { v2 with aB:=v2.aB++[⟨q.name,qh es⟩] })else none
  |_=>none
def ox (K:bA) (v:aW):Option aW:=bif K.sup.dir==0 then some v else(match dh K K.sup.dir v with
 |some (.dir x,v')=>qL K 0 x v'
 |_=>none)
def sI (m:Nat):aW:=⟨gm m [0,1],[],[],[],[],0⟩
def sH (K:bA):Option aW:=match nu K (sI K.m)with
 |none=>none
 |some v1=>match qS K v1 with
  |none=>none
  |some v2=>match ox K v2 with
   |none=>none
   |some v3=>bif decide ((zm v3:Int)=v3.nodes)then some (rp v3)else none
theorem Iv {K:bA} : ∀ {l:List Int} {k:Int} {acc es:List bm} {v v':aW},v.W.length=(K.m+63)/64->ly K k l acc v=some (es,v')->(∀e∈acc,Aa v e)->Diff acc->(∀e∈es,Aa v' e)/\Diff es/\v'.W.length=(K.m+63)/64/\v'.aw=v.aw/\v'.aB=v.aB/\v'.gens=v.gens/\v'.free=v.free
 |[],_,_,_,_,_,hl,h,h1,h2=>by cases h;exact⟨h1,h2,hl,rfl,rfl,rfl,rfl⟩
 |y::r,k,acc,es,v,v',hl,h,h1,h2=>by
  unfold ly at h;cases hy:(!(y==0))with
  |false=>rw[hy,cond_false]at h;exact Iv hl h h1 h2
  |true=>
   rw[hy,cond_true]at h;cases ht:sF K y k v with
   |none=>rw[ht]at h;cases h
   |some q=>
    obtain⟨out,v1⟩:=q;rw[ht]at h;obtain⟨a1,a2,a3,_,a5,a6,a7,a8⟩:=OH (acc:=acc) hl ht (by simpa using h1) (by simpa using h2);obtain⟨b1,b2,b3,b4,b5,b6,b7⟩:=Iv a3 h a1 a2;exact⟨b1,b2,b3,b4.trans a5,b5.trans a6,b6.trans a7,b7.trans a8⟩
end Go.Gv.F
namespace Go.Gv.F
open Go.Gv
variable {β:Type}
theorem WC {s:St} {a:Option (Nat×Nat)} {cs:List DV} (h:js s a cs) {sz n m lim:Nat} (ds:List DV) (hz:0<sz) (hn:cs.length=n*sz) (hd:ds.length=m*sz) (hl:n+m<=lim):
  ∃a' s',js s' a' (cs++ds)/\Fx (aF a) s s'/\Kp s s'/\(∀b∈aF a',b∈aF a\/s.length<=b)/\∀K:Option (Nat×Nat)->M β,M.app sz a n ds m lim K s=K a' s':=by
 by_cases hm:m=0
 ·subst hm
  have:ds=[]:=pd.1 (by omega);subst this;exact⟨a,s,by rwa [ez],.refl _ _,.refl _,fun _ h=> .inl h,fun K=>rfl⟩
 ·have hb:Nat.beq m 0=false:=by cases m with|zero=>exact absurd rfl hm|succ m=>rfl
  rcases h with⟨rfl,rfl⟩|⟨i,rest,rfl,hs⟩
  ·have h0:n=0:=by
    rcases Nat.mul_eq_zero.1 (show n*sz=0 by simpa using hn.symm)with h|h
    ·exact h
    ·omega
   subst h0;refine⟨some (s.length,0),s++[some (⟨false,ds⟩:bq)],.inr ⟨s.length,[],rfl,by simp⟩,Fx.pre _ (ar.new _ _),(ar.new _ _).kp,fun b hb=> .inr (by rw[bK.1 hb];exact ay _),fun K=>?_⟩;unfold M.app;simp only[hb,gx hl,cond_true,cond_false];rfl
  ·have ri:i<s.length:=(cd.1 hs).1
   have de:s.fH i=some (cs++rest):=by unfold St.fH;rw[hs]
   refine⟨some (s.length,0),s.set i none++[some (⟨false,cs++ds⟩:bq)],.inr ⟨s.length,[],rfl,by rw[gU (by simp)];simp⟩,⟨by simp,fun y x hy e=>?_⟩,(Kp.set hs none).trans (ar.new _ _).kp,fun b hb=> .inr (by rw[bK.1 hb];exact ay _),fun K=>?_⟩
   ·have hyl:=(cd.1 e).1
    have bn:i≠y:=fun e=>hy (by simp[aF,e])
    rw[iL (by simp;omega),eu bn];exact e
   ·unfold M.app
    simp only[hb,gx hl,cond_true,cond_false,de];rw[dj,gx (by rw[bg];omega),cond_true,dE,<-hn,vT]
variable {K:bA} {s:St} {v:aW} {L:List Nat} {z1 z2 z3 z4:Nat} {p1 p2 p3 p4:Option (Nat×Nat)} {hd:List DV}
theorem Zz5 {Bd:Za} (hT:Gb Bd) (n:Nat) (hK:yb K) (nm:List UInt8) (x:List Int) (hx:x.length=12) (s0:St) (L0:List Nat) (hW:c9 K s v L z1 p1 z2 p2 z3 p3 z4 p4 hd) (vd:Fx L0 s0 s) (yS:Nw L0 s0 L) (h0:0<=K.sup.used) (h1:K.sup.used<=1792) (hs:(v.aw.length:Int)=K.sup.used) (cZ:0<=v.nodes) (hnr:v.nodes+(room K.m v.W:Nat)<=5000) (hm:K.m<=3072) (hn:4020<=n)
  (R:Option aW) (Kn:List DV->M (List DV))
  (bz:ly K 0 x [] v=none->R=none)
  (aA: ∀es w,ly K 0 x [] v=some (es,w)->∀t p z,(z=4\/p=none)->c9 K t w L z1 p1 z2 p2 z3 p3 z4 p4 hd->Fx L s t->js t p (bP es)->(∀b∈aF p,s.length<=b)->w.nodes+(room K.m w.W:Nat)<=v.nodes+(room K.m v.W:Nat)->v.nodes<=w.nodes->es.length<=50000->Ok (om K s0 L0 R []) (Kn [.agg [.str nm,.slice 4 p es.length]] t)):
  Ok (om K s0 L0 R []) (M.loop (fun dO st=>
      J.a st fun mH st=>
      J.s mH fun h2 r=>
      J.l 4 r fun h3 uX r=>
      D.nil r<|
      J.i .i64 st fun cV st=>
      D.nil st<|
      bif decide (cV<12)then
       M.ak (av cV 12)<|
      D.nth (ints x) (cV.toNat*1) fun d6=>
      D.int .i64 d6 fun eK=>
      M.join (fun st=>
       J.a st fun nz st=>
      J.s nz fun h4 r=>
      J.l 4 r fun h5 QZ r=>
      D.nil r<|
      D.nil st<|
      dO [.agg [.str h4,.slice 4 h5 QZ],.int .i64 (af (cV+1))]) fun cm=>
      bif !(eK==0)then
       M.call (run Bd n 233 [.ptr (some (K.w,0)),.int .i64 eK,.int .i64 cV]) fun ds=>
      J.l 4 ds fun fk od ds=>
      D.nil ds<|
      M.rd fk (od*4) fun wI=>
      M.app 4 h3 uX wI od 2199023255552 fun p1=>
      cm [.agg [.str h2,.slice 4 p1 (uX+od)]]
      else
       cm [.agg [.str h2,.slice 4 h3 uX]]
      else
       Kn [.agg [.str h2,.slice 4 h3 uX]]) n [.agg [.str nm,.slice 0 none 0],.int .i64 0] s):=by
 have xb:=hW.lt;have Bs: ∀b o,K.a=some (b,o)->b<s.length:=fun b o e=>Sl.lt (e▸hW.img)
 obtain⟨G,hG⟩: ∃G,ly K 0 x [] v=G:=⟨_,rfl⟩;rw[hG]at aA bz;refine Zl _ (fun q y t=>∃(i:Nat) (acc:List bm) (u:aW) (z:Nat) (p:Option (Nat×Nat)),y=[.agg [.str nm,.slice z p acc.length],.int .i64 i]/\(z=4\/p=none)/\i<=12/\12-i<=q/\c9 K t u L z1 p1 z2 p2 z3 p3 z4 p4 hd/\u.aw=v.aw/\u.aB=v.aB/\Fx L s t/\js t p (bP acc)/\(∀b∈aF p,s.length<=b)/\v.nodes<=u.nodes/\u.nodes+(room K.m u.W:Nat)<=v.nodes+(room K.m v.W:Nat)/\acc.length<=4000*i/\ly K i (x.drop i) acc u=G) ?_ 12 n _ _ ⟨0,[],v,0,none,rfl,.inr rfl,by omega,by omega,hW,rfl,rfl,.refl L s,.inl ⟨rfl,rfl⟩,fun _ h=>(by cases h),zN _,zN _,by simp,by simpa using hG⟩ (by omega);rintro q _ t ⟨i,acc,u,z,p,rfl,hz,hi,hq,cF,iE,p9,bQ,de,wR,D5,D6,u5,cG⟩ rec aD;simp only[bZ,bU,al,Zm 4 z p _ hz,ae,Zc];by_cases aj:i<12
 ·have jm:x[i]? =some (x[i]'(by omega)):=ba (by omega)
  have jy:x.drop i=(x[i]'(by omega))::x.drop (i+1):=gT (by omega);rw[jy]at cG;rw[ah (show(i:Int)<12 by omega),cond_true,Zd (show av (i:Int) 12=true from Zk aj),aX,di,kB (Zu (by omega))];simp only[aM];generalize x[i]'(by omega)=y at cG;have hw:af ((i:Int)+1)=((i+1:Nat):Int):=Zb (by omega) (by omega);have nG:((i+1:Nat):Int)=(i:Int)+1:=by omega
  rw[hw];unfold ly at cG;cases hy:(!(y==0))with
  |false=>
   rw[hy,cond_false]at cG;rw[cond_false];exact aD (12-(i+1)) _ _ (by omega) ⟨i+1,acc,u,4,p,rfl,.inl rfl,by omega,ay _,cF,iE,p9,bQ,de,wR,D5,D6,by omega,by rw[nG];exact cG⟩
  |true=>
   rw[hy,cond_true]at cG;rw[cond_true];have nJ:Fx L0 s0 t:=vd.step bQ yS;refine Ok.r8 (ZAW hT n hK y i cF h0 h1 (by rw[iE];exact hs) (by omega) (by omega) hm (by omega)) ?_ ?_
   ·intro t' hp
    cases ht:sF K y i u with
    |some q=>rw[ht]at hp;obtain⟨_,_,_,e,_⟩:=hp;cases e
    |none=>
     rw[ht]at hp cG;obtain⟨t2,e,se⟩:=hp;cases e;rw[bz cG.symm];exact⟨t',rfl,nJ.step se yS⟩
   ·intro ds t' hp
    cases ht:sF K y i u with
    |none=>rw[ht]at hp;obtain⟨_,e,_⟩:=hp;cases e
    |some q=>
     obtain⟨out,u1⟩:=q;rw[ht]at hp cG;obtain⟨po,zo,t2,e,SR,gz,jO,K5,DH,abm,abl,gQ⟩:=hp;cases e;simp only at cG;obtain⟨_,_,_,_,a5,a6,_,_⟩:=OH (acc:=[]) cF.set.len ht (fun _ h=>by cases h) .nil;simp only[Zm 4 zo po _ SR,ae];have df:Sl t' po (bP out):=by
      rcases K5 with⟨rfl,h2⟩|⟨b,rest,rfl,h2⟩
      ·exact h2
      ·exact⟨false,_,h2,by rw[bg];omega,by rw[dE,vT]⟩
     have lI:=qg (β:=List DV) df;rw[ZB]at lI;rw[lI];have X3:=de.fx jO fun b hb ji=>by have:=xb b ji;have:=wR b hb;omega
     obtain⟨pa,t3,b1,b2,b3,b4,b5⟩:=WC (β:=List DV) X3 (sz:=4) (n:=acc.length) (m:=out.length) (lim:=2199023255552) (bP out) (by omega) (ZB _) (ZB _) (by omega);rw[b5];have lH:Fx L s t':=bQ.trans jO;obtain⟨sb,ee⟩:=gz.Lt (by rw[a6,p9];exact hW.aB) xb Bs lH b2 wR;refine aD (12-(i+1)) _ _ (by omega) ⟨i+1,acc++out,u1,4,pa,by rw[bg],.inl rfl,by omega,ay _,sb,a5.trans iE,a6.trans p9,ee,by rw[Pb];exact b1,fun b hb=>?_,by omega,by omega,by rw[bg];omega,by rw[nG];exact cG⟩;rcases b4 b hb with h5|h5
     ·exact wR b h5
     ·have:=lH.1;omega
 ·rw[ao (show ¬(i:Int)<12 by omega),cond_false]
  rw[mZ (by omega)]at cG;exact aA acc u cG.symm t p 4 (.inl rfl) cF bQ de wR D6 D5 (by omega)
end Go.Gv.F
namespace Go.Gv.F
open Go.Gv
variable {β:Type}
theorem ZsZ {l:List UInt8} {x:pH} (h:rO l=some x):x.name.length<=24/\wC x=true:=by
 unfold rO at h;split at h
 ·cases h
 ·rename_i k t b _
  cases e:(decide (k=5)&&(decide (t<=24)&&Zy (b.drop (28+t))))with
  |false=>rw[e]at h;cases h
  |true=>
   rw[e]at h;cases e2:wC (wu b t)with
   |false=>rw[e2]at h;cases h
   |true=>
    rw[e2]at h;cases h;rw[aH,aH,bc]at e;refine⟨?_,e2⟩;have:=lY e.2.1;show((b.drop 28).take t).length<=24;rw[bW];omega
theorem ZuY {l:List UInt8} {x:pH} (h:ZK l= .queue x):rO l=some x:=by
 unfold ZK at h;split at h
 ·cases h
 ·split at h
  ·cases h
  ·split at h
   ·cases h
   ·split at h
    ·rename_i y hy;cases h;exact hy
    ·split at h<;>cases h
theorem Zym {K:bA} {k:Int} {v v':aW} {b:xY} (h:dh K k v=some (b,v')):ZK (Z7 K.img k.toNat)=b:=by
 unfold dh at h;cases e:pK K.m v.W k with
 |false=>rw[e]at h;cases h
 |true=>rw[e]at h;cases h;rfl
theorem ZBd (pn:M β) (p:Option (Nat×Nat)) (m:Nat) (Kc:Option (Nat×Nat)->Nat->M β):D.qK pn (.iface 3 (.agg [.slice 1 p m])) 3 (fun d=>D.agg d fun cs=>J.l 1 cs fun x xn r=>D.nil r<|Kc x xn)=Kc p m:=rfl
theorem ZyX (pn:M β) (q:pH) (Kc:List UInt8->Int->List DV->M β):D.qK pn (.iface 4 (.agg (rV q))) 4 (fun d=>D.agg d fun cs=>J.s cs fun x7 r1=>J.i .i64 r1 fun x8 r2=>Kc x7 x8 r2)=Kc q.name q.mask (ints q.cY):=rfl
theorem ZuF {K:bA} : ∀ {l:List Int} {k:Nat} {v v':aW},v.W.length=(K.m+63)/64->qL K k l v=some v'->v'.aw=v.aw/\v'.gens=v.gens/\v'.free=v.free/\v'.aB.length=v.aB.length+l.length
 |[],_,_,_,_,h=>by cases h;exact⟨rfl,rfl,rfl,rfl⟩
 |y::r,k,v,v',hl,h=>by
  unfold qL at h;split at h
  ·rename_i q v1 ht
   cases hn:AV v1 k q.name with
   |false=>rw[hn]at h;cases h
   |true=>
    rw[hn,cond_true]at h;obtain⟨g1,g2,g3,g4,g5,g6⟩:=ZY ht;split at h
    ·cases h
    ·rename_i es v2 hh
     obtain⟨_,_,b3,b4,b5,b6,b7⟩:=Iv (by rw[(AN ht).2,sV];exact hl) hh (fun _ h=>by cases h) .nil;obtain⟨c1,c2,c3,c4⟩:=ZuF (by exact b3) h;refine⟨c1.trans (b4.trans g1),c2.trans (b6.trans ?_),c3.trans (b7.trans ?_),?_⟩
     ·assumption
     ·assumption
     ·rw[c4,bg,b5,g2];simp;omega
  ·cases h
variable {K:bA} {s:St} {v:aW} {L:List Nat} {z1 z2 z3 z4:Nat} {p1 p2 p3 p4:Option (Nat×Nat)} {hd:List DV}
theorem aY.LD {a:Option (Nat×Nat)} {cs:List DV} (h:aY [] s a cs): ∀b∈aF a,∃c,s[b]? =some (some ⟨false,c⟩):=by
 rcases h.2 with⟨rfl,_⟩|⟨i,rfl,_,h3⟩
 ·intro b hb;cases hb
 ·intro b hb;rw[bK.1 hb];exact⟨_,h3⟩
theorem c9.kp {s':St} (h:c9 K s v L z1 p1 z2 p2 z3 p3 z4 p4 hd) (k:Fx L s s'):Kp s s':=by
 intro i all e;refine k.2 i _ (fun hm=>?_) e;have ho: ∃c,s[i]? =some (some ⟨false,c⟩):=by
  rw[h.own]at hm;simp only[bX,cW]at hm;rcases hm with rfl|rfl|rfl|hm|hm|hm|hm
  ·exact⟨_,h.cell⟩
  ·exact⟨_,h.set.hd⟩
  ·exact⟨_,h.set.wd⟩
  ·exact h.o1.LD i hm
  ·exact h.o2.LD i hm
  ·exact h.o3.LD i hm
  ·exact h.o4.LD i hm
 obtain⟨c,hc⟩:=ho;rw[e]at hc;cases hc
theorem Zyr {Bd:Za} (h:Ms Bd) (n:Nat) (hK:yb K) (hW:Wk K s v L) (h0:0<=K.sup.used) (h1:K.sup.used<=1792) (hs:(v.aw.length:Int)=K.sup.used) (cZ:0<=v.nodes) (hnr:v.nodes+(room K.m v.W:Nat)<=5000) (hm:K.m<=3072) (hh:v.aB=[]) (hn:4030<=n):
  Ok (om K s L (ox K v) []) (run Bd n 231 [.ptr (some (K.w,0))] s):=by
 obtain⟨n,rfl⟩: ∃k,n=k+2:=⟨n-2,by omega⟩;rw[Zf,h.eq];unfold Ge;obtain⟨R,hR⟩: ∃R,ox K v=R:=⟨_,rfl⟩;rw[hR];unfold ox at hR;simp only[fm,ae,aV];obtain⟨z1,p1,z2,p2,z3,p3,z4,p4,hd,hW⟩:=hW;rw[Zn hW.cell rfl];show Ok _ (D.int .i64 (.int .i64 K.sup.dir) _ s);simp only[aM];cases va:(K.sup.dir==0)with
 |true=>
  rw[va,cond_true]at hR;rw[cond_true,<-hR,Ze];exact .mk ⟨s,L,rfl,hW.wk,.refl L s,.refl L s⟩
 |false=>
 rw[va,cond_false]at hR;rw[cond_false,Zn hW.cell rfl];show Ok _ (D.int .i64 (.int .i64 K.sup.dir) _ s);simp only[aM];refine Ok.r8 (hW.take h.vL (n+1) K.sup.dir hK.m hK.A9 hK.len (by omega)) ?_ ?_
 ·intro s' hp
  cases ht:dh K K.sup.dir v with
  |none=>rw[ht]at hp hR;cases hp;rw[<-hR];exact⟨s,rfl,.refl L s⟩
  |some q=>rw[ht]at hp;obtain⟨d,s2,e,_⟩:=hp;cases e
 intro ds s1 hp;cases ht:dh K K.sup.dir v with
 |none=>rw[ht]at hp;cases hp
 |some q=>
 obtain⟨b,v1⟩:=q;rw[ht]at hp hR;obtain⟨d,s2,e2,gz,jO,hb⟩:=hp;cases e2;obtain⟨g1,g2,g3,g4,g5,g6⟩:=ZY ht;obtain⟨g7,g8⟩:=AN ht;have vv:=PK hW.set.len g7;rw[<-g8]at vv;have lH:Fx L s s1:=jO.mono fun y hy=>by rw[bK.1 hy];exact hW.sw
 simp only[xZ,ae];cases b with
 |leaf x=>obtain⟨rfl,_⟩:=hb;rw[<-hR];exact .mk ⟨s1,rfl,lH⟩
 |cE x=>obtain⟨rfl,_⟩:=hb;rw[<-hR];exact .mk ⟨s1,rfl,lH⟩
 |queue x=>obtain⟨rfl,_⟩:=hb;rw[<-hR];exact .mk ⟨s1,rfl,lH⟩
 |node x=>obtain⟨p,rfl,_⟩:=hb;rw[<-hR];exact .mk ⟨s1,rfl,lH⟩
 |none=>cases hb;rw[<-hR];exact .mk ⟨s1,rfl,lH⟩
 |dir x=>
 obtain⟨px,rfl,Ev,YA⟩:=hb;simp only at hR;rw[ZBd];have xw:x.length<=16:=YA;rw[Zc];refine Zl _ (fun q y t=>∃(i:Nat) (u:aW) (Lu:List Nat),y=[.int .i64 i]/\i<=x.length/\x.length-i<=q/\Wk K t u Lu/\Fx L s t/\Nw L s Lu/\Fz t px (ints x)/\u.aw=v.aw/\u.aB.length=i/\(∀g∈u.aB,g.name.length<=24)/\v.nodes<=u.nodes/\u.nodes+(room K.m u.W:Nat)<=v.nodes+(room K.m v.W:Nat)/\qL K i (x.drop i) u=R) ?_ x.length (n+1) _ _ ⟨0,v1,L,rfl,bH _,by omega,gz.wk,lH,.refl L s,Ev,g1,by rw[g2,hh];rfl,(by rw[g2,hh];intro _ h;cases h),by rw[g5];omega,by rw[g5];omega,by simpa using hR⟩ (by omega);rintro q _ t ⟨i,u,Lu,rfl,hi,hq,cF,eD,gP,zd,iE,p9,hun,D5,D6,aA⟩ rec aD;obtain⟨y1,r1,y2,r2,y3,r3,y4,r4,ud,cF⟩:=cF;simp only[al,ae];by_cases aj:i<x.length
 ·obtain⟨i1,o1,rfl⟩:=zd.1.ck (by simp[ints];omega)
  rw[ah (show(i:Int)<(x.length:Int) by omega),cond_true];refine Ok.join fun aC tI=>?_
  rw[aV,Zd (Zk aj),aX,zd.1.cP (Zu aj)];simp only[aM];have jy:x.drop i=x[i]::x.drop (i+1):=gT aj;rw[jy]at aA;generalize x[i]=y at aA;unfold qL at aA;refine Ok.r8 (cF.take h.vL (n+1) y hK.m hK.A9 hK.len (by omega)) ?_ ?_
  ·intro s' hp
   cases gB:dh K y u with
   |none=>rw[gB]at hp aA;cases hp;rw[<-aA];exact⟨t,rfl,eD⟩
   |some q=>rw[gB]at hp;obtain⟨d,s2,e,_⟩:=hp;cases e
  intro ds t1 hp;cases gB:dh K y u with
  |none=>rw[gB]at hp;cases hp
  |some q=>
  obtain⟨b,u1⟩:=q;rw[gB]at hp aA;obtain⟨d,s2,e2,jN,eG,hb⟩:=hp;cases e2;obtain⟨k1,k2,k3,k4,k5,k6⟩:=ZY gB;obtain⟨k7,k8⟩:=AN gB;have Yd:=PK cF.set.len k7;rw[<-k8]at Yd;have UT:Fx Lu t t1:=eG.mono fun y hy=>by rw[bK.1 hy];exact cF.sw
  have oF:Fx L s t1:=eD.step UT gP;simp only[xZ,ae];cases b with
  |leaf x=>obtain⟨rfl,_⟩:=hb;rw[<-aA];exact .mk ⟨t1,rfl,oF⟩
  |cE x=>obtain⟨rfl,_⟩:=hb;rw[<-aA];exact .mk ⟨t1,rfl,oF⟩
  |dir x=>obtain⟨p,rfl,_⟩:=hb;rw[<-aA];exact .mk ⟨t1,rfl,oF⟩
  |node x=>obtain⟨p,rfl,_⟩:=hb;rw[<-aA];exact .mk ⟨t1,rfl,oF⟩
  |none=>cases hb;rw[<-aA];exact .mk ⟨t1,rfl,oF⟩
  |queue qv=>
  obtain⟨rfl,Vp⟩:=hb;simp only at aA;rw[ZyX];obtain⟨hqn,_⟩:=ZsZ (ZuY (Zym gB));have mQ:Fz t1 (some (i1,o1)) (ints x):=zd.kp (cF.kp UT);have yQ:(ints qv.cY).length=12:=by simp[ints,Vp]
  rw[bF (cs:=ints qv.cY) (n:=12) yQ,bF (n:=14) (by simp[yQ])];refine Ok.join fun aU DW=>?_
  have hA: ∀t2 bb,AV u1 i qv.name=bb->c9 K t2 u1 Lu y1 r1 y2 r2 y3 r3 y4 r4 ud->Fx L s t2->Fz t2 (some (i1,o1)) (ints x)->Ok (om K s L R []) (aU [.bool bb] t2):=by
   intro t2 bb pN sb ee Eu;rw[DW];simp only[ai,ae];cases bb with
   |false=>
    rw[pN,cond_false]at aA;rw[ZN h.fC n rfl,<-aA];exact .mk ⟨t2,rfl,ee⟩
   |true=>
    rw[pN,cond_true]at aA;rw[pC h.fC n rfl];simp only[ae];refine Ok.join fun bu RX=>?_
    rw[cA (by omega)];refine Zz5 h.q23 (n+1) hK qv.name qv.cY Vp s L sb ee gP h0 h1 (by rw[k1,iE];exact hs) (by rw[k5];omega) (by rw[k5];omega) hm (by omega) R bu ?_ ?_
    ·intro e
     rw[e]at aA;exact aA.symm
    intro es w he t3 p z hz lC oG de wR XT XS KI;rw[he]at aA;simp only at aA;obtain⟨c1,c2,c3,c4,c5,c6,c7⟩:=Iv sb.set.len he (fun _ h=>by cases h) .nil;rw[RX];simp only[bZ,bU,bh,ae];obtain⟨t4,e4,tL,wW⟩:=ZAH h.q1 n es p t3 de c2 (by omega);rw[Zi e4];simp only[ae];have Bs: ∀b o,K.a=some (b,o)->b<t2.length:=fun b o e=>Sl.lt (e▸sb.img)
    have vz:w.aB=u.aB:=c5.trans k2;have hh2:oj t2 Lu ud w.aB:=by rw[c5];exact sb.aB
    obtain⟨Bq,UX⟩:=lC.Lt hh2 sb.lt Bs oG wW wR;have SO:Fz t4 (some (i1,o1)) (ints x):=Eu.kp (sb.kp UX);have UY:Fx L s t4:=ee.step UX gP;rw[Zn Bq.cell rfl];show Ok _ (D.slice 2 (.slice y2 r2 w.aB.length) _ t4);rw[Z5 2 y2 r2 _ Bq.e2,<-Zr3 es];have df:Sl t4 p (bP (qh es)):=by
     rcases tL with⟨rfl,h2⟩|⟨b,rest,rfl,h2⟩
     ·exact h2
     ·exact⟨false,_,h2,by rw[bg];omega,by rw[dE,vT]⟩
    have K8:j6 Lu p:=j6.aF fun b hb hm=>by have:=wR b hb;have:=sb.lt b hm;omega
    obtain⟨b,t5,t6,L6,q1,q2,q3,q4,q5,q6⟩:=Bq.Y1 (β:=List DV) ⟨qv.name,qh es⟩ (by rw[vz,p9];omega) (z:=4) (.inl rfl) df K8;refine Eq.mpr (congrArg (Ok _) (q1 _)) ?_;refine Eq.mpr (congrArg (Ok _) (q2 _)) ?_;rw[tI];simp only[ae];have oM:af ((i:Int)+1)=((i+1:Nat):Int):=Zb (by omega) (by omega);rw[oM];refine aD (x.length-(i+1)) _ _ (by omega) ⟨i+1,_,L6,rfl,by omega,ay _,q3.wk,UY.step q4 gP,gP.trans UY.1 q5,SO.kp (Bq.kp q4),(c4.trans k1).trans iE,?_,?_,?_,?_,aA⟩
    ·show(w.aB++[_]).length=i+1
     rw[bg,vz,p9];rfl
    ·intro g hg
     have wX:g∈w.aB++[⟨qv.name,qh es⟩]:=hg;rw[vz]at wX;rcases cW.1 wX with wX|wX
     ·exact hun g wX
     ·rw[bK.1 wX];exact hqn
    ·show v.nodes<=w.nodes
     rw[k5]at XS;omega
    ·show w.nodes+(room K.m w.W:Nat)<=_
     rw[k5]at XT;omega
  by_cases sh:i=0
  ·subst sh
   rw[show(((0:Nat):Int)==0)=true from rfl,cond_true];exact hA t1 true rfl jN oF mQ
  ·have hib:(((i:Nat):Int)==0)=false:=by rw[cx];omega
   rw[hib,cond_false,Zn jN.cell rfl];show Ok _ (D.slice 2 (.slice y2 r2 u1.aB.length) _ t1);rw[Z5 2 y2 r2 _ jN.e2];have DR:u1.aB.length=i:=by rw[k2];exact p9
   have aby:ud.length=u1.aB.length*2:=jN.aB.aB.len;obtain⟨b,rfl,wS⟩:=jN.o2.ck (by omega);have cj:af ((i:Int)-1)=((i-1:Nat):Int):=by rw[Zb (by omega) (by omega)];omega
   have RP:u1.aB[i-1]? =some u1.aB[i-1]:=ba (by omega);rw[aV,cj,Zd (Zk (by omega)),aX,CN jN.o2.sl jN.aB.aB RP];have hgm:u1.aB[i-1].name.length<=24:=hun _ (by rw[<-k2];exact fK _);obtain⟨gg,vh⟩: ∃gg,u1.aB[i-1]=gg:=⟨_,rfl⟩;rw[vh]at RP hgm⊢;simp only[z8];refine Ok.call (ZpM h.q51 (n+1) gg.name qv.name (by omega) (by omega) (by omega) (by omega) t1) ?_;rintro _ ⟨t2,rfl,bd⟩;refine⟨_,t2,rfl,?_⟩;simp only[al,ae];refine hA t2 _ ?_ (jN.pre bd) (oF.trans (Fx.pre _ bd)) (mQ.kp bd.kp);unfold AV;rw[ao sh,cond_false,RP]
 ·rw[ao (show ¬(i:Int)<(x.length:Int) by omega),cond_false]
  simp only[Ze];rw[mZ (by omega)]at aA;rw[<-aA];exact .mk ⟨t,Lu,rfl,cF.wk,eD,gP⟩
end Go.Gv.F
namespace Go.Gv.F
open Go.Gv
variable {β:Type}
theorem Fx.Wg {s s':St} (h:Fx [] s s'):ar s s':=by
 refine⟨s'.drop s.length,?_⟩;have:s'.take s.length=s:=by
  apply na;intro i;by_cases hi:i<s.length
  ·rw[List.getElem?_take_of_lt hi]
   have e:s[i]? =some s[i]:=ba hi;rw[e];exact h.2 i _ (fun h=>by cases h) e
  ·rw[dT (by rw[bW];omega),dT (by omega)]
 conv=>lhs;rw[<-lj s.length s',this]
theorem Ok.ny {P:Out (List DV)×St->Prop} {Q:Out β×St->Prop} {m:M (List DV)} {H:Bool->M β} {s:St} (h:Ok P (m s))
  (k1: ∀s',P (.cC,s')->Ok Q (H true s')) (k2: ∀ds s',P (.val ds,s')->Ok Q (H false s')):Ok Q (M.ny m H s):=by
 obtain⟨⟨o,s'⟩,e,hp⟩:=h;unfold M.ny;rw[e];cases o with
 |val ds=>exact k2 ds s' hp
 |cC=>exact k1 s' hp
theorem ZzM {s:St} {i p:Nat} {f:Bool} {all:List DV} {k:IntKind} {n:Int} (h:s[i]? =some (some ⟨f,all⟩)) (hd:all[p]? =some (.int k n)) (K:IntKind->Int->M β):tl i p K s=K k n s:=by
 unfold tl;rw[Zn h hd]
theorem Ph {s:St} {i p:Nat} {f:Bool} {all:List DV} {n:Int} (h:s[i]? =some (some ⟨f,all⟩)) (hd:all[p]? =some (.int .i64 n)) (K:M β):fV i p .i64 n K s=K s:=by
 unfold fV;rw[Zn h hd];show(bif qb .i64 .i64&&(n==n)then K else fail) s=K s;rw[gN];rfl
def Kept (v v':aW):Prop:=v'.aB=v.aB/\v'.gens=v.gens/\v'.free=v.free/\v'.nodes=v.nodes
theorem Kept.refl (v:aW):Kept v v:=⟨rfl,rfl,rfl,rfl⟩
theorem Kept.trans {a b c:aW} (h:Kept a b) (k:Kept b c):Kept a c:=⟨k.1.trans h.1,k.2.1.trans h.2.1,k.2.2.1.trans h.2.2.1,k.2.2.2.trans h.2.2.2⟩
theorem Om {K:bA} {k:Int} {v v':aW} {b:xY} (h:dh K k v=some (b,v')):Kept v v':=by
 obtain⟨_,h2,h3,h4,h5,_⟩:=ZY h;exact⟨h2,h3,h4,h5⟩
theorem ZnU {K:bA} : ∀ {x:List bL} {k:Int} {v v':aW},lu K k x v=some v'->Kept v v'
 |[],_,_,_,h=>by cases h;exact .refl _
 |x::r,k,v,v',h=>by
  unfold lu at h;cases h1:oy K k x v with
  |none=>rw[h1]at h;cases h
  |some w=>
   rw[h1]at h;refine Kept.trans ?_ (ZnU h);unfold oy at h1;cases h2:decide (k>=K.sup.used)with
   |true=>
    rw[h2,cond_true]at h1;cases h3:yy x with
    |true=>rw[h3]at h1;cases h1;exact .refl _
    |false=>rw[h3]at h1;cases h1
   |false=>
    rw[h2,cond_false]at h1;cases h3:tf K.sup x with
    |true=>rw[h3]at h1;cases h1;exact⟨rfl,rfl,rfl,rfl⟩
    |false=>rw[h3]at h1;cases h1
theorem ZxW {K:bA} {k slot:Int} {v v':aW} (h:kQ K k slot v=some v'):Kept v v':=by
 unfold kQ at h;split at h
 ·rename_i x v1 ht
  exact(Om ht).trans (ZnU h)
 ·cases h
theorem Oe {K:bA} {cnt x5:Int} : ∀ {x:List Int} {k:Int} {v v':aW},jt K cnt x5 k x v=some v'->Kept v v'
 |[],_,_,_,h=>by cases h;exact .refl _
 |y::r,k,v,v',h=>by
  unfold jt at h;cases h1:((!(y==0))==decide (x5*16+k<cnt))with
  |false=>rw[h1]at h;cases h
  |true=>
   rw[h1,cond_true]at h;cases h2:(!(y==0))with
   |false=>rw[h2]at h;exact Oe h
   |true=>
    rw[h2,cond_true]at h;split at h
    ·cases h
    ·rename_i w hw
     exact(ZxW hw).trans (Oe h)
theorem N8 {K:bA} {cnt:Int} : ∀ {x:List Int} {k:Int} {v v':aW},mb K cnt k x v=some v'->Kept v v'
 |[],_,_,_,h=>by cases h;exact .refl _
 |y::r,k,v,v',h=>by
  unfold mb at h;cases h1:((!(y==0))==decide (k*16<cnt))with
  |false=>rw[h1]at h;cases h
  |true=>
   rw[h1,cond_true]at h;cases h2:(y==0)with
   |true=>rw[h2]at h;exact N8 h
   |false=>
    rw[h2,cond_false]at h;split at h
    ·rename_i x v1 ht
     split at h
     ·cases h
     ·rename_i w hw
      exact((Om ht).trans (Oe hw)).trans (N8 h)
    ·cases h
theorem ZvU {K:bA} {v v':aW} (h:nu K v=some v'):Kept v v':=by
 unfold nu at h;cases h1:(K.sup.used==0)with
 |true=>rw[h1]at h;cases h;exact .refl _
 |false=>
  rw[h1,cond_false]at h;split at h
  ·rename_i x v1 ht
   exact(Om ht).trans (N8 h)
  ·cases h
theorem Zn5 {K:bA} : ∀ {f:Nat} {fl yC:List Bool} {k:Int} {v v':aW},np K f fl k v=some (yC,v')->v'.aw=v.aw/\v'.aB=v.aB/\v'.gens=v.gens/\v'.nodes=v.nodes
 |0,_,_,_,_,_,h=>by cases h
 |f+1,fl,yC,k,v,v',h=>by
  unfold np at h;cases h1:(k==0)with
  |true=>rw[h1]at h;cases h;exact⟨rfl,rfl,rfl,rfl⟩
  |false=>
   rw[h1,cond_false]at h;cases h2:decide (k<=K.sup.used)with
   |false=>rw[h2]at h;cases h
   |true=>
    rw[h2,cond_true]at h;split at h
    ·cases h
    ·rename_i x hx
     cases h3:(bif (bif !x.live then decide (x.gen<K.sup.g)else false)then !fl.getD (k-1).toNat false else false)with
     |false=>rw[h3]at h;cases h
     |true=>
      rw[h3,cond_true]at h;exact Zn5 (v:= { v with free:=v.free++[k-1] }) h
theorem Zxm {K:bA} {v v':aW} (h:qS K v=some v'):v'.aw=v.aw/\v'.aB=v.aB/\v'.gens=v.gens/\v'.nodes=v.nodes:=by
 unfold qS at h;cases h1:np K (K.sup.used.toNat+1) (List.replicate K.sup.used.toNat false) K.sup.free v with
 |none=>rw[h1]at h;cases h
 |some q=>
  obtain⟨fl,w⟩:=q;rw[h1]at h;unfold yq at h;simp only at h;cases h2:rU K fl w.aw with
  |false=>rw[h2]at h;cases h
  |true=>rw[h2]at h;cases h;exact Zn5 h1
theorem Zty {K:bA} {v v':aW} (hl:v.W.length=(K.m+63)/64) (h:ox K v=some v'):v'.aw=v.aw/\v'.gens=v.gens/\v'.free=v.free:=by
 unfold ox at h;cases h1:(K.sup.dir==0)with
 |true=>rw[h1]at h;cases h;exact⟨rfl,rfl,rfl⟩
 |false=>
  rw[h1,cond_false]at h;split at h
  ·rename_i x v1 ht
   obtain⟨g1,g2,g3,g4,g5,g6⟩:=ZY ht;obtain⟨c1,c2,c3,c4⟩:=ZuF (by rw[(AN ht).2,sV];exact hl) h;exact⟨c1.trans g1,c2.trans g3,c3.trans g4⟩
  ·cases h
def vN (x:eU) (v:aW):cT:=⟨x.blocks,x.cu,x.g,v.aB,v.gens,v.free⟩
def qi:cT:=⟨0,0,0,[],[],[]⟩
def lP (K:bA):Option (Option aW):=bif jM K.sup then(bif decide (K.sup.blocks<=((K.img.length/64:Nat):Int))then some (sH K)else some none)else none
def Ug (s:St) (m:Nat) (x:eU) (r:Option (Option aW)) (o:Out (List DV)×St):Prop:=match r with
 |none=>∃s',o=(.val [.agg (dA qi 0 none 0 none 0 none),.ptr none,.int .i64 2],s')/\ar s s'
 |some none=>∃s',o=(.val [.agg (dA qi 0 none 0 none 0 none),.ptr none,.int .i64 31],s')/\ar s s'
 |some (some v)=>∃s' z2 p2 z3 p3 z4 p4 i j,o=(.val [.agg (dA (vN x v) z2 p2 z3 p3 z4 p4),.ptr (some (i,0)),.int .i64 0],s')/\ar s s'/\(z2=2\/p2=none)/\(z3=1\/p3=none)/\(z4=1\/p4=none)/\oq s' (vN x v) p2 p3 p4/\eY s' false i j m v.W/\s.length<=j/\i≠j
structure mw (s:St) (b:Nat) (A:List DV) (r e:DV):Prop where
 st:s[b+1]? =some (some ⟨false,A⟩)
 re:s[b+2]? =some (some ⟨false,[r]⟩)
 er:s[b+3]? =some (some ⟨false,[e]⟩)
 len:A.length=6
theorem mw.fx {s s':St} {b:Nat} {A:List DV} {r e:DV} {T:List Nat} (h:mw s b A r e) (k:Fx T s s') (hT: ∀x∈T,x<b\/b+4<=x):mw s' b A r e:=
 ⟨k.2 _ _ (fun hm=>by have:=hT _ hm;omega) h.st,k.2 _ _ (fun hm=>by have:=hT _ hm;omega) h.re,k.2 _ _ (fun hm=>by have:=hT _ hm;omega) h.er,h.len⟩
theorem mw.TV {s:St} {b:Nat} {A:List DV} {r e:DV} (h:mw s b A r e) (A':List DV) (r' e':DV) (hl:A'.length=6): ∃s',(∀K:M β,(M.store (b+1) 0 A'<|M.store (b+2) 0 [r']<|M.store (b+3) 0 [e'] K) s=K s')/\mw s' b A' r' e'/\Fx [b+1,b+2,b+3] s s':=by
 have h1:=(cd.1 h.st).1;have h2:=(cd.1 h.re).1;have h3:=(cd.1 h.er).1;have eR:bC A 0 A'=A':=by
  have:=qF [] A [] A' (by rw[h.len,hl]);simpa using this
 refine⟨((s.set (b+1) (some ⟨false,A'⟩)).set (b+2) (some ⟨false,[r']⟩)).set (b+3) (some ⟨false,[e']⟩),fun K=>?_,⟨?_,?_,?_,hl⟩,⟨by simp,fun i x hi e=>?_⟩⟩
 ·rw[Js h.st (by rw[h.len,hl];omega),eR,rK (by rw[eu (by omega)];exact h.re) (by show 0<1;omega),rK (by rw[eu (by omega),eu (by omega)];exact h.er) (by show 0<1;omega)]
  rfl
 ·rw[eu (by omega),eu (by omega),fJ h1]
 ·rw[eu (by omega),fJ (by simpa using h2)]
 ·rw[fJ (by simpa using h3)]
 ·simp only[bX,kA,iN,not_or]at hi
  rw[eu (by omega),eu (by omega),eu (by omega)];exact e
theorem mw.tV {s:St} {b:Nat} {A:List DV} {r e:DV} (h:mw s b A r e):(M.load (b+1) 0 6 fun o=>M.au (b+2) 0 fun o1=>M.au (b+3) 0 fun o2=>M.ret [.agg o,o1,o2]) s=some (.val [.agg A,r,e],s):=by
 rw[lA h.st (by rw[h.len];omega),Zn h.re rfl,Zn h.er rfl,dE,cA (by rw[h.len];omega),Ze]
theorem ZmU {x:eU} (h:jM x=true):mj x.blocks x.cu x.g=true/\0<=x.used/\x.used<=x.cu/\0<=x.free/\x.free<=x.used:=by
 unfold jM at h;rw[aH,hJ,kZ,kZ,kZ,kZ,kZ,kZ]at h;obtain⟨⟨_,_,h1,h2,h3,h4,h5⟩,_⟩:=h;refine⟨by simpa using h1,?_,?_,?_,?_⟩
 ·have:=uv h2;omega
 ·have:=uv h3;omega
 ·have:=uv h4;omega
 ·have:=uv h5;omega
theorem rM {b s g:Int} (h:mj b s g=true):16<=b/\b<=3072/\1<=s/\s<=1792/\1<=g/\g<=4294967295:=by
 unfold mj at h;simp only[aH,bc]at h;omega
theorem mw.aN {s s':St} {b:Nat} {r e r' e':DV} {A':List DV} (h:mw s b (dA qi 0 none 0 none 0 none) r e) (h':mw s' b A' r' e') (k:Fx [b+1,b+2,b+3] s s') {p:Option (Nat×Nat)} {es:List bm} (hs:Sl s p (bP es)):Sl s' p (bP es):=by
 cases p with
 |none=>exact hs
 |some q=>
  obtain⟨i,o⟩:=q;by_cases hi:i∈[b+1,b+2,b+3]
  ·have Vc:es=[]:=by
    cases es with
    |nil=>rfl
    |cons x es=>
     exfalso;obtain⟨f,all,e1,e2,e3⟩:=hs;have hlen:(bP (x::es)).length=4+(bP es).length:=by
      rw[ZB,ZB,dF];omega
     simp only[bX,kA,iN]at hi;rcases hi with rfl|rfl|rfl
     ·rw[h.st]at e1
      cases e1;have h6:(dA qi 0 none 0 none 0 none).length=6:=rfl;have ho:o=0\/o=1\/o=2:=by omega
      have e4:=congrArg (fun l=>l[3-o]?) e3;rw[List.getElem?_take_of_lt (by omega),lR]at e4;rcases ho with rfl|rfl|rfl<;>cases e4
     ·rw[h.re]at e1
      cases e1;rw[hlen]at e2;simp only[rG]at e2;omega
     ·rw[h.er]at e1
      cases e1;rw[hlen]at e2;simp only[rG]at e2;omega
   subst Vc;obtain⟨f,all,e1,e2,_⟩:=hs;simp only[bX,kA,iN]at hi;rcases hi with rfl|rfl|rfl
   ·rw[h.st]at e1
    cases e1;refine⟨false,_,h'.st,?_,rfl⟩;have:=h'.len;have h6:(dA qi 0 none 0 none 0 none).length=6:=rfl;have h0:(bP []).length=0:=rfl;omega
   ·rw[h.re]at e1
    cases e1;exact⟨false,_,h'.re,e2,rfl⟩
   ·rw[h.er]at e1
    cases e1;exact⟨false,_,h'.er,e2,rfl⟩
  ·exact Sl.fx hs k fun b' o' e=>by cases e;exact hi
theorem iz.aN {s s':St} (h: ∀(p:Option (Nat×Nat)) (es:List bm),Sl s p (bP es)->Sl s' p (bP es)): ∀ {ds:List DV} {xs:List cN},iz s ds xs->iz s' ds xs
 |_,[],h1=>h1
 |_,_::_,⟨z,p,t,hz,h1,h2,h3⟩=>⟨z,p,t,hz,h1,h p _ h2,h3.aN h⟩
def Wu (K:bA) (s:St) (b:Nat) (r:Option aW) (o:Out (List DV)×St):Prop:=match r with
 |none=>∃s',o=(.cC,s')/\Fx [] s s'
 |some v=>∃s' ds z2 p2 z3 p3 z4 p4,o=(.val ds,s')/\Fx [b+1,b+2,b+3] s s'/\mw s' b (dA (vN K.sup v) z2 p2 z3 p3 z4 p4) (.ptr (some (K.i,0))) (.int .i64 0)/\(z2=2\/p2=none)/\(z3=1\/p3=none)/\(z4=1\/p4=none)/\oq s' (vN K.sup v) p2 p3 p4/\eY s' false K.i K.j K.m v.W
theorem Ztv {Bd:Za} (h:Al Bd) (n:Nat) (a:Option (Nat×Nat)) (img:List UInt8) (x:eU) (pc:Option (Nat×Nat)) (s:St) (ha:dp s a img) (hc:Sl s pc (ints x.az)) (hl:img.length<1000000) (dq:x.az.length<1000) (hn:5000<=n):
  ∃K:bA,K.m=x.blocks.toNat/\K.img=img/\K.sup=x/\Ok (Ug s x.blocks.toNat x (lP K)) (run Bd n 171 [.slice 1 a img.length,.agg (dI x pc)] s):=by
 obtain⟨n,rfl⟩: ∃k,n=k+3:=⟨n-3,by omega⟩;refine⟨⟨s.length+8,s.length+7,s.length+6,x.blocks.toNat,a,img,x,pc⟩,rfl,rfl,rfl,?_⟩;obtain⟨K,hK⟩: ∃K:bA,(⟨s.length+8,s.length+7,s.length+6,x.blocks.toNat,a,img,x,pc⟩:bA)=K:=⟨_,rfl⟩;rw[hK];have kw:s.length+8=K.w:=by rw[<-hK]
 have ki:s.length+7=K.i:=by rw[<-hK]
 have kj:s.length+6=K.j:=by rw[<-hK]
 have km:K.m=x.blocks.toNat:=by rw[<-hK]
 have ka:a=K.a:=by rw[<-hK]
 have kg:img=K.img:=by rw[<-hK]
 have ks:x=K.sup:=by rw[<-hK]
 have kp:pc=K.pc:=by rw[<-hK]
 clear hK;obtain⟨R,hR⟩: ∃R,lP K=R:=⟨_,rfl⟩;rw[hR];unfold lP at hR;rw[<-ks,<-kg]at hR;rw[Zf,h.eq];unfold It;simp only[bh];rw[bZ];unfold dI;simp only[al,bh,ae];have xq:([.int .i64 x.seq,.int .i64 x.blocks,.int .i64 x.cu,.int .i64 x.g,.int .i64 x.cE,.int .i64 x.used,.int .i64 x.free,.int .i64 x.dir,.slice 1 pc x.az.length]:List DV)=dI x pc:=rfl;rw[xq,Zw,Zw,Zw,Zw];have Ys:([.int .i64 0,.int .i64 0,.int .i64 0,.slice 0 none 0,.slice 0 none 0,.slice 0 none 0]:List DV)=dA qi 0 none 0 none 0 none:=rfl;simp only[Ys];have l1: ∀c,(s++[some (c:bq)]).length=s.length+1:=fun c=>by simp
 have l2: ∀c d,((s++[some (c:bq)])++[some (d:bq)]).length=s.length+2:=fun c d=>by simp
 have l3: ∀c d e,(((s++[some (c:bq)])++[some (d:bq)])++[some (e:bq)]).length=s.length+3:=fun c d e=>by simp
 simp only[l1,l2,l3];obtain⟨S1,Bo⟩: ∃S1,(((s++[some (⟨false,dI x pc⟩:bq)])++[some (⟨false,dA qi 0 none 0 none 0 none⟩:bq)])++[some (⟨false,[.ptr none]⟩:bq)])++[some (⟨false,[.int .i64 0]⟩:bq)]=S1:=⟨_,rfl⟩;rw[Bo];have aI:ar s S1:=by rw[<-Bo];exact((((ar.new _ _).trans (ar.new _ _)).trans (ar.new _ _)).trans (ar.new _ _))
 have KX:S1.length=s.length+4:=by rw[<-Bo];simp
 have h9:S1[s.length]? =some (some ⟨false,dI x pc⟩):=by rw[<-Bo];simp
 have Kq:mw S1 s.length (dA qi 0 none 0 none 0 none) (.ptr none) (.int .i64 0):=by
  rw[<-Bo];exact⟨by simp,by simp,by simp,rfl⟩
 clear Bo;rw[lA h9 (by show 0+9<=9;omega)];show Ok _ (J.i .i64 (dI x pc) _ S1);unfold dI;simp only[al,bh,ae];rw[xq];have hsR:=ZrO h.q82 (n+2) x pc S1 (hc.mono aI) dq (by omega);rw[Zi hsR];simp only[ai,ae];obtain⟨S2,Kw⟩: ∃S2,S1++[some (⟨false,dI x pc⟩:bq)]=S2:=⟨_,rfl⟩;rw[Kw];have bd:ar S1 S2:=by rw[<-Kw];exact ar.new _ _
 have BD:S2.length=s.length+5:=by rw[<-Kw];simp[KX]
 have Kj:=bd.get h9;have Q2:mw S2 s.length (dA qi 0 none 0 none 0 none) (.ptr none) (.int .i64 0):=⟨bd.get Kq.st,bd.get Kq.re,bd.get Kq.er,rfl⟩;have Vl:=aI.trans bd;clear Kw aI bd Kq h9 hsR;have wV: ∀S3,Fx [s.length+1,s.length+2,s.length+3] S2 S3->ar s S3:=fun S3 k=>by
  refine Fx.Wg ((Fx.pre [] Vl).step k fun y hy=> .inr ?_);simp only[bX,kA,iN]at hy;omega
 cases y8:jM x with
 |false=>
  rw[y8,cond_false]at hR;obtain⟨S3,e3,Dx,RB⟩:=Q2.TV (β:=List DV) (dA qi 0 none 0 none 0 none) (.ptr none) (.int .i64 2) rfl;rw[bD,cond_true,e3,Dx.tV,<-hR];exact .mk ⟨S3,rfl,wV S3 RB⟩
 |true=>
 rw[y8,cond_true]at hR;rw[bx,cond_false];obtain⟨vg,xr,BL,vd,Bw⟩:=ZmU y8;obtain⟨g1,g2,g3,g4,g5,g6⟩:=rM vg;refine Ok.ny (P:=Wu K S2 s.length (bif decide (x.blocks<=((img.length/64:Nat):Int))then sH K else none)) ?_ ?_ ?_
 ·have vA: ∃m:Nat,x.blocks=(m:Int):=⟨x.blocks.toNat,by omega⟩
  rw[Zn Kj (d:= .int .i64 x.blocks) rfl];simp only[aM];have hw:af (((img.length:Nat):Int).tdiv 64)=((img.length/64:Nat):Int):=by
   rw[Ql (by omega),aX];exact Zb (by omega) (by omega)
  rw[hw];cases iC:decide (x.blocks<=((img.length/64:Nat):Int))with
  |false=>
   rw[ZN h.fC (n+1) rfl,cond_false];exact .mk ⟨S2,rfl,.refl _ _⟩
  |true=>
  have Xc:=lY iC;rw[pC h.fC (n+1) rfl,cond_true];simp only[ae];rw[lA Kj (by show 0+9<=9;omega)];show Ok _ (J.i .i64 (dI x pc) _ S2);unfold dI;simp only[al,bh,ae];rw[Zn Kj (d:= .int .i64 x.blocks) rfl];simp only[aM];rw[Zw];obtain⟨S3,Kx⟩: ∃S3,S2++[some (⟨false,[.int .i64 0,.int .i64 1]⟩:bq)]=S3:=⟨_,rfl⟩;have cn:ar S2 S3:=by rw[<-Kx];exact ar.new _ _
  have KY:S3.length=s.length+6:=by rw[<-Kx];simp[BD]
  have Yg:Sl S3 (some (S2.length,0)) (ints [0,1]):=⟨false,[.int .i64 0,.int .i64 1],by rw[<-Kx];simp,ay _,rfl⟩;rw[Kx];obtain⟨m,hm⟩:=vA;obtain⟨S4,e4,gA,U3,Vv⟩:=Iz h.xK (n+2) m [0,1] (some (S2.length,0)) S3 (by omega) Yg (by show 2<1000000;omega) (by show 2+4<=n+2;omega);have Q6:m=K.m:=by rw[km,hm];rfl
  have e4':run Bd (n+2) 177 [.int .i64 x.blocks,.slice 1 (some (S2.length,0)) 2] S3=some (.val [.ptr (some (S3.length+1,0))],S4):=by rw[hm];exact e4
  rw[uB e4' gA];simp only[fm,ae];have h94:=gA.get (cn.get Kj);rw[lA h94 (by show 1+3<=9;omega)];show Ok _ (J.i .i64 (.int .i64 x.blocks::[.int .i64 x.cu,.int .i64 x.g]) _ S4);simp only[al,ae];rw[Zw];have Er:S4.length=K.w:=by rw[U3,KY];omega
  have tG:S3.length+1=K.i:=by rw[KY];omega
  rw[Er,tG];have Yk:eY S4 false K.i K.j K.m (gm K.m [0,1]):=by
   rw[tG]at Vv;rw[<-kj,<-KY,<-Q6];exact Vv
  obtain⟨S5,Ky⟩: ∃S5,S4++[some (⟨false,oa K (sI K.m) (cD 0 none 0) (cD 0 none 0) (cD 0 none 0) (cD 0 none 0)⟩:bq)]=S5:=⟨_,rfl⟩;have u9:([.slice 1 a img.length,.int .i64 x.seq,.int .i64 x.blocks,.int .i64 x.cu,.int .i64 x.g,.int .i64 x.cE,.int .i64 x.used,.int .i64 x.free,.int .i64 x.dir,.slice 1 pc x.az.length,.ptr (some (K.i,0)),.slice 0 none 0,.int .i64 x.blocks,.int .i64 x.cu,.int .i64 x.g,.slice 0 none 0,.slice 0 none 0,.slice 0 none 0,.int .i64 0]:List DV)=oa K (sI K.m) (cD 0 none 0) (cD 0 none 0) (cD 0 none 0) (cD 0 none 0):=by
   unfold oa;rw[<-ka,<-kg,<-ks,<-kp];rfl
  rw[u9,Ky];have ik:ar S4 S5:=by rw[<-Ky];exact ar.new _ _
  have abh:S5.length=s.length+9:=by rw[<-Ky];simp[U3,KY]
  have W4:S5[K.w]? =some (some ⟨false,oa K (sI K.m) (cD 0 none 0) (cD 0 none 0) (cD 0 none 0) (cD 0 none 0)⟩):=by rw[<-Ky,<-Er];simp
  have K7:ar s S5:=((Vl.trans cn).trans gA).trans ik;have hW:c9 K S5 (sI K.m) [K.w,K.i,K.j] 0 none 0 none 0 none 0 none []:=by
   refine⟨W4,.inr rfl,.inr rfl,.inr rfl,.inr rfl,aY.nil ⟨S5,rfl⟩,aY.nil ⟨S5,rfl⟩,aY.nil ⟨S5,rfl⟩,aY.nil ⟨S5,rfl⟩,rfl,Yk.pre ik,?_,?_,rfl,?_⟩
   ·rw[<-ka,<-kg];exact ha.mono K7
   ·rw[<-ka]
    rintro b o rfl hm;have:=Sl.lt ha;simp only[bX,kA,iN]at hm;omega
   ·simp only[qo,bX,kA,iN,not_or]
    refine⟨⟨by omega,by omega⟩,by omega,not_false,.nil⟩
  have hC5:mw S5 s.length (dA qi 0 none 0 none 0 none) (.ptr none) (.int .i64 0):=Q2.fx (Fx.pre [] ((cn.trans gA).trans ik)) fun y hy=>by cases hy
  have UP:Fx [] S2 S5:=Fx.pre [] ((cn.trans gA).trans ik);have Uw:yb K:=⟨by rw[<-ks,hm,Q6],by rw[<-kg,<-Q6];omega,by rw[<-kg];exact hl⟩;have fS: ∀y∈[K.w,K.i,K.j],S2.length<=y:=fun y hy=>by
   simp only[bX,kA,iN]at hy;omega
  have rk: ∀t,Fx [K.w,K.i,K.j] S5 t->Fx [] S2 t:=fun t k=>UP.step k fun y hy=> .inr (fS y hy)
  obtain⟨W1,gz⟩: ∃W1,sH K=W1:=⟨_,rfl⟩;rw[gz];unfold sH at gz;have Q7:0<=K.sup.used:=by rw[<-ks];exact xr
  have Q8:K.sup.used<=1792:=by rw[<-ks];omega
  have hKf:0<=K.sup.free:=by rw[<-ks];exact vd
  have W0:K.m<=3072:=by omega
  refine Ok.r8 (ZzV h.q14 (n+2) Uw hW.wk (by show 0<1000;omega) (by omega)) ?_ ?_
  ·intro t hp
   cases hr:nu K (sI K.m)with
   |none=>rw[hr]at hp gz;obtain⟨_,e,hf⟩:=hp;cases e;rw[<-gz];exact⟨t,rfl,rk t hf⟩
   |some v=>rw[hr]at hp;obtain⟨_,_,e,_⟩:=hp;cases e
  intro ds t1 hp;cases iS:nu K (sI K.m)with
  |none=>rw[iS]at hp;obtain⟨_,e,_⟩:=hp;cases e
  |some v1=>
  rw[iS]at hp gz;obtain⟨_,L1,e,W6,jO,Sj⟩:=hp;cases e;simp only at gz;simp only[ae];obtain⟨k1,k2,k3,k4⟩:=ZvU iS;obtain⟨ga,X9⟩:=Zy7 Q7 Q8 rfl iS;refine Ok.r8 (ZAI h.q19 (n+2) W6 Q7 Q8 hKf ga X9 k1 k3 (by omega)) ?_ ?_
  ·intro t hp
   cases hr:qS K v1 with
   |none=>rw[hr]at hp gz;obtain⟨_,e,hf⟩:=hp;cases e;rw[<-gz];exact⟨t,rfl,rk t (jO.step hf Sj)⟩
   |some v=>rw[hr]at hp;obtain⟨_,_,e,_⟩:=hp;cases e
  intro ds t2 hp;cases jz:qS K v1 with
  |none=>rw[jz]at hp;obtain⟨_,e,_⟩:=hp;cases e
  |some v2=>
  rw[jz]at hp gz;obtain⟨_,L2,e,Ux,eG,XU⟩:=hp;cases e;simp only at gz;simp only[ae];obtain⟨q1,q2,q3,q4⟩:=Zxm jz;have RI:Fx [K.w,K.i,K.j] S5 t2:=jO.step eG Sj;have Sk:Nw [K.w,K.i,K.j] S5 L2:=Sj.trans jO.1 XU;have Ri:v2.W.length=(K.m+63)/64:=by obtain⟨_,_,_,_,_,_,_,_,_,hw⟩:=Ux;exact hw.set.len
  have yS:v2.nodes=0:=by rw[q4,k4];rfl
  have vv:=ZwM K.m v2.W;refine Ok.r8 (Zyr h.q12 (n+2) Uw Ux Q7 Q8 (by rw[q1];exact ga) (by rw[yS];exact zN _) (by rw[yS];omega) W0 (by rw[q2,k1];rfl) (by omega)) ?_ ?_
  ·intro t hp
   cases hr:ox K v2 with
   |none=>rw[hr]at hp gz;obtain⟨_,e,hf⟩:=hp;cases e;rw[<-gz];exact⟨t,rfl,rk t (RI.step hf Sk)⟩
   |some v=>rw[hr]at hp;obtain⟨_,_,e,_⟩:=hp;cases e
  intro ds t3 hp;cases Eg:ox K v2 with
  |none=>rw[Eg]at hp;obtain⟨_,e,_⟩:=hp;cases e
  |some v3=>
  rw[Eg]at hp gz;obtain⟨_,L3,e,W7,ee,XV⟩:=hp;cases e;simp only at gz;simp only[ae];obtain⟨w1,w2,w3⟩:=Zty Ri Eg;have UU:Fx [K.w,K.i,K.j] S5 t3:=RI.step ee Sk;have Ve:Nw [K.w,K.i,K.j] S5 L3:=Sk.trans RI.1 XV;have df:(v3.aw.length:Int)=K.sup.used:=by rw[w1,q1];exact ga
  have vi:v3.gens=[]:=by rw[w2,q3,k2];rfl
  obtain⟨y1,r1,y2,r2,y3,r3,y4,r4,hd,Rj⟩:=W7;rw[ZzM Rj.cell (k:= .i64) (n:=v3.nodes) rfl,Zn Rj.cell (d:= .int .i64 v3.nodes) rfl];simp only[aM];refine Ok.call (ZAz h.q21 (n+2) Rj.wk (by omega) (by rw[vi];show 0<100000;omega) (by omega)) ?_;rintro _ ⟨t4,L4,rfl,W8,oG,XW⟩;refine⟨_,t4,rfl,?_⟩;simp only[al,ae];have RJ:Fx [K.w,K.i,K.j] S5 t4:=UU.step oG Ve;have XX:Nw [K.w,K.i,K.j] S5 L4:=Ve.trans UU.1 XW;obtain⟨y1,r1,y2,r2,y3,r3,y4,r4,hd,lC⟩:=W8;have Bu:(oa K (rp v3) (cD y1 r1 (rp v3).aw.length) (cD y2 r2 (rp v3).aB.length) (cD y3 r3 (rp v3).gens.length) (cD y4 r4 (rp v3).free.length))[18]? =some (.int .i64 v3.nodes):=rfl;rw[Ph lC.cell Bu,Ph lC.cell Bu];have Ro:((((zm v3:Nat):Int))==v3.nodes)=decide (((zm v3:Nat):Int)=v3.nodes):=rfl;rw[Ro];cases gE:decide (((zm v3:Nat):Int)=v3.nodes)with
  |false=>
   rw[gE,cond_false]at gz;rw[ZN h.fC (n+1) rfl,<-gz];exact .mk ⟨t4,rfl,rk t4 RJ⟩
  |true=>
  rw[gE,cond_true]at gz;rw[pC h.fC (n+1) rfl];simp only[ae];rw[Ph lC.cell Bu,lA lC.cell (by show 12+6<=19;omega)];show Ok _ (J.i .i64 (.int .i64 K.sup.blocks:: .int .i64 K.sup.cu:: .int .i64 K.sup.g::cD y2 r2 (rp v3).aB.length::cD y3 r3 (rp v3).gens.length::cD y4 r4 (rp v3).free.length::[]) _ t4);unfold cD;simp only[al,Zm 2 y2 r2 _ lC.e2,Zm 1 y3 r3 _ lC.e3,Zm 1 y4 r4 _ lC.e4,ae];rw[Zn lC.cell (d:= .ptr (some (K.i,0))) rfl];simp only[LZ];have tx:apart (some (s.length+1,0)) K.w=true:=by
   show(!Nat.beq K.w (s.length+1))=true;cases hbq:Nat.beq K.w (s.length+1)with
   |false=>rfl
   |true=>have:=cc hbq;omega
  rw[Zd tx];have Kr:mw t4 s.length (dA qi 0 none 0 none 0 none) (.ptr none) (.int .i64 0):=hC5.fx RJ fun y hy=>by
   have:=fS y hy;omega
  obtain⟨t5,e5,hC6,Bx⟩:=Kr.TV (β:=List DV) (dA (vN K.sup (rp v3)) 2 r2 1 r3 1 r4) (.ptr (some (K.i,0))) (.int .i64 0) rfl;refine Eq.mpr (congrArg (Ok _) (e5 (M.ret []))) ?_;rw[Ze,<-gz];have bz: ∀y∈L4,y∉[s.length+1,s.length+2,s.length+3]:=fun y hy hm=>by
   have h1:S2.length<=y:=by
    rcases XX y hy with h2|h2
    ·exact fS y h2
    ·have:=UP.1;omega
   simp only[bX,kA,iN]at hm;omega
  have D8:=lC.own;refine .mk ⟨t5,[],2,r2,1,r3,1,r4,rfl,((rk t4 RJ).mono fun y hy=>by cases hy).trans Bx,hC6,.inl rfl,.inl rfl,.inl rfl,⟨⟨hd,(lC.o2.fx Bx fun y hy=>bz y (by rw[D8];simp[hy])).sl,iz.aN (fun _ _ k=>Kr.aN hC6 Bx k) lC.aB.aB⟩,(lC.o3.fx Bx fun y hy=>bz y (by rw[D8];simp[hy])).sl,(lC.o4.fx Bx fun y hy=>bz y (by rw[D8];simp[hy])).sl⟩,lC.set.fx Bx (bz _ (by rw[D8];simp)) (bz _ (by rw[D8];simp))⟩
 ·intro S3 hp
  cases hb:(bif decide (x.blocks<=((img.length/64:Nat):Int))then sH K else none)with
  |some v=>rw[hb]at hp;obtain⟨_,_,_,_,_,_,_,_,e,_⟩:=hp;cases e
  |none=>
   rw[hb]at hp;obtain⟨_,e,hf⟩:=hp;cases e;rw[cond_true];have Dx:=Q2.fx hf fun y hy=>by cases hy
   obtain⟨S4,e4,Kr,yK⟩:=Dx.TV (β:=List DV) (dA qi 0 none 0 none 0 none) (.ptr none) (.int .i64 31) rfl;have Rf:R=some none:=by
    rw[<-hR];cases hd:decide (x.blocks<=((img.length/64:Nat):Int))with
    |true=>rw[hd]at hb;rw[cond_true]at hb⊢;rw[hb]
    |false=>rfl
   rw[Rf];refine Ok.ny (P:=fun o=>o=(.val [],S4)) (by rw[e4];exact .mk rfl) ?_ ?_
   ·intro S5 e;cases e
   ·intro ds S5 e
    cases e;rw[cond_false,Kr.tV];exact .mk ⟨S4,rfl,wV S4 ((hf.mono fun y hy=>by cases hy).trans yK)⟩
 ·intro ds S3 hp
  cases hb:(bif decide (x.blocks<=((img.length/64:Nat):Int))then sH K else none)with
  |none=>rw[hb]at hp;obtain⟨_,e,_⟩:=hp;cases e
  |some v=>
   rw[hb]at hp;obtain⟨_,_,z2,p2,z3,p3,z4,p4,e,hf,Dx,gZ,jR,Ey,bB,cg⟩:=hp;cases e;rw[cond_false,Dx.tV];have Rf:R=some (some v):=by
    rw[<-hR];cases hd:decide (x.blocks<=((img.length/64:Nat):Int))with
    |true=>rw[hd]at hb;rw[cond_true]at hb⊢;rw[hb]
    |false=>rw[hd]at hb;cases hb
   rw[Rf,<-km,ks];exact .mk ⟨S3,z2,p2,z3,p3,z4,p4,K.i,K.j,rfl,wV S3 hf,gZ,jR,Ey,bB,cg,by omega,by omega⟩
end Go.Gv.F
namespace Go.Gv.F
open Go.Gv
def oW (img:List UInt8) (x:eU):bA:=⟨0,0,0,x.blocks.toNat,none,img,x,none⟩
section
variable (w i j m:Nat) (a:Option (Nat×Nat)) (img:List UInt8) (x:eU) (pc:Option (Nat×Nat))
theorem Zus: ∀(l:List bL) (k:Int) (v:aW),lu ⟨w,i,j,m,a,img,x,pc⟩ k l v=lu ⟨0,0,0,m,none,img,x,none⟩ k l v
 |[],_,_=>rfl
 |y::r,k,v=>by
  unfold lu;rw[show oy ⟨w,i,j,m,a,img,x,pc⟩ k y v=oy ⟨0,0,0,m,none,img,x,none⟩ k y v from rfl];cases oy ⟨0,0,0,m,none,img,x,none⟩ k y v with
  |none=>rfl
  |some v'=>exact Zus r (k+1) v'
theorem ZAx (k slot:Int) (v:aW):kQ ⟨w,i,j,m,a,img,x,pc⟩ k slot v=kQ ⟨0,0,0,m,none,img,x,none⟩ k slot v:=by
 unfold kQ;rw[show dh ⟨w,i,j,m,a,img,x,pc⟩ k v=dh ⟨0,0,0,m,none,img,x,none⟩ k v from rfl];cases dh ⟨0,0,0,m,none,img,x,none⟩ k v with
 |none=>rfl
 |some q=>
  obtain⟨b,v1⟩:=q;cases b<;>first|rfl|exact Zus w i j m a img x pc _ _ _
theorem Pu (cnt x5:Int): ∀(l:List Int) (k:Int) (v:aW),jt ⟨w,i,j,m,a,img,x,pc⟩ cnt x5 k l v=jt ⟨0,0,0,m,none,img,x,none⟩ cnt x5 k l v
 |[],_,_=>rfl
 |y::r,k,v=>by
  unfold jt;rw[ZAx,Pu cnt x5 r (k+1) v];cases kQ ⟨0,0,0,m,none,img,x,none⟩ y ((x5*16+k)*7) v with
  |none=>rfl
  |some v'=>simp only[Pu cnt x5 r (k+1) v']
theorem PA (cnt:Int): ∀(l:List Int) (k:Int) (v:aW),mb ⟨w,i,j,m,a,img,x,pc⟩ cnt k l v=mb ⟨0,0,0,m,none,img,x,none⟩ cnt k l v
 |[],_,_=>rfl
 |y::r,k,v=>by
  unfold mb;rw[show dh ⟨w,i,j,m,a,img,x,pc⟩ y v=dh ⟨0,0,0,m,none,img,x,none⟩ y v from rfl,PA cnt r (k+1) v];cases dh ⟨0,0,0,m,none,img,x,none⟩ y v with
  |none=>rfl
  |some q=>
   obtain⟨b,v1⟩:=q;cases b<;>try rfl
   rename_i z;simp only[Pu];cases jt ⟨0,0,0,m,none,img,x,none⟩ cnt k 0 z v1 with
   |none=>rfl
   |some v2=>simp only[PA cnt r (k+1) v2]
theorem ZzO (v:aW):nu ⟨w,i,j,m,a,img,x,pc⟩ v=nu ⟨0,0,0,m,none,img,x,none⟩ v:=by
 unfold nu;rw[show dh ⟨w,i,j,m,a,img,x,pc⟩ x.cE v=dh ⟨0,0,0,m,none,img,x,none⟩ x.cE v from rfl];cases dh ⟨0,0,0,m,none,img,x,none⟩ x.cE v with
 |none=>rfl
 |some q=>
  obtain⟨b,v1⟩:=q;cases b<;>try rfl
  simp only[PA]
theorem Zvr: ∀(f:Nat) (fl:List Bool) (k:Int) (v:aW),np ⟨w,i,j,m,a,img,x,pc⟩ f fl k v=np ⟨0,0,0,m,none,img,x,none⟩ f fl k v
 |0,_,_,_=>rfl
 |f+1,fl,k,v=>by
  unfold np;cases v.aw[(k-1).toNat]? with
  |none=>rfl
  |some y=>simp only[Zvr f]
theorem Zu5: ∀(l:List bL) (fl:List Bool),rU ⟨w,i,j,m,a,img,x,pc⟩ fl l=rU ⟨0,0,0,m,none,img,x,none⟩ fl l
 |[],_=>by unfold rU;rfl
 |y::r,fl=>by
  unfold rU;rw[Zu5 r];rfl
theorem ZBc (v:aW):qS ⟨w,i,j,m,a,img,x,pc⟩ v=qS ⟨0,0,0,m,none,img,x,none⟩ v:=by
 unfold qS;rw[Zvr];simp only;cases np ⟨0,0,0,m,none,img,x,none⟩ (x.used.toNat+1) (List.replicate x.used.toNat false) x.free v with
 |none=>rfl
 |some q=>unfold yq;simp only[Zu5]
theorem ZtX: ∀(f:Nat) (out:List bm) (todo:List mB) (v:aW),lr ⟨w,i,j,m,a,img,x,pc⟩ f out todo v=lr ⟨0,0,0,m,none,img,x,none⟩ f out todo v
 |0,_,_,_=>rfl
 |f+1,out,[],v=>rfl
 |f+1,out,t::r,v=>by
  unfold lr;rw[show dh ⟨w,i,j,m,a,img,x,pc⟩ t.block v=dh ⟨0,0,0,m,none,img,x,none⟩ t.block v from rfl];cases dh ⟨0,0,0,m,none,img,x,none⟩ t.block v with
  |none=>rfl
  |some q=>
   obtain⟨b,v1⟩:=q;cases b<;>try rfl
   rename_i z;simp only[ZtX f];rfl
theorem Of: ∀(l:List Int) (k:Int) (acc:List bm) (v:aW),ly ⟨w,i,j,m,a,img,x,pc⟩ k l acc v=ly ⟨0,0,0,m,none,img,x,none⟩ k l acc v
 |[],_,_,_=>rfl
 |y::r,k,acc,v=>by
  unfold ly;rw[show sF ⟨w,i,j,m,a,img,x,pc⟩ y k v=sF ⟨0,0,0,m,none,img,x,none⟩ y k v from ZtX w i j m a img x pc _ _ _ _,Of r (k+1) acc v];cases sF ⟨0,0,0,m,none,img,x,none⟩ y k v with
  |none=>rfl
  |some q=>
   obtain⟨es,v1⟩:=q;simp only[Of r (k+1)]
theorem ZwL: ∀(l:List Int) (k:Nat) (v:aW),qL ⟨w,i,j,m,a,img,x,pc⟩ k l v=qL ⟨0,0,0,m,none,img,x,none⟩ k l v
 |[],_,_=>rfl
 |y::r,k,v=>by
  unfold qL;rw[show dh ⟨w,i,j,m,a,img,x,pc⟩ y v=dh ⟨0,0,0,m,none,img,x,none⟩ y v from rfl];cases dh ⟨0,0,0,m,none,img,x,none⟩ y v with
  |none=>rfl
  |some q=>
   obtain⟨b,v1⟩:=q;cases b<;>try rfl
   rename_i z;simp only[Of];cases ly ⟨0,0,0,m,none,img,x,none⟩ 0 z.cY [] v1 with
   |none=>rfl
   |some q=>
    obtain⟨es,v2⟩:=q;simp only[ZwL r (k+1)]
theorem Zyv (v:aW):ox ⟨w,i,j,m,a,img,x,pc⟩ v=ox ⟨0,0,0,m,none,img,x,none⟩ v:=by
 unfold ox;rw[show dh ⟨w,i,j,m,a,img,x,pc⟩ x.dir v=dh ⟨0,0,0,m,none,img,x,none⟩ x.dir v from rfl];cases dh ⟨0,0,0,m,none,img,x,none⟩ x.dir v with
 |none=>rfl
 |some q=>
  obtain⟨b,v1⟩:=q;cases b<;>try rfl
  simp only[ZwL]
theorem ZA5:sH ⟨w,i,j,m,a,img,x,pc⟩=sH ⟨0,0,0,m,none,img,x,none⟩:=by
 unfold sH;simp only[ZzO w i j m a img x pc,ZBc w i j m a img x pc,Zyv w i j m a img x pc]
end
theorem Zxx (K:bA) (h:K.m=K.sup.blocks.toNat):lP K=lP (oW K.img K.sup):=by
 obtain⟨w,i,j,m,a,img,sup,pc⟩:=K;simp only at h;subst h;unfold lP;rw[ZA5];rfl
theorem Ng {Bd:Za} (h:Al Bd) (n:Nat) (a:Option (Nat×Nat)) (img:List UInt8) (x:eU) (pc:Option (Nat×Nat)) (s:St) (ha:dp s a img) (hc:Sl s pc (ints x.az)) (hl:img.length<1000000) (dq:x.az.length<1000) (hn:5000<=n):
  Ok (Ug s x.blocks.toNat x (lP (oW img x))) (run Bd n 171 [.slice 1 a img.length,.agg (dI x pc)] s):=by
 obtain⟨K,h1,h2,h3,h4⟩:=Ztv h n a img x pc s ha hc hl dq hn;rw[Zxx K (by rw[h1,h3]),h2,h3]at h4;exact h4
end Go.Gv.F
