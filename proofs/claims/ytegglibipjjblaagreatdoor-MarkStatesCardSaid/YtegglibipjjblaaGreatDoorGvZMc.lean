/- The walker's trees: what they are, no program in sight. -/
import Derived.Test.YtegglibipjjblaaGreatDoorGvZMb
namespace Go.Gv.F
open Go.Gv
structure l9 where
 block:Int
 ng:Int
 par:bc
 top:Bool
def lg (x:jy) (n:Nat):List l9:=((List.range n).map fun i=>(⟨x.kids.getD i 0,i,x.bD,false⟩:l9)).reverse
theorem HM (x:jy) (n:Nat):lg x (n+1)=⟨x.kids.getD n 0,n,x.bD,false⟩::lg x n:=by
 unfold lg;rw[tF,dD,List.reverse_append];rfl
def Aa (v:aU) (e:bc) (k:Int):Bool:=match v.ax[e.slot.toNat]? with
 |none=>false
 |some x=>(x.live==true)&&((x.gen==e.gen)&&((x.block==k)&&true))
def vy (K:bz) (v:aU) (t:l9) (x:jy):Bool:=
 (bif ((x.kids.length:Nat):Int)==t.ng then(bif t.top then true else hY t.par x.bD)else false)&&
 (bif decide (x.bD.slot<K.sup.used)then Aa v x.bD t.block else false)
def kN (K:bz):Nat->List bc->List l9->aU->Option (List bc×aU)
 |0,_,_,_=>none
 |_+1,out,[],v=>some (out,v)
 |f+1,out,t::r,v=>match c8 K t.block v with
  |some (.node x,v')=>bif vy K v' t x then kN K f (out++[x.bD]) (lg x x.kids.length++r) { v' with nodes:=v'.nodes+1 } else none
  |_=>none
def CI:bc:=⟨0,0,0,0⟩
def rU (K:bz) (k ng:Int) (v:aU):Option (List bc×aU):=kN K (K.m+1) [] [⟨k,ng,CI,true⟩] v
def room (m:Nat) (W:List Nat):Nat:=(List.range m).countP fun b=> !dI W b
theorem Zq0 {P Q:Nat->Bool} : ∀ {l:List Nat} {k:Nat},(∀b,Q b=true->P b=true)->k∈l->P k=true->Q k=false->l.countP Q+1<=l.countP P
 |[],_,_,h,_,_=>by cases h
 |a::l,k,hm,h,hp,hq=>by
  rw[List.countP_cons,List.countP_cons];rcases cd.1 h with rfl|h
  ·rw[hp,hq]
   have:=List.countP_mono_left (l:=l) (p:=Q) (q:=P) fun b _ hb=>hm b hb
   simp;omega
  ·have:=Zq0 hm h hp hq
   cases hQ:Q a with
   |true=>rw[hm a hQ];omega
   |false=>cases P a<;>simp<;>omega
theorem Zwd (m:Nat) (W:List Nat):room m W<=m:=by
 unfold room;exact eZ (List.countP_le_length) (by simp)
theorem Oc {m:Nat} {W:List Nat} {k:Int} (hl:W.length=(m+63)/64) (h:pj m W k=true):room m (c9 m W k)+1<=room m W:=by
 unfold pj at h;rw[aH,aH]at h;obtain⟨_,hm,hi⟩:=h;have mq:=hm;unfold gV at mq;rw[aH,bx,bx]at mq;refine Zq0 (k:=k.toNat) (fun b hb=>?_) (jd.2 (by omega)) hi ?_
 ·rw[vD hl]at hb
  rw[gZ]at hb⊢;rw[kJ]at hb;exact hb.1
 ·rw[vD hl,hm]
  simp
theorem zY {K:bz} {k:Int} {v v':aU} {b:xg} (h:c8 K k v=some (b,v')):pj K.m v.W k=true/\v'.W=c9 K.m v.W k:=by
 unfold c8 at h;cases hf:pj K.m v.W k with
 |false=>rw[hf]at h;cases h
 |true=>rw[hf]at h;cases h;exact⟨rfl,rfl⟩
def zj (v:aU) (e:bc):Prop:=0<=e.slot/\∃(x:bF) (k:Nat),v.ax[e.slot.toNat]? =some x/\x.block=(k:Int)/\dI v.W k=true
def Diff (l:List bc):Prop:=l.Pairwise fun a b=>a.slot≠b.slot
theorem Zvb {l:List UInt8} {x:jy} (h:ZG l= .node x):me x=true/\x.kids.length<=12:=by
 unfold ZG at h;split at h
 ·rename_i e;cases h;exact NG e
 ·split at h
  ·cases h
  ·split at h
   ·cases h
   ·split at h
    ·cases h
    ·split at h<;>cases h
theorem Znp {x:jy} (h:me x=true):0<=x.bD.slot/\x.bD.slot<1792:=by
 unfold me at h;rw[aH,gZ,kJ,kJ,j6,j6]at h;omega
theorem Na {K:bz} : ∀ {f:Nat} {acc out DX:List bc} {todo:List l9} {v v':aU},v.W.length=(K.m+63)/64->kN K f out todo v=some (DX,v')->(∀e∈acc++out,zj v e)->Diff (acc++out)->(∀e∈acc++DX,zj v' e)/\Diff (acc++DX)/\v'.W.length=(K.m+63)/64/\(∀k,dI v.W k=true->dI v'.W k=true)/\v'.ax=v.ax/\v'.av=v.av/\v'.gens=v.gens/\v'.free=v.free
 |0,_,_,_,_,_,_,_,h,_,_=>by cases h
 |f+1,acc,out,DX,[],v,v',hl,h,h1,h2=>by cases h;exact⟨h1,h2,hl,fun _ h=>h,rfl,rfl,rfl,rfl⟩
 |f+1,acc,out,DX,t::r,v,v',hl,h,h1,h2=>by
  unfold kN at h;cases ht:c8 K t.block v with
  |none=>rw[ht]at h;cases h
  |some q=>
   obtain⟨b,v1⟩:=q;rw[ht]at h;obtain⟨g1,g2,g3,g4,g5,g6⟩:=ZW ht;obtain⟨g7,g8⟩:=zY ht;cases b with
   |leaf x=>cases h
   |cA x=>cases h
   |queue x=>cases h
   |dir x=>cases h
   |none=>cases h
   |node x=>
    simp only at h;cases hf:vy K v1 t x with
    |false=>rw[hf]at h;cases h
    |true=>
     rw[hf,cond_true]at h;have fM: ∀k,dI v.W k=true->dI v1.W k=true:=fun k hk=>by rw[g8,vD hl,hk];rfl
     have ow:v1.W.length=(K.m+63)/64:=by rw[g8,sv];exact hl
     have eK:=g7;unfold pj at eK;rw[aH,aH,bx]at eK;obtain⟨ik,De,hki⟩:=eK;have T3:=(Znp (Zvb g6.symm).1).1;unfold vy at hf;rw[aH]at hf;have wF:Aa v1 x.bD t.block=true:=by
      have h3:=hf.2;cases hd:decide (x.bD.slot<K.sup.used)with
      |false=>rw[hd]at h3;cases h3
      |true=>rw[hd]at h3;exact h3
     unfold Aa at wF;cases yu:v1.ax[x.bD.slot.toNat]? with
     |none=>rw[yu]at wF;cases wF
     |some y=>
      rw[yu]at wF;simp only[aH,and_true]at wF;obtain⟨hy1,hy2,hy3⟩:=wF;have hyb:y.block=(t.block.toNat:Int):=by rw[eq_of_beq hy3];omega
      have hold: ∀e∈acc++out,zj v1 e:=fun e he=>by
       obtain⟨a1,z,k,a2,a3,a4⟩:=h1 e he;exact⟨a1,z,k,by rw[g1];exact a2,a3,fM k a4⟩
      have fC:zj v1 x.bD:=⟨T3,y,t.block.toNat,yu,hyb,by
       rw[g8,vD hl,De];simp⟩
      have VF: ∀e∈acc++out,e.slot≠x.bD.slot:=fun e he heq=>by
       obtain⟨a1,z,k,a2,a3,a4⟩:=h1 e he;rw[heq,<-g1,yu]at a2;cases a2;rw[a3]at hyb;have:k=t.block.toNat:=by omega
       rw[this]at a4;rw[a4]at hki;cases hki
      have key:=Na (acc:=acc) (v:= { v1 with nodes:=v1.nodes+1 }) ow h (fun e he=>by
       rw[<-dB]at he;rcases de.1 he with he|he
       ·exact hold e he
       ·rw[bP.1 he];exact fC) (by
       unfold Diff;rw[<-dB,List.pairwise_append];refine⟨h2,List.pairwise_singleton _ _,fun a ha b hb=>?_⟩;rw[bP.1 hb];exact VF a ha)
      obtain⟨k1,k2,k3,k4,k5,k6,k7,k8⟩:=key;exact⟨k1,k2,k3,fun k hk=>k4 k (fM k hk),k5.trans g1,k6.trans g2,k7.trans g3,k8.trans g4⟩
end Go.Gv.F
namespace Go.Gv.F
open Go.Gv
variable {β:Type}
variable {K:bz} {s:St} {v:aU} {L:List Nat} {z1 z2 z3 z4:Nat} {p1 p2 p3 p4:Option (Nat×Nat)} {hd:List DV}
def je (s:St) (a:Option (Nat×Nat)) (cs:List DV):Prop:=(a=none/\cs=[])\/∃b rest,a=some (b,0)/\s[b]? =some (some ⟨false,cs++rest⟩)
theorem je.fx {T:List Nat} {s s':St} {a:Option (Nat×Nat)} {cs:List DV} (h:je s a cs) (k:Fx T s s') (n: ∀b∈aC a,b∉T):je s' a cs:=by
 rcases h with h1|⟨i,r,rfl,h3⟩
 ·exact .inl h1
 ·exact .inr ⟨i,r,rfl,k.2 i _ (n i (by simp[aC])) h3⟩
theorem je.lt {s:St} {a:Option (Nat×Nat)} {cs:List DV} (h:je s a cs): ∀b∈aC a,b<s.length:=by
 rcases h with⟨rfl,_⟩|⟨i,r,rfl,h3⟩
 ·intro b hb;cases hb
 ·intro b hb;rw[bP.1 hb];exact(cw.1 h3).1
theorem Zx3 {s:St} {a:Option (Nat×Nat)} {cs:List DV} (h:je s a cs) {sz n lim:Nat} (ds:List DV) (hz:0<sz) (hn:cs.length=n*sz) (hd:ds.length=sz) (hl:n+1<=lim):
  ∃b s',s.length<=b/\s'[b]? =some (some ⟨false,cs++ds⟩)/\Fx (aC a) s s'/\Kp s s'/\∀K:Option (Nat×Nat)->M β,(M.new ds fun i=>M.load i 0 sz fun cs'=>M.app sz a n cs' 1 lim K) s=K (some (b,0)) s':=by
 rcases h with⟨rfl,rfl⟩|⟨i,rest,rfl,hs⟩
 ·obtain⟨b,s',h1,h2,h3,h4,h5⟩:=bh.UC (β:=β) (s0:=[]) (s:=s) (a:=none) (cs:=[]) (bh.nil ⟨s,rfl⟩) ds hz hn hd hl
  rcases h2.2 with⟨e,_⟩|⟨i,e,_,h6⟩
  ·cases e
  ·cases e
   exact⟨b,s',h1,h6,⟨by have:=(cw.1 h6).1;omega,fun i x _ e=>h4 i x e (fun o e=>by cases e)⟩,h3,h5⟩
 ·have AR:i<s.length:=(cw.1 hs).1
  have jG:(s++[some (⟨false,ds⟩:bn)])[i]? =some (some (⟨false,cs++rest⟩:bn)):=by rw[iN AR];exact hs
  have dr:(s++[some (⟨false,ds⟩:bn)]).gy i=some (cs++rest):=by unfold St.gy;rw[jG]
  have hb:Nat.beq 1 0=false:=rfl;refine⟨s.length+1,(s++[some (⟨false,ds⟩:bn)]).set i none++[some (⟨false,cs++ds⟩:bn)],by omega,?_,⟨by simp;omega,fun y x hy e=>?_⟩,(aw.new _ _).kp.trans ((Kp.set jG none).trans (aw.new _ _).kp),fun K=>?_⟩
  ·rw[gN (by simp)];simp
  ·have hyl:=(cw.1 e).1
   have bp:i≠y:=fun e=>hy (by simp[aC,e])
   rw[iN (by simp;omega),ec bp,iN hyl];exact e
  ·rw[Zy,kQ (f:=false) (all:=ds) (by simp) (by omega),dw,cF (by omega)]
   unfold M.app;simp only[hb,gD hl,cond_true,cond_false,dr];rw[dy,gD (by rw[aZ];omega),cond_true,dw,<-hn,vg];simp
theorem cW.XK (h:cW K s v L z1 p1 z2 p2 z3 p3 z4 p4 hd) (x:Int):
  ∃s',(∀Kc:M β,M.store K.w 18 [.int .i64 x] Kc s=Kc s')/\cW K s' { v with nodes:=x } L z1 p1 z2 p2 z3 p3 z4 p4 hd/\Fx [K.w] s s'/\Kp s s':=by
 have bp:=h.ne;have bL:=Fx.set s K.w (some (⟨false,nN K { v with nodes:=x } (cz z1 p1 v.ax.length) (cz z2 p2 v.av.length) (cz z3 p3 v.gens.length) (cz z4 p4 v.free.length)⟩:bn));have mo:=bL.mono (T':=L) fun y hy=>by rw[bP.1 hy];exact h.yF
 refine⟨_,fun Kc=>?_,⟨?_,h.e1,h.e2,h.e3,h.e4,h.o1.fx bL fun b hb=>?_,h.o2.fx bL fun b hb=>?_,h.o3.fx bL fun b hb=>?_,h.o4.fx bL fun b hb=>?_,h.av.fx mo (Nw.refl L s),h.set.fx bL (by simpa using bp.1.symm) (by simpa using bp.2.1.symm),Sl.fx h.img mo h.off,h.off,h.own,h.nodup⟩,bL,Kp.set h.cell _⟩
 ·rw[qY h.cell (by show 18<19;omega)]
  rfl
 ·exact fV (cw.1 h.cell).1
 all_goals simpa using (bp.2.2.2 b (by simp[hb])).1
def Ab (t:l9):List DV:=[.int .i64 t.block,.int .i64 t.ng,.int .i64 t.par.slot,.int .i64 t.par.gen,.int .i64 t.par.key,.int .i64 t.par.value,.bool t.top]
def kF (l:List l9):List DV:=(l.map Ab).flatten
theorem H3 (l:List l9):(kF l).length=l.length*7:=by
 unfold kF;induction l with
 |nil=>rfl
 |cons e l ih=>rw[gK,mQ,aZ,ih,ee];show 7+_=_;omega
theorem Zru (l m:List l9):kF (l++m)=kF l++kF m:=by unfold kF;rw[dD,vb]
theorem NL (x:jy) (n:Nat):(lg x n).length=n:=by unfold lg;simp
theorem Zz6 {Kn:List DV->M (List DV)} {Q:Out (List DV)×St->Prop} (n:Nat) (X9:s.length=s.length) (x:jy) (px:Option (Nat×Nat)) (r:List l9) (t0:St) (uT:Option (Nat×Nat)) (hx:Fz t0 px (ints x.kids)) (Ub:x.kids.length<=12) (ho:je t0 uT (kF r.reverse)) (hr:r.length<100000) (eW: ∀b∈aC uT,s.length<=b) (cL:s.length<=t0.length) (hn:20<=n)
  (hK: ∀t pT z,(z=7\/pT=none)->je t pT (kF (lg x x.kids.length++r).reverse)->(∀b∈aC pT,s.length<=b/\(b∈aC uT\/t0.length<=b))->Fx (aC uT) t0 t->Ok Q (Kn [.slice z pT (r.length+x.kids.length)] t)) (z0:Nat) (tj:z0=7\/uT=none):
  Ok Q (M.loop (fun dW st=>
      J.l 7 st fun Ee yP st=>
      J.i .i64 st fun fp st=>
      D.nil st<|
      bif decide (fp<(x.kids.length:Int))then
       M.nn px fun i6 o4=>
      M.ak (au fp x.kids.length)<|
      M.ar i6 (fp.toNat*1+o4) fun d3=>
      D.int .i64 d3 fun gk=>
      M.new [.int .i64 gk,.int .i64 fp,.int .i64 x.bD.slot,.int .i64 x.bD.gen,.int .i64 x.bD.key,.int .i64 x.bD.value,.bool false] fun i7=>
      M.load i7 0 7 fun fJ=>
      M.app 7 Ee yP fJ 1 1256584717458 fun p1=>
      dW [.slice 7 p1 (yP+1),.int .i64 (af (fp+1))]
      else
       Kn [.slice 7 Ee yP]) n [.slice z0 uT r.length,.int .i64 0] t0):=by
 refine Zl _ (fun q y t=>∃(i z:Nat) (pT:Option (Nat×Nat)),y=[.slice z pT (r.length+i),.int .i64 i]/\(z=7\/pT=none)/\i<=x.kids.length/\x.kids.length-i<=q/\je t pT (kF (lg x i++r).reverse)/\(∀b∈aC pT,s.length<=b/\(b∈aC uT\/t0.length<=b))/\Fx (aC uT) t0 t/\Fz t px (ints x.kids)) ?_ x.kids.length n _ _ ⟨0,z0,uT,rfl,tj,bH _,by omega,ho,fun b hb=>⟨eW b hb,.inl hb⟩,.refl _ _,hx⟩ (by omega);rintro q _ t ⟨i,z,pT,rfl,hz,hi,hq,hoT,CU,bL,yx⟩ rec aD;simp only[al,Zm 7 z pT _ hz,ae];by_cases aj:i<x.kids.length
 ·obtain⟨i1,o1,rfl⟩:=yx.1.cm (by simp[ints];omega)
  rw[ah (show(i:Int)<(x.kids.length:Int) by omega),cond_true,aW,Ze (Zk aj),aY,yx.1.dj (Zw aj)];simp only[aS];have hl7:(kF (lg x i++r).reverse).length=(r.length+i)*7:=by rw[H3,List.length_reverse,aZ,NL];omega
  obtain⟨b,t1,g1,g2,g3,g4,g5⟩:=Zx3 (β:=List DV) hoT (sz:=7) (n:=r.length+i) (lim:=1256584717458) (Ab ⟨x.kids[i],i,x.bD,false⟩) (by omega) hl7 rfl (by omega);refine Eq.mpr (congrArg (Ok _) (g5 _)) ?_;have oB:af ((i:Int)+1)=((i+1:Nat):Int):=Zd (by omega) (by omega);rw[oB];refine aD (x.kids.length-(i+1)) _ _ (by omega) ⟨i+1,7,some (b,0),rfl,.inl rfl,by omega,aA _,.inr ⟨b,[],rfl,?_⟩,?_,?_,yx.kp g4⟩
  ·rw[g2,dZ,HM,j3,List.reverse_cons,Zru]
   have:x.kids.getD i 0=x.kids[i]:=by rw[bM,ba aj];rfl
   rw[this];simp[kF]
  ·intro y hy
   rw[bP.1 hy];have:=bL.1;exact⟨by omega,.inr (by omega)⟩
  ·exact bL.step g3 fun y hy=>(CU y hy).2
 ·rw[ao (show ¬(i:Int)<(x.kids.length:Int) by omega),cond_false]
  have:i=x.kids.length:=by omega
  subst this;exact hK t pT 7 (.inl rfl) hoT CU bL
end Go.Gv.F
namespace Go.Gv.F
open Go.Gv
variable {β:Type}
variable {K:bz} {s:St} {v:aU} {L:List Nat} {z1 z2 z3 z4:Nat} {p1 p2 p3 p4:Option (Nat×Nat)} {hd:List DV}
theorem ZxM {Bd:Za} (h:xq Bd) (n:Nat) (hn:8<=n) (a b:bc) (st:St):
  Ok (fun o=>∃z s',o=(.val [.int .i64 z],s')/\aw st s'/\decide (z<0)=hY a b) (run Bd n 159 [.agg (fA a),.agg (fA b)] st):=by
 refine(SU h n hn a b st).mono ?_;rintro _ ⟨z,s',rfl,hp,e⟩;refine⟨z,s',rfl,hp,?_⟩;cases ha:hY a b with
 |true=>
  rw[ha]at e;have:=vj e;exact ah (by omega)
 |false=>
  rw[ha]at e;have:=mU e;exact ao (by omega)
theorem Ok.join {Q:Out β×St->Prop} {f:List DV->M β} {g:(List DV->M β)->M β} {s:St} (h: ∀jk,jk=f->Ok Q (g jk s)):Ok Q (M.join f g s):=by rw[Zb];exact h f rfl
theorem Zyw (pn:M β) (x:jy) (px:Option (Nat×Nat)) (Kc:Int->Int->Int->Int->Option (Nat×Nat)->Nat->M β):D.qa pn (.iface 6 (.agg (uS x 1 px))) 6 (fun d=>D.agg d fun bw=>J.i .i64 bw fun x8 r=>J.i .i64 r fun x9 r=>J.i .i64 r fun da r=>J.i .i64 r fun eR r=>J.l 1 r fun ft nO r=>D.nil r<|Kc x8 x9 da eR ft nO)=Kc x.bD.slot x.bD.gen x.bD.key x.bD.value px x.kids.length:=rfl
def EH (K:bz) (s:St) (v:aU) (L:List Nat) (z1:Nat) (p1:Option (Nat×Nat)) (z2:Nat) (p2:Option (Nat×Nat)) (z3:Nat) (p3:Option (Nat×Nat)) (z4:Nat) (p4:Option (Nat×Nat)) (hd:List DV) (R:Option (List bc×aU)) (o:Out (List DV)×St):Prop:=match R with
 |none=>∃s',o=(.cy,s')/\Fx L s s'
 |some (out,v')=>∃p z s',o=(.val [.slice z p out.length],s')/\(z=4\/p=none)/\cW K s' v' L z1 p1 z2 p2 z3 p3 z4 p4 hd/\Fx L s s'/\je s' p (bK out)/\(∀b∈aC p,s.length<=b)/\v'.nodes+(room K.m v'.W:Nat)<=v.nodes+(room K.m v.W:Nat)/\v.nodes<=v'.nodes/\out.length<=4000
theorem cW.J3 {s0 s':St} {T:List Nat} (h:cW K s v L z1 p1 z2 p2 z3 p3 z4 p4 hd) (h0:nX s0 L hd v.av) (hl: ∀x∈L,x<s0.length) (ha: ∀b o,K.a=some (b,o)->b<s0.length) (k0:Fx L s0 s) (k:Fx T s s') (hT: ∀x∈T,s0.length<=x):cW K s' v L z1 p1 z2 p2 z3 p3 z4 p4 hd/\Fx L s0 s':=by
 have hf:Fx L s0 s':=k0.step k fun x hx=> .inr (hT x hx)
 exact⟨h.gx k (fun x hx hm=>by have:=hl x hm;have:=hT x hx;omega) (fun b o e hm=>by have:=ha b o e;have:=hT b hm;omega) (h0.fx hf (Nw.refl L s0)),hf⟩
theorem Zz8 {Bd:Za} (h:ES Bd) (n:Nat) (hK:xl K) (k ng:Int) (hW:cW K s v L z1 p1 z2 p2 z3 p3 z4 p4 hd) (h0:0<=K.sup.used) (h1:K.sup.used<=1792) (hs:(v.ax.length:Int)=K.sup.used) (cT:0<=v.nodes) (hnr:v.nodes+(room K.m v.W:Nat)<=5000) (hm:K.m<=3072) (hn:4010<=n):
  Ok (EH K s v L z1 p1 z2 p2 z3 p3 z4 p4 hd (rU K k ng v)) (run Bd n 233 [.ptr (some (K.w,0)),.int .i64 k,.int .i64 ng] s):=by
 obtain⟨n,rfl⟩: ∃k,n=k+2:=⟨n-2,by omega⟩;rw[Zf,h.eq];unfold E8 rU;simp only[fa,al,ae];rw[Zy];have wx:=hW.lt;have AI: ∀b o,K.a=some (b,o)->b<s.length:=fun b o e=>Sl.lt (e▸hW.img)
 have uF:=aw.new s (some (⟨false,[DV.int .i64 k,.int .i64 ng,.int .i64 0,.int .i64 0,.int .i64 0,.int .i64 0,.bool true]⟩:bn));have um:(s++[some (⟨false,[DV.int .i64 k,.int .i64 ng,.int .i64 0,.int .i64 0,.int .i64 0,.int .i64 0,.bool true]⟩:bn)])[s.length]? =some (some ⟨false,kF [⟨k,ng,CI,true⟩]⟩):=by simp;rfl
 have AF:=hW.pre uF;generalize s++[some (⟨false,[DV.int .i64 k,.int .i64 ng,.int .i64 0,.int .i64 0,.int .i64 0,.int .i64 0,.bool true]⟩:bn)]=s0 at uF um AF;obtain⟨R,hR⟩: ∃R,kN K (K.m+1) [] [⟨k,ng,CI,true⟩] v=R:=⟨_,rfl⟩;rw[hR,Zb];have hrm:=Zwd K.m v.W;refine Zl _ (fun q y t=>∃(f:Nat) (out:List bc) (todo:List l9) (u:aU) (zo:Nat) (po:Option (Nat×Nat)) (zt:Nat) (pt:Option (Nat×Nat)),y=[.slice zo po out.length,.slice zt pt todo.length]/\(zo=4\/po=none)/\(zt=7\/pt=none)/\room K.m u.W<=q/\room K.m u.W<f/\cW K t u L z1 p1 z2 p2 z3 p3 z4 p4 hd/\u.ax=v.ax/\u.av=v.av/\Fx L s t/\je t po (bK out)/\je t pt (kF todo.reverse)/\(∀b∈aC po,s.length<=b)/\(∀b∈aC pt,s.length<=b)/\(∀b∈aC po,b∉aC pt)/\v.nodes<=u.nodes/\u.nodes+(room K.m u.W:Nat)<=v.nodes+(room K.m v.W:Nat)/\out.length+room K.m u.W<=3072/\todo.length+12*room K.m u.W<=40000/\kN K f out todo u=R) ?_ (room K.m v.W) (n+1) _ _ ⟨K.m+1,[],[⟨k,ng,CI,true⟩],v,0,none,7,some (s.length,0),rfl,.inr rfl,.inl rfl,aA _,by omega,AF,rfl,rfl,Fx.pre L uF,.inl ⟨rfl,rfl⟩,.inr ⟨s.length,[],rfl,by rw[dZ];exact um⟩,fun _ h=>(by cases h),fun b hb=>by rw[bP.1 hb];exact aA _,fun _ h=>(by cases h),yZ _,yZ _,by simp;omega,by simp;omega,hR⟩ (by omega);rintro q _ t ⟨f,out,todo,u,zo,po,zt,pt,rfl,Ri,hzt,JM,hrf,cB,im,pH,bL,JG,hot,CX,mn,P0,Dn,Dp,gR,pG,az⟩ rec aD;simp only[Zm 4 zo po _ Ri,Zm 7 zt pt _ hzt,ae];obtain⟨f,rfl⟩: ∃k,f=k+1:=⟨f-1,by omega⟩;cases todo with
 |nil=>
  rw[show decide ((([]:List l9).length:Int)>0)=false from rfl,cond_false];simp only[br,ae];unfold kN at az;rw[Zc,<-az];exact .mk ⟨po,4,t,rfl,.inl rfl,cB,bL,JG,CX,Dp,Dn,by omega⟩
 |cons e r=>
  unfold kN at az;rw[ah (show(((e::r).length:Nat):Int)>0 by simp only[ee];omega),cond_true];rw[Zb];rcases hot with⟨_,hx⟩|⟨bt,rest,rfl,Tb⟩
  ·exfalso
   have:=congrArg List.length hx;rw[H3]at this;simp at this
  have cc:af ((((e::r).length:Nat):Int)-1)=(r.length:Int):=by
   have e3:((((e::r).length:Nat):Int)-1)=(r.length:Int):=by simp
   have h9:r.length<100000:=by simp only[ee]at pG;omega
   rw[e3];exact Zd (by omega) (by omega)
  simp only[cc,aY];rw[aW,Ze (Zk (by simp))];have wb:kF (e::r).reverse=kF r.reverse++Ab e:=by
   rw[List.reverse_cons,Zru];simp[kF]
  have V5: ∀Kc:List DV->M (List DV),M.load bt (r.length*7+0) 7 Kc t=Kc (Ab e) t:=fun Kc=>by
   rw[dC,kQ Tb (by rw[aZ,H3,List.length_reverse,ee];omega)];rw[wb,show r.length*7=(kF r.reverse).length by rw[H3,List.length_reverse],dB,pR];rfl
  rw[V5];unfold Ab;simp only[al,ai,ae];rw[Ze (by rw[aH,bx,bx];simp;omega)];have bp:=cB.ne;refine Ok.rn (cB.take h.uW (n+1) e.block hK.m hK.Al hK.len (by omega)) ?_ ?_
  ·intro s' hp
   cases ht:c8 K e.block u with
   |none=>rw[ht]at hp az;cases hp;rw[<-az];exact⟨t,rfl,bL⟩
   |some q=>rw[ht]at hp;obtain⟨d,s2,e,_⟩:=hp;cases e
  intro ds t1 hp;cases ht:c8 K e.block u with
  |none=>rw[ht]at hp;cases hp
  |some q=>
   obtain⟨b,u1⟩:=q;rw[ht]at hp az;obtain⟨d,s2,e2,fX,jD,hb⟩:=hp;cases e2;obtain⟨g1,g2,g3,g4,g5,g6⟩:=ZW ht;obtain⟨g7,g8⟩:=zY ht;have wE:=Oc cB.set.len g7;rw[<-g8]at wE;have kY:Fx L s t1:=bL.trans (jD.mono fun y hy=>by rw[bP.1 hy];exact cB.rK);simp only[xi,ae];cases b with
   |leaf x=>obtain⟨rfl,_⟩:=hb;rw[<-az];exact .mk ⟨t1,rfl,kY⟩
   |cA x=>obtain⟨rfl,_⟩:=hb;rw[<-az];exact .mk ⟨t1,rfl,kY⟩
   |queue x=>obtain⟨rfl,_⟩:=hb;rw[<-az];exact .mk ⟨t1,rfl,kY⟩
   |dir x=>obtain⟨p,rfl,_⟩:=hb;rw[<-az];exact .mk ⟨t1,rfl,kY⟩
   |none=>cases hb;rw[<-az];exact .mk ⟨t1,rfl,kY⟩
   |node x=>
    obtain⟨px,rfl,DI,hxr,Ub⟩:=hb;simp only at az;rw[Zyw];have T3:=Znp hxr;have qE: ∀t',Fx L s t'->vy K u1 e x=false->Ok (EH K s v L z1 p1 z2 p2 z3 p3 z4 p4 hd R) (some (.cy,t')):=fun t' qz hf=>by
     rw[hf,cond_false]at az;rw[<-az];exact .mk ⟨t',rfl,qz⟩
    obtain⟨c1,fL⟩: ∃c1,(bif ((x.kids.length:Nat):Int)==e.ng then(bif e.top then true else hY e.par x.bD)else false)=c1:=⟨_,rfl⟩;obtain⟨c2,jC⟩: ∃c2,(bif decide (x.bD.slot<K.sup.used)then Aa u1 x.bD e.block else false)=c2:=⟨_,rfl⟩;have Qc:vy K u1 e x=(c1&&c2):=by unfold vy;rw[fL,jC]
    refine Ok.join fun aV Qw=>?_
    have hA: ∀t2,cW K t2 u1 L z1 p1 z2 p2 z3 p3 z4 p4 hd->Fx L s t2->je t2 po (bK out)->je t2 (some (bt,0)) (kF r.reverse)->Fz t2 px (ints x.kids)->Ok (EH K s v L z1 p1 z2 p2 z3 p3 z4 p4 hd R) (aV [.bool c1] t2):=by
     intro t2 jB eB Wn Ws WT;rw[Qw];simp only[ai,ae];cases c1 with
     |false=>
      rw[ZK h.fh n rfl];exact qE t2 eB (by rw[Qc];rfl)
     |true=>
     rw[oU h.fh n rfl];simp only[ae];rw[aW,Zn jB.cell rfl];simp only[aS];refine Ok.join fun bq Qx=>?_
     have hB:Ok (EH K s v L z1 p1 z2 p2 z3 p3 z4 p4 hd R) (bq [.bool c2] t2):=by
      rw[Qx];simp only[ai,ae];cases c2 with
      |false=>
       rw[ZK h.fh n rfl];exact qE t2 eB (by rw[Qc];rfl)
      |true=>
      rw[oU h.fh n rfl];rw[Qc,wZ,cond_true]at az;simp only[ae,aW];rw[Zn jB.cell rfl];simp only[aS];have uK:af (u1.nodes+1)=u1.nodes+1:=Zd (by rw[g5];omega) (by rw[g5];omega);rw[uK,dy];obtain⟨t3,e3,rr,dS,V1⟩:=jB.XK (β:=List DV) (u1.nodes+1);rw[e3];have DG:K.w∈L:=cB.yF;have Tt:Fx L s t3:=eB.trans (dS.mono fun y hy=>by rw[bP.1 hy];exact DG);have wA: ∀b,s.length<=b->b∉L:=fun b hb hm=>by have:=wx b hm;omega
      have eW: ∀b,s.length<=b->b∉[K.w]:=fun b hb hm=>by rw[bP.1 hm]at hb;have:=wx _ DG;omega
      have Wo:=Wn.fx dS fun b hb=>eW b (CX b hb)
      have TS:=Ws.fx dS fun b hb=>eW b (mn b hb)
      have WU:=WT.kp V1;obtain⟨bo,t4,q1,q2,q3,q4,q5⟩:=Zx3 (β:=List DV) Wo (sz:=4) (n:=out.length) (lim:=2199023255552) (fA x.bD) (by omega) (Zx _) rfl (by omega);refine Eq.mpr (congrArg (Ok _) (q5 _)) ?_;have hh0:nX s L hd u1.av:=by rw[g2,pH];exact hW.av
      obtain⟨kT,ou⟩:=rr.J3 hh0 wx AI Tt q3 CX;have Wt:=TS.fx q3 fun b hb hm=>P0 b hm hb
      have WV:=WU.kp q4;have hs4:s.length<=t4.length:=ou.1;rw[Zb];refine Zz6 (s:=s) (n+1) rfl x px r t4 (some (bt,0)) WV Ub Wt (by simp at pG;omega) mn hs4 (by omega) (Kn:=fun ds=>J.l 7 ds fun Ss Sv st=>D.nil st<|J.l 4 [.slice 4 (some (bo,0)) (out.length+1),.slice 7 Ss Sv] fun yI yJ st=>J.l 7 st fun Sq Sr st=>D.nil st<|rec [.slice 4 yI yJ,.slice 7 Sq Sr]) ?_ 7 (.inl rfl);intro t5 pT z hz hT CU wg;simp only[Zm 7 z pT _ hz,br,ae];have S9:bo∉aC (some (bt,0)):=fun hm=>by
       have:=je.lt TS bo hm;omega
      have yr:=Tt.1;obtain⟨AG,VQ⟩:=kT.J3 hh0 wx AI ou wg mn;have Yh:bo<t4.length:=(cw.1 q2).1;refine aD (room K.m u1.W) _ _ (by omega) ⟨f,out++[x.bD],lg x x.kids.length++r, { u1 with nodes:=u1.nodes+1 },4,some (bo,0),7,pT,?_,.inl rfl,.inl rfl,aA _,(show room K.m u1.W<f by omega),AG,by show u1.ax=_;rw[g1,im],by show u1.av=_;rw[g2,pH],VQ,.inr ⟨bo,[],rfl,?_⟩,hT,fun b hb=>?_,fun b hb=>(CU b hb).1,fun b hb hm=>?_,?_,?_,?_,?_,az⟩
      ·simp[NL,qT]
      ·rw[dZ,Ni]
       have:=wg.2 bo _ S9 q2;simpa [bK]using this
      ·rw[bP.1 hb];omega
      ·rw[bP.1 hb]at hm
       rcases(CU bo hm).2 with h5|h5
       ·exact S9 h5
       ·omega
      ·show v.nodes<=u1.nodes+1
       rw[g5];omega
      ·show u1.nodes+1+_<=_
       rw[g5];show u.nodes+1+(room K.m u1.W:Nat)<=_;omega
      ·show(out++[x.bD]).length+room K.m u1.W<=_
       simp;omega
      ·show(lg x x.kids.length++r).length+12*room K.m u1.W<=_
       rw[aZ,NL];simp at pG;omega
     cases aj:decide (x.bD.slot<K.sup.used)with
     |false=>
      rw[aj,cond_false]at jC;rw[cond_false,jC];exact hB
     |true=>
      rw[aj,cond_true]at jC;have ox:=mU aj;rw[cond_true,aW,Zn jB.cell rfl];show Ok _ (D.slice 3 (.slice z1 p1 u1.ax.length) _ t2);rw[Z5 3 z1 p1 _ jB.e1];have wI:u1.ax.length=v.ax.length:=by rw[g1,im]
      obtain⟨ks,Df⟩: ∃ks:Nat,x.bD.slot=ks:=⟨x.bD.slot.toNat,by omega⟩;have iT:ks<u1.ax.length:=by rw[wI];omega
      obtain⟨bs,rfl,wa⟩:=jB.o1.cm (by rw[ZP];omega);have iY:u1.ax[ks]? =some u1.ax[ks]:=ba iT;unfold Aa at jC;rw[Df,aY,iY]at jC;rw[aW,Df,Ze (Zk iT),aY,HN wa iY];unfold fQ;simp only[ai,al,ae];simp only at jC;rw[jC];exact hB
    have hjL:K.j∈L:=cB.rK;have hnj: ∀b,s.length<=b->b∉[K.j]:=fun b hb hm=>by rw[bP.1 hm]at hb;have:=wx _ hjL;omega
    have QL:=JG.fx jD fun b hb=>hnj b (CX b hb)
    have QM:je t1 (some (bt,0)) (kF r.reverse):= .inr ⟨bt,Ab e++rest,rfl,by
     rw[<-dB,<-wb];exact jD.2 bt _ (hnj bt (mn bt (by simp[aC]))) Tb⟩
    cases x0:(((x.kids.length:Nat):Int)==e.ng)with
    |false=>
     rw[x0,cond_false]at fL;rw[cond_false,fL];exact hA t1 fX kY QL QM DI
    |true=>
     rw[x0,cond_true]at fL;rw[cond_true];refine Ok.join fun eM TC=>?_
     cases htp:e.top with
     |true=>
      rw[htp,cond_true]at fL;rw[cond_true,TC];simp only[ai,ae];rw[fL];exact hA t1 fX kY QL QM DI
     |false=>
      rw[htp,cond_false]at fL;rw[cond_false];refine Ok.call (ZxM h.q52 (n+1) (by omega) e.par x.bD t1) ?_;rintro _ ⟨z,t2,rfl,bj,e2⟩;refine⟨_,t2,rfl,?_⟩;rw[TC];simp only[al,ai,ae];rw[e2,fL];exact hA t2 (fX.pre bj) (kY.trans (Fx.pre L bj)) (QL.fx (Fx.pre [] bj) fun _ _ h=>by cases h) (QM.fx (Fx.pre [] bj) fun _ _ h=>by cases h) (DI.pre bj)
end Go.Gv.F
namespace Go.Gv.F
open Go.Gv
variable {β:Type}
def e4 (e:bc):E4:=(e.slot,e.gen,e.key,e.value)
def Bn (x:E4):bc:=⟨x.1,x.2.1,x.2.2.1,x.2.2.2⟩
theorem Go.Gv.SQ: ∀(l:List bc),Go.Gv.uf (bK l)=some (l.map e4)
 |[]=>rfl
 |e::l=>by
  show(match Go.Gv.uf (bK l)with|some l=>some ((e.slot,e.gen,e.key,e.value)::l)|none=>none)=_;rw[Go.Gv.SQ l];rfl
theorem Zng: ∀(l:List E4),jQ l=bK (l.map Bn)
 |[]=>rfl
 |x::l=>by
  show oi x++jQ l=_;rw[Zng l];rfl
def pM (l:List bc):List bc:=(ix (l.map e4)).map Bn
theorem Zrt (l:List bc):(pM l).length=l.length:=by unfold pM;rw[lV,NO,lV]
theorem Zzl {x y:E4} (h:x.1≠y.1):(dT x y||dT y x)=true:=by
 rw[jt,xH,xH];omega
theorem LZ: ∀ {l:List bc},Diff l->xJ (l.map e4)=true
 |[],_=>rfl
 |e::l,.cons h1 h2=>by
  show((l.map e4).all (fun y=>dT (e4 e) y||dT y (e4 e))&&xJ (l.map e4))=true;rw[LZ h2,wZ,gm];intro y hy;obtain⟨z,hz,rfl⟩:=dE.1 hy;exact Zzl (h1 z hz)
theorem ZAb {Bd:Za} (h:Z0 Bd) (n:Nat) (l:List bc) (p:Option (Nat×Nat)) (st:St) (hs:je st p (bK l)) (hd:Diff l) (hl:l.length<=1000000):
  ∃s',run Bd (n+1) 232 [.slice 4 p l.length,.func 159 [] []] st=some (.val [],s')/\je s' p (bK (pM l))/\Fx (aC p) st s':=by
 rw[Zf,h.eq];unfold Cg;rcases hs with⟨rfl,hx⟩|⟨b,rest,rfl,hb⟩
 ·have h0:l.length=0:=by
   have:=congrArg List.length hx;rw[Zx]at this;rw[xa]at this;omega
  have h1:l=[]:=r8.1 h0;subst h1;exact⟨st,rfl,.inl ⟨rfl,rfl⟩,.refl _ _⟩
 ·have dr:st.gy b=some (bK l++rest):=by unfold St.gy;rw[hb]
  simp only[dr];rw[gD (by rw[aZ,Zx];omega),cond_true,dw,<-Zx,vg,Go.Gv.SQ];simp only[LZ hd,gD hl,Bool.and_self,cond_true];have yu:jQ (ix (l.map e4))=bK (pM l):=Zng _;rw[yu];have fY:=rb [] (bK l) rest (bK (pM l)) (by rw[Zx,Zx,Zrt]);rw[fu,fu]at fY;refine⟨_,rfl,.inr ⟨b,rest,rfl,?_⟩,Fx.set st b _⟩;rw[fV (cw.1 hb).1];exact congrArg (fun c=>some (some (⟨false,c⟩:bn))) fY
end Go.Gv.F
namespace Go.Gv.F
open Go.Gv
variable {β:Type}
def dK (x:eX) (p:Option (Nat×Nat)):List DV:=[.int .i64 x.seq,.int .i64 x.blocks,.int .i64 x.bX,.int .i64 x.g,.int .i64 x.cA,.int .i64 x.used,.int .i64 x.free,.int .i64 x.dir,.slice 1 p x.aG.length]
def kC (x:eX) (k:Int):Bool:=bif decide (k>=2)then decide (k<x.blocks)else false
def mY (x:eX):Bool:=(List.range x.aG.length).all fun i=>kC x (x.aG.getD i 0)&& !decide (x.aG.getD i 0∈x.aG.take i)
def jz (x:eX):Bool:=
 !(decide (x.seq<1)||(decide (x.seq>4611686018427387904)||(!lL x.blocks x.bX x.g||(decide (x.used<0)||(decide (x.used>x.bX)||(decide (x.free<0)||decide (x.free>x.used)))))))&&
 (!((bif x.used==0 then !(x.cA==0)else false)||((bif decide (x.used>0)then !kC x x.cA else false)||((bif !(x.dir==0)then !kC x x.dir else false)|| !(((x.aG.length:Nat):Int)==tS x.blocks x.bX x.g))))&&mY x)
theorem Zob {Bd:Za} (h:Ll Bd) (n:Nat) (x:eX) (p:Option (Nat×Nat)) (b:Nat) (k:Int) (st:St) (hb:st[b]? =some (some ⟨false,dK x p⟩)):
  run Bd (n+1) 221 [.int .i64 k,.ptr (some (b,0))] st=some (.val [.bool (kC x k)],st):=by
 rw[Zf,h.eq];unfold FD kC;simp only[al,fa,ae,Zb,aW];cases decide (k>=2)with
 |false=>rfl
 |true=>
  rw[cond_true,cond_true,Zn hb (d:= .int .i64 x.blocks) rfl];simp only[aS,ai,ae,Zc]
theorem Zqc {Bd:Za} (h:LN Bd) (n:Nat) (x:eX) (p:Option (Nat×Nat)) (st:St) (hs:Sl st p (ints x.aG)) (hl:x.aG.length<1000) (hn:x.aG.length+10<=n):
  run Bd n 197 [.agg (dK x p)] st=some (.val [.bool (jz x)],st++[some ⟨false,dK x p⟩]):=by
 obtain⟨n,rfl⟩: ∃k,n=k+3:=⟨n-3,by omega⟩;rw[Zf,h.eq];unfold Gb jz;have hb:(st++[some (⟨false,dK x p⟩:bn)])[st.length]? =some (some ⟨false,dK x p⟩):=by simp
 have gu:=hs.mono (aw.new st (some (⟨false,dK x p⟩:bn)));have Jf:=fun k=>Zob h.q44 (n+1) x p st.length k _ hb
 have ld: ∀(k:Nat) (d:DV),(dK x p)[k]? =some d->∀Kc:DV->M (List DV),M.ar st.length k Kc (st++[some (⟨false,dK x p⟩:bn)])=Kc d (st++[some (⟨false,dK x p⟩:bn)]):=fun k d e Kc=>Zn hb e Kc
 have Rs: ∀Kc:List DV->M (List DV),M.load st.length 1 3 Kc (st++[some (⟨false,dK x p⟩:bn)])=Kc [.int .i64 x.blocks,.int .i64 x.bX,.int .i64 x.g] (st++[some (⟨false,dK x p⟩:bn)]):=fun Kc=>by
  rw[kQ hb (by show 1+3<=9;omega)];rfl
 show J.a [.agg (dK x p)] _ st=_;rw[bU];unfold dK;simp only[al,br,ae];rw[Zy];change _=some (Out.val _,st++[some (⟨false,dK x p⟩:bn)]);have xZ:([.int .i64 x.seq,.int .i64 x.blocks,.int .i64 x.bX,.int .i64 x.g,.int .i64 x.cA,.int .i64 x.used,.int .i64 x.free,.int .i64 x.dir,.slice 1 p x.aG.length]:List DV)=dK x p:=rfl;rw[xZ];generalize (st++[some (⟨false,dK x p⟩:bn)])=s1 at hb gu Jf ld Rs⊢;rw[ld 0 (.int .i64 x.seq) rfl];simp only[aS];refine ok_eq ?_;obtain⟨F1,oq⟩: ∃F1,(decide (x.seq<1)||(decide (x.seq>4611686018427387904)||(!lL x.blocks x.bX x.g||(decide (x.used<0)||(decide (x.used>x.bX)||(decide (x.free<0)||decide (x.free>x.used)))))))=F1:=⟨_,rfl⟩;obtain⟨F2,vW⟩: ∃F2,((bif x.used==0 then !(x.cA==0)else false)||((bif decide (x.used>0)then !kC x x.cA else false)||((bif !(x.dir==0)then !kC x x.dir else false)|| !(((x.aG.length:Nat):Int)==tS x.blocks x.bX x.g))))=F2:=⟨_,rfl⟩;rw[oq,vW];refine Ok.join fun aq h1=>?_
 have A1: ∀b,(decide (x.seq<1)||decide (x.seq>4611686018427387904))=b->Ok (fun p=>p=(Out.val [DV.bool (!F1&&(!F2&&mY x))],s1)) (aq [.bool b] s1):=by
  intro b1 e1;rw[h1];simp only[ai,ae];refine Ok.join fun aB h2=>?_
  have A2: ∀b,(b1|| !lL x.blocks x.bX x.g)=b->Ok (fun p=>p=(Out.val [DV.bool (!F1&&(!F2&&mY x))],s1)) (aB [.bool b] s1):=by
   intro b2 e2;rw[h2];simp only[ai,ae];refine Ok.join fun aV h3=>?_
   have A3: ∀b,(b2||decide (x.used<0))=b->Ok (fun p=>p=(Out.val [DV.bool (!F1&&(!F2&&mY x))],s1)) (aV [.bool b] s1):=by
    intro b3 e3;rw[h3];simp only[ai,ae];refine Ok.join fun bq h4=>?_
    have A4: ∀b,(b3||decide (x.used>x.bX))=b->Ok (fun p=>p=(Out.val [DV.bool (!F1&&(!F2&&mY x))],s1)) (bq [.bool b] s1):=by
     intro b4 e4;rw[h4];simp only[ai,ae];refine Ok.join fun ca h5=>?_
     have A5: ∀b,(b4||decide (x.free<0))=b->Ok (fun p=>p=(Out.val [DV.bool (!F1&&(!F2&&mY x))],s1)) (ca [.bool b] s1):=by
      intro b5 e5;rw[h5];simp only[ai,ae];refine Ok.join fun eM h6=>?_
      have A6: ∀b,(b5||decide (x.free>x.used))=b->Ok (fun p=>p=(Out.val [DV.bool (!F1&&(!F2&&mY x))],s1)) (eM [.bool b] s1):=by
       intro b6 e6;rw[h6];simp only[ai,ae];have hb6:F1=b6:=by rw[<-oq,<-e6,<-e5,<-e4,<-e3,<-e2,<-e1];simp only[Bool.or_assoc]
       cases b6 with
       |true=>rw[cond_true,Zc,hb6];exact .mk rfl
       |false=>
        rw[cond_false,hb6,bu,cI,ld 5 (.int .i64 x.used) rfl];simp only[aS];refine Ok.join fun iJ h7=>?_
        have B7: ∀b,(bif x.used==0 then !(x.cA==0)else false)=b->Ok (fun p=>p=(Out.val [DV.bool (!F2&&mY x)],s1)) (iJ [.bool b] s1):=by
         intro b7 e7;rw[h7];simp only[ai,ae];refine Ok.join fun jm h8=>?_
         have B8: ∀b,(b7||(bif decide (x.used>0)then !kC x x.cA else false))=b->Ok (fun p=>p=(Out.val [DV.bool (!F2&&mY x)],s1)) (jm [.bool b] s1):=by
          intro b8 e8;rw[h8];simp only[ai,ae];refine Ok.join fun iK h9=>?_
          have B9: ∀b,(b8||(bif !(x.dir==0)then !kC x x.dir else false))=b->Ok (fun p=>p=(Out.val [DV.bool (!F2&&mY x)],s1)) (iK [.bool b] s1):=by
           intro b9 e9;rw[h9];simp only[ai,ae];refine Ok.join fun ku AA=>?_
           have B10: ∀b,(b9|| !(((x.aG.length:Nat):Int)==tS x.blocks x.bX x.g))=b->Ok (fun p=>p=(Out.val [DV.bool (!F2&&mY x)],s1)) (ku [.bool b] s1):=by
            intro vM e10;rw[AA];simp only[ai,ae];have S8:F2=vM:=by rw[<-vW,<-e10,<-e9,<-e8,<-e7];simp only[Bool.or_assoc]
            cases vM with
            |true=>rw[cond_true,Zc,S8];exact .mk rfl
            |false=>
             rw[cond_false,S8,bu,cI,ld 8 (.slice 1 p x.aG.length) rfl];simp only[jw];rw[Zb];refine Zl _ (fun q y s=>∃i:Nat,y=[.int .i64 i]/\i<=x.aG.length/\x.aG.length-i<=q/\s=s1/\((List.range i).all fun i=>kC x (x.aG.getD i 0)&& !decide (x.aG.getD i 0∈x.aG.take i))=true) ?_ x.aG.length (n+2) _ _ ⟨0,rfl,by omega,by omega,rfl,rfl⟩ (by omega);rintro q _ s ⟨i,rfl,hi,hq,rfl,bW⟩ rec aD;simp only[al,ae];by_cases aj:i<x.aG.length
             ·obtain⟨i1,o1,rfl⟩:=gu.cm (by simp[ints];omega)
              rw[ah (show(i:Int)<(x.aG.length:Int) by omega),cond_true,aW,Ze (Zk aj),aY,gu.dj (Zw aj)];simp only[aS];have hw:af ((i:Int)+1)=((i+1:Nat):Int):=Zd (by omega) (by omega);have qB:x.aG.getD i 0=x.aG[i]:=by rw[bM,ba aj];rfl
              have bA:(kC x x.aG[i]&& !decide (x.aG[i]∈x.aG.take i))=false->mY x=false:=fun e=>y6.2 ⟨i,jd.2 aj,by rw[qB,e];decide⟩
              rw[Zj (Jf x.aG[i])];simp only[ai,ae,Zb];cases hb:kC x x.aG[i]with
              |false=>
               rw[bu,cond_true];rw[cond_true,Zc,bA (by rw[hb];rfl)];exact .mk rfl
              |true=>
               rw[bg,cond_false,ld 8 (.slice 1 (some (i1,o1)) x.aG.length) rfl];simp only[jw];rw[Ze (by rw[aH,bx,bx];omega)];have Q8:(x.aG.take i).length=i:=by rw[cn];omega
               have bE:Sl s (some (i1,o1)) (ints (x.aG.take i)):=by
                have:=Sl.lx gu i
                rwa [show(ints x.aG).take i=ints (x.aG.take i) by unfold ints;rw[List.map_take]]at this
               have hc:=Zjl h.q8 (n+2) (x.aG.take i) x.aG[i] _ s bE (by omega) (by omega);rw[Q8]at hc;rw[Zj hc];simp only[ai,ae];cases hm:decide (x.aG[i]∈x.aG.take i)with
               |true=>
                rw[cond_true,Zc,bA (by rw[hb,hm];rfl)];exact .mk rfl
               |false=>
                rw[cond_false,hw];refine aD (x.aG.length-(i+1)) _ _ (by omega) ⟨i+1,rfl,by omega,aA _,rfl,?_⟩;rw[tF,qR,bW,rZ,List.all_nil,qB,hb,hm];rfl
             ·rw[ao (show ¬(i:Int)<(x.aG.length:Int) by omega),cond_false,Zc]
              rw[show i=x.aG.length by omega]at bW;unfold mY;rw[bW];exact .mk rfl
           cases b9 with
           |true=>rw[cond_true];exact B10 true rfl
           |false=>
            rw[cond_false,ld 8 (.slice 1 p x.aG.length) rfl];simp only[jw];rw[Rs];simp only[al,ae];rw[tQ (Zqk h.q60 n x.blocks x.bX x.g s1) (.refl s1)];simp only[al,ae];exact B10 _ rfl
          cases b8 with
          |true=>rw[cond_true];exact B9 true rfl
          |false=>
           rw[cond_false,ld 7 (.int .i64 x.dir) rfl];simp only[aS];rw[Zb];cases hd:(!(x.dir==0))with
           |false=>rw[cond_false];simp only[ai,ae];exact B9 _ (by rw[hd];rfl)
           |true=>
            rw[cond_true,ld 7 (.int .i64 x.dir) rfl];simp only[aS];rw[Zj (Jf x.dir)];simp only[ai,ae];exact B9 _ (by rw[hd];rfl)
         cases b7 with
         |true=>rw[cond_true];exact B8 true rfl
         |false=>
          rw[cond_false,ld 5 (.int .i64 x.used) rfl];simp only[aS];rw[Zb];cases hd:decide (x.used>0)with
          |false=>rw[cond_false];simp only[ai,ae];exact B8 _ (by rw[hd];rfl)
          |true=>
           rw[cond_true,ld 4 (.int .i64 x.cA) rfl];simp only[aS];rw[Zj (Jf x.cA)];simp only[ai,ae];exact B8 _ (by rw[hd];rfl)
        cases hu:(x.used==0)with
        |true=>rw[cond_true,ld 4 (.int .i64 x.cA) rfl];simp only[aS];exact B7 _ (by rw[hu];rfl)
        |false=>rw[cond_false];exact B7 _ (by rw[hu];rfl)
      cases b5 with
      |true=>rw[cond_true];exact A6 true rfl
      |false=>rw[cond_false,ld 6 (.int .i64 x.free) rfl];simp only[aS];rw[ld 5 (.int .i64 x.used) rfl];simp only[aS];exact A6 _ rfl
     cases b4 with
     |true=>rw[cond_true];exact A5 true rfl
     |false=>rw[cond_false,ld 6 (.int .i64 x.free) rfl];simp only[aS];exact A5 _ rfl
    cases b3 with
    |true=>rw[cond_true];exact A4 true rfl
    |false=>rw[cond_false,ld 5 (.int .i64 x.used) rfl];simp only[aS];rw[ld 2 (.int .i64 x.bX) rfl];simp only[aS];exact A4 _ rfl
   cases b2 with
   |true=>rw[cond_true];exact A3 true rfl
   |false=>rw[cond_false,ld 5 (.int .i64 x.used) rfl];simp only[aS];exact A3 _ rfl
  cases b1 with
  |true=>rw[cond_true];exact A2 true rfl
  |false=>
   rw[cond_false,Rs];simp only[al,ae];rw[Zj (Zln h.RV (n+1) x.blocks x.bX x.g s1)];simp only[ai,ae];exact A2 _ rfl
 cases hc:decide (x.seq<1)with
 |true=>rw[cond_true];exact A1 true (by rw[hc];rfl)
 |false=>rw[cond_false,ld 0 (.int .i64 x.seq) rfl];simp only[aS];exact A1 _ (by rw[hc];rfl)
end Go.Gv.F
namespace Go.Gv.F
open Go.Gv
def kS (K:bz):Int->List Int->List bc->aU->Option (List bc×aU)
 |_,[],acc,v=>some (acc,v)
 |k,y::r,acc,v=>bif !(y==0)then(match rU K y k v with
   |none=>none
   |some (out,v')=>kS K (k+1) r (acc++out) v')else kS K (k+1) r acc v
def Ah (v:aU) (k:Nat) (nm:List UInt8):Bool:=bif decide (k=0)then true else(match v.av[k-1]? with
 |none=>false
 |some x=>decide (cmpL (cH x.name) (cH nm)<0))
def qc (K:bz):Nat->List Int->aU->Option aU
 |_,[],v=>some v
 |k,y::r,v=>match c8 K y v with
  |some (.queue q,v1)=>bif Ah v1 k q.name then(match kS K 0 q.cS [] v1 with
   |none=>none
   |some (es,v2)=>qc K (k+1) r { v2 with av:=v2.av++[⟨q.name,pM es⟩] })else none
  |_=>none
def oa (K:bz) (v:aU):Option aU:=bif K.sup.dir==0 then some v else(match c8 K K.sup.dir v with
 |some (.dir x,v')=>qc K 0 x v'
 |_=>none)
def rX (m:Nat):aU:=⟨oJ m [0,1],[],[],[],[],0⟩
def rW (K:bz):Option aU:=match na K (rX K.m)with
 |none=>none
 |some v1=>match qk K v1 with
  |none=>none
  |some v2=>match oa K v2 with
   |none=>none
   |some v3=>bif decide ((yE v3:Int)=v3.nodes)then some (qJ v3)else none
theorem HI {K:bz} : ∀ {l:List Int} {k:Int} {acc es:List bc} {v v':aU},v.W.length=(K.m+63)/64->kS K k l acc v=some (es,v')->(∀e∈acc,zj v e)->Diff acc->(∀e∈es,zj v' e)/\Diff es/\v'.W.length=(K.m+63)/64/\v'.ax=v.ax/\v'.av=v.av/\v'.gens=v.gens/\v'.free=v.free
 |[],_,_,_,_,_,hl,h,h1,h2=>by cases h;exact⟨h1,h2,hl,rfl,rfl,rfl,rfl⟩
 |y::r,k,acc,es,v,v',hl,h,h1,h2=>by
  unfold kS at h;cases hy:(!(y==0))with
  |false=>rw[hy,cond_false]at h;exact HI hl h h1 h2
  |true=>
   rw[hy,cond_true]at h;cases ht:rU K y k v with
   |none=>rw[ht]at h;cases h
   |some q=>
    obtain⟨out,v1⟩:=q;rw[ht]at h;obtain⟨a1,a2,a3,_,a5,a6,a7,a8⟩:=Na (acc:=acc) hl ht (by simpa using h1) (by simpa using h2);obtain⟨b1,b2,b3,b4,b5,b6,b7⟩:=HI a3 h a1 a2;exact⟨b1,b2,b3,b4.trans a5,b5.trans a6,b6.trans a7,b7.trans a8⟩
end Go.Gv.F
namespace Go.Gv.F
open Go.Gv
variable {β:Type}
theorem U2 {s:St} {a:Option (Nat×Nat)} {cs:List DV} (h:je s a cs) {sz n m lim:Nat} (ds:List DV) (hz:0<sz) (hn:cs.length=n*sz) (hd:ds.length=m*sz) (hl:n+m<=lim):
  ∃a' s',je s' a' (cs++ds)/\Fx (aC a) s s'/\Kp s s'/\(∀b∈aC a',b∈aC a\/s.length<=b)/\∀K:Option (Nat×Nat)->M β,M.app sz a n ds m lim K s=K a' s':=by
 by_cases hm:m=0
 ·subst hm
  have:ds=[]:=r8.1 (by omega);subst this;exact⟨a,s,by rwa [dZ],.refl _ _,.refl _,fun _ h=> .inl h,fun K=>rfl⟩
 ·have hb:Nat.beq m 0=false:=by cases m with|zero=>exact absurd rfl hm|succ m=>rfl
  rcases h with⟨rfl,rfl⟩|⟨i,rest,rfl,hs⟩
  ·have h0:n=0:=by
    rcases Nat.mul_eq_zero.1 (show n*sz=0 by simpa using hn.symm)with h|h
    ·exact h
    ·omega
   subst h0;refine⟨some (s.length,0),s++[some (⟨false,ds⟩:bn)],.inr ⟨s.length,[],rfl,by simp⟩,Fx.pre _ (aw.new _ _),(aw.new _ _).kp,fun b hb=> .inr (by rw[bP.1 hb];exact aA _),fun K=>?_⟩;unfold M.app;simp only[hb,gD hl,cond_true,cond_false];rfl
  ·have AR:i<s.length:=(cw.1 hs).1
   have dr:s.gy i=some (cs++rest):=by unfold St.gy;rw[hs]
   refine⟨some (s.length,0),s.set i none++[some (⟨false,cs++ds⟩:bn)],.inr ⟨s.length,[],rfl,by rw[gN (by simp)];simp⟩,⟨by simp,fun y x hy e=>?_⟩,(Kp.set hs none).trans (aw.new _ _).kp,fun b hb=> .inr (by rw[bP.1 hb];exact aA _),fun K=>?_⟩
   ·have hyl:=(cw.1 e).1
    have bp:i≠y:=fun e=>hy (by simp[aC,e])
    rw[iN (by simp;omega),ec bp];exact e
   ·unfold M.app
    simp only[hb,gD hl,cond_true,cond_false,dr];rw[dy,gD (by rw[aZ];omega),cond_true,dw,<-hn,vg]
variable {K:bz} {s:St} {v:aU} {L:List Nat} {z1 z2 z3 z4:Nat} {p1 p2 p3 p4:Option (Nat×Nat)} {hd:List DV}
theorem Zy5 {Bd:Za} (hT:ES Bd) (n:Nat) (hK:xl K) (nm:List UInt8) (x:List Int) (hx:x.length=12) (s0:St) (L0:List Nat) (hW:cW K s v L z1 p1 z2 p2 z3 p3 z4 p4 hd) (uu:Fx L0 s0 s) (yh:Nw L0 s0 L) (h0:0<=K.sup.used) (h1:K.sup.used<=1792) (hs:(v.ax.length:Int)=K.sup.used) (cT:0<=v.nodes) (hnr:v.nodes+(room K.m v.W:Nat)<=5000) (hm:K.m<=3072) (hn:4020<=n)
  (R:Option aU) (Kn:List DV->M (List DV))
  (bA:kS K 0 x [] v=none->R=none)
  (az: ∀es w,kS K 0 x [] v=some (es,w)->∀t p z,(z=4\/p=none)->cW K t w L z1 p1 z2 p2 z3 p3 z4 p4 hd->Fx L s t->je t p (bK es)->(∀b∈aC p,s.length<=b)->w.nodes+(room K.m w.W:Nat)<=v.nodes+(room K.m v.W:Nat)->v.nodes<=w.nodes->es.length<=50000->Ok (nY K s0 L0 R []) (Kn [.agg [.str nm,.slice 4 p es.length]] t)):
  Ok (nY K s0 L0 R []) (M.loop (fun dW st=>
      J.a st fun mj st=>
      J.s mj fun h2 r=>
      J.l 4 r fun h3 ui r=>
      D.nil r<|
      J.i .i64 st fun da st=>
      D.nil st<|
      bif decide (da<12)then
       M.ak (au da 12)<|
      D.nth (ints x) (da.toNat*1) fun d6=>
      D.int .i64 d6 fun eR=>
      M.join (fun st=>
       J.a st fun nf st=>
      J.s nf fun h4 r=>
      J.l 4 r fun h5 PB r=>
      D.nil r<|
      D.nil st<|
      dW [.agg [.str h4,.slice 4 h5 PB],.int .i64 (af (da+1))]) fun ca=>
      bif !(eR==0)then
       M.call (run Bd n 233 [.ptr (some (K.w,0)),.int .i64 eR,.int .i64 da]) fun ds=>
      J.l 4 ds fun ft nO ds=>
      D.nil ds<|
      M.rd ft (nO*4) fun vQ=>
      M.app 4 h3 ui vQ nO 2199023255552 fun p1=>
      ca [.agg [.str h2,.slice 4 p1 (ui+nO)]]
      else
       ca [.agg [.str h2,.slice 4 h3 ui]]
      else
       Kn [.agg [.str h2,.slice 4 h3 ui]]) n [.agg [.str nm,.slice 0 none 0],.int .i64 0] s):=by
 have wx:=hW.lt;have AI: ∀b o,K.a=some (b,o)->b<s.length:=fun b o e=>Sl.lt (e▸hW.img)
 obtain⟨G,hG⟩: ∃G,kS K 0 x [] v=G:=⟨_,rfl⟩;rw[hG]at az bA;refine Zl _ (fun q y t=>∃(i:Nat) (acc:List bc) (u:aU) (z:Nat) (p:Option (Nat×Nat)),y=[.agg [.str nm,.slice z p acc.length],.int .i64 i]/\(z=4\/p=none)/\i<=12/\12-i<=q/\cW K t u L z1 p1 z2 p2 z3 p3 z4 p4 hd/\u.ax=v.ax/\u.av=v.av/\Fx L s t/\je t p (bK acc)/\(∀b∈aC p,s.length<=b)/\v.nodes<=u.nodes/\u.nodes+(room K.m u.W:Nat)<=v.nodes+(room K.m v.W:Nat)/\acc.length<=4000*i/\kS K i (x.drop i) acc u=G) ?_ 12 n _ _ ⟨0,[],v,0,none,rfl,.inr rfl,by omega,by omega,hW,rfl,rfl,.refl L s,.inl ⟨rfl,rfl⟩,fun _ h=>(by cases h),yZ _,yZ _,by simp,by simpa using hG⟩ (by omega);rintro q _ t ⟨i,acc,u,z,p,rfl,hz,hi,hq,cB,im,pH,bL,dr,v8,Dn,Dp,xX,cC⟩ rec aD;simp only[bU,bV,al,Zm 4 z p _ hz,ae,Zb];by_cases aj:i<12
 ·have iY:x[i]? =some (x[i]'(by omega)):=ba (by omega)
  have jj:x.drop i=(x[i]'(by omega))::x.drop (i+1):=hJ (by omega);rw[jj]at cC;rw[ah (show(i:Int)<12 by omega),cond_true,Ze (show au (i:Int) 12=true from Zk aj),aY,dx,j7 (Zw (by omega))];simp only[aS];generalize x[i]'(by omega)=y at cC;have hw:af ((i:Int)+1)=((i+1:Nat):Int):=Zd (by omega) (by omega);have nu:((i+1:Nat):Int)=(i:Int)+1:=by omega
  rw[hw];unfold kS at cC;cases hy:(!(y==0))with
  |false=>
   rw[hy,cond_false]at cC;rw[cond_false];exact aD (12-(i+1)) _ _ (by omega) ⟨i+1,acc,u,4,p,rfl,.inl rfl,by omega,aA _,cB,im,pH,bL,dr,v8,Dn,Dp,by omega,by rw[nu];exact cC⟩
  |true=>
   rw[hy,cond_true]at cC;rw[cond_true];have ny:Fx L0 s0 t:=uu.step bL yh;refine Ok.rn (Zz8 hT n hK y i cB h0 h1 (by rw[im];exact hs) (by omega) (by omega) hm (by omega)) ?_ ?_
   ·intro t' hp
    cases ht:rU K y i u with
    |some q=>rw[ht]at hp;obtain⟨_,_,_,e,_⟩:=hp;cases e
    |none=>
     rw[ht]at hp cC;obtain⟨t2,e,ya⟩:=hp;cases e;rw[bA cC.symm];exact⟨t',rfl,ny.step ya yh⟩
   ·intro ds t' hp
    cases ht:rU K y i u with
    |none=>rw[ht]at hp;obtain⟨_,e,_⟩:=hp;cases e
    |some q=>
     obtain⟨out,u1⟩:=q;rw[ht]at hp cC;obtain⟨po,zo,t2,e,Ri,fX,jD,JG,CX,Ys,Yr,gR⟩:=hp;cases e;simp only at cC;obtain⟨_,_,_,_,a5,a6,_,_⟩:=Na (acc:=[]) cB.set.len ht (fun _ h=>by cases h) .nil;simp only[Zm 4 zo po _ Ri,ae];have cL:Sl t' po (bK out):=by
      rcases JG with⟨rfl,h2⟩|⟨b,rest,rfl,h2⟩
      ·exact h2
      ·exact⟨false,_,h2,by rw[aZ];omega,by rw[dw,vg]⟩
     have kZ:=Bj (β:=List DV) cL;rw[Zx]at kZ;rw[kZ];have Wq:=dr.fx jD fun b hb lP=>by have:=wx b lP;have:=v8 b hb;omega
     obtain⟨pa,t3,b1,b2,b3,b4,b5⟩:=U2 (β:=List DV) Wq (sz:=4) (n:=acc.length) (m:=out.length) (lim:=2199023255552) (bK out) (by omega) (Zx _) (Zx _) (by omega);rw[b5];have kY:Fx L s t':=bL.trans jD;obtain⟨rr,dS⟩:=fX.J3 (by rw[a6,pH];exact hW.av) wx AI kY b2 v8;refine aD (12-(i+1)) _ _ (by omega) ⟨i+1,acc++out,u1,4,pa,by rw[aZ],.inl rfl,by omega,aA _,rr,a5.trans im,a6.trans pH,dS,by rw[Ni];exact b1,fun b hb=>?_,by omega,by omega,by rw[aZ];omega,by rw[nu];exact cC⟩;rcases b4 b hb with h5|h5
     ·exact v8 b h5
     ·have:=kY.1;omega
 ·rw[ao (show ¬(i:Int)<12 by omega),cond_false]
  rw[mO (by omega)]at cC;exact az acc u cC.symm t p 4 (.inl rfl) cB bL dr v8 Dp Dn (by omega)
end Go.Gv.F
namespace Go.Gv.F
open Go.Gv
variable {β:Type}
theorem ZsE {l:List UInt8} {x:oV} (h:rf l=some x):x.name.length<=24/\vJ x=true:=by
 unfold rf at h;split at h
 ·cases h
 ·rename_i k t b _
  cases e:(decide (k=5)&&(decide (t<=24)&&ZC (b.drop (28+t))))with
  |false=>rw[e]at h;cases h
  |true=>
   rw[e]at h;cases e2:vJ (vE b t)with
   |false=>rw[e2]at h;cases h
   |true=>
    rw[e2]at h;cases h;rw[aH,aH,bx]at e;refine⟨?_,e2⟩;have:=mU e.2.1;show((b.drop 28).take t).length<=24;rw[cn];omega
theorem Zua {l:List UInt8} {x:oV} (h:ZG l= .queue x):rf l=some x:=by
 unfold ZG at h;split at h
 ·cases h
 ·split at h
  ·cases h
  ·split at h
   ·cases h
   ·split at h
    ·rename_i y hy;cases h;exact hy
    ·split at h<;>cases h
theorem Zyi {K:bz} {k:Int} {v v':aU} {b:xg} (h:c8 K k v=some (b,v')):ZG (mc K.img k.toNat)=b:=by
 unfold c8 at h;cases e:pj K.m v.W k with
 |false=>rw[e]at h;cases h
 |true=>rw[e]at h;cases h;rfl
theorem Zzz (pn:M β) (p:Option (Nat×Nat)) (m:Nat) (Kc:Option (Nat×Nat)->Nat->M β):D.qa pn (.iface 3 (.agg [.slice 1 p m])) 3 (fun d=>D.agg d fun cs=>J.l 1 cs fun x xn r=>D.nil r<|Kc x xn)=Kc p m:=rfl
theorem Zxy (pn:M β) (q:oV) (Kc:List UInt8->Int->List DV->M β):D.qa pn (.iface 4 (.agg (ri q))) 4 (fun d=>D.agg d fun cs=>J.s cs fun x7 r1=>J.i .i64 r1 fun x8 r2=>Kc x7 x8 r2)=Kc q.name q.mask (ints q.cS):=rfl
theorem ZsX {K:bz} : ∀ {l:List Int} {k:Nat} {v v':aU},v.W.length=(K.m+63)/64->qc K k l v=some v'->v'.ax=v.ax/\v'.gens=v.gens/\v'.free=v.free/\v'.av.length=v.av.length+l.length
 |[],_,_,_,_,h=>by cases h;exact⟨rfl,rfl,rfl,rfl⟩
 |y::r,k,v,v',hl,h=>by
  unfold qc at h;split at h
  ·rename_i q v1 ht
   cases hn:Ah v1 k q.name with
   |false=>rw[hn]at h;cases h
   |true=>
    rw[hn,cond_true]at h;obtain⟨g1,g2,g3,g4,g5,g6⟩:=ZW ht;split at h
    ·cases h
    ·rename_i es v2 hh
     obtain⟨_,_,b3,b4,b5,b6,b7⟩:=HI (by rw[(zY ht).2,sv];exact hl) hh (fun _ h=>by cases h) .nil;obtain⟨c1,c2,c3,c4⟩:=ZsX (by exact b3) h;refine⟨c1.trans (b4.trans g1),c2.trans (b6.trans ?_),c3.trans (b7.trans ?_),?_⟩
     ·assumption
     ·assumption
     ·rw[c4,aZ,b5,g2];simp;omega
  ·cases h
variable {K:bz} {s:St} {v:aU} {L:List Nat} {z1 z2 z3 z4:Nat} {p1 p2 p3 p4:Option (Nat×Nat)} {hd:List DV}
theorem bh.Kb {a:Option (Nat×Nat)} {cs:List DV} (h:bh [] s a cs): ∀b∈aC a,∃c,s[b]? =some (some ⟨false,c⟩):=by
 rcases h.2 with⟨rfl,_⟩|⟨i,rfl,_,h3⟩
 ·intro b hb;cases hb
 ·intro b hb;rw[bP.1 hb];exact⟨_,h3⟩
theorem cW.kp {s':St} (h:cW K s v L z1 p1 z2 p2 z3 p3 z4 p4 hd) (k:Fx L s s'):Kp s s':=by
 intro i all e;refine k.2 i _ (fun hm=>?_) e;have ho: ∃c,s[i]? =some (some ⟨false,c⟩):=by
  rw[h.own]at hm;simp only[cd,de]at hm;rcases hm with rfl|rfl|rfl|hm|hm|hm|hm
  ·exact⟨_,h.cell⟩
  ·exact⟨_,h.set.hd⟩
  ·exact⟨_,h.set.wd⟩
  ·exact h.o1.Kb i hm
  ·exact h.o2.Kb i hm
  ·exact h.o3.Kb i hm
  ·exact h.o4.Kb i hm
 obtain⟨c,hc⟩:=ho;rw[e]at hc;cases hc
theorem Zx0 {Bd:Za} (h:K2 Bd) (n:Nat) (hK:xl K) (hW:Wk K s v L) (h0:0<=K.sup.used) (h1:K.sup.used<=1792) (hs:(v.ax.length:Int)=K.sup.used) (cT:0<=v.nodes) (hnr:v.nodes+(room K.m v.W:Nat)<=5000) (hm:K.m<=3072) (hh:v.av=[]) (hn:4030<=n):
  Ok (nY K s L (oa K v) []) (run Bd n 231 [.ptr (some (K.w,0))] s):=by
 obtain⟨n,rfl⟩: ∃k,n=k+2:=⟨n-2,by omega⟩;rw[Zf,h.eq];unfold Ff;obtain⟨R,hR⟩: ∃R,oa K v=R:=⟨_,rfl⟩;rw[hR];unfold oa at hR;simp only[fa,ae,aW];obtain⟨z1,p1,z2,p2,z3,p3,z4,p4,hd,hW⟩:=hW;rw[Zn hW.cell rfl];show Ok _ (D.int .i64 (.int .i64 K.sup.dir) _ s);simp only[aS];cases uq:(K.sup.dir==0)with
 |true=>
  rw[uq,cond_true]at hR;rw[cond_true,<-hR,Zc];exact .mk ⟨s,L,rfl,hW.wk,.refl L s,.refl L s⟩
 |false=>
 rw[uq,cond_false]at hR;rw[cond_false,Zn hW.cell rfl];show Ok _ (D.int .i64 (.int .i64 K.sup.dir) _ s);simp only[aS];refine Ok.rn (hW.take h.uW (n+1) K.sup.dir hK.m hK.Al hK.len (by omega)) ?_ ?_
 ·intro s' hp
  cases ht:c8 K K.sup.dir v with
  |none=>rw[ht]at hp hR;cases hp;rw[<-hR];exact⟨s,rfl,.refl L s⟩
  |some q=>rw[ht]at hp;obtain⟨d,s2,e,_⟩:=hp;cases e
 intro ds s1 hp;cases ht:c8 K K.sup.dir v with
 |none=>rw[ht]at hp;cases hp
 |some q=>
 obtain⟨b,v1⟩:=q;rw[ht]at hp hR;obtain⟨d,s2,e2,fX,jD,hb⟩:=hp;cases e2;obtain⟨g1,g2,g3,g4,g5,g6⟩:=ZW ht;obtain⟨g7,g8⟩:=zY ht;have wE:=Oc hW.set.len g7;rw[<-g8]at wE;have kY:Fx L s s1:=jD.mono fun y hy=>by rw[bP.1 hy];exact hW.rK
 simp only[xi,ae];cases b with
 |leaf x=>obtain⟨rfl,_⟩:=hb;rw[<-hR];exact .mk ⟨s1,rfl,kY⟩
 |cA x=>obtain⟨rfl,_⟩:=hb;rw[<-hR];exact .mk ⟨s1,rfl,kY⟩
 |queue x=>obtain⟨rfl,_⟩:=hb;rw[<-hR];exact .mk ⟨s1,rfl,kY⟩
 |node x=>obtain⟨p,rfl,_⟩:=hb;rw[<-hR];exact .mk ⟨s1,rfl,kY⟩
 |none=>cases hb;rw[<-hR];exact .mk ⟨s1,rfl,kY⟩
 |dir x=>
 obtain⟨px,rfl,DI,WS⟩:=hb;simp only at hR;rw[Zzz];have wJ:x.length<=16:=WS;rw[Zb];refine Zl _ (fun q y t=>∃(i:Nat) (u:aU) (Lu:List Nat),y=[.int .i64 i]/\i<=x.length/\x.length-i<=q/\Wk K t u Lu/\Fx L s t/\Nw L s Lu/\Fz t px (ints x)/\u.ax=v.ax/\u.av.length=i/\(∀g∈u.av,g.name.length<=24)/\v.nodes<=u.nodes/\u.nodes+(room K.m u.W:Nat)<=v.nodes+(room K.m v.W:Nat)/\qc K i (x.drop i) u=R) ?_ x.length (n+1) _ _ ⟨0,v1,L,rfl,bH _,by omega,fX.wk,kY,.refl L s,DI,g1,by rw[g2,hh];rfl,(by rw[g2,hh];intro _ h;cases h),by rw[g5];omega,by rw[g5];omega,by simpa using hR⟩ (by omega);rintro q _ t ⟨i,u,Lu,rfl,hi,hq,cB,eL,gF,yx,im,pH,hun,Dn,Dp,az⟩ rec aD;obtain⟨y1,r1,y2,r2,y3,r3,y4,r4,ud,cB⟩:=cB;simp only[al,ae];by_cases aj:i<x.length
 ·obtain⟨i1,o1,rfl⟩:=yx.1.cm (by simp[ints];omega)
  rw[ah (show(i:Int)<(x.length:Int) by omega),cond_true];refine Ok.join fun aB wq=>?_
  rw[aW,Ze (Zk aj),aY,yx.1.dj (Zw aj)];simp only[aS];have jj:x.drop i=x[i]::x.drop (i+1):=hJ aj;rw[jj]at az;generalize x[i]=y at az;unfold qc at az;refine Ok.rn (cB.take h.uW (n+1) y hK.m hK.Al hK.len (by omega)) ?_ ?_
  ·intro s' hp
   cases fZ:c8 K y u with
   |none=>rw[fZ]at hp az;cases hp;rw[<-az];exact⟨t,rfl,eL⟩
   |some q=>rw[fZ]at hp;obtain⟨d,s2,e,_⟩:=hp;cases e
  intro ds t1 hp;cases fZ:c8 K y u with
  |none=>rw[fZ]at hp;cases hp
  |some q=>
  obtain⟨b,u1⟩:=q;rw[fZ]at hp az;obtain⟨d,s2,e2,jB,eB,hb⟩:=hp;cases e2;obtain⟨k1,k2,k3,k4,k5,k6⟩:=ZW fZ;obtain⟨k7,k8⟩:=zY fZ;have WA:=Oc cB.set.len k7;rw[<-k8]at WA;have Tq:Fx Lu t t1:=eB.mono fun y hy=>by rw[bP.1 hy];exact cB.rK
  have ot:Fx L s t1:=eL.step Tq gF;simp only[xi,ae];cases b with
  |leaf x=>obtain⟨rfl,_⟩:=hb;rw[<-az];exact .mk ⟨t1,rfl,ot⟩
  |cA x=>obtain⟨rfl,_⟩:=hb;rw[<-az];exact .mk ⟨t1,rfl,ot⟩
  |dir x=>obtain⟨p,rfl,_⟩:=hb;rw[<-az];exact .mk ⟨t1,rfl,ot⟩
  |node x=>obtain⟨p,rfl,_⟩:=hb;rw[<-az];exact .mk ⟨t1,rfl,ot⟩
  |none=>cases hb;rw[<-az];exact .mk ⟨t1,rfl,ot⟩
  |queue qv=>
  obtain⟨rfl,TX⟩:=hb;simp only at az;rw[Zxy];obtain⟨hqn,_⟩:=ZsE (Zua (Zyi fZ));have mD:Fz t1 (some (i1,o1)) (ints x):=yx.kp (cB.kp Tq);have yg:(ints qv.cS).length=12:=by simp[ints,TX]
  rw[bB (cs:=ints qv.cS) (n:=12) yg,bB (n:=14) (by simp[yg])];refine Ok.join fun aV Qw=>?_
  have hA: ∀t2 bb,Ah u1 i qv.name=bb->cW K t2 u1 Lu y1 r1 y2 r2 y3 r3 y4 r4 ud->Fx L s t2->Fz t2 (some (i1,o1)) (ints x)->Ok (nY K s L R []) (aV [.bool bb] t2):=by
   intro t2 bb ry rr dS DH;rw[Qw];simp only[ai,ae];cases bb with
   |false=>
    rw[ry,cond_false]at az;rw[ZK h.fh n rfl,<-az];exact .mk ⟨t2,rfl,dS⟩
   |true=>
    rw[ry,cond_true]at az;rw[oU h.fh n rfl];simp only[ae];refine Ok.join fun bq Qx=>?_
    rw[cF (by omega)];refine Zy5 h.q23 (n+1) hK qv.name qv.cS TX s L rr dS gF h0 h1 (by rw[k1,im];exact hs) (by rw[k5];omega) (by rw[k5];omega) hm (by omega) R bq ?_ ?_
    ·intro e
     rw[e]at az;exact az.symm
    intro es w he t3 p z hz kT ou dr v8 We Wd hel;rw[he]at az;simp only at az;obtain⟨c1,c2,c3,c4,c5,c6,c7⟩:=HI rr.set.len he (fun _ h=>by cases h) .nil;rw[Qx];simp only[bU,bV,br,ae];obtain⟨t4,e4,A0,wg⟩:=ZAb h.q1 n es p t3 dr c2 (by omega);rw[Zj e4];simp only[ae];have AI: ∀b o,K.a=some (b,o)->b<t2.length:=fun b o e=>Sl.lt (e▸rr.img)
    have uK:w.av=u.av:=c5.trans k2;have hh2:nX t2 Lu ud w.av:=by rw[c5];exact rr.av
    obtain⟨AG,Tu⟩:=kT.J3 hh2 rr.lt AI ou wg v8;have Rb:Fz t4 (some (i1,o1)) (ints x):=DH.kp (rr.kp Tu);have Tv:Fx L s t4:=dS.step Tu gF;rw[Zn AG.cell rfl];show Ok _ (D.slice 2 (.slice y2 r2 w.av.length) _ t4);rw[Z5 2 y2 r2 _ AG.e2,<-Zrt es];have cL:Sl t4 p (bK (pM es)):=by
     rcases A0 with⟨rfl,h2⟩|⟨b,rest,rfl,h2⟩
     ·exact h2
     ·exact⟨false,_,h2,by rw[aZ];omega,by rw[dw,vg]⟩
    have JJ:jN Lu p:=jN.aC fun b hb hm=>by have:=v8 b hb;have:=rr.lt b hm;omega
    obtain⟨b,t5,t6,L6,q1,q2,q3,q4,q5,q6⟩:=AG.Xi (β:=List DV) ⟨qv.name,pM es⟩ (by rw[uK,pH];omega) (z:=4) (.inl rfl) cL JJ;refine Eq.mpr (congrArg (Ok _) (q1 _)) ?_;refine Eq.mpr (congrArg (Ok _) (q2 _)) ?_;rw[wq];simp only[ae];have oB:af ((i:Int)+1)=((i+1:Nat):Int):=Zd (by omega) (by omega);rw[oB];refine aD (x.length-(i+1)) _ _ (by omega) ⟨i+1,_,L6,rfl,by omega,aA _,q3.wk,Tv.step q4 gF,gF.trans Tv.1 q5,Rb.kp (AG.kp q4),(c4.trans k1).trans im,?_,?_,?_,?_,az⟩
    ·show(w.av++[_]).length=i+1
     rw[aZ,uK,pH];rfl
    ·intro g hg
     have wh:g∈w.av++[⟨qv.name,pM es⟩]:=hg;rw[uK]at wh;rcases de.1 wh with wh|wh
     ·exact hun g wh
     ·rw[bP.1 wh];exact hqn
    ·show v.nodes<=w.nodes
     rw[k5]at Wd;omega
    ·show w.nodes+(room K.m w.W:Nat)<=_
     rw[k5]at We;omega
  by_cases rC:i=0
  ·subst rC
   rw[show(((0:Nat):Int)==0)=true from rfl,cond_true];exact hA t1 true rfl jB ot mD
  ·have hib:(((i:Nat):Int)==0)=false:=by rw[cg];omega
   rw[hib,cond_false,Zn jB.cell rfl];show Ok _ (D.slice 2 (.slice y2 r2 u1.av.length) _ t1);rw[Z5 2 y2 r2 _ jB.e2];have C9:u1.av.length=i:=by rw[k2];exact pH
   have Yz:ud.length=u1.av.length*2:=jB.av.av.len;obtain⟨b,rfl,wa⟩:=jB.o2.cm (by omega);have cc:af ((i:Int)-1)=((i-1:Nat):Int):=by rw[Zd (by omega) (by omega)];omega
   have Qm:u1.av[i-1]? =some u1.av[i-1]:=ba (by omega);rw[aW,cc,Ze (Zk (by omega)),aY,xx jB.o2.sl jB.av.av Qm];have hgm:u1.av[i-1].name.length<=24:=hun _ (by rw[<-k2];exact gC _);obtain⟨gg,uw⟩: ∃gg,u1.av[i-1]=gg:=⟨_,rfl⟩;rw[uw]at Qm hgm⊢;simp only[vk];refine Ok.call (Zpl h.q51 (n+1) gg.name qv.name (by omega) (by omega) (by omega) (by omega) t1) ?_;rintro _ ⟨t2,rfl,bj⟩;refine⟨_,t2,rfl,?_⟩;simp only[al,ae];refine hA t2 _ ?_ (jB.pre bj) (ot.trans (Fx.pre _ bj)) (mD.kp bj.kp);unfold Ah;rw[ao rC,cond_false,Qm]
 ·rw[ao (show ¬(i:Int)<(x.length:Int) by omega),cond_false]
  simp only[Zc];rw[mO (by omega)]at az;rw[<-az];exact .mk ⟨t,Lu,rfl,cB.wk,eL,gF⟩
end Go.Gv.F
namespace Go.Gv.F
open Go.Gv
variable {β:Type}
theorem Fx.UK {s s':St} (h:Fx [] s s'):aw s s':=by
 refine⟨s'.drop s.length,?_⟩;have:s'.take s.length=s:=by
  apply mP;intro i;by_cases hi:i<s.length
  ·rw[List.getElem?_take_of_lt hi]
   have e:s[i]? =some s[i]:=ba hi;rw[e];exact h.2 i _ (fun h=>by cases h) e
  ·rw[dL (by rw[cn];omega),dL (by omega)]
 conv=>lhs;rw[<-nU s.length s',this]
theorem Ok.nc {P:Out (List DV)×St->Prop} {Q:Out β×St->Prop} {m:M (List DV)} {H:Bool->M β} {s:St} (h:Ok P (m s))
  (k1: ∀s',P (.cy,s')->Ok Q (H true s')) (k2: ∀ds s',P (.val ds,s')->Ok Q (H false s')):Ok Q (M.nc m H s):=by
 obtain⟨⟨o,s'⟩,e,hp⟩:=h;unfold M.nc;rw[e];cases o with
 |val ds=>exact k2 ds s' hp
 |cy=>exact k1 s' hp
theorem ZyB {s:St} {i p:Nat} {f:Bool} {all:List DV} {k:IntKind} {n:Int} (h:s[i]? =some (some ⟨f,all⟩)) (hd:all[p]? =some (.int k n)) (K:IntKind->Int->M β):sK i p K s=K k n s:=by
 unfold sK;rw[Zn h hd]
theorem NT {s:St} {i p:Nat} {f:Bool} {all:List DV} {n:Int} (h:s[i]? =some (some ⟨f,all⟩)) (hd:all[p]? =some (.int .i64 n)) (K:M β):fF i p .i64 n K s=K s:=by
 unfold fF;rw[Zn h hd];show(bif pJ .i64 .i64&&(n==n)then K else fail) s=K s;rw[fH];rfl
def Kept (v v':aU):Prop:=v'.av=v.av/\v'.gens=v.gens/\v'.free=v.free/\v'.nodes=v.nodes
theorem Kept.refl (v:aU):Kept v v:=⟨rfl,rfl,rfl,rfl⟩
theorem Kept.trans {a b c:aU} (h:Kept a b) (k:Kept b c):Kept a c:=⟨k.1.trans h.1,k.2.1.trans h.2.1,k.2.2.1.trans h.2.2.1,k.2.2.2.trans h.2.2.2⟩
theorem MR {K:bz} {k:Int} {v v':aU} {b:xg} (h:c8 K k v=some (b,v')):Kept v v':=by
 obtain⟨_,h2,h3,h4,h5,_⟩:=ZW h;exact⟨h2,h3,h4,h5⟩
theorem Znf {K:bz} : ∀ {x:List bF} {k:Int} {v v':aU},kP K k x v=some v'->Kept v v'
 |[],_,_,_,h=>by cases h;exact .refl _
 |x::r,k,v,v',h=>by
  unfold kP at h;cases h1:oh K k x v with
  |none=>rw[h1]at h;cases h
  |some w=>
   rw[h1]at h;refine Kept.trans ?_ (Znf h);unfold oh at h1;cases h2:decide (k>=K.sup.used)with
   |true=>
    rw[h2,cond_true]at h1;cases h3:xM x with
    |true=>rw[h3]at h1;cases h1;exact .refl _
    |false=>rw[h3]at h1;cases h1
   |false=>
    rw[h2,cond_false]at h1;cases h3:sI K.sup x with
    |true=>rw[h3]at h1;cases h1;exact⟨rfl,rfl,rfl,rfl⟩
    |false=>rw[h3]at h1;cases h1
theorem Zwk {K:bz} {k slot:Int} {v v':aU} (h:kA K k slot v=some v'):Kept v v':=by
 unfold kA at h;split at h
 ·rename_i x v1 ht
  exact(MR ht).trans (Znf h)
 ·cases h
theorem ME {K:bz} {cnt x5:Int} : ∀ {x:List Int} {k:Int} {v v':aU},Z8 K cnt x5 k x v=some v'->Kept v v'
 |[],_,_,_,h=>by cases h;exact .refl _
 |y::r,k,v,v',h=>by
  unfold Z8 at h;cases h1:((!(y==0))==decide (x5*16+k<cnt))with
  |false=>rw[h1]at h;cases h
  |true=>
   rw[h1,cond_true]at h;cases h2:(!(y==0))with
   |false=>rw[h2]at h;exact ME h
   |true=>
    rw[h2,cond_true]at h;split at h
    ·cases h
    ·rename_i w hw
     exact(Zwk hw).trans (ME h)
theorem ML {K:bz} {cnt:Int} : ∀ {x:List Int} {k:Int} {v v':aU},lG K cnt k x v=some v'->Kept v v'
 |[],_,_,_,h=>by cases h;exact .refl _
 |y::r,k,v,v',h=>by
  unfold lG at h;cases h1:((!(y==0))==decide (k*16<cnt))with
  |false=>rw[h1]at h;cases h
  |true=>
   rw[h1,cond_true]at h;cases h2:(y==0)with
   |true=>rw[h2]at h;exact ML h
   |false=>
    rw[h2,cond_false]at h;split at h
    ·rename_i x v1 ht
     split at h
     ·cases h
     ·rename_i w hw
      exact((MR ht).trans (ME hw)).trans (ML h)
    ·cases h
theorem ZuH {K:bz} {v v':aU} (h:na K v=some v'):Kept v v':=by
 unfold na at h;cases h1:(K.sup.used==0)with
 |true=>rw[h1]at h;cases h;exact .refl _
 |false=>
  rw[h1,cond_false]at h;split at h
  ·rename_i x v1 ht
   exact(MR ht).trans (ML h)
  ·cases h
theorem Znw {K:bz} : ∀ {f:Nat} {fl xR:List Bool} {k:Int} {v v':aU},mZ K f fl k v=some (xR,v')->v'.ax=v.ax/\v'.av=v.av/\v'.gens=v.gens/\v'.nodes=v.nodes
 |0,_,_,_,_,_,h=>by cases h
 |f+1,fl,xR,k,v,v',h=>by
  unfold mZ at h;cases h1:(k==0)with
  |true=>rw[h1]at h;cases h;exact⟨rfl,rfl,rfl,rfl⟩
  |false=>
   rw[h1,cond_false]at h;cases h2:decide (k<=K.sup.used)with
   |false=>rw[h2]at h;cases h
   |true=>
    rw[h2,cond_true]at h;split at h
    ·cases h
    ·rename_i x hx
     cases h3:(bif (bif !x.live then decide (x.gen<K.sup.g)else false)then !fl.getD (k-1).toNat false else false)with
     |false=>rw[h3]at h;cases h
     |true=>
      rw[h3,cond_true]at h;exact Znw (v:= { v with free:=v.free++[k-1] }) h
theorem ZwX {K:bz} {v v':aU} (h:qk K v=some v'):v'.ax=v.ax/\v'.av=v.av/\v'.gens=v.gens/\v'.nodes=v.nodes:=by
 unfold qk at h;cases h1:mZ K (K.sup.used.toNat+1) (List.replicate K.sup.used.toNat false) K.sup.free v with
 |none=>rw[h1]at h;cases h
 |some q=>
  obtain⟨fl,w⟩:=q;rw[h1]at h;unfold xF at h;simp only at h;cases h2:rk K fl w.ax with
  |false=>rw[h2]at h;cases h
  |true=>rw[h2]at h;cases h;exact Znw h1
theorem Zuu {K:bz} {v v':aU} (hl:v.W.length=(K.m+63)/64) (h:oa K v=some v'):v'.ax=v.ax/\v'.gens=v.gens/\v'.free=v.free:=by
 unfold oa at h;cases h1:(K.sup.dir==0)with
 |true=>rw[h1]at h;cases h;exact⟨rfl,rfl,rfl⟩
 |false=>
  rw[h1,cond_false]at h;split at h
  ·rename_i x v1 ht
   obtain⟨g1,g2,g3,g4,g5,g6⟩:=ZW ht;obtain⟨c1,c2,c3,c4⟩:=ZsX (by rw[(zY ht).2,sv];exact hl) h;exact⟨c1.trans g1,c2.trans g3,c3.trans g4⟩
  ·cases h
def uZ (x:eX) (v:aU):cK:=⟨x.blocks,x.bX,x.g,v.av,v.gens,v.free⟩
def pN:cK:=⟨0,0,0,[],[],[]⟩
def lz (K:bz):Option (Option aU):=bif jz K.sup then(bif decide (K.sup.blocks<=((K.img.length/64:Nat):Int))then some (rW K)else some none)else none
def SH (s:St) (m:Nat) (x:eX) (r:Option (Option aU)) (o:Out (List DV)×St):Prop:=match r with
 |none=>∃s',o=(.val [.agg (cP pN 0 none 0 none 0 none),.ptr none,.int .i64 2],s')/\aw s s'
 |some none=>∃s',o=(.val [.agg (cP pN 0 none 0 none 0 none),.ptr none,.int .i64 31],s')/\aw s s'
 |some (some v)=>∃s' z2 p2 z3 p3 z4 p4 i j,o=(.val [.agg (cP (uZ x v) z2 p2 z3 p3 z4 p4),.ptr (some (i,0)),.int .i64 0],s')/\aw s s'/\(z2=2\/p2=none)/\(z3=1\/p3=none)/\(z4=1\/p4=none)/\l8 s' (uZ x v) p2 p3 p4/\eU s' false i j m v.W/\s.length<=j/\i≠j
structure lX (s:St) (b:Nat) (A:List DV) (r e:DV):Prop where
 st:s[b+1]? =some (some ⟨false,A⟩)
 re:s[b+2]? =some (some ⟨false,[r]⟩)
 er:s[b+3]? =some (some ⟨false,[e]⟩)
 len:A.length=6
theorem lX.fx {s s':St} {b:Nat} {A:List DV} {r e:DV} {T:List Nat} (h:lX s b A r e) (k:Fx T s s') (hT: ∀x∈T,x<b\/b+4<=x):lX s' b A r e:=
 ⟨k.2 _ _ (fun hm=>by have:=hT _ hm;omega) h.st,k.2 _ _ (fun hm=>by have:=hT _ hm;omega) h.re,k.2 _ _ (fun hm=>by have:=hT _ hm;omega) h.er,h.len⟩
theorem lX.Sk {s:St} {b:Nat} {A:List DV} {r e:DV} (h:lX s b A r e) (A':List DV) (r' e':DV) (hl:A'.length=6): ∃s',(∀K:M β,(M.store (b+1) 0 A'<|M.store (b+2) 0 [r']<|M.store (b+3) 0 [e'] K) s=K s')/\lX s' b A' r' e'/\Fx [b+1,b+2,b+3] s s':=by
 have h1:=(cw.1 h.st).1;have h2:=(cw.1 h.re).1;have h3:=(cw.1 h.er).1;have fY:bN A 0 A'=A':=by
  have:=rb [] A [] A' (by rw[h.len,hl]);simpa using this
 refine⟨((s.set (b+1) (some ⟨false,A'⟩)).set (b+2) (some ⟨false,[r']⟩)).set (b+3) (some ⟨false,[e']⟩),fun K=>?_,⟨?_,?_,?_,hl⟩,⟨by simp,fun i x hi e=>?_⟩⟩
 ·rw[Ir h.st (by rw[h.len,hl];omega),fY,qY (by rw[ec (by omega)];exact h.re) (by show 0<1;omega),qY (by rw[ec (by omega),ec (by omega)];exact h.er) (by show 0<1;omega)]
  rfl
 ·rw[ec (by omega),ec (by omega),fV h1]
 ·rw[ec (by omega),fV (by simpa using h2)]
 ·rw[fV (by simpa using h3)]
 ·simp only[cd,j4,iB,not_or]at hi
  rw[ec (by omega),ec (by omega),ec (by omega)];exact e
theorem lX.tl {s:St} {b:Nat} {A:List DV} {r e:DV} (h:lX s b A r e):(M.load (b+1) 0 6 fun o=>M.ar (b+2) 0 fun o1=>M.ar (b+3) 0 fun o2=>M.ret [.agg o,o1,o2]) s=some (.val [.agg A,r,e],s):=by
 rw[kQ h.st (by rw[h.len];omega),Zn h.re rfl,Zn h.er rfl,dw,cF (by rw[h.len];omega),Zc]
theorem ZlC {x:eX} (h:jz x=true):lL x.blocks x.bX x.g=true/\0<=x.used/\x.used<=x.bX/\0<=x.free/\x.free<=x.used:=by
 unfold jz at h;rw[aH,gZ,kJ,kJ,kJ,kJ,kJ,kJ]at h;obtain⟨⟨_,_,h1,h2,h3,h4,h5⟩,_⟩:=h;refine⟨by simpa using h1,?_,?_,?_,?_⟩
 ·have:=vj h2;omega
 ·have:=vj h3;omega
 ·have:=vj h4;omega
 ·have:=vj h5;omega
theorem sr {b s g:Int} (h:lL b s g=true):16<=b/\b<=3072/\1<=s/\s<=1792/\1<=g/\g<=4294967295:=by
 unfold lL at h;simp only[aH,bx]at h;omega
theorem lX.aK {s s':St} {b:Nat} {r e r' e':DV} {A':List DV} (h:lX s b (cP pN 0 none 0 none 0 none) r e) (h':lX s' b A' r' e') (k:Fx [b+1,b+2,b+3] s s') {p:Option (Nat×Nat)} {es:List bc} (hs:Sl s p (bK es)):Sl s' p (bK es):=by
 cases p with
 |none=>exact hs
 |some q=>
  obtain⟨i,o⟩:=q;by_cases hi:i∈[b+1,b+2,b+3]
  ·have TL:es=[]:=by
    cases es with
    |nil=>rfl
    |cons x es=>
     exfalso;obtain⟨f,all,e1,e2,e3⟩:=hs;have hlen:(bK (x::es)).length=4+(bK es).length:=by
      rw[Zx,Zx,ee];omega
     simp only[cd,j4,iB]at hi;rcases hi with rfl|rfl|rfl
     ·rw[h.st]at e1
      cases e1;have h6:(cP pN 0 none 0 none 0 none).length=6:=rfl;have ho:o=0\/o=1\/o=2:=by omega
      have e4:=congrArg (fun l=>l[3-o]?) e3;rw[List.getElem?_take_of_lt (by omega),nR]at e4;rcases ho with rfl|rfl|rfl<;>cases e4
     ·rw[h.re]at e1
      cases e1;rw[hlen]at e2;simp only[tE]at e2;omega
     ·rw[h.er]at e1
      cases e1;rw[hlen]at e2;simp only[tE]at e2;omega
   subst TL;obtain⟨f,all,e1,e2,_⟩:=hs;simp only[cd,j4,iB]at hi;rcases hi with rfl|rfl|rfl
   ·rw[h.st]at e1
    cases e1;refine⟨false,_,h'.st,?_,rfl⟩;have:=h'.len;have h6:(cP pN 0 none 0 none 0 none).length=6:=rfl;have h0:(bK []).length=0:=rfl;omega
   ·rw[h.re]at e1
    cases e1;exact⟨false,_,h'.re,e2,rfl⟩
   ·rw[h.er]at e1
    cases e1;exact⟨false,_,h'.er,e2,rfl⟩
  ·exact Sl.fx hs k fun b' o' e=>by cases e;exact hi
theorem hU.aK {s s':St} (h: ∀(p:Option (Nat×Nat)) (es:List bc),Sl s p (bK es)->Sl s' p (bK es)): ∀ {ds:List DV} {xs:List cJ},hU s ds xs->hU s' ds xs
 |_,[],h1=>h1
 |_,_::_,⟨z,p,t,hz,h1,h2,h3⟩=>⟨z,p,t,hz,h1,h p _ h2,h3.aK h⟩
def UT (K:bz) (s:St) (b:Nat) (r:Option aU) (o:Out (List DV)×St):Prop:=match r with
 |none=>∃s',o=(.cy,s')/\Fx [] s s'
 |some v=>∃s' ds z2 p2 z3 p3 z4 p4,o=(.val ds,s')/\Fx [b+1,b+2,b+3] s s'/\lX s' b (cP (uZ K.sup v) z2 p2 z3 p3 z4 p4) (.ptr (some (K.i,0))) (.int .i64 0)/\(z2=2\/p2=none)/\(z3=1\/p3=none)/\(z4=1\/p4=none)/\l8 s' (uZ K.sup v) p2 p3 p4/\eU s' false K.i K.j K.m v.W
theorem ZtC {Bd:Za} (h:zF Bd) (n:Nat) (a:Option (Nat×Nat)) (img:List UInt8) (x:eX) (pc:Option (Nat×Nat)) (s:St) (ha:dF s a img) (hc:Sl s pc (ints x.aG)) (hl:img.length<1000000) (dz:x.aG.length<1000) (hn:5000<=n):
  ∃K:bz,K.m=x.blocks.toNat/\K.img=img/\K.sup=x/\Ok (SH s x.blocks.toNat x (lz K)) (run Bd n 171 [.slice 1 a img.length,.agg (dK x pc)] s):=by
 obtain⟨n,rfl⟩: ∃k,n=k+3:=⟨n-3,by omega⟩;refine⟨⟨s.length+8,s.length+7,s.length+6,x.blocks.toNat,a,img,x,pc⟩,rfl,rfl,rfl,?_⟩;obtain⟨K,hK⟩: ∃K:bz,(⟨s.length+8,s.length+7,s.length+6,x.blocks.toNat,a,img,x,pc⟩:bz)=K:=⟨_,rfl⟩;rw[hK];have kw:s.length+8=K.w:=by rw[<-hK]
 have ki:s.length+7=K.i:=by rw[<-hK]
 have kj:s.length+6=K.j:=by rw[<-hK]
 have km:K.m=x.blocks.toNat:=by rw[<-hK]
 have ka:a=K.a:=by rw[<-hK]
 have kg:img=K.img:=by rw[<-hK]
 have ks:x=K.sup:=by rw[<-hK]
 have kp:pc=K.pc:=by rw[<-hK]
 clear hK;obtain⟨R,hR⟩: ∃R,lz K=R:=⟨_,rfl⟩;rw[hR];unfold lz at hR;rw[<-ks,<-kg]at hR;rw[Zf,h.eq];unfold Hc;simp only[br];rw[bU];unfold dK;simp only[al,br,ae];have wG:([.int .i64 x.seq,.int .i64 x.blocks,.int .i64 x.bX,.int .i64 x.g,.int .i64 x.cA,.int .i64 x.used,.int .i64 x.free,.int .i64 x.dir,.slice 1 pc x.aG.length]:List DV)=dK x pc:=rfl;rw[wG,Zy,Zy,Zy,Zy];have WL:([.int .i64 0,.int .i64 0,.int .i64 0,.slice 0 none 0,.slice 0 none 0,.slice 0 none 0]:List DV)=cP pN 0 none 0 none 0 none:=rfl;simp only[WL];have l1: ∀c,(s++[some (c:bn)]).length=s.length+1:=fun c=>by simp
 have l2: ∀c d,((s++[some (c:bn)])++[some (d:bn)]).length=s.length+2:=fun c d=>by simp
 have l3: ∀c d e,(((s++[some (c:bn)])++[some (d:bn)])++[some (e:bn)]).length=s.length+3:=fun c d e=>by simp
 simp only[l1,l2,l3];obtain⟨S1,AE⟩: ∃S1,(((s++[some (⟨false,dK x pc⟩:bn)])++[some (⟨false,cP pN 0 none 0 none 0 none⟩:bn)])++[some (⟨false,[.ptr none]⟩:bn)])++[some (⟨false,[.int .i64 0]⟩:bn)]=S1:=⟨_,rfl⟩;rw[AE];have aJ:aw s S1:=by rw[<-AE];exact((((aw.new _ _).trans (aw.new _ _)).trans (aw.new _ _)).trans (aw.new _ _))
 have Jy:S1.length=s.length+4:=by rw[<-AE];simp
 have h9:S1[s.length]? =some (some ⟨false,dK x pc⟩):=by rw[<-AE];simp
 have Jc:lX S1 s.length (cP pN 0 none 0 none 0 none) (.ptr none) (.int .i64 0):=by
  rw[<-AE];exact⟨by simp,by simp,by simp,rfl⟩
 clear AE;rw[kQ h9 (by show 0+9<=9;omega)];show Ok _ (J.i .i64 (dK x pc) _ S1);unfold dK;simp only[al,br,ae];rw[wG];have hsR:=Zqc h.q80 (n+2) x pc S1 (hc.mono aJ) dz (by omega);rw[Zj hsR];simp only[ai,ae];obtain⟨S2,Jg⟩: ∃S2,S1++[some (⟨false,dK x pc⟩:bn)]=S2:=⟨_,rfl⟩;rw[Jg];have bj:aw S1 S2:=by rw[<-Jg];exact aw.new _ _
 have AT:S2.length=s.length+5:=by rw[<-Jg];simp[Jy]
 have Jb:=bj.get h9;have PD:lX S2 s.length (cP pN 0 none 0 none 0 none) (.ptr none) (.int .i64 0):=⟨bj.get Jc.st,bj.get Jc.re,bj.get Jc.er,rfl⟩;have TT:=aJ.trans bj;clear Jg aJ bj Jc h9 hsR;have we: ∀S3,Fx [s.length+1,s.length+2,s.length+3] S2 S3->aw s S3:=fun S3 k=>by
  refine Fx.UK ((Fx.pre [] TT).step k fun y hy=> .inr ?_);simp only[cd,j4,iB]at hy;omega
 cases yv:jz x with
 |false=>
  rw[yv,cond_false]at hR;obtain⟨S3,e3,CN,Qa⟩:=PD.Sk (β:=List DV) (cP pN 0 none 0 none 0 none) (.ptr none) (.int .i64 2) rfl;rw[bu,cond_true,e3,CN.tl,<-hR];exact .mk ⟨S3,rfl,we S3 Qa⟩
 |true=>
 rw[yv,cond_true]at hR;rw[bg,cond_false];obtain⟨qC,wH,Bc,uu,AN⟩:=ZlC yv;obtain⟨g1,g2,g3,g4,g5,g6⟩:=sr qC;refine Ok.nc (P:=UT K S2 s.length (bif decide (x.blocks<=((img.length/64:Nat):Int))then rW K else none)) ?_ ?_ ?_
 ·have uL: ∃m:Nat,x.blocks=(m:Int):=⟨x.blocks.toNat,by omega⟩
  rw[Zn Jb (d:= .int .i64 x.blocks) rfl];simp only[aS];have hw:af (((img.length:Nat):Int).tdiv 64)=((img.length/64:Nat):Int):=by
   rw[OT (by omega),aY];exact Zd (by omega) (by omega)
  rw[hw];cases jU:decide (x.blocks<=((img.length/64:Nat):Int))with
  |false=>
   rw[ZK h.fh (n+1) rfl,cond_false];exact .mk ⟨S2,rfl,.refl _ _⟩
  |true=>
  have Vx:=mU jU;rw[oU h.fh (n+1) rfl,cond_true];simp only[ae];rw[kQ Jb (by show 0+9<=9;omega)];show Ok _ (J.i .i64 (dK x pc) _ S2);unfold dK;simp only[al,br,ae];rw[Zn Jb (d:= .int .i64 x.blocks) rfl];simp only[aS];rw[Zy];obtain⟨S3,Jh⟩: ∃S3,S2++[some (⟨false,[.int .i64 0,.int .i64 1]⟩:bn)]=S3:=⟨_,rfl⟩;have cG:aw S2 S3:=by rw[<-Jh];exact aw.new _ _
  have Jz:S3.length=s.length+6:=by rw[<-Jh];simp[AT]
  have WD:Sl S3 (some (S2.length,0)) (ints [0,1]):=⟨false,[.int .i64 0,.int .i64 1],by rw[<-Jh];simp,aA _,rfl⟩;rw[Jh];obtain⟨m,hm⟩:=uL;obtain⟨S4,e4,gG,TD,T1⟩:=Nt h.Bh (n+2) m [0,1] (some (S2.length,0)) S3 (by omega) WD (by show 2<1000000;omega) (by show 2+4<=n+2;omega);have PG:m=K.m:=by rw[km,hm];rfl
  have e4':run Bd (n+2) 177 [.int .i64 x.blocks,.slice 1 (some (S2.length,0)) 2] S3=some (.val [.ptr (some (S3.length+1,0))],S4):=by rw[hm];exact e4
  rw[tQ e4' gG];simp only[fa,ae];have h94:=gG.get (cG.get Jb);rw[kQ h94 (by show 1+3<=9;omega)];show Ok _ (J.i .i64 (.int .i64 x.blocks::[.int .i64 x.bX,.int .i64 x.g]) _ S4);simp only[al,ae];rw[Zy];have hw8:S4.length=K.w:=by rw[TD,Jz];omega
  have sY:S3.length+1=K.i:=by rw[Jz];omega
  rw[hw8,sY];have WH:eU S4 false K.i K.j K.m (oJ K.m [0,1]):=by
   rw[sY]at T1;rw[<-kj,<-Jz,<-PG];exact T1
  obtain⟨S5,Ji⟩: ∃S5,S4++[some (⟨false,nN K (rX K.m) (cz 0 none 0) (cz 0 none 0) (cz 0 none 0) (cz 0 none 0)⟩:bn)]=S5:=⟨_,rfl⟩;have xZ:([.slice 1 a img.length,.int .i64 x.seq,.int .i64 x.blocks,.int .i64 x.bX,.int .i64 x.g,.int .i64 x.cA,.int .i64 x.used,.int .i64 x.free,.int .i64 x.dir,.slice 1 pc x.aG.length,.ptr (some (K.i,0)),.slice 0 none 0,.int .i64 x.blocks,.int .i64 x.bX,.int .i64 x.g,.slice 0 none 0,.slice 0 none 0,.slice 0 none 0,.int .i64 0]:List DV)=nN K (rX K.m) (cz 0 none 0) (cz 0 none 0) (cz 0 none 0) (cz 0 none 0):=by
   unfold nN;rw[<-ka,<-kg,<-ks,<-kp];rfl
  rw[xZ,Ji];have jl:aw S4 S5:=by rw[<-Ji];exact aw.new _ _
  have Yo:S5.length=s.length+9:=by rw[<-Ji];simp[TD,Jz]
  have Vp:S5[K.w]? =some (some ⟨false,nN K (rX K.m) (cz 0 none 0) (cz 0 none 0) (cz 0 none 0) (cz 0 none 0)⟩):=by rw[<-Ji,<-hw8];simp
  have JI:aw s S5:=((TT.trans cG).trans gG).trans jl;have hW:cW K S5 (rX K.m) [K.w,K.i,K.j] 0 none 0 none 0 none 0 none []:=by
   refine⟨Vp,.inr rfl,.inr rfl,.inr rfl,.inr rfl,bh.nil ⟨S5,rfl⟩,bh.nil ⟨S5,rfl⟩,bh.nil ⟨S5,rfl⟩,bh.nil ⟨S5,rfl⟩,rfl,WH.pre jl,?_,?_,rfl,?_⟩
   ·rw[<-ka,<-kg];exact ha.mono JI
   ·rw[<-ka]
    rintro b o rfl hm;have:=Sl.lt ha;simp only[cd,j4,iB]at hm;omega
   ·simp only[qS,cd,j4,iB,not_or]
    refine⟨⟨by omega,by omega⟩,by omega,not_false,.nil⟩
  have hC5:lX S5 s.length (cP pN 0 none 0 none 0 none) (.ptr none) (.int .i64 0):=PD.fx (Fx.pre [] ((cG.trans gG).trans jl)) fun y hy=>by cases hy
  have Tm:Fx [] S2 S5:=Fx.pre [] ((cG.trans gG).trans jl);have SY:xl K:=⟨by rw[<-ks,hm,PG],by rw[<-kg,<-PG];omega,by rw[<-kg];exact hl⟩;have fC: ∀y∈[K.w,K.i,K.j],S2.length<=y:=fun y hy=>by
   simp only[cd,j4,iB]at hy;omega
  have qE: ∀t,Fx [K.w,K.i,K.j] S5 t->Fx [] S2 t:=fun t k=>Tm.step k fun y hy=> .inr (fC y hy)
  obtain⟨W1,fX⟩: ∃W1,rW K=W1:=⟨_,rfl⟩;rw[fX];unfold rW at fX;have PH:0<=K.sup.used:=by rw[<-ks];exact wH
  have PI:K.sup.used<=1792:=by rw[<-ks];omega
  have hKf:0<=K.sup.free:=by rw[<-ks];exact uu
  have Vn:K.m<=3072:=by omega
  refine Ok.rn (Zzb h.q14 (n+2) SY hW.wk (by show 0<1000;omega) (by omega)) ?_ ?_
  ·intro t hp
   cases hr:na K (rX K.m)with
   |none=>rw[hr]at hp fX;obtain⟨_,e,hf⟩:=hp;cases e;rw[<-fX];exact⟨t,rfl,qE t hf⟩
   |some v=>rw[hr]at hp;obtain⟨_,_,e,_⟩:=hp;cases e
  intro ds t1 hp;cases iH:na K (rX K.m)with
  |none=>rw[iH]at hp;obtain⟨_,e,_⟩:=hp;cases e
  |some v1=>
  rw[iH]at hp fX;obtain⟨_,L1,e,Vr,jD,QI⟩:=hp;cases e;simp only at fX;simp only[ae];obtain⟨k1,k2,k3,k4⟩:=ZuH iH;obtain⟨gu,Ww⟩:=ZxT PH PI rfl iH;refine Ok.rn (Zzx h.q19 (n+2) Vr PH PI hKf gu Ww k1 k3 (by omega)) ?_ ?_
  ·intro t hp
   cases hr:qk K v1 with
   |none=>rw[hr]at hp fX;obtain⟨_,e,hf⟩:=hp;cases e;rw[<-fX];exact⟨t,rfl,qE t (jD.step hf QI)⟩
   |some v=>rw[hr]at hp;obtain⟨_,_,e,_⟩:=hp;cases e
  intro ds t2 hp;cases mB:qk K v1 with
  |none=>rw[mB]at hp;obtain⟨_,e,_⟩:=hp;cases e
  |some v2=>
  rw[mB]at hp fX;obtain⟨_,L2,e,SZ,eB,Wf⟩:=hp;cases e;simp only at fX;simp only[ae];obtain⟨q1,q2,q3,q4⟩:=ZwX mB;have Qg:Fx [K.w,K.i,K.j] S5 t2:=jD.step eB QI;have QJ:Nw [K.w,K.i,K.j] S5 L2:=QI.trans jD.1 Wf;have PT:v2.W.length=(K.m+63)/64:=by obtain⟨_,_,_,_,_,_,_,_,_,hw⟩:=SZ;exact hw.set.len
  have yh:v2.nodes=0:=by rw[q4,k4];rfl
  have wE:=Zwd K.m v2.W;refine Ok.rn (Zx0 h.q12 (n+2) SY SZ PH PI (by rw[q1];exact gu) (by rw[yh];exact yZ _) (by rw[yh];omega) Vn (by rw[q2,k1];rfl) (by omega)) ?_ ?_
  ·intro t hp
   cases hr:oa K v2 with
   |none=>rw[hr]at hp fX;obtain⟨_,e,hf⟩:=hp;cases e;rw[<-fX];exact⟨t,rfl,qE t (Qg.step hf QJ)⟩
   |some v=>rw[hr]at hp;obtain⟨_,_,e,_⟩:=hp;cases e
  intro ds t3 hp;cases Dv:oa K v2 with
  |none=>rw[Dv]at hp;obtain⟨_,e,_⟩:=hp;cases e
  |some v3=>
  rw[Dv]at hp fX;obtain⟨_,L3,e,Vs,dS,Wg⟩:=hp;cases e;simp only at fX;simp only[ae];obtain⟨w1,w2,w3⟩:=Zuu PT Dv;have Ts:Fx [K.w,K.i,K.j] S5 t3:=Qg.step dS QJ;have TN:Nw [K.w,K.i,K.j] S5 L3:=QJ.trans Qg.1 Wg;have cL:(v3.ax.length:Int)=K.sup.used:=by rw[w1,q1];exact gu
  have ux:v3.gens=[]:=by rw[w2,q3,k2];rfl
  obtain⟨y1,r1,y2,r2,y3,r3,y4,r4,hd,PU⟩:=Vs;rw[ZyB PU.cell (k:= .i64) (n:=v3.nodes) rfl,Zn PU.cell (d:= .int .i64 v3.nodes) rfl];simp only[aS];refine Ok.call (ZzS h.q21 (n+2) PU.wk (by omega) (by rw[ux];show 0<100000;omega) (by omega)) ?_;rintro _ ⟨t4,L4,rfl,Vt,ou,Wh⟩;refine⟨_,t4,rfl,?_⟩;simp only[al,ae];have Qh:Fx [K.w,K.i,K.j] S5 t4:=Ts.step ou TN;have Wi:Nw [K.w,K.i,K.j] S5 L4:=TN.trans Ts.1 Wh;obtain⟨y1,r1,y2,r2,y3,r3,y4,r4,hd,kT⟩:=Vt;have AL:(nN K (qJ v3) (cz y1 r1 (qJ v3).ax.length) (cz y2 r2 (qJ v3).av.length) (cz y3 r3 (qJ v3).gens.length) (cz y4 r4 (qJ v3).free.length))[18]? =some (.int .i64 v3.nodes):=rfl;rw[NT kT.cell AL,NT kT.cell AL];have P0:((((yE v3:Nat):Int))==v3.nodes)=decide (((yE v3:Nat):Int)=v3.nodes):=rfl;rw[P0];cases gr:decide (((yE v3:Nat):Int)=v3.nodes)with
  |false=>
   rw[gr,cond_false]at fX;rw[ZK h.fh (n+1) rfl,<-fX];exact .mk ⟨t4,rfl,qE t4 Qh⟩
  |true=>
  rw[gr,cond_true]at fX;rw[oU h.fh (n+1) rfl];simp only[ae];rw[NT kT.cell AL,kQ kT.cell (by show 12+6<=19;omega)];show Ok _ (J.i .i64 (.int .i64 K.sup.blocks:: .int .i64 K.sup.bX:: .int .i64 K.sup.g::cz y2 r2 (qJ v3).av.length::cz y3 r3 (qJ v3).gens.length::cz y4 r4 (qJ v3).free.length::[]) _ t4);unfold cz;simp only[al,Zm 2 y2 r2 _ kT.e2,Zm 1 y3 r3 _ kT.e3,Zm 1 y4 r4 _ kT.e4,ae];rw[Zn kT.cell (d:= .ptr (some (K.i,0))) rfl];simp only[KG];have sR:apart (some (s.length+1,0)) K.w=true:=by
   show(!Nat.beq K.w (s.length+1))=true;cases hbq:Nat.beq K.w (s.length+1)with
   |false=>rfl
   |true=>have:=bY hbq;omega
  rw[Ze sR];have Jd:lX t4 s.length (cP pN 0 none 0 none 0 none) (.ptr none) (.int .i64 0):=hC5.fx Qh fun y hy=>by
   have:=fC y hy;omega
  obtain⟨t5,e5,hC6,AO⟩:=Jd.Sk (β:=List DV) (cP (uZ K.sup (qJ v3)) 2 r2 1 r3 1 r4) (.ptr (some (K.i,0))) (.int .i64 0) rfl;refine Eq.mpr (congrArg (Ok _) (e5 (M.ret []))) ?_;rw[Zc,<-fX];have bA: ∀y∈L4,y∉[s.length+1,s.length+2,s.length+3]:=fun y hy hm=>by
   have h1:S2.length<=y:=by
    rcases Wi y hy with h2|h2
    ·exact fC y h2
    ·have:=Tm.1;omega
   simp only[cd,j4,iB]at hm;omega
  have Dr:=kT.own;refine .mk ⟨t5,[],2,r2,1,r3,1,r4,rfl,((qE t4 Qh).mono fun y hy=>by cases hy).trans AO,hC6,.inl rfl,.inl rfl,.inl rfl,⟨⟨hd,(kT.o2.fx AO fun y hy=>bA y (by rw[Dr];simp[hy])).sl,hU.aK (fun _ _ k=>Jd.aK hC6 AO k) kT.av.av⟩,(kT.o3.fx AO fun y hy=>bA y (by rw[Dr];simp[hy])).sl,(kT.o4.fx AO fun y hy=>bA y (by rw[Dr];simp[hy])).sl⟩,kT.set.fx AO (bA _ (by rw[Dr];simp)) (bA _ (by rw[Dr];simp))⟩
 ·intro S3 hp
  cases hb:(bif decide (x.blocks<=((img.length/64:Nat):Int))then rW K else none)with
  |some v=>rw[hb]at hp;obtain⟨_,_,_,_,_,_,_,_,e,_⟩:=hp;cases e
  |none=>
   rw[hb]at hp;obtain⟨_,e,hf⟩:=hp;cases e;rw[cond_true];have CN:=PD.fx hf fun y hy=>by cases hy
   obtain⟨S4,e4,Jd,C6⟩:=CN.Sk (β:=List DV) (cP pN 0 none 0 none 0 none) (.ptr none) (.int .i64 31) rfl;have PQ:R=some none:=by
    rw[<-hR];cases hd:decide (x.blocks<=((img.length/64:Nat):Int))with
    |true=>rw[hd]at hb;rw[cond_true]at hb⊢;rw[hb]
    |false=>rfl
   rw[PQ];refine Ok.nc (P:=fun o=>o=(.val [],S4)) (by rw[e4];exact .mk rfl) ?_ ?_
   ·intro S5 e;cases e
   ·intro ds S5 e
    cases e;rw[cond_false,Jd.tl];exact .mk ⟨S4,rfl,we S4 ((hf.mono fun y hy=>by cases hy).trans C6)⟩
 ·intro ds S3 hp
  cases hb:(bif decide (x.blocks<=((img.length/64:Nat):Int))then rW K else none)with
  |none=>rw[hb]at hp;obtain⟨_,e,_⟩:=hp;cases e
  |some v=>
   rw[hb]at hp;obtain⟨_,_,z2,p2,z3,p3,z4,p4,e,hf,CN,gv,iZ,DK,bE,cu⟩:=hp;cases e;rw[cond_false,CN.tl];have PQ:R=some (some v):=by
    rw[<-hR];cases hd:decide (x.blocks<=((img.length/64:Nat):Int))with
    |true=>rw[hd]at hb;rw[cond_true]at hb⊢;rw[hb]
    |false=>rw[hd]at hb;cases hb
   rw[PQ,<-km,ks];exact .mk ⟨S3,z2,p2,z3,p3,z4,p4,K.i,K.j,rfl,we S3 hf,gv,iZ,DK,bE,cu,by omega,by omega⟩
end Go.Gv.F
namespace Go.Gv.F
open Go.Gv
def oM (img:List UInt8) (x:eX):bz:=⟨0,0,0,x.blocks.toNat,none,img,x,none⟩
section
variable (w i j m:Nat) (a:Option (Nat×Nat)) (img:List UInt8) (x:eX) (pc:Option (Nat×Nat))
theorem ZsT: ∀(l:List bF) (k:Int) (v:aU),kP ⟨w,i,j,m,a,img,x,pc⟩ k l v=kP ⟨0,0,0,m,none,img,x,none⟩ k l v
 |[],_,_=>rfl
 |y::r,k,v=>by
  unfold kP;rw[show oh ⟨w,i,j,m,a,img,x,pc⟩ k y v=oh ⟨0,0,0,m,none,img,x,none⟩ k y v from rfl];cases oh ⟨0,0,0,m,none,img,x,none⟩ k y v with
  |none=>rfl
  |some v'=>exact ZsT r (k+1) v'
theorem ZAh (k slot:Int) (v:aU):kA ⟨w,i,j,m,a,img,x,pc⟩ k slot v=kA ⟨0,0,0,m,none,img,x,none⟩ k slot v:=by
 unfold kA;rw[show c8 ⟨w,i,j,m,a,img,x,pc⟩ k v=c8 ⟨0,0,0,m,none,img,x,none⟩ k v from rfl];cases c8 ⟨0,0,0,m,none,img,x,none⟩ k v with
 |none=>rfl
 |some q=>
  obtain⟨b,v1⟩:=q;cases b<;>first|rfl|exact ZsT w i j m a img x pc _ _ _
theorem Ob (cnt x5:Int): ∀(l:List Int) (k:Int) (v:aU),Z8 ⟨w,i,j,m,a,img,x,pc⟩ cnt x5 k l v=Z8 ⟨0,0,0,m,none,img,x,none⟩ cnt x5 k l v
 |[],_,_=>rfl
 |y::r,k,v=>by
  unfold Z8;rw[ZAh,Ob cnt x5 r (k+1) v];cases kA ⟨0,0,0,m,none,img,x,none⟩ y ((x5*16+k)*7) v with
  |none=>rfl
  |some v'=>simp only[Ob cnt x5 r (k+1) v']
theorem Oa (cnt:Int): ∀(l:List Int) (k:Int) (v:aU),lG ⟨w,i,j,m,a,img,x,pc⟩ cnt k l v=lG ⟨0,0,0,m,none,img,x,none⟩ cnt k l v
 |[],_,_=>rfl
 |y::r,k,v=>by
  unfold lG;rw[show c8 ⟨w,i,j,m,a,img,x,pc⟩ y v=c8 ⟨0,0,0,m,none,img,x,none⟩ y v from rfl,Oa cnt r (k+1) v];cases c8 ⟨0,0,0,m,none,img,x,none⟩ y v with
  |none=>rfl
  |some q=>
   obtain⟨b,v1⟩:=q;cases b<;>try rfl
   rename_i z;simp only[Ob];cases Z8 ⟨0,0,0,m,none,img,x,none⟩ cnt k 0 z v1 with
   |none=>rfl
   |some v2=>simp only[Oa cnt r (k+1) v2]
theorem Zze (v:aU):na ⟨w,i,j,m,a,img,x,pc⟩ v=na ⟨0,0,0,m,none,img,x,none⟩ v:=by
 unfold na;rw[show c8 ⟨w,i,j,m,a,img,x,pc⟩ x.cA v=c8 ⟨0,0,0,m,none,img,x,none⟩ x.cA v from rfl];cases c8 ⟨0,0,0,m,none,img,x,none⟩ x.cA v with
 |none=>rfl
 |some q=>
  obtain⟨b,v1⟩:=q;cases b<;>try rfl
  simp only[Oa]
theorem Ztw: ∀(f:Nat) (fl:List Bool) (k:Int) (v:aU),mZ ⟨w,i,j,m,a,img,x,pc⟩ f fl k v=mZ ⟨0,0,0,m,none,img,x,none⟩ f fl k v
 |0,_,_,_=>rfl
 |f+1,fl,k,v=>by
  unfold mZ;cases v.ax[(k-1).toNat]? with
  |none=>rfl
  |some y=>simp only[Ztw f]
theorem Ztm: ∀(l:List bF) (fl:List Bool),rk ⟨w,i,j,m,a,img,x,pc⟩ fl l=rk ⟨0,0,0,m,none,img,x,none⟩ fl l
 |[],_=>by unfold rk;rfl
 |y::r,fl=>by
  unfold rk;rw[Ztm r];rfl
theorem Zzu (v:aU):qk ⟨w,i,j,m,a,img,x,pc⟩ v=qk ⟨0,0,0,m,none,img,x,none⟩ v:=by
 unfold qk;rw[Ztw];simp only;cases mZ ⟨0,0,0,m,none,img,x,none⟩ (x.used.toNat+1) (List.replicate x.used.toNat false) x.free v with
 |none=>rfl
 |some q=>unfold xF;simp only[Ztm]
theorem Zuj: ∀(f:Nat) (out:List bc) (todo:List l9) (v:aU),kN ⟨w,i,j,m,a,img,x,pc⟩ f out todo v=kN ⟨0,0,0,m,none,img,x,none⟩ f out todo v
 |0,_,_,_=>rfl
 |f+1,out,[],v=>rfl
 |f+1,out,t::r,v=>by
  unfold kN;rw[show c8 ⟨w,i,j,m,a,img,x,pc⟩ t.block v=c8 ⟨0,0,0,m,none,img,x,none⟩ t.block v from rfl];cases c8 ⟨0,0,0,m,none,img,x,none⟩ t.block v with
  |none=>rfl
  |some q=>
   obtain⟨b,v1⟩:=q;cases b<;>try rfl
   rename_i z;simp only[Zuj f];rfl
theorem NK: ∀(l:List Int) (k:Int) (acc:List bc) (v:aU),kS ⟨w,i,j,m,a,img,x,pc⟩ k l acc v=kS ⟨0,0,0,m,none,img,x,none⟩ k l acc v
 |[],_,_,_=>rfl
 |y::r,k,acc,v=>by
  unfold kS;rw[show rU ⟨w,i,j,m,a,img,x,pc⟩ y k v=rU ⟨0,0,0,m,none,img,x,none⟩ y k v from Zuj w i j m a img x pc _ _ _ _,NK r (k+1) acc v];cases rU ⟨0,0,0,m,none,img,x,none⟩ y k v with
  |none=>rfl
  |some q=>
   obtain⟨es,v1⟩:=q;simp only[NK r (k+1)]
theorem ZvU: ∀(l:List Int) (k:Nat) (v:aU),qc ⟨w,i,j,m,a,img,x,pc⟩ k l v=qc ⟨0,0,0,m,none,img,x,none⟩ k l v
 |[],_,_=>rfl
 |y::r,k,v=>by
  unfold qc;rw[show c8 ⟨w,i,j,m,a,img,x,pc⟩ y v=c8 ⟨0,0,0,m,none,img,x,none⟩ y v from rfl];cases c8 ⟨0,0,0,m,none,img,x,none⟩ y v with
  |none=>rfl
  |some q=>
   obtain⟨b,v1⟩:=q;cases b<;>try rfl
   rename_i z;simp only[NK];cases kS ⟨0,0,0,m,none,img,x,none⟩ 0 z.cS [] v1 with
   |none=>rfl
   |some q=>
    obtain⟨es,v2⟩:=q;simp only[ZvU r (k+1)]
theorem ZxS (v:aU):oa ⟨w,i,j,m,a,img,x,pc⟩ v=oa ⟨0,0,0,m,none,img,x,none⟩ v:=by
 unfold oa;rw[show c8 ⟨w,i,j,m,a,img,x,pc⟩ x.dir v=c8 ⟨0,0,0,m,none,img,x,none⟩ x.dir v from rfl];cases c8 ⟨0,0,0,m,none,img,x,none⟩ x.dir v with
 |none=>rfl
 |some q=>
  obtain⟨b,v1⟩:=q;cases b<;>try rfl
  simp only[ZvU]
theorem ZzC:rW ⟨w,i,j,m,a,img,x,pc⟩=rW ⟨0,0,0,m,none,img,x,none⟩:=by
 unfold rW;simp only[Zze w i j m a img x pc,Zzu w i j m a img x pc,ZxS w i j m a img x pc]
end
theorem ZwO (K:bz) (h:K.m=K.sup.blocks.toNat):lz K=lz (oM K.img K.sup):=by
 obtain⟨w,i,j,m,a,img,sup,pc⟩:=K;simp only at h;subst h;unfold lz;rw[ZzC];rfl
theorem LO {Bd:Za} (h:zF Bd) (n:Nat) (a:Option (Nat×Nat)) (img:List UInt8) (x:eX) (pc:Option (Nat×Nat)) (s:St) (ha:dF s a img) (hc:Sl s pc (ints x.aG)) (hl:img.length<1000000) (dz:x.aG.length<1000) (hn:5000<=n):
  Ok (SH s x.blocks.toNat x (lz (oM img x))) (run Bd n 171 [.slice 1 a img.length,.agg (dK x pc)] s):=by
 obtain⟨K,h1,h2,h3,h4⟩:=ZtC h n a img x pc s ha hc hl dz hn;rw[ZwO K (by rw[h1,h3]),h2,h3]at h4;exact h4
end Go.Gv.F
