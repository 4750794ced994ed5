/- The text of a state: the program's and the document's. -/
import Derived.Test.YtegglibipjjblaaGreatDoorGvZPf
set_option linter.all false
namespace Go.Gv.F
open Go.Gv
variable {β:Type}
variable {Q:Out β×St->Prop} {c s s' s0:St} {α:Type}
theorem Ok.NQ {P:Out α×St->Prop} {m:M α} {K:α->M β} (h:Ok P (m s)) (k: ∀o,P o->∃ds s',o=(.val ds,s')/\aB s s'/\Ok Q (K ds s')):Ok Q (su m K s):=by
 have⟨o,e,p⟩:=h;obtain⟨ds,s',rfl,hp,hq⟩:=k o p;rw[qG e hp];exact hq
theorem Ok.cx {m:M α} {K:α->M β} {ds:α} (h:Ok (λo=>∃s',o=(.val ds,s')/\aB s s') (m s)) (k: ∀s',aB s s'->Ok Q (K ds s')):Ok Q (su m K s):=
 h.NQ λ_ ⟨s',e,p⟩=>⟨_,s',e,p,k s' p⟩
def rW (j:ai) (s s':St):Prop:=∀(i:Nat) (b:Option bO),s[i]? =some b->(∀o,j≠some (i,o))->s'[i]? =some b
theorem rW.pre (j:ai) (h:aB s s'):rW j s s':=λ_ _ e _=>h.get e
theorem rW.set (s:St) (r o:Nat) (b:Option bO):rW (some (r,o)) s (s.set r b):=by
 intro i b' e dM;grind
theorem rW.trans {j:ai} {a b:St} (h:rW j a b) (k:rW j b c):rW j a c:=λi x e dM=>k i x (h i x e dM) dM
theorem bm.Pz {a:ai} {cs:ah} (h:bm s0 s a cs) {sz n lim:Nat} (ds:ah) (hz:0<sz) (hn:cs.length=n*sz) (hd:ds.length=sz) (hl:n+1<=lim):
  ∃i s',s.length<=i/\bm s0 s' (some (i,0)) (cs++ds)/\Kp s s'/\rW a s s'/\∀K:ai->M β,(cd ds λi=>bS i 0 sz λcs'=>cm sz a n cs' 1 lim K) s=K (some (i,0)) s':=by
 have hb:Nat.beq 1 0=false:=rfl;rcases h.2 with⟨rfl,rfl⟩|⟨i,rfl,hi,hs⟩
 .have h0:n=0:=by
   rcases HF.1 (show n*sz=0 by simpa using hn.symm)with h|h
   .exact h
   .omega
  subst h0;refine⟨s.length+1,s++[some (⟨false,ds⟩:bO)]++[some (⟨false,ds⟩:bO)],by omega,⟨h.1.trans ((aB.new _ _).trans (.new _ _)),.inr ⟨s.length+1,rfl,by have:=h.1.len;omega,?_⟩⟩,((aB.new _ _).trans (.new _ _)).kp,rW.pre _ ((aB.new _ _).trans (.new _ _)),λK=>?_⟩
  .rw[kX (by simp)];simp
  .rw[Zz,Z8 (f:=false) (all:=ds) (by simp) (by omega),dK,dG (by omega)]
   unfold cm;rw[hb,gA hl,ae,af];simp
 .have jU:i<s.length:=by grind
  have mw:(s++[some (⟨false,ds⟩:bO)])[i]? =some (some (⟨false,cs⟩:bO)):=by rw[mH jU];exact hs
  have eC:(s++[some (⟨false,ds⟩:bO)]).ik i=some cs:=by grind[St.ik]
  refine⟨s.length+1,(s++[some (⟨false,ds⟩:bO)]).set i none++[some (⟨false,cs++ds⟩:bO)],by omega,⟨(tA (h.1.trans (.new _ _)) hi none).trans (.new _ _),.inr ⟨s.length+1,rfl,by omega,?_⟩⟩,(aB.new _ _).kp.trans ((Kp.set mw none).trans (aB.new _ _).kp),(rW.pre _ (aB.new _ _)).trans ((rW.set _ i 0 none).trans (rW.pre _ (aB.new _ _))),λK=>?_⟩
  .rw[kX (by simp)];simp
  .rw[Zz,Z8 (f:=false) (all:=ds) (by simp) (by omega),dK,dG (by omega)]
   unfold cm;simp only[hb,gA hl,ae,af,eC];rw[eO,gA (by omega)];grind
theorem kB.dQ {s:St} (k:Nat): ∀ {ds:ah} {xs:List dP},kB s ds xs->kB (Z1 k s) ds xs
 |_,[],h=>h
 |_,_::_,⟨z,p,t,hz,h1,h2,h3⟩=>⟨z,p,t,hz,h1,h2.dQ k,h3.dQ k⟩
theorem lh.dQ {s:St} {x:fJ} {p1 p2 p3:ai} (h:lh s x p1 p2 p3) (k:Nat):lh (Z1 k s) x p1 p2 p3:=
 let ⟨ds,h1,h2⟩:=h.hp
 ⟨⟨ds,h1.dQ k,h2.dQ k⟩,h.gn.dQ k,h.fr.dQ k⟩
end Go.Gv.F
namespace Go.Gv.F
open Go.Gv
def gI (e:bh):Prop:=LG e.slot/\LG e.gen/\LG e.key/\LG e.value
theorem ZnZ {Bd:Zh} (h:QT Bd) (n za zb:Nat) (l m:List bh) (p q:ai) (st:St) (KD:za=4\/p=none) (Yx:zb=4\/q=none) (hp:Sl st p (bY l)) (hq:Sl st q (bY m)) (hl:l.length<=50000) (hn:50100<=n):
  Ok (λo=>∃b,o=(.val [.b b],st)/\(b=true↔l=m)) (run Bd n 153 [.s za p l.length,.s zb q m.length] st):=by
 obtain _|n:=n;omega;rw[Ze,h.eq];unfold QP Q_ cN N_ sh Lb Li
 try dsimp only
 rw[Zg 4 za p _ KD,Zg 4 zb q _ Yx,aq];have no:l≠m->Ok (λo=>∃b,o=(.val [.b b],st)/\(b=true↔l=m)) ((ay [.b false]:M ah) st):=by
  intro hm;rw[Zd];exact .mk (by grind)
 by_cases hlm:l.length=m.length;rotate_left
 .rw[show((l.length:Int)==(m.length:Int))=false from eG.2 (by omega),bn,ae]
  grind
 rw[show((l.length:Int)==(m.length:Int))=true by rw[hlm];simp,bu,af,Za];refine Zi _ (λk y s=>∃i:Nat,y=[.i i]/\i<=l.length/\l.length-i<=k/\s=st/\∀j,j<i->l[j]? =m[j]?) ?_ l.length n _ _ (by grind) (by omega);rintro k _ s ⟨i,rfl,hi,hk,rfl,dt⟩ rec aN;simp only[av,aq];by_cases aw:i<l.length
 .obtain⟨i1,o1,rfl⟩:=hp.cH (by rw[Zt];omega)
  obtain⟨i2,o2,rfl⟩:=hq.cH (by rw[Zt];omega);have e1:l[i]? =some l[i]:=cq aw;have e2:m[i]? =some m[i]:=by grind
  generalize l[i]=a at e1;generalize m[i]=b at e2;rw[ax (show(i:Int)<(l.length:Int) by omega),ae,bd,Zb (Zj aw),bp,IK hp e1];unfold fk;simp only[av,aq];rw[bd,Zb (Zj),IK hq e2];unfold fk;simp only[av,aq];have Oq:((a.slot==b.slot)&&((a.gen==b.gen)&&((a.key==b.key)&&((a.value==b.value)&&true))))=true↔a=b:=by
   simp only[vQ,aY,uA];constructor
   .rintro⟨h1,h2,h3,h4⟩
    cases a;cases b;grind
   grind
  cases hb:((a.slot==b.slot)&&((a.gen==b.gen)&&((a.key==b.key)&&((a.value==b.value)&&true))))with
  |false=>
   rw[bn,ae];grind
  |true=>
   have:=Oq.1 hb;subst this;rw[bu,af,Zc];refine aN (l.length-(i+1)) _ _ (by omega) ⟨i+1,rfl,by omega,by omega,rfl,λj hj=>?_⟩;by_cases nA:j<i
   .exact dt j nA
   grind
 .rw[aF (show ¬(i:Int)<(l.length:Int) by omega),af,Zd]
  refine .mk ⟨true,rfl,?_⟩;simp only[true_iff];refine tk λj=>?_
  by_cases hj:j<i
  .exact dt j hj
  grind
variable {Bd:Zh} [h:HA Bd]
theorem Rn (n:Nat) (ws vs:ak) (a b:ai) (st:St) (ha:Sl st a (ints ws)) (hb:Sl st b (ints vs)) (hn:50100<=n) (hs:ws.length<=50000):
  Ok (λo=>o=(.val [.b (decide (ws=vs))],st)) (run Bd n 113 [.s 1 a ws.length,.s 1 b vs.length] st):=by
 obtain _|n:=n;omega;rw[Ze,h.aei];exact ZyU _ n ws vs 1 1 a b st (.inl rfl) (.inl rfl) ha hb (by omega) (by omega)
theorem ZlO (n:Nat) (x y:fJ) (z1 z2 z3:Nat) (p1 p2 p3:ai) (Lh z2' z3':Nat) (q1 q2 q3:ai) (st:St) (kQ:z1=2\/p1=none) (gS:z2=1\/p2=none) (mB:z3=1\/p3=none)
  (Yw:Lh=2\/q1=none) (ai1:z2'=1\/q2=none) (ai2:z3'=1\/q3=none) (hx:lh st x p1 p2 p3) (hy:lh st y q1 q2 q3) (sz:Dn x) (hn:50200<=n:=by omega):
  Ok (λo=>∃b,o=(.val [.b b],st)/\(b=true↔x=y)) (run Bd n 136 [.a (dE x z1 p1 z2 p2 z3 p3),.a (dE y Lh q1 z2' q2 z3' q3)] st):=by
 obtain _|n:=n;omega;rw[Ze,h.aek];unfold SN Zx aA Q_ cN xy N_ bq Lb Li wh
 try dsimp only
 have ag: ∀(v:fJ) (z1 z2 z3:Nat) (p1 p2 p3:ai) (l:ah) (K:ah->ah->M ah),ba (.a (dE v z1 p1 z2 p2 z3 p3)::l) K=K (dE v z1 p1 z2 p2 z3 p3) l:=λ_ _ _ _ _ _ _ _ _=>rfl
 simp only[ag];unfold dE;simp only[av,Zg 2 z1 p1 _ kQ,Zg 1 z2 p2 _ gS,Zg 1 z3 p3 _ mB,Zg 2 Lh q1 _ Yw,Zg 1 z2' q2 _ ai1,Zg 1 z3' q3 _ ai2,aq];have no:x≠y->Ok (λo=>∃b,o=(.val [.b b],st)/\(b=true↔x=y)) ((ay [.b false]:M ah) st):=by
  intro hm;rw[Zd];exact .mk (by grind)
 rw[Za];have hg:((x.blocks==y.blocks)&&((x.de==y.de)&&((x.g==y.g)&&true)))=true↔x.blocks=y.blocks/\x.de=y.de/\x.g=y.g:=by
  grind
 cases yv:((x.blocks==y.blocks)&&((x.de==y.de)&&((x.g==y.g)&&true)))with
 |false=>
  rw[bn,ae];simp only[au,aq];rw[Za,ae];simp only[au,aq];rw[Za,ae];simp only[au,aq];rw[ae];grind
 |true=>
 rw[bu,af];simp only[au,aq];rw[Za];by_cases hlen:x.aM.length=y.aM.length;rotate_left
 .rw[show((x.aM.length:Int)==(y.aM.length:Int))=false from eG.2 (by omega),bn,ae]
  simp only[au,aq];rw[Za,ae];simp only[au,aq];rw[ae];grind
 rw[show((x.aM.length:Int)==(y.aM.length:Int))=true by rw[hlen];grind,bu,af];refine Ok.call (Rn n x.aK y.aK p2 q2 st hx.gn hy.gn (by omega) sz.g) ?_;rintro _ rfl;refine⟨_,st,rfl,?_⟩;simp only[au,aq];rw[Za];by_cases yx:x.aK=y.aK;rotate_left
 .rw[aF yx,bn,ae]
  simp only[au,aq];rw[ae];exact no λe=>yx (by rw[e])
 rw[ax yx,bu,af];refine Ok.call (Rn n x.free y.free p3 q3 st hx.fr hy.fr (by omega) sz.f) ?_;rintro _ rfl;refine⟨_,st,rfl,?_⟩;simp only[au,aq];by_cases dS:x.free=y.free;rotate_left
 .rw[aF dS,bn,ae]
  exact no λe=>dS (by rw[e])
 rw[ax dS,bu,af,Za];have⟨ds,hs,hh⟩:=hx.hp;have⟨es,gs,gh⟩:=hy.hp;have dA:=sz.h.len;refine Zi _ (λk v s=>∃i:Nat,v=[.i i]/\i<=x.aM.length/\x.aM.length-i<=k/\s=st/\∀j,j<i->x.aM[j]? =y.aM[j]?) ?_ x.aM.length n _ _ (by grind) (by omega);rintro k _ s ⟨i,rfl,hi,hk,rfl,dt⟩ rec aN;simp only[av,aq];by_cases aw:i<x.aM.length
 .obtain⟨i1,o1,rfl⟩:=hs.cH (by rw[hh.len];omega)
  obtain⟨i2,o2,rfl⟩:=gs.cH (by rw[gh.len];omega);have e1:x.aM[i]? =some x.aM[i]:=cq aw;have e2:y.aM[i]? =some y.aM[i]:=by grind
  generalize x.aM[i]=a at e1;generalize y.aM[i]=b at e2;have hae:=sz.h.cj a (uw e1);rw[ax (show(i:Int)<(x.aM.length:Int) by omega),ae,bd,Zb (Zj aw),bp,FM hs hh e1];rw[zF];rw[bd,Zb (Zj),FM gs gh e2];rw[zF];rw[Za];by_cases wQ:a.name=b.name;rotate_left
  .rw[show(a.name==b.name)=false from eG.2 wQ,bn,ae]
   simp only[au,aq];rw[ae];grind
  have⟨pa,hpa,la⟩:=Mv (β:=ah) hs hh e1;have⟨pb,OP,lb⟩:=Mv (β:=ah) gs gh e2;rw[show(a.name==b.name)=true by rw[wQ];grind,bu,af,bd,Zb (Zj aw),la,bd,Zb (Zj),lb];refine Ok.call (ZnZ h.ai6 n 4 4 a.cj b.cj pa pb s (.inl rfl) (.inl rfl) hpa OP hae (by omega)) ?_;rintro _ ⟨c,rfl,hc⟩;refine⟨_,s,rfl,?_⟩;simp only[au,aq];cases c with
  |false=>
   rw[bn,ae];exact no (by grind)
  |true=>
   have fV:a=b:=by
    cases a;cases b;grind
   rw[bu,af,Zc];refine aN (x.aM.length-(i+1)) _ _ (by omega) ⟨i+1,rfl,by omega,by omega,rfl,λj hj=>?_⟩;by_cases nA:j<i
   .exact dt j nA
   grind
 .rw[aF (show ¬(i:Int)<(x.aM.length:Int) by omega),af,Zd]
  refine .mk ⟨true,rfl,?_⟩;simp only[true_iff];have hhp:x.aM=y.aM:=tk λj=>by
   by_cases hj:j<i
   .exact dt j hj
   grind
  cases x;cases y;grind
end Go.Gv.F
