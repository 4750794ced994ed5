/- How the machine's values, heap and registers stand for the model's. -/
import Derived.Test.YtegglibipjjblaaGreatDoorGvDef
import Derived.Laws.Sem
import Derived.Laws.World
import Derived.Laws.Cells
import Derived.Laws.Rows
import Derived.Deep.LoopGhost
namespace Go.Gv
theorem wj (b o j:Nat):(⟨b,o,none⟩:Addr).add j=⟨b,o+j,none⟩:=by
 unfold Addr.add;split
 ·rename_i h;subst h;rfl
 ·rfl
def jB (w:World) (b:Nat) (o:Obj):World:= { w with heap:=w.heap.setIfInBounds b o }
@[simp] theorem LJ (w : World) (b : Nat) (o : Obj) : (jB w b o).heap.size = w.heap.size := by simp [jB]
theorem I5 {w:World} {b:Nat} (h:b<w.heap.size) (o:Obj):(jB w b o).heap[b]? =some o:=by simp[jB,h]
theorem ZxS {w:World} {b k:Nat} (h:k≠b) (o:Obj):(jB w b o).heap[k]? =w.heap[k]? :=by
 simp only[jB];rw[xP (Ne.symm h)]
theorem Zyc (w:World) (b:Nat) (o o':Obj):jB (jB w b o) b o'=jB w b o':=by simp[jB]
theorem rL {α:Type} {a:Array α} {i:Nat} {x:α} (h:a[i]? =some x):i<a.size:=by
 rcases eM i a.size with h'|h'
 ·exact h'
 ·rw[Array.getElem?_eq_none h']at h;cases h
theorem ZxG {w:World} {b o:Nat} {c:Array Value} {ty:TypeId} {fr:Nat×Nat} (h:w.heap[b]? =some (.cells c ty fr)) (v:Value):
  w.setCell ⟨b,o,none⟩ v=jB w b (.cells (c.setIfInBounds o v) ty fr):=by
 have hb:=rL h;unfold World.setCell jB;congr 1;apply Fo;intro i;simp only[Array.getElem?_modify,Array.getElem?_setIfInBounds];by_cases e:b=i
 ·subst e
  have hx:w.heap[b]= .cells c ty fr:=by
   rw[Fq hb]at h;exact sP h
  simp[hb,hx]
 ·simp[e]
def mU:Array Value->Nat->List Value->Array Value
 |c,_,[]=>c
 |c,k,v::r=>mU (c.setIfInBounds k v) (k+1) r
@[simp] theorem YX : ∀ (vs : List Value) (c : Array Value) (k : Nat), (mU c k vs).size = c.size
 |[],_,_=>rfl
 |v::r,c,k=>by rw[mU,YX r];simp
theorem JB: ∀(vs:List Value) (c:Array Value) (k j:Nat),k+vs.length<=c.size->
  (mU c k vs)[j]? =if k<=j/\j<k+vs.length then vs[j-k]? else c[j]?
 |[],c,k,j,_=>by simp only[mU,uk];rw[ax (by omega)]
 |v::r,c,k,j,h=>by
  simp only[dF]at h⊢;rw[mU,JB r _ _ _ (by simp;omega)];by_cases h1:k+1<=j/\j<k+1+r.length
  ·rw[aG h1,aG (by omega)]
   obtain⟨d,hd⟩: ∃d,j-k=d+1:=⟨j-k-1,by omega⟩;rw[hd,mq];congr 1;omega
  ·rw[ax h1]
   by_cases h2:j=k
   ·subst h2
    rw[aG (by omega),qw,zL (by omega)];rfl
   ·rw[ax (by omega),xP (by omega)]
theorem ML (P:Program) (b o:Nat) (ty:TypeId) (fr:Nat×Nat): ∀(vs:List Value) (i:Nat) (w:World) (c:Array Value),
  w.heap[b]? =some (.cells c ty fr)->(∀v∈vs,v.oneCell'=true)->o+i+vs.length<=c.size->
  (∀j,i<=j->j<i+vs.length->(decide (fr.1<=o+j)&&decide (o+j<fr.2))=false)->
  (storeCells ⟨b,o,none⟩ vs i).run P w= .ok () (jB w b (.cells (mU c (o+i) vs) ty fr))
 |[],i,w,c,hb,_,_,_=>by
  have:jB w b (.cells c ty fr)=w:=by
   unfold jB;cases w with
   |mk heap tape drawn os output=>
    congr 1;apply Fo;intro k;have aj:=rL hb;rw[Array.getElem?_setIfInBounds];by_cases e:b=k
    ·subst e;simp only[iM];rw[aG aj];exact hb.symm
    ·simp[e]
  simp only[mU,storeCells,this];rfl
 |v::r,i,w,c,hb,h1,hs,hf=>by
  simp only[dF]at hs hf;have u9:w.cell? ⟨b,o+i,none⟩=some c[o+i]:=by rw[cell_of_row w b (o+i) c ty fr hb];exact Fq (by omega)
  have fR:w.frozen? ⟨b,o+i,none⟩=false:=by
   have:=hf i (ay _) (by omega);simp only[World.frozen?,hb];exact this
  have bB:(store ((⟨b,o,none⟩:Addr).add i) v).run P w= .ok () (w.setCell ⟨b,o+i,none⟩ v):=by
   rw[wj,run_store P w _ v _ (h1 v (by simp)),u9];simp only[fR];rfl
  have aj:=rL hb;simp only[storeCells,Sem.run_bind,bB,Result.andThen_ok];rw[ZxG hb,ML P b o ty fr r (i+1) _ (c.setIfInBounds (o+i) v) (I5 aj _) (fun x hx=>h1 x (by simp[hx])) (by simp;omega)
   (fun j hj oH=>hf j (by omega) (by omega)),Zyc]
  simp only[mU];rfl
theorem Zsm: ∀(cs ds:List DV),(ov cs ds).length=cs.length
 |[],ds=>by cases ds<;>rfl
 |_::cs,[]=>rfl
 |_::cs,_::ds=>by simp[ov,Zsm cs ds]
theorem ZyY: ∀(cs ds:List DV) (j:Nat),ds.length<=cs.length->(ov cs ds)[j]? =if j<ds.length then ds[j]? else cs[j]?
 |[],[],j,_=>by simp[ov]
 |[],_::_,j,h=>by simp at h
 |c::cs,[],j,_=>by simp[ov]
 |c::cs,d::ds,0,_=>by simp[ov]
 |c::cs,d::ds,j+1,h=>by
  simp only[dF]at h;simp only[ov,mq,dF];rw[ZyY cs ds j (by omega)];by_cases e:j<ds.length
  ·rw[aG e,aG (by omega)]
  ·rw[ax e,ax (by omega)]
theorem CD: ∀(cs:List DV) (k:Nat) (ds:List DV),(bC cs k ds).length=cs.length
 |cs,0,ds=>by cases cs<;>simp[bC,Zsm]
 |[],k+1,ds=>rfl
 |c::cs,k+1,ds=>by simp[bC,CD cs k ds]
theorem C7: ∀(cs:List DV) (k:Nat) (ds:List DV) (j:Nat),k+ds.length<=cs.length->
  (bC cs k ds)[j]? =if k<=j/\j<k+ds.length then ds[j-k]? else cs[j]?
 |cs,0,ds,j,h=>by
  have:bC cs 0 ds=ov cs ds:=by cases cs<;>rfl
  rw[this,ZyY cs ds j (by omega)];by_cases e:j<ds.length
  ·rw[aG e,aG (by omega),qy]
  ·rw[ax e,ax (by omega)]
 |[],k+1,ds,j,h=>by simp at h
 |c::cs,k+1,ds,0,h=>by simp[bC]
 |c::cs,k+1,ds,j+1,h=>by
  simp only[dF]at h;simp only[bC,mq];rw[C7 cs k ds j (by omega)];by_cases e:k<=j/\j<k+ds.length
  ·rw[aG e,aG (by omega)];congr 1;omega
  ·rw[ax e,ax (by omega)]
structure CB where
 b:Nat
 o:Nat
 m:Nat
abbrev cB:=Nat ⊕ Nat
abbrev Ps:=cB->Option CB
mutual
inductive VR (C:aP) (ψ:Ps):DV->Value->Prop
 |bool (b:Bool):VR C ψ (.bool b) (.bool b)
 |int (k:IntKind) (n:Int):VR C ψ (.int k n) (.int k n)
 |str (s:ByteArray):VR C ψ (.str s.data.toList) (.string s)
 |EP:VR C ψ (.ptr none) (.pointer none)
 |ptr (i o:Nat) (cb:CB):ψ (.inl i)=some cb->VR C ψ (.ptr (some (i,o))) (.pointer (some ⟨cb.b,cb.o+o,none⟩))
 |oU (sz:Nat):VR C ψ (.slice sz none 0) (.slice none 0 0)
 |slice (sz i o n:Nat) (cb:CB) (a:Addr) (cap:Nat):ψ (.inl i)=some cb->n<=cap->(0<cap->a=⟨cb.b,cb.o+o,none⟩/\o+cap*sz<=cb.m)->
   VR C ψ (.slice sz (some (i,o)) n) (.slice (some a) n cap)
 |agg (ds:List DV) (vs:Array Value):aS C ψ ds vs.toList->ds.all one=true->VR C ψ (.agg ds) (.agg vs)
 |func (k:Nat) (fs cs:List DV) (vf vc:Array Value):C.cov k=true->aS C ψ fs vf.toList->aS C ψ cs vc.toList->
   VR C ψ (.func (C.fn k) fs cs) (.func (.func k) vf vc)
 |nilFunc:VR C ψ .nilFunc .nilFunc
 |iface (t:Nat) (d:DV) (v:Value):VR C ψ d v->VR C ψ (.iface (C.ty t) d) (.iface t v)
 |nilIface:VR C ψ .nilIface .nilIface
inductive aS (C:aP) (ψ:Ps):List DV->List Value->Prop
 |nil:aS C ψ [] []
 |cons (d:DV) (v:Value) (ds:List DV) (vs:List Value):VR C ψ d v->aS C ψ ds vs->aS C ψ (d::ds) (v::vs)
end
section
variable {C:aP} {ψ ψ':Ps}
mutual
theorem VR.mono (h: ∀i cb,ψ (.inl i)=some cb->ψ' (.inl i)=some cb): ∀ {d:DV} {v:Value},VR C ψ d v->VR C ψ' d v
 |_,_,.bool b=> .bool b
 |_,_,.int k n=> .int k n
 |_,_,.str s=> .str s
 |_,_,.EP=> .EP
 |_,_,.ptr i o cb e=> .ptr i o cb (h _ _ e)
 |_,_,.oU sz=> .oU sz
 |_,_,.slice sz i o n cb a cap e h1 h2=> .slice sz i o n cb a cap (h _ _ e) h1 h2
 |_,_,.agg ds vs r h1=> .agg ds vs (aS.mono h r) h1
 |_,_,.func k fs cs vf vc e r1 r2=> .func k fs cs vf vc e (aS.mono h r1) (aS.mono h r2)
 |_,_,.nilFunc=> .nilFunc
 |_,_,.iface t d v r=> .iface t d v (VR.mono h r)
 |_,_,.nilIface=> .nilIface
theorem aS.mono (h: ∀i cb,ψ (.inl i)=some cb->ψ' (.inl i)=some cb): ∀ {ds:List DV} {vs:List Value},aS C ψ ds vs->aS C ψ' ds vs
 |_,_,.nil=> .nil
 |_,_,.cons d v ds vs r rs=> .cons d v ds vs (VR.mono h r) (aS.mono h rs)
end
theorem aS.len: ∀ {ds:List DV} {vs:List Value},aS C ψ ds vs->ds.length=vs.length
 |_,_,.nil=>rfl
 |_,_,.cons _ _ _ _ _ rs=>by simp[aS.len rs]
theorem aS.get: ∀ {ds:List DV} {vs:List Value},aS C ψ ds vs->∀ {j:Nat} {d:DV},ds[j]? =some d->∃v,vs[j]? =some v/\VR C ψ d v
 |_,_,.nil,j,d,h=>by simp at h
 |_,_,.cons d0 v0 ds vs r rs,0,d,h=>by
  simp only[gV,cX]at h;subst h;exact⟨v0,rfl,r⟩
 |_,_,.cons d0 v0 ds vs r rs,j+1,d,h=>by
  simp only[mq]at h⊢;exact aS.get rs h
theorem aS.of: ∀(ds:List DV) (vs:List Value),ds.length=vs.length->(∀(j:Nat) (d:DV) (v:Value),ds[j]? =some d->vs[j]? =some v->VR C ψ d v)->aS C ψ ds vs
 |[],[],_,_=> .nil
 |[],_::_,h,_=>by simp at h
 |_::_,[],h,_=>by simp at h
 |d::ds,v::vs,h,hp=> .cons d v ds vs (hp 0 d v rfl rfl) (aS.of ds vs (by simpa using h) fun j d v h1 h2=>hp (j+1) d v (by simpa using h1) (by simpa using h2))
theorem aS.append {ds ja:List DV} {vs gI:List Value} (h:aS C ψ ds vs) (h':aS C ψ ja gI):aS C ψ (ds++ja) (vs++gI):=by
 have e:=h.len;have e':=h'.len;refine aS.of _ _ (by simp[e,e']) fun j d v h1 h2=>?_
 by_cases hj:j<ds.length
 ·rw[iL hj]at h1
  rw[iL (by omega)]at h2;obtain⟨v',cQ,hr⟩:=h.get h1;rw[h2]at cQ;cases cQ;exact hr
 ·rw[gU (by omega)]at h1
  rw[gU (by omega)]at h2;rw[<-e]at h2;obtain⟨v',cQ,hr⟩:=h'.get h1;rw[h2]at cQ;cases cQ;exact hr
theorem aS.take {ds:List DV} {vs:List Value} (h:aS C ψ ds vs) (n:Nat):aS C ψ (ds.take n) (vs.take n):=by
 refine aS.of _ _ (by simp[h.len]) fun j d v h1 h2=>?_
 rw[lg]at h1 h2;split at h1
 ·rw[aG ‹_›]at h2
  obtain⟨v',cQ,hr⟩:=h.get h1;rw[h2]at cQ;cases cQ;exact hr
 ·cases h1
theorem aS.drop {ds:List DV} {vs:List Value} (h:aS C ψ ds vs) (n:Nat):aS C ψ (ds.drop n) (vs.drop n):=by
 refine aS.of _ _ (by simp[h.len]) fun j d v h1 h2=>?_
 rw[lR]at h1 h2;obtain⟨v',cQ,hr⟩:=h.get h1;rw[h2]at cQ;cases cQ;exact hr
theorem VR.YU {d:DV} {v:Value} (h:VR C ψ d v) (h1:one d=true):v.oneCell'=true:=by
 cases h<;>first|rfl|simp[one]at h1
theorem VR.Up {d:DV} {v:Value} (h:VR C ψ d v) (h1:one d=true):v.cells= #[v]:=by
 cases h<;>first|rfl|simp[one]at h1
theorem aS.V0 {ds:List DV} {vs:List Value} (h:aS C ψ ds vs) (h1:ds.all one=true): ∀v∈vs,v.oneCell'=true:=by
 intro v hv;obtain⟨j,hj⟩:=xR hv;have hl:=h.len;have aj:j<vs.length:=by
  rcases eM j vs.length with h'|h'
  ·exact h'
  ·rw[dT h']at hj;cases hj
 have hd:ds[j]? =some ds[j]:=ba (by omega);obtain⟨v',cQ,hr⟩:=h.get hd;rw[hj]at cQ;cases cQ;exact hr.YU (gv.1 h1 _ (fK _))
end
inductive AB where
 |cells (jc:Bool) (cs:List DV)
 |iter (s:List UInt8) (pos:Nat)
def AB.fE:AB->Bool
 | .cells f _=> !f
 | .iter _ _=>true
def cq (s:St) (i:Nat):Option AB:=
 match s[i]? with
 |some (some b)=>some (.cells b.jc b.cells)
 |_=>none
abbrev Kn:=cB->AB->Prop
def CR (E:Env) (s:St):Kn
 | .inl i,ab=>cq s i=some ab
 | .inr v,ab=>(∃t n cs,E.get t= .loc v n cs/\ab= .cells false cs)\/(∃t l p,E.get t= .it v l p/\ab= .iter l p)
def Holds (C:aP) (ψ:Ps) (w:World) (cb:CB):AB->Prop
 | .cells f cs=>cs.length<=cb.m/\cs.all one=true/\(∀j d,cs[j]? =some d->∃v,w.cell? ⟨cb.b,cb.o+j,none⟩=some v/\VR C ψ d v)/\
   (f=false->∃c ty fr,w.heap[cb.b]? =some (.cells c ty fr)/\cb.o+cb.m<=c.size/\
    ∀j,j<cb.m->(decide (fr.1<=cb.o+j)&&decide (cb.o+j<fr.2))=false)
 | .iter s p=>∃s',w.heap[cb.b]? =some (.stringIter s' p)/\s'.data.toList=s
structure dU (C:aP) (ψ:Ps) (Q:Kn) (w:World):Prop where
 holds: ∀h cb ab,ψ h=some cb->Q h ab->Holds C ψ w cb ab
 pJ: ∀h cb ab h' eN bO,ψ h=some cb->Q h ab->ab.fE=true->ψ h'=some eN->Q h' bO->h≠h'->eN.b≠cb.b
def qA (ψ:Ps) (Q:Kn) (b:Nat):Prop:=∃h cb ab,ψ h=some cb/\Q h ab/\ab.fE=true/\cb.b=b
def oi (ψ:Ps) (w:World):Prop:=∀h cb,ψ h=some cb->cb.b<w.heap.size
def Glob (C:aP) (ψ:Ps):Prop:=∀g,C.wL g=true->∃cb,ψ (.inl (C.gl g))=some cb/\cb.b=g/\cb.o=0
theorem Holds.same {C:aP} {ψ ψ':Ps} {w w':World} {cb:CB} {ab:AB} (hm: ∀i cb,ψ (.inl i)=some cb->ψ' (.inl i)=some cb) (e:w'.heap[cb.b]? =w.heap[cb.b]?)
  (h:Holds C ψ w cb ab):Holds C ψ' w' cb ab:=by
 have hc: ∀j,w'.cell? ⟨cb.b,j,none⟩=w.cell? ⟨cb.b,j,none⟩:=fun j=>by simp only[World.cell?,e]
 cases ab with
 |cells f cs=>
  refine⟨h.1,h.2.1,fun j d hd=>?_,fun hf=>?_⟩
  ·obtain⟨v,hv,hr⟩:=h.2.2.1 j d hd
   exact⟨v,by rw[hc];exact hv,hr.mono hm⟩
  ·obtain⟨c,ty,fr,hb,h2,h3⟩:=h.2.2.2 hf
   exact⟨c,ty,fr,by rw[e];exact hb,h2,h3⟩
 |iter s p=>
  obtain⟨s',hb,hs⟩:=h;exact⟨s',by rw[e];exact hb,hs⟩
def qz (w w':World):Prop:=w'.output=w.output/\w.drawn<=w'.drawn
theorem qz.refl (w:World):qz w w:=⟨rfl,ay _⟩
theorem qz.trans {a b c:World} (h:qz a b) (k:qz b c):qz a c:=⟨k.1.trans h.1,fw h.2 k.2⟩
structure Ext (ψ:Ps) (Q:Kn) (w:World) (ψ':Ps) (Q':Kn) (w':World):Prop where
 mono: ∀h cb,ψ h=some cb->ψ' h=some cb
 oS: ∀h cb,ψ' h=some cb->ψ h=some cb\/(w.heap.size<=cb.b\/qA ψ Q cb.b)/\cb.b<w'.heap.size
 size:w.heap.size<=w'.heap.size
 gF: ∀b,b<w.heap.size->¬qA ψ Q b->w'.heap[b]? =w.heap[b]?
 fE: ∀b,qA ψ' Q' b->qA ψ Q b\/w.heap.size<=b
 live: ∀h cb x,ψ h=some cb->Q' h x->∃y,Q h y
 tape:w'.tape=w.tape
 os:w'.os=w.os
 output:qz w w'
theorem Ext.refl (ψ:Ps) (Q:Kn) (w:World):Ext ψ Q w ψ Q w:=
 ⟨fun _ _ h=>h,fun _ _ h=> .inl h,ay _,fun _ _ _=>rfl,fun _ h=> .inl h,fun _ _ x _ h=>⟨x,h⟩,rfl,rfl,.refl _⟩
theorem Ext.trans {ψ ψ' BW:Ps} {Q Q' Ac:Kn} {w w' qj:World} (h:Ext ψ Q w ψ' Q' w') (k:Ext ψ' Q' w' BW Ac qj):Ext ψ Q w BW Ac qj where
 mono:=fun i cb e=>k.mono i cb (h.mono i cb e)
 oS:=fun i cb e=>by
  rcases k.oS i cb e with e|⟨e,e2⟩
  ·rcases h.oS i cb e with e|⟨e,e2⟩
   ·exact .inl e
   ·exact .inr ⟨e,jH e2 k.size⟩
  ·refine .inr ⟨?_,e2⟩
   rcases e with e|e
   ·exact .inl (fw h.size e)
   ·rcases h.fE _ e with e|e
    ·exact .inr e
    ·exact .inl e
 size:=fw h.size k.size
 gF:=fun b hb hn=>by
  rw[k.gF b (jH hb h.size) (fun e=>by rcases h.fE b e with e|e;exact hn e;omega),h.gF b hb hn]
 fE:=fun b e=>by
  rcases k.fE b e with e|e
  ·exact h.fE b e
  ·exact .inr (fw h.size e)
 live:=fun i cb x e hx=>by
  obtain⟨y,hy⟩:=k.live i cb x (h.mono i cb e) hx;exact h.live i cb y e hy
 tape:=k.tape.trans h.tape
 os:=k.os.trans h.os
 output:=h.output.trans k.output
theorem dU.weaken {C:aP} {ψ:Ps} {Q Q':Kn} {w:World} (h:dU C ψ Q w) (hq: ∀h ab cb,ψ h=some cb->Q' h ab->Q h ab):dU C ψ Q' w:=
 ⟨fun k cb ab e q=>h.holds k cb ab e (hq k ab cb e q),fun k cb ab k' eN bO e q hs e' q' hn=>h.pJ k cb ab k' eN bO e (hq _ _ _ e q) hs e' (hq _ _ _ e' q') hn⟩
theorem Ext.weaken {ψ ψ':Ps} {Q Q' Ac:Kn} {w w':World} (h:Ext ψ Q w ψ' Q' w') (hq: ∀k ab cb,ψ' k=some cb->Ac k ab->Q' k ab):Ext ψ Q w ψ' Ac w':=
 { h with
  fE:=fun b ⟨k,cb,ab,e,q,hs,hb⟩=>h.fE b ⟨k,cb,ab,e,hq _ _ _ e q,hs,hb⟩
  live:=fun k cb x e q=>h.live k cb x e (hq _ _ _ (h.mono _ _ e) q) }
theorem Ext.fh {ψ ψ':Ps} {Q Q':Kn} {w w':World} (h:Ext ψ Q w ψ' Q' w') (hb:oi ψ w):oi ψ' w':=fun k cb e=>by
 rcases h.oS k cb e with e|⟨_,e⟩
 ·exact jH (hb k cb e) h.size
 ·exact e
theorem Ext.jd {C:aP} {ψ ψ':Ps} {Q Q':Kn} {w w':World} (h:Ext ψ Q w ψ' Q' w') (hg:Glob C ψ):Glob C ψ':=fun g e=>
 let ⟨cb,e1,e2⟩:=hg g e
 ⟨cb,h.mono _ _ e1,e2⟩
def lO (ψ:Ps) (h:cB) (cb:CB):Ps:=fun k=>if k=h then some cb else ψ k
def ue (Q:Kn) (h:cB) (ab:AB):Kn:=fun k x=>(k=h/\x=ab)\/(k≠h/\Q k x)
theorem nk (ψ:Ps) (h:cB) (cb:CB):lO ψ h cb h=some cb:=by simp[lO]
theorem mc (ψ:Ps) {h k:cB} (cb:CB) (e:k≠h):lO ψ h cb k=ψ k:=by simp[lO,e]
theorem rQ {ψ:Ps} {h:cB} {cb:CB} (hf:ψ h=none): ∀k c,ψ k=some c->lO ψ h cb k=some c:=by
 intro k c e;by_cases ek:k=h
 ·subst ek;rw[hf]at e;cases e
 ·rw[mc _ _ ek];exact e
structure fF (w w':World):Prop where
 ej: ∀b,b<w.heap.size->w'.heap[b]? =w.heap[b]?
 size:w.heap.size<=w'.heap.size
 tape:w'.tape=w.tape
 os:w'.os=w.os
 output:qz w w'
theorem fF.refl (w:World):fF w w:=⟨fun _ _=>rfl,ay _,rfl,rfl,.refl w⟩
theorem fF.drew (w:World):fF w w.drew:=⟨fun _ _=>rfl,ay _,rfl,rfl,rfl,Nat.le_succ _⟩
theorem fF.alloc (w:World) (o:Obj):fF w (w.alloc o):=
 ⟨fun b h=>heap_alloc_old w o b h,by simp,rfl,rfl,rfl,ay _⟩
theorem fF.trans {w w' qj:World} (h:fF w w') (k:fF w' qj):fF w qj:=
 ⟨fun b hb=>(k.ej b (jH hb h.size)).trans (h.ej b hb),fw h.size k.size,k.tape.trans h.tape,k.os.trans h.os,h.output.trans k.output⟩
theorem dU.more {C:aP} {ψ:Ps} {Q:Kn} {w w':World} (h:dU C ψ Q w) (hb:oi ψ w) (hm:fF w w'):dU C ψ Q w':=
 ⟨fun k cb ab e q=>(h.holds k cb ab e q).same (fun _ _ e=>e) (hm.ej _ (hb k cb e)),h.pJ⟩
theorem Ext.more {ψ:Ps} {Q:Kn} {w w':World} (hm:fF w w'):Ext ψ Q w ψ Q w':=
 ⟨fun _ _ h=>h,fun _ _ h=> .inl h,hm.size,fun b hb _=>hm.ej b hb,fun _ h=> .inl h,fun _ _ x _ h=>⟨x,h⟩,hm.tape,hm.os,hm.output⟩
theorem dU.new {C:aP} {ψ:Ps} {Q:Kn} {w w':World} {h:cB} {cb:CB} {ab:AB} (hs:dU C ψ Q w) (hb:oi ψ w) (hm:fF w w') (hf:ψ h=none)
  (h1:w.heap.size<=cb.b) (hh:Holds C (lO ψ h cb) w' cb ab):dU C (lO ψ h cb) (ue Q h ab) w':=by
 have mono:=rQ (cb:=cb) hf;have ej: ∀k c x,lO ψ h cb k=some c->ue Q h ab k x->(k=h/\c=cb/\x=ab)\/(k≠h/\ψ k=some c/\Q k x):=by
  intro k c x e q;rcases q with⟨rfl,rfl⟩|⟨hk,q⟩
  ·rw[nk]at e;cases e;exact .inl ⟨rfl,rfl,rfl⟩
  ·rw[mc _ _ hk]at e;exact .inr ⟨hk,e,q⟩
 constructor
 ·intro k c x e q
  rcases ej k c x e q with⟨rfl,rfl,rfl⟩|⟨_,e,q⟩
  ·exact hh
  ·exact(hs.holds k c x e q).same (fun i c e=>mono _ _ e) (hm.ej _ (hb k c e))
 ·intro k c x k' c' x' e q mP e' q' hn
  rcases ej k c x e q with⟨rfl,rfl,rfl⟩|⟨hk,e,q⟩<;>rcases ej k' c' x' e' q' with⟨rfl,rfl,rfl⟩|⟨tJ,e',q'⟩
  ·exact absurd rfl hn
  ·have:=hb k' c' (by assumption);omega
  ·have:=hb k c (by assumption);omega
  ·exact hs.pJ k c x k' c' x' e q mP e' q' hn
theorem Ext.new {ψ:Ps} {Q:Kn} {w w':World} {h:cB} {cb:CB} {ab:AB} (hm:fF w w') (hf:ψ h=none)
  (h1:w.heap.size<=cb.b) (h2:cb.b<w'.heap.size):Ext ψ Q w (lO ψ h cb) (ue Q h ab) w' where
 mono:=rQ hf
 oS:=fun k c e=>by
  by_cases ek:k=h
  ·subst ek;rw[nk]at e;cases e;exact .inr ⟨.inl h1,h2⟩
  ·rw[mc _ _ ek]at e;exact .inl e
 size:=hm.size
 gF:=fun b hb _=>hm.ej b hb
 fE:=fun b ⟨k,c,x,e,q,hs,hb⟩=>by
  rcases q with⟨rfl,rfl⟩|⟨hk,q⟩
  ·rw[nk]at e;cases e;exact .inr (hb▸h1)
  ·rw[mc _ _ hk]at e;exact .inl ⟨k,c,x,e,q,hs,hb⟩
 live:=fun k c x e q=>by
  rcases q with⟨rfl,rfl⟩|⟨hk,q⟩
  ·rw[hf]at e;cases e
  ·exact⟨x,q⟩
 tape:=hm.tape
 os:=hm.os
 output:=hm.output
theorem dU.set {C:aP} {ψ:Ps} {Q:Kn} {w w':World} {h:cB} {cb:CB} {ab bO:AB} (hs:dU C ψ Q w) (he:ψ h=some cb) (hq:Q h ab) (mP:ab.fE=true)
  (hk: ∀b,b≠cb.b->w'.heap[b]? =w.heap[b]?) (hh:Holds C ψ w' cb bO):dU C ψ (ue Q h bO) w':=by
 have ej: ∀k c x,ψ k=some c->ue Q h bO k x->(k=h/\c=cb/\x=bO)\/(k≠h/\ψ k=some c/\Q k x/\c.b≠cb.b):=by
  intro k c x e q;rcases q with⟨rfl,rfl⟩|⟨hk,q⟩
  ·rw[he]at e;cases e;exact .inl ⟨rfl,rfl,rfl⟩
  ·exact .inr ⟨hk,e,q,hs.pJ h cb ab k c x he hq mP e q (Ne.symm hk)⟩
 constructor
 ·intro k c x e q
  rcases ej k c x e q with⟨rfl,rfl,rfl⟩|⟨_,e,q,hb⟩
  ·exact hh
  ·exact(hs.holds k c x e q).same (fun _ _ e=>e) (hk _ hb)
 ·intro k c x k' c' x' e q mP e' q' hn
  rcases ej k c x e q with⟨rfl,rfl,rfl⟩|⟨hk,e,q,hb⟩<;>rcases ej k' c' x' e' q' with⟨rfl,rfl,rfl⟩|⟨tJ,e',q',cz⟩
  ·exact absurd rfl hn
  ·exact cz
  ·exact Ne.symm hb
  ·exact hs.pJ k c x k' c' x' e q mP e' q' hn
theorem Ext.set {ψ:Ps} {Q:Kn} {w w':World} {h:cB} {cb:CB} {ab bO:AB} (he:ψ h=some cb) (hq:Q h ab) (mP:ab.fE=true)
  (hk: ∀b,b≠cb.b->w'.heap[b]? =w.heap[b]?) (bG:w'.heap.size=w.heap.size) (ht:w'.tape=w.tape) (ho:w'.os=w.os) (hu:qz w w'):Ext ψ Q w ψ (ue Q h bO) w' where
 mono:=fun _ _ e=>e
 oS:=fun _ _ e=> .inl e
 size:=by omega
 gF:=fun b _ hn=>hk b fun e=>hn ⟨h,cb,ab,he,hq,mP,e.symm⟩
 fE:=fun b ⟨k,c,x,e,q,hs,hb⟩=>by
  rcases q with⟨rfl,rfl⟩|⟨_,q⟩
  ·rw[he]at e;cases e;exact .inl ⟨_,_,ab,he,hq,mP,hb⟩
  ·exact .inl ⟨k,c,x,e,q,hs,hb⟩
 live:=fun k c x e q=>by
  rcases q with⟨rfl,rfl⟩|⟨_,q⟩
  ·exact⟨ab,hq⟩
  ·exact⟨x,q⟩
 tape:=ht
 os:=ho
 output:=hu
def EG (Q:Kn) (h h':cB) (ab:AB):Kn:=fun k x=>(k=h'/\x=ab)\/(k≠h'/\k≠h/\Q k x)
theorem dU.move {C:aP} {ψ:Ps} {Q:Kn} {w w':World} {h h':cB} {cb eN:CB} {ab bO:AB} (hs:dU C ψ Q w) (he:ψ h=some cb) (hq:Q h ab) (mP:ab.fE=true)
  (hf:ψ h'=none) (hb:eN.b=cb.b) (hk: ∀b,b≠cb.b->w'.heap[b]? =w.heap[b]?) (hh:Holds C (lO ψ h' eN) w' eN bO):dU C (lO ψ h' eN) (EG Q h h' bO) w':=by
 have ej: ∀k c x,lO ψ h' eN k=some c->EG Q h h' bO k x->(k=h'/\c=eN/\x=bO)\/(k≠h'/\ψ k=some c/\Q k x/\c.b≠cb.b):=by
  intro k c x e q;rcases q with⟨rfl,rfl⟩|⟨hk,gX,q⟩
  ·rw[nk]at e;cases e;exact .inl ⟨rfl,rfl,rfl⟩
  ·rw[mc _ _ hk]at e
   exact .inr ⟨hk,e,q,hs.pJ h cb ab k c x he hq mP e q (Ne.symm gX)⟩
 constructor
 ·intro k c x e q
  rcases ej k c x e q with⟨rfl,rfl,rfl⟩|⟨_,e,q,hb⟩
  ·exact hh
  ·exact(hs.holds k c x e q).same (fun _ _ e=>rQ hf _ _ e) (hk _ hb)
 ·intro k c x k' c' x' e q mP e' q' hn
  rcases ej k c x e q with⟨rfl,rfl,rfl⟩|⟨hk,e,q,ju⟩<;>rcases ej k' c' x' e' q' with⟨rfl,rfl,rfl⟩|⟨tJ,e',q',eQ⟩
  ·exact absurd rfl hn
  ·rw[hb];exact eQ
  ·rw[hb];exact Ne.symm ju
  ·exact hs.pJ k c x k' c' x' e q mP e' q' hn
theorem Ext.move {ψ:Ps} {Q:Kn} {w w':World} {h h':cB} {cb eN:CB} {ab bO:AB} (he:ψ h=some cb) (hq:Q h ab) (mP:ab.fE=true) (hf:ψ h'=none)
  (hb:eN.b=cb.b) (aj:cb.b<w.heap.size) (hk: ∀b,b≠cb.b->w'.heap[b]? =w.heap[b]?) (bG:w'.heap.size=w.heap.size) (ht:w'.tape=w.tape) (ho:w'.os=w.os)
  (hu:qz w w'):Ext ψ Q w (lO ψ h' eN) (EG Q h h' bO) w' where
 mono:=rQ hf
 oS:=fun k c e=>by
  by_cases ek:k=h'
  ·subst ek;rw[nk]at e;cases e;exact .inr ⟨.inr ⟨h,cb,ab,he,hq,mP,hb.symm⟩,by omega⟩
  ·rw[mc _ _ ek]at e;exact .inl e
 size:=by omega
 gF:=fun b _ hn=>hk b fun e=>hn ⟨h,cb,ab,he,hq,mP,e.symm⟩
 fE:=fun b ⟨k,c,x,e,q,hs,cz⟩=>by
  rcases q with⟨rfl,rfl⟩|⟨hk,_,q⟩
  ·rw[nk]at e;cases e;exact .inl ⟨h,cb,ab,he,hq,mP,by omega⟩
  ·rw[mc _ _ hk]at e;exact .inl ⟨k,c,x,e,q,hs,cz⟩
 live:=fun k c x e q=>by
  rcases q with⟨rfl,rfl⟩|⟨_,_,q⟩
  ·rw[hf]at e;cases e
  ·exact⟨x,q⟩
 tape:=ht
 os:=ho
 output:=hu
def eB (C:aP) (ψ:Ps):dx->Value->Prop
 | .u,_=>True
 | .un,x=>x=undef
 |dx.v d,x=>VR C ψ d x
 | .mY ds,x=>∃vs,x= .tuple vs/\aS C ψ ds vs.toList
 | .loc bY _ _,x=>∃cb,ψ (.inr bY)=some cb/\cb.o=0/\x= .pointer (some ⟨cb.b,0,none⟩)
 | .pl _ bY o,x=>∃cb,ψ (.inr bY)=some cb/\cb.o=0/\x= .pointer (some ⟨cb.b,o,none⟩)
 | .it bY _ _,x=>∃cb,ψ (.inr bY)=some cb/\x= .pointer (some ⟨cb.b,0,none⟩)
theorem eB.mono {C:aP} {ψ ψ':Ps} (h: ∀k cb,ψ k=some cb->ψ' k=some cb) {e:dx} {x:Value} (r:eB C ψ e x):eB C ψ' e x:=by
 cases e with
 |u=>exact trivial
 |un=>exact r
 |v d=>exact VR.mono (fun i cb e=>h _ _ e) r
 |mY ds=>obtain⟨vs,e,r⟩:=r;exact⟨vs,e,r.mono fun i cb e=>h _ _ e⟩
 |loc v n cs=>obtain⟨cb,e,r⟩:=r;exact⟨cb,h _ _ e,r⟩
 |pl a v n=>obtain⟨cb,e,r⟩:=r;exact⟨cb,h _ _ e,r⟩
 |it v n cs=>obtain⟨cb,e,r⟩:=r;exact⟨cb,h _ _ e,r⟩
def dx.bY:dx->Option Nat
 | .loc k _ _=>some k
 | .it k _ _=>some k
 |_=>none
structure gW (E:Env):Prop where
 lt: ∀t v,(E.get t).bY=some v->v<E.aZ
 pl: ∀t r v o,E.get t= .pl r v o->v<E.aZ
 len: ∀t v n cs,E.get t= .loc v n cs->cs.length=n
 uniq: ∀t t' v,(E.get t).bY=some v->(E.get t').bY=some v->t=t'
end Go.Gv
