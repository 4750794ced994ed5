/- How the machine's values, heap and registers stand for the model's. -/
import Derived.Test.YtegglibipjjblaaGreatDoorGvDef
import Derived.Laws.Sem
import Derived.Laws.World
import Derived.Laws.Cells
import Derived.Laws.Rows
import Derived.Deep.LoopGhost
namespace Go.Gv
theorem vz (b o j:Nat):(⟨b,o,none⟩:Addr).add j=⟨b,o+j,none⟩:=by
 unfold Addr.add;split
 ·rename_i h;subst h;rfl
 ·rfl
def jn (w:World) (b:Nat) (o:Obj):World:= { w with heap:=w.heap.setIfInBounds b o }
@[simp] theorem Kj (w : World) (b : Nat) (o : Obj) : (jn w b o).heap.size = w.heap.size := by simp [jn]
theorem HZ {w:World} {b:Nat} (h:b<w.heap.size) (o:Obj):(jn w b o).heap[b]? =some o:=by simp[jn,h]
theorem Zwq {w:World} {b k:Nat} (h:k≠b) (o:Obj):(jn w b o).heap[k]? =w.heap[k]? :=by
 simp only[jn];rw[wY (Ne.symm h)]
theorem ZxG (w:World) (b:Nat) (o o':Obj):jn (jn w b o) b o'=jn w b o':=by simp[jn]
theorem qX {α:Type} {a:Array α} {i:Nat} {x:α} (h:a[i]? =some x):i<a.size:=by
 rcases eJ i a.size with h'|h'
 ·exact h'
 ·rw[Array.getElem?_eq_none h']at h;cases h
theorem ZwF {w:World} {b o:Nat} {c:Array Value} {ty:TypeId} {fr:Nat×Nat} (h:w.heap[b]? =some (.cells c ty fr)) (v:Value):
  w.setCell ⟨b,o,none⟩ v=jn w b (.cells (c.setIfInBounds o v) ty fr):=by
 have hb:=qX h;unfold World.setCell jn;congr 1;apply Eo;intro i;simp only[Array.getElem?_modify,Array.getElem?_setIfInBounds];by_cases e:b=i
 ·subst e
  have hx:w.heap[b]= .cells c ty fr:=by
   rw[Er hb]at h;exact vi h
  simp[hb,hx]
 ·simp[e]
def mG:Array Value->Nat->List Value->Array Value
 |c,_,[]=>c
 |c,k,v::r=>mG (c.setIfInBounds k v) (k+1) r
@[simp] theorem Xe : ∀ (vs : List Value) (c : Array Value) (k : Nat), (mG c k vs).size = c.size
 |[],_,_=>rfl
 |v::r,c,k=>by rw[mG,Xe r];simp
theorem IA: ∀(vs:List Value) (c:Array Value) (k j:Nat),k+vs.length<=c.size->
  (mG c k vs)[j]? =if k<=j/\j<k+vs.length then vs[j-k]? else c[j]?
 |[],c,k,j,_=>by simp only[mG,xa];rw[ay (by omega)]
 |v::r,c,k,j,h=>by
  simp only[ee]at h⊢;rw[mG,IA r _ _ _ (by simp;omega)];by_cases h1:k+1<=j/\j<k+1+r.length
  ·rw[aF h1,aF (by omega)]
   obtain⟨d,hd⟩: ∃d,j-k=d+1:=⟨j-k-1,by omega⟩;rw[hd,lU];congr 1;omega
  ·rw[ay h1]
   by_cases h2:j=k
   ·subst h2
    rw[aF (by omega),pV,yX (by omega)];rfl
   ·rw[ay (by omega),wY (by omega)]
theorem Ly (P:Program) (b o:Nat) (ty:TypeId) (fr:Nat×Nat): ∀(vs:List Value) (i:Nat) (w:World) (c:Array Value),
  w.heap[b]? =some (.cells c ty fr)->(∀v∈vs,v.oneCell'=true)->o+i+vs.length<=c.size->
  (∀j,i<=j->j<i+vs.length->(decide (fr.1<=o+j)&&decide (o+j<fr.2))=false)->
  (storeCells ⟨b,o,none⟩ vs i).run P w= .ok () (jn w b (.cells (mG c (o+i) vs) ty fr))
 |[],i,w,c,hb,_,_,_=>by
  have:jn w b (.cells c ty fr)=w:=by
   unfold jn;cases w with
   |mk heap tape drawn os output=>
    congr 1;apply Eo;intro k;have aj:=qX hb;rw[Array.getElem?_setIfInBounds];by_cases e:b=k
    ·subst e;simp only[iA];rw[aF aj];exact hb.symm
    ·simp[e]
  simp only[mG,storeCells,this];rfl
 |v::r,i,w,c,hb,h1,hs,hf=>by
  simp only[ee]at hs hf;have xZ:w.cell? ⟨b,o+i,none⟩=some c[o+i]:=by rw[cell_of_row w b (o+i) c ty fr hb];exact Er (by omega)
  have eK:w.frozen? ⟨b,o+i,none⟩=false:=by
   have:=hf i (aA _) (by omega);simp only[World.frozen?,hb];exact this
  have bE:(store ((⟨b,o,none⟩:Addr).add i) v).run P w= .ok () (w.setCell ⟨b,o+i,none⟩ v):=by
   rw[vz,run_store P w _ v _ (h1 v (by simp)),xZ];simp only[eK];rfl
  have aj:=qX hb;simp only[storeCells,Sem.run_bind,bE,Result.andThen_ok];rw[ZwF hb,Ly P b o ty fr r (i+1) _ (c.setIfInBounds (o+i) v) (HZ aj _) (fun x hx=>h1 x (by simp[hx])) (by simp;omega)
   (fun j hj qD=>hf j (by omega) (by omega)),ZxG]
  simp only[mG];rfl
theorem Zq1: ∀(cs ds:List DV),(ov cs ds).length=cs.length
 |[],ds=>by cases ds<;>rfl
 |_::cs,[]=>rfl
 |_::cs,_::ds=>by simp[ov,Zq1 cs ds]
theorem ZxI: ∀(cs ds:List DV) (j:Nat),ds.length<=cs.length->(ov cs ds)[j]? =if j<ds.length then ds[j]? else cs[j]?
 |[],[],j,_=>by simp[ov]
 |[],_::_,j,h=>by simp at h
 |c::cs,[],j,_=>by simp[ov]
 |c::cs,d::ds,0,_=>by simp[ov]
 |c::cs,d::ds,j+1,h=>by
  simp only[ee]at h;simp only[ov,lU,ee];rw[ZxI cs ds j (by omega)];by_cases e:j<ds.length
  ·rw[aF e,aF (by omega)]
  ·rw[ay e,ay (by omega)]
theorem BW: ∀(cs:List DV) (k:Nat) (ds:List DV),(bN cs k ds).length=cs.length
 |cs,0,ds=>by cases cs<;>simp[bN,Zq1]
 |[],k+1,ds=>rfl
 |c::cs,k+1,ds=>by simp[bN,BW cs k ds]
theorem Cn: ∀(cs:List DV) (k:Nat) (ds:List DV) (j:Nat),k+ds.length<=cs.length->
  (bN cs k ds)[j]? =if k<=j/\j<k+ds.length then ds[j-k]? else cs[j]?
 |cs,0,ds,j,h=>by
  have:bN cs 0 ds=ov cs ds:=by cases cs<;>rfl
  rw[this,ZxI cs ds j (by omega)];by_cases e:j<ds.length
  ·rw[aF e,aF (by omega),se]
  ·rw[ay e,ay (by omega)]
 |[],k+1,ds,j,h=>by simp at h
 |c::cs,k+1,ds,0,h=>by simp[bN]
 |c::cs,k+1,ds,j+1,h=>by
  simp only[ee]at h;simp only[bN,lU];rw[Cn cs k ds j (by omega)];by_cases e:k<=j/\j<k+ds.length
  ·rw[aF e,aF (by omega)];congr 1;omega
  ·rw[ay e,ay (by omega)]
structure CB where
 b:Nat
 o:Nat
 m:Nat
abbrev cx:=Nat ⊕ Nat
abbrev Ps:=cx->Option CB
mutual
inductive VR (C:aM) (ψ:Ps):DV->Value->Prop
 |bool (b:Bool):VR C ψ (.bool b) (.bool b)
 |int (k:IntKind) (n:Int):VR C ψ (.int k n) (.int k n)
 |str (s:ByteArray):VR C ψ (.str s.data.toList) (.string s)
 |D2:VR C ψ (.ptr none) (.pointer none)
 |ptr (i o:Nat) (cb:CB):ψ (.inl i)=some cb->VR C ψ (.ptr (some (i,o))) (.pointer (some ⟨cb.b,cb.o+o,none⟩))
 |oK (sz:Nat):VR C ψ (.slice sz none 0) (.slice none 0 0)
 |slice (sz i o n:Nat) (cb:CB) (a:Addr) (cap:Nat):ψ (.inl i)=some cb->n<=cap->(0<cap->a=⟨cb.b,cb.o+o,none⟩/\o+cap*sz<=cb.m)->
   VR C ψ (.slice sz (some (i,o)) n) (.slice (some a) n cap)
 |agg (ds:List DV) (vs:Array Value):aR C ψ ds vs.toList->ds.all one=true->VR C ψ (.agg ds) (.agg vs)
 |func (k:Nat) (fs cs:List DV) (vf vc:Array Value):C.cov k=true->aR C ψ fs vf.toList->aR C ψ cs vc.toList->
   VR C ψ (.func (C.fn k) fs cs) (.func (.func k) vf vc)
 |nilFunc:VR C ψ .nilFunc .nilFunc
 |iface (t:Nat) (d:DV) (v:Value):VR C ψ d v->VR C ψ (.iface (C.ty t) d) (.iface t v)
 |nilIface:VR C ψ .nilIface .nilIface
inductive aR (C:aM) (ψ:Ps):List DV->List Value->Prop
 |nil:aR C ψ [] []
 |cons (d:DV) (v:Value) (ds:List DV) (vs:List Value):VR C ψ d v->aR C ψ ds vs->aR C ψ (d::ds) (v::vs)
end
section
variable {C:aM} {ψ ψ':Ps}
mutual
theorem VR.mono (h: ∀i cb,ψ (.inl i)=some cb->ψ' (.inl i)=some cb): ∀ {d:DV} {v:Value},VR C ψ d v->VR C ψ' d v
 |_,_,.bool b=> .bool b
 |_,_,.int k n=> .int k n
 |_,_,.str s=> .str s
 |_,_,.D2=> .D2
 |_,_,.ptr i o cb e=> .ptr i o cb (h _ _ e)
 |_,_,.oK sz=> .oK sz
 |_,_,.slice sz i o n cb a cap e h1 h2=> .slice sz i o n cb a cap (h _ _ e) h1 h2
 |_,_,.agg ds vs r h1=> .agg ds vs (aR.mono h r) h1
 |_,_,.func k fs cs vf vc e r1 r2=> .func k fs cs vf vc e (aR.mono h r1) (aR.mono h r2)
 |_,_,.nilFunc=> .nilFunc
 |_,_,.iface t d v r=> .iface t d v (VR.mono h r)
 |_,_,.nilIface=> .nilIface
theorem aR.mono (h: ∀i cb,ψ (.inl i)=some cb->ψ' (.inl i)=some cb): ∀ {ds:List DV} {vs:List Value},aR C ψ ds vs->aR C ψ' ds vs
 |_,_,.nil=> .nil
 |_,_,.cons d v ds vs r rs=> .cons d v ds vs (VR.mono h r) (aR.mono h rs)
end
theorem aR.len: ∀ {ds:List DV} {vs:List Value},aR C ψ ds vs->ds.length=vs.length
 |_,_,.nil=>rfl
 |_,_,.cons _ _ _ _ _ rs=>by simp[aR.len rs]
theorem aR.get: ∀ {ds:List DV} {vs:List Value},aR C ψ ds vs->∀ {j:Nat} {d:DV},ds[j]? =some d->∃v,vs[j]? =some v/\VR C ψ d v
 |_,_,.nil,j,d,h=>by simp at h
 |_,_,.cons d0 v0 ds vs r rs,0,d,h=>by
  simp only[gJ,cQ]at h;subst h;exact⟨v0,rfl,r⟩
 |_,_,.cons d0 v0 ds vs r rs,j+1,d,h=>by
  simp only[lU]at h⊢;exact aR.get rs h
theorem aR.of: ∀(ds:List DV) (vs:List Value),ds.length=vs.length->(∀(j:Nat) (d:DV) (v:Value),ds[j]? =some d->vs[j]? =some v->VR C ψ d v)->aR C ψ ds vs
 |[],[],_,_=> .nil
 |[],_::_,h,_=>by simp at h
 |_::_,[],h,_=>by simp at h
 |d::ds,v::vs,h,hp=> .cons d v ds vs (hp 0 d v rfl rfl) (aR.of ds vs (by simpa using h) fun j d v h1 h2=>hp (j+1) d v (by simpa using h1) (by simpa using h2))
theorem aR.append {ds iP:List DV} {vs gz:List Value} (h:aR C ψ ds vs) (h':aR C ψ iP gz):aR C ψ (ds++iP) (vs++gz):=by
 have e:=h.len;have e':=h'.len;refine aR.of _ _ (by simp[e,e']) fun j d v h1 h2=>?_
 by_cases hj:j<ds.length
 ·rw[iN hj]at h1
  rw[iN (by omega)]at h2;obtain⟨v',cM,hr⟩:=h.get h1;rw[h2]at cM;cases cM;exact hr
 ·rw[gN (by omega)]at h1
  rw[gN (by omega)]at h2;rw[<-e]at h2;obtain⟨v',cM,hr⟩:=h'.get h1;rw[h2]at cM;cases cM;exact hr
theorem aR.take {ds:List DV} {vs:List Value} (h:aR C ψ ds vs) (n:Nat):aR C ψ (ds.take n) (vs.take n):=by
 refine aR.of _ _ (by simp[h.len]) fun j d v h1 h2=>?_
 rw[mR]at h1 h2;split at h1
 ·rw[aF ‹_›]at h2
  obtain⟨v',cM,hr⟩:=h.get h1;rw[h2]at cM;cases cM;exact hr
 ·cases h1
theorem aR.drop {ds:List DV} {vs:List Value} (h:aR C ψ ds vs) (n:Nat):aR C ψ (ds.drop n) (vs.drop n):=by
 refine aR.of _ _ (by simp[h.len]) fun j d v h1 h2=>?_
 rw[nR]at h1 h2;obtain⟨v',cM,hr⟩:=h.get h1;rw[h2]at cM;cases cM;exact hr
theorem VR.Xb {d:DV} {v:Value} (h:VR C ψ d v) (h1:one d=true):v.oneCell'=true:=by
 cases h<;>first|rfl|simp[one]at h1
theorem VR.SO {d:DV} {v:Value} (h:VR C ψ d v) (h1:one d=true):v.cells= #[v]:=by
 cases h<;>first|rfl|simp[one]at h1
theorem aR.Uu {ds:List DV} {vs:List Value} (h:aR C ψ ds vs) (h1:ds.all one=true): ∀v∈vs,v.oneCell'=true:=by
 intro v hv;obtain⟨j,hj⟩:=w9 hv;have hl:=h.len;have aj:j<vs.length:=by
  rcases eJ j vs.length with h'|h'
  ·exact h'
  ·rw[dL h']at hj;cases hj
 have hd:ds[j]? =some ds[j]:=ba (by omega);obtain⟨v',cM,hr⟩:=h.get hd;rw[hj]at cM;cases cM;exact hr.Xb (gm.1 h1 _ (gC _))
end
inductive AB where
 |cells (jA:Bool) (cs:List DV)
 |iter (s:List UInt8) (pos:Nat)
def AB.fk:AB->Bool
 | .cells f _=> !f
 | .iter _ _=>true
def cj (s:St) (i:Nat):Option AB:=
 match s[i]? with
 |some (some b)=>some (.cells b.jA b.cells)
 |_=>none
abbrev Kn:=cx->AB->Prop
def CR (E:Env) (s:St):Kn
 | .inl i,ab=>cj s i=some ab
 | .inr v,ab=>(∃t n cs,E.get t= .loc v n cs/\ab= .cells false cs)\/(∃t l p,E.get t= .it v l p/\ab= .iter l p)
def Holds (C:aM) (ψ:Ps) (w:World) (cb:CB):AB->Prop
 | .cells f cs=>cs.length<=cb.m/\cs.all one=true/\(∀j d,cs[j]? =some d->∃v,w.cell? ⟨cb.b,cb.o+j,none⟩=some v/\VR C ψ d v)/\
   (f=false->∃c ty fr,w.heap[cb.b]? =some (.cells c ty fr)/\cb.o+cb.m<=c.size/\
    ∀j,j<cb.m->(decide (fr.1<=cb.o+j)&&decide (cb.o+j<fr.2))=false)
 | .iter s p=>∃s',w.heap[cb.b]? =some (.stringIter s' p)/\s'.data.toList=s
structure dP (C:aM) (ψ:Ps) (Q:Kn) (w:World):Prop where
 holds: ∀h cb ab,ψ h=some cb->Q h ab->Holds C ψ w cb ab
 ph: ∀h cb ab h' eF bJ,ψ h=some cb->Q h ab->ab.fk=true->ψ h'=some eF->Q h' bJ->h≠h'->eF.b≠cb.b
def pX (ψ:Ps) (Q:Kn) (b:Nat):Prop:=∃h cb ab,ψ h=some cb/\Q h ab/\ab.fk=true/\cb.b=b
def nW (ψ:Ps) (w:World):Prop:=∀h cb,ψ h=some cb->cb.b<w.heap.size
def Glob (C:aM) (ψ:Ps):Prop:=∀g,C.vU g=true->∃cb,ψ (.inl (C.gl g))=some cb/\cb.b=g/\cb.o=0
theorem Holds.same {C:aM} {ψ ψ':Ps} {w w':World} {cb:CB} {ab:AB} (hm: ∀i cb,ψ (.inl i)=some cb->ψ' (.inl i)=some cb) (e:w'.heap[cb.b]? =w.heap[cb.b]?)
  (h:Holds C ψ w cb ab):Holds C ψ' w' cb ab:=by
 have hc: ∀j,w'.cell? ⟨cb.b,j,none⟩=w.cell? ⟨cb.b,j,none⟩:=fun j=>by simp only[World.cell?,e]
 cases ab with
 |cells f cs=>
  refine⟨h.1,h.2.1,fun j d hd=>?_,fun hf=>?_⟩
  ·obtain⟨v,hv,hr⟩:=h.2.2.1 j d hd
   exact⟨v,by rw[hc];exact hv,hr.mono hm⟩
  ·obtain⟨c,ty,fr,hb,h2,h3⟩:=h.2.2.2 hf
   exact⟨c,ty,fr,by rw[e];exact hb,h2,h3⟩
 |iter s p=>
  obtain⟨s',hb,hs⟩:=h;exact⟨s',by rw[e];exact hb,hs⟩
def pW (w w':World):Prop:=w'.output=w.output/\w.drawn<=w'.drawn
theorem pW.refl (w:World):pW w w:=⟨rfl,aA _⟩
theorem pW.trans {a b c:World} (h:pW a b) (k:pW b c):pW a c:=⟨k.1.trans h.1,eZ h.2 k.2⟩
structure Ext (ψ:Ps) (Q:Kn) (w:World) (ψ':Ps) (Q':Kn) (w':World):Prop where
 mono: ∀h cb,ψ h=some cb->ψ' h=some cb
 oH: ∀h cb,ψ' h=some cb->ψ h=some cb\/(w.heap.size<=cb.b\/pX ψ Q cb.b)/\cb.b<w'.heap.size
 size:w.heap.size<=w'.heap.size
 gx: ∀b,b<w.heap.size->¬pX ψ Q b->w'.heap[b]? =w.heap[b]?
 fk: ∀b,pX ψ' Q' b->pX ψ Q b\/w.heap.size<=b
 live: ∀h cb x,ψ h=some cb->Q' h x->∃y,Q h y
 tape:w'.tape=w.tape
 os:w'.os=w.os
 output:pW w w'
theorem Ext.refl (ψ:Ps) (Q:Kn) (w:World):Ext ψ Q w ψ Q w:=
 ⟨fun _ _ h=>h,fun _ _ h=> .inl h,aA _,fun _ _ _=>rfl,fun _ h=> .inl h,fun _ _ x _ h=>⟨x,h⟩,rfl,rfl,.refl _⟩
theorem Ext.trans {ψ ψ' Bo:Ps} {Q Q' zm:Kn} {w w' pP:World} (h:Ext ψ Q w ψ' Q' w') (k:Ext ψ' Q' w' Bo zm pP):Ext ψ Q w Bo zm pP where
 mono:=fun i cb e=>k.mono i cb (h.mono i cb e)
 oH:=fun i cb e=>by
  rcases k.oH i cb e with e|⟨e,e2⟩
  ·rcases h.oH i cb e with e|⟨e,e2⟩
   ·exact .inl e
   ·exact .inr ⟨e,j5 e2 k.size⟩
  ·refine .inr ⟨?_,e2⟩
   rcases e with e|e
   ·exact .inl (eZ h.size e)
   ·rcases h.fk _ e with e|e
    ·exact .inr e
    ·exact .inl e
 size:=eZ h.size k.size
 gx:=fun b hb hn=>by
  rw[k.gx b (j5 hb h.size) (fun e=>by rcases h.fk b e with e|e;exact hn e;omega),h.gx b hb hn]
 fk:=fun b e=>by
  rcases k.fk b e with e|e
  ·exact h.fk b e
  ·exact .inr (eZ h.size e)
 live:=fun i cb x e hx=>by
  obtain⟨y,hy⟩:=k.live i cb x (h.mono i cb e) hx;exact h.live i cb y e hy
 tape:=k.tape.trans h.tape
 os:=k.os.trans h.os
 output:=h.output.trans k.output
theorem dP.weaken {C:aM} {ψ:Ps} {Q Q':Kn} {w:World} (h:dP C ψ Q w) (hq: ∀h ab cb,ψ h=some cb->Q' h ab->Q h ab):dP C ψ Q' w:=
 ⟨fun k cb ab e q=>h.holds k cb ab e (hq k ab cb e q),fun k cb ab k' eF bJ e q hs e' q' hn=>h.ph k cb ab k' eF bJ e (hq _ _ _ e q) hs e' (hq _ _ _ e' q') hn⟩
theorem Ext.weaken {ψ ψ':Ps} {Q Q' zm:Kn} {w w':World} (h:Ext ψ Q w ψ' Q' w') (hq: ∀k ab cb,ψ' k=some cb->zm k ab->Q' k ab):Ext ψ Q w ψ' zm w':=
 { h with
  fk:=fun b ⟨k,cb,ab,e,q,hs,hb⟩=>h.fk b ⟨k,cb,ab,e,hq _ _ _ e q,hs,hb⟩
  live:=fun k cb x e q=>h.live k cb x e (hq _ _ _ (h.mono _ _ e) q) }
theorem Ext.eV {ψ ψ':Ps} {Q Q':Kn} {w w':World} (h:Ext ψ Q w ψ' Q' w') (hb:nW ψ w):nW ψ' w':=fun k cb e=>by
 rcases h.oH k cb e with e|⟨_,e⟩
 ·exact j5 (hb k cb e) h.size
 ·exact e
theorem Ext.iR {C:aM} {ψ ψ':Ps} {Q Q':Kn} {w w':World} (h:Ext ψ Q w ψ' Q' w') (hg:Glob C ψ):Glob C ψ':=fun g e=>
 let ⟨cb,e1,e2⟩:=hg g e
 ⟨cb,h.mono _ _ e1,e2⟩
def ly (ψ:Ps) (h:cx) (cb:CB):Ps:=fun k=>if k=h then some cb else ψ k
def tx (Q:Kn) (h:cx) (ab:AB):Kn:=fun k x=>(k=h/\x=ab)\/(k≠h/\Q k x)
theorem mX (ψ:Ps) (h:cx) (cb:CB):ly ψ h cb h=some cb:=by simp[ly]
theorem lH (ψ:Ps) {h k:cx} (cb:CB) (e:k≠h):ly ψ h cb k=ψ k:=by simp[ly,e]
theorem rh {ψ:Ps} {h:cx} {cb:CB} (hf:ψ h=none): ∀k c,ψ k=some c->ly ψ h cb k=some c:=by
 intro k c e;by_cases ek:k=h
 ·subst ek;rw[hf]at e;cases e
 ·rw[lH _ _ ek];exact e
structure fq (w w':World):Prop where
 dU: ∀b,b<w.heap.size->w'.heap[b]? =w.heap[b]?
 size:w.heap.size<=w'.heap.size
 tape:w'.tape=w.tape
 os:w'.os=w.os
 output:pW w w'
theorem fq.refl (w:World):fq w w:=⟨fun _ _=>rfl,aA _,rfl,rfl,.refl w⟩
theorem fq.drew (w:World):fq w w.drew:=⟨fun _ _=>rfl,aA _,rfl,rfl,rfl,Nat.le_succ _⟩
theorem fq.alloc (w:World) (o:Obj):fq w (w.alloc o):=
 ⟨fun b h=>heap_alloc_old w o b h,by simp,rfl,rfl,rfl,aA _⟩
theorem fq.trans {w w' pP:World} (h:fq w w') (k:fq w' pP):fq w pP:=
 ⟨fun b hb=>(k.dU b (j5 hb h.size)).trans (h.dU b hb),eZ h.size k.size,k.tape.trans h.tape,k.os.trans h.os,h.output.trans k.output⟩
theorem dP.more {C:aM} {ψ:Ps} {Q:Kn} {w w':World} (h:dP C ψ Q w) (hb:nW ψ w) (hm:fq w w'):dP C ψ Q w':=
 ⟨fun k cb ab e q=>(h.holds k cb ab e q).same (fun _ _ e=>e) (hm.dU _ (hb k cb e)),h.ph⟩
theorem Ext.more {ψ:Ps} {Q:Kn} {w w':World} (hm:fq w w'):Ext ψ Q w ψ Q w':=
 ⟨fun _ _ h=>h,fun _ _ h=> .inl h,hm.size,fun b hb _=>hm.dU b hb,fun _ h=> .inl h,fun _ _ x _ h=>⟨x,h⟩,hm.tape,hm.os,hm.output⟩
theorem dP.new {C:aM} {ψ:Ps} {Q:Kn} {w w':World} {h:cx} {cb:CB} {ab:AB} (hs:dP C ψ Q w) (hb:nW ψ w) (hm:fq w w') (hf:ψ h=none)
  (h1:w.heap.size<=cb.b) (hh:Holds C (ly ψ h cb) w' cb ab):dP C (ly ψ h cb) (tx Q h ab) w':=by
 have mono:=rh (cb:=cb) hf;have dU: ∀k c x,ly ψ h cb k=some c->tx Q h ab k x->(k=h/\c=cb/\x=ab)\/(k≠h/\ψ k=some c/\Q k x):=by
  intro k c x e q;rcases q with⟨rfl,rfl⟩|⟨hk,q⟩
  ·rw[mX]at e;cases e;exact .inl ⟨rfl,rfl,rfl⟩
  ·rw[lH _ _ hk]at e;exact .inr ⟨hk,e,q⟩
 constructor
 ·intro k c x e q
  rcases dU k c x e q with⟨rfl,rfl,rfl⟩|⟨_,e,q⟩
  ·exact hh
  ·exact(hs.holds k c x e q).same (fun i c e=>mono _ _ e) (hm.dU _ (hb k c e))
 ·intro k c x k' c' x' e q mC e' q' hn
  rcases dU k c x e q with⟨rfl,rfl,rfl⟩|⟨hk,e,q⟩<;>rcases dU k' c' x' e' q' with⟨rfl,rfl,rfl⟩|⟨Dd,e',q'⟩
  ·exact absurd rfl hn
  ·have:=hb k' c' (by assumption);omega
  ·have:=hb k c (by assumption);omega
  ·exact hs.ph k c x k' c' x' e q mC e' q' hn
theorem Ext.new {ψ:Ps} {Q:Kn} {w w':World} {h:cx} {cb:CB} {ab:AB} (hm:fq w w') (hf:ψ h=none)
  (h1:w.heap.size<=cb.b) (h2:cb.b<w'.heap.size):Ext ψ Q w (ly ψ h cb) (tx Q h ab) w' where
 mono:=rh hf
 oH:=fun k c e=>by
  by_cases ek:k=h
  ·subst ek;rw[mX]at e;cases e;exact .inr ⟨.inl h1,h2⟩
  ·rw[lH _ _ ek]at e;exact .inl e
 size:=hm.size
 gx:=fun b hb _=>hm.dU b hb
 fk:=fun b ⟨k,c,x,e,q,hs,hb⟩=>by
  rcases q with⟨rfl,rfl⟩|⟨hk,q⟩
  ·rw[mX]at e;cases e;exact .inr (hb▸h1)
  ·rw[lH _ _ hk]at e;exact .inl ⟨k,c,x,e,q,hs,hb⟩
 live:=fun k c x e q=>by
  rcases q with⟨rfl,rfl⟩|⟨hk,q⟩
  ·rw[hf]at e;cases e
  ·exact⟨x,q⟩
 tape:=hm.tape
 os:=hm.os
 output:=hm.output
theorem dP.set {C:aM} {ψ:Ps} {Q:Kn} {w w':World} {h:cx} {cb:CB} {ab bJ:AB} (hs:dP C ψ Q w) (he:ψ h=some cb) (hq:Q h ab) (mC:ab.fk=true)
  (hk: ∀b,b≠cb.b->w'.heap[b]? =w.heap[b]?) (hh:Holds C ψ w' cb bJ):dP C ψ (tx Q h bJ) w':=by
 have dU: ∀k c x,ψ k=some c->tx Q h bJ k x->(k=h/\c=cb/\x=bJ)\/(k≠h/\ψ k=some c/\Q k x/\c.b≠cb.b):=by
  intro k c x e q;rcases q with⟨rfl,rfl⟩|⟨hk,q⟩
  ·rw[he]at e;cases e;exact .inl ⟨rfl,rfl,rfl⟩
  ·exact .inr ⟨hk,e,q,hs.ph h cb ab k c x he hq mC e q (Ne.symm hk)⟩
 constructor
 ·intro k c x e q
  rcases dU k c x e q with⟨rfl,rfl,rfl⟩|⟨_,e,q,hb⟩
  ·exact hh
  ·exact(hs.holds k c x e q).same (fun _ _ e=>e) (hk _ hb)
 ·intro k c x k' c' x' e q mC e' q' hn
  rcases dU k c x e q with⟨rfl,rfl,rfl⟩|⟨hk,e,q,hb⟩<;>rcases dU k' c' x' e' q' with⟨rfl,rfl,rfl⟩|⟨Dd,e',q',cq⟩
  ·exact absurd rfl hn
  ·exact cq
  ·exact Ne.symm hb
  ·exact hs.ph k c x k' c' x' e q mC e' q' hn
theorem Ext.set {ψ:Ps} {Q:Kn} {w w':World} {h:cx} {cb:CB} {ab bJ:AB} (he:ψ h=some cb) (hq:Q h ab) (mC:ab.fk=true)
  (hk: ∀b,b≠cb.b->w'.heap[b]? =w.heap[b]?) (bC:w'.heap.size=w.heap.size) (ht:w'.tape=w.tape) (ho:w'.os=w.os) (hu:pW w w'):Ext ψ Q w ψ (tx Q h bJ) w' where
 mono:=fun _ _ e=>e
 oH:=fun _ _ e=> .inl e
 size:=by omega
 gx:=fun b _ hn=>hk b fun e=>hn ⟨h,cb,ab,he,hq,mC,e.symm⟩
 fk:=fun b ⟨k,c,x,e,q,hs,hb⟩=>by
  rcases q with⟨rfl,rfl⟩|⟨_,q⟩
  ·rw[he]at e;cases e;exact .inl ⟨_,_,ab,he,hq,mC,hb⟩
  ·exact .inl ⟨k,c,x,e,q,hs,hb⟩
 live:=fun k c x e q=>by
  rcases q with⟨rfl,rfl⟩|⟨_,q⟩
  ·exact⟨ab,hq⟩
  ·exact⟨x,q⟩
 tape:=ht
 os:=ho
 output:=hu
def DR (Q:Kn) (h h':cx) (ab:AB):Kn:=fun k x=>(k=h'/\x=ab)\/(k≠h'/\k≠h/\Q k x)
theorem dP.move {C:aM} {ψ:Ps} {Q:Kn} {w w':World} {h h':cx} {cb eF:CB} {ab bJ:AB} (hs:dP C ψ Q w) (he:ψ h=some cb) (hq:Q h ab) (mC:ab.fk=true)
  (hf:ψ h'=none) (hb:eF.b=cb.b) (hk: ∀b,b≠cb.b->w'.heap[b]? =w.heap[b]?) (hh:Holds C (ly ψ h' eF) w' eF bJ):dP C (ly ψ h' eF) (DR Q h h' bJ) w':=by
 have dU: ∀k c x,ly ψ h' eF k=some c->DR Q h h' bJ k x->(k=h'/\c=eF/\x=bJ)\/(k≠h'/\ψ k=some c/\Q k x/\c.b≠cb.b):=by
  intro k c x e q;rcases q with⟨rfl,rfl⟩|⟨hk,ik,q⟩
  ·rw[mX]at e;cases e;exact .inl ⟨rfl,rfl,rfl⟩
  ·rw[lH _ _ hk]at e
   exact .inr ⟨hk,e,q,hs.ph h cb ab k c x he hq mC e q (Ne.symm ik)⟩
 constructor
 ·intro k c x e q
  rcases dU k c x e q with⟨rfl,rfl,rfl⟩|⟨_,e,q,hb⟩
  ·exact hh
  ·exact(hs.holds k c x e q).same (fun _ _ e=>rh hf _ _ e) (hk _ hb)
 ·intro k c x k' c' x' e q mC e' q' hn
  rcases dU k c x e q with⟨rfl,rfl,rfl⟩|⟨hk,e,q,jg⟩<;>rcases dU k' c' x' e' q' with⟨rfl,rfl,rfl⟩|⟨Dd,e',q',eH⟩
  ·exact absurd rfl hn
  ·rw[hb];exact eH
  ·rw[hb];exact Ne.symm jg
  ·exact hs.ph k c x k' c' x' e q mC e' q' hn
theorem Ext.move {ψ:Ps} {Q:Kn} {w w':World} {h h':cx} {cb eF:CB} {ab bJ:AB} (he:ψ h=some cb) (hq:Q h ab) (mC:ab.fk=true) (hf:ψ h'=none)
  (hb:eF.b=cb.b) (aj:cb.b<w.heap.size) (hk: ∀b,b≠cb.b->w'.heap[b]? =w.heap[b]?) (bC:w'.heap.size=w.heap.size) (ht:w'.tape=w.tape) (ho:w'.os=w.os)
  (hu:pW w w'):Ext ψ Q w (ly ψ h' eF) (DR Q h h' bJ) w' where
 mono:=rh hf
 oH:=fun k c e=>by
  by_cases ek:k=h'
  ·subst ek;rw[mX]at e;cases e;exact .inr ⟨.inr ⟨h,cb,ab,he,hq,mC,hb.symm⟩,by omega⟩
  ·rw[lH _ _ ek]at e;exact .inl e
 size:=by omega
 gx:=fun b _ hn=>hk b fun e=>hn ⟨h,cb,ab,he,hq,mC,e.symm⟩
 fk:=fun b ⟨k,c,x,e,q,hs,cq⟩=>by
  rcases q with⟨rfl,rfl⟩|⟨hk,_,q⟩
  ·rw[mX]at e;cases e;exact .inl ⟨h,cb,ab,he,hq,mC,by omega⟩
  ·rw[lH _ _ hk]at e;exact .inl ⟨k,c,x,e,q,hs,cq⟩
 live:=fun k c x e q=>by
  rcases q with⟨rfl,rfl⟩|⟨_,_,q⟩
  ·rw[hf]at e;cases e
  ·exact⟨x,q⟩
 tape:=ht
 os:=ho
 output:=hu
def ef (C:aM) (ψ:Ps):df->Value->Prop
 | .u,_=>True
 | .un,x=>x=undef
 |df.v d,x=>VR C ψ d x
 | .mL ds,x=>∃vs,x= .tuple vs/\aR C ψ ds vs.toList
 | .loc bT _ _,x=>∃cb,ψ (.inr bT)=some cb/\cb.o=0/\x= .pointer (some ⟨cb.b,0,none⟩)
 | .pl _ bT o,x=>∃cb,ψ (.inr bT)=some cb/\cb.o=0/\x= .pointer (some ⟨cb.b,o,none⟩)
 | .it bT _ _,x=>∃cb,ψ (.inr bT)=some cb/\x= .pointer (some ⟨cb.b,0,none⟩)
theorem ef.mono {C:aM} {ψ ψ':Ps} (h: ∀k cb,ψ k=some cb->ψ' k=some cb) {e:df} {x:Value} (r:ef C ψ e x):ef C ψ' e x:=by
 cases e with
 |u=>exact trivial
 |un=>exact r
 |v d=>exact VR.mono (fun i cb e=>h _ _ e) r
 |mL ds=>obtain⟨vs,e,r⟩:=r;exact⟨vs,e,r.mono fun i cb e=>h _ _ e⟩
 |loc v n cs=>obtain⟨cb,e,r⟩:=r;exact⟨cb,h _ _ e,r⟩
 |pl a v n=>obtain⟨cb,e,r⟩:=r;exact⟨cb,h _ _ e,r⟩
 |it v n cs=>obtain⟨cb,e,r⟩:=r;exact⟨cb,h _ _ e,r⟩
def df.bT:df->Option Nat
 | .loc k _ _=>some k
 | .it k _ _=>some k
 |_=>none
structure gL (E:Env):Prop where
 lt: ∀t v,(E.get t).bT=some v->v<E.aX
 pl: ∀t r v o,E.get t= .pl r v o->v<E.aX
 len: ∀t v n cs,E.get t= .loc v n cs->cs.length=n
 uniq: ∀t t' v,(E.get t).bT=some v->(E.get t').bT=some v->t=t'
end Go.Gv
