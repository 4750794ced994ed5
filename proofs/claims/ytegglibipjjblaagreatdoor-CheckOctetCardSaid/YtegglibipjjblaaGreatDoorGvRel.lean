/- How the machine's values, heap and registers stand for the model's. -/
import Derived.Test.YtegglibipjjblaaGreatDoorGvDef
import Derived.Laws.Sem
import Derived.Laws.World
import Derived.Laws.Cells
import Derived.Laws.Rows
import Derived.Deep.LoopGhost
set_option linter.all false
namespace Go.Gv
theorem B1 (b o j:Nat):(⟨b,o,none⟩:Addr).add j=⟨b,o+j,none⟩:=by
 simp[Addr.add]
def mZ (w:World) (b:Nat) (o:Obj):World:= { w with heap:=w.heap.setIfInBounds b o }
@[simp] theorem Qp (w : World) (b : Nat) (o : Obj) : (mZ w b o).heap.size = w.heap.size := by simp [mZ]
variable {d:DV} {jI vs:List Value} {i k o:Nat} {v:Value} {w w':World} {ds nv:ah} {C:bE}
theorem ND {b:Nat} (h:b<w.heap.size) (o:Obj):(mZ w b o).heap[b]? =some o:=by simp[mZ,h]
theorem Zwa {b:Nat} (h:k≠b) (o:Obj):(mZ w b o).heap[k]? =w.heap[k]? :=by
 grind[mZ]
theorem ZxZ (w:World) (b:Nat) (o o':Obj):mZ (mZ w b o) b o'=mZ w b o':=by simp[mZ]
theorem IW {α:Type} {a:Array α} {x:α} (h:a[i]? =some x):i<a.size:=by
 grind
theorem ZwP {b:Nat} {c:Array Value} {ty:TypeId} {fr:Nat×Nat} (h:w.heap[b]? =some (.cells c ty fr)) (v:Value):
  w.setCell ⟨b,o,none⟩ v=mZ w b (.cells (c.setIfInBounds o v) ty fr):=by
 unfold World.setCell mZ;congr 1;grind
def rJ:Array Value->Nat->List Value->Array Value
 |c,_,[]=>c
 |c,k,v::r=>rJ (c.setIfInBounds k v) (k+1) r
@[simp] theorem akR : ∀ (vs : List Value) (c : Array Value) (k : Nat), (rJ c k vs).size = c.size
 |[],_,_=>rfl
 |v::r,c,k=>by rw[rJ,akR r];simp
theorem Oa: ∀(vs:List Value) (c:Array Value) (k j:Nat),k+vs.length<=c.size->
  (rJ c k vs)[j]? =if k<=j/\j<k+vs.length then vs[j-k]? else c[j]?
 |[],c,k,j,_=>by grind[rJ,Aa]
 |v::r,c,k,j,h=>by
  simp only[cQ]at h⊢;rw[rJ,Oa r _ _ _ (by simp;omega)];by_cases h1:k+1<=j/\j<k+1+r.length
  .rw[bx h1,bx AC]
   grind
  grind
theorem RV (P:Program) (b o:Nat) (ty:TypeId) (fr:Nat×Nat): ∀(vs:List Value) (i:Nat) (w:World) (c:Array Value),
  w.heap[b]? =some (.cells c ty fr)->(∀v∈vs,v.oneCell'=true)->o+i+vs.length<=c.size->
  (∀j,i<=j->j<i+vs.length->(decide (fr.1<=o+j)&&decide (o+j<fr.2))=false)->
  (storeCells ⟨b,o,none⟩ vs i).run P w= .ok () (mZ w b (.cells (rJ c (o+i) vs) ty fr))
 |[],i,w,c,hb,_,_,_=>by
  have:mZ w b (.cells c ty fr)=w:=by
   unfold mZ;cases w with
   |mk heap tape drawn os output=>
    congr 1;grind
  simp[rJ,storeCells,this]
 |v::r,i,w,c,hb,h1,hs,hf=>by
  simp only[cQ]at hs hf;have qC:w.cell? ⟨b,o+i,none⟩=some c[o+i]:=by rw[cell_of_row w b (o+i) c ty fr hb];simp
  have ec:w.frozen? ⟨b,o+i,none⟩=false:=by
   have:=hf i (aJ _) AC;rw[World.frozen?,hb];exact this
  have cq:(store ((⟨b,o,none⟩:Addr).add i) v).run P w= .ok () (w.setCell ⟨b,o+i,none⟩ v):=by
   rw[B1,run_store P w _ v _ (h1 v Do),qC,ec];rfl
  have av:=IW hb;rw[storeCells,Sem.run_bind,cq,Result.andThen_ok,ZwP hb,RV P b o ty fr r (i+1) _ (c.setIfInBounds (o+i) v) (ND av _) Fd (by simp;omega)
   Fd,ZxZ]
  rw[rJ];rfl
theorem ZrJ: ∀(cs ds:ah),(ov cs ds).length=cs.length
 |[],ds=>by cases ds<;>rfl
 |_::cs,[]=>rfl
 |_::cs,_::ds=>by simp[ov,ZrJ cs ds]
theorem Zw8: ∀(cs ds:ah) (j:Nat),ds.length<=cs.length->(ov cs ds)[j]? =if j<ds.length then ds[j]? else cs[j]?
 |[],[],j,_=>by simp[ov]
 |[],_::_,j,h=>by simp at h
 |c::cs,[],j,_=>by simp[ov]
 |c::cs,d::ds,0,_=>by simp[ov]
 |c::cs,d::ds,j+1,h=>by
  simp only[cQ]at h;simp only[ov,rO,cQ];rw[Zw8 cs ds j AC];by_cases e:j<ds.length
  .rw[bx e,bx AC]
  simp
theorem I3: ∀(cs:ah) (k:Nat) (ds:ah),(cG cs k ds).length=cs.length
 |cs,0,ds=>by cases cs<;>simp[cG,ZrJ]
 |[],k+1,ds=>rfl
 |c::cs,k+1,ds=>by simp[cG,I3 cs k ds]
theorem Jj: ∀(cs:ah) (k:Nat) (ds:ah) (j:Nat),k+ds.length<=cs.length->
  (cG cs k ds)[j]? =if k<=j/\j<k+ds.length then ds[j-k]? else cs[j]?
 |cs,0,ds,j,h=>by
  have:cG cs 0 ds=ov cs ds:=by cases cs<;>rfl
  rw[this,Zw8 cs ds j AC];by_cases e:j<ds.length
  .rw[bx e,bx AC,w9]
  simp
 |[],k+1,ds,j,h=>by simp at h
 |c::cs,k+1,ds,0,h=>by simp[cG]
 |c::cs,k+1,ds,j+1,h=>by
  simp only[cQ]at h;rw[cG,rO,Jj cs k ds j AC];by_cases e:k<=j/\j<k+ds.length
  .rw[bx e,bx AC];congr 1;omega
  grind
structure CB where
 b:Nat
 o:Nat
 m:Nat
abbrev dN:=Nat ⊕ Nat
abbrev Ps:=dN->Option CB
mutual
inductive VR (C:bE) (ψ:Ps):DV->Value->Prop
 |bool (b:Bool):VR C ψ (.bool b) (.bool b)
 |int (k:IntKind) (n:Int):VR C ψ (.int k n) (.int k n)
 |str (s:ByteArray):VR C ψ (.str s.data.toList) (.string s)
 |LF:VR C ψ (.ptr none) (.pointer none)
 |ptr (i o:Nat) (cb:CB):ψ (.inl i)=some cb->VR C ψ (.ptr (some (i,o))) (.pointer (some ⟨cb.b,cb.o+o,none⟩))
 |uw (sz:Nat):VR C ψ (.slice sz none 0) (.slice none 0 0)
 |slice (sz i o n:Nat) (cb:CB) (a:Addr) (cap:Nat):ψ (.inl i)=some cb->n<=cap->(0<cap->a=⟨cb.b,cb.o+o,none⟩/\o+cap*sz<=cb.m)->
   VR C ψ (.slice sz (some (i,o)) n) (.slice (some a) n cap)
 |agg (ds:ah) (vs:Array Value):bJ C ψ ds vs.toList->ds.all one=true->VR C ψ (.agg ds) (.agg vs)
 |func (k:Nat) (fs cs:ah) (vf vc:Array Value):C.cov k=true->bJ C ψ fs vf.toList->bJ C ψ cs vc.toList->
   VR C ψ (.func (C.fn k) fs cs) (.func (.func k) vf vc)
 |nilFunc:VR C ψ .nilFunc .nilFunc
 |iface (t:Nat) (d:DV) (v:Value):VR C ψ d v->VR C ψ (.iface (C.ty t) d) (.iface t v)
 |nilIface:VR C ψ .nilIface .nilIface
inductive bJ (C:bE) (ψ:Ps):List DV->List Value->Prop
 |nil:bJ C ψ [] []
 |cons (d:DV) (v:Value) (ds:ah) (vs:List Value):VR C ψ d v->bJ C ψ ds vs->bJ C ψ (d::ds) (v::vs)
end
section
variable {C:bE} {ψ ψ':Ps}
mutual
theorem VR.mono (h: ∀i cb,ψ (.inl i)=some cb->ψ' (.inl i)=some cb): ∀ {d:DV} {v:Value},VR C ψ d v->VR C ψ' d v
 |_,_,.bool b=> .bool b
 |_,_,.int k n=> .int k n
 |_,_,.str s=> .str s
 |_,_,.LF=> .LF
 |_,_,.ptr i o cb e=> .ptr i o cb (h _ _ e)
 |_,_,.uw sz=> .uw sz
 |_,_,.slice sz i o n cb a cap e h1 h2=> .slice sz i o n cb a cap (h _ _ e) h1 h2
 |_,_,.agg ds vs r h1=> .agg ds vs (bJ.mono h r) h1
 |_,_,.func k fs cs vf vc e r1 r2=> .func k fs cs vf vc e (bJ.mono h r1) (bJ.mono h r2)
 |_,_,.nilFunc=> .nilFunc
 |_,_,.iface t d v r=> .iface t d v (VR.mono h r)
 |_,_,.nilIface=> .nilIface
theorem bJ.mono (h: ∀i cb,ψ (.inl i)=some cb->ψ' (.inl i)=some cb): ∀ {ds:ah} {vs:List Value},bJ C ψ ds vs->bJ C ψ' ds vs
 |_,_,.nil=> .nil
 |_,_,.cons d v ds vs r rs=> .cons d v ds vs (VR.mono h r) (bJ.mono h rs)
end
theorem bJ.len: ∀ {ds:ah} {vs:List Value},bJ C ψ ds vs->ds.length=vs.length
 |_,_,.nil=>rfl
 |_,_,.cons _ _ _ _ _ rs=>by simp[bJ.len rs]
theorem bJ.get: ∀ {ds:ah} {vs:List Value},bJ C ψ ds vs->∀ {j:Nat} {d:DV},ds[j]? =some d->∃v,vs[j]? =some v/\VR C ψ d v
 |_,_,.nil,j,d,h=>by simp at h
 |_,_,.cons d0 v0 ds vs r rs,0,d,h=>by
  grind
 |_,_,.cons d0 v0 ds vs r rs,j+1,d,h=>by
  simp only[rO]at h⊢;exact bJ.get rs h
theorem bJ.of: ∀(ds:ah) (vs:List Value),ds.length=vs.length->(∀(j:Nat) (d:DV) (v:Value),ds[j]? =some d->vs[j]? =some v->VR C ψ d v)->bJ C ψ ds vs
 |[],[],_,_=> .nil
 |[],_::_,h,_=>by simp at h
 |_::_,[],h,_=>by simp at h
 |d::ds,v::vs,h,hp=> .cons d v ds vs (hp 0 d v rfl rfl) (bJ.of ds vs (by simpa using h) λj d v h1 h2=>hp (j+1) d v (by simpa using h1) (by simpa using h2))
theorem bJ.append (h:bJ C ψ ds vs) (h':bJ C ψ nv jI):bJ C ψ (ds++nv) (vs++jI):=by
 have e:=h.len;have e':=h'.len;refine bJ.of _ _ (by simp[e,e']) λj d v h1 h2=>?_
 by_cases hj:j<ds.length
 .rw[nc hj]at h1
  rw[nc AC]at h2;have⟨v',fm,hr⟩:=h.get h1;rw[h2]at fm;cases fm;exact hr
 .rw[kO AC]at h1
  rw[kO AC,<-e]at h2;have⟨v',fm,hr⟩:=h'.get h1;rw[h2]at fm;cases fm;exact hr
theorem bJ.take {ds:ah} {vs:List Value} (h:bJ C ψ ds vs) (n:Nat):bJ C ψ (ds.take n) (vs.take n):=by
 refine bJ.of _ _ (by simp[h.len]) λj d v h1 h2=>?_
 rw[uE]at h1 h2;split at h1
 .rw[bx ‹_›]at h2
  have⟨v',fm,hr⟩:=h.get h1;rw[h2]at fm;cases fm;exact hr
 .cases h1
theorem bJ.drop {ds:ah} {vs:List Value} (h:bJ C ψ ds vs) (n:Nat):bJ C ψ (ds.drop n) (vs.drop n):=by
 refine bJ.of _ _ (by simp[h.len]) λj d v h1 h2=>?_
 rw[w4]at h1 h2;have⟨v',fm,hr⟩:=h.get h1;rw[h2]at fm;cases fm;exact hr
theorem VR.akM (h:VR C ψ d v) (h1:one d=true):v.oneCell'=true:=by
 cases h<;>first|rfl|simp[one]at h1
theorem VR.acy (h:VR C ψ d v) (h1:one d=true):v.cells= #[v]:=by
 cases h<;>first|rfl|simp[one]at h1
theorem bJ.aei (h:bJ C ψ ds vs) (h1:ds.all one=true): ∀v∈vs,v.oneCell'=true:=by
 intro v hv;have⟨j,hj⟩:=Fv hv;have hl:=h.len;have av:j<vs.length:=by
  grind
 have hd:ds[j]? =some ds[j]:=Do
 have⟨v',fm,hr⟩:=h.get hd;rw[hj]at fm;cases fm;exact hr.akM Fd
end
inductive AB where
 |cells (gk:Bool) (cs:ah)
 |iter (s:aj) (pos:Nat)
def AB.iC:AB->Bool
 | .cells f _=> !f
 | .iter _ _=>true
def dA (s:St) (i:Nat):Option AB:=
 match s[i]? with
 |some (some b)=>some (.cells b.gk b.cells)
 |_=>none
abbrev Kn:=dN->AB->Prop
def CR (E:Env) (s:St):Kn
 | .inl i,ab=>dA s i=some ab
 | .inr v,ab=>(∃t n cs,E.get t= .loc v n cs/\ab= .cells false cs)\/(∃t l p,E.get t= .it v l p/\ab= .iter l p)
def Holds (C:bE) (ψ:Ps) (w:World) (cb:CB):AB->Prop
 | .cells f cs=>cs.length<=cb.m/\cs.all one=true/\(∀j d,cs[j]? =some d->∃v,w.cell? ⟨cb.b,cb.o+j,none⟩=some v/\VR C ψ d v)/\
   (f=false->∃c ty fr,w.heap[cb.b]? =some (.cells c ty fr)/\cb.o+cb.m<=c.size/\
    ∀j,j<cb.m->(decide (fr.1<=cb.o+j)&&decide (cb.o+j<fr.2))=false)
 | .iter s p=>∃s',w.heap[cb.b]? =some (.stringIter s' p)/\s'.data.toList=s
structure fI (C:bE) (ψ:Ps) (Q:Kn) (w:World):Prop where
 holds: ∀h cb ab,ψ h=some cb->Q h ab->Holds C ψ w cb ab
 vg: ∀h cb ab h' gH de,ψ h=some cb->Q h ab->ab.iC=true->ψ h'=some gH->Q h' de->h≠h'->gH.b≠cb.b
def vP (ψ:Ps) (Q:Kn) (b:Nat):Prop:=∃h cb ab,ψ h=some cb/\Q h ab/\ab.iC=true/\cb.b=b
def tq (ψ:Ps) (w:World):Prop:=∀h cb,ψ h=some cb->cb.b<w.heap.size
def Glob (C:bE) (ψ:Ps):Prop:=∀g,C.CA g=true->∃cb,ψ (.inl (C.gl g))=some cb/\cb.b=g/\cb.o=0
variable {ab:AB} {cb:CB} {ψ ψ':Ps}
theorem Holds.same (hm: ∀i cb,ψ (.inl i)=some cb->ψ' (.inl i)=some cb) (e:w'.heap[cb.b]? =w.heap[cb.b]?)
  (h:Holds C ψ w cb ab):Holds C ψ' w' cb ab:=by
 have hc: ∀j,w'.cell? ⟨cb.b,j,none⟩=w.cell? ⟨cb.b,j,none⟩:=λj=>by simp only[World.cell?,e]
 cases ab with
 |cells f cs=>
  refine⟨h.1,h.2.1,λj d hd=>?_,λhf=>?_⟩
  .have⟨v,hv,hr⟩:=h.2.2.1 j d hd
   exact⟨v,by rw[hc];exact hv,hr.mono hm⟩
  .have⟨c,ty,fr,hb,h2,h3⟩:=h.2.2.2 hf
   grind
 |iter s p=>
  have⟨s',hb,hs⟩:=h;exact⟨s',by rw[e];exact hb,hs⟩
def vO (w w':World):Prop:=w'.output=w.output/\w.drawn<=w'.drawn
theorem vO.refl (w:World):vO w w:=⟨rfl,aJ _⟩
theorem vO.trans {a b c:World} (h:vO a b) (k:vO b c):vO a c:=⟨k.1.trans h.1,ij h.2 k.2⟩
structure Ext (ψ:Ps) (Q:Kn) (w:World) (ψ':Ps) (Q':Kn) (w':World):Prop where
 mono: ∀h cb,ψ h=some cb->ψ' h=some cb
 uu: ∀h cb,ψ' h=some cb->ψ h=some cb\/(w.heap.size<=cb.b\/vP ψ Q cb.b)/\cb.b<w'.heap.size
 size:w.heap.size<=w'.heap.size
 kE: ∀b,b<w.heap.size->¬vP ψ Q b->w'.heap[b]? =w.heap[b]?
 iC: ∀b,vP ψ' Q' b->vP ψ Q b\/w.heap.size<=b
 live: ∀h cb x,ψ h=some cb->Q' h x->∃y,Q h y
 tape:w'.tape=w.tape
 os:w'.os=w.os
 output:vO w w'
theorem Ext.refl (ψ:Ps) (Q:Kn) (w:World):Ext ψ Q w ψ Q w:=
 ⟨λ_ _ h=>h,λ_ _ h=> .inl h,aJ _,λ_ _ _=>rfl,λ_ h=> .inl h,λ_ _ x _ h=>⟨x,h⟩,rfl,rfl,.refl _⟩
theorem Ext.trans {ψ ψ' HV:Ps} {Q Q' FQ:Kn} {w w' yd:World} (h:Ext ψ Q w ψ' Q' w') (k:Ext ψ' Q' w' HV FQ yd):Ext ψ Q w HV FQ yd where
 mono:=λi cb e=>k.mono i cb (h.mono i cb e)
 uu:=λi cb e=>by
  rcases k.uu i cb e with e|⟨e,e2⟩
  .rcases h.uu i cb e with e|⟨e,e2⟩
   .exact .inl e
   .exact .inr ⟨e,mE e2 k.size⟩
  .refine .inr ⟨?_,e2⟩
   rcases e with e|e
   .exact .inl (ij h.size e)
   .rcases h.iC _ e with e|e
    .exact .inr e
    .exact .inl e
 size:=ij h.size k.size
 kE:=λb hb hn=>by
  rw[k.kE b (mE hb h.size) (λe=>by rcases h.iC b e with e|e;exact hn e;omega),h.kE b hb hn]
 iC:=λb e=>by
  rcases k.iC b e with e|e
  .exact h.iC b e
  .exact .inr (ij h.size e)
 live:=λi cb x e hx=>by
  have⟨y,hy⟩:=k.live i cb x (h.mono i cb e) hx;exact h.live i cb y e hy
 tape:=k.tape.trans h.tape
 os:=k.os.trans h.os
 output:=h.output.trans k.output
variable {Q Q':Kn}
theorem fI.weaken (h:fI C ψ Q w) (hq: ∀h ab cb,ψ h=some cb->Q' h ab->Q h ab):fI C ψ Q' w:=
 ⟨λk cb ab e q=>h.holds k cb ab e (hq k ab cb e q),λk cb ab k' gH de e q hs e' q' hn=>h.vg k cb ab k' gH de e (hq _ _ _ e q) hs e' (hq _ _ _ e' q') hn⟩
variable {FQ:Kn}
theorem Ext.weaken (h:Ext ψ Q w ψ' Q' w') (hq: ∀k ab cb,ψ' k=some cb->FQ k ab->Q' k ab):Ext ψ Q w ψ' FQ w':=
 { h with
  iC:=λb ⟨k,cb,ab,e,q,hs,hb⟩=>h.iC b ⟨k,cb,ab,e,hq _ _ _ e q,hs,hb⟩
  live:=λk cb x e q=>h.live k cb x e (hq _ _ _ (h.mono _ _ e) q) }
theorem Ext.gU (h:Ext ψ Q w ψ' Q' w') (hb:tq ψ w):tq ψ' w':=λk cb e=>by
 rcases h.uu k cb e with e|⟨_,e⟩
 .exact mE (hb k cb e) h.size
 .exact e
theorem Ext.mj (h:Ext ψ Q w ψ' Q' w') (hg:Glob C ψ):Glob C ψ':=λg e=>
 let ⟨cb,e1,e2⟩:=hg g e
 ⟨cb,h.mono _ _ e1,e2⟩
def qa (ψ:Ps) (h:dN) (cb:CB):Ps:=λk=>if k=h then some cb else ψ k
def zV (Q:Kn) (h:dN) (ab:AB):Kn:=λk x=>(k=h/\x=ab)\/(k≠h/\Q k x)
theorem rY (ψ:Ps) (h:dN) (cb:CB):qa ψ h cb h=some cb:=by simp[qa]
variable {h:dN}
theorem qm (ψ:Ps) {k:dN} (cb:CB) (e:k≠h):qa ψ h cb k=ψ k:=by simp[qa,e]
theorem xq (hf:ψ h=none): ∀k c,ψ k=some c->qa ψ h cb k=some c:=by
 intro k c e;by_cases ek:k=h
 .grind
 .rw[qm _ _ ek];exact e
structure iD (w w':World):Prop where
 fT: ∀b,b<w.heap.size->w'.heap[b]? =w.heap[b]?
 size:w.heap.size<=w'.heap.size
 tape:w'.tape=w.tape
 os:w'.os=w.os
 output:vO w w'
theorem iD.refl (w:World):iD w w:=⟨λ_ _=>rfl,aJ _,rfl,rfl,.refl w⟩
theorem iD.drew (w:World):iD w w.drew:=⟨λ_ _=>rfl,aJ _,rfl,rfl,rfl,Nat.le_succ _⟩
theorem iD.alloc (w:World) (o:Obj):iD w (w.alloc o):=
 ⟨λb h=>heap_alloc_old w o b h,Do,rfl,rfl,rfl,aJ _⟩
theorem iD.trans {w w' yd:World} (h:iD w w') (k:iD w' yd):iD w yd:=
 ⟨λb hb=>(k.fT b (mE hb h.size)).trans (h.fT b hb),ij h.size k.size,k.tape.trans h.tape,k.os.trans h.os,h.output.trans k.output⟩
theorem fI.more (h:fI C ψ Q w) (hb:tq ψ w) (hm:iD w w'):fI C ψ Q w':=
 ⟨λk cb ab e q=>(h.holds k cb ab e q).same (λ_ _ e=>e) (hm.fT _ (hb k cb e)),h.vg⟩
theorem Ext.more (hm:iD w w'):Ext ψ Q w ψ Q w':=
 ⟨λ_ _ h=>h,λ_ _ h=> .inl h,hm.size,λb hb _=>hm.fT b hb,λ_ h=> .inl h,λ_ _ x _ h=>⟨x,h⟩,hm.tape,hm.os,hm.output⟩
theorem fI.new (hs:fI C ψ Q w) (hb:tq ψ w) (hm:iD w w') (hf:ψ h=none)
  (h1:w.heap.size<=cb.b) (hh:Holds C (qa ψ h cb) w' cb ab):fI C (qa ψ h cb) (zV Q h ab) w':=by
 have mono:=xq (cb:=cb) hf;have fT: ∀k c x,qa ψ h cb k=some c->zV Q h ab k x->(k=h/\c=cb/\x=ab)\/(k≠h/\ψ k=some c/\Q k x):=by
  intro k c x e q;rcases q with⟨rfl,rfl⟩|⟨hk,q⟩
  .rw[rY]at e;grind
  .rw[qm _ _ hk]at e;grind
 constructor
 .intro k c x e q
  rcases fT k c x e q with⟨rfl,rfl,rfl⟩|⟨_,e,q⟩
  .exact hh
  .exact(hs.holds k c x e q).same (λi c e=>mono _ _ e) (hm.fT _ (hb k c e))
 .intro k c x k' c' x' e q rF e' q' hn
  rcases fT k c x e q with⟨rfl,rfl,rfl⟩|⟨hk,e,q⟩<;>rcases fT k' c' x' e' q' with⟨rfl,rfl,rfl⟩|⟨oK,e',q'⟩
  .exact absurd rfl hn
  .have:=hb k' c' (by assumption);omega
  .have:=hb k c (by assumption);omega
  .exact hs.vg k c x k' c' x' e q rF e' q' hn
theorem Ext.new (hm:iD w w') (hf:ψ h=none)
  (h1:w.heap.size<=cb.b) (h2:cb.b<w'.heap.size):Ext ψ Q w (qa ψ h cb) (zV Q h ab) w' where
 mono:=xq hf
 uu:=λk c e=>by
  by_cases ek:k=h
  .grind[rY]
  .rw[qm _ _ ek]at e;exact .inl e
 size:=hm.size
 kE:=λb hb _=>hm.fT b hb
 iC:=λb ⟨k,c,x,e,q,hs,hb⟩=>by
  rcases q with⟨rfl,rfl⟩|⟨hk,q⟩
  .rw[rY]at e;grind
  .rw[qm _ _ hk]at e;exact .inl ⟨k,c,x,e,q,hs,hb⟩
 live:=λk c x e q=>by
  rcases q with⟨rfl,rfl⟩|⟨hk,q⟩
  .rw[hf]at e;cases e
  .exact⟨x,q⟩
 tape:=hm.tape
 os:=hm.os
 output:=hm.output
variable {de:AB}
theorem fI.set (hs:fI C ψ Q w) (he:ψ h=some cb) (hq:Q h ab) (rF:ab.iC=true)
  (hk: ∀b,b≠cb.b->w'.heap[b]? =w.heap[b]?) (hh:Holds C ψ w' cb de):fI C ψ (zV Q h de) w':=by
 have fT: ∀k c x,ψ k=some c->zV Q h de k x->(k=h/\c=cb/\x=de)\/(k≠h/\ψ k=some c/\Q k x/\c.b≠cb.b):=by
  intro k c x e q;rcases q with⟨rfl,rfl⟩|⟨hk,q⟩
  .rw[he]at e;grind
  .exact .inr ⟨hk,e,q,hs.vg h cb ab k c x he hq rF e q (Ne.symm hk)⟩
 constructor
 .intro k c x e q
  rcases fT k c x e q with⟨rfl,rfl,rfl⟩|⟨_,e,q,hb⟩
  .exact hh
  .exact(hs.holds k c x e q).same (λ_ _ e=>e) (hk _ hb)
 .intro k c x k' c' x' e q rF e' q' hn
  rcases fT k c x e q with⟨rfl,rfl,rfl⟩|⟨hk,e,q,hb⟩<;>rcases fT k' c' x' e' q' with⟨rfl,rfl,rfl⟩|⟨oK,e',q',dq⟩
  .exact absurd rfl hn
  .exact dq
  .exact Ne.symm hb
  .exact hs.vg k c x k' c' x' e q rF e' q' hn
theorem Ext.set (he:ψ h=some cb) (hq:Q h ab) (rF:ab.iC=true)
  (hk: ∀b,b≠cb.b->w'.heap[b]? =w.heap[b]?) (cJ:w'.heap.size=w.heap.size) (ht:w'.tape=w.tape) (ho:w'.os=w.os) (hu:vO w w'):Ext ψ Q w ψ (zV Q h de) w' where
 mono:=λ_ _ e=>e
 uu:=λ_ _ e=> .inl e
 size:=AC
 kE:=λb _ hn=>hk b λe=>hn ⟨h,cb,ab,he,hq,rF,e.symm⟩
 iC:=λb ⟨k,c,x,e,q,hs,hb⟩=>by
  rcases q with⟨rfl,rfl⟩|⟨_,q⟩
  .rw[he]at e;cases e;exact .inl ⟨_,_,ab,he,hq,rF,hb⟩
  .exact .inl ⟨k,c,x,e,q,hs,hb⟩
 live:=λk c x e q=>by
  rcases q with⟨rfl,rfl⟩|⟨_,q⟩
  .exact⟨ab,hq⟩
  .exact⟨x,q⟩
 tape:=ht
 os:=ho
 output:=hu
def Lq (Q:Kn) (h h':dN) (ab:AB):Kn:=λk x=>(k=h'/\x=ab)\/(k≠h'/\k≠h/\Q k x)
variable {gH:CB} {h':dN}
theorem fI.move (hs:fI C ψ Q w) (he:ψ h=some cb) (hq:Q h ab) (rF:ab.iC=true)
  (hf:ψ h'=none) (hb:gH.b=cb.b) (hk: ∀b,b≠cb.b->w'.heap[b]? =w.heap[b]?) (hh:Holds C (qa ψ h' gH) w' gH de):fI C (qa ψ h' gH) (Lq Q h h' de) w':=by
 have fT: ∀k c x,qa ψ h' gH k=some c->Lq Q h h' de k x->(k=h'/\c=gH/\x=de)\/(k≠h'/\ψ k=some c/\Q k x/\c.b≠cb.b):=by
  intro k c x e q;rcases q with⟨rfl,rfl⟩|⟨hk,jR,q⟩
  .rw[rY]at e;grind
  .rw[qm _ _ hk]at e
   exact .inr ⟨hk,e,q,hs.vg h cb ab k c x he hq rF e q (Ne.symm jR)⟩
 constructor
 .intro k c x e q
  rcases fT k c x e q with⟨rfl,rfl,rfl⟩|⟨_,e,q,hb⟩
  .exact hh
  .exact(hs.holds k c x e q).same (λ_ _ e=>xq hf _ _ e) (hk _ hb)
 .intro k c x k' c' x' e q rF e' q' hn
  rcases fT k c x e q with⟨rfl,rfl,rfl⟩|⟨hk,e,q,lK⟩<;>rcases fT k' c' x' e' q' with⟨rfl,rfl,rfl⟩|⟨oK,e',q',cZ⟩
  .exact absurd rfl hn
  .rw[hb];exact cZ
  .rw[hb];exact Ne.symm lK
  .exact hs.vg k c x k' c' x' e q rF e' q' hn
theorem Ext.move (he:ψ h=some cb) (hq:Q h ab) (rF:ab.iC=true) (hf:ψ h'=none)
  (hb:gH.b=cb.b) (av:cb.b<w.heap.size) (hk: ∀b,b≠cb.b->w'.heap[b]? =w.heap[b]?) (cJ:w'.heap.size=w.heap.size) (ht:w'.tape=w.tape) (ho:w'.os=w.os)
  (hu:vO w w'):Ext ψ Q w (qa ψ h' gH) (Lq Q h h' de) w' where
 mono:=xq hf
 uu:=λk c e=>by
  by_cases ek:k=h'
  .subst ek;rw[rY]at e;cases e;exact .inr ⟨.inr ⟨h,cb,ab,he,hq,rF,hb.symm⟩,AC⟩
  .rw[qm _ _ ek]at e;exact .inl e
 size:=AC
 kE:=λb _ hn=>hk b λe=>hn ⟨h,cb,ab,he,hq,rF,e.symm⟩
 iC:=λb ⟨k,c,x,e,q,hs,dq⟩=>by
  rcases q with⟨rfl,rfl⟩|⟨hk,_,q⟩
  .rw[rY]at e;cases e;exact .inl ⟨h,cb,ab,he,hq,rF,AC⟩
  .rw[qm _ _ hk]at e;exact .inl ⟨k,c,x,e,q,hs,dq⟩
 live:=λk c x e q=>by
  rcases q with⟨rfl,rfl⟩|⟨_,_,q⟩
  .rw[hf]at e;cases e
  .exact⟨x,q⟩
 tape:=ht
 os:=ho
 output:=hu
def gh (C:bE) (ψ:Ps):fg->Value->Prop
 | .u,_=>True
 | .un,x=>x=undef
 |fg.v d,x=>VR C ψ d x
 | .rN ds,x=>∃vs,x= .tuple vs/\bJ C ψ ds vs.toList
 | .loc dp _ _,x=>∃cb,ψ (.inr dp)=some cb/\cb.o=0/\x= .pointer (some ⟨cb.b,0,none⟩)
 | .pl _ dp o,x=>∃cb,ψ (.inr dp)=some cb/\cb.o=0/\x= .pointer (some ⟨cb.b,o,none⟩)
 | .it dp _ _,x=>∃cb,ψ (.inr dp)=some cb/\x= .pointer (some ⟨cb.b,0,none⟩)
theorem gh.mono {C:bE} {ψ ψ':Ps} (h: ∀k cb,ψ k=some cb->ψ' k=some cb) {e:fg} {x:Value} (r:gh C ψ e x):gh C ψ' e x:=by
 cases e with
 |u=>exact trivial
 |un=>exact r
 |v d=>exact VR.mono (λi cb e=>h _ _ e) r
 |rN ds=>have⟨vs,e,r⟩:=r;exact⟨vs,e,r.mono λi cb e=>h _ _ e⟩
 |loc v n cs=>have⟨cb,e,r⟩:=r;exact⟨cb,h _ _ e,r⟩
 |pl a v n=>have⟨cb,e,r⟩:=r;exact⟨cb,h _ _ e,r⟩
 |it v n cs=>have⟨cb,e,r⟩:=r;exact⟨cb,h _ _ e,r⟩
def fg.dp:fg->Option Nat
 | .loc k _ _=>some k
 | .it k _ _=>some k
 |_=>none
structure jV (E:Env):Prop where
 lt: ∀t v,(E.get t).dp=some v->v<E.bS
 pl: ∀t r v o,E.get t= .pl r v o->v<E.bS
 len: ∀t v n cs,E.get t= .loc v n cs->cs.length=n
 uniq: ∀t t' v,(E.get t).dp=some v->(E.get t').dp=some v->t=t'
