/- How the machine's values, heap and registers stand for the model's. -/
import Derived.Test.YtegglibipjjblaaGreatDoorGvDef
import Derived.Laws.Sem
import Derived.Laws.World
import Derived.Laws.Cells
import Derived.Laws.Rows
import Derived.Deep.LoopGhost
set_option linter.all false
namespace Go.Gv
theorem Cb (b o j:Nat):(⟨b,o,none⟩:Addr).add j=⟨b,o+j,none⟩:=by
 simp[Addr.add]
def ml (w:World) (b:Nat) (o:Obj):World:= { w with heap:=w.heap.setIfInBounds b o }
@[simp] theorem Qo (w : World) (b : Nat) (o : Obj) : (ml w b o).heap.size = w.heap.size := by simp [ml]
variable {d:DV} {jm vs:List Value} {i k o:Nat} {v:Value} {w w':World} {ds mD:ah} {C:bE}
theorem Nk {b:Nat} (h:b<w.heap.size) (o:Obj):(ml w b o).heap[b]? =some o:=by simp[ml,h]
theorem ZvY {b:Nat} (h:k≠b) (o:Obj):(ml w b o).heap[k]? =w.heap[k]? :=by
 grind[ml]
theorem Zxz (w:World) (b:Nat) (o o':Obj):ml (ml w b o) b o'=ml w b o':=by simp[ml]
theorem Ja {α:Type} {a:Array α} {x:α} (h:a[i]? =some x):i<a.size:=by
 grind
theorem ZvD {b:Nat} {c:Array Value} {ty:TypeId} {fr:Nat×Nat} (h:w.heap[b]? =some (.cells c ty fr)) (v:Value):
  w.setCell ⟨b,o,none⟩ v=ml w b (.cells (c.setIfInBounds o v) ty fr):=by
 unfold World.setCell ml;congr 1;grind
def qN:Array Value->Nat->List Value->Array Value
 |c,_,[]=>c
 |c,k,v::r=>qN (c.setIfInBounds k v) (k+1) r
@[simp] theorem akk : ∀ (vs : List Value) (c : Array Value) (k : Nat), (qN c k vs).size = c.size
 |[],_,_=>rfl
 |v::r,c,k=>by rw[qN,akk r];simp
theorem NS: ∀(vs:List Value) (c:Array Value) (k j:Nat),k+vs.length<=c.size->
  (qN c k vs)[j]? =if k<=j/\j<k+vs.length then vs[j-k]? else c[j]?
 |[],c,k,j,_=>by grind[qN,xS]
 |v::r,c,k,j,h=>by
  simp only[cQ]at h⊢;rw[qN,NS r _ _ _ (by simp;omega)];by_cases h1:k+1<=j/\j<k+1+r.length
  .rw[bG h1,bG AC]
   grind
  grind
theorem RN (P:Program) (b o:Nat) (ty:TypeId) (fr:Nat×Nat): ∀(vs:List Value) (i:Nat) (w:World) (c:Array Value),
  w.heap[b]? =some (.cells c ty fr)->(∀v∈vs,v.oneCell'=true)->o+i+vs.length<=c.size->
  (∀j,i<=j->j<i+vs.length->(decide (fr.1<=o+j)&&decide (o+j<fr.2))=false)->
  (storeCells ⟨b,o,none⟩ vs i).run P w= .ok () (ml w b (.cells (qN c (o+i) vs) ty fr))
 |[],i,w,c,hb,_,_,_=>by
  have:ml w b (.cells c ty fr)=w:=by
   unfold ml;cases w with
   |mk heap tape drawn os output=>
    congr 1;grind
  simp[qN,storeCells,this]
 |v::r,i,w,c,hb,h1,hs,hf=>by
  simp only[cQ]at hs hf;have mG:w.cell? ⟨b,o+i,none⟩=some c[o+i]:=by rw[cell_of_row w b (o+i) c ty fr hb];simp
  have dW:w.frozen? ⟨b,o+i,none⟩=false:=by
   have:=hf i (aM _) AC;rw[World.frozen?,hb];exact this
  have cd:(store ((⟨b,o,none⟩:Addr).add i) v).run P w= .ok () (w.setCell ⟨b,o+i,none⟩ v):=by
   rw[Cb,run_store P w _ v _ (h1 v Do),mG,dW];rfl
  have aw:=Ja hb;rw[storeCells,Sem.run_bind,cd,Result.andThen_ok,ZvD hb,RN P b o ty fr r (i+1) _ (c.setIfInBounds (o+i) v) (Nk aw _) Fd (by simp;omega)
   Fd,Zxz]
  rw[qN];rfl
theorem ZrT: ∀(cs ds:ah),(ov cs ds).length=cs.length
 |[],ds=>by cases ds<;>rfl
 |_::cs,[]=>rfl
 |_::cs,_::ds=>by simp[ov,ZrT cs ds]
theorem Zya: ∀(cs ds:ah) (j:Nat),ds.length<=cs.length->(ov cs ds)[j]? =if j<ds.length then ds[j]? else cs[j]?
 |[],[],j,_=>by simp[ov]
 |[],_::_,j,h=>by simp at h
 |c::cs,[],j,_=>by simp[ov]
 |c::cs,d::ds,0,_=>by simp[ov]
 |c::cs,d::ds,j+1,h=>by
  simp only[cQ]at h;simp only[ov,qV,cQ];rw[Zya cs ds j AC];by_cases e:j<ds.length
  .rw[bG e,bG AC]
  simp
theorem IZ: ∀(cs:ah) (k:Nat) (ds:ah),(cG cs k ds).length=cs.length
 |cs,0,ds=>by cases cs<;>simp[cG,ZrT]
 |[],k+1,ds=>rfl
 |c::cs,k+1,ds=>by simp[cG,IZ cs k ds]
theorem Ju: ∀(cs:ah) (k:Nat) (ds:ah) (j:Nat),k+ds.length<=cs.length->
  (cG cs k ds)[j]? =if k<=j/\j<k+ds.length then ds[j-k]? else cs[j]?
 |cs,0,ds,j,h=>by
  have:cG cs 0 ds=ov cs ds:=by cases cs<;>rfl
  rw[this,Zya cs ds j AC];by_cases e:j<ds.length
  .rw[bG e,bG AC,BL]
  simp
 |[],k+1,ds,j,h=>by simp at h
 |c::cs,k+1,ds,0,h=>by simp[cG]
 |c::cs,k+1,ds,j+1,h=>by
  simp only[cQ]at h;rw[cG,qV,Ju cs k ds j AC];by_cases e:k<=j/\j<k+ds.length
  .rw[bG e,bG AC];congr 1;omega
  grind
structure CB where
 b:Nat
 o:Nat
 m:Nat
abbrev dN:=Nat ⊕ Nat
abbrev Ps:=dN->Option CB
mutual
inductive VR (C:bE) (ψ:Ps):DV->Value->Prop
 |bool (b:Bool):VR C ψ (.bool b) (.bool b)
 |int (k:IntKind) (n:Int):VR C ψ (.int k n) (.int k n)
 |str (s:ByteArray):VR C ψ (.str s.data.toList) (.string s)
 |LI:VR C ψ (.ptr none) (.pointer none)
 |ptr (i o:Nat) (cb:CB):ψ (.inl i)=some cb->VR C ψ (.ptr (some (i,o))) (.pointer (some ⟨cb.b,cb.o+o,none⟩))
 |tP (sz:Nat):VR C ψ (.slice sz none 0) (.slice none 0 0)
 |slice (sz i o n:Nat) (cb:CB) (a:Addr) (cap:Nat):ψ (.inl i)=some cb->n<=cap->(0<cap->a=⟨cb.b,cb.o+o,none⟩/\o+cap*sz<=cb.m)->
   VR C ψ (.slice sz (some (i,o)) n) (.slice (some a) n cap)
 |agg (ds:ah) (vs:Array Value):bH C ψ ds vs.toList->ds.all one=true->VR C ψ (.agg ds) (.agg vs)
 |func (k:Nat) (fs cs:ah) (vf vc:Array Value):C.cov k=true->bH C ψ fs vf.toList->bH C ψ cs vc.toList->
   VR C ψ (.func (C.fn k) fs cs) (.func (.func k) vf vc)
 |nilFunc:VR C ψ .nilFunc .nilFunc
 |iface (t:Nat) (d:DV) (v:Value):VR C ψ d v->VR C ψ (.iface (C.ty t) d) (.iface t v)
 |nilIface:VR C ψ .nilIface .nilIface
inductive bH (C:bE) (ψ:Ps):List DV->List Value->Prop
 |nil:bH C ψ [] []
 |cons (d:DV) (v:Value) (ds:ah) (vs:List Value):VR C ψ d v->bH C ψ ds vs->bH C ψ (d::ds) (v::vs)
end
section
variable {C:bE} {ψ ψ':Ps}
mutual
theorem VR.mono (h: ∀i cb,ψ (.inl i)=some cb->ψ' (.inl i)=some cb): ∀ {d:DV} {v:Value},VR C ψ d v->VR C ψ' d v
 |_,_,.bool b=> .bool b
 |_,_,.int k n=> .int k n
 |_,_,.str s=> .str s
 |_,_,.LI=> .LI
 |_,_,.ptr i o cb e=> .ptr i o cb (h _ _ e)
 |_,_,.tP sz=> .tP sz
 |_,_,.slice sz i o n cb a cap e h1 h2=> .slice sz i o n cb a cap (h _ _ e) h1 h2
 |_,_,.agg ds vs r h1=> .agg ds vs (bH.mono h r) h1
 |_,_,.func k fs cs vf vc e r1 r2=> .func k fs cs vf vc e (bH.mono h r1) (bH.mono h r2)
 |_,_,.nilFunc=> .nilFunc
 |_,_,.iface t d v r=> .iface t d v (VR.mono h r)
 |_,_,.nilIface=> .nilIface
theorem bH.mono (h: ∀i cb,ψ (.inl i)=some cb->ψ' (.inl i)=some cb): ∀ {ds:ah} {vs:List Value},bH C ψ ds vs->bH C ψ' ds vs
 |_,_,.nil=> .nil
 |_,_,.cons d v ds vs r rs=> .cons d v ds vs (VR.mono h r) (bH.mono h rs)
end
theorem bH.len: ∀ {ds:ah} {vs:List Value},bH C ψ ds vs->ds.length=vs.length
 |_,_,.nil=>rfl
 |_,_,.cons _ _ _ _ _ rs=>by simp[bH.len rs]
theorem bH.get: ∀ {ds:ah} {vs:List Value},bH C ψ ds vs->∀ {j:Nat} {d:DV},ds[j]? =some d->∃v,vs[j]? =some v/\VR C ψ d v
 |_,_,.nil,j,d,h=>by simp at h
 |_,_,.cons d0 v0 ds vs r rs,0,d,h=>by
  grind
 |_,_,.cons d0 v0 ds vs r rs,j+1,d,h=>by
  simp only[qV]at h⊢;exact bH.get rs h
theorem bH.of: ∀(ds:ah) (vs:List Value),ds.length=vs.length->(∀(j:Nat) (d:DV) (v:Value),ds[j]? =some d->vs[j]? =some v->VR C ψ d v)->bH C ψ ds vs
 |[],[],_,_=> .nil
 |[],_::_,h,_=>by simp at h
 |_::_,[],h,_=>by simp at h
 |d::ds,v::vs,h,hp=> .cons d v ds vs (hp 0 d v rfl rfl) (bH.of ds vs (by simpa using h) λj d v h1 h2=>hp (j+1) d v (by simpa using h1) (by simpa using h2))
theorem bH.append (h:bH C ψ ds vs) (h':bH C ψ mD jm):bH C ψ (ds++mD) (vs++jm):=by
 have e:=h.len;have e':=h'.len;refine bH.of _ _ (by simp[e,e']) λj d v h1 h2=>?_
 by_cases hj:j<ds.length
 .rw[mn hj]at h1
  rw[mn AC]at h2;have⟨v',fg,hr⟩:=h.get h1;rw[h2]at fg;cases fg;exact hr
 .rw[kL AC]at h1
  rw[kL AC,<-e]at h2;have⟨v',fg,hr⟩:=h'.get h1;rw[h2]at fg;cases fg;exact hr
theorem bH.take {ds:ah} {vs:List Value} (h:bH C ψ ds vs) (n:Nat):bH C ψ (ds.take n) (vs.take n):=by
 refine bH.of _ _ (by simp[h.len]) λj d v h1 h2=>?_
 rw[xR]at h1 h2;split at h1
 .rw[bG ‹_›]at h2
  have⟨v',fg,hr⟩:=h.get h1;rw[h2]at fg;cases fg;exact hr
 .cases h1
theorem bH.drop {ds:ah} {vs:List Value} (h:bH C ψ ds vs) (n:Nat):bH C ψ (ds.drop n) (vs.drop n):=by
 refine bH.of _ _ (by simp[h.len]) λj d v h1 h2=>?_
 rw[BG]at h1 h2;have⟨v',fg,hr⟩:=h.get h1;rw[h2]at fg;cases fg;exact hr
theorem VR.akf (h:VR C ψ d v) (h1:one d=true):v.oneCell'=true:=by
 cases h<;>first|rfl|simp[one]at h1
theorem VR.abM (h:VR C ψ d v) (h1:one d=true):v.cells= #[v]:=by
 cases h<;>first|rfl|simp[one]at h1
theorem bH.adp (h:bH C ψ ds vs) (h1:ds.all one=true): ∀v∈vs,v.oneCell'=true:=by
 intro v hv;have⟨j,hj⟩:=FM hv;have hl:=h.len;have aw:j<vs.length:=by
  grind
 have hd:ds[j]? =some ds[j]:=Do
 have⟨v',fg,hr⟩:=h.get hd;rw[hj]at fg;cases fg;exact hr.akf Fd
end
inductive AB where
 |cells (dU:Bool) (cs:ah)
 |iter (s:aj) (pos:Nat)
def AB.hJ:AB->Bool
 | .cells f _=> !f
 | .iter _ _=>true
def dD (s:St) (i:Nat):Option AB:=
 match s[i]? with
 |some (some b)=>some (.cells b.dU b.cells)
 |_=>none
abbrev Kn:=dN->AB->Prop
def CR (E:Env) (s:St):Kn
 | .inl i,ab=>dD s i=some ab
 | .inr v,ab=>(∃t n cs,E.get t= .loc v n cs/\ab= .cells false cs)\/(∃t l p,E.get t= .it v l p/\ab= .iter l p)
def Holds (C:bE) (ψ:Ps) (w:World) (cb:CB):AB->Prop
 | .cells f cs=>cs.length<=cb.m/\cs.all one=true/\(∀j d,cs[j]? =some d->∃v,w.cell? ⟨cb.b,cb.o+j,none⟩=some v/\VR C ψ d v)/\
   (f=false->∃c ty fr,w.heap[cb.b]? =some (.cells c ty fr)/\cb.o+cb.m<=c.size/\
    ∀j,j<cb.m->(decide (fr.1<=cb.o+j)&&decide (cb.o+j<fr.2))=false)
 | .iter s p=>∃s',w.heap[cb.b]? =some (.stringIter s' p)/\s'.data.toList=s
structure fC (C:bE) (ψ:Ps) (Q:Kn) (w:World):Prop where
 holds: ∀h cb ab,ψ h=some cb->Q h ab->Holds C ψ w cb ab
 uA: ∀h cb ab h' gC df,ψ h=some cb->Q h ab->ab.hJ=true->ψ h'=some gC->Q h' df->h≠h'->gC.b≠cb.b
def vk (ψ:Ps) (Q:Kn) (b:Nat):Prop:=∃h cb ab,ψ h=some cb/\Q h ab/\ab.hJ=true/\cb.b=b
def sF (ψ:Ps) (w:World):Prop:=∀h cb,ψ h=some cb->cb.b<w.heap.size
def Glob (C:bE) (ψ:Ps):Prop:=∀g,C.CM g=true->∃cb,ψ (.inl (C.gl g))=some cb/\cb.b=g/\cb.o=0
variable {ab:AB} {cb:CB} {ψ ψ':Ps}
theorem Holds.same (hm: ∀i cb,ψ (.inl i)=some cb->ψ' (.inl i)=some cb) (e:w'.heap[cb.b]? =w.heap[cb.b]?)
  (h:Holds C ψ w cb ab):Holds C ψ' w' cb ab:=by
 have hc: ∀j,w'.cell? ⟨cb.b,j,none⟩=w.cell? ⟨cb.b,j,none⟩:=λj=>by simp only[World.cell?,e]
 cases ab with
 |cells f cs=>
  refine⟨h.1,h.2.1,λj d hd=>?_,λhf=>?_⟩
  .have⟨v,hv,hr⟩:=h.2.2.1 j d hd
   exact⟨v,by rw[hc];exact hv,hr.mono hm⟩
  .have⟨c,ty,fr,hb,h2,h3⟩:=h.2.2.2 hf
   grind
 |iter s p=>
  have⟨s',hb,hs⟩:=h;exact⟨s',by rw[e];exact hb,hs⟩
def vj (w w':World):Prop:=w'.output=w.output/\w.drawn<=w'.drawn
theorem vj.refl (w:World):vj w w:=⟨rfl,aM _⟩
theorem vj.trans {a b c:World} (h:vj a b) (k:vj b c):vj a c:=⟨k.1.trans h.1,hU h.2 k.2⟩
structure Ext (ψ:Ps) (Q:Kn) (w:World) (ψ':Ps) (Q':Kn) (w':World):Prop where
 mono: ∀h cb,ψ h=some cb->ψ' h=some cb
 tN: ∀h cb,ψ' h=some cb->ψ h=some cb\/(w.heap.size<=cb.b\/vk ψ Q cb.b)/\cb.b<w'.heap.size
 size:w.heap.size<=w'.heap.size
 kl: ∀b,b<w.heap.size->¬vk ψ Q b->w'.heap[b]? =w.heap[b]?
 hJ: ∀b,vk ψ' Q' b->vk ψ Q b\/w.heap.size<=b
 live: ∀h cb x,ψ h=some cb->Q' h x->∃y,Q h y
 tape:w'.tape=w.tape
 os:w'.os=w.os
 output:vj w w'
theorem Ext.refl (ψ:Ps) (Q:Kn) (w:World):Ext ψ Q w ψ Q w:=
 ⟨λ_ _ h=>h,λ_ _ h=> .inl h,aM _,λ_ _ _=>rfl,λ_ h=> .inl h,λ_ _ x _ h=>⟨x,h⟩,rfl,rfl,.refl _⟩
theorem Ext.trans {ψ ψ' H5:Ps} {Q Q' FZ:Kn} {w w' xP:World} (h:Ext ψ Q w ψ' Q' w') (k:Ext ψ' Q' w' H5 FZ xP):Ext ψ Q w H5 FZ xP where
 mono:=λi cb e=>k.mono i cb (h.mono i cb e)
 tN:=λi cb e=>by
  rcases k.tN i cb e with e|⟨e,e2⟩
  .rcases h.tN i cb e with e|⟨e,e2⟩
   .exact .inl e
   .exact .inr ⟨e,mo e2 k.size⟩
  .refine .inr ⟨?_,e2⟩
   rcases e with e|e
   .exact .inl (hU h.size e)
   .rcases h.hJ _ e with e|e
    .exact .inr e
    .exact .inl e
 size:=hU h.size k.size
 kl:=λb hb hn=>by
  rw[k.kl b (mo hb h.size) (λe=>by rcases h.hJ b e with e|e;exact hn e;omega),h.kl b hb hn]
 hJ:=λb e=>by
  rcases k.hJ b e with e|e
  .exact h.hJ b e
  .exact .inr (hU h.size e)
 live:=λi cb x e hx=>by
  have⟨y,hy⟩:=k.live i cb x (h.mono i cb e) hx;exact h.live i cb y e hy
 tape:=k.tape.trans h.tape
 os:=k.os.trans h.os
 output:=h.output.trans k.output
variable {Q Q':Kn}
theorem fC.weaken (h:fC C ψ Q w) (hq: ∀h ab cb,ψ h=some cb->Q' h ab->Q h ab):fC C ψ Q' w:=
 ⟨λk cb ab e q=>h.holds k cb ab e (hq k ab cb e q),λk cb ab k' gC df e q hs e' q' hn=>h.uA k cb ab k' gC df e (hq _ _ _ e q) hs e' (hq _ _ _ e' q') hn⟩
variable {FZ:Kn}
theorem Ext.weaken (h:Ext ψ Q w ψ' Q' w') (hq: ∀k ab cb,ψ' k=some cb->FZ k ab->Q' k ab):Ext ψ Q w ψ' FZ w':=
 { h with
  hJ:=λb ⟨k,cb,ab,e,q,hs,hb⟩=>h.hJ b ⟨k,cb,ab,e,hq _ _ _ e q,hs,hb⟩
  live:=λk cb x e q=>h.live k cb x e (hq _ _ _ (h.mono _ _ e) q) }
theorem Ext.gO (h:Ext ψ Q w ψ' Q' w') (hb:sF ψ w):sF ψ' w':=λk cb e=>by
 rcases h.tN k cb e with e|⟨_,e⟩
 .exact mo (hb k cb e) h.size
 .exact e
theorem Ext.lK (h:Ext ψ Q w ψ' Q' w') (hg:Glob C ψ):Glob C ψ':=λg e=>
 let ⟨cb,e1,e2⟩:=hg g e
 ⟨cb,h.mono _ _ e1,e2⟩
def oT (ψ:Ps) (h:dN) (cb:CB):Ps:=λk=>if k=h then some cb else ψ k
def zN (Q:Kn) (h:dN) (ab:AB):Kn:=λk x=>(k=h/\x=ab)\/(k≠h/\Q k x)
theorem ri (ψ:Ps) (h:dN) (cb:CB):oT ψ h cb h=some cb:=by simp[oT]
variable {h:dN}
theorem pK (ψ:Ps) {k:dN} (cb:CB) (e:k≠h):oT ψ h cb k=ψ k:=by simp[oT,e]
theorem wR (hf:ψ h=none): ∀k c,ψ k=some c->oT ψ h cb k=some c:=by
 intro k c e;by_cases ek:k=h
 .grind
 .rw[pK _ _ ek];exact e
structure hY (w w':World):Prop where
 fO: ∀b,b<w.heap.size->w'.heap[b]? =w.heap[b]?
 size:w.heap.size<=w'.heap.size
 tape:w'.tape=w.tape
 os:w'.os=w.os
 output:vj w w'
theorem hY.refl (w:World):hY w w:=⟨λ_ _=>rfl,aM _,rfl,rfl,.refl w⟩
theorem hY.drew (w:World):hY w w.drew:=⟨λ_ _=>rfl,aM _,rfl,rfl,rfl,Nat.le_succ _⟩
theorem hY.alloc (w:World) (o:Obj):hY w (w.alloc o):=
 ⟨λb h=>heap_alloc_old w o b h,Do,rfl,rfl,rfl,aM _⟩
theorem hY.trans {w w' xP:World} (h:hY w w') (k:hY w' xP):hY w xP:=
 ⟨λb hb=>(k.fO b (mo hb h.size)).trans (h.fO b hb),hU h.size k.size,k.tape.trans h.tape,k.os.trans h.os,h.output.trans k.output⟩
theorem fC.more (h:fC C ψ Q w) (hb:sF ψ w) (hm:hY w w'):fC C ψ Q w':=
 ⟨λk cb ab e q=>(h.holds k cb ab e q).same (λ_ _ e=>e) (hm.fO _ (hb k cb e)),h.uA⟩
theorem Ext.more (hm:hY w w'):Ext ψ Q w ψ Q w':=
 ⟨λ_ _ h=>h,λ_ _ h=> .inl h,hm.size,λb hb _=>hm.fO b hb,λ_ h=> .inl h,λ_ _ x _ h=>⟨x,h⟩,hm.tape,hm.os,hm.output⟩
theorem fC.new (hs:fC C ψ Q w) (hb:sF ψ w) (hm:hY w w') (hf:ψ h=none)
  (h1:w.heap.size<=cb.b) (hh:Holds C (oT ψ h cb) w' cb ab):fC C (oT ψ h cb) (zN Q h ab) w':=by
 have mono:=wR (cb:=cb) hf;have fO: ∀k c x,oT ψ h cb k=some c->zN Q h ab k x->(k=h/\c=cb/\x=ab)\/(k≠h/\ψ k=some c/\Q k x):=by
  intro k c x e q;rcases q with⟨rfl,rfl⟩|⟨hk,q⟩
  .rw[ri]at e;grind
  .rw[pK _ _ hk]at e;grind
 constructor
 .intro k c x e q
  rcases fO k c x e q with⟨rfl,rfl,rfl⟩|⟨_,e,q⟩
  .exact hh
  .exact(hs.holds k c x e q).same (λi c e=>mono _ _ e) (hm.fO _ (hb k c e))
 .intro k c x k' c' x' e q qK e' q' hn
  rcases fO k c x e q with⟨rfl,rfl,rfl⟩|⟨hk,e,q⟩<;>rcases fO k' c' x' e' q' with⟨rfl,rfl,rfl⟩|⟨nM,e',q'⟩
  .exact absurd rfl hn
  .have:=hb k' c' (by assumption);omega
  .have:=hb k c (by assumption);omega
  .exact hs.uA k c x k' c' x' e q qK e' q' hn
theorem Ext.new (hm:hY w w') (hf:ψ h=none)
  (h1:w.heap.size<=cb.b) (h2:cb.b<w'.heap.size):Ext ψ Q w (oT ψ h cb) (zN Q h ab) w' where
 mono:=wR hf
 tN:=λk c e=>by
  by_cases ek:k=h
  .grind[ri]
  .rw[pK _ _ ek]at e;exact .inl e
 size:=hm.size
 kl:=λb hb _=>hm.fO b hb
 hJ:=λb ⟨k,c,x,e,q,hs,hb⟩=>by
  rcases q with⟨rfl,rfl⟩|⟨hk,q⟩
  .rw[ri]at e;grind
  .rw[pK _ _ hk]at e;exact .inl ⟨k,c,x,e,q,hs,hb⟩
 live:=λk c x e q=>by
  rcases q with⟨rfl,rfl⟩|⟨hk,q⟩
  .rw[hf]at e;cases e
  .exact⟨x,q⟩
 tape:=hm.tape
 os:=hm.os
 output:=hm.output
variable {df:AB}
theorem fC.set (hs:fC C ψ Q w) (he:ψ h=some cb) (hq:Q h ab) (qK:ab.hJ=true)
  (hk: ∀b,b≠cb.b->w'.heap[b]? =w.heap[b]?) (hh:Holds C ψ w' cb df):fC C ψ (zN Q h df) w':=by
 have fO: ∀k c x,ψ k=some c->zN Q h df k x->(k=h/\c=cb/\x=df)\/(k≠h/\ψ k=some c/\Q k x/\c.b≠cb.b):=by
  intro k c x e q;rcases q with⟨rfl,rfl⟩|⟨hk,q⟩
  .rw[he]at e;grind
  .exact .inr ⟨hk,e,q,hs.uA h cb ab k c x he hq qK e q (Ne.symm hk)⟩
 constructor
 .intro k c x e q
  rcases fO k c x e q with⟨rfl,rfl,rfl⟩|⟨_,e,q,hb⟩
  .exact hh
  .exact(hs.holds k c x e q).same (λ_ _ e=>e) (hk _ hb)
 .intro k c x k' c' x' e q qK e' q' hn
  rcases fO k c x e q with⟨rfl,rfl,rfl⟩|⟨hk,e,q,hb⟩<;>rcases fO k' c' x' e' q' with⟨rfl,rfl,rfl⟩|⟨nM,e',q',dV⟩
  .exact absurd rfl hn
  .exact dV
  .exact Ne.symm hb
  .exact hs.uA k c x k' c' x' e q qK e' q' hn
theorem Ext.set (he:ψ h=some cb) (hq:Q h ab) (qK:ab.hJ=true)
  (hk: ∀b,b≠cb.b->w'.heap[b]? =w.heap[b]?) (cL:w'.heap.size=w.heap.size) (ht:w'.tape=w.tape) (ho:w'.os=w.os) (hu:vj w w'):Ext ψ Q w ψ (zN Q h df) w' where
 mono:=λ_ _ e=>e
 tN:=λ_ _ e=> .inl e
 size:=AC
 kl:=λb _ hn=>hk b λe=>hn ⟨h,cb,ab,he,hq,qK,e.symm⟩
 hJ:=λb ⟨k,c,x,e,q,hs,hb⟩=>by
  rcases q with⟨rfl,rfl⟩|⟨_,q⟩
  .rw[he]at e;cases e;exact .inl ⟨_,_,ab,he,hq,qK,hb⟩
  .exact .inl ⟨k,c,x,e,q,hs,hb⟩
 live:=λk c x e q=>by
  rcases q with⟨rfl,rfl⟩|⟨_,q⟩
  .exact⟨ab,hq⟩
  .exact⟨x,q⟩
 tape:=ht
 os:=ho
 output:=hu
def Lv (Q:Kn) (h h':dN) (ab:AB):Kn:=λk x=>(k=h'/\x=ab)\/(k≠h'/\k≠h/\Q k x)
variable {gC:CB} {h':dN}
theorem fC.move (hs:fC C ψ Q w) (he:ψ h=some cb) (hq:Q h ab) (qK:ab.hJ=true)
  (hf:ψ h'=none) (hb:gC.b=cb.b) (hk: ∀b,b≠cb.b->w'.heap[b]? =w.heap[b]?) (hh:Holds C (oT ψ h' gC) w' gC df):fC C (oT ψ h' gC) (Lv Q h h' df) w':=by
 have fO: ∀k c x,oT ψ h' gC k=some c->Lv Q h h' df k x->(k=h'/\c=gC/\x=df)\/(k≠h'/\ψ k=some c/\Q k x/\c.b≠cb.b):=by
  intro k c x e q;rcases q with⟨rfl,rfl⟩|⟨hk,jy,q⟩
  .rw[ri]at e;grind
  .rw[pK _ _ hk]at e
   exact .inr ⟨hk,e,q,hs.uA h cb ab k c x he hq qK e q (Ne.symm jy)⟩
 constructor
 .intro k c x e q
  rcases fO k c x e q with⟨rfl,rfl,rfl⟩|⟨_,e,q,hb⟩
  .exact hh
  .exact(hs.holds k c x e q).same (λ_ _ e=>wR hf _ _ e) (hk _ hb)
 .intro k c x k' c' x' e q qK e' q' hn
  rcases fO k c x e q with⟨rfl,rfl,rfl⟩|⟨hk,e,q,kT⟩<;>rcases fO k' c' x' e' q' with⟨rfl,rfl,rfl⟩|⟨nM,e',q',dh⟩
  .exact absurd rfl hn
  .rw[hb];exact dh
  .rw[hb];exact Ne.symm kT
  .exact hs.uA k c x k' c' x' e q qK e' q' hn
theorem Ext.move (he:ψ h=some cb) (hq:Q h ab) (qK:ab.hJ=true) (hf:ψ h'=none)
  (hb:gC.b=cb.b) (aw:cb.b<w.heap.size) (hk: ∀b,b≠cb.b->w'.heap[b]? =w.heap[b]?) (cL:w'.heap.size=w.heap.size) (ht:w'.tape=w.tape) (ho:w'.os=w.os)
  (hu:vj w w'):Ext ψ Q w (oT ψ h' gC) (Lv Q h h' df) w' where
 mono:=wR hf
 tN:=λk c e=>by
  by_cases ek:k=h'
  .subst ek;rw[ri]at e;cases e;exact .inr ⟨.inr ⟨h,cb,ab,he,hq,qK,hb.symm⟩,AC⟩
  .rw[pK _ _ ek]at e;exact .inl e
 size:=AC
 kl:=λb _ hn=>hk b λe=>hn ⟨h,cb,ab,he,hq,qK,e.symm⟩
 hJ:=λb ⟨k,c,x,e,q,hs,dV⟩=>by
  rcases q with⟨rfl,rfl⟩|⟨hk,_,q⟩
  .rw[ri]at e;cases e;exact .inl ⟨h,cb,ab,he,hq,qK,AC⟩
  .rw[pK _ _ hk]at e;exact .inl ⟨k,c,x,e,q,hs,dV⟩
 live:=λk c x e q=>by
  rcases q with⟨rfl,rfl⟩|⟨_,_,q⟩
  .rw[hf]at e;cases e
  .exact⟨x,q⟩
 tape:=ht
 os:=ho
 output:=hu
def fV (C:bE) (ψ:Ps):eZ->Value->Prop
 | .u,_=>True
 | .un,x=>x=undef
 |eZ.v d,x=>VR C ψ d x
 | .qR ds,x=>∃vs,x= .tuple vs/\bH C ψ ds vs.toList
 | .loc dr _ _,x=>∃cb,ψ (.inr dr)=some cb/\cb.o=0/\x= .pointer (some ⟨cb.b,0,none⟩)
 | .pl _ dr o,x=>∃cb,ψ (.inr dr)=some cb/\cb.o=0/\x= .pointer (some ⟨cb.b,o,none⟩)
 | .it dr _ _,x=>∃cb,ψ (.inr dr)=some cb/\x= .pointer (some ⟨cb.b,0,none⟩)
theorem fV.mono {C:bE} {ψ ψ':Ps} (h: ∀k cb,ψ k=some cb->ψ' k=some cb) {e:eZ} {x:Value} (r:fV C ψ e x):fV C ψ' e x:=by
 cases e with
 |u=>exact trivial
 |un=>exact r
 |v d=>exact VR.mono (λi cb e=>h _ _ e) r
 |qR ds=>have⟨vs,e,r⟩:=r;exact⟨vs,e,r.mono λi cb e=>h _ _ e⟩
 |loc v n cs=>have⟨cb,e,r⟩:=r;exact⟨cb,h _ _ e,r⟩
 |pl a v n=>have⟨cb,e,r⟩:=r;exact⟨cb,h _ _ e,r⟩
 |it v n cs=>have⟨cb,e,r⟩:=r;exact⟨cb,h _ _ e,r⟩
def eZ.dr:eZ->Option Nat
 | .loc k _ _=>some k
 | .it k _ _=>some k
 |_=>none
structure jJ (E:Env):Prop where
 lt: ∀t v,(E.get t).dr=some v->v<E.bW
 pl: ∀t r v o,E.get t= .pl r v o->v<E.bW
 len: ∀t v n cs,E.get t= .loc v n cs->cs.length=n
 uniq: ∀t t' v,(E.get t).dr=some v->(E.get t').dr=some v->t=t'
end Go.Gv
