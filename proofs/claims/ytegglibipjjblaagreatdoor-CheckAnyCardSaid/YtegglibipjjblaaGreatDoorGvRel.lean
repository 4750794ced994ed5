/- How the machine's values, heap and registers stand for the model's. -/
import Derived.Test.YtegglibipjjblaaGreatDoorGvDef
import Derived.Laws.Sem
import Derived.Laws.World
import Derived.Laws.Cells
import Derived.Laws.Rows
import Derived.Deep.LoopGhost
set_option linter.all false
namespace Go.Gv
theorem BG (b o j:Nat):(⟨b,o,none⟩:Addr).add j=⟨b,o+j,none⟩:=by
 simp[Addr.add]
def lU (w:World) (b:Nat) (o:Obj):World:= { w with heap:=w.heap.setIfInBounds b o }
@[simp] theorem PF (w : World) (b : Nat) (o : Obj) : (lU w b o).heap.size = w.heap.size := by simp [lU]
variable {d:DV} {je vs:List Value} {i k o:Nat} {v:Value} {w w':World} {ds mg:ah} {C:bC}
theorem MM {b:Nat} (h:b<w.heap.size) (o:Obj):(lU w b o).heap[b]? =some o:=by simp[lU,h]
theorem ZvH {b:Nat} (h:k≠b) (o:Obj):(lU w b o).heap[k]? =w.heap[k]? :=by
 grind[lU]
theorem Zwz (w:World) (b:Nat) (o o':Obj):lU (lU w b o) b o'=lU w b o':=by simp[lU]
theorem Iv {α:Type} {a:Array α} {x:α} (h:a[i]? =some x):i<a.size:=by
 grind
theorem Zvj {b:Nat} {c:Array Value} {ty:TypeId} {fr:Nat×Nat} (h:w.heap[b]? =some (.cells c ty fr)) (v:Value):
  w.setCell ⟨b,o,none⟩ v=lU w b (.cells (c.setIfInBounds o v) ty fr):=by
 unfold World.setCell lU;congr 1;grind
def qh:Array Value->Nat->List Value->Array Value
 |c,_,[]=>c
 |c,k,v::r=>qh (c.setIfInBounds k v) (k+1) r
@[simp] theorem ajt : ∀ (vs : List Value) (c : Array Value) (k : Nat), (qh c k vs).size = c.size
 |[],_,_=>rfl
 |v::r,c,k=>by rw[qh,ajt r];simp
theorem Nc: ∀(vs:List Value) (c:Array Value) (k j:Nat),k+vs.length<=c.size->
  (qh c k vs)[j]? =if k<=j/\j<k+vs.length then vs[j-k]? else c[j]?
 |[],c,k,j,_=>by grind[qh,Bh]
 |v::r,c,k,j,h=>by
  simp only[cO]at h⊢;rw[qh,Nc r _ _ _ (by simp;omega)];by_cases h1:k+1<=j/\j<k+1+r.length
  .rw[bE h1,bE (by omega)]
   grind
  grind
theorem Ru (P:Program) (b o:Nat) (ty:TypeId) (fr:Nat×Nat): ∀(vs:List Value) (i:Nat) (w:World) (c:Array Value),
  w.heap[b]? =some (.cells c ty fr)->(∀v∈vs,v.oneCell'=true)->o+i+vs.length<=c.size->
  (∀j,i<=j->j<i+vs.length->(decide (fr.1<=o+j)&&decide (o+j<fr.2))=false)->
  (storeCells ⟨b,o,none⟩ vs i).run P w= .ok () (lU w b (.cells (qh c (o+i) vs) ty fr))
 |[],i,w,c,hb,_,_,_=>by
  have:lU w b (.cells c ty fr)=w:=by
   unfold lU;cases w with
   |mk heap tape drawn os output=>
    congr 1;grind
  simp[qh,storeCells,this]
 |v::r,i,w,c,hb,h1,hs,hf=>by
  simp only[cO]at hs hf;have ny:w.cell? ⟨b,o+i,none⟩=some c[o+i]:=by rw[cell_of_row w b (o+i) c ty fr hb];simp
  have dS:w.frozen? ⟨b,o+i,none⟩=false:=by
   have:=hf i (aO _) (by omega);rw[World.frozen?,hb];exact this
  have cg:(store ((⟨b,o,none⟩:Addr).add i) v).run P w= .ok () (w.setCell ⟨b,o+i,none⟩ v):=by
   rw[BG,run_store P w _ v _ (h1 v (by simp)),ny];rw[dS];rfl
  have aw:=Iv hb;rw[storeCells,Sem.run_bind,cg,Result.andThen_ok];rw[Zvj hb,Ru P b o ty fr r (i+1) _ (c.setIfInBounds (o+i) v) (MM aw _) (by grind) (by simp;omega)
   (by grind),Zwz]
  rw[qh];rfl
theorem Zrq: ∀(cs ds:ah),(ov cs ds).length=cs.length
 |[],ds=>by cases ds<;>rfl
 |_::cs,[]=>rfl
 |_::cs,_::ds=>by simp[ov,Zrq cs ds]
theorem Zxb: ∀(cs ds:ah) (j:Nat),ds.length<=cs.length->(ov cs ds)[j]? =if j<ds.length then ds[j]? else cs[j]?
 |[],[],j,_=>by simp[ov]
 |[],_::_,j,h=>by simp at h
 |c::cs,[],j,_=>by simp[ov]
 |c::cs,d::ds,0,_=>by simp[ov]
 |c::cs,d::ds,j+1,h=>by
  simp only[cO]at h;simp only[ov,qw,cO];rw[Zxb cs ds j (by omega)];by_cases e:j<ds.length
  .rw[bE e,bE (by omega)]
  simp
theorem H8: ∀(cs:ah) (k:Nat) (ds:ah),(cE cs k ds).length=cs.length
 |cs,0,ds=>by cases cs<;>simp[cE,Zrq]
 |[],k+1,ds=>rfl
 |c::cs,k+1,ds=>by simp[cE,H8 cs k ds]
theorem IP: ∀(cs:ah) (k:Nat) (ds:ah) (j:Nat),k+ds.length<=cs.length->
  (cE cs k ds)[j]? =if k<=j/\j<k+ds.length then ds[j-k]? else cs[j]?
 |cs,0,ds,j,h=>by
  have:cE cs 0 ds=ov cs ds:=by cases cs<;>rfl
  rw[this,Zxb cs ds j (by omega)];by_cases e:j<ds.length
  .rw[bE e,bE (by omega),Fi]
  simp
 |[],k+1,ds,j,h=>by simp at h
 |c::cs,k+1,ds,0,h=>by simp[cE]
 |c::cs,k+1,ds,j+1,h=>by
  simp only[cO]at h;rw[cE,qw];rw[IP cs k ds j (by omega)];by_cases e:k<=j/\j<k+ds.length
  .rw[bE e,bE (by omega)];congr 1;omega
  grind
structure CB where
 b:Nat
 o:Nat
 m:Nat
abbrev dH:=Nat ⊕ Nat
abbrev Ps:=dH->Option CB
mutual
inductive VR (C:bC) (ψ:Ps):DV->Value->Prop
 |bool (b:Bool):VR C ψ (.bool b) (.bool b)
 |int (k:IntKind) (n:Int):VR C ψ (.int k n) (.int k n)
 |str (s:ByteArray):VR C ψ (.str s.data.toList) (.string s)
 |K2:VR C ψ (.ptr none) (.pointer none)
 |ptr (i o:Nat) (cb:CB):ψ (.inl i)=some cb->VR C ψ (.ptr (some (i,o))) (.pointer (some ⟨cb.b,cb.o+o,none⟩))
 |tc (sz:Nat):VR C ψ (.slice sz none 0) (.slice none 0 0)
 |slice (sz i o n:Nat) (cb:CB) (a:Addr) (cap:Nat):ψ (.inl i)=some cb->n<=cap->(0<cap->a=⟨cb.b,cb.o+o,none⟩/\o+cap*sz<=cb.m)->
   VR C ψ (.slice sz (some (i,o)) n) (.slice (some a) n cap)
 |agg (ds:ah) (vs:Array Value):bG C ψ ds vs.toList->ds.all one=true->VR C ψ (.agg ds) (.agg vs)
 |func (k:Nat) (fs cs:ah) (vf vc:Array Value):C.cov k=true->bG C ψ fs vf.toList->bG C ψ cs vc.toList->
   VR C ψ (.func (C.fn k) fs cs) (.func (.func k) vf vc)
 |nilFunc:VR C ψ .nilFunc .nilFunc
 |iface (t:Nat) (d:DV) (v:Value):VR C ψ d v->VR C ψ (.iface (C.ty t) d) (.iface t v)
 |nilIface:VR C ψ .nilIface .nilIface
inductive bG (C:bC) (ψ:Ps):List DV->List Value->Prop
 |nil:bG C ψ [] []
 |cons (d:DV) (v:Value) (ds:ah) (vs:List Value):VR C ψ d v->bG C ψ ds vs->bG C ψ (d::ds) (v::vs)
end
section
variable {C:bC} {ψ ψ':Ps}
mutual
theorem VR.mono (h: ∀i cb,ψ (.inl i)=some cb->ψ' (.inl i)=some cb): ∀ {d:DV} {v:Value},VR C ψ d v->VR C ψ' d v
 |_,_,.bool b=> .bool b
 |_,_,.int k n=> .int k n
 |_,_,.str s=> .str s
 |_,_,.K2=> .K2
 |_,_,.ptr i o cb e=> .ptr i o cb (h _ _ e)
 |_,_,.tc sz=> .tc sz
 |_,_,.slice sz i o n cb a cap e h1 h2=> .slice sz i o n cb a cap (h _ _ e) h1 h2
 |_,_,.agg ds vs r h1=> .agg ds vs (bG.mono h r) h1
 |_,_,.func k fs cs vf vc e r1 r2=> .func k fs cs vf vc e (bG.mono h r1) (bG.mono h r2)
 |_,_,.nilFunc=> .nilFunc
 |_,_,.iface t d v r=> .iface t d v (VR.mono h r)
 |_,_,.nilIface=> .nilIface
theorem bG.mono (h: ∀i cb,ψ (.inl i)=some cb->ψ' (.inl i)=some cb): ∀ {ds:ah} {vs:List Value},bG C ψ ds vs->bG C ψ' ds vs
 |_,_,.nil=> .nil
 |_,_,.cons d v ds vs r rs=> .cons d v ds vs (VR.mono h r) (bG.mono h rs)
end
theorem bG.len: ∀ {ds:ah} {vs:List Value},bG C ψ ds vs->ds.length=vs.length
 |_,_,.nil=>rfl
 |_,_,.cons _ _ _ _ _ rs=>by simp[bG.len rs]
theorem bG.get: ∀ {ds:ah} {vs:List Value},bG C ψ ds vs->∀ {j:Nat} {d:DV},ds[j]? =some d->∃v,vs[j]? =some v/\VR C ψ d v
 |_,_,.nil,j,d,h=>by simp at h
 |_,_,.cons d0 v0 ds vs r rs,0,d,h=>by
  grind
 |_,_,.cons d0 v0 ds vs r rs,j+1,d,h=>by
  simp only[qw]at h⊢;exact bG.get rs h
theorem bG.of: ∀(ds:ah) (vs:List Value),ds.length=vs.length->(∀(j:Nat) (d:DV) (v:Value),ds[j]? =some d->vs[j]? =some v->VR C ψ d v)->bG C ψ ds vs
 |[],[],_,_=> .nil
 |[],_::_,h,_=>by simp at h
 |_::_,[],h,_=>by simp at h
 |d::ds,v::vs,h,hp=> .cons d v ds vs (hp 0 d v rfl rfl) (bG.of ds vs (by simpa using h) λj d v h1 h2=>hp (j+1) d v (by simpa using h1) (by simpa using h2))
theorem bG.append (h:bG C ψ ds vs) (h':bG C ψ mg je):bG C ψ (ds++mg) (vs++je):=by
 have e:=h.len;have e':=h'.len;refine bG.of _ _ (by simp[e,e']) λj d v h1 h2=>?_
 by_cases hj:j<ds.length
 .rw[mH hj]at h1
  rw[mH (by omega)]at h2;have⟨v',eU,hr⟩:=h.get h1;rw[h2]at eU;cases eU;exact hr
 .rw[kX (by omega)]at h1
  rw[kX (by omega)]at h2;rw[<-e]at h2;have⟨v',eU,hr⟩:=h'.get h1;rw[h2]at eU;cases eU;exact hr
theorem bG.take {ds:ah} {vs:List Value} (h:bG C ψ ds vs) (n:Nat):bG C ψ (ds.take n) (vs.take n):=by
 refine bG.of _ _ (by simp[h.len]) λj d v h1 h2=>?_
 rw[xo]at h1 h2;split at h1
 .rw[bE ‹_›]at h2
  have⟨v',eU,hr⟩:=h.get h1;rw[h2]at eU;cases eU;exact hr
 .cases h1
theorem bG.drop {ds:ah} {vs:List Value} (h:bG C ψ ds vs) (n:Nat):bG C ψ (ds.drop n) (vs.drop n):=by
 refine bG.of _ _ (by simp[h.len]) λj d v h1 h2=>?_
 rw[Bg]at h1 h2;have⟨v',eU,hr⟩:=h.get h1;rw[h2]at eU;cases eU;exact hr
theorem VR.ajo (h:VR C ψ d v) (h1:one d=true):v.oneCell'=true:=by
 cases h<;>first|rfl|simp[one]at h1
theorem VR.aa5 (h:VR C ψ d v) (h1:one d=true):v.cells= #[v]:=by
 cases h<;>first|rfl|simp[one]at h1
theorem bG.acG (h:bG C ψ ds vs) (h1:ds.all one=true): ∀v∈vs,v.oneCell'=true:=by
 intro v hv;have⟨j,hj⟩:=Fa hv;have hl:=h.len;have aw:j<vs.length:=by
  grind
 have hd:ds[j]? =some ds[j]:=by simp
 have⟨v',eU,hr⟩:=h.get hd;rw[hj]at eU;cases eU;exact hr.ajo (by grind)
end
inductive AB where
 |cells (dQ:Bool) (cs:ah)
 |iter (s:aj) (pos:Nat)
def AB.gU:AB->Bool
 | .cells f _=> !f
 | .iter _ _=>true
def dx (s:St) (i:Nat):Option AB:=
 match s[i]? with
 |some (some b)=>some (.cells b.dQ b.cells)
 |_=>none
abbrev Kn:=dH->AB->Prop
def CR (E:Env) (s:St):Kn
 | .inl i,ab=>dx s i=some ab
 | .inr v,ab=>(∃t n cs,E.get t= .loc v n cs/\ab= .cells false cs)\/(∃t l p,E.get t= .it v l p/\ab= .iter l p)
def Holds (C:bC) (ψ:Ps) (w:World) (cb:CB):AB->Prop
 | .cells f cs=>cs.length<=cb.m/\cs.all one=true/\(∀j d,cs[j]? =some d->∃v,w.cell? ⟨cb.b,cb.o+j,none⟩=some v/\VR C ψ d v)/\
   (f=false->∃c ty fr,w.heap[cb.b]? =some (.cells c ty fr)/\cb.o+cb.m<=c.size/\
    ∀j,j<cb.m->(decide (fr.1<=cb.o+j)&&decide (cb.o+j<fr.2))=false)
 | .iter s p=>∃s',w.heap[cb.b]? =some (.stringIter s' p)/\s'.data.toList=s
structure ft (C:bC) (ψ:Ps) (Q:Kn) (w:World):Prop where
 holds: ∀h cb ab,ψ h=some cb->Q h ab->Holds C ψ w cb ab
 tR: ∀h cb ab h' gm cZ,ψ h=some cb->Q h ab->ab.gU=true->ψ h'=some gm->Q h' cZ->h≠h'->gm.b≠cb.b
def uI (ψ:Ps) (Q:Kn) (b:Nat):Prop:=∃h cb ab,ψ h=some cb/\Q h ab/\ab.gU=true/\cb.b=b
def rV (ψ:Ps) (w:World):Prop:=∀h cb,ψ h=some cb->cb.b<w.heap.size
def Glob (C:bC) (ψ:Ps):Prop:=∀g,C.Cd g=true->∃cb,ψ (.inl (C.gl g))=some cb/\cb.b=g/\cb.o=0
variable {ab:AB} {cb:CB} {ψ ψ':Ps}
theorem Holds.same (hm: ∀i cb,ψ (.inl i)=some cb->ψ' (.inl i)=some cb) (e:w'.heap[cb.b]? =w.heap[cb.b]?)
  (h:Holds C ψ w cb ab):Holds C ψ' w' cb ab:=by
 have hc: ∀j,w'.cell? ⟨cb.b,j,none⟩=w.cell? ⟨cb.b,j,none⟩:=λj=>by simp only[World.cell?,e]
 cases ab with
 |cells f cs=>
  refine⟨h.1,h.2.1,λj d hd=>?_,λhf=>?_⟩
  .have⟨v,hv,hr⟩:=h.2.2.1 j d hd
   exact⟨v,by rw[hc];exact hv,hr.mono hm⟩
  .have⟨c,ty,fr,hb,h2,h3⟩:=h.2.2.2 hf
   grind
 |iter s p=>
  have⟨s',hb,hs⟩:=h;exact⟨s',by rw[e];exact hb,hs⟩
def uH (w w':World):Prop:=w'.output=w.output/\w.drawn<=w'.drawn
theorem uH.refl (w:World):uH w w:=⟨rfl,aO _⟩
theorem uH.trans {a b c:World} (h:uH a b) (k:uH b c):uH a c:=⟨k.1.trans h.1,gY h.2 k.2⟩
structure Ext (ψ:Ps) (Q:Kn) (w:World) (ψ':Ps) (Q':Kn) (w':World):Prop where
 mono: ∀h cb,ψ h=some cb->ψ' h=some cb
 sZ: ∀h cb,ψ' h=some cb->ψ h=some cb\/(w.heap.size<=cb.b\/uI ψ Q cb.b)/\cb.b<w'.heap.size
 size:w.heap.size<=w'.heap.size
 j6: ∀b,b<w.heap.size->¬uI ψ Q b->w'.heap[b]? =w.heap[b]?
 gU: ∀b,uI ψ' Q' b->uI ψ Q b\/w.heap.size<=b
 live: ∀h cb x,ψ h=some cb->Q' h x->∃y,Q h y
 tape:w'.tape=w.tape
 os:w'.os=w.os
 output:uH w w'
theorem Ext.refl (ψ:Ps) (Q:Kn) (w:World):Ext ψ Q w ψ Q w:=
 ⟨λ_ _ h=>h,λ_ _ h=> .inl h,aO _,λ_ _ _=>rfl,λ_ h=> .inl h,λ_ _ x _ h=>⟨x,h⟩,rfl,rfl,.refl _⟩
theorem Ext.trans {ψ ψ' Hz:Ps} {Q Q' Fp:Kn} {w w' xm:World} (h:Ext ψ Q w ψ' Q' w') (k:Ext ψ' Q' w' Hz Fp xm):Ext ψ Q w Hz Fp xm where
 mono:=λi cb e=>k.mono i cb (h.mono i cb e)
 sZ:=λi cb e=>by
  rcases k.sZ i cb e with e|⟨e,e2⟩
  .rcases h.sZ i cb e with e|⟨e,e2⟩
   .exact .inl e
   .exact .inr ⟨e,mI e2 k.size⟩
  .refine .inr ⟨?_,e2⟩
   rcases e with e|e
   .exact .inl (gY h.size e)
   .rcases h.gU _ e with e|e
    .exact .inr e
    .exact .inl e
 size:=gY h.size k.size
 j6:=λb hb hn=>by
  rw[k.j6 b (mI hb h.size) (λe=>by rcases h.gU b e with e|e;exact hn e;omega),h.j6 b hb hn]
 gU:=λb e=>by
  rcases k.gU b e with e|e
  .exact h.gU b e
  .exact .inr (gY h.size e)
 live:=λi cb x e hx=>by
  have⟨y,hy⟩:=k.live i cb x (h.mono i cb e) hx;exact h.live i cb y e hy
 tape:=k.tape.trans h.tape
 os:=k.os.trans h.os
 output:=h.output.trans k.output
variable {Q Q':Kn}
theorem ft.weaken (h:ft C ψ Q w) (hq: ∀h ab cb,ψ h=some cb->Q' h ab->Q h ab):ft C ψ Q' w:=
 ⟨λk cb ab e q=>h.holds k cb ab e (hq k ab cb e q),λk cb ab k' gm cZ e q hs e' q' hn=>h.tR k cb ab k' gm cZ e (hq _ _ _ e q) hs e' (hq _ _ _ e' q') hn⟩
variable {Fp:Kn}
theorem Ext.weaken (h:Ext ψ Q w ψ' Q' w') (hq: ∀k ab cb,ψ' k=some cb->Fp k ab->Q' k ab):Ext ψ Q w ψ' Fp w':=
 { h with
  gU:=λb ⟨k,cb,ab,e,q,hs,hb⟩=>h.gU b ⟨k,cb,ab,e,hq _ _ _ e q,hs,hb⟩
  live:=λk cb x e q=>h.live k cb x e (hq _ _ _ (h.mono _ _ e) q) }
theorem Ext.gE (h:Ext ψ Q w ψ' Q' w') (hb:rV ψ w):rV ψ' w':=λk cb e=>by
 rcases h.sZ k cb e with e|⟨_,e⟩
 .exact mI (hb k cb e) h.size
 .exact e
theorem Ext.lx (h:Ext ψ Q w ψ' Q' w') (hg:Glob C ψ):Glob C ψ':=λg e=>
 let ⟨cb,e1,e2⟩:=hg g e
 ⟨cb,h.mono _ _ e1,e2⟩
def oD (ψ:Ps) (h:dH) (cb:CB):Ps:=λk=>if k=h then some cb else ψ k
def y8 (Q:Kn) (h:dH) (ab:AB):Kn:=λk x=>(k=h/\x=ab)\/(k≠h/\Q k x)
theorem qF (ψ:Ps) (h:dH) (cb:CB):oD ψ h cb h=some cb:=by simp[oD]
variable {h:dH}
theorem oT (ψ:Ps) {k:dH} (cb:CB) (e:k≠h):oD ψ h cb k=ψ k:=by simp[oD,e]
theorem wg (hf:ψ h=none): ∀k c,ψ k=some c->oD ψ h cb k=some c:=by
 intro k c e;by_cases ek:k=h
 .grind
 .rw[oT _ _ ek];exact e
structure gW (w w':World):Prop where
 fF: ∀b,b<w.heap.size->w'.heap[b]? =w.heap[b]?
 size:w.heap.size<=w'.heap.size
 tape:w'.tape=w.tape
 os:w'.os=w.os
 output:uH w w'
theorem gW.refl (w:World):gW w w:=⟨λ_ _=>rfl,aO _,rfl,rfl,.refl w⟩
theorem gW.drew (w:World):gW w w.drew:=⟨λ_ _=>rfl,aO _,rfl,rfl,rfl,Nat.le_succ _⟩
theorem gW.alloc (w:World) (o:Obj):gW w (w.alloc o):=
 ⟨λb h=>heap_alloc_old w o b h,by simp,rfl,rfl,rfl,aO _⟩
theorem gW.trans {w w' xm:World} (h:gW w w') (k:gW w' xm):gW w xm:=
 ⟨λb hb=>(k.fF b (mI hb h.size)).trans (h.fF b hb),gY h.size k.size,k.tape.trans h.tape,k.os.trans h.os,h.output.trans k.output⟩
theorem ft.more (h:ft C ψ Q w) (hb:rV ψ w) (hm:gW w w'):ft C ψ Q w':=
 ⟨λk cb ab e q=>(h.holds k cb ab e q).same (λ_ _ e=>e) (hm.fF _ (hb k cb e)),h.tR⟩
theorem Ext.more (hm:gW w w'):Ext ψ Q w ψ Q w':=
 ⟨λ_ _ h=>h,λ_ _ h=> .inl h,hm.size,λb hb _=>hm.fF b hb,λ_ h=> .inl h,λ_ _ x _ h=>⟨x,h⟩,hm.tape,hm.os,hm.output⟩
theorem ft.new (hs:ft C ψ Q w) (hb:rV ψ w) (hm:gW w w') (hf:ψ h=none)
  (h1:w.heap.size<=cb.b) (hh:Holds C (oD ψ h cb) w' cb ab):ft C (oD ψ h cb) (y8 Q h ab) w':=by
 have mono:=wg (cb:=cb) hf;have fF: ∀k c x,oD ψ h cb k=some c->y8 Q h ab k x->(k=h/\c=cb/\x=ab)\/(k≠h/\ψ k=some c/\Q k x):=by
  intro k c x e q;rcases q with⟨rfl,rfl⟩|⟨hk,q⟩
  .rw[qF]at e;grind
  .rw[oT _ _ hk]at e;grind
 constructor
 .intro k c x e q
  rcases fF k c x e q with⟨rfl,rfl,rfl⟩|⟨_,e,q⟩
  .exact hh
  .exact(hs.holds k c x e q).same (λi c e=>mono _ _ e) (hm.fF _ (hb k c e))
 .intro k c x k' c' x' e q qd e' q' hn
  rcases fF k c x e q with⟨rfl,rfl,rfl⟩|⟨hk,e,q⟩<;>rcases fF k' c' x' e' q' with⟨rfl,rfl,rfl⟩|⟨nC,e',q'⟩
  .exact absurd rfl hn
  .have:=hb k' c' (by assumption);omega
  .have:=hb k c (by assumption);omega
  .exact hs.tR k c x k' c' x' e q qd e' q' hn
theorem Ext.new (hm:gW w w') (hf:ψ h=none)
  (h1:w.heap.size<=cb.b) (h2:cb.b<w'.heap.size):Ext ψ Q w (oD ψ h cb) (y8 Q h ab) w' where
 mono:=wg hf
 sZ:=λk c e=>by
  by_cases ek:k=h
  .grind[qF]
  .rw[oT _ _ ek]at e;exact .inl e
 size:=hm.size
 j6:=λb hb _=>hm.fF b hb
 gU:=λb ⟨k,c,x,e,q,hs,hb⟩=>by
  rcases q with⟨rfl,rfl⟩|⟨hk,q⟩
  .rw[qF]at e;grind
  .rw[oT _ _ hk]at e;exact .inl ⟨k,c,x,e,q,hs,hb⟩
 live:=λk c x e q=>by
  rcases q with⟨rfl,rfl⟩|⟨hk,q⟩
  .rw[hf]at e;cases e
  .exact⟨x,q⟩
 tape:=hm.tape
 os:=hm.os
 output:=hm.output
variable {cZ:AB}
theorem ft.set (hs:ft C ψ Q w) (he:ψ h=some cb) (hq:Q h ab) (qd:ab.gU=true)
  (hk: ∀b,b≠cb.b->w'.heap[b]? =w.heap[b]?) (hh:Holds C ψ w' cb cZ):ft C ψ (y8 Q h cZ) w':=by
 have fF: ∀k c x,ψ k=some c->y8 Q h cZ k x->(k=h/\c=cb/\x=cZ)\/(k≠h/\ψ k=some c/\Q k x/\c.b≠cb.b):=by
  intro k c x e q;rcases q with⟨rfl,rfl⟩|⟨hk,q⟩
  .rw[he]at e;grind
  .exact .inr ⟨hk,e,q,hs.tR h cb ab k c x he hq qd e q (Ne.symm hk)⟩
 constructor
 .intro k c x e q
  rcases fF k c x e q with⟨rfl,rfl,rfl⟩|⟨_,e,q,hb⟩
  .exact hh
  .exact(hs.holds k c x e q).same (λ_ _ e=>e) (hk _ hb)
 .intro k c x k' c' x' e q qd e' q' hn
  rcases fF k c x e q with⟨rfl,rfl,rfl⟩|⟨hk,e,q,hb⟩<;>rcases fF k' c' x' e' q' with⟨rfl,rfl,rfl⟩|⟨nC,e',q',dR⟩
  .exact absurd rfl hn
  .exact dR
  .exact Ne.symm hb
  .exact hs.tR k c x k' c' x' e q qd e' q' hn
theorem Ext.set (he:ψ h=some cb) (hq:Q h ab) (qd:ab.gU=true)
  (hk: ∀b,b≠cb.b->w'.heap[b]? =w.heap[b]?) (cF:w'.heap.size=w.heap.size) (ht:w'.tape=w.tape) (ho:w'.os=w.os) (hu:uH w w'):Ext ψ Q w ψ (y8 Q h cZ) w' where
 mono:=λ_ _ e=>e
 sZ:=λ_ _ e=> .inl e
 size:=by omega
 j6:=λb _ hn=>hk b λe=>hn ⟨h,cb,ab,he,hq,qd,e.symm⟩
 gU:=λb ⟨k,c,x,e,q,hs,hb⟩=>by
  rcases q with⟨rfl,rfl⟩|⟨_,q⟩
  .rw[he]at e;cases e;exact .inl ⟨_,_,ab,he,hq,qd,hb⟩
  .exact .inl ⟨k,c,x,e,q,hs,hb⟩
 live:=λk c x e q=>by
  rcases q with⟨rfl,rfl⟩|⟨_,q⟩
  .exact⟨ab,hq⟩
  .exact⟨x,q⟩
 tape:=ht
 os:=ho
 output:=hu
def KQ (Q:Kn) (h h':dH) (ab:AB):Kn:=λk x=>(k=h'/\x=ab)\/(k≠h'/\k≠h/\Q k x)
variable {gm:CB} {h':dH}
theorem ft.move (hs:ft C ψ Q w) (he:ψ h=some cb) (hq:Q h ab) (qd:ab.gU=true)
  (hf:ψ h'=none) (hb:gm.b=cb.b) (hk: ∀b,b≠cb.b->w'.heap[b]? =w.heap[b]?) (hh:Holds C (oD ψ h' gm) w' gm cZ):ft C (oD ψ h' gm) (KQ Q h h' cZ) w':=by
 have fF: ∀k c x,oD ψ h' gm k=some c->KQ Q h h' cZ k x->(k=h'/\c=gm/\x=cZ)\/(k≠h'/\ψ k=some c/\Q k x/\c.b≠cb.b):=by
  intro k c x e q;rcases q with⟨rfl,rfl⟩|⟨hk,jn,q⟩
  .rw[qF]at e;grind
  .rw[oT _ _ hk]at e
   exact .inr ⟨hk,e,q,hs.tR h cb ab k c x he hq qd e q (Ne.symm jn)⟩
 constructor
 .intro k c x e q
  rcases fF k c x e q with⟨rfl,rfl,rfl⟩|⟨_,e,q,hb⟩
  .exact hh
  .exact(hs.holds k c x e q).same (λ_ _ e=>wg hf _ _ e) (hk _ hb)
 .intro k c x k' c' x' e q qd e' q' hn
  rcases fF k c x e q with⟨rfl,rfl,rfl⟩|⟨hk,e,q,kI⟩<;>rcases fF k' c' x' e' q' with⟨rfl,rfl,rfl⟩|⟨nC,e',q',c9⟩
  .exact absurd rfl hn
  .rw[hb];exact c9
  .rw[hb];exact Ne.symm kI
  .exact hs.tR k c x k' c' x' e q qd e' q' hn
theorem Ext.move (he:ψ h=some cb) (hq:Q h ab) (qd:ab.gU=true) (hf:ψ h'=none)
  (hb:gm.b=cb.b) (aw:cb.b<w.heap.size) (hk: ∀b,b≠cb.b->w'.heap[b]? =w.heap[b]?) (cF:w'.heap.size=w.heap.size) (ht:w'.tape=w.tape) (ho:w'.os=w.os)
  (hu:uH w w'):Ext ψ Q w (oD ψ h' gm) (KQ Q h h' cZ) w' where
 mono:=wg hf
 sZ:=λk c e=>by
  by_cases ek:k=h'
  .subst ek;rw[qF]at e;cases e;exact .inr ⟨.inr ⟨h,cb,ab,he,hq,qd,hb.symm⟩,by omega⟩
  .rw[oT _ _ ek]at e;exact .inl e
 size:=by omega
 j6:=λb _ hn=>hk b λe=>hn ⟨h,cb,ab,he,hq,qd,e.symm⟩
 gU:=λb ⟨k,c,x,e,q,hs,dR⟩=>by
  rcases q with⟨rfl,rfl⟩|⟨hk,_,q⟩
  .rw[qF]at e;cases e;exact .inl ⟨h,cb,ab,he,hq,qd,by omega⟩
  .rw[oT _ _ hk]at e;exact .inl ⟨k,c,x,e,q,hs,dR⟩
 live:=λk c x e q=>by
  rcases q with⟨rfl,rfl⟩|⟨_,_,q⟩
  .rw[hf]at e;cases e
  .exact⟨x,q⟩
 tape:=ht
 os:=ho
 output:=hu
def gI (C:bC) (ψ:Ps):eQ->Value->Prop
 | .u,_=>True
 | .un,x=>x=undef
 |eQ.v d,x=>VR C ψ d x
 | .qm ds,x=>∃vs,x= .tuple vs/\bG C ψ ds vs.toList
 | .loc df _ _,x=>∃cb,ψ (.inr df)=some cb/\cb.o=0/\x= .pointer (some ⟨cb.b,0,none⟩)
 | .pl _ df o,x=>∃cb,ψ (.inr df)=some cb/\cb.o=0/\x= .pointer (some ⟨cb.b,o,none⟩)
 | .it df _ _,x=>∃cb,ψ (.inr df)=some cb/\x= .pointer (some ⟨cb.b,0,none⟩)
theorem gI.mono {C:bC} {ψ ψ':Ps} (h: ∀k cb,ψ k=some cb->ψ' k=some cb) {e:eQ} {x:Value} (r:gI C ψ e x):gI C ψ' e x:=by
 cases e with
 |u=>exact trivial
 |un=>exact r
 |v d=>exact VR.mono (λi cb e=>h _ _ e) r
 |qm ds=>have⟨vs,e,r⟩:=r;exact⟨vs,e,r.mono λi cb e=>h _ _ e⟩
 |loc v n cs=>have⟨cb,e,r⟩:=r;exact⟨cb,h _ _ e,r⟩
 |pl a v n=>have⟨cb,e,r⟩:=r;exact⟨cb,h _ _ e,r⟩
 |it v n cs=>have⟨cb,e,r⟩:=r;exact⟨cb,h _ _ e,r⟩
def eQ.df:eQ->Option Nat
 | .loc k _ _=>some k
 | .it k _ _=>some k
 |_=>none
structure jx (E:Env):Prop where
 lt: ∀t v,(E.get t).df=some v->v<E.bQ
 pl: ∀t r v o,E.get t= .pl r v o->v<E.bQ
 len: ∀t v n cs,E.get t= .loc v n cs->cs.length=n
 uniq: ∀t t' v,(E.get t).df=some v->(E.get t').df=some v->t=t'
end Go.Gv
