/- How the machine's values, heap and registers stand for the model's. -/
import Derived.Test.YtegglibipjjblaaGreatDoorGvDef
import Derived.Laws.Sem
import Derived.Laws.World
import Derived.Laws.Cells
import Derived.Laws.Rows
import Derived.Deep.LoopGhost
set_option linter.all false
namespace Go.Gv
theorem zK (b o j:Nat):(⟨b,o,none⟩:Addr).add j=⟨b,o+j,none⟩:=by
 simp[Addr.add]
def lf (w:World) (b:Nat) (o:Obj):World:= { w with heap:=w.heap.setIfInBounds b o }
@[simp] theorem Na (w : World) (b : Nat) (o : Obj) : (lf w b o).heap.size = w.heap.size := by simp [lf]
variable {d:DV} {iI vs:List Value} {i k o:Nat} {v:Value} {w w':World} {ds lz:ah} {C:bx}
theorem Kb {b:Nat} (h:b<w.heap.size) (o:Obj):(lf w b o).heap[b]? =some o:=by simp[lf,h]
theorem ZtQ {b:Nat} (h:k≠b) (o:Obj):(lf w b o).heap[k]? =w.heap[k]? :=by
 grind[lf]
theorem ZuI (w:World) (b:Nat) (o o':Obj):lf (lf w b o) b o'=lf w b o':=by simp[lf]
theorem GC {α:Type} {a:Array α} {x:α} (h:a[i]? =some x):i<a.size:=by
 grind
theorem Zuk {b:Nat} {c:Array Value} {ty:TypeId} {fr:Nat×Nat} (h:w.heap[b]? =some (.cells c ty fr)) (v:Value):
  w.setCell ⟨b,o,none⟩ v=lf w b (.cells (c.setIfInBounds o v) ty fr):=by
 unfold World.setCell lf;congr 1;grind
def pw:Array Value->Nat->List Value->Array Value
 |c,_,[]=>c
 |c,k,v::r=>pw (c.setIfInBounds k v) (k+1) r
@[simp] theorem afH : ∀ (vs : List Value) (c : Array Value) (k : Nat), (pw c k vs).size = c.size
 |[],_,_=>rfl
 |v::r,c,k=>by rw[pw,afH r];simp
theorem KW: ∀(vs:List Value) (c:Array Value) (k j:Nat),k+vs.length<=c.size->
  (pw c k vs)[j]? =if k<=j/\j<k+vs.length then vs[j-k]? else c[j]?
 |[],c,k,j,_=>by grind[pw,Dh]
 |v::r,c,k,j,h=>by
  simp only[cO]at h⊢;rw[pw,KW r _ _ _ (by simp;omega)];by_cases h1:k+1<=j/\j<k+1+r.length
  .rw[bG h1,bG (by omega)]
   grind
  grind
theorem OE (P:Program) (b o:Nat) (ty:TypeId) (fr:Nat×Nat): ∀(vs:List Value) (i:Nat) (w:World) (c:Array Value),
  w.heap[b]? =some (.cells c ty fr)->(∀v∈vs,v.oneCell'=true)->o+i+vs.length<=c.size->
  (∀j,i<=j->j<i+vs.length->(decide (fr.1<=o+j)&&decide (o+j<fr.2))=false)->
  (storeCells ⟨b,o,none⟩ vs i).run P w= .ok () (lf w b (.cells (pw c (o+i) vs) ty fr))
 |[],i,w,c,hb,_,_,_=>by
  have:lf w b (.cells c ty fr)=w:=by
   unfold lf;cases w with
   |mk heap tape drawn os output=>
    congr 1;grind
  simp[pw,storeCells,this]
 |v::r,i,w,c,hb,h1,hs,hf=>by
  simp only[cO]at hs hf;have p9:w.cell? ⟨b,o+i,none⟩=some c[o+i]:=by rw[cell_of_row w b (o+i) c ty fr hb];simp
  have eO:w.frozen? ⟨b,o+i,none⟩=false:=by
   have:=hf i (aO _) (by omega);simp only[World.frozen?,hb];exact this
  have cc:(store ((⟨b,o,none⟩:Addr).add i) v).run P w= .ok () (w.setCell ⟨b,o+i,none⟩ v):=by
   rw[zK,run_store P w _ v _ (h1 v (by simp)),p9];simp only[eO];rfl
  have ax:=GC hb;simp only[storeCells,Sem.run_bind,cc,Result.andThen_ok];rw[Zuk hb,OE P b o ty fr r (i+1) _ (c.setIfInBounds (o+i) v) (Kb ax _) (by grind) (by simp;omega)
   (by grind),ZuI]
  simp only[pw];rfl
theorem Zpu: ∀(cs ds:ah),(ov cs ds).length=cs.length
 |[],ds=>by cases ds<;>rfl
 |_::cs,[]=>rfl
 |_::cs,_::ds=>by simp[ov,Zpu cs ds]
theorem Zvx: ∀(cs ds:ah) (j:Nat),ds.length<=cs.length->(ov cs ds)[j]? =if j<ds.length then ds[j]? else cs[j]?
 |[],[],j,_=>by simp[ov]
 |[],_::_,j,h=>by simp at h
 |c::cs,[],j,_=>by simp[ov]
 |c::cs,d::ds,0,_=>by simp[ov]
 |c::cs,d::ds,j+1,h=>by
  simp only[cO]at h;simp only[ov,pE,cO];rw[Zvx cs ds j (by omega)];by_cases e:j<ds.length
  .rw[bG e,bG (by omega)]
  simp
theorem Gx: ∀(cs:ah) (k:Nat) (ds:ah),(cq cs k ds).length=cs.length
 |cs,0,ds=>by cases cs<;>simp[cq,Zpu]
 |[],k+1,ds=>rfl
 |c::cs,k+1,ds=>by simp[cq,Gx cs k ds]
theorem G5: ∀(cs:ah) (k:Nat) (ds:ah) (j:Nat),k+ds.length<=cs.length->
  (cq cs k ds)[j]? =if k<=j/\j<k+ds.length then ds[j-k]? else cs[j]?
 |cs,0,ds,j,h=>by
  have:cq cs 0 ds=ov cs ds:=by cases cs<;>rfl
  rw[this,Zvx cs ds j (by omega)];by_cases e:j<ds.length
  .rw[bG e,bG (by omega),Nat.sub_zero]
  simp
 |[],k+1,ds,j,h=>by simp at h
 |c::cs,k+1,ds,0,h=>by simp[cq]
 |c::cs,k+1,ds,j+1,h=>by
  simp only[cO]at h;simp only[cq,pE];rw[G5 cs k ds j (by omega)];by_cases e:k<=j/\j<k+ds.length
  .rw[bG e,bG (by omega)];congr 1;omega
  grind
structure CB where
 b:Nat
 o:Nat
 m:Nat
abbrev du:=Nat ⊕ Nat
abbrev Ps:=du->Option CB
mutual
inductive VR (C:bx) (ψ:Ps):DV->Value->Prop
 |bool (b:Bool):VR C ψ (.bool b) (.bool b)
 |int (k:IntKind) (n:Int):VR C ψ (.int k n) (.int k n)
 |str (s:ByteArray):VR C ψ (.str s.data.toList) (.string s)
 |IY:VR C ψ (.ptr none) (.pointer none)
 |ptr (i o:Nat) (cb:CB):ψ (.inl i)=some cb->VR C ψ (.ptr (some (i,o))) (.pointer (some ⟨cb.b,cb.o+o,none⟩))
 |rV (sz:Nat):VR C ψ (.slice sz none 0) (.slice none 0 0)
 |slice (sz i o n:Nat) (cb:CB) (a:Addr) (cap:Nat):ψ (.inl i)=some cb->n<=cap->(0<cap->a=⟨cb.b,cb.o+o,none⟩/\o+cap*sz<=cb.m)->
   VR C ψ (.slice sz (some (i,o)) n) (.slice (some a) n cap)
 |agg (ds:ah) (vs:Array Value):bB C ψ ds vs.toList->ds.all one=true->VR C ψ (.agg ds) (.agg vs)
 |func (k:Nat) (fs cs:ah) (vf vc:Array Value):C.cov k=true->bB C ψ fs vf.toList->bB C ψ cs vc.toList->
   VR C ψ (.func (C.fn k) fs cs) (.func (.func k) vf vc)
 |nilFunc:VR C ψ .nilFunc .nilFunc
 |iface (t:Nat) (d:DV) (v:Value):VR C ψ d v->VR C ψ (.iface (C.ty t) d) (.iface t v)
 |nilIface:VR C ψ .nilIface .nilIface
inductive bB (C:bx) (ψ:Ps):List DV->List Value->Prop
 |nil:bB C ψ [] []
 |cons (d:DV) (v:Value) (ds:ah) (vs:List Value):VR C ψ d v->bB C ψ ds vs->bB C ψ (d::ds) (v::vs)
end
section
variable {C:bx} {ψ ψ':Ps}
mutual
theorem VR.mono (h: ∀i cb,ψ (.inl i)=some cb->ψ' (.inl i)=some cb): ∀ {d:DV} {v:Value},VR C ψ d v->VR C ψ' d v
 |_,_,.bool b=> .bool b
 |_,_,.int k n=> .int k n
 |_,_,.str s=> .str s
 |_,_,.IY=> .IY
 |_,_,.ptr i o cb e=> .ptr i o cb (h _ _ e)
 |_,_,.rV sz=> .rV sz
 |_,_,.slice sz i o n cb a cap e h1 h2=> .slice sz i o n cb a cap (h _ _ e) h1 h2
 |_,_,.agg ds vs r h1=> .agg ds vs (bB.mono h r) h1
 |_,_,.func k fs cs vf vc e r1 r2=> .func k fs cs vf vc e (bB.mono h r1) (bB.mono h r2)
 |_,_,.nilFunc=> .nilFunc
 |_,_,.iface t d v r=> .iface t d v (VR.mono h r)
 |_,_,.nilIface=> .nilIface
theorem bB.mono (h: ∀i cb,ψ (.inl i)=some cb->ψ' (.inl i)=some cb): ∀ {ds:ah} {vs:List Value},bB C ψ ds vs->bB C ψ' ds vs
 |_,_,.nil=> .nil
 |_,_,.cons d v ds vs r rs=> .cons d v ds vs (VR.mono h r) (bB.mono h rs)
end
theorem bB.len: ∀ {ds:ah} {vs:List Value},bB C ψ ds vs->ds.length=vs.length
 |_,_,.nil=>rfl
 |_,_,.cons _ _ _ _ _ rs=>by simp[bB.len rs]
theorem bB.get: ∀ {ds:ah} {vs:List Value},bB C ψ ds vs->∀ {j:Nat} {d:DV},ds[j]? =some d->∃v,vs[j]? =some v/\VR C ψ d v
 |_,_,.nil,j,d,h=>by simp at h
 |_,_,.cons d0 v0 ds vs r rs,0,d,h=>by
  grind
 |_,_,.cons d0 v0 ds vs r rs,j+1,d,h=>by
  simp only[pE]at h⊢;exact bB.get rs h
theorem bB.of: ∀(ds:ah) (vs:List Value),ds.length=vs.length->(∀(j:Nat) (d:DV) (v:Value),ds[j]? =some d->vs[j]? =some v->VR C ψ d v)->bB C ψ ds vs
 |[],[],_,_=> .nil
 |[],_::_,h,_=>by simp at h
 |_::_,[],h,_=>by simp at h
 |d::ds,v::vs,h,hp=> .cons d v ds vs (hp 0 d v rfl rfl) (bB.of ds vs (by simpa using h) λj d v h1 h2=>hp (j+1) d v (by simpa using h1) (by simpa using h2))
theorem bB.append (h:bB C ψ ds vs) (h':bB C ψ lz iI):bB C ψ (ds++lz) (vs++iI):=by
 have e:=h.len;have e':=h'.len;refine bB.of _ _ (by simp[e,e']) λj d v h1 h2=>?_
 by_cases hj:j<ds.length
 .rw[oz hj]at h1
  rw[oz (by omega)]at h2;obtain⟨v',eD,hr⟩:=h.get h1;rw[h2]at eD;cases eD;exact hr
 .rw[mb (by omega)]at h1
  rw[mb (by omega)]at h2;rw[<-e]at h2;obtain⟨v',eD,hr⟩:=h'.get h1;rw[h2]at eD;cases eD;exact hr
theorem bB.take {ds:ah} {vs:List Value} (h:bB C ψ ds vs) (n:Nat):bB C ψ (ds.take n) (vs.take n):=by
 refine bB.of _ _ (by simp[h.len]) λj d v h1 h2=>?_
 rw[wa]at h1 h2;split at h1
 .rw[bG ‹_›]at h2
  obtain⟨v',eD,hr⟩:=h.get h1;rw[h2]at eD;cases eD;exact hr
 .cases h1
theorem bB.drop {ds:ah} {vs:List Value} (h:bB C ψ ds vs) (n:Nat):bB C ψ (ds.drop n) (vs.drop n):=by
 refine bB.of _ _ (by simp[h.len]) λj d v h1 h2=>?_
 rw[Bl]at h1 h2;obtain⟨v',eD,hr⟩:=h.get h1;rw[h2]at eD;cases eD;exact hr
theorem VR.afC (h:VR C ψ d v) (h1:one d=true):v.oneCell'=true:=by
 cases h<;>first|rfl|simp[one]at h1
theorem VR.W7 (h:VR C ψ d v) (h1:one d=true):v.cells= #[v]:=by
 cases h<;>first|rfl|simp[one]at h1
theorem bB.YE (h:bB C ψ ds vs) (h1:ds.all one=true): ∀v∈vs,v.oneCell'=true:=by
 intro v hv;obtain⟨j,hj⟩:=Dg hv;have hl:=h.len;have ax:j<vs.length:=by
  grind
 have hd:ds[j]? =some ds[j]:=by simp
 obtain⟨v',eD,hr⟩:=h.get hd;rw[hj]at eD;cases eD;exact hr.afC (by grind)
end
inductive AB where
 |cells (fK:Bool) (cs:ah)
 |iter (s:aj) (pos:Nat)
def AB.gI:AB->Bool
 | .cells f _=> !f
 | .iter _ _=>true
def c8 (s:St) (i:Nat):Option AB:=
 match s[i]? with
 |some (some b)=>some (.cells b.fK b.cells)
 |_=>none
abbrev Kn:=du->AB->Prop
def CR (E:Env) (s:St):Kn
 | .inl i,ab=>c8 s i=some ab
 | .inr v,ab=>(∃t n cs,E.get t= .loc v n cs/\ab= .cells false cs)\/(∃t l p,E.get t= .it v l p/\ab= .iter l p)
def Holds (C:bx) (ψ:Ps) (w:World) (cb:CB):AB->Prop
 | .cells f cs=>cs.length<=cb.m/\cs.all one=true/\(∀j d,cs[j]? =some d->∃v,w.cell? ⟨cb.b,cb.o+j,none⟩=some v/\VR C ψ d v)/\
   (f=false->∃c ty fr,w.heap[cb.b]? =some (.cells c ty fr)/\cb.o+cb.m<=c.size/\
    ∀j,j<cb.m->(decide (fr.1<=cb.o+j)&&decide (cb.o+j<fr.2))=false)
 | .iter s p=>∃s',w.heap[cb.b]? =some (.stringIter s' p)/\s'.data.toList=s
structure eX (C:bx) (ψ:Ps) (Q:Kn) (w:World):Prop where
 holds: ∀h cb ab,ψ h=some cb->Q h ab->Holds C ψ w cb ab
 sO: ∀h cb ab h' fR cN,ψ h=some cb->Q h ab->ab.gI=true->ψ h'=some fR->Q h' cN->h≠h'->fR.b≠cb.b
def tA (ψ:Ps) (Q:Kn) (b:Nat):Prop:=∃h cb ab,ψ h=some cb/\Q h ab/\ab.gI=true/\cb.b=b
def qM (ψ:Ps) (w:World):Prop:=∀h cb,ψ h=some cb->cb.b<w.heap.size
def Glob (C:bx) (ψ:Ps):Prop:=∀g,C.An g=true->∃cb,ψ (.inl (C.gl g))=some cb/\cb.b=g/\cb.o=0
variable {ab:AB} {cb:CB} {ψ ψ':Ps}
theorem Holds.same (hm: ∀i cb,ψ (.inl i)=some cb->ψ' (.inl i)=some cb) (e:w'.heap[cb.b]? =w.heap[cb.b]?)
  (h:Holds C ψ w cb ab):Holds C ψ' w' cb ab:=by
 have hc: ∀j,w'.cell? ⟨cb.b,j,none⟩=w.cell? ⟨cb.b,j,none⟩:=λj=>by simp only[World.cell?,e]
 cases ab with
 |cells f cs=>
  refine⟨h.1,h.2.1,λj d hd=>?_,λhf=>?_⟩
  .obtain⟨v,hv,hr⟩:=h.2.2.1 j d hd
   exact⟨v,by rw[hc];exact hv,hr.mono hm⟩
  .obtain⟨c,ty,fr,hb,h2,h3⟩:=h.2.2.2 hf
   grind
 |iter s p=>
  obtain⟨s',hb,hs⟩:=h;exact⟨s',by rw[e];exact hb,hs⟩
def tz (w w':World):Prop:=w'.output=w.output/\w.drawn<=w'.drawn
theorem tz.refl (w:World):tz w w:=⟨rfl,aO _⟩
theorem tz.trans {a b c:World} (h:tz a b) (k:tz b c):tz a c:=⟨k.1.trans h.1,gJ h.2 k.2⟩
structure Ext (ψ:Ps) (Q:Kn) (w:World) (ψ':Ps) (Q':Kn) (w':World):Prop where
 mono: ∀h cb,ψ h=some cb->ψ' h=some cb
 rR: ∀h cb,ψ' h=some cb->ψ h=some cb\/(w.heap.size<=cb.b\/tA ψ Q cb.b)/\cb.b<w'.heap.size
 size:w.heap.size<=w'.heap.size
 jy: ∀b,b<w.heap.size->¬tA ψ Q b->w'.heap[b]? =w.heap[b]?
 gI: ∀b,tA ψ' Q' b->tA ψ Q b\/w.heap.size<=b
 live: ∀h cb x,ψ h=some cb->Q' h x->∃y,Q h y
 tape:w'.tape=w.tape
 os:w'.os=w.os
 output:tz w w'
theorem Ext.refl (ψ:Ps) (Q:Kn) (w:World):Ext ψ Q w ψ Q w:=
 ⟨λ_ _ h=>h,λ_ _ h=> .inl h,aO _,λ_ _ _=>rfl,λ_ h=> .inl h,λ_ _ x _ h=>⟨x,h⟩,rfl,rfl,.refl _⟩
theorem Ext.trans {ψ ψ' FJ:Ps} {Q Q' Dw:Kn} {w w' vY:World} (h:Ext ψ Q w ψ' Q' w') (k:Ext ψ' Q' w' FJ Dw vY):Ext ψ Q w FJ Dw vY where
 mono:=λi cb e=>k.mono i cb (h.mono i cb e)
 rR:=λi cb e=>by
  rcases k.rR i cb e with e|⟨e,e2⟩
  .rcases h.rR i cb e with e|⟨e,e2⟩
   .exact .inl e
   .exact .inr ⟨e,lj e2 k.size⟩
  .refine .inr ⟨?_,e2⟩
   rcases e with e|e
   .exact .inl (gJ h.size e)
   .rcases h.gI _ e with e|e
    .exact .inr e
    .exact .inl e
 size:=gJ h.size k.size
 jy:=λb hb hn=>by
  rw[k.jy b (lj hb h.size) (λe=>by rcases h.gI b e with e|e;exact hn e;omega),h.jy b hb hn]
 gI:=λb e=>by
  rcases k.gI b e with e|e
  .exact h.gI b e
  .exact .inr (gJ h.size e)
 live:=λi cb x e hx=>by
  obtain⟨y,hy⟩:=k.live i cb x (h.mono i cb e) hx;exact h.live i cb y e hy
 tape:=k.tape.trans h.tape
 os:=k.os.trans h.os
 output:=h.output.trans k.output
variable {Q Q':Kn}
theorem eX.weaken (h:eX C ψ Q w) (hq: ∀h ab cb,ψ h=some cb->Q' h ab->Q h ab):eX C ψ Q' w:=
 ⟨λk cb ab e q=>h.holds k cb ab e (hq k ab cb e q),λk cb ab k' fR cN e q hs e' q' hn=>h.sO k cb ab k' fR cN e (hq _ _ _ e q) hs e' (hq _ _ _ e' q') hn⟩
variable {Dw:Kn}
theorem Ext.weaken (h:Ext ψ Q w ψ' Q' w') (hq: ∀k ab cb,ψ' k=some cb->Dw k ab->Q' k ab):Ext ψ Q w ψ' Dw w':=
 { h with
  gI:=λb ⟨k,cb,ab,e,q,hs,hb⟩=>h.gI b ⟨k,cb,ab,e,hq _ _ _ e q,hs,hb⟩
  live:=λk cb x e q=>h.live k cb x e (hq _ _ _ (h.mono _ _ e) q) }
theorem Ext.gm (h:Ext ψ Q w ψ' Q' w') (hb:qM ψ w):qM ψ' w':=λk cb e=>by
 rcases h.rR k cb e with e|⟨_,e⟩
 .exact lj (hb k cb e) h.size
 .exact e
theorem Ext.ku (h:Ext ψ Q w ψ' Q' w') (hg:Glob C ψ):Glob C ψ':=λg e=>
 let ⟨cb,e1,e2⟩:=hg g e
 ⟨cb,h.mono _ _ e1,e2⟩
def nF (ψ:Ps) (h:du) (cb:CB):Ps:=λk=>if k=h then some cb else ψ k
def xK (Q:Kn) (h:du) (ab:AB):Kn:=λk x=>(k=h/\x=ab)\/(k≠h/\Q k x)
theorem pM (ψ:Ps) (h:du) (cb:CB):nF ψ h cb h=some cb:=by simp[nF]
variable {h:du}
theorem nP (ψ:Ps) {k:du} (cb:CB) (e:k≠h):nF ψ h cb k=ψ k:=by simp[nF,e]
theorem uQ (hf:ψ h=none): ∀k c,ψ k=some c->nF ψ h cb k=some c:=by
 intro k c e;by_cases ek:k=h
 .grind
 .rw[nP _ _ ek];exact e
structure gL (w w':World):Prop where
 fh: ∀b,b<w.heap.size->w'.heap[b]? =w.heap[b]?
 size:w.heap.size<=w'.heap.size
 tape:w'.tape=w.tape
 os:w'.os=w.os
 output:tz w w'
theorem gL.refl (w:World):gL w w:=⟨λ_ _=>rfl,aO _,rfl,rfl,.refl w⟩
theorem gL.drew (w:World):gL w w.drew:=⟨λ_ _=>rfl,aO _,rfl,rfl,rfl,Nat.le_succ _⟩
theorem gL.alloc (w:World) (o:Obj):gL w (w.alloc o):=
 ⟨λb h=>heap_alloc_old w o b h,by simp,rfl,rfl,rfl,aO _⟩
theorem gL.trans {w w' vY:World} (h:gL w w') (k:gL w' vY):gL w vY:=
 ⟨λb hb=>(k.fh b (lj hb h.size)).trans (h.fh b hb),gJ h.size k.size,k.tape.trans h.tape,k.os.trans h.os,h.output.trans k.output⟩
theorem eX.more (h:eX C ψ Q w) (hb:qM ψ w) (hm:gL w w'):eX C ψ Q w':=
 ⟨λk cb ab e q=>(h.holds k cb ab e q).same (λ_ _ e=>e) (hm.fh _ (hb k cb e)),h.sO⟩
theorem Ext.more (hm:gL w w'):Ext ψ Q w ψ Q w':=
 ⟨λ_ _ h=>h,λ_ _ h=> .inl h,hm.size,λb hb _=>hm.fh b hb,λ_ h=> .inl h,λ_ _ x _ h=>⟨x,h⟩,hm.tape,hm.os,hm.output⟩
theorem eX.new (hs:eX C ψ Q w) (hb:qM ψ w) (hm:gL w w') (hf:ψ h=none)
  (h1:w.heap.size<=cb.b) (hh:Holds C (nF ψ h cb) w' cb ab):eX C (nF ψ h cb) (xK Q h ab) w':=by
 have mono:=uQ (cb:=cb) hf;have fh: ∀k c x,nF ψ h cb k=some c->xK Q h ab k x->(k=h/\c=cb/\x=ab)\/(k≠h/\ψ k=some c/\Q k x):=by
  intro k c x e q;rcases q with⟨rfl,rfl⟩|⟨hk,q⟩
  .rw[pM]at e;grind
  .rw[nP _ _ hk]at e;grind
 constructor
 .intro k c x e q
  rcases fh k c x e q with⟨rfl,rfl,rfl⟩|⟨_,e,q⟩
  .exact hh
  .exact(hs.holds k c x e q).same (λi c e=>mono _ _ e) (hm.fh _ (hb k c e))
 .intro k c x k' c' x' e q oZ e' q' hn
  rcases fh k c x e q with⟨rfl,rfl,rfl⟩|⟨hk,e,q⟩<;>rcases fh k' c' x' e' q' with⟨rfl,rfl,rfl⟩|⟨xf,e',q'⟩
  .exact absurd rfl hn
  .have:=hb k' c' (by assumption);omega
  .have:=hb k c (by assumption);omega
  .exact hs.sO k c x k' c' x' e q oZ e' q' hn
theorem Ext.new (hm:gL w w') (hf:ψ h=none)
  (h1:w.heap.size<=cb.b) (h2:cb.b<w'.heap.size):Ext ψ Q w (nF ψ h cb) (xK Q h ab) w' where
 mono:=uQ hf
 rR:=λk c e=>by
  by_cases ek:k=h
  .grind[pM]
  .rw[nP _ _ ek]at e;exact .inl e
 size:=hm.size
 jy:=λb hb _=>hm.fh b hb
 gI:=λb ⟨k,c,x,e,q,hs,hb⟩=>by
  rcases q with⟨rfl,rfl⟩|⟨hk,q⟩
  .rw[pM]at e;grind
  .rw[nP _ _ hk]at e;exact .inl ⟨k,c,x,e,q,hs,hb⟩
 live:=λk c x e q=>by
  rcases q with⟨rfl,rfl⟩|⟨hk,q⟩
  .rw[hf]at e;cases e
  .exact⟨x,q⟩
 tape:=hm.tape
 os:=hm.os
 output:=hm.output
variable {cN:AB}
theorem eX.set (hs:eX C ψ Q w) (he:ψ h=some cb) (hq:Q h ab) (oZ:ab.gI=true)
  (hk: ∀b,b≠cb.b->w'.heap[b]? =w.heap[b]?) (hh:Holds C ψ w' cb cN):eX C ψ (xK Q h cN) w':=by
 have fh: ∀k c x,ψ k=some c->xK Q h cN k x->(k=h/\c=cb/\x=cN)\/(k≠h/\ψ k=some c/\Q k x/\c.b≠cb.b):=by
  intro k c x e q;rcases q with⟨rfl,rfl⟩|⟨hk,q⟩
  .rw[he]at e;grind
  .exact .inr ⟨hk,e,q,hs.sO h cb ab k c x he hq oZ e q (Ne.symm hk)⟩
 constructor
 .intro k c x e q
  rcases fh k c x e q with⟨rfl,rfl,rfl⟩|⟨_,e,q,hb⟩
  .exact hh
  .exact(hs.holds k c x e q).same (λ_ _ e=>e) (hk _ hb)
 .intro k c x k' c' x' e q oZ e' q' hn
  rcases fh k c x e q with⟨rfl,rfl,rfl⟩|⟨hk,e,q,hb⟩<;>rcases fh k' c' x' e' q' with⟨rfl,rfl,rfl⟩|⟨xf,e',q',ec⟩
  .exact absurd rfl hn
  .exact ec
  .exact Ne.symm hb
  .exact hs.sO k c x k' c' x' e q oZ e' q' hn
theorem Ext.set (he:ψ h=some cb) (hq:Q h ab) (oZ:ab.gI=true)
  (hk: ∀b,b≠cb.b->w'.heap[b]? =w.heap[b]?) (cw:w'.heap.size=w.heap.size) (ht:w'.tape=w.tape) (ho:w'.os=w.os) (hu:tz w w'):Ext ψ Q w ψ (xK Q h cN) w' where
 mono:=λ_ _ e=>e
 rR:=λ_ _ e=> .inl e
 size:=by omega
 jy:=λb _ hn=>hk b λe=>hn ⟨h,cb,ab,he,hq,oZ,e.symm⟩
 gI:=λb ⟨k,c,x,e,q,hs,hb⟩=>by
  rcases q with⟨rfl,rfl⟩|⟨_,q⟩
  .rw[he]at e;cases e;exact .inl ⟨_,_,ab,he,hq,oZ,hb⟩
  .exact .inl ⟨k,c,x,e,q,hs,hb⟩
 live:=λk c x e q=>by
  rcases q with⟨rfl,rfl⟩|⟨_,q⟩
  .exact⟨ab,hq⟩
  .exact⟨x,q⟩
 tape:=ht
 os:=ho
 output:=hu
def IK (Q:Kn) (h h':du) (ab:AB):Kn:=λk x=>(k=h'/\x=ab)\/(k≠h'/\k≠h/\Q k x)
variable {fR:CB} {h':du}
theorem eX.move (hs:eX C ψ Q w) (he:ψ h=some cb) (hq:Q h ab) (oZ:ab.gI=true)
  (hf:ψ h'=none) (hb:fR.b=cb.b) (hk: ∀b,b≠cb.b->w'.heap[b]? =w.heap[b]?) (hh:Holds C (nF ψ h' fR) w' fR cN):eX C (nF ψ h' fR) (IK Q h h' cN) w':=by
 have fh: ∀k c x,nF ψ h' fR k=some c->IK Q h h' cN k x->(k=h'/\c=fR/\x=cN)\/(k≠h'/\ψ k=some c/\Q k x/\c.b≠cb.b):=by
  intro k c x e q;rcases q with⟨rfl,rfl⟩|⟨hk,iR,q⟩
  .rw[pM]at e;grind
  .rw[nP _ _ hk]at e
   exact .inr ⟨hk,e,q,hs.sO h cb ab k c x he hq oZ e q (Ne.symm iR)⟩
 constructor
 .intro k c x e q
  rcases fh k c x e q with⟨rfl,rfl,rfl⟩|⟨_,e,q,hb⟩
  .exact hh
  .exact(hs.holds k c x e q).same (λ_ _ e=>uQ hf _ _ e) (hk _ hb)
 .intro k c x k' c' x' e q oZ e' q' hn
  rcases fh k c x e q with⟨rfl,rfl,rfl⟩|⟨hk,e,q,mD⟩<;>rcases fh k' c' x' e' q' with⟨rfl,rfl,rfl⟩|⟨xf,e',q',cU⟩
  .exact absurd rfl hn
  .rw[hb];exact cU
  .rw[hb];exact Ne.symm mD
  .exact hs.sO k c x k' c' x' e q oZ e' q' hn
theorem Ext.move (he:ψ h=some cb) (hq:Q h ab) (oZ:ab.gI=true) (hf:ψ h'=none)
  (hb:fR.b=cb.b) (ax:cb.b<w.heap.size) (hk: ∀b,b≠cb.b->w'.heap[b]? =w.heap[b]?) (cw:w'.heap.size=w.heap.size) (ht:w'.tape=w.tape) (ho:w'.os=w.os)
  (hu:tz w w'):Ext ψ Q w (nF ψ h' fR) (IK Q h h' cN) w' where
 mono:=uQ hf
 rR:=λk c e=>by
  by_cases ek:k=h'
  .subst ek;rw[pM]at e;cases e;exact .inr ⟨.inr ⟨h,cb,ab,he,hq,oZ,hb.symm⟩,by omega⟩
  .rw[nP _ _ ek]at e;exact .inl e
 size:=by omega
 jy:=λb _ hn=>hk b λe=>hn ⟨h,cb,ab,he,hq,oZ,e.symm⟩
 gI:=λb ⟨k,c,x,e,q,hs,ec⟩=>by
  rcases q with⟨rfl,rfl⟩|⟨hk,_,q⟩
  .rw[pM]at e;cases e;exact .inl ⟨h,cb,ab,he,hq,oZ,by omega⟩
  .rw[nP _ _ hk]at e;exact .inl ⟨k,c,x,e,q,hs,ec⟩
 live:=λk c x e q=>by
  rcases q with⟨rfl,rfl⟩|⟨_,_,q⟩
  .rw[hf]at e;cases e
  .exact⟨x,q⟩
 tape:=ht
 os:=ho
 output:=hu
def fp (C:bx) (ψ:Ps):ez->Value->Prop
 | .u,_=>True
 | .un,x=>x=undef
 |ez.v d,x=>VR C ψ d x
 | .pC ds,x=>∃vs,x= .tuple vs/\bB C ψ ds vs.toList
 | .loc cS _ _,x=>∃cb,ψ (.inr cS)=some cb/\cb.o=0/\x= .pointer (some ⟨cb.b,0,none⟩)
 | .pl _ cS o,x=>∃cb,ψ (.inr cS)=some cb/\cb.o=0/\x= .pointer (some ⟨cb.b,o,none⟩)
 | .it cS _ _,x=>∃cb,ψ (.inr cS)=some cb/\x= .pointer (some ⟨cb.b,0,none⟩)
theorem fp.mono {C:bx} {ψ ψ':Ps} (h: ∀k cb,ψ k=some cb->ψ' k=some cb) {e:ez} {x:Value} (r:fp C ψ e x):fp C ψ' e x:=by
 cases e with
 |u=>exact trivial
 |un=>exact r
 |v d=>exact VR.mono (λi cb e=>h _ _ e) r
 |pC ds=>obtain⟨vs,e,r⟩:=r;exact⟨vs,e,r.mono λi cb e=>h _ _ e⟩
 |loc v n cs=>obtain⟨cb,e,r⟩:=r;exact⟨cb,h _ _ e,r⟩
 |pl a v n=>obtain⟨cb,e,r⟩:=r;exact⟨cb,h _ _ e,r⟩
 |it v n cs=>obtain⟨cb,e,r⟩:=r;exact⟨cb,h _ _ e,r⟩
def ez.cS:ez->Option Nat
 | .loc k _ _=>some k
 | .it k _ _=>some k
 |_=>none
structure iY (E:Env):Prop where
 lt: ∀t v,(E.get t).cS=some v->v<E.bL
 pl: ∀t r v o,E.get t= .pl r v o->v<E.bL
 len: ∀t v n cs,E.get t= .loc v n cs->cs.length=n
 uniq: ∀t t' v,(E.get t).cS=some v->(E.get t').cS=some v->t=t'
end Go.Gv
