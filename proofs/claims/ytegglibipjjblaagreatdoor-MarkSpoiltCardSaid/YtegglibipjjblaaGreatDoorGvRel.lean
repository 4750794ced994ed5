/- How the machine's values, heap and registers stand for the model's. -/
import Derived.Test.YtegglibipjjblaaGreatDoorGvDef
import Derived.Laws.Sem
import Derived.Laws.World
import Derived.Laws.Cells
import Derived.Laws.Rows
import Derived.Deep.LoopGhost
namespace Go.Gv
theorem Ae (b o j:Nat):(⟨b,o,none⟩:Addr).add j=⟨b,o+j,none⟩:=by
 simp[Addr.add]
def ly (w:World) (b:Nat) (o:Obj):World:= { w with heap:=w.heap.setIfInBounds b o }
@[simp] theorem NO (w : World) (b : Nat) (o : Obj) : (ly w b o).heap.size = w.heap.size := by simp [ly]
variable {d:DV} {iO vs:List Value} {i k o:Nat} {v:Value} {w w':World} {ds lO:ah} {C:bB}
theorem KX {b:Nat} (h:b<w.heap.size) (o:Obj):(ly w b o).heap[b]? =some o:=by simp[ly,h]
theorem ZtV {b:Nat} (h:k≠b) (o:Obj):(ly w b o).heap[k]? =w.heap[k]? :=by
 grind[ly]
theorem Zvv (w:World) (b:Nat) (o o':Obj):ly (ly w b o) b o'=ly w b o':=by simp[ly]
theorem B6 {α:Type} {a:Array α} {x:α} (h:a[i]? =some x):i<a.size:=by
 grind
theorem ZtJ {b:Nat} {c:Array Value} {ty:TypeId} {fr:Nat×Nat} (h:w.heap[b]? =some (.cells c ty fr)) (v:Value):
  w.setCell ⟨b,o,none⟩ v=ly w b (.cells (c.setIfInBounds o v) ty fr):=by
 unfold World.setCell ly;congr 1;grind
def pY:Array Value->Nat->List Value->Array Value
 |c,_,[]=>c
 |c,k,v::r=>pY (c.setIfInBounds k v) (k+1) r
@[simp] theorem agm : ∀ (vs : List Value) (c : Array Value) (k : Nat), (pY c k vs).size = c.size
 |[],_,_=>rfl
 |v::r,c,k=>by rw[pY,agm r];simp
theorem LB: ∀(vs:List Value) (c:Array Value) (k j:Nat),k+vs.length<=c.size->
  (pY c k vs)[j]? =if k<=j/\j<k+vs.length then vs[j-k]? else c[j]?
 |[],c,k,j,_=>by grind[pY,yi]
 |v::r,c,k,j,h=>by
  simp only[cH]at h⊢;rw[pY,LB r _ _ _ (by simp;omega)];by_cases h1:k+1<=j/\j<k+1+r.length
  .rw[bw h1,bw (by omega)]
   grind
  grind
theorem PW (P:Program) (b o:Nat) (ty:TypeId) (fr:Nat×Nat): ∀(vs:List Value) (i:Nat) (w:World) (c:Array Value),
  w.heap[b]? =some (.cells c ty fr)->(∀v∈vs,v.oneCell'=true)->o+i+vs.length<=c.size->
  (∀j,i<=j->j<i+vs.length->(decide (fr.1<=o+j)&&decide (o+j<fr.2))=false)->
  (storeCells ⟨b,o,none⟩ vs i).run P w= .ok () (ly w b (.cells (pY c (o+i) vs) ty fr))
 |[],i,w,c,hb,_,_,_=>by
  have:ly w b (.cells c ty fr)=w:=by
   unfold ly;cases w with
   |mk heap tape drawn os output=>
    congr 1;grind
  simp[pY,storeCells,this]
 |v::r,i,w,c,hb,h1,hs,hf=>by
  simp only[cH]at hs hf;have oH:w.cell? ⟨b,o+i,none⟩=some c[o+i]:=by rw[cell_of_row w b (o+i) c ty fr hb];simp
  have ew:w.frozen? ⟨b,o+i,none⟩=false:=by
   have:=hf i (aL _) (by omega);simp only[World.frozen?,hb];exact this
  have ca:(store ((⟨b,o,none⟩:Addr).add i) v).run P w= .ok () (w.setCell ⟨b,o+i,none⟩ v):=by
   rw[Ae,run_store P w _ v _ (h1 v (by simp)),oH];simp only[ew];rfl
  have ax:=B6 hb;simp only[storeCells,Sem.run_bind,ca,Result.andThen_ok];rw[ZtJ hb,PW P b o ty fr r (i+1) _ (c.setIfInBounds (o+i) v) (KX ax _) (by grind) (by simp;omega)
   (by grind),Zvv]
  simp only[pY];rfl
theorem Zpz: ∀(cs ds:ah),(ov cs ds).length=cs.length
 |[],ds=>by cases ds<;>rfl
 |_::cs,[]=>rfl
 |_::cs,_::ds=>by simp[ov,Zpz cs ds]
theorem ZvG: ∀(cs ds:ah) (j:Nat),ds.length<=cs.length->(ov cs ds)[j]? =if j<ds.length then ds[j]? else cs[j]?
 |[],[],j,_=>by simp[ov]
 |[],_::_,j,h=>by simp at h
 |c::cs,[],j,_=>by simp[ov]
 |c::cs,d::ds,0,_=>by simp[ov]
 |c::cs,d::ds,j+1,h=>by
  simp only[cH]at h;simp only[ov,qb,cH];rw[ZvG cs ds j (by omega)];by_cases e:j<ds.length
  .rw[bw e,bw (by omega)]
  simp
theorem GO: ∀(cs:ah) (k:Nat) (ds:ah),(cw cs k ds).length=cs.length
 |cs,0,ds=>by cases cs<;>simp[cw,Zpz]
 |[],k+1,ds=>rfl
 |c::cs,k+1,ds=>by simp[cw,GO cs k ds]
theorem Hq: ∀(cs:ah) (k:Nat) (ds:ah) (j:Nat),k+ds.length<=cs.length->
  (cw cs k ds)[j]? =if k<=j/\j<k+ds.length then ds[j-k]? else cs[j]?
 |cs,0,ds,j,h=>by
  have:cw cs 0 ds=ov cs ds:=by cases cs<;>rfl
  rw[this,ZvG cs ds j (by omega)];by_cases e:j<ds.length
  .rw[bw e,bw (by omega),BN]
  simp
 |[],k+1,ds,j,h=>by simp at h
 |c::cs,k+1,ds,0,h=>by simp[cw]
 |c::cs,k+1,ds,j+1,h=>by
  simp only[cH]at h;simp only[cw,qb];rw[Hq cs k ds j (by omega)];by_cases e:k<=j/\j<k+ds.length
  .rw[bw e,bw (by omega)];congr 1;omega
  grind
structure CB where
 b:Nat
 o:Nat
 m:Nat
abbrev dD:=Nat ⊕ Nat
abbrev Ps:=dD->Option CB
mutual
inductive VR (C:bB) (ψ:Ps):DV->Value->Prop
 |bool (b:Bool):VR C ψ (.bool b) (.bool b)
 |int (k:IntKind) (n:Int):VR C ψ (.int k n) (.int k n)
 |str (s:ByteArray):VR C ψ (.str s.data.toList) (.string s)
 |Jo:VR C ψ (.ptr none) (.pointer none)
 |ptr (i o:Nat) (cb:CB):ψ (.inl i)=some cb->VR C ψ (.ptr (some (i,o))) (.pointer (some ⟨cb.b,cb.o+o,none⟩))
 |sG (sz:Nat):VR C ψ (.slice sz none 0) (.slice none 0 0)
 |slice (sz i o n:Nat) (cb:CB) (a:Addr) (cap:Nat):ψ (.inl i)=some cb->n<=cap->(0<cap->a=⟨cb.b,cb.o+o,none⟩/\o+cap*sz<=cb.m)->
   VR C ψ (.slice sz (some (i,o)) n) (.slice (some a) n cap)
 |agg (ds:ah) (vs:Array Value):bE C ψ ds vs.toList->ds.all one=true->VR C ψ (.agg ds) (.agg vs)
 |func (k:Nat) (fs cs:ah) (vf vc:Array Value):C.cov k=true->bE C ψ fs vf.toList->bE C ψ cs vc.toList->
   VR C ψ (.func (C.fn k) fs cs) (.func (.func k) vf vc)
 |nilFunc:VR C ψ .nilFunc .nilFunc
 |iface (t:Nat) (d:DV) (v:Value):VR C ψ d v->VR C ψ (.iface (C.ty t) d) (.iface t v)
 |nilIface:VR C ψ .nilIface .nilIface
inductive bE (C:bB) (ψ:Ps):List DV->List Value->Prop
 |nil:bE C ψ [] []
 |cons (d:DV) (v:Value) (ds:ah) (vs:List Value):VR C ψ d v->bE C ψ ds vs->bE C ψ (d::ds) (v::vs)
end
section
variable {C:bB} {ψ ψ':Ps}
mutual
theorem VR.mono (h: ∀i cb,ψ (.inl i)=some cb->ψ' (.inl i)=some cb): ∀ {d:DV} {v:Value},VR C ψ d v->VR C ψ' d v
 |_,_,.bool b=> .bool b
 |_,_,.int k n=> .int k n
 |_,_,.str s=> .str s
 |_,_,.Jo=> .Jo
 |_,_,.ptr i o cb e=> .ptr i o cb (h _ _ e)
 |_,_,.sG sz=> .sG sz
 |_,_,.slice sz i o n cb a cap e h1 h2=> .slice sz i o n cb a cap (h _ _ e) h1 h2
 |_,_,.agg ds vs r h1=> .agg ds vs (bE.mono h r) h1
 |_,_,.func k fs cs vf vc e r1 r2=> .func k fs cs vf vc e (bE.mono h r1) (bE.mono h r2)
 |_,_,.nilFunc=> .nilFunc
 |_,_,.iface t d v r=> .iface t d v (VR.mono h r)
 |_,_,.nilIface=> .nilIface
theorem bE.mono (h: ∀i cb,ψ (.inl i)=some cb->ψ' (.inl i)=some cb): ∀ {ds:ah} {vs:List Value},bE C ψ ds vs->bE C ψ' ds vs
 |_,_,.nil=> .nil
 |_,_,.cons d v ds vs r rs=> .cons d v ds vs (VR.mono h r) (bE.mono h rs)
end
theorem bE.len: ∀ {ds:ah} {vs:List Value},bE C ψ ds vs->ds.length=vs.length
 |_,_,.nil=>rfl
 |_,_,.cons _ _ _ _ _ rs=>by simp[bE.len rs]
theorem bE.get: ∀ {ds:ah} {vs:List Value},bE C ψ ds vs->∀ {j:Nat} {d:DV},ds[j]? =some d->∃v,vs[j]? =some v/\VR C ψ d v
 |_,_,.nil,j,d,h=>by simp at h
 |_,_,.cons d0 v0 ds vs r rs,0,d,h=>by
  grind
 |_,_,.cons d0 v0 ds vs r rs,j+1,d,h=>by
  simp only[qb]at h⊢;exact bE.get rs h
theorem bE.of: ∀(ds:ah) (vs:List Value),ds.length=vs.length->(∀(j:Nat) (d:DV) (v:Value),ds[j]? =some d->vs[j]? =some v->VR C ψ d v)->bE C ψ ds vs
 |[],[],_,_=> .nil
 |[],_::_,h,_=>by simp at h
 |_::_,[],h,_=>by simp at h
 |d::ds,v::vs,h,hp=> .cons d v ds vs (hp 0 d v rfl rfl) (bE.of ds vs (by simpa using h) λj d v h1 h2=>hp (j+1) d v (by simpa using h1) (by simpa using h2))
theorem bE.append (h:bE C ψ ds vs) (h':bE C ψ lO iO):bE C ψ (ds++lO) (vs++iO):=by
 have e:=h.len;have e':=h'.len;refine bE.of _ _ (by simp[e,e']) λj d v h1 h2=>?_
 by_cases hj:j<ds.length
 .rw[l8 hj]at h1
  rw[l8 (by omega)]at h2;obtain⟨v',eJ,hr⟩:=h.get h1;rw[h2]at eJ;cases eJ;exact hr
 .rw[jY (by omega)]at h1
  rw[jY (by omega)]at h2;rw[<-e]at h2;obtain⟨v',eJ,hr⟩:=h'.get h1;rw[h2]at eJ;cases eJ;exact hr
theorem bE.take {ds:ah} {vs:List Value} (h:bE C ψ ds vs) (n:Nat):bE C ψ (ds.take n) (vs.take n):=by
 refine bE.of _ _ (by simp[h.len]) λj d v h1 h2=>?_
 rw[sL]at h1 h2;split at h1
 .rw[bw ‹_›]at h2
  obtain⟨v',eJ,hr⟩:=h.get h1;rw[h2]at eJ;cases eJ;exact hr
 .cases h1
theorem bE.drop {ds:ah} {vs:List Value} (h:bE C ψ ds vs) (n:Nat):bE C ψ (ds.drop n) (vs.drop n):=by
 refine bE.of _ _ (by simp[h.len]) λj d v h1 h2=>?_
 rw[tM]at h1 h2;obtain⟨v',eJ,hr⟩:=h.get h1;rw[h2]at eJ;cases eJ;exact hr
theorem VR.agh (h:VR C ψ d v) (h1:one d=true):v.oneCell'=true:=by
 cases h<;>first|rfl|simp[one]at h1
theorem VR.XC (h:VR C ψ d v) (h1:one d=true):v.cells= #[v]:=by
 cases h<;>first|rfl|simp[one]at h1
theorem bE.aad (h:bE C ψ ds vs) (h1:ds.all one=true): ∀v∈vs,v.oneCell'=true:=by
 intro v hv;obtain⟨j,hj⟩:=DI hv;have hl:=h.len;have ax:j<vs.length:=by
  grind
 have hd:ds[j]? =some ds[j]:=by simp
 obtain⟨v',eJ,hr⟩:=h.get hd;rw[hj]at eJ;cases eJ;exact hr.agh (by grind)
end
inductive AB where
 |cells (fN:Bool) (cs:ah)
 |iter (s:aj) (pos:Nat)
def AB.gO:AB->Bool
 | .cells f _=> !f
 | .iter _ _=>true
def dc (s:St) (i:Nat):Option AB:=
 match s[i]? with
 |some (some b)=>some (.cells b.fN b.cells)
 |_=>none
abbrev Kn:=dD->AB->Prop
def CR (E:Env) (s:St):Kn
 | .inl i,ab=>dc s i=some ab
 | .inr v,ab=>(∃t n cs,E.get t= .loc v n cs/\ab= .cells false cs)\/(∃t l p,E.get t= .it v l p/\ab= .iter l p)
def Holds (C:bB) (ψ:Ps) (w:World) (cb:CB):AB->Prop
 | .cells f cs=>cs.length<=cb.m/\cs.all one=true/\(∀j d,cs[j]? =some d->∃v,w.cell? ⟨cb.b,cb.o+j,none⟩=some v/\VR C ψ d v)/\
   (f=false->∃c ty fr,w.heap[cb.b]? =some (.cells c ty fr)/\cb.o+cb.m<=c.size/\
    ∀j,j<cb.m->(decide (fr.1<=cb.o+j)&&decide (cb.o+j<fr.2))=false)
 | .iter s p=>∃s',w.heap[cb.b]? =some (.stringIter s' p)/\s'.data.toList=s
structure fa (C:bB) (ψ:Ps) (Q:Kn) (w:World):Prop where
 holds: ∀h cb ab,ψ h=some cb->Q h ab->Holds C ψ w cb ab
 tq: ∀h cb ab h' fM cR,ψ h=some cb->Q h ab->ab.gO=true->ψ h'=some fM->Q h' cR->h≠h'->fM.b≠cb.b
def tX (ψ:Ps) (Q:Kn) (b:Nat):Prop:=∃h cb ab,ψ h=some cb/\Q h ab/\ab.gO=true/\cb.b=b
def rz (ψ:Ps) (w:World):Prop:=∀h cb,ψ h=some cb->cb.b<w.heap.size
def Glob (C:bB) (ψ:Ps):Prop:=∀g,C.AM g=true->∃cb,ψ (.inl (C.gl g))=some cb/\cb.b=g/\cb.o=0
variable {ab:AB} {cb:CB} {ψ ψ':Ps}
theorem Holds.same (hm: ∀i cb,ψ (.inl i)=some cb->ψ' (.inl i)=some cb) (e:w'.heap[cb.b]? =w.heap[cb.b]?)
  (h:Holds C ψ w cb ab):Holds C ψ' w' cb ab:=by
 have hc: ∀j,w'.cell? ⟨cb.b,j,none⟩=w.cell? ⟨cb.b,j,none⟩:=λj=>by simp only[World.cell?,e]
 cases ab with
 |cells f cs=>
  refine⟨h.1,h.2.1,λj d hd=>?_,λhf=>?_⟩
  .obtain⟨v,hv,hr⟩:=h.2.2.1 j d hd
   exact⟨v,by rw[hc];exact hv,hr.mono hm⟩
  .obtain⟨c,ty,fr,hb,h2,h3⟩:=h.2.2.2 hf
   grind
 |iter s p=>
  obtain⟨s',hb,hs⟩:=h;exact⟨s',by rw[e];exact hb,hs⟩
def tW (w w':World):Prop:=w'.output=w.output/\w.drawn<=w'.drawn
theorem tW.refl (w:World):tW w w:=⟨rfl,aL _⟩
theorem tW.trans {a b c:World} (h:tW a b) (k:tW b c):tW a c:=⟨k.1.trans h.1,gH h.2 k.2⟩
structure Ext (ψ:Ps) (Q:Kn) (w:World) (ψ':Ps) (Q':Kn) (w':World):Prop where
 mono: ∀h cb,ψ h=some cb->ψ' h=some cb
 sD: ∀h cb,ψ' h=some cb->ψ h=some cb\/(w.heap.size<=cb.b\/tX ψ Q cb.b)/\cb.b<w'.heap.size
 size:w.heap.size<=w'.heap.size
 jB: ∀b,b<w.heap.size->¬tX ψ Q b->w'.heap[b]? =w.heap[b]?
 gO: ∀b,tX ψ' Q' b->tX ψ Q b\/w.heap.size<=b
 live: ∀h cb x,ψ h=some cb->Q' h x->∃y,Q h y
 tape:w'.tape=w.tape
 os:w'.os=w.os
 output:tW w w'
theorem Ext.refl (ψ:Ps) (Q:Kn) (w:World):Ext ψ Q w ψ Q w:=
 ⟨λ_ _ h=>h,λ_ _ h=> .inl h,aL _,λ_ _ _=>rfl,λ_ h=> .inl h,λ_ _ x _ h=>⟨x,h⟩,rfl,rfl,.refl _⟩
theorem Ext.trans {ψ ψ' F9:Ps} {Q Q' DX:Kn} {w w' wB:World} (h:Ext ψ Q w ψ' Q' w') (k:Ext ψ' Q' w' F9 DX wB):Ext ψ Q w F9 DX wB where
 mono:=λi cb e=>k.mono i cb (h.mono i cb e)
 sD:=λi cb e=>by
  rcases k.sD i cb e with e|⟨e,e2⟩
  .rcases h.sD i cb e with e|⟨e,e2⟩
   .exact .inl e
   .exact .inr ⟨e,lE e2 k.size⟩
  .refine .inr ⟨?_,e2⟩
   rcases e with e|e
   .exact .inl (gH h.size e)
   .rcases h.gO _ e with e|e
    .exact .inr e
    .exact .inl e
 size:=gH h.size k.size
 jB:=λb hb hn=>by
  rw[k.jB b (lE hb h.size) (λe=>by rcases h.gO b e with e|e;exact hn e;omega),h.jB b hb hn]
 gO:=λb e=>by
  rcases k.gO b e with e|e
  .exact h.gO b e
  .exact .inr (gH h.size e)
 live:=λi cb x e hx=>by
  obtain⟨y,hy⟩:=k.live i cb x (h.mono i cb e) hx;exact h.live i cb y e hy
 tape:=k.tape.trans h.tape
 os:=k.os.trans h.os
 output:=h.output.trans k.output
variable {Q Q':Kn}
theorem fa.weaken (h:fa C ψ Q w) (hq: ∀h ab cb,ψ h=some cb->Q' h ab->Q h ab):fa C ψ Q' w:=
 ⟨λk cb ab e q=>h.holds k cb ab e (hq k ab cb e q),λk cb ab k' fM cR e q hs e' q' hn=>h.tq k cb ab k' fM cR e (hq _ _ _ e q) hs e' (hq _ _ _ e' q') hn⟩
variable {DX:Kn}
theorem Ext.weaken (h:Ext ψ Q w ψ' Q' w') (hq: ∀k ab cb,ψ' k=some cb->DX k ab->Q' k ab):Ext ψ Q w ψ' DX w':=
 { h with
  gO:=λb ⟨k,cb,ab,e,q,hs,hb⟩=>h.gO b ⟨k,cb,ab,e,hq _ _ _ e q,hs,hb⟩
  live:=λk cb x e q=>h.live k cb x e (hq _ _ _ (h.mono _ _ e) q) }
theorem Ext.gr (h:Ext ψ Q w ψ' Q' w') (hb:rz ψ w):rz ψ' w':=λk cb e=>by
 rcases h.sD k cb e with e|⟨_,e⟩
 .exact lE (hb k cb e) h.size
 .exact e
theorem Ext.kF (h:Ext ψ Q w ψ' Q' w') (hg:Glob C ψ):Glob C ψ':=λg e=>
 let ⟨cb,e1,e2⟩:=hg g e
 ⟨cb,h.mono _ _ e1,e2⟩
def nW (ψ:Ps) (h:dD) (cb:CB):Ps:=λk=>if k=h then some cb else ψ k
def ye (Q:Kn) (h:dD) (ab:AB):Kn:=λk x=>(k=h/\x=ab)\/(k≠h/\Q k x)
theorem qi (ψ:Ps) (h:dD) (cb:CB):nW ψ h cb h=some cb:=by simp[nW]
variable {h:dD}
theorem ow (ψ:Ps) {k:dD} (cb:CB) (e:k≠h):nW ψ h cb k=ψ k:=by simp[nW,e]
theorem vt (hf:ψ h=none): ∀k c,ψ k=some c->nW ψ h cb k=some c:=by
 intro k c e;by_cases ek:k=h
 .grind
 .rw[ow _ _ ek];exact e
structure gQ (w w':World):Prop where
 fq: ∀b,b<w.heap.size->w'.heap[b]? =w.heap[b]?
 size:w.heap.size<=w'.heap.size
 tape:w'.tape=w.tape
 os:w'.os=w.os
 output:tW w w'
theorem gQ.refl (w:World):gQ w w:=⟨λ_ _=>rfl,aL _,rfl,rfl,.refl w⟩
theorem gQ.drew (w:World):gQ w w.drew:=⟨λ_ _=>rfl,aL _,rfl,rfl,rfl,Nat.le_succ _⟩
theorem gQ.alloc (w:World) (o:Obj):gQ w (w.alloc o):=
 ⟨λb h=>heap_alloc_old w o b h,by simp,rfl,rfl,rfl,aL _⟩
theorem gQ.trans {w w' wB:World} (h:gQ w w') (k:gQ w' wB):gQ w wB:=
 ⟨λb hb=>(k.fq b (lE hb h.size)).trans (h.fq b hb),gH h.size k.size,k.tape.trans h.tape,k.os.trans h.os,h.output.trans k.output⟩
theorem fa.more (h:fa C ψ Q w) (hb:rz ψ w) (hm:gQ w w'):fa C ψ Q w':=
 ⟨λk cb ab e q=>(h.holds k cb ab e q).same (λ_ _ e=>e) (hm.fq _ (hb k cb e)),h.tq⟩
theorem Ext.more (hm:gQ w w'):Ext ψ Q w ψ Q w':=
 ⟨λ_ _ h=>h,λ_ _ h=> .inl h,hm.size,λb hb _=>hm.fq b hb,λ_ h=> .inl h,λ_ _ x _ h=>⟨x,h⟩,hm.tape,hm.os,hm.output⟩
theorem fa.new (hs:fa C ψ Q w) (hb:rz ψ w) (hm:gQ w w') (hf:ψ h=none)
  (h1:w.heap.size<=cb.b) (hh:Holds C (nW ψ h cb) w' cb ab):fa C (nW ψ h cb) (ye Q h ab) w':=by
 have mono:=vt (cb:=cb) hf;have fq: ∀k c x,nW ψ h cb k=some c->ye Q h ab k x->(k=h/\c=cb/\x=ab)\/(k≠h/\ψ k=some c/\Q k x):=by
  intro k c x e q;rcases q with⟨rfl,rfl⟩|⟨hk,q⟩
  .rw[qi]at e;grind
  .rw[ow _ _ hk]at e;grind
 constructor
 .intro k c x e q
  rcases fq k c x e q with⟨rfl,rfl,rfl⟩|⟨_,e,q⟩
  .exact hh
  .exact(hs.holds k c x e q).same (λi c e=>mono _ _ e) (hm.fq _ (hb k c e))
 .intro k c x k' c' x' e q pV e' q' hn
  rcases fq k c x e q with⟨rfl,rfl,rfl⟩|⟨hk,e,q⟩<;>rcases fq k' c' x' e' q' with⟨rfl,rfl,rfl⟩|⟨xH,e',q'⟩
  .exact absurd rfl hn
  .have:=hb k' c' (by assumption);omega
  .have:=hb k c (by assumption);omega
  .exact hs.tq k c x k' c' x' e q pV e' q' hn
theorem Ext.new (hm:gQ w w') (hf:ψ h=none)
  (h1:w.heap.size<=cb.b) (h2:cb.b<w'.heap.size):Ext ψ Q w (nW ψ h cb) (ye Q h ab) w' where
 mono:=vt hf
 sD:=λk c e=>by
  by_cases ek:k=h
  .grind[qi]
  .rw[ow _ _ ek]at e;exact .inl e
 size:=hm.size
 jB:=λb hb _=>hm.fq b hb
 gO:=λb ⟨k,c,x,e,q,hs,hb⟩=>by
  rcases q with⟨rfl,rfl⟩|⟨hk,q⟩
  .rw[qi]at e;grind
  .rw[ow _ _ hk]at e;exact .inl ⟨k,c,x,e,q,hs,hb⟩
 live:=λk c x e q=>by
  rcases q with⟨rfl,rfl⟩|⟨hk,q⟩
  .rw[hf]at e;cases e
  .exact⟨x,q⟩
 tape:=hm.tape
 os:=hm.os
 output:=hm.output
variable {cR:AB}
theorem fa.set (hs:fa C ψ Q w) (he:ψ h=some cb) (hq:Q h ab) (pV:ab.gO=true)
  (hk: ∀b,b≠cb.b->w'.heap[b]? =w.heap[b]?) (hh:Holds C ψ w' cb cR):fa C ψ (ye Q h cR) w':=by
 have fq: ∀k c x,ψ k=some c->ye Q h cR k x->(k=h/\c=cb/\x=cR)\/(k≠h/\ψ k=some c/\Q k x/\c.b≠cb.b):=by
  intro k c x e q;rcases q with⟨rfl,rfl⟩|⟨hk,q⟩
  .rw[he]at e;grind
  .exact .inr ⟨hk,e,q,hs.tq h cb ab k c x he hq pV e q (Ne.symm hk)⟩
 constructor
 .intro k c x e q
  rcases fq k c x e q with⟨rfl,rfl,rfl⟩|⟨_,e,q,hb⟩
  .exact hh
  .exact(hs.holds k c x e q).same (λ_ _ e=>e) (hk _ hb)
 .intro k c x k' c' x' e q pV e' q' hn
  rcases fq k c x e q with⟨rfl,rfl,rfl⟩|⟨hk,e,q,hb⟩<;>rcases fq k' c' x' e' q' with⟨rfl,rfl,rfl⟩|⟨xH,e',q',ep⟩
  .exact absurd rfl hn
  .exact ep
  .exact Ne.symm hb
  .exact hs.tq k c x k' c' x' e q pV e' q' hn
theorem Ext.set (he:ψ h=some cb) (hq:Q h ab) (pV:ab.gO=true)
  (hk: ∀b,b≠cb.b->w'.heap[b]? =w.heap[b]?) (cB:w'.heap.size=w.heap.size) (ht:w'.tape=w.tape) (ho:w'.os=w.os) (hu:tW w w'):Ext ψ Q w ψ (ye Q h cR) w' where
 mono:=λ_ _ e=>e
 sD:=λ_ _ e=> .inl e
 size:=by omega
 jB:=λb _ hn=>hk b λe=>hn ⟨h,cb,ab,he,hq,pV,e.symm⟩
 gO:=λb ⟨k,c,x,e,q,hs,hb⟩=>by
  rcases q with⟨rfl,rfl⟩|⟨_,q⟩
  .rw[he]at e;cases e;exact .inl ⟨_,_,ab,he,hq,pV,hb⟩
  .exact .inl ⟨k,c,x,e,q,hs,hb⟩
 live:=λk c x e q=>by
  rcases q with⟨rfl,rfl⟩|⟨_,q⟩
  .exact⟨ab,hq⟩
  .exact⟨x,q⟩
 tape:=ht
 os:=ho
 output:=hu
def Jc (Q:Kn) (h h':dD) (ab:AB):Kn:=λk x=>(k=h'/\x=ab)\/(k≠h'/\k≠h/\Q k x)
variable {fM:CB} {h':dD}
theorem fa.move (hs:fa C ψ Q w) (he:ψ h=some cb) (hq:Q h ab) (pV:ab.gO=true)
  (hf:ψ h'=none) (hb:fM.b=cb.b) (hk: ∀b,b≠cb.b->w'.heap[b]? =w.heap[b]?) (hh:Holds C (nW ψ h' fM) w' fM cR):fa C (nW ψ h' fM) (Jc Q h h' cR) w':=by
 have fq: ∀k c x,nW ψ h' fM k=some c->Jc Q h h' cR k x->(k=h'/\c=fM/\x=cR)\/(k≠h'/\ψ k=some c/\Q k x/\c.b≠cb.b):=by
  intro k c x e q;rcases q with⟨rfl,rfl⟩|⟨hk,iL,q⟩
  .rw[qi]at e;grind
  .rw[ow _ _ hk]at e
   exact .inr ⟨hk,e,q,hs.tq h cb ab k c x he hq pV e q (Ne.symm iL)⟩
 constructor
 .intro k c x e q
  rcases fq k c x e q with⟨rfl,rfl,rfl⟩|⟨_,e,q,hb⟩
  .exact hh
  .exact(hs.holds k c x e q).same (λ_ _ e=>vt hf _ _ e) (hk _ hb)
 .intro k c x k' c' x' e q pV e' q' hn
  rcases fq k c x e q with⟨rfl,rfl,rfl⟩|⟨hk,e,q,mU⟩<;>rcases fq k' c' x' e' q' with⟨rfl,rfl,rfl⟩|⟨xH,e',q',cV⟩
  .exact absurd rfl hn
  .rw[hb];exact cV
  .rw[hb];exact Ne.symm mU
  .exact hs.tq k c x k' c' x' e q pV e' q' hn
theorem Ext.move (he:ψ h=some cb) (hq:Q h ab) (pV:ab.gO=true) (hf:ψ h'=none)
  (hb:fM.b=cb.b) (ax:cb.b<w.heap.size) (hk: ∀b,b≠cb.b->w'.heap[b]? =w.heap[b]?) (cB:w'.heap.size=w.heap.size) (ht:w'.tape=w.tape) (ho:w'.os=w.os)
  (hu:tW w w'):Ext ψ Q w (nW ψ h' fM) (Jc Q h h' cR) w' where
 mono:=vt hf
 sD:=λk c e=>by
  by_cases ek:k=h'
  .subst ek;rw[qi]at e;cases e;exact .inr ⟨.inr ⟨h,cb,ab,he,hq,pV,hb.symm⟩,by omega⟩
  .rw[ow _ _ ek]at e;exact .inl e
 size:=by omega
 jB:=λb _ hn=>hk b λe=>hn ⟨h,cb,ab,he,hq,pV,e.symm⟩
 gO:=λb ⟨k,c,x,e,q,hs,ep⟩=>by
  rcases q with⟨rfl,rfl⟩|⟨hk,_,q⟩
  .rw[qi]at e;cases e;exact .inl ⟨h,cb,ab,he,hq,pV,by omega⟩
  .rw[ow _ _ hk]at e;exact .inl ⟨k,c,x,e,q,hs,ep⟩
 live:=λk c x e q=>by
  rcases q with⟨rfl,rfl⟩|⟨_,_,q⟩
  .rw[hf]at e;cases e
  .exact⟨x,q⟩
 tape:=ht
 os:=ho
 output:=hu
def fy (C:bB) (ψ:Ps):eH->Value->Prop
 | .u,_=>True
 | .un,x=>x=undef
 |eH.v d,x=>VR C ψ d x
 | .p9 ds,x=>∃vs,x= .tuple vs/\bE C ψ ds vs.toList
 | .loc cX _ _,x=>∃cb,ψ (.inr cX)=some cb/\cb.o=0/\x= .pointer (some ⟨cb.b,0,none⟩)
 | .pl _ cX o,x=>∃cb,ψ (.inr cX)=some cb/\cb.o=0/\x= .pointer (some ⟨cb.b,o,none⟩)
 | .it cX _ _,x=>∃cb,ψ (.inr cX)=some cb/\x= .pointer (some ⟨cb.b,0,none⟩)
theorem fy.mono {C:bB} {ψ ψ':Ps} (h: ∀k cb,ψ k=some cb->ψ' k=some cb) {e:eH} {x:Value} (r:fy C ψ e x):fy C ψ' e x:=by
 cases e with
 |u=>exact trivial
 |un=>exact r
 |v d=>exact VR.mono (λi cb e=>h _ _ e) r
 |p9 ds=>obtain⟨vs,e,r⟩:=r;exact⟨vs,e,r.mono λi cb e=>h _ _ e⟩
 |loc v n cs=>obtain⟨cb,e,r⟩:=r;exact⟨cb,h _ _ e,r⟩
 |pl a v n=>obtain⟨cb,e,r⟩:=r;exact⟨cb,h _ _ e,r⟩
 |it v n cs=>obtain⟨cb,e,r⟩:=r;exact⟨cb,h _ _ e,r⟩
def eH.cX:eH->Option Nat
 | .loc k _ _=>some k
 | .it k _ _=>some k
 |_=>none
structure jd (E:Env):Prop where
 lt: ∀t v,(E.get t).cX=some v->v<E.bO
 pl: ∀t r v o,E.get t= .pl r v o->v<E.bO
 len: ∀t v n cs,E.get t= .loc v n cs->cs.length=n
 uniq: ∀t t' v,(E.get t).cX=some v->(E.get t').cX=some v->t=t'
end Go.Gv
