/- How the machine's values, heap and registers stand for the model's. -/
import Derived.Test.YtjcghijjmhhldaaGreatDoorGvDef
import Derived.Laws.Sem
import Derived.Laws.World
import Derived.Laws.Cells
import Derived.Laws.Rows
import Derived.Deep.LoopGhost
set_option linter.all false
namespace Go.Gv
theorem uz (b o j:Nat):(⟨b,o,none⟩:Addr).add j=⟨b,o+j,none⟩:=by
 simp[Addr.add]
def ja (w:World) (b:Nat) (o:Obj):World:= { w with heap:=w.heap.setIfInBounds b o }
@[simp] theorem GQ (w : World) (b : Nat) (o : Obj) : (ja w b o).heap.size = w.heap.size := by simp [ja]
variable {d:DV} {gx vs:List Value} {i k o:Nat} {v:Value} {w w':World} {C:aY} {ds ji:af}
theorem Ea {b:Nat} (h:b<w.heap.size) (o:Obj):(ja w b o).heap[b]? =some o:=by simp[ja,h]
theorem Zrk {b:Nat} (h:k≠b) (o:Obj):(ja w b o).heap[k]? =w.heap[k]? :=by
 grind[ja]
theorem ZrL (w:World) (b:Nat) (o o':Obj):ja (ja w b o) b o'=ja w b o':=by simp[ja]
theorem AK {α:Type} {a:Array α} {x:α} (h:a[i]? =some x):i<a.size:=by
 grind
theorem Zrg {b:Nat} {c:Array Value} {ty:TypeId} {fr:Nat×Nat} (h:w.heap[b]? =some (.cells c ty fr)) (v:Value):
  w.setCell ⟨b,o,none⟩ v=ja w b (.cells (c.setIfInBounds o v) ty fr):=by
 unfold World.setCell ja;congr 1;grind
def lI:Array Value->Nat->List Value->Array Value
 |c,_,[]=>c
 |c,k,v::r=>lI (c.setIfInBounds k v) (k+1) r
@[simp] theorem Wi : ∀ (vs : List Value) (c : Array Value) (k : Nat), (lI c k vs).size = c.size
 |[],_,_=>rfl
 |v::r,c,k=>by rw[lI,Wi r];simp
theorem EF: ∀(vs:List Value) (c:Array Value) (k j:Nat),k+vs.length<=c.size->
  (lI c k vs)[j]? =if k<=j/\j<k+vs.length then vs[j-k]? else c[j]?
 |[],c,k,j,_=>by grind[lI,List.length_nil]
 |v::r,c,k,j,h=>by
  simp only[eK]at h⊢;rw[lI,EF r _ _ _ (by simp;omega)];by_cases h1:k+1<=j/\j<k+1+r.length
  .rw[bO h1,bO AC]
   grind
  grind
theorem Ja (P:Program) (b o:Nat) (ty:TypeId) (fr:Nat×Nat): ∀(vs:List Value) (i:Nat) (w:World) (c:Array Value),
  w.heap[b]? =some (.cells c ty fr)->(∀v∈vs,v.oneCell'=true)->o+i+vs.length<=c.size->
  (∀j,i<=j->j<i+vs.length->(decide (fr.1<=o+j)&&decide (o+j<fr.2))=false)->
  (storeCells ⟨b,o,none⟩ vs i).run P w= .ok () (ja w b (.cells (lI c (o+i) vs) ty fr))
 |[],i,w,c,hb,_,_,_=>by
  have:ja w b (.cells c ty fr)=w:=by
   unfold ja;cases w with
   |mk heap tape drawn os output=>
    congr 1;grind
  simp[lI,storeCells,this]
 |v::r,i,w,c,hb,h1,hs,hf=>by
  simp only[eK]at hs hf;have tr:w.cell? ⟨b,o+i,none⟩=some c[o+i]:=by rw[cell_of_row w b (o+i) c ty fr hb];simp
  have nn:w.frozen? ⟨b,o+i,none⟩=false:=by
   have:=hf i (aW _) AC;rw[World.frozen?,hb];exact this
  have bx:(store ((⟨b,o,none⟩:Addr).add i) v).run P w= .ok () (w.setCell ⟨b,o+i,none⟩ v):=by
   rw[uz,run_store P w _ v _ (h1 v Do),tr,nn];rfl
  have aw:=AK hb;rw[storeCells,Sem.run_bind,bx,Result.andThen_ok,Zrg hb,Ja P b o ty fr r (i+1) _ (c.setIfInBounds (o+i) v) (Ea aw _) Fd (by simp;omega)
   Fd,ZrL]
  rw[lI];rfl
theorem ZnN: ∀(cs ds:af),(ov cs ds).length=cs.length
 |[],ds=>by cases ds<;>rfl
 |_::cs,[]=>rfl
 |_::cs,_::ds=>by simp[ov,ZnN cs ds]
theorem ZrS: ∀(cs ds:af) (j:Nat),ds.length<=cs.length->(ov cs ds)[j]? =if j<ds.length then ds[j]? else cs[j]?
 |[],[],j,_=>by simp[ov]
 |[],_::_,j,h=>by simp at h
 |c::cs,[],j,_=>by simp[ov]
 |c::cs,d::ds,0,_=>by simp[ov]
 |c::cs,d::ds,j+1,h=>by
  simp only[eK]at h;simp only[ov,nO,eK];rw[ZrS cs ds j AC];by_cases e:j<ds.length
  .rw[bO e,bO AC]
  simp
theorem AE: ∀(cs:af) (k:Nat) (ds:af),(cT cs k ds).length=cs.length
 |cs,0,ds=>by cases cs<;>simp[cT,ZnN]
 |[],k+1,ds=>rfl
 |c::cs,k+1,ds=>by simp[cT,AE cs k ds]
theorem AZ: ∀(cs:af) (k:Nat) (ds:af) (j:Nat),k+ds.length<=cs.length->
  (cT cs k ds)[j]? =if k<=j/\j<k+ds.length then ds[j-k]? else cs[j]?
 |cs,0,ds,j,h=>by
  have:cT cs 0 ds=ov cs ds:=by cases cs<;>rfl
  rw[this,ZrS cs ds j AC];by_cases e:j<ds.length
  .rw[bO e,bO AC,Nat.sub_zero]
  simp
 |[],k+1,ds,j,h=>by simp at h
 |c::cs,k+1,ds,0,h=>by simp[cT]
 |c::cs,k+1,ds,j+1,h=>by
  simp only[eK]at h;rw[cT,nO,AZ cs k ds j AC];by_cases e:k<=j/\j<k+ds.length
  .rw[bO e,bO AC];congr 1;omega
  grind
structure CB where
 b:Nat
 o:Nat
 m:Nat
abbrev cJ:=Nat ⊕ Nat
abbrev Ps:=cJ->Option CB
mutual
inductive VR (C:aY) (ψ:Ps):DV->Value->Prop
 |bool (b:Bool):VR C ψ (.bool b) (.bool b)
 |int (k:IntKind) (n:Int):VR C ψ (.int k n) (.int k n)
 |str (s:ByteArray):VR C ψ (.str s.data.toList) (.string s)
 |CP:VR C ψ (.ptr none) (.pointer none)
 |ptr (i o:Nat) (cb:CB):ψ (.inl i)=some cb->VR C ψ (.ptr (some (i,o))) (.pointer (some ⟨cb.b,cb.o+o,none⟩))
 |nI (sz:Nat):VR C ψ (.slice sz none 0) (.slice none 0 0)
 |slice (sz i o n:Nat) (cb:CB) (a:Addr) (cap:Nat):ψ (.inl i)=some cb->n<=cap->(0<cap->a=⟨cb.b,cb.o+o,none⟩/\o+cap*sz<=cb.m)->
   VR C ψ (.slice sz (some (i,o)) n) (.slice (some a) n cap)
 |agg (ds:af) (vs:Array Value):ba C ψ ds vs.toList->ds.all one=true->VR C ψ (.agg ds) (.agg vs)
 |func (k:Nat) (fs cs:af) (vf vc:Array Value):C.cov k=true->ba C ψ fs vf.toList->ba C ψ cs vc.toList->
   VR C ψ (.func (C.fn k) fs cs) (.func (.func k) vf vc)
 |nilFunc:VR C ψ .nilFunc .nilFunc
 |iface (t:Nat) (d:DV) (v:Value):VR C ψ d v->VR C ψ (.iface (C.ty t) d) (.iface t v)
 |nilIface:VR C ψ .nilIface .nilIface
inductive ba (C:aY) (ψ:Ps):List DV->List Value->Prop
 |nil:ba C ψ [] []
 |cons (d:DV) (v:Value) (ds:af) (vs:List Value):VR C ψ d v->ba C ψ ds vs->ba C ψ (d::ds) (v::vs)
end
section
variable {C:aY} {ψ ψ':Ps}
mutual
theorem VR.mono (h: ∀i cb,ψ (.inl i)=some cb->ψ' (.inl i)=some cb): ∀ {d:DV} {v:Value},VR C ψ d v->VR C ψ' d v
 |_,_,.bool b=> .bool b
 |_,_,.int k n=> .int k n
 |_,_,.str s=> .str s
 |_,_,.CP=> .CP
 |_,_,.ptr i o cb e=> .ptr i o cb (h _ _ e)
 |_,_,.nI sz=> .nI sz
 |_,_,.slice sz i o n cb a cap e h1 h2=> .slice sz i o n cb a cap (h _ _ e) h1 h2
 |_,_,.agg ds vs r h1=> .agg ds vs (ba.mono h r) h1
 |_,_,.func k fs cs vf vc e r1 r2=> .func k fs cs vf vc e (ba.mono h r1) (ba.mono h r2)
 |_,_,.nilFunc=> .nilFunc
 |_,_,.iface t d v r=> .iface t d v (VR.mono h r)
 |_,_,.nilIface=> .nilIface
theorem ba.mono (h: ∀i cb,ψ (.inl i)=some cb->ψ' (.inl i)=some cb): ∀ {ds:af} {vs:List Value},ba C ψ ds vs->ba C ψ' ds vs
 |_,_,.nil=> .nil
 |_,_,.cons d v ds vs r rs=> .cons d v ds vs (VR.mono h r) (ba.mono h rs)
end
theorem ba.len: ∀ {ds:af} {vs:List Value},ba C ψ ds vs->ds.length=vs.length
 |_,_,.nil=>rfl
 |_,_,.cons _ _ _ _ _ rs=>by simp[ba.len rs]
theorem ba.get: ∀ {ds:af} {vs:List Value},ba C ψ ds vs->∀ {j:Nat} {d:DV},ds[j]? =some d->∃v,vs[j]? =some v/\VR C ψ d v
 |_,_,.nil,j,d,h=>by simp at h
 |_,_,.cons d0 v0 ds vs r rs,0,d,h=>by
  grind
 |_,_,.cons d0 v0 ds vs r rs,j+1,d,h=>by
  simp only[nO]at h⊢;exact ba.get rs h
theorem ba.of: ∀(ds:af) (vs:List Value),ds.length=vs.length->(∀(j:Nat) (d:DV) (v:Value),ds[j]? =some d->vs[j]? =some v->VR C ψ d v)->ba C ψ ds vs
 |[],[],_,_=> .nil
 |[],_::_,h,_=>by simp at h
 |_::_,[],h,_=>by simp at h
 |d::ds,v::vs,h,hp=> .cons d v ds vs (hp 0 d v rfl rfl) (ba.of ds vs (by simpa using h) λj d v h1 h2=>hp (j+1) d v (by simpa using h1) (by simpa using h2))
theorem ba.append (h:ba C ψ ds vs) (h':ba C ψ ji gx):ba C ψ (ds++ji) (vs++gx):=by
 have e:=h.len;have e':=h'.len;refine ba.of _ _ (by simp[e,e']) λj d v h1 h2=>?_
 by_cases hj:j<ds.length
 .rw[lj hj]at h1
  rw[lj AC]at h2;have⟨v',dB,hr⟩:=h.get h1;rw[h2]at dB;cases dB;exact hr
 .rw[iO AC]at h1
  rw[iO AC,<-e]at h2;have⟨v',dB,hr⟩:=h'.get h1;rw[h2]at dB;cases dB;exact hr
theorem ba.take {ds:af} {vs:List Value} (h:ba C ψ ds vs) (n:Nat):ba C ψ (ds.take n) (vs.take n):=by
 refine ba.of _ _ (by simp[h.len]) λj d v h1 h2=>?_
 rw[ug]at h1 h2;split at h1
 .rw[bO ‹_›]at h2
  have⟨v',dB,hr⟩:=h.get h1;rw[h2]at dB;cases dB;exact hr
 .cases h1
theorem ba.drop {ds:af} {vs:List Value} (h:ba C ψ ds vs) (n:Nat):ba C ψ (ds.drop n) (vs.drop n):=by
 refine ba.of _ _ (by simp[h.len]) λj d v h1 h2=>?_
 rw[xq]at h1 h2;have⟨v',dB,hr⟩:=h.get h1;rw[h2]at dB;cases dB;exact hr
theorem VR.Wf (h:VR C ψ d v) (h1:one d=true):v.oneCell'=true:=by
 cases h<;>first|rfl|simp[one]at h1
theorem VR.Pn (h:VR C ψ d v) (h1:one d=true):v.cells= #[v]:=by
 cases h<;>first|rfl|simp[one]at h1
theorem ba.QS (h:ba C ψ ds vs) (h1:ds.all one=true): ∀v∈vs,v.oneCell'=true:=by
 intro v hv;have⟨j,hj⟩:=xr hv;have hl:=h.len;have aw:j<vs.length:=by
  grind
 have hd:ds[j]? =some ds[j]:=Do
 have⟨v',dB,hr⟩:=h.get hd;rw[hj]at dB;cases dB;exact hr.Wf Fd
end
inductive AB where
 |cells (jS:Bool) (cs:af)
 |iter (s:aj) (pos:Nat)
def AB.fq:AB->Bool
 | .cells f _=> !f
 | .iter _ _=>true
def cu (s:St) (i:Nat):Option AB:=
 match s[i]? with
 |some (some b)=>some (.cells b.jS b.cells)
 |_=>none
abbrev Kn:=cJ->AB->Prop
def CR (E:Env) (s:St):Kn
 | .inl i,ab=>cu s i=some ab
 | .inr v,ab=>(∃t n cs,E.get t= .loc v n cs/\ab= .cells false cs)\/(∃t l p,E.get t= .it v l p/\ab= .iter l p)
def Holds (C:aY) (ψ:Ps) (w:World) (cb:CB):AB->Prop
 | .cells f cs=>cs.length<=cb.m/\cs.all one=true/\(∀j d,cs[j]? =some d->∃v,w.cell? ⟨cb.b,cb.o+j,none⟩=some v/\VR C ψ d v)/\
   (f=false->∃c ty fr,w.heap[cb.b]? =some (.cells c ty fr)/\cb.o+cb.m<=c.size/\
    ∀j,j<cb.m->(decide (fr.1<=cb.o+j)&&decide (cb.o+j<fr.2))=false)
 | .iter s p=>∃s',w.heap[cb.b]? =some (.stringIter s' p)/\s'.data.toList=s
structure dN (C:aY) (ψ:Ps) (Q:Kn) (w:World):Prop where
 holds: ∀h cb ab,ψ h=some cb->Q h ab->Holds C ψ w cb ab
 oh: ∀h cb ab h' eI ca,ψ h=some cb->Q h ab->ab.fq=true->ψ h'=some eI->Q h' ca->h≠h'->eI.b≠cb.b
def oF (ψ:Ps) (Q:Kn) (b:Nat):Prop:=∃h cb ab,ψ h=some cb/\Q h ab/\ab.fq=true/\cb.b=b
def mP (ψ:Ps) (w:World):Prop:=∀h cb,ψ h=some cb->cb.b<w.heap.size
def Glob (C:aY) (ψ:Ps):Prop:=∀g,C.uO g=true->∃cb,ψ (.inl (C.gl g))=some cb/\cb.b=g/\cb.o=0
variable {ab:AB} {cb:CB} {ψ ψ':Ps}
theorem Holds.same (hm: ∀i cb,ψ (.inl i)=some cb->ψ' (.inl i)=some cb) (e:w'.heap[cb.b]? =w.heap[cb.b]?)
  (h:Holds C ψ w cb ab):Holds C ψ' w' cb ab:=by
 have hc: ∀j,w'.cell? ⟨cb.b,j,none⟩=w.cell? ⟨cb.b,j,none⟩:=λj=>by simp only[World.cell?,e]
 cases ab with
 |cells f cs=>
  refine⟨h.1,h.2.1,λj d hd=>?_,λhf=>?_⟩
  .have⟨v,hv,hr⟩:=h.2.2.1 j d hd
   exact⟨v,by rw[hc];exact hv,hr.mono hm⟩
  .have⟨c,ty,fr,hb,h2,h3⟩:=h.2.2.2 hf
   grind
 |iter s p=>
  have⟨s',hb,hs⟩:=h;exact⟨s',by rw[e];exact hb,hs⟩
def oE (w w':World):Prop:=w'.output=w.output/\w.drawn<=w'.drawn
theorem oE.refl (w:World):oE w w:=⟨rfl,aW _⟩
theorem oE.trans {a b c:World} (h:oE a b) (k:oE b c):oE a c:=⟨k.1.trans h.1,fF h.2 k.2⟩
structure Ext (ψ:Ps) (Q:Kn) (w:World) (ψ':Ps) (Q':Kn) (w':World):Prop where
 mono: ∀h cb,ψ h=some cb->ψ' h=some cb
 nF: ∀h cb,ψ' h=some cb->ψ h=some cb\/(w.heap.size<=cb.b\/oF ψ Q cb.b)/\cb.b<w'.heap.size
 size:w.heap.size<=w'.heap.size
 gU: ∀b,b<w.heap.size->¬oF ψ Q b->w'.heap[b]? =w.heap[b]?
 fq: ∀b,oF ψ' Q' b->oF ψ Q b\/w.heap.size<=b
 live: ∀h cb x,ψ h=some cb->Q' h x->∃y,Q h y
 tape:w'.tape=w.tape
 os:w'.os=w.os
 output:oE w w'
theorem Ext.refl (ψ:Ps) (Q:Kn) (w:World):Ext ψ Q w ψ Q w:=
 ⟨λ_ _ h=>h,λ_ _ h=> .inl h,aW _,λ_ _ _=>rfl,λ_ h=> .inl h,λ_ _ x _ h=>⟨x,h⟩,rfl,rfl,.refl _⟩
theorem Ext.trans {ψ ψ' zV:Ps} {Q Q' xJ:Kn} {w w' qK:World} (h:Ext ψ Q w ψ' Q' w') (k:Ext ψ' Q' w' zV xJ qK):Ext ψ Q w zV xJ qK where
 mono:=λi cb e=>k.mono i cb (h.mono i cb e)
 nF:=λi cb e=>by
  rcases k.nF i cb e with e|⟨e,e2⟩
  .rcases h.nF i cb e with e|⟨e,e2⟩
   .exact .inl e
   .exact .inr ⟨e,lR e2 k.size⟩
  .refine .inr ⟨?_,e2⟩
   rcases e with e|e
   .exact .inl (fF h.size e)
   .rcases h.fq _ e with e|e
    .exact .inr e
    .exact .inl e
 size:=fF h.size k.size
 gU:=λb hb hn=>by
  rw[k.gU b (lR hb h.size) (λe=>by rcases h.fq b e with e|e;exact hn e;omega),h.gU b hb hn]
 fq:=λb e=>by
  rcases k.fq b e with e|e
  .exact h.fq b e
  .exact .inr (fF h.size e)
 live:=λi cb x e hx=>by
  have⟨y,hy⟩:=k.live i cb x (h.mono i cb e) hx;exact h.live i cb y e hy
 tape:=k.tape.trans h.tape
 os:=k.os.trans h.os
 output:=h.output.trans k.output
variable {Q Q':Kn}
theorem dN.weaken (h:dN C ψ Q w) (hq: ∀h ab cb,ψ h=some cb->Q' h ab->Q h ab):dN C ψ Q' w:=
 ⟨λk cb ab e q=>h.holds k cb ab e (hq k ab cb e q),λk cb ab k' eI ca e q hs e' q' hn=>h.oh k cb ab k' eI ca e (hq _ _ _ e q) hs e' (hq _ _ _ e' q') hn⟩
variable {xJ:Kn}
theorem Ext.weaken (h:Ext ψ Q w ψ' Q' w') (hq: ∀k ab cb,ψ' k=some cb->xJ k ab->Q' k ab):Ext ψ Q w ψ' xJ w':=
 { h with
  fq:=λb ⟨k,cb,ab,e,q,hs,hb⟩=>h.fq b ⟨k,cb,ab,e,hq _ _ _ e q,hs,hb⟩
  live:=λk cb x e q=>h.live k cb x e (hq _ _ _ (h.mono _ _ e) q) }
theorem Ext.eS (h:Ext ψ Q w ψ' Q' w') (hb:mP ψ w):mP ψ' w':=λk cb e=>by
 rcases h.nF k cb e with e|⟨_,e⟩
 .exact lR (hb k cb e) h.size
 .exact e
theorem Ext.iK (h:Ext ψ Q w ψ' Q' w') (hg:Glob C ψ):Glob C ψ':=λg e=>
 let ⟨cb,e1,e2⟩:=hg g e
 ⟨cb,h.mono _ _ e1,e2⟩
def kD (ψ:Ps) (h:cJ) (cb:CB):Ps:=λk=>if k=h then some cb else ψ k
def sj (Q:Kn) (h:cJ) (ab:AB):Kn:=λk x=>(k=h/\x=ab)\/(k≠h/\Q k x)
theorem lY (ψ:Ps) (h:cJ) (cb:CB):kD ψ h cb h=some cb:=by simp[kD]
variable {h:cJ}
theorem kM (ψ:Ps) {k:cJ} (cb:CB) (e:k≠h):kD ψ h cb k=ψ k:=by simp[kD,e]
theorem pI (hf:ψ h=none): ∀k c,ψ k=some c->kD ψ h cb k=some c:=by
 intro k c e;by_cases ek:k=h
 .grind
 .rw[kM _ _ ek];exact e
structure fu (w w':World):Prop where
 dV: ∀b,b<w.heap.size->w'.heap[b]? =w.heap[b]?
 size:w.heap.size<=w'.heap.size
 tape:w'.tape=w.tape
 os:w'.os=w.os
 output:oE w w'
theorem fu.refl (w:World):fu w w:=⟨λ_ _=>rfl,aW _,rfl,rfl,.refl w⟩
theorem fu.drew (w:World):fu w w.drew:=⟨λ_ _=>rfl,aW _,rfl,rfl,rfl,Nat.le_succ _⟩
theorem fu.alloc (w:World) (o:Obj):fu w (w.alloc o):=
 ⟨λb h=>heap_alloc_old w o b h,Do,rfl,rfl,rfl,aW _⟩
theorem fu.trans {w w' qK:World} (h:fu w w') (k:fu w' qK):fu w qK:=
 ⟨λb hb=>(k.dV b (lR hb h.size)).trans (h.dV b hb),fF h.size k.size,k.tape.trans h.tape,k.os.trans h.os,h.output.trans k.output⟩
theorem dN.more (h:dN C ψ Q w) (hb:mP ψ w) (hm:fu w w'):dN C ψ Q w':=
 ⟨λk cb ab e q=>(h.holds k cb ab e q).same (λ_ _ e=>e) (hm.dV _ (hb k cb e)),h.oh⟩
theorem Ext.more (hm:fu w w'):Ext ψ Q w ψ Q w':=
 ⟨λ_ _ h=>h,λ_ _ h=> .inl h,hm.size,λb hb _=>hm.dV b hb,λ_ h=> .inl h,λ_ _ x _ h=>⟨x,h⟩,hm.tape,hm.os,hm.output⟩
theorem dN.new (hs:dN C ψ Q w) (hb:mP ψ w) (hm:fu w w') (hf:ψ h=none)
  (h1:w.heap.size<=cb.b) (hh:Holds C (kD ψ h cb) w' cb ab):dN C (kD ψ h cb) (sj Q h ab) w':=by
 have mono:=pI (cb:=cb) hf;have dV: ∀k c x,kD ψ h cb k=some c->sj Q h ab k x->(k=h/\c=cb/\x=ab)\/(k≠h/\ψ k=some c/\Q k x):=by
  intro k c x e q;rcases q with⟨rfl,rfl⟩|⟨hk,q⟩
  .rw[lY]at e;grind
  .rw[kM _ _ hk]at e;grind
 constructor
 .intro k c x e q
  rcases dV k c x e q with⟨rfl,rfl,rfl⟩|⟨_,e,q⟩
  .exact hh
  .exact(hs.holds k c x e q).same (λi c e=>mono _ _ e) (hm.dV _ (hb k c e))
 .intro k c x k' c' x' e q lE e' q' hn
  rcases dV k c x e q with⟨rfl,rfl,rfl⟩|⟨hk,e,q⟩<;>rcases dV k' c' x' e' q' with⟨rfl,rfl,rfl⟩|⟨zg,e',q'⟩
  .exact absurd rfl hn
  .have:=hb k' c' (by assumption);omega
  .have:=hb k c (by assumption);omega
  .exact hs.oh k c x k' c' x' e q lE e' q' hn
theorem Ext.new (hm:fu w w') (hf:ψ h=none)
  (h1:w.heap.size<=cb.b) (h2:cb.b<w'.heap.size):Ext ψ Q w (kD ψ h cb) (sj Q h ab) w' where
 mono:=pI hf
 nF:=λk c e=>by
  by_cases ek:k=h
  .grind[lY]
  .rw[kM _ _ ek]at e;exact .inl e
 size:=hm.size
 gU:=λb hb _=>hm.dV b hb
 fq:=λb ⟨k,c,x,e,q,hs,hb⟩=>by
  rcases q with⟨rfl,rfl⟩|⟨hk,q⟩
  .rw[lY]at e;grind
  .rw[kM _ _ hk]at e;exact .inl ⟨k,c,x,e,q,hs,hb⟩
 live:=λk c x e q=>by
  rcases q with⟨rfl,rfl⟩|⟨hk,q⟩
  .rw[hf]at e;cases e
  .exact⟨x,q⟩
 tape:=hm.tape
 os:=hm.os
 output:=hm.output
variable {ca:AB}
theorem dN.set (hs:dN C ψ Q w) (he:ψ h=some cb) (hq:Q h ab) (lE:ab.fq=true)
  (hk: ∀b,b≠cb.b->w'.heap[b]? =w.heap[b]?) (hh:Holds C ψ w' cb ca):dN C ψ (sj Q h ca) w':=by
 have dV: ∀k c x,ψ k=some c->sj Q h ca k x->(k=h/\c=cb/\x=ca)\/(k≠h/\ψ k=some c/\Q k x/\c.b≠cb.b):=by
  intro k c x e q;rcases q with⟨rfl,rfl⟩|⟨hk,q⟩
  .rw[he]at e;grind
  .exact .inr ⟨hk,e,q,hs.oh h cb ab k c x he hq lE e q (Ne.symm hk)⟩
 constructor
 .intro k c x e q
  rcases dV k c x e q with⟨rfl,rfl,rfl⟩|⟨_,e,q,hb⟩
  .exact hh
  .exact(hs.holds k c x e q).same (λ_ _ e=>e) (hk _ hb)
 .intro k c x k' c' x' e q lE e' q' hn
  rcases dV k c x e q with⟨rfl,rfl,rfl⟩|⟨hk,e,q,hb⟩<;>rcases dV k' c' x' e' q' with⟨rfl,rfl,rfl⟩|⟨zg,e',q',dH⟩
  .exact absurd rfl hn
  .exact dH
  .exact Ne.symm hb
  .exact hs.oh k c x k' c' x' e q lE e' q' hn
theorem Ext.set (he:ψ h=some cb) (hq:Q h ab) (lE:ab.fq=true)
  (hk: ∀b,b≠cb.b->w'.heap[b]? =w.heap[b]?) (bS:w'.heap.size=w.heap.size) (ht:w'.tape=w.tape) (ho:w'.os=w.os) (hu:oE w w'):Ext ψ Q w ψ (sj Q h ca) w' where
 mono:=λ_ _ e=>e
 nF:=λ_ _ e=> .inl e
 size:=AC
 gU:=λb _ hn=>hk b λe=>hn ⟨h,cb,ab,he,hq,lE,e.symm⟩
 fq:=λb ⟨k,c,x,e,q,hs,hb⟩=>by
  rcases q with⟨rfl,rfl⟩|⟨_,q⟩
  .rw[he]at e;cases e;exact .inl ⟨_,_,ab,he,hq,lE,hb⟩
  .exact .inl ⟨k,c,x,e,q,hs,hb⟩
 live:=λk c x e q=>by
  rcases q with⟨rfl,rfl⟩|⟨_,q⟩
  .exact⟨ab,hq⟩
  .exact⟨x,q⟩
 tape:=ht
 os:=ho
 output:=hu
def CH (Q:Kn) (h h':cJ) (ab:AB):Kn:=λk x=>(k=h'/\x=ab)\/(k≠h'/\k≠h/\Q k x)
variable {eI:CB} {h':cJ}
theorem dN.move (hs:dN C ψ Q w) (he:ψ h=some cb) (hq:Q h ab) (lE:ab.fq=true)
  (hf:ψ h'=none) (hb:eI.b=cb.b) (hk: ∀b,b≠cb.b->w'.heap[b]? =w.heap[b]?) (hh:Holds C (kD ψ h' eI) w' eI ca):dN C (kD ψ h' eI) (CH Q h h' ca) w':=by
 have dV: ∀k c x,kD ψ h' eI k=some c->CH Q h h' ca k x->(k=h'/\c=eI/\x=ca)\/(k≠h'/\ψ k=some c/\Q k x/\c.b≠cb.b):=by
  intro k c x e q;rcases q with⟨rfl,rfl⟩|⟨hk,fQ,q⟩
  .rw[lY]at e;grind
  .rw[kM _ _ hk]at e
   exact .inr ⟨hk,e,q,hs.oh h cb ab k c x he hq lE e q (Ne.symm fQ)⟩
 constructor
 .intro k c x e q
  rcases dV k c x e q with⟨rfl,rfl,rfl⟩|⟨_,e,q,hb⟩
  .exact hh
  .exact(hs.holds k c x e q).same (λ_ _ e=>pI hf _ _ e) (hk _ hb)
 .intro k c x k' c' x' e q lE e' q' hn
  rcases dV k c x e q with⟨rfl,rfl,rfl⟩|⟨hk,e,q,hZ⟩<;>rcases dV k' c' x' e' q' with⟨rfl,rfl,rfl⟩|⟨zg,e',q',fV⟩
  .exact absurd rfl hn
  .rw[hb];exact fV
  .rw[hb];exact Ne.symm hZ
  .exact hs.oh k c x k' c' x' e q lE e' q' hn
theorem Ext.move (he:ψ h=some cb) (hq:Q h ab) (lE:ab.fq=true) (hf:ψ h'=none)
  (hb:eI.b=cb.b) (aw:cb.b<w.heap.size) (hk: ∀b,b≠cb.b->w'.heap[b]? =w.heap[b]?) (bS:w'.heap.size=w.heap.size) (ht:w'.tape=w.tape) (ho:w'.os=w.os)
  (hu:oE w w'):Ext ψ Q w (kD ψ h' eI) (CH Q h h' ca) w' where
 mono:=pI hf
 nF:=λk c e=>by
  by_cases ek:k=h'
  .subst ek;rw[lY]at e;cases e;exact .inr ⟨.inr ⟨h,cb,ab,he,hq,lE,hb.symm⟩,AC⟩
  .rw[kM _ _ ek]at e;exact .inl e
 size:=AC
 gU:=λb _ hn=>hk b λe=>hn ⟨h,cb,ab,he,hq,lE,e.symm⟩
 fq:=λb ⟨k,c,x,e,q,hs,dH⟩=>by
  rcases q with⟨rfl,rfl⟩|⟨hk,_,q⟩
  .rw[lY]at e;cases e;exact .inl ⟨h,cb,ab,he,hq,lE,AC⟩
  .rw[kM _ _ hk]at e;exact .inl ⟨k,c,x,e,q,hs,dH⟩
 live:=λk c x e q=>by
  rcases q with⟨rfl,rfl⟩|⟨_,_,q⟩
  .rw[hf]at e;cases e
  .exact⟨x,q⟩
 tape:=ht
 os:=ho
 output:=hu
def eV (C:aY) (ψ:Ps):dz->Value->Prop
 | .u,_=>True
 | .un,x=>x=undef
 |dz.v d,x=>VR C ψ d x
 | .lL ds,x=>∃vs,x= .tuple vs/\ba C ψ ds vs.toList
 | .loc cd _ _,x=>∃cb,ψ (.inr cd)=some cb/\cb.o=0/\x= .pointer (some ⟨cb.b,0,none⟩)
 | .pl _ cd o,x=>∃cb,ψ (.inr cd)=some cb/\cb.o=0/\x= .pointer (some ⟨cb.b,o,none⟩)
 | .it cd _ _,x=>∃cb,ψ (.inr cd)=some cb/\x= .pointer (some ⟨cb.b,0,none⟩)
theorem eV.mono {C:aY} {ψ ψ':Ps} (h: ∀k cb,ψ k=some cb->ψ' k=some cb) {e:dz} {x:Value} (r:eV C ψ e x):eV C ψ' e x:=by
 cases e with
 |u=>exact trivial
 |un=>exact r
 |v d=>exact VR.mono (λi cb e=>h _ _ e) r
 |lL ds=>have⟨vs,e,r⟩:=r;exact⟨vs,e,r.mono λi cb e=>h _ _ e⟩
 |loc v n cs=>have⟨cb,e,r⟩:=r;exact⟨cb,h _ _ e,r⟩
 |pl a v n=>have⟨cb,e,r⟩:=r;exact⟨cb,h _ _ e,r⟩
 |it v n cs=>have⟨cb,e,r⟩:=r;exact⟨cb,h _ _ e,r⟩
def dz.cd:dz->Option Nat
 | .loc k _ _=>some k
 | .it k _ _=>some k
 |_=>none
structure gG (E:Env):Prop where
 lt: ∀t v,(E.get t).cd=some v->v<E.bq
 pl: ∀t r v o,E.get t= .pl r v o->v<E.bq
 len: ∀t v n cs,E.get t= .loc v n cs->cs.length=n
 uniq: ∀t t' v,(E.get t).cd=some v->(E.get t').cd=some v->t=t'
end Go.Gv
