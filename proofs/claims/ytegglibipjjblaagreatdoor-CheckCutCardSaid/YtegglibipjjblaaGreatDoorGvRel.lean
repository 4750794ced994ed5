/- How the machine's values, heap and registers stand for the model's. -/
import Derived.Test.YtegglibipjjblaaGreatDoorGvDef
import Derived.Laws.Sem
import Derived.Laws.World
import Derived.Laws.Cells
import Derived.Laws.Rows
import Derived.Deep.LoopGhost
namespace Go.Gv
theorem ZdM (b o j:Nat):(⟨b,o,none⟩:Addr).add j=⟨b,o+j,none⟩:=by
 unfold Addr.add;split
 ·rename_i h;subst h;rfl
 ·rfl
def setB (w:World) (b:Nat) (o:Obj):World:= { w with heap:=w.heap.setIfInBounds b o }
@[simp] theorem setB_size (w : World) (b : Nat) (o : Obj) : (setB w b o).heap.size = w.heap.size := by simp [setB]
theorem ZiR {w:World} {b:Nat} (h:b<w.heap.size) (o:Obj):(setB w b o).heap[b]? =some o:=by simp[setB,h]
theorem Zwm {w:World} {b k:Nat} (h:k≠b) (o:Obj):(setB w b o).heap[k]? =w.heap[k]? :=by
 simp only[setB];rw[Array.getElem?_setIfInBounds_ne (Ne.symm h)]
theorem ZxN (w:World) (b:Nat) (o o':Obj):setB (setB w b o) b o'=setB w b o':=by simp[setB]
theorem ZbK {α:Type} {a:Array α} {i:Nat} {x:α} (h:a[i]? =some x):i<a.size:=by
 rcases Nat.lt_or_ge i a.size with h'|h'
 ·exact h'
 ·rw[Array.getElem?_eq_none h']at h;cases h
theorem Zwg {w:World} {b o:Nat} {c:Array Value} {ty:TypeId} {fr:Nat×Nat} (h:w.heap[b]? =some (.cells c ty fr)) (v:Value):
  w.setCell ⟨b,o,none⟩ v=setB w b (.cells (c.setIfInBounds o v) ty fr):=by
 have hb:=ZbK h;unfold World.setCell setB;congr 1;apply Array.ext_getElem?;intro i;simp only[Array.getElem?_modify,Array.getElem?_setIfInBounds];by_cases e:b=i
 ·subst e
  have hx:w.heap[b]= .cells c ty fr:=by
   rw[Array.getElem?_eq_getElem hb]at h;exact Option.some.inj h
  simp[hb,hx]
 ·simp[e]
def ovA:Array Value→Nat→List Value→Array Value
 |c,_,[]=>c
 |c,k,v::r=>ovA (c.setIfInBounds k v) (k+1) r
@[simp] theorem ovA_size : ∀ (vs : List Value) (c : Array Value) (k : Nat), (ovA c k vs).size = c.size
 |[],_,_=>rfl
 |v::r,c,k=>by rw[ovA,ovA_size r];simp
theorem Zmy: ∀(vs:List Value) (c:Array Value) (k j:Nat),k+vs.length≤c.size→
  (ovA c k vs)[j]? =if k≤j∧j<k+vs.length then vs[j-k]? else c[j]?
 |[],c,k,j,_=>by simp only[ovA,List.length_nil];rw[if_neg (by omega)]
 |v::r,c,k,j,h=>by
  simp only[List.length_cons]at h⊢;rw[ovA,Zmy r _ _ _ (by simp;omega)];by_cases h1:k+1≤j∧j<k+1+r.length
  ·rw[if_pos h1,if_pos (by omega)]
   obtain⟨d,hd⟩: ∃d,j-k=d+1:=⟨j-k-1,by omega⟩;rw[hd,List.getElem?_cons_succ];congr 1;omega
  ·rw[if_neg h1]
   by_cases h2:j=k
   ·subst h2
    rw[if_pos (by omega),Nat.sub_self,Array.getElem?_setIfInBounds_self_of_lt (by omega)];rfl
   ·rw[if_neg (by omega),Array.getElem?_setIfInBounds_ne (by omega)]
theorem ZfW (P:Program) (b o:Nat) (ty:TypeId) (fr:Nat×Nat): ∀(vs:List Value) (i:Nat) (w:World) (c:Array Value),
  w.heap[b]? =some (.cells c ty fr)→(∀v∈vs,v.oneCell'=true)→o+i+vs.length≤c.size→
  (∀j,i≤j→j<i+vs.length→(decide (fr.1≤o+j)&&decide (o+j<fr.2))=false)→
  (storeCells ⟨b,o,none⟩ vs i).run P w= .ok () (setB w b (.cells (ovA c (o+i) vs) ty fr))
 |[],i,w,c,hb,_,_,_=>by
  have:setB w b (.cells c ty fr)=w:=by
   unfold setB;cases w with
   |mk heap tape drawn os output=>
    congr 1;apply Array.ext_getElem?;intro k;have hlt:=ZbK hb;rw[Array.getElem?_setIfInBounds];by_cases e:b=k
    ·subst e;simp only[if_true];rw[if_pos hlt];exact hb.symm
    ·simp[e]
  simp only[ovA,storeCells,this];rfl
 |v::r,i,w,c,hb,h1,hs,hf=>by
  simp only[List.length_cons]at hs hf;have hcell:w.cell? ⟨b,o+i,none⟩=some c[o+i]:=by rw[cell_of_row w b (o+i) c ty fr hb];exact Array.getElem?_eq_getElem (by omega)
  have hfr:w.frozen? ⟨b,o+i,none⟩=false:=by
   have:=hf i (Nat.le_refl _) (by omega);simp only[World.frozen?,hb];exact this
  have hst:(store ((⟨b,o,none⟩:Addr).add i) v).run P w= .ok () (w.setCell ⟨b,o+i,none⟩ v):=by
   rw[ZdM,run_store P w _ v _ (h1 v (by simp)),hcell];simp only[hfr];rfl
  have hlt:=ZbK hb;simp only[storeCells,Sem.run_bind,hst,Result.andThen_ok];rw[Zwg hb,ZfW P b o ty fr r (i+1) _ (c.setIfInBounds (o+i) v) (ZiR hlt _) (fun x hx=>h1 x (by simp[hx])) (by simp;omega)
   (fun j hj hj'=>hf j (by omega) (by omega)),ZxN]
  simp only[ovA];rfl
theorem Zq2: ∀(cs ds:List DV),(ov cs ds).length=cs.length
 |[],ds=>by cases ds<;>rfl
 |_::cs,[]=>rfl
 |_::cs,_::ds=>by simp[ov,Zq2 cs ds]
theorem Zxo: ∀(cs ds:List DV) (j:Nat),ds.length≤cs.length→(ov cs ds)[j]? =if j<ds.length then ds[j]? else cs[j]?
 |[],[],j,_=>by simp[ov]
 |[],_::_,j,h=>by simp at h
 |c::cs,[],j,_=>by simp[ov]
 |c::cs,d::ds,0,_=>by simp[ov]
 |c::cs,d::ds,j+1,h=>by
  simp only[List.length_cons]at h;simp only[ov,List.getElem?_cons_succ,List.length_cons];rw[Zxo cs ds j (by omega)];by_cases e:j<ds.length
  ·rw[if_pos e,if_pos (by omega)]
  ·rw[if_neg e,if_neg (by omega)]
theorem Zfv: ∀(cs:List DV) (k:Nat) (ds:List DV),(spl cs k ds).length=cs.length
 |cs,0,ds=>by cases cs<;>simp[spl,Zq2]
 |[],k+1,ds=>rfl
 |c::cs,k+1,ds=>by simp[spl,Zfv cs k ds]
theorem ZjZ: ∀(cs:List DV) (k:Nat) (ds:List DV) (j:Nat),k+ds.length≤cs.length→
  (spl cs k ds)[j]? =if k≤j∧j<k+ds.length then ds[j-k]? else cs[j]?
 |cs,0,ds,j,h=>by
  have:spl cs 0 ds=ov cs ds:=by cases cs<;>rfl
  rw[this,Zxo cs ds j (by omega)];by_cases e:j<ds.length
  ·rw[if_pos e,if_pos (by omega),Nat.sub_zero]
  ·rw[if_neg e,if_neg (by omega)]
 |[],k+1,ds,j,h=>by simp at h
 |c::cs,k+1,ds,0,h=>by simp[spl]
 |c::cs,k+1,ds,j+1,h=>by
  simp only[List.length_cons]at h;simp only[spl,List.getElem?_cons_succ];rw[ZjZ cs k ds j (by omega)];by_cases e:k≤j∧j<k+ds.length
  ·rw[if_pos e,if_pos (by omega)];congr 1;omega
  ·rw[if_neg e,if_neg (by omega)]
structure CB where
 b:Nat
 o:Nat
 m:Nat
abbrev HId:=Nat ⊕ Nat
abbrev Ps:=HId→Option CB
mutual
inductive VR (C:Cfg) (ψ:Ps):DV→Value→Prop
 |bool (b:Bool):VR C ψ (.bool b) (.bool b)
 |int (k:IntKind) (n:Int):VR C ψ (.int k n) (.int k n)
 |str (s:ByteArray):VR C ψ (.str s.data.toList) (.string s)
 |ptrN:VR C ψ (.ptr none) (.pointer none)
 |ptr (i o:Nat) (cb:CB):ψ (.inl i)=some cb→VR C ψ (.ptr (some (i,o))) (.pointer (some ⟨cb.b,cb.o+o,none⟩))
 |sliceN (sz:Nat):VR C ψ (.slice sz none 0) (.slice none 0 0)
 |slice (sz i o n:Nat) (cb:CB) (a:Addr) (cap:Nat):ψ (.inl i)=some cb→n≤cap→(0<cap→a=⟨cb.b,cb.o+o,none⟩∧o+cap*sz≤cb.m)→
   VR C ψ (.slice sz (some (i,o)) n) (.slice (some a) n cap)
 |agg (ds:List DV) (vs:Array Value):VRs C ψ ds vs.toList→ds.all one=true→VR C ψ (.agg ds) (.agg vs)
 |func (k:Nat) (fs cs:List DV) (vf vc:Array Value):C.cov k=true→VRs C ψ fs vf.toList→VRs C ψ cs vc.toList→
   VR C ψ (.func (C.fn k) fs cs) (.func (.func k) vf vc)
 |nilFunc:VR C ψ .nilFunc .nilFunc
 |iface (t:Nat) (d:DV) (v:Value):VR C ψ d v→VR C ψ (.iface (C.ty t) d) (.iface t v)
 |nilIface:VR C ψ .nilIface .nilIface
inductive VRs (C:Cfg) (ψ:Ps):List DV→List Value→Prop
 |nil:VRs C ψ [] []
 |cons (d:DV) (v:Value) (ds:List DV) (vs:List Value):VR C ψ d v→VRs C ψ ds vs→VRs C ψ (d::ds) (v::vs)
end
section
variable {C:Cfg} {ψ ψ':Ps}
mutual
theorem VR.mono (h: ∀i cb,ψ (.inl i)=some cb→ψ' (.inl i)=some cb): ∀ {d:DV} {v:Value},VR C ψ d v→VR C ψ' d v
 |_,_,.bool b=> .bool b
 |_,_,.int k n=> .int k n
 |_,_,.str s=> .str s
 |_,_,.ptrN=> .ptrN
 |_,_,.ptr i o cb e=> .ptr i o cb (h _ _ e)
 |_,_,.sliceN sz=> .sliceN sz
 |_,_,.slice sz i o n cb a cap e h1 h2=> .slice sz i o n cb a cap (h _ _ e) h1 h2
 |_,_,.agg ds vs r h1=> .agg ds vs (VRs.mono h r) h1
 |_,_,.func k fs cs vf vc e r1 r2=> .func k fs cs vf vc e (VRs.mono h r1) (VRs.mono h r2)
 |_,_,.nilFunc=> .nilFunc
 |_,_,.iface t d v r=> .iface t d v (VR.mono h r)
 |_,_,.nilIface=> .nilIface
theorem VRs.mono (h: ∀i cb,ψ (.inl i)=some cb→ψ' (.inl i)=some cb): ∀ {ds:List DV} {vs:List Value},VRs C ψ ds vs→VRs C ψ' ds vs
 |_,_,.nil=> .nil
 |_,_,.cons d v ds vs r rs=> .cons d v ds vs (VR.mono h r) (VRs.mono h rs)
end
theorem VRs.len: ∀ {ds:List DV} {vs:List Value},VRs C ψ ds vs→ds.length=vs.length
 |_,_,.nil=>rfl
 |_,_,.cons _ _ _ _ _ rs=>by simp[VRs.len rs]
theorem VRs.get: ∀ {ds:List DV} {vs:List Value},VRs C ψ ds vs→∀ {j:Nat} {d:DV},ds[j]? =some d→∃v,vs[j]? =some v∧VR C ψ d v
 |_,_,.nil,j,d,h=>by simp at h
 |_,_,.cons d0 v0 ds vs r rs,0,d,h=>by
  simp only[List.getElem?_cons_zero,Option.some.injEq]at h;subst h;exact⟨v0,rfl,r⟩
 |_,_,.cons d0 v0 ds vs r rs,j+1,d,h=>by
  simp only[List.getElem?_cons_succ]at h⊢;exact VRs.get rs h
theorem VRs.of: ∀(ds:List DV) (vs:List Value),ds.length=vs.length→(∀(j:Nat) (d:DV) (v:Value),ds[j]? =some d→vs[j]? =some v→VR C ψ d v)→VRs C ψ ds vs
 |[],[],_,_=> .nil
 |[],_::_,h,_=>by simp at h
 |_::_,[],h,_=>by simp at h
 |d::ds,v::vs,h,hp=> .cons d v ds vs (hp 0 d v rfl rfl) (VRs.of ds vs (by simpa using h) fun j d v h1 h2=>hp (j+1) d v (by simpa using h1) (by simpa using h2))
theorem VRs.append {ds ds':List DV} {vs vs':List Value} (h:VRs C ψ ds vs) (h':VRs C ψ ds' vs'):VRs C ψ (ds++ds') (vs++vs'):=by
 have e:=h.len;have e':=h'.len;refine VRs.of _ _ (by simp[e,e']) fun j d v h1 h2=>?_
 by_cases hj:j<ds.length
 ·rw[List.getElem?_append_left hj]at h1
  rw[List.getElem?_append_left (by omega)]at h2;obtain⟨v',hv',hr⟩:=h.get h1;rw[h2]at hv';cases hv';exact hr
 ·rw[List.getElem?_append_right (by omega)]at h1
  rw[List.getElem?_append_right (by omega)]at h2;rw[←e]at h2;obtain⟨v',hv',hr⟩:=h'.get h1;rw[h2]at hv';cases hv';exact hr
theorem VRs.take {ds:List DV} {vs:List Value} (h:VRs C ψ ds vs) (n:Nat):VRs C ψ (ds.take n) (vs.take n):=by
 refine VRs.of _ _ (by simp[h.len]) fun j d v h1 h2=>?_
 rw[List.getElem?_take]at h1 h2;split at h1
 ·rw[if_pos ‹_›]at h2
  obtain⟨v',hv',hr⟩:=h.get h1;rw[h2]at hv';cases hv';exact hr
 ·cases h1
theorem VRs.drop {ds:List DV} {vs:List Value} (h:VRs C ψ ds vs) (n:Nat):VRs C ψ (ds.drop n) (vs.drop n):=by
 refine VRs.of _ _ (by simp[h.len]) fun j d v h1 h2=>?_
 rw[List.getElem?_drop]at h1 h2;obtain⟨v',hv',hr⟩:=h.get h1;rw[h2]at hv';cases hv';exact hr
theorem VR.oneCell {d:DV} {v:Value} (h:VR C ψ d v) (h1:one d=true):v.oneCell'=true:=by
 cases h<;>first|rfl|simp[one]at h1
theorem VR.cells1 {d:DV} {v:Value} (h:VR C ψ d v) (h1:one d=true):v.cells= #[v]:=by
 cases h<;>first|rfl|simp[one]at h1
theorem VRs.oneCells {ds:List DV} {vs:List Value} (h:VRs C ψ ds vs) (h1:ds.all one=true): ∀v∈vs,v.oneCell'=true:=by
 intro v hv;obtain⟨j,hj⟩:=List.getElem?_of_mem hv;have hl:=h.len;have hlt:j<vs.length:=by
  rcases Nat.lt_or_ge j vs.length with h'|h'
  ·exact h'
  ·rw[List.getElem?_eq_none h']at hj;cases hj
 have hd:ds[j]? =some ds[j]:=List.getElem?_eq_getElem (by omega);obtain⟨v',hv',hr⟩:=h.get hd;rw[hj]at hv';cases hv';exact hr.oneCell (List.all_eq_true.1 h1 _ (List.getElem_mem _))
end
inductive AB where
 |cells (frz:Bool) (cs:List DV)
 |iter (s:List UInt8) (pos:Nat)
def AB.sole:AB→Bool
 | .cells f _=> !f
 | .iter _ _=>true
def stAB (s:St) (i:Nat):Option AB:=
 match s[i]? with
 |some (some b)=>some (.cells b.frz b.cells)
 |_=>none
abbrev Kn:=HId→AB→Prop
def CR (E:Env) (s:St):Kn
 | .inl i,ab=>stAB s i=some ab
 | .inr v,ab=>(∃t n cs,E.get t= .loc v n cs∧ab= .cells false cs)∨(∃t l p,E.get t= .it v l p∧ab= .iter l p)
def Holds (C:Cfg) (ψ:Ps) (w:World) (cb:CB):AB→Prop
 | .cells f cs=>cs.length≤cb.m∧cs.all one=true∧(∀j d,cs[j]? =some d→∃v,w.cell? ⟨cb.b,cb.o+j,none⟩=some v∧VR C ψ d v)∧
   (f=false→∃c ty fr,w.heap[cb.b]? =some (.cells c ty fr)∧cb.o+cb.m≤c.size∧
    ∀j,j<cb.m→(decide (fr.1≤cb.o+j)&&decide (cb.o+j<fr.2))=false)
 | .iter s p=>∃s',w.heap[cb.b]? =some (.stringIter s' p)∧s'.data.toList=s
structure Sim (C:Cfg) (ψ:Ps) (Q:Kn) (w:World):Prop where
 holds: ∀h cb ab,ψ h=some cb→Q h ab→Holds C ψ w cb ab
 excl: ∀h cb ab h' cb' ab',ψ h=some cb→Q h ab→ab.sole=true→ψ h'=some cb'→Q h' ab'→h≠h'→cb'.b≠cb.b
def Sole (ψ:Ps) (Q:Kn) (b:Nat):Prop:=∃h cb ab,ψ h=some cb∧Q h ab∧ab.sole=true∧cb.b=b
def Blks (ψ:Ps) (w:World):Prop:=∀h cb,ψ h=some cb→cb.b<w.heap.size
def Glob (C:Cfg) (ψ:Ps):Prop:=∀g,C.glc g=true→∃cb,ψ (.inl (C.gl g))=some cb∧cb.b=g∧cb.o=0
theorem Holds.same {C:Cfg} {ψ ψ':Ps} {w w':World} {cb:CB} {ab:AB} (hm: ∀i cb,ψ (.inl i)=some cb→ψ' (.inl i)=some cb) (e:w'.heap[cb.b]? =w.heap[cb.b]?)
  (h:Holds C ψ w cb ab):Holds C ψ' w' cb ab:=by
 have hc: ∀j,w'.cell? ⟨cb.b,j,none⟩=w.cell? ⟨cb.b,j,none⟩:=fun j=>by simp only[World.cell?,e]
 cases ab with
 |cells f cs=>
  refine⟨h.1,h.2.1,fun j d hd=>?_,fun hf=>?_⟩
  ·obtain⟨v,hv,hr⟩:=h.2.2.1 j d hd
   exact⟨v,by rw[hc];exact hv,hr.mono hm⟩
  ·obtain⟨c,ty,fr,hb,h2,h3⟩:=h.2.2.2 hf
   exact⟨c,ty,fr,by rw[e];exact hb,h2,h3⟩
 |iter s p=>
  obtain⟨s',hb,hs⟩:=h;exact⟨s',by rw[e];exact hb,hs⟩
def OutD (w w':World):Prop:=w'.output=w.output∧w.drawn≤w'.drawn
theorem OutD.refl (w:World):OutD w w:=⟨rfl,Nat.le_refl _⟩
theorem OutD.trans {a b c:World} (h:OutD a b) (k:OutD b c):OutD a c:=⟨k.1.trans h.1,Nat.le_trans h.2 k.2⟩
structure Ext (ψ:Ps) (Q:Kn) (w:World) (ψ':Ps) (Q':Kn) (w':World):Prop where
 mono: ∀h cb,ψ h=some cb→ψ' h=some cb
 rng: ∀h cb,ψ' h=some cb→ψ h=some cb∨(w.heap.size≤cb.b∨Sole ψ Q cb.b)∧cb.b<w'.heap.size
 size:w.heap.size≤w'.heap.size
 keep: ∀b,b<w.heap.size→¬Sole ψ Q b→w'.heap[b]? =w.heap[b]?
 sole: ∀b,Sole ψ' Q' b→Sole ψ Q b∨w.heap.size≤b
 live: ∀h cb x,ψ h=some cb→Q' h x→∃y,Q h y
 tape:w'.tape=w.tape
 os:w'.os=w.os
 output:OutD w w'
theorem Ext.refl (ψ:Ps) (Q:Kn) (w:World):Ext ψ Q w ψ Q w:=
 ⟨fun _ _ h=>h,fun _ _ h=> .inl h,Nat.le_refl _,fun _ _ _=>rfl,fun _ h=> .inl h,fun _ _ x _ h=>⟨x,h⟩,rfl,rfl,.refl _⟩
theorem Ext.trans {ψ ψ' ψ'':Ps} {Q Q' Q'':Kn} {w w' w'':World} (h:Ext ψ Q w ψ' Q' w') (k:Ext ψ' Q' w' ψ'' Q'' w''):Ext ψ Q w ψ'' Q'' w'' where
 mono:=fun i cb e=>k.mono i cb (h.mono i cb e)
 rng:=fun i cb e=>by
  rcases k.rng i cb e with e|⟨e,e2⟩
  ·rcases h.rng i cb e with e|⟨e,e2⟩
   ·exact .inl e
   ·exact .inr ⟨e,Nat.lt_of_lt_of_le e2 k.size⟩
  ·refine .inr ⟨?_,e2⟩
   rcases e with e|e
   ·exact .inl (Nat.le_trans h.size e)
   ·rcases h.sole _ e with e|e
    ·exact .inr e
    ·exact .inl e
 size:=Nat.le_trans h.size k.size
 keep:=fun b hb hn=>by
  rw[k.keep b (Nat.lt_of_lt_of_le hb h.size) (fun e=>by rcases h.sole b e with e|e;exact hn e;omega),h.keep b hb hn]
 sole:=fun b e=>by
  rcases k.sole b e with e|e
  ·exact h.sole b e
  ·exact .inr (Nat.le_trans h.size e)
 live:=fun i cb x e hx=>by
  obtain⟨y,hy⟩:=k.live i cb x (h.mono i cb e) hx;exact h.live i cb y e hy
 tape:=k.tape.trans h.tape
 os:=k.os.trans h.os
 output:=h.output.trans k.output
theorem Sim.weaken {C:Cfg} {ψ:Ps} {Q Q':Kn} {w:World} (h:Sim C ψ Q w) (hq: ∀h ab cb,ψ h=some cb→Q' h ab→Q h ab):Sim C ψ Q' w:=
 ⟨fun k cb ab e q=>h.holds k cb ab e (hq k ab cb e q),fun k cb ab k' cb' ab' e q hs e' q' hn=>h.excl k cb ab k' cb' ab' e (hq _ _ _ e q) hs e' (hq _ _ _ e' q') hn⟩
theorem Ext.weaken {ψ ψ':Ps} {Q Q' Q'':Kn} {w w':World} (h:Ext ψ Q w ψ' Q' w') (hq: ∀k ab cb,ψ' k=some cb→Q'' k ab→Q' k ab):Ext ψ Q w ψ' Q'' w':=
 { h with
  sole:=fun b ⟨k,cb,ab,e,q,hs,hb⟩=>h.sole b ⟨k,cb,ab,e,hq _ _ _ e q,hs,hb⟩
  live:=fun k cb x e q=>h.live k cb x e (hq _ _ _ (h.mono _ _ e) q) }
theorem Ext.blks {ψ ψ':Ps} {Q Q':Kn} {w w':World} (h:Ext ψ Q w ψ' Q' w') (hb:Blks ψ w):Blks ψ' w':=fun k cb e=>by
 rcases h.rng k cb e with e|⟨_,e⟩
 ·exact Nat.lt_of_lt_of_le (hb k cb e) h.size
 ·exact e
theorem Ext.glob {C:Cfg} {ψ ψ':Ps} {Q Q':Kn} {w w':World} (h:Ext ψ Q w ψ' Q' w') (hg:Glob C ψ):Glob C ψ':=fun g e=>
 let ⟨cb,e1,e2⟩:=hg g e
 ⟨cb,h.mono _ _ e1,e2⟩
def upP (ψ:Ps) (h:HId) (cb:CB):Ps:=fun k=>if k=h then some cb else ψ k
def upQ (Q:Kn) (h:HId) (ab:AB):Kn:=fun k x=>(k=h∧x=ab)∨(k≠h∧Q k x)
theorem Zbg (ψ:Ps) (h:HId) (cb:CB):upP ψ h cb h=some cb:=by simp[upP]
theorem ZbJ (ψ:Ps) {h k:HId} (cb:CB) (e:k≠h):upP ψ h cb k=ψ k:=by simp[upP,e]
theorem Zb8 {ψ:Ps} {h:HId} {cb:CB} (hf:ψ h=none): ∀k c,ψ k=some c→upP ψ h cb k=some c:=by
 intro k c e;by_cases ek:k=h
 ·subst ek;rw[hf]at e;cases e
 ·rw[ZbJ _ _ ek];exact e
structure More (w w':World):Prop where
 old: ∀b,b<w.heap.size→w'.heap[b]? =w.heap[b]?
 size:w.heap.size≤w'.heap.size
 tape:w'.tape=w.tape
 os:w'.os=w.os
 output:OutD w w'
theorem More.refl (w:World):More w w:=⟨fun _ _=>rfl,Nat.le_refl _,rfl,rfl,.refl w⟩
theorem More.drew (w:World):More w w.drew:=⟨fun _ _=>rfl,Nat.le_refl _,rfl,rfl,rfl,Nat.le_succ _⟩
theorem More.alloc (w:World) (o:Obj):More w (w.alloc o):=
 ⟨fun b h=>heap_alloc_old w o b h,by simp,rfl,rfl,rfl,Nat.le_refl _⟩
theorem More.trans {w w' w'':World} (h:More w w') (k:More w' w''):More w w'':=
 ⟨fun b hb=>(k.old b (Nat.lt_of_lt_of_le hb h.size)).trans (h.old b hb),Nat.le_trans h.size k.size,k.tape.trans h.tape,k.os.trans h.os,h.output.trans k.output⟩
theorem Sim.more {C:Cfg} {ψ:Ps} {Q:Kn} {w w':World} (h:Sim C ψ Q w) (hb:Blks ψ w) (hm:More w w'):Sim C ψ Q w':=
 ⟨fun k cb ab e q=>(h.holds k cb ab e q).same (fun _ _ e=>e) (hm.old _ (hb k cb e)),h.excl⟩
theorem Ext.more {ψ:Ps} {Q:Kn} {w w':World} (hm:More w w'):Ext ψ Q w ψ Q w':=
 ⟨fun _ _ h=>h,fun _ _ h=> .inl h,hm.size,fun b hb _=>hm.old b hb,fun _ h=> .inl h,fun _ _ x _ h=>⟨x,h⟩,hm.tape,hm.os,hm.output⟩
theorem Sim.new {C:Cfg} {ψ:Ps} {Q:Kn} {w w':World} {h:HId} {cb:CB} {ab:AB} (hs:Sim C ψ Q w) (hb:Blks ψ w) (hm:More w w') (hf:ψ h=none)
  (h1:w.heap.size≤cb.b) (hh:Holds C (upP ψ h cb) w' cb ab):Sim C (upP ψ h cb) (upQ Q h ab) w':=by
 have mono:=Zb8 (cb:=cb) hf;have old: ∀k c x,upP ψ h cb k=some c→upQ Q h ab k x→(k=h∧c=cb∧x=ab)∨(k≠h∧ψ k=some c∧Q k x):=by
  intro k c x e q;rcases q with⟨rfl,rfl⟩|⟨hk,q⟩
  ·rw[Zbg]at e;cases e;exact .inl ⟨rfl,rfl,rfl⟩
  ·rw[ZbJ _ _ hk]at e;exact .inr ⟨hk,e,q⟩
 constructor
 ·intro k c x e q
  rcases old k c x e q with⟨rfl,rfl,rfl⟩|⟨_,e,q⟩
  ·exact hh
  ·exact(hs.holds k c x e q).same (fun i c e=>mono _ _ e) (hm.old _ (hb k c e))
 ·intro k c x k' c' x' e q hsole e' q' hn
  rcases old k c x e q with⟨rfl,rfl,rfl⟩|⟨hk,e,q⟩<;>rcases old k' c' x' e' q' with⟨rfl,rfl,rfl⟩|⟨hk',e',q'⟩
  ·exact absurd rfl hn
  ·have:=hb k' c' (by assumption);omega
  ·have:=hb k c (by assumption);omega
  ·exact hs.excl k c x k' c' x' e q hsole e' q' hn
theorem Ext.new {ψ:Ps} {Q:Kn} {w w':World} {h:HId} {cb:CB} {ab:AB} (hm:More w w') (hf:ψ h=none)
  (h1:w.heap.size≤cb.b) (h2:cb.b<w'.heap.size):Ext ψ Q w (upP ψ h cb) (upQ Q h ab) w' where
 mono:=Zb8 hf
 rng:=fun k c e=>by
  by_cases ek:k=h
  ·subst ek;rw[Zbg]at e;cases e;exact .inr ⟨.inl h1,h2⟩
  ·rw[ZbJ _ _ ek]at e;exact .inl e
 size:=hm.size
 keep:=fun b hb _=>hm.old b hb
 sole:=fun b ⟨k,c,x,e,q,hs,hb⟩=>by
  rcases q with⟨rfl,rfl⟩|⟨hk,q⟩
  ·rw[Zbg]at e;cases e;exact .inr (hb▸h1)
  ·rw[ZbJ _ _ hk]at e;exact .inl ⟨k,c,x,e,q,hs,hb⟩
 live:=fun k c x e q=>by
  rcases q with⟨rfl,rfl⟩|⟨hk,q⟩
  ·rw[hf]at e;cases e
  ·exact⟨x,q⟩
 tape:=hm.tape
 os:=hm.os
 output:=hm.output
theorem Sim.set {C:Cfg} {ψ:Ps} {Q:Kn} {w w':World} {h:HId} {cb:CB} {ab ab':AB} (hs:Sim C ψ Q w) (he:ψ h=some cb) (hq:Q h ab) (hsole:ab.sole=true)
  (hk: ∀b,b≠cb.b→w'.heap[b]? =w.heap[b]?) (hh:Holds C ψ w' cb ab'):Sim C ψ (upQ Q h ab') w':=by
 have old: ∀k c x,ψ k=some c→upQ Q h ab' k x→(k=h∧c=cb∧x=ab')∨(k≠h∧ψ k=some c∧Q k x∧c.b≠cb.b):=by
  intro k c x e q;rcases q with⟨rfl,rfl⟩|⟨hk,q⟩
  ·rw[he]at e;cases e;exact .inl ⟨rfl,rfl,rfl⟩
  ·exact .inr ⟨hk,e,q,hs.excl h cb ab k c x he hq hsole e q (Ne.symm hk)⟩
 constructor
 ·intro k c x e q
  rcases old k c x e q with⟨rfl,rfl,rfl⟩|⟨_,e,q,hb⟩
  ·exact hh
  ·exact(hs.holds k c x e q).same (fun _ _ e=>e) (hk _ hb)
 ·intro k c x k' c' x' e q hsole e' q' hn
  rcases old k c x e q with⟨rfl,rfl,rfl⟩|⟨hk,e,q,hb⟩<;>rcases old k' c' x' e' q' with⟨rfl,rfl,rfl⟩|⟨hk',e',q',hb'⟩
  ·exact absurd rfl hn
  ·exact hb'
  ·exact Ne.symm hb
  ·exact hs.excl k c x k' c' x' e q hsole e' q' hn
theorem Ext.set {ψ:Ps} {Q:Kn} {w w':World} {h:HId} {cb:CB} {ab ab':AB} (he:ψ h=some cb) (hq:Q h ab) (hsole:ab.sole=true)
  (hk: ∀b,b≠cb.b→w'.heap[b]? =w.heap[b]?) (hsz:w'.heap.size=w.heap.size) (ht:w'.tape=w.tape) (ho:w'.os=w.os) (hu:OutD w w'):Ext ψ Q w ψ (upQ Q h ab') w' where
 mono:=fun _ _ e=>e
 rng:=fun _ _ e=> .inl e
 size:=by omega
 keep:=fun b _ hn=>hk b fun e=>hn ⟨h,cb,ab,he,hq,hsole,e.symm⟩
 sole:=fun b ⟨k,c,x,e,q,hs,hb⟩=>by
  rcases q with⟨rfl,rfl⟩|⟨_,q⟩
  ·rw[he]at e;cases e;exact .inl ⟨_,_,ab,he,hq,hsole,hb⟩
  ·exact .inl ⟨k,c,x,e,q,hs,hb⟩
 live:=fun k c x e q=>by
  rcases q with⟨rfl,rfl⟩|⟨_,q⟩
  ·exact⟨ab,hq⟩
  ·exact⟨x,q⟩
 tape:=ht
 os:=ho
 output:=hu
def mvQ (Q:Kn) (h h':HId) (ab:AB):Kn:=fun k x=>(k=h'∧x=ab)∨(k≠h'∧k≠h∧Q k x)
theorem Sim.move {C:Cfg} {ψ:Ps} {Q:Kn} {w w':World} {h h':HId} {cb cb':CB} {ab ab':AB} (hs:Sim C ψ Q w) (he:ψ h=some cb) (hq:Q h ab) (hsole:ab.sole=true)
  (hf:ψ h'=none) (hb:cb'.b=cb.b) (hk: ∀b,b≠cb.b→w'.heap[b]? =w.heap[b]?) (hh:Holds C (upP ψ h' cb') w' cb' ab'):Sim C (upP ψ h' cb') (mvQ Q h h' ab') w':=by
 have old: ∀k c x,upP ψ h' cb' k=some c→mvQ Q h h' ab' k x→(k=h'∧c=cb'∧x=ab')∨(k≠h'∧ψ k=some c∧Q k x∧c.b≠cb.b):=by
  intro k c x e q;rcases q with⟨rfl,rfl⟩|⟨hk,hk2,q⟩
  ·rw[Zbg]at e;cases e;exact .inl ⟨rfl,rfl,rfl⟩
  ·rw[ZbJ _ _ hk]at e
   exact .inr ⟨hk,e,q,hs.excl h cb ab k c x he hq hsole e q (Ne.symm hk2)⟩
 constructor
 ·intro k c x e q
  rcases old k c x e q with⟨rfl,rfl,rfl⟩|⟨_,e,q,hb⟩
  ·exact hh
  ·exact(hs.holds k c x e q).same (fun _ _ e=>Zb8 hf _ _ e) (hk _ hb)
 ·intro k c x k' c' x' e q hsole e' q' hn
  rcases old k c x e q with⟨rfl,rfl,rfl⟩|⟨hk,e,q,hb1⟩<;>rcases old k' c' x' e' q' with⟨rfl,rfl,rfl⟩|⟨hk',e',q',hb2⟩
  ·exact absurd rfl hn
  ·rw[hb];exact hb2
  ·rw[hb];exact Ne.symm hb1
  ·exact hs.excl k c x k' c' x' e q hsole e' q' hn
theorem Ext.move {ψ:Ps} {Q:Kn} {w w':World} {h h':HId} {cb cb':CB} {ab ab':AB} (he:ψ h=some cb) (hq:Q h ab) (hsole:ab.sole=true) (hf:ψ h'=none)
  (hb:cb'.b=cb.b) (hlt:cb.b<w.heap.size) (hk: ∀b,b≠cb.b→w'.heap[b]? =w.heap[b]?) (hsz:w'.heap.size=w.heap.size) (ht:w'.tape=w.tape) (ho:w'.os=w.os)
  (hu:OutD w w'):Ext ψ Q w (upP ψ h' cb') (mvQ Q h h' ab') w' where
 mono:=Zb8 hf
 rng:=fun k c e=>by
  by_cases ek:k=h'
  ·subst ek;rw[Zbg]at e;cases e;exact .inr ⟨.inr ⟨h,cb,ab,he,hq,hsole,hb.symm⟩,by omega⟩
  ·rw[ZbJ _ _ ek]at e;exact .inl e
 size:=by omega
 keep:=fun b _ hn=>hk b fun e=>hn ⟨h,cb,ab,he,hq,hsole,e.symm⟩
 sole:=fun b ⟨k,c,x,e,q,hs,hb'⟩=>by
  rcases q with⟨rfl,rfl⟩|⟨hk,_,q⟩
  ·rw[Zbg]at e;cases e;exact .inl ⟨h,cb,ab,he,hq,hsole,by omega⟩
  ·rw[ZbJ _ _ hk]at e;exact .inl ⟨k,c,x,e,q,hs,hb'⟩
 live:=fun k c x e q=>by
  rcases q with⟨rfl,rfl⟩|⟨_,_,q⟩
  ·rw[hf]at e;cases e
  ·exact⟨x,q⟩
 tape:=ht
 os:=ho
 output:=hu
def EntR (C:Cfg) (ψ:Ps):Ent→Value→Prop
 | .u,_=>True
 | .un,x=>x=undef
 |Ent.v d,x=>VR C ψ d x
 | .tup ds,x=>∃vs,x= .tuple vs∧VRs C ψ ds vs.toList
 | .loc ver _ _,x=>∃cb,ψ (.inr ver)=some cb∧cb.o=0∧x= .pointer (some ⟨cb.b,0,none⟩)
 | .pl _ ver o,x=>∃cb,ψ (.inr ver)=some cb∧cb.o=0∧x= .pointer (some ⟨cb.b,o,none⟩)
 | .it ver _ _,x=>∃cb,ψ (.inr ver)=some cb∧x= .pointer (some ⟨cb.b,0,none⟩)
theorem EntR.mono {C:Cfg} {ψ ψ':Ps} (h: ∀k cb,ψ k=some cb→ψ' k=some cb) {e:Ent} {x:Value} (r:EntR C ψ e x):EntR C ψ' e x:=by
 cases e with
 |u=>exact trivial
 |un=>exact r
 |v d=>exact VR.mono (fun i cb e=>h _ _ e) r
 |tup ds=>obtain⟨vs,e,r⟩:=r;exact⟨vs,e,r.mono fun i cb e=>h _ _ e⟩
 |loc v n cs=>obtain⟨cb,e,r⟩:=r;exact⟨cb,h _ _ e,r⟩
 |pl a v n=>obtain⟨cb,e,r⟩:=r;exact⟨cb,h _ _ e,r⟩
 |it v n cs=>obtain⟨cb,e,r⟩:=r;exact⟨cb,h _ _ e,r⟩
def Ent.ver:Ent→Option Nat
 | .loc k _ _=>some k
 | .it k _ _=>some k
 |_=>none
structure EOK (E:Env):Prop where
 lt: ∀t v,(E.get t).ver=some v→v<E.nxt
 pl: ∀t r v o,E.get t= .pl r v o→v<E.nxt
 len: ∀t v n cs,E.get t= .loc v n cs→cs.length=n
 uniq: ∀t t' v,(E.get t).ver=some v→(E.get t').ver=some v→t=t'
end Go.Gv
