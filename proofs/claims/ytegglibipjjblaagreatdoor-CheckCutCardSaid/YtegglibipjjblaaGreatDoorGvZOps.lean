/- What an operation does, said of the machine and of the model: the frame of the proofs for the single operations. -/
import Derived.Test.YtegglibipjjblaaGreatDoorGvRel
import Derived.Laws.Strings
import Derived.Laws.Concat
import Derived.DeepKeys
import Derived.Laws.Slices
import Derived.Laws.BytesArg
import Derived.Laws.Tables
import Derived.Laws.MakeOwn
import Derived.Laws.Append
namespace Go.Gv
theorem Zg2 (k:Nat) (e:Ent) (l:List (Nat×Ent)) (t:Nat):look ((k,e)::l) t=if k=t then e else look l t:=by
 simp only[look];cases h:Nat.beq k t with
 |true=>rw[if_pos (Nat.eq_of_beq_eq_true h)];rfl
 |false=>rw[if_neg (Nat.ne_of_beq_eq_false h)];rfl
theorem Env.get_put (E:Env) (t:Nat) (e:Ent) (u:Nat):(E.put t e).get u=if t=u then e else E.get u:=Zg2 t e E.l u
theorem Env.get_mk (n:Nat) (t:Nat) (e:Ent) (l:List (Nat×Ent)) (u:Nat):(⟨n,(t,e)::l⟩:Env).get u=if t=u then e else look l u:=Zg2 t e l u
@[simp] theorem Env.nxt_put (E : Env) (t : Nat) (e : Ent) : (E.put t e).nxt = E.nxt := rfl
@[simp] theorem Env.nxt_putO (E : Env) (t : Option Nat) (e : Ent) : (E.putO t e).nxt = E.nxt := by cases t <;> rfl
theorem Env.get_putO (E:Env) (t:Option Nat) (e:Ent) (u:Nat):(E.putO t e).get u=if t=some u then e else E.get u:=by
 cases t with
 |none=>simp[Env.putO]
 |some t=>simp only[Env.putO,Env.get_put,Option.some.injEq]
theorem ZjQ: ∀(l:List Nat) (t:Nat),has l t=true↔t∈l
 |[],t=>by simp[has]
 |k::r,t=>by
  simp only[has,Bool.or_eq_true,List.mem_cons,ZjQ r t];constructor
  ·rintro(h|h)
   ·exact .inl (Nat.eq_of_beq_eq_true h).symm
   ·exact .inr h
  ·rintro(h|h)
   ·exact .inl (by subst h;exact Nat.beq_refl _)
   ·exact .inr h
theorem ZdS (E:Env) (ts:List Nat) (t:Nat):(E.del ts).get t=if has ts t then .u else E.get t:=by
 have key: ∀l:List (Nat×Ent),look (delL l ts) t=if has ts t then .u else look l t:=by
  intro l;induction l with
  |nil=>simp[delL,look]
  |cons x r ih=>
   obtain⟨k,e⟩:=x;simp only[delL];cases hk:has ts k with
   |true=>
    simp only[cond_true,ih,Zg2];by_cases h:k=t
    ·subst h;simp[hk]
    ·simp[h]
   |false=>
    simp only[cond_false,Zg2,ih];by_cases h:k=t
    ·subst h;simp[hk]
    ·simp[h]
 exact key E.l
@[simp] theorem nxt_del (E : Env) (ts : List Nat) : (E.del ts).nxt = E.nxt := rfl
def Dom (E:Env) (s:St):HId→Prop
 | .inl i=>i<s.length
 | .inr v=>v<E.nxt
def New (E:Env) (s:St) (E':Env) (s':St) (h:HId):Prop:=¬Dom E s h∧Dom E' s' h
theorem Zgd {s:St} {i:Nat} {ab:AB} (h:stAB s i=some ab):i<s.length:=by
 rcases Nat.lt_or_ge i s.length with h'|h'
 ·exact h'
 ·simp[stAB,List.getElem?_eq_none h']at h
theorem CR.dom {E:Env} {s:St} (hE:EOK E) {h:HId} {ab:AB} (c:CR E s h ab):Dom E s h:=by
 cases h with
 |inl i=>exact Zgd c
 |inr v=>
  rcases c with⟨t,n,cs,e,_⟩|⟨t,l,p,e,_⟩
  ·exact hE.lt t v (by rw[e];rfl)
  ·exact hE.lt t v (by rw[e];rfl)
theorem Zd2 {s:St} {x:St} {i:Nat} (h:i<s.length):stAB (s++x) i=stAB s i:=by
 simp only[stAB,List.getElem?_append_left h]
theorem ZfD (s:St) (b:Blk):stAB (s++[some b]) s.length=some (.cells b.frz b.cells):=by
 simp[stAB]
def Spec (pr:List Nat) (o:Oper):Prop:=
 match o.op with
 | .store .. | .next .. | .range .. =>True
 | .alloc _| .box _ _=>∃d,o.dst=some d∧has pr d=true
 |_=>False
def NewOp (o:Oper):Prop:=
 match o.op with
 | .alloc _| .box .. | .buildSlice .. | .makeSlice .. | .convert .. =>True
 | .call q=>match q.callee with
  | .value _| .builtin .append=>True
  |_=>False
 |_=>False
structure OpF (W:HId→Prop) (pr ms:List Nat) (o:Oper) (E:Env) (s:St) (E':Env) (s':St):Prop where
 len:s.length≤s'.length
 nxt:E.nxt≤E'.nxt
 eok:EOK E→EOK E'
 other: ∀t,o.dst≠some t→has ms t=false→E'.get t=E.get t
 val: ∀t d,o.dst≠some t→E'.get t= .v d→E.get t= .v d
 ent: ∀t,o.dst≠some t→∀(C:Cfg) ψ x,EntR C ψ (E.get t) x→EntR C ψ (E'.get t) x
 back: ∀h ab,CR E' s' h ab→W h∨New E s E' s' h∨CR E s h ab
 verL: ∀t v n cs,E'.get t= .loc v n cs→(∃cs0,E.get t= .loc v n cs0)∨(E.nxt≤v∧o.dst=some t)
 verI: ∀t v l p,E'.get t= .it v l p→(∃p0,E.get t= .it v l p0)∨(E.nxt≤v∧o.dst=some t)
 sfix: ∀i,¬W (.inl i)→i<s.length→s'[i]? =s[i]?
 plain:(∃e:Ent,e.ver=none∧E'=E.putO o.dst e)∨Spec pr o
 grow:s'.length=s.length∨NewOp o
structure Pre (C:Cfg) (o:Oper) (D:HId→Prop) (E:Env) (s:St) (ψ:Ps) (Q:Kn) (a:Act) (w:World):Prop where
 sim:Sim C ψ Q w
 blks:Blks ψ w
 glob:Glob C ψ
 eok:EOK E
 know: ∀h ab cb,D h→CR E s h ab→ψ h=some cb→Q h ab
 args: ∀t,.tmp t∈o.op.operands→EntR C ψ (E.get t) (a.tmps.getD t undef)
def Room (E:Env) (s:St) (E':Env) (s':St) (ψ:Ps):Prop:=∀h,New E s E' s' h→ψ h=none
structure Post (C:Cfg) (D W:HId→Prop) (E:Env) (s:St) (E':Env) (s':St) (ψ:Ps) (Q:Kn) (w:World) (ψ':Ps) (Q':Kn) (w':World):Prop where
 sim:Sim C ψ' Q' w'
 ext:Ext ψ Q w ψ' Q' w'
 news: ∀h cb,ψ' h=some cb→ψ h=some cb∨New E s E' s' h
 p1: ∀h ab cb,CR E' s' h ab→(W h∨New E s E' s' h)→ψ' h=some cb→Q' h ab
 p2: ∀h ab cb,ψ h=some cb→Q h ab→¬W h→(D h→Dom E s h→CR E s h ab)→Q' h ab
def OpOK (C:Cfg) (o:Oper) (D W:HId→Prop) (E:Env) (s:St) (E':Env) (s':St):Prop:=
 ∀(ψ:Ps) (Q:Kn) (a:Act) (w:World) (next:Act→World→Prop) (QQ:Exit→Act→World→Prop),Pre C o D E s ψ Q a w→Room E s E' s' ψ→
  (∀ψ' Q' v w',Post C D W E s E' s' ψ Q w ψ' Q' w'→(∀d,o.dst=some d→EntR C ψ' (E'.get d) v)→next (a.put o.dst v) w')→o.wp C.P a w next QQ
def PanV (ch:List PanicEntry):Prop:=∃t v,ch=[{ v:= .iface t v,recovered:=false }]
def OpPan (C:Cfg) (o:Oper) (D:HId→Prop) (E:Env) (s s':St):Prop:=
 s.length≤s'.length∧
 ∀(ψ:Ps) (Q:Kn) (a:Act) (w:World) (next:Act→World→Prop) (QQ:Exit→Act→World→Prop),Pre C o D E s ψ Q a w→Room E s E s' ψ→
  (∀ψ' Q' ch w',PanV ch→Sim C ψ' Q' w'→Ext ψ Q w ψ' Q' w'→(∀h cb,ψ' h=some cb→ψ h=some cb∨New E s E s' h)→
   (∀i ab cb,stAB s' i=some ab→ψ' (.inl i)=some cb→Q' (.inl i) ab)→QQ (.panic ch) a w')→o.wp C.P a w next QQ
def Res {β:Type} (C:Cfg) (md:Md) (pr ms:List Nat) (o:Oper) (D W:HId→Prop) (E:Env) (s:St) (K:Env→M β) (r:Out β×St):Prop:=
 (∃E' s',K E' s'=some r∧OpF W pr ms o E s E' s'∧OpOK C o D W E s E' s')∨(md.x=0∧∃s',r=(.pan,s')∧OpPan C o D E s s')
theorem Zrf {C:Cfg} {ψ:Ps} {v:Value} {d:DV} (h:ofVal v=some d):VR C ψ d v:=by
 unfold ofVal at h;split at h<;>first|(cases h;done)|(injection h with h;subst h)
 ·exact .bool _
 ·exact .int _ _
 ·exact .str _
 ·exact .ptrN
 ·exact .sliceN _
 ·exact .nilFunc
 ·exact .nilIface
theorem Zxu {v:Value} {d:DV} (h:ofVal v=some d):one d=true:=by
 unfold ofVal at h;split at h<;>first|(cases h;done)|(injection h with h;subst h;rfl)
theorem Zd9 {C:Cfg} {ψ:Ps} : ∀ {vs:List Value} {ds:List DV},Zl1 vs=some ds→VRs C ψ ds vs∧ds.all one=true
 |[],ds,h=>by simp only[Zl1,Option.some.injEq]at h;subst h;exact⟨.nil,rfl⟩
 |v::vs,ds,h=>by
  simp only[Zl1]at h;split at h
  ·rename_i d ds' h1 h2
   injection h with h;subst h
   obtain⟨a,b⟩:=Zd9 (C:=C) (ψ:=ψ) h2;exact⟨.cons _ _ _ _ (Zrf h1) a,by simp[Zxu h1,b]⟩
  ·cases h
section
variable {C:Cfg} {o:Oper} {D:HId→Prop} {E:Env} {s:St} {ψ:Ps} {Q:Kn} {a:Act} {w:World}
theorem Pre.src (p:Pre C o D E s ψ Q a w) {x:Operand} (hx:x∈o.op.operands):EntR C ψ (E.src C x) (a.eval x):=by
 cases x with
 |tmp t=>
  have h:=p.args t hx;simp only[Env.src,Act.eval];cases he:E.get t with
  |loc v n cs=>
   rw[he]at h;obtain⟨cb,h1,h2,h3⟩:=h;exact⟨cb,h1,h2,h3⟩
  |it v l q=>exact trivial
  |u=>exact trivial
  |un=>rw[he]at h;exact h
  |v d=>rw[he]at h;exact h
  |tup ds=>rw[he]at h;exact h
  |pl r v n=>rw[he]at h;exact h
 |const v=>
  simp only[Env.src,Act.eval];split
  ·exact Zrf (by assumption)
  ·exact trivial
 |global g=>
  simp only[Env.src,Act.eval];cases hg:C.glc g with
  |false=>exact trivial
  |true=>
   obtain⟨cb,h1,h2,h3⟩:=p.glob g hg;have:=VR.ptr (C:=C) (ψ:=ψ) (C.gl g) 0 cb h1;rw[h2,h3]at this;exact this
 |func f=>
  simp only[Env.src,Act.eval];cases hg:C.cov f with
  |false=>exact trivial
  |true=>exact VR.func f [] [] #[] #[] hg .nil .nil
theorem Pre.val (p:Pre C o D E s ψ Q a w) {x:Operand} (hx:x∈o.op.operands) {d:DV} (h:E.src C x= .v d):VR C ψ d (a.eval x):=by
 have:=p.src hx;rw[h]at this;exact this
theorem Env.src_ver (C:Cfg) (E:Env) (x:Operand):(E.src C x).ver=none:=by
 cases x with
 |tmp t=>simp only[Env.src];cases E.get t<;>rfl
 |const v=>simp only[Env.src];cases ofVal v<;>rfl
 |global g=>simp only[Env.src];cases C.glc g<;>rfl
 |func f=>simp only[Env.src];cases C.cov f<;>rfl
theorem Env.src_pl (C:Cfg) {E:Env} (hE:EOK E) {x:Operand} {r v n:Nat} (h:E.src C x= .pl r v n):v<E.nxt:=by
 cases x with
 |tmp t=>
  simp only[Env.src]at h;cases he:E.get t with
  |loc v' m cs=>
   rw[he]at h;simp only[Ent.pl.injEq]at h;obtain⟨_,rfl,_⟩:=h;exact hE.lt t v' (by rw[he];rfl)
  |pl r' v' n'=>
   rw[he]at h;simp only[Ent.pl.injEq]at h;obtain⟨_,rfl,_⟩:=h;exact hE.pl t _ _ _ he
  |_=>rw[he]at h;cases h
 |const v=>simp only[Env.src]at h;cases hv:ofVal v<;>rw[hv]at h<;>cases h
 |global g=>simp only[Env.src]at h;cases hv:C.glc g<;>rw[hv]at h<;>cases h
 |func f=>simp only[Env.src]at h;cases hv:C.cov f<;>rw[hv]at h<;>cases h
end
theorem EOK.putO {E:Env} (hE:EOK E) {t:Option Nat} {e:Ent} (hv:e.ver=none) (hp: ∀r v n,e= .pl r v n→v<E.nxt):EOK (E.putO t e):=by
 constructor
 ·intro u v h
  rw[Env.get_putO]at h;rw[Env.nxt_putO];split at h
  ·rw[hv]at h;cases h
  ·exact hE.lt u v h
 ·intro u r v n h
  rw[Env.get_putO]at h;rw[Env.nxt_putO];split at h
  ·exact hp r v n h
  ·exact hE.pl u r v n h
 ·intro u v n cs h
  rw[Env.get_putO]at h;split at h
  ·rw[h]at hv;cases hv
  ·exact hE.len u v n cs h
 ·intro u u' v h h'
  rw[Env.get_putO]at h h';split at h
  ·rw[hv]at h;cases h
  ·split at h'
   ·rw[hv]at h';cases h'
   ·exact hE.uniq u u' v h h'
theorem CR.putO {E:Env} {t:Option Nat} {e:Ent} {s:St} {h:HId} {ab:AB} (hv:e.ver=none) (c:CR (E.putO t e) s h ab):CR E s h ab:=by
 cases h with
 |inl i=>exact c
 |inr v=>
  rcases c with⟨u,n,cs,h,hab⟩|⟨u,l,p,h,hab⟩
  ·rw[Env.get_putO]at h
   split at h
   ·rw[h]at hv;cases hv
   ·exact .inl ⟨u,n,cs,h,hab⟩
  ·rw[Env.get_putO]at h
   split at h
   ·rw[h]at hv;cases hv
   ·exact .inr ⟨u,l,p,h,hab⟩
section
variable {C:Cfg} {o:Oper} {D W:HId→Prop} {E:Env} {s:St}
theorem OpF.put (pr ms:List Nat) (e:Ent) (hv:e.ver=none) (hp:EOK E→∀r v n,e= .pl r v n→v<E.nxt) {s':St} (hl:s.length≤s'.length)
  (hs: ∀i ab,stAB s' i=some ab→W (.inl i)∨s.length≤i∨stAB s i=some ab) (hf: ∀i,¬W (.inl i)→i<s.length→s'[i]? =s[i]?) (hg:s'.length=s.length∨NewOp o):OpF W pr ms o E s (E.putO o.dst e) s' where
 len:=hl
 nxt:=by simp
 eok:=fun hE=>hE.putO hv (hp hE)
 other:=fun t h _=>by rw[Env.get_putO,if_neg h]
 val:=fun t d h e=>by rw[Env.get_putO,if_neg h]at e;exact e
 ent:=fun t h C ψ x r=>by rw[Env.get_putO,if_neg h];exact r
 back:=fun h ab c=>by
  cases h with
  |inl i=>
   have c':stAB s' i=some ab:=c;rcases hs i ab c' with h|h|h
   ·exact .inl h
   ·exact .inr (.inl ⟨Nat.not_lt.2 h,Zgd c'⟩)
   ·exact .inr (.inr h)
  |inr v=>
   have c':CR (E.putO o.dst e) s (.inr v) ab:=c;exact .inr (.inr (c'.putO hv))
 verL:=fun t v n cs h=>by
  rw[Env.get_putO]at h;split at h
  ·rw[h]at hv;cases hv
  ·exact .inl ⟨cs,h⟩
 verI:=fun t v l p h=>by
  rw[Env.get_putO]at h;split at h
  ·rw[h]at hv;cases hv
  ·exact .inl ⟨p,h⟩
 sfix:=hf
 plain:= .inl ⟨e,hv,rfl⟩
 grow:=hg
theorem OpF.putS (pr ms:List Nat) (e:Ent) (hv:e.ver=none) (hp:EOK E→∀r v n,e= .pl r v n→v<E.nxt):OpF W pr ms o E s (E.putO o.dst e) s:=
 OpF.put pr ms e hv hp (Nat.le_refl _) (fun _ _ h=> .inr (.inr h)) (fun _ _ _=>rfl) (.inl rfl)
theorem OpOK.pure (hWD: ∀h,W h→D h) (e:Ent) (hv:e.ver=none)
  (hrun: ∀ψ Q a w,Pre C o D E s ψ Q a w→∃v w',(execOp a.eval o).run C.P w= .ok (.value v) w'∧More w w'∧EntR C ψ e v):OpOK C o D W E s (E.putO o.dst e) s:=by
 intro ψ Q a w next QQ p _ hn;obtain⟨v,w',hr,hm,hv'⟩:=hrun ψ Q a w p;unfold Oper.wp;rw[hr];refine hn ψ Q v w' ⟨p.sim.more p.blks hm,Ext.more hm,fun h cb e=> .inl e,fun h ab cb c hw e=>?_,fun h ab cb e q _ _=>q⟩ (fun d hd=>?_)
 ·rcases hw with hw|⟨h1,h2⟩
  ·exact p.know h ab cb (hWD h hw) (c.putO hv) e
  ·exact absurd (by cases h<;>simpa [Dom]using h2) h1
 ·rw[Env.get_putO,if_pos hd];exact hv'
theorem Res.pure {β:Type} {md:Md} {pr ms:List Nat} (hWD: ∀h,W h→D h) {K:Env→M β} {r:Out β×St} (e:Ent) (hv:e.ver=none) (hp:EOK E→∀r v n,e= .pl r v n→v<E.nxt)
  (hk:K (E.putO o.dst e) s=some r)
  (hrun: ∀ψ Q a w,Pre C o D E s ψ Q a w→∃v w',(execOp a.eval o).run C.P w= .ok (.value v) w'∧More w w'∧EntR C ψ e v):Res C md pr ms o D W E s K r:=
 .inl ⟨_,_,hk,OpF.putS pr ms e hv hp,OpOK.pure hWD e hv hrun⟩
theorem Res.val {β:Type} {md:Md} {pr ms:List Nat} (hWD: ∀h,W h→D h) {K:Env→M β} {r:Out β×St} (d:DV)
  (hk:putK E o K d s=some r)
  (hrun: ∀ψ Q a w,Pre C o D E s ψ Q a w→∃v w',(execOp a.eval o).run C.P w= .ok (.value v) w'∧More w w'∧VR C ψ d v):Res C md pr ms o D W E s K r:=
 Res.pure hWD (.v d) rfl (fun _ _ _ _ h=>by cases h) hk hrun
theorem Res.newH {β:Type} {md:Md} {pr ms:List Nat} (hno:NewOp o) (hWD: ∀h,W h→D h) {K:Env→M β} {r:Out β×St} (d:DV) (cells:List DV)
  (hk:putK E o K d (s++[some ⟨false,cells⟩])=some r)
  (hrun: ∀ψ Q a w,Pre C o D E s ψ Q a w→∃v w' cb,(execOp a.eval o).run C.P w= .ok (.value v) w'∧More w w'∧w.heap.size≤cb.b∧cb.b<w'.heap.size∧
   Holds C ψ w' cb (.cells false cells)∧(∀ψ',(∀h c,ψ h=some c→ψ' h=some c)→ψ' (.inl s.length)=some cb→VR C ψ' d v)):Res C md pr ms o D W E s K r:=by
 refine .inl ⟨_,_,hk,OpF.put pr ms (.v d) rfl (fun _ _ _ _ h=>by cases h) (by simp) (fun i ab h=>?_) (fun _ i hi=>List.getElem?_append_left hi) (.inr hno),?_⟩
 ·rcases Nat.lt_or_ge i s.length with hi|hi
  ·rw[Zd2 hi]at h;exact .inr (.inr h)
  ·exact .inr (.inl hi)
 ·intro ψ Q a w next QQ p room hn
  obtain⟨v,w',cb,hr,hm,h1,h2,hh,hv'⟩:=hrun ψ Q a w p;have hnew:New E s (E.putO o.dst (.v d)) (s++[some ⟨false,cells⟩]) (.inl s.length):=⟨by simp[Dom],by simp[Dom]⟩;have hf:=room _ hnew;unfold Oper.wp;rw[hr];refine hn _ _ v w' ⟨Sim.new (cb:=cb) (ab:= .cells false cells) p.sim p.blks hm hf h1 (hh.same (fun _ _ e=>Zb8 hf _ _ e) rfl),Ext.new hm hf h1 h2,fun h c e=>?_,fun h ab c cr hw e=>?_,fun h ab c e q _ _=>?_⟩ (fun d' hd=>?_)
  ·by_cases eh:h= .inl s.length
   ·subst eh;exact .inr hnew
   ·rw[ZbJ _ _ eh]at e;exact .inl e
  ·by_cases eh:h= .inl s.length
   ·subst eh
    have cr':stAB (s++[some ⟨false,cells⟩]) s.length=some ab:=cr;rw[ZfD]at cr';cases cr';exact .inl ⟨rfl,rfl⟩
   ·refine .inr ⟨eh,?_⟩
    rw[ZbJ _ _ eh]at e;rcases hw with hw|⟨n1,n2⟩
    ·refine p.know h ab c (hWD h hw) ?_ e
     cases h with
     |inl i=>
      have cr':stAB (s++[some ⟨false,cells⟩]) i=some ab:=cr;have:=Zgd cr';simp only[List.length_append,List.length_singleton]at this
      rwa [Zd2 (by have:i≠s.length:=fun e=>eh (by rw[e]);omega)]at cr'
     |inr x=>
      have cr':CR (E.putO o.dst (.v d)) s (.inr x) ab:=cr;exact cr'.putO rfl
    ·cases h with
     |inl i=>
      simp only[Dom,List.length_append,List.length_singleton]at n1 n2;exact absurd (by rw[show i=s.length by omega]) eh
     |inr x=>simp only[Dom,Env.nxt_putO]at n1 n2;exact absurd n2 n1
  ·refine .inr ⟨fun eh=>?_,q⟩
   subst eh;rw[hf]at e;cases e
  ·rw[Env.get_putO,if_pos hd]
   exact hv' _ (Zb8 hf) (Zbg _ _ _)
end
end Go.Gv
namespace Go.Gv
variable {β:Type}
theorem Zr {C:Cfg} {E:Env} {x:Operand} {K:DV→M β} {s:St} {r:Out β×St} (h:valK C E x K s=some r): ∃d,E.src C x= .v d∧K d s=some r:=by
 unfold valK at h;cases he:E.src C x<;>rw[he]at h<;>first|exact⟨_,rfl,h⟩|cases h
theorem Ze8 {C:Cfg} {E:Env} {x:Operand} {K:Int→M β} {s:St} {r:Out β×St} (h:intK C E x K s=some r): ∃k n,E.src C x= .v (.int k n)∧K n s=some r:=by
 obtain⟨d,h1,h2⟩:=Zr h;split at h2
 ·exact⟨_,_,h1,h2⟩
 ·cases h2
theorem Zkq {C:Cfg} {E:Env} {x:Operand} {K:Bool→M β} {s:St} {r:Out β×St} (h:boolK C E x K s=some r): ∃b,E.src C x= .v (.bool b)∧K b s=some r:=by
 obtain⟨d,h1,h2⟩:=Zr h;split at h2
 ·exact⟨_,h1,h2⟩
 ·cases h2
theorem Zqt {a:Option (Nat×Nat)} {K:Nat→Nat→M β} {s:St} {r:Out β×St} (h:M.nn a K s=some r): ∃i o,a=some (i,o)∧K i o s=some r:=by
 unfold M.nn at h;split at h
 ·exact⟨_,_,rfl,h⟩
 ·cases h
theorem Zfs {C:Cfg} {E:Env} {x:Operand} {KL:Nat→Nat→Nat→M β} {KH:Nat→Nat→M β} {s:St} {r:Out β×St} (h:addrK C E x KL KH s=some r):
  (∃t v o,E.src C x= .pl t v o∧KL t v o s=some r)∨(∃i o,E.src C x= .v (.ptr (some (i,o)))∧KH i o s=some r):=by
 unfold addrK at h;cases he:E.src C x with
 |pl t v o=>rw[he]at h;exact .inl ⟨_,_,_,rfl,h⟩
 |v d=>
  rw[he]at h;cases d with
  |ptr a=>
   obtain⟨i,o,rfl,h⟩:=Zqt h;exact .inr ⟨i,o,rfl,h⟩
  |_=>cases h
 |_=>rw[he]at h;cases h
theorem ZK {b:Bool} {K:M β} {s:St} {r:Out β×St} (h:M.chk b K s=some r):b=true∧K s=some r:=by
 cases b with
 |true=>exact⟨rfl,h⟩
 |false=>cases h
theorem Zo {b:Bool} {x:M β} {s:St} {r:Out β×St} (h:(bif b then x else fail) s=some r):b=true∧x s=some r:=by
 cases b with
 |true=>exact⟨rfl,h⟩
 |false=>cases h
theorem ZfL {b:Bool} {x:M β} {s:St} {r:Out β×St} (h:(bif b then fail else x) s=some r):b=false∧x s=some r:=by
 cases b with
 |false=>exact⟨rfl,h⟩
 |true=>cases h
theorem Z9 {P:Program} {t:TypeId} {K:M β} {s:St} {r:Out β×St} (h:tyK P t K s=some r): ∃d,P.underlying t=some d∧K s=some r:=by
 unfold tyK at h;cases he:P.underlying t<;>rw[he]at h<;>first|exact⟨_,rfl,h⟩|cases h
theorem Zkt {cs:List DV} {i:Nat} {K:DV→M β} {s:St} {r:Out β×St} (h:D.nth cs i K s=some r): ∃d,cs[i]? =some d∧K d s=some r:=by
 unfold D.nth at h;cases he:cs[i]? <;>rw[he]at h<;>first|exact⟨_,rfl,h⟩|cases h
theorem Znn {cs:List DV} {n:Nat} {K:M β} {s:St} {r:Out β×St} (h:D.len cs n K s=some r):cs.length=n∧K s=some r:=by
 unfold D.len at h;obtain⟨h1,h2⟩:=Zo h;exact⟨Nat.eq_of_beq_eq_true h1,h2⟩
theorem Zm6 {E:Env} {t v:Nat} {K:Nat→List DV→M β} {s:St} {r:Out β×St} (h:Zow E t v K s=some r): ∃n cs,E.get t= .loc v n cs∧K n cs s=some r:=by
 unfold Zow at h;cases he:E.get t with
 |loc v' n cs=>
  rw[he]at h;obtain⟨h1,h2⟩:=Zo h;have:=Nat.eq_of_beq_eq_true h1;subst this;exact⟨n,cs,rfl,h2⟩
 |_=>rw[he]at h;cases h
theorem Zkb {k k':IntKind} (h:ikEq k k'=true):k=k':=by cases k<;>cases k'<;>first|rfl|(simp[ikEq]at h)
theorem ZmD {x:B} {d:DV} {K:DV→M β} {s:St} {r:Out β×St} (h:d1 x d K s=some r):
  ∃d',K d' s=some r∧(∀(C:Cfg) ψ v,VR C ψ d v→VR C ψ d' v)∧(one d=true→one d'=true):=by
 unfold d1 at h;split at h
 ·unfold D.bool at h;split at h
  ·exact⟨_,h,fun _ _ _ h=>h,fun h=>h⟩
  ·cases h
 ·unfold D.int at h;split at h
  ·obtain⟨h1,h2⟩:=Zo h
   have:=Zkb h1;subst this;exact⟨_,h2,fun _ _ _ h=>h,fun h=>h⟩
  ·cases h
 ·unfold D.str at h;split at h
  ·exact⟨_,h,fun _ _ _ h=>h,fun h=>h⟩
  ·cases h
 ·unfold D.ptr at h;split at h
  ·exact⟨_,h,fun _ _ _ h=>h,fun h=>h⟩
  ·cases h
 ·unfold D.slice at h;split at h
  ·rename_i z a n
   obtain⟨h1,h2⟩:=Zo h;refine⟨_,h2,fun C ψ v hv=>?_,fun _=>rfl⟩;simp only[Bool.or_eq_true]at h1;rcases h1 with h1|h1
   ·have:=Nat.eq_of_beq_eq_true h1;subst this;exact hv
   ·cases a with
    |none=>cases hv;exact .sliceN _
    |some _=>cases h1
  ·cases h
 ·unfold D.func at h;split at h
  ·exact⟨_,h,fun _ _ _ h=>h,fun h=>h⟩
  ·cases h
 ·exact⟨_,h,fun _ _ _ h=>h,fun h=>h⟩
 ·cases h
theorem Zei: ∀ {l:List B} {cs:List DV} {K:List DV→M β} {s:St} {r:Out β×St},Zbv l cs K s=some r→
  ∃ds,K ds s=some r∧ds.length=cs.length∧(∀(C:Cfg) ψ vs,VRs C ψ cs vs→VRs C ψ ds vs)∧(cs.all one=true→ds.all one=true)
 |[],cs,K,s,r,h=>by
  simp only[Zbv]at h;cases cs with
  |nil=>exact⟨[],h,rfl,fun _ _ _ h=>h,fun h=>h⟩
  |cons _ _=>cases h
 |x::l,cs,K,s,r,h=>by
  have gen: ∀ {x:B},(D.cons cs fun d rest=>d1 x d fun d'=>Zbv l rest fun ds=>K (d'::ds)) s=some r→
    ∃ds,K ds s=some r∧ds.length=cs.length∧(∀(C:Cfg) ψ vs,VRs C ψ cs vs→VRs C ψ ds vs)∧(cs.all one=true→ds.all one=true):=by
   intro x h;cases cs with
   |nil=>cases h
   |cons d rest=>
    simp only[D.cons]at h;obtain⟨d',h,hd,h1⟩:=ZmD h;obtain⟨ds,h,hl,hr,h2⟩:=Zei h;refine⟨_,h,by simp[hl],fun C ψ vs hv=>?_,fun ho=>?_⟩
    ·cases hv with
     |cons _ v _ vs a b=>exact .cons _ _ _ _ (hd C ψ v a) (hr C ψ vs b)
    ·simp only[List.all_cons,Bool.and_eq_true]at ho⊢
     exact⟨h1 ho.1,h2 ho.2⟩
  have blob: ∀ {n:Nat} ,(D.blob n cs fun xs rest=>Zbv l rest fun ds=>K (xs++ds)) s=some r→
    ∃ds,K ds s=some r∧ds.length=cs.length∧(∀(C:Cfg) ψ vs,VRs C ψ cs vs→VRs C ψ ds vs)∧(cs.all one=true→ds.all one=true):=by
   intro n h;unfold D.blob at h;obtain⟨h1,h⟩:=Zo h;have h1:=Nat.le_of_ble_eq_true h1;obtain⟨ds,h,hl,hr,h2⟩:=Zei h;refine⟨_,h,by simp[hl];omega,fun C ψ vs hv=>?_,fun ho=>?_⟩
   ·have e:vs=vs.take n++vs.drop n:=(List.take_append_drop n vs).symm
    rw[e];exact(hv.take n).append (hr C ψ _ (hv.drop n))
   ·rw[List.all_append,Bool.and_eq_true]
    have ho': ∀x∈cs,one x=true:=List.all_eq_true.1 ho;exact⟨List.all_eq_true.2 fun x hx=>ho' x (List.mem_of_mem_take hx),h2 (List.all_eq_true.2 fun x hx=>ho' x (List.mem_of_mem_drop hx))⟩
  cases x with
  |blob n=>
   cases l with
   |nil=>
    simp only[Zbv]at h;obtain⟨hl,h⟩:=Znn h;exact⟨cs,h,rfl,fun _ _ _ h=>h,fun h=>h⟩
   |cons y l=>simp only[Zbv]at h;exact blob h
  |bool=>simp only[Zbv]at h;exact gen h
  |int k=>simp only[Zbv]at h;exact gen h
  |str=>simp only[Zbv]at h;exact gen h
  |ptr=>simp only[Zbv]at h;exact gen h
  |slice sz=>simp only[Zbv]at h;exact gen h
  |func=>simp only[Zbv]at h;exact gen h
  |any=>simp only[Zbv]at h;exact gen h
theorem ZkL {x:Sh} {d:DV} {K:DV→M β} {s:St} {r:Out β×St} (h:dsh x d K s=some r):
  ∃d',K d' s=some r∧(∀(C:Cfg) ψ v,VR C ψ d v→VR C ψ d' v)∧(one d=true→one d'=true):=by
 cases x with
 |b x=>exact ZmD h
 |agg l=>
  simp only[dsh,D.agg]at h;split at h
  ·obtain⟨ds,h,hl,hr,h2⟩:=Zei h
   refine⟨_,h,fun C ψ v hv=>?_,fun h=>by cases h⟩;cases hv with
   |agg _ vs a b=>exact .agg _ _ (hr C ψ _ a) (h2 b)
  ·cases h
theorem Zfh: ∀ {l:List Sh} {cs:List DV} {K:List DV→M β} {s:St} {r:Out β×St},dlist l cs K s=some r→
  ∃ds,K ds s=some r∧ds.length=cs.length∧ds.length=l.length∧(∀(C:Cfg) ψ vs,VRs C ψ cs vs→VRs C ψ ds vs)
 |[],cs,K,s,r,h=>by
  simp only[dlist]at h;cases cs with
  |nil=>exact⟨[],h,rfl,rfl,fun _ _ _ h=>h⟩
  |cons _ _=>cases h
 |x::l,cs,K,s,r,h=>by
  simp only[dlist]at h;cases cs with
  |nil=>cases h
  |cons d rest=>
   simp only[D.cons]at h;obtain⟨d',h,hd,_⟩:=ZkL h;obtain⟨ds,h,hl,hl2,hr⟩:=Zfh h;refine⟨_,h,by simp[hl],by simp[hl2],fun C ψ vs hv=>?_⟩;cases hv with
   |cons _ v _ vs a b=>exact .cons _ _ _ _ (hd C ψ v a) (hr C ψ vs b)
inductive SV (C:Cfg) (E:Env):List Operand→List DV→Prop
 |nil:SV C E [] []
 |cons {x:Operand} {d:DV} {l:List Operand} {ds:List DV} :E.src C x= .v d→SV C E l ds→SV C E (x::l) (d::ds)
theorem Zft {C:Cfg} {E:Env} : ∀ {l:List Operand} {K:List DV→M β} {s:St} {r:Out β×St},valsK C E l K s=some r→
  ∃ds,K ds s=some r∧SV C E l ds
 |[],K,s,r,h=>⟨[],h,.nil⟩
 |x::l,K,s,r,h=>by
  simp only[valsK]at h;obtain⟨d,h1,h⟩:=Zr h;obtain⟨ds,h,h2⟩:=Zft h;exact⟨_,h,.cons h1 h2⟩
theorem Zh4 {C:Cfg} {o:Oper} {D:HId→Prop} {E:Env} {s:St} {ψ:Ps} {Q:Kn} {a:Act} {w:World} (p:Pre C o D E s ψ Q a w):
  ∀ {l:List Operand} {ds:List DV},(∀x∈l,x∈o.op.operands)→SV C E l ds→VRs C ψ ds (l.map a.eval)
 |[],_,_,.nil=> .nil
 |x::l,_,hm,.cons h1 h2=> .cons _ _ _ _ (p.val (hm x (by simp)) h1) (Zh4 p (fun y hy=>hm y (by simp[hy])) h2)
theorem Zlx {P:Program} {t:TypeId} {d:TypeDesc} (h:P.underlying t=some d): ∃i,P.info? t=some i∧i.size=P.cellsOf t:=by
 unfold Program.underlying at h;unfold Program.cellsOf;cases hi:P.info? t with
 |none=>rw[hi]at h;cases h
 |some i=>exact⟨i,rfl,by simp⟩
theorem Zj {P:Program} {t:TypeId} {d:TypeDesc} (w:World) (h:P.underlying t=some d):(underlying t).run P w= .ok d w:=by
 simp[underlying,h]
theorem ZJ {P:Program} {t:TypeId} {d:TypeDesc} (w:World) (h:P.underlying t=some d):(sizeOf t).run P w= .ok (P.cellsOf t) w:=by
 obtain⟨i,h1,h2⟩:=Zlx h;simp[sizeOf,typeInfo,h1,h2]
theorem Zfl {P:Program} {t:TypeId} {d:TypeDesc} (w:World) (h:P.underlying t=some d):(isAgg t).run P w= .ok (ZG P t) w:=by
 simp only[isAgg,Sem.run_bind,Zj w h,Result.andThen_ok,ZG,h];cases d<;>rfl
theorem Zks {P:Program} {t:TypeId} {z:List DV} (w:World) (h:Zbp P t=some z): ∃v,(zeroValue t).run P w= .ok v w∧(∀(C:Cfg) ψ,VRs C ψ z v.cells.toList)∧z.all one=true:=by
 unfold Zbp at h;split at h
 ·rename_i i hi
  split at h
  ·rename_i v hv
   refine⟨v,by simp[zeroValue,typeInfo,hi,hv],fun C ψ=>(Zd9 h).1,?_⟩;exact(Zd9 (C:=⟨P,id,fun _=>true,id,id,fun _=>true,fun _=>[],fun _=>false⟩) (ψ:=fun _=>none) h).2
  ·cases h
 ·cases h
theorem Zrg {C:Cfg} {ψ:Ps} {w:World} {b:Nat} {c:Array Value} {ty:TypeId} {fr:Nat×Nat} {cells:List DV} (hb:w.heap[b]? =some (.cells c ty fr)) (hf:fr=(0,0)∨c.size≤fr.1)
  (hr:VRs C ψ cells (c.toList.take cells.length)) (ho:cells.all one=true):Holds C ψ w ⟨b,0,c.size⟩ (.cells false cells):=by
 have hl:cells.length≤c.size:=by
  have:=hr.len;simp only[List.length_take,Array.length_toList]at this;omega
 refine⟨hl,ho,fun j d hd=>?_,fun _=>⟨c,ty,fr,hb,by simp,fun j hj=>?_⟩⟩
 ·obtain⟨v,hv,hr'⟩:=hr.get hd
  refine⟨v,?_,hr'⟩;rw[List.getElem?_take]at hv;split at hv
  ·rw[cell_of_row w b _ c ty fr hb];simpa using hv
  ·cases hv
 ·rcases hf with hf|hf
  ·subst hf;simp
  ·simp only at hj
   have:decide (fr.1≤0+j)=false:=by simp;omega
   rw[this];rfl
theorem ZyG (a:Act) (t:Nat):a.eval (.tmp t)=a.tmps.getD t undef:=rfl
end Go.Gv
namespace Go.Gv
variable {β:Type}
section
variable {C:Cfg} {o:Oper} {D W:HId→Prop} {E:Env} {s:St} {md:Md} {pr ms:List Nat}
theorem Res.newL (hsp:Spec pr o) (hWD: ∀h,W h→D h) {K:Env→M β} {r:Out β×St} (t:Nat) (ht:o.dst=some t) (e:Ent) (ab:AB)
  (he:(∃n cells,e= .loc E.nxt n cells∧ab= .cells false cells∧cells.length=n)∨(∃l p,e= .it E.nxt l p∧ab= .iter l p))
  (hk:K ⟨E.nxt+1,(t,e)::E.l⟩ s=some r)
  (hrun: ∀ψ Q a w,Pre C o D E s ψ Q a w→∃w' cb,(execOp a.eval o).run C.P w= .ok (.value (.pointer (some ⟨cb.b,0,none⟩))) w'∧More w w'∧w.heap.size≤cb.b∧cb.b<w'.heap.size∧
   cb.o=0∧Holds C ψ w' cb ab):Res C md pr ms o D W E s K r:=by
 have hv:e.ver=some E.nxt:=by rcases he with⟨n,c,rfl,_⟩|⟨l,p,rfl,_⟩<;>rfl
 have get: ∀u,(⟨E.nxt+1,(t,e)::E.l⟩:Env).get u=if t=u then e else E.get u:=fun u=>Env.get_mk _ _ _ _ _
 have crn: ∀ab',CR ⟨E.nxt+1,(t,e)::E.l⟩ s (.inr E.nxt) ab'→EOK E→ab'=ab:=by
  intro ab' c hE;rcases c with⟨u,n,cs,h,hab⟩|⟨u,l,p,h,hab⟩<;>rw[get]at h<;>split at h
  ·rcases he with⟨n',c',rfl,rfl,_⟩|⟨l,p,rfl,_⟩
   ·cases h;exact hab
   ·cases h
  ·have:=hE.lt u E.nxt (by rw[h];rfl);omega
  ·rcases he with⟨n',c',rfl,rfl,_⟩|⟨l,p,rfl,rfl⟩
   ·cases h
   ·cases h;exact hab
  ·have:=hE.lt u E.nxt (by rw[h];rfl);omega
 have cro: ∀h ab',CR ⟨E.nxt+1,(t,e)::E.l⟩ s h ab'→h≠ .inr E.nxt→CR E s h ab':=by
  intro h ab' c hne;cases h with
  |inl i=>exact c
  |inr v=>
   rcases c with⟨u,n,cs,h,hab⟩|⟨u,l,p,h,hab⟩<;>rw[get]at h<;>split at h
   ·rw[h]at hv;cases hv;exact absurd rfl hne
   ·exact .inl ⟨u,n,cs,h,hab⟩
   ·rw[h]at hv;cases hv;exact absurd rfl hne
   ·exact .inr ⟨u,l,p,h,hab⟩
 have hnew:New E s ⟨E.nxt+1,(t,e)::E.l⟩ s (.inr E.nxt):=⟨by simp[Dom],by simp[Dom]⟩;refine .inl ⟨_,_,hk,⟨Nat.le_refl _,by simp,fun hE=>⟨?_,?_,?_,?_⟩,?_,(fun u d _ h=>by
   rw[get]at h;split at h
   ·rw[h]at hv;cases hv
   ·exact h),?_,?_,?_,?_,fun _ _ _=>rfl,.inr hsp,.inl rfl⟩,?_⟩
 ·intro u v h
  rw[get]at h;split at h
  ·rw[hv]at h;cases h;simp
  ·have:=hE.lt u v h;simp only;omega
 ·intro u x v n h
  rw[get]at h;split at h
  ·rw[h]at hv;cases hv
  ·have:=hE.pl u x v n h;simp only;omega
 ·intro u v n cs h
  rw[get]at h;split at h
  ·rcases he with⟨n',c',rfl,_,hl⟩|⟨l,p,rfl,_⟩
   ·cases h;exact hl
   ·cases h
  ·exact hE.len u v n cs h
 ·intro u u' v h h'
  rw[get]at h h';split at h<;>split at h'
  ·omega
  ·rw[hv]at h;cases h;have:=hE.lt u' _ h';omega
  ·rw[hv]at h';cases h';have:=hE.lt u _ h;omega
  ·exact hE.uniq u u' v h h'
 ·intro u h _
  rw[get,if_neg (fun e=>h (by rw[ht,e]))]
 ·intro u h C ψ x hr
  rw[get,if_neg (fun e=>h (by rw[ht,e]))];exact hr
 ·intro h ab' c
  by_cases eh:h= .inr E.nxt
  ·subst eh;exact .inr (.inl hnew)
  ·exact .inr (.inr (cro h ab' c eh))
 ·intro u v n cs h
  rw[get]at h;split at h
  ·rename_i hu;rw[h]at hv;simp only[Ent.ver,Option.some.injEq]at hv;exact .inr ⟨by omega,by rw[ht,hu]⟩
  ·exact .inl ⟨cs,h⟩
 ·intro u v l p h
  rw[get]at h;split at h
  ·rename_i hu;rw[h]at hv;simp only[Ent.ver,Option.some.injEq]at hv;exact .inr ⟨by omega,by rw[ht,hu]⟩
  ·exact .inl ⟨p,h⟩
 ·intro ψ Q a w next QQ p room hn
  obtain⟨w',cb,hr,hm,h1,h2,h0,hh⟩:=hrun ψ Q a w p;have hf:=room _ hnew;unfold Oper.wp;rw[hr];refine hn _ _ _ w' ⟨Sim.new (cb:=cb) (ab:=ab) p.sim p.blks hm hf h1 (hh.same (fun _ _ e=>Zb8 hf _ _ e) rfl),Ext.new hm hf h1 h2,fun h c e=>?_,fun h ab' c cr hw e=>?_,fun h ab' c e q _ _=>?_⟩ (fun d' hd=>?_)
  ·by_cases eh:h= .inr E.nxt
   ·subst eh;exact .inr hnew
   ·rw[ZbJ _ _ eh]at e;exact .inl e
  ·by_cases eh:h= .inr E.nxt
   ·subst eh;exact .inl ⟨rfl,crn _ cr p.eok⟩
   ·refine .inr ⟨eh,?_⟩
    rw[ZbJ _ _ eh]at e;rcases hw with hw|⟨n1,n2⟩
    ·exact p.know h ab' c (hWD h hw) (cro h ab' cr eh) e
    ·exact absurd ((cro h ab' cr eh).dom p.eok) n1
  ·refine .inr ⟨fun eh=>?_,q⟩
   subst eh;rw[hf]at e;cases e
  ·rw[ht]at hd;cases hd
   rw[get,if_pos rfl];rcases he with⟨n',c',rfl,_,hl⟩|⟨l,p,rfl,_⟩
   ·exact⟨cb,Zbg _ _ _,h0,rfl⟩
   ·exact⟨cb,Zbg _ _ _,rfl⟩
theorem Res.newVar (hal:(∃t,o.op= .alloc t)∨(∃t y,o.op= .box t y)) (hWD: ∀h,W h→D h) {K:Env→M β} {r:Out β×St} {n:Nat} {cells:List DV} (hlen:cells.length=n) (h:Zmu pr o n cells E K s=some r)
  (hrun: ∀ψ Q a w,Pre C o D E s ψ Q a w→∃w' cb,(execOp a.eval o).run C.P w= .ok (.value (.pointer (some ⟨cb.b,0,none⟩))) w'∧More w w'∧w.heap.size≤cb.b∧cb.b<w'.heap.size∧
   cb.o=0∧Holds C ψ w' cb (.cells false cells)):Res C md pr ms o D W E s K r:=by
 unfold Zmu at h;cases ht:o.dst with
 |none=>rw[ht]at h;cases h
 |some t=>
  rw[ht]at h;simp only at h;cases hp:has pr t with
  |true=>
   rw[hp]at h;simp only[cond_true]at h;exact Res.newL (by rcases hal with⟨t,ho⟩|⟨t,y,ho⟩<;>(unfold Spec;rw[ho];exact⟨_,ht,hp⟩)) hWD t ht _ _ (.inl ⟨n,cells,rfl,rfl,hlen⟩) h hrun
  |false=>
   rw[hp]at h;simp only[cond_false]at h;refine Res.newH (by rcases hal with⟨t,ho⟩|⟨t,y,ho⟩<;>(unfold NewOp;rw[ho];trivial)) hWD (.ptr (some (s.length,0))) cells (by simpa [putK,Env.putO,ht,M.new]using h) fun ψ Q a w p=>?_
   obtain⟨w',cb,hr,hm,h1,h2,h0,hh⟩:=hrun ψ Q a w p;refine⟨_,w',cb,hr,hm,h1,h2,hh,fun ψ' _ e=>?_⟩;have:=VR.ptr (C:=C) (ψ:=ψ') s.length 0 cb e
   rwa [h0]at this
theorem Zkk {P:Program} (t:TypeId) (v:Value) (w:World):(newVar t v).run P w= .ok ⟨w.heap.size,0,none⟩ (w.alloc (.cells v.cells t)):=by
 simp[newVar,newRow]
theorem Zo2 {y:Operand} (ho:o.op= .move y∨o.op= .assign y) (hWD: ∀h,W h→D h) {K:Env→M β} {r:Out β×St} (h:putE E o K (E.src C y) s=some r):Res C md pr ms o D W E s K r:=by
 refine Res.pure hWD (E.src C y) (Env.src_ver C E y) (fun hE r v n h=>Env.src_pl C hE h) h fun ψ Q a w p=>⟨a.eval y,w,?_,.refl w,p.src ?_⟩
 ·rcases ho with ho|ho<;>simp[execOp,ho]
 ·rcases ho with ho|ho<;>simp[Op.operands,ho]
theorem Zwa {b y z:Operand} (ho:o.op= .pick b y z) (hWD: ∀h,W h→D h) {K:Env→M β} {r:Out β×St} (h:Zs9 C E o K b y z s=some r):Res C md pr ms o D W E s K r:=by
 unfold Zs9 at h;obtain⟨t,hb,h⟩:=Zkq h;have hbv: ∀ψ Q a w,Pre C o D E s ψ Q a w→a.eval b= .bool t:=fun ψ Q a w p=>by
  have:=p.val (x:=b) (by simp[Op.operands,ho]) hb;generalize a.eval b=v at this;cases this;rfl
 cases t with
 |true=>
  refine Res.pure hWD (E.src C y) (Env.src_ver C E y) (fun hE r v n h=>Env.src_pl C hE h) h fun ψ Q a w p=>⟨a.eval y,w,?_,.refl w,p.src (by simp[Op.operands,ho])⟩
  simp[execOp,ho,hbv ψ Q a w p,asBool]
 |false=>
  refine Res.pure hWD (E.src C z) (Env.src_ver C E z) (fun hE r v n h=>Env.src_pl C hE h) h fun ψ Q a w p=>⟨a.eval z,w,?_,.refl w,p.src (by simp[Op.operands,ho])⟩
  simp[execOp,ho,hbv ψ Q a w p,asBool]
theorem Zdh {ψ:Ps} {w:World} {t:TypeId} {c:Array Value} {cells:List DV} (hr:VRs C ψ cells (c.toList.take cells.length)) (ho:cells.all one=true):
  Holds C ψ (w.alloc (.cells c t)) ⟨w.heap.size,0,c.size⟩ (.cells false cells):=
 Zrg (heap_alloc_new w _) (.inl rfl) hr ho
theorem Zia {α:Type} {l:List α} {n:Nat} (h:n=l.length):l.take n=l:=by subst h;simp
theorem Zu4 {t:TypeId} (ho:o.op= .alloc t) (hWD: ∀h,W h→D h) {K:Env→M β} {r:Out β×St} (h:Zpy C E o K pr t s=some r):Res C md pr ms o D W E s K r:=by
 unfold Zpy at h;cases hz:Zbp C.P t with
 |none=>rw[hz]at h;cases h
 |some z=>
  rw[hz]at h;simp only at h;obtain⟨hl,h⟩:=Zo h;refine Res.newVar (.inl ⟨t,ho⟩) hWD (Nat.eq_of_beq_eq_true hl) h fun ψ Q a w p=>?_
  obtain⟨v,hv,hr,h1⟩:=Zks w hz;refine⟨w.alloc (.cells v.cells t),⟨w.heap.size,0,v.cells.size⟩,?_,.alloc w _,Nat.le_refl _,by simp,rfl,?_⟩
  ·simp[execOp,ho,Instr.alloc,hv,Zkk]
  ·exact Zdh (by rw[Zia (by simpa using (hr C ψ).len)];exact hr C ψ) h1
theorem Zni {P:Program} {t:TypeId} {d:DV} {K:List DV→M β} {r:Out β×St} (h:ZoB P t d K s=some r):
  ∃ds td,P.underlying t=some td∧K ds s=some r∧ds.length=P.cellsOf t∧∀(C:Cfg) ψ v,VR C ψ d v→VRs C ψ ds v.cells.toList∧ds.all one=true∧v.cells.size=P.cellsOf t:=by
 unfold ZoB at h;obtain⟨td,htd,h⟩:=Z9 h;cases ha:ZG P t with
 |true=>
  rw[ha]at h;simp only[cond_true]at h;cases d with
  |agg cs=>
   obtain⟨hl,h⟩:=Znn h;refine⟨cs,td,htd,h,hl,fun C ψ v hv=>?_⟩;cases hv with
   |agg _ vs a b=>exact⟨a,b,by rw[←hl,a.len];simp[Value.cells]⟩
  |_=>cases h
 |false=>
  rw[ha]at h;simp only[cond_false]at h;obtain⟨hc,h⟩:=Zo h;obtain⟨h1,h⟩:=ZK h;have hc:=Nat.eq_of_beq_eq_true hc;refine⟨[d],td,htd,h,by simp[hc],fun C ψ v hv=>?_⟩;rw[hv.cells1 h1];exact⟨.cons _ _ _ _ hv .nil,by simp[h1],by simp[hc]⟩
theorem Zw5 {t:TypeId} {y:Operand} (ho:o.op= .box t y) (hWD: ∀h,W h→D h) {K:Env→M β} {r:Out β×St} (h:opBox C E o K pr t y s=some r):Res C md pr ms o D W E s K r:=by
 unfold opBox at h;obtain⟨d,hd,h⟩:=Zr h;obtain⟨ds,td,htd,h,hl,hv⟩:=Zni h;refine Res.newVar (.inr ⟨t,y,ho⟩) hWD hl h fun ψ Q a w p=>?_
 obtain⟨h1,h2,h3⟩:=hv C ψ _ (p.val (x:=y) (by simp[Op.operands,ho]) hd);refine⟨w.alloc (.cells (a.eval y).cells t),⟨w.heap.size,0,(a.eval y).cells.size⟩,?_,.alloc w _,Nat.le_refl _,by simp,rfl,?_⟩
 ·simp[execOp,ho,Instr.box,Zkk]
 ·exact Zdh (by rw[Zia (by simpa using h1.len)];exact h1) h2
theorem ZpY {y:Operand} (ho:o.op= .nilCheck y) (hWD: ∀h,W h→D h) {K:Env→M β} {r:Out β×St} (h:ZkN C E o K y s=some r):Res C md pr ms o D W E s K r:=by
 unfold ZkN at h;rcases Zfs h with⟨t,v,n,he,h⟩|⟨i,n,he,h⟩
 ·refine Res.pure hWD (.pl t v n) rfl (fun hE r v' n' e=>by cases e;exact Env.src_pl C hE he) h fun ψ Q a w p=>⟨a.eval y,w,?_,.refl w,?_⟩
  ·have:=p.src (x:=y) (by simp[Op.operands,ho])
   rw[he]at this;obtain⟨cb,_,_,h3⟩:=this;simp[execOp,ho,h3]
  ·have:=p.src (x:=y) (by simp[Op.operands,ho])
   rw[he]at this;exact this
 ·refine Res.val hWD (.ptr (some (i,n))) h fun ψ Q a w p=>⟨a.eval y,w,?_,.refl w,?_⟩
  ·have:=p.val (x:=y) (by simp[Op.operands,ho]) he
   generalize hx:a.eval y=x at this;cases this;simp[execOp,ho,hx]
  ·exact p.val (x:=y) (by simp[Op.operands,ho]) he
theorem ZyR {op:UnOp} {t:TypeId} {y:Operand} (ho:o.op= .unOp op t y) (hWD: ∀h,W h→D h) {K:Env→M β} {r:Out β×St} (h:opUn C E o K op y s=some r):Res C md pr ms o D W E s K r:=by
 unfold opUn at h;obtain⟨d,hd,h⟩:=Zr h;unfold unK at h;split at h
 ·refine Res.val hWD _ h fun ψ Q a w p=>?_
  have:=p.val (x:=y) (by simp[Op.operands,ho]) hd;generalize hx:a.eval y=x at this;cases this;exact⟨_,w,by simp[execOp,ho,hx,Op.unary],.refl w,.bool _⟩
 ·refine Res.val hWD _ h fun ψ Q a w p=>?_
  have:=p.val (x:=y) (by simp[Op.operands,ho]) hd;generalize hx:a.eval y=x at this;cases this;exact⟨_,w,by simp[execOp,ho,hx,Op.unary,Op.intArith],.refl w,.int _ _⟩
 ·cases h
theorem ZuY {t:TypeId} {y:Operand} (ho:o.op= .makeInterface t y) (hWD: ∀h,W h→D h) {K:Env→M β} {r:Out β×St} (h:ZpD C E o K t y s=some r):Res C md pr ms o D W E s K r:=by
 unfold ZpD at h;cases ht:C.P.underlying t with
 |none=>rw[ht]at h;cases h
 |some td=>
  have hni: ∀m,td≠ .interface m:=by rintro m rfl;rw[ht]at h;cases h
  have h':valK C E y (fun d=>putK E o K (.iface (C.ty t) d)) s=some r:=by rw[ht]at h;cases td<;>first|exact h|exact absurd rfl (hni _)
  obtain⟨d,hd,h'⟩:=Zr h';refine Res.val hWD _ h' fun ψ Q a w p=>⟨.iface t (a.eval y),w,?_,.refl w,.iface _ _ _ (p.val (x:=y) (by simp[Op.operands,ho]) hd)⟩
  simp only[execOp,ho,Instr.makeInterface,Sem.run_bind,Zj w ht,Result.andThen_ok];cases td<;>first|rfl|exact absurd rfl (hni _)
theorem Zv1 {f:Fn} {first cap:Array Operand} (ho:o.op= .makeFunc f first cap) (hWD: ∀h,W h→D h) {K:Env→M β} {r:Out β×St} (h:ZsJ C E o K f first cap s=some r):Res C md pr ms o D W E s K r:=by
 unfold ZsJ at h;cases f with
 |func f=>
  simp only at h;obtain⟨hc,h⟩:=Zo h;obtain⟨fs,h,h1⟩:=Zft h;obtain⟨cs,h,h2⟩:=Zft h;refine Res.val hWD _ h fun ψ Q a w p=>⟨.func (.func f) (first.map a.eval) (cap.map a.eval),w,by simp[execOp,ho,Instr.makeFunc],.refl w,.func _ _ _ _ _ hc ?_ ?_⟩
  ·have:=Zh4 p (l:=first.toList) (fun x hx=>by simp only[Op.operands,ho,Array.mem_append];exact .inl (by simpa using hx)) h1
   simpa using this
  ·have:=Zh4 p (l:=cap.toList) (fun x hx=>by simp only[Op.operands,ho,Array.mem_append];exact .inr (by simpa using hx)) h2
   simpa using this
 |_=>cases h
theorem Zse {t i:Nat} (ho:o.op= .extract (.tmp t) i) (hWD: ∀h,W h→D h) {K:Env→M β} {r:Out β×St} (h:ZlP E o K t i s=some r):Res C md pr ms o D W E s K r:=by
 unfold ZlP at h;cases he:E.get t with
 |tup ds=>
  rw[he]at h;simp only at h;cases hd:ds[i]? with
  |none=>rw[hd]at h;cases h
  |some d=>
   rw[hd]at h;refine Res.val hWD d h fun ψ Q a w p=>?_
   have:=p.args t (by simp[Op.operands,ho]);rw[he]at this;obtain⟨vs,hvs,hr⟩:=this;obtain⟨v,hv,hr⟩:=hr.get hd;refine⟨v,w,?_,.refl w,hr⟩;have hv':vs[i]? =some v:=by simpa using hv
   simp[execOp,ho,ZyG,hvs,Instr.extract,hv']
 |_=>rw[he]at h;cases h
end
end Go.Gv
namespace Go.Gv
variable {β:Type}
section
variable {C:Cfg} {o:Oper} {D W:HId→Prop} {E:Env} {s:St} {md:Md} {pr ms:List Nat}
theorem Z3 (P:Program) (a:Addr) (w:World):(Instr.sureAddr (.pointer (some a))).run P w= .ok a w:=rfl
theorem Zpb {t:TypeId} {y:Operand} {f:Nat} (ho:o.op= .fieldAddr t y f) (hWD: ∀h,W h→D h) {K:Env→M β} {r:Out β×St} (h:ZgC C E o K t y f s=some r):Res C md pr ms o D W E s K r:=by
 unfold ZgC at h;cases ht:C.P.underlying t with
 |none=>rw[ht]at h;cases h
 |some td=>
  rw[ht]at h;cases td with
  |struct fs=>
   simp only at h;cases hf:fs[f]? with
   |none=>rw[hf]at h;cases h
   |some fd=>
    rw[hf]at h;simp only at h;obtain⟨hc,h⟩:=ZfL h;have hc:=Nat.ne_of_beq_eq_false hc;have hsz: ∀w,(sizeOf fd.type).run C.P w= .ok (C.P.cellsOf fd.type) w:=by
     intro w;unfold Program.cellsOf at hc⊢;cases hi:C.P.info? fd.type with
     |none=>rw[hi]at hc;simp at hc
     |some i=>simp[sizeOf,typeInfo,hi]
    have run: ∀(a:Act) (w:World) b n,a.eval y= .pointer (some ⟨b,n,none⟩)→(execOp a.eval o).run C.P w= .ok (.value (.pointer (some ⟨b,n+fd.offset,none⟩))) w:=by
     intro a w b n hy;simp[execOp,ho,hy,Instr.fieldAt,Zj w ht,hf,Z3,fieldPlace,hsz,hc,ZdM]
    rcases Zfs h with⟨x,v,n,he,h⟩|⟨i,n,he,h⟩
    ·refine Res.pure hWD _ rfl (fun hE r v' n' e=>by cases e;exact Env.src_pl C hE he) h fun ψ Q a w p=>?_
     have:=p.src (x:=y) (by simp[Op.operands,ho]);rw[he]at this;obtain⟨cb,h1,h2,h3⟩:=this;exact⟨_,w,run a w _ _ h3,.refl w,cb,h1,h2,rfl⟩
    ·refine Res.val hWD _ h fun ψ Q a w p=>?_
     have:=p.val (x:=y) (by simp[Op.operands,ho]) he;generalize hy:a.eval y=v at this;cases this with
     |ptr _ _ cb e=>exact⟨_,w,run a w _ _ hy,.refl w,by rw[Nat.add_assoc];exact .ptr _ _ cb e⟩
  |_=>cases h
theorem Zgz (P:Program) (k:IntKind) (n:Int) (w:World):(asIntOf (.int k n)).run P w= .ok (k,n) w:=rfl
theorem Zj9 {n:Int} {m:Nat} (h:inB n m=true):0≤n∧n<m:=by
 simp only[inB,Bool.and_eq_true,decide_eq_true_eq]at h;exact h
theorem Zn4 {t:TypeId} {y i:Operand} (ho:o.op= .indexAddr t y i) (hWD: ∀h,W h→D h) {K:Env→M β} {r:Out β×St} (h:ZjG C E o K t y i s=some r):Res C md pr ms o D W E s K r:=by
 unfold ZjG at h;obtain⟨k,n,hi,h⟩:=Ze8 h;have iv: ∀ψ Q a w,Pre C o D E s ψ Q a w→a.eval i= .int k n:=fun ψ Q a w p=>by
  have:=p.val (x:=i) (by simp[Op.operands,ho]) hi;generalize a.eval i=v at this;cases this;rfl
 cases ht:C.P.underlying t with
 |none=>rw[ht]at h;cases h
 |some td=>
  rw[ht]at h;cases td with
  |slice e=>
   simp only at h;obtain⟨ed,he,h⟩:=Z9 h;obtain⟨d,hd,h⟩:=Zr h;cases d with
   |slice z a m=>
    simp only at h;obtain⟨hz,h⟩:=Zo h;obtain⟨j,p0,rfl,h⟩:=Zqt h;obtain⟨hb,h⟩:=ZK h;obtain⟨hb1,hb2⟩:=Zj9 hb;simp only[Option.isNone_some,Bool.or_false]at hz;have hz:=Nat.eq_of_beq_eq_true hz;refine Res.val hWD _ h fun ψ Q a w p=>?_
    have hv:=p.val (x:=y) (by simp[Op.operands,ho]) hd;generalize hy:a.eval y=v at hv;cases hv with
    |slice _ _ _ _ cb ad cap e1 e2 e3=>
     obtain⟨e4,e5⟩:=e3 (by omega);refine⟨.pointer (some ⟨cb.b,cb.o+(n.toNat*C.P.cellsOf e+p0),none⟩),w,?_,.refl w,.ptr _ _ cb e1⟩;rw[Nat.add_comm _ p0];simp[execOp,ho,hy,iv ψ Q a w p,Instr.indexAt,Zj w ht,Zgz,hb1,hb2,ZJ w he,e4,ZdM,Nat.add_assoc]
   |_=>cases h
  |array m e=>
   simp only at h;obtain⟨ed,he,h⟩:=Z9 h;have run: ∀ψ Q (a:Act) (w:World) b p0,Pre C o D E s ψ Q a w→a.eval y= .pointer (some ⟨b,p0,none⟩)→0≤n→n<m→
     (execOp a.eval o).run C.P w= .ok (.value (.pointer (some ⟨b,p0+n.toNat*C.P.cellsOf e,none⟩))) w:=by
    intro ψ Q a w b p0 p hy hb1 hb2;simp[execOp,ho,hy,iv ψ Q a w p,Instr.indexAt,Zj w ht,Zgz,hb1,hb2,Z3,ZJ w he,ZdM]
   rcases Zfs h with⟨x,v,p0,hx,h⟩|⟨x,p0,hx,h⟩
   ·obtain⟨hb,h⟩:=ZK h
    obtain⟨hb1,hb2⟩:=Zj9 hb;refine Res.pure hWD _ rfl (fun hE r v' n' e=>by cases e;exact Env.src_pl C hE hx) h fun ψ Q a w p=>?_
    have:=p.src (x:=y) (by simp[Op.operands,ho]);rw[hx]at this;obtain⟨cb,h1,h2,h3⟩:=this;exact⟨_,w,run ψ Q a w _ _ p h3 hb1 hb2,.refl w,cb,h1,h2,by rw[Nat.add_comm]⟩
   ·obtain⟨hb,h⟩:=ZK h
    obtain⟨hb1,hb2⟩:=Zj9 hb;refine Res.val hWD _ h fun ψ Q a w p=>?_
    have:=p.val (x:=y) (by simp[Op.operands,ho]) hx;generalize hy:a.eval y=v at this;cases this with
    |ptr _ _ cb e1=>exact⟨_,w,run ψ Q a w _ _ p hy hb1 hb2,.refl w,by rw[Nat.add_comm _ p0,Nat.add_assoc];exact .ptr _ _ cb e1⟩
  |_=>cases h
theorem ZsM {P:Program} {t:TypeId} {d:TypeDesc} (w:World) (h:P.underlying t=some d) (ha:ZG P t=true) (cs:Array Value) (off:Nat):
  (Go.part t cs off).run P w= .ok (.agg (cs.extract off (off+P.cellsOf t))) w:=by
 simp[Go.part,Zfl w h,ha,ZJ w h]
theorem Zug {P:Program} {t:TypeId} {d:TypeDesc} (w:World) (h:P.underlying t=some d) (ha:ZG P t=false) {cs:Array Value} {off:Nat} {v:Value} (hv:cs[off]? =some v):
  (Go.part t cs off).run P w= .ok v w:=by
 simp[Go.part,Zfl w h,ha,hv]
theorem ZuH {ψ:Ps} {ds:List DV} {vs:Array Value} (h:VRs C ψ ds vs.toList) (off n:Nat):VRs C ψ ((ds.drop off).take n) (vs.extract off (off+n)).toList:=by
 have:=(h.drop off).take n;rw[Array.toList_extract,List.extract_eq_take_drop];simpa using this
theorem Zqk {cs:List DV} {off n:Nat} (h:cs.all one=true):((cs.drop off).take n).all one=true:=
 List.all_eq_true.2 fun _ hx=>List.all_eq_true.1 h _ (List.mem_of_mem_drop (List.mem_of_mem_take hx))
theorem Zta {t:TypeId} {td:TypeDesc} (ht:C.P.underlying t=some td) (hWD: ∀h,W h→D h) {K:Env→M β} {r:Out β×St} {cs:List DV} {off:Nat}
  (h:(bif ZG C.P t then putK E o K (.agg ((cs.drop off).take (C.P.cellsOf t)))else Go.Gv.D.nth cs off fun d=>dsh (shOf C.P t) d (putK E o K)) s=some r)
  (hrun: ∀ψ Q a w,Pre C o D E s ψ Q a w→∃vs,VRs C ψ cs vs.toList∧cs.all one=true∧(∀v,(Go.part t vs off).run C.P w= .ok v w→(execOp a.eval o).run C.P w= .ok (.value v) w)):Res C md pr ms o D W E s K r:=by
 cases ha:ZG C.P t with
 |true=>
  rw[ha]at h;refine Res.val hWD _ h fun ψ Q a w p=>?_
  obtain⟨vs,h1,h2,h3⟩:=hrun ψ Q a w p;exact⟨_,w,h3 _ (ZsM w ht ha vs off),.refl w,.agg _ _ (ZuH h1 _ _) (Zqk h2)⟩
 |false=>
  rw[ha]at h;simp only[cond_false]at h;obtain⟨d,hd,h⟩:=Zkt h;obtain⟨d',h,hr,_⟩:=ZkL h;refine Res.val hWD _ h fun ψ Q a w p=>?_
  obtain⟨vs,h1,h2,h3⟩:=hrun ψ Q a w p;obtain⟨v,hv,hr'⟩:=h1.get hd;exact⟨v,w,h3 _ (Zug w ht ha (by simpa using hv)),.refl w,hr C ψ v hr'⟩
theorem Zva {t:TypeId} {y:Operand} {f:Nat} (ho:o.op= .field t y f) (hWD: ∀h,W h→D h) {K:Env→M β} {r:Out β×St} (h:Zp3 C E o K t y f s=some r):Res C md pr ms o D W E s K r:=by
 unfold Zp3 at h;cases ht:C.P.underlying t with
 |none=>rw[ht]at h;cases h
 |some td=>
  rw[ht]at h;cases td with
  |struct fs=>
   simp only at h;cases hf:fs[f]? with
   |none=>rw[hf]at h;cases h
   |some fd=>
    rw[hf]at h;simp only at h;obtain⟨ed,he,h⟩:=Z9 h;obtain⟨d,hd,h⟩:=Zr h;cases d with
    |agg cs=>
     refine Zta he hWD h fun ψ Q a w p=>?_
     have hv:=p.val (x:=y) (by simp[Op.operands,ho]) hd;generalize hy:a.eval y=v at hv;cases hv with
     |agg _ vs h1 h2=>exact⟨vs,h1,h2,fun v hp=>by simp[execOp,ho,hy,Instr.field,Zj w ht,hf,asAgg,hp]⟩
    |_=>cases h
  |_=>cases h
theorem ZxF (s:ByteArray) (i:Nat):s[i]? =s.data.toList[i]? :=by
 rcases Nat.lt_or_ge i s.data.toList.length with h|h
 ·have h':i<s.size:=by rw[Array.length_toList]at h;exact h
  rw[List.getElem?_eq_getElem h,getElem?_pos s i h',ByteArray.getElem_eq_getElem_data,Array.getElem_toList]
 ·have h': ¬i<s.size:=by rw[Array.length_toList]at h;exact Nat.not_lt.2 h
  rw[List.getElem?_eq_none h,getElem?_neg s i h']
theorem Zuw {t:TypeId} {y i:Operand} (ho:o.op= .index t y i) (hWD: ∀h,W h→D h) {K:Env→M β} {r:Out β×St} (h:Zqo C E o K t y i s=some r):Res C md pr ms o D W E s K r:=by
 unfold Zqo at h;obtain⟨k,n,hi,h⟩:=Ze8 h;obtain⟨d,hd,h⟩:=Zr h;have iv: ∀ψ Q a w,Pre C o D E s ψ Q a w→a.eval i= .int k n:=fun ψ Q a w p=>by
  have:=p.val (x:=i) (by simp[Op.operands,ho]) hi;generalize a.eval i=v at this;cases this;rfl
 cases ht:C.P.underlying t with
 |none=>rw[ht]at h;cases h
 |some td=>
  rw[ht]at h;cases td with
  |string=>
   cases d with
   |str l=>
    simp only at h;obtain⟨hb,h⟩:=ZK h;obtain⟨hb1,hb2⟩:=Zj9 hb;refine Res.val hWD _ h fun ψ Q a w p=>?_
    have hv:=p.val (x:=y) (by simp[Op.operands,ho]) hd;generalize hy:a.eval y=v at hv;cases hv with
    |str x=>
     have hlt:n.toNat<x.data.toList.length:=by omega
     have hg:x[n.toNat]? =some x.data.toList[n.toNat]:=by rw[ZxF];exact List.getElem?_eq_getElem hlt
     refine⟨.int .u8 (ZC x.data.toList n),w,?_,.refl w,.int _ _⟩;simp only[execOp,ho,hy,iv ψ Q a w p,Instr.index,Sem.run_bind,Zgz,Zj w ht,Result.andThen_ok,hb1,if_true,hg,Sem.run_pure,ZC];congr 3;simp[List.getD,List.getElem?_eq_getElem hlt]
   |_=>cases h
  |array m e=>
   cases d with
   |agg cs=>
    simp only at h;obtain⟨ed,he,h⟩:=Z9 h;obtain⟨hb,h⟩:=ZK h;obtain⟨hb1,hb2⟩:=Zj9 hb;refine Zta he hWD h fun ψ Q a w p=>?_
    have hv:=p.val (x:=y) (by simp[Op.operands,ho]) hd;generalize hy:a.eval y=v at hv;cases hv with
    |agg _ vs h1 h2=>exact⟨vs,h1,h2,fun v hp=>by simp[execOp,ho,hy,iv ψ Q a w p,Instr.index,Zgz,Zj w ht,hb1,hb2,ZJ w he,hp]⟩
   |_=>cases h
  |_=>cases d<;>cases h
end
end Go.Gv
namespace Go.Gv
variable {β:Type}
theorem Ztk {P:Program} {t:TypeId} {y:B} (h:shOf P t= .b y):ZG P t=false:=by
 unfold shOf at h;cases ha:ZG P t with
 |false=>rfl
 |true=>rw[ha]at h;cases h
theorem ZtR {P:Program} {t:TypeId} {l:List B} (h:shOf P t= .agg l):ZG P t=true:=by
 unfold shOf at h;cases ha:ZG P t with
 |true=>rfl
 |false=>rw[ha]at h;simp only[cond_false]at h;split at h<;>cases h
theorem ZiN {C:Cfg} {ψ:Ps} {w:World} {cb:CB} {f:Bool} {cs:List DV} {p:Nat} {d:DV} {P:Program} (h:Holds C ψ w cb (.cells f cs)) (hd:cs[p]? =some d):
  ∃v,(load ⟨cb.b,cb.o+p,none⟩).run P w= .ok v w∧VR C ψ d v∧one d=true:=by
 obtain⟨v,hv,hr⟩:=h.2.2.1 p d hd;exact⟨v,by rw[run_load,hv],hr,List.all_eq_true.1 h.2.1 _ (List.mem_of_getElem? hd)⟩
theorem Zmc {C:Cfg} {ψ:Ps} {w:World} {cb:CB} {f:Bool} {cs:List DV} {p n:Nat} {P:Program} (h:Holds C ψ w cb (.cells f cs)) (hn:p+n≤cs.length):
  ∃vs,(∀w',w'.heap=w.heap→(loadCells ⟨cb.b,cb.o+p,none⟩ n).run P w'= .ok vs w')∧vs.size=n∧VRs C ψ ((cs.drop p).take n) vs.toList∧((cs.drop p).take n).all one=true:=by
 have hc: ∀j,j<n→∃v,w.cell? ⟨cb.b,cb.o+p+j,none⟩=some v∧∀d,cs[p+j]? =some d→VR C ψ d v:=by
  intro j hj;obtain⟨v,hv,hr⟩:=h.2.2.1 (p+j) cs[p+j] (List.getElem?_eq_getElem (by omega));exact⟨v,by rw[Nat.add_assoc];exact hv,fun d hd=>by rw[List.getElem?_eq_getElem (by omega)]at hd;cases hd;exact hr⟩
 let f:Nat→Value:=fun j=>(w.cell? ⟨cb.b,cb.o+p+j,none⟩).getD undef
 have hf: ∀w':World,w'.heap=w.heap→∀j,j<n→w'.cell? ((⟨cb.b,cb.o+p,none⟩:Addr).add j)=some (f j):=by
  intro w' hw j hj;obtain⟨v,hv,_⟩:=hc j hj;have e:w'.cell? ((⟨cb.b,cb.o+p,none⟩:Addr).add j)=w.cell? ((⟨cb.b,cb.o+p,none⟩:Addr).add j):=by simp only[World.cell?,hw]
  rw[e,ZdM,hv];simp[f,hv]
 refine⟨_,fun w' hw=>run_loadCells w' _ n f (hf w' hw),by simp,VRs.of _ _ ?_ ?_,Zqk h.2.1⟩
 ·simp;omega
 ·intro j d v h1 h2
  rw[List.getElem?_take]at h1;split at h1
  ·rename_i hj
   rw[List.getElem?_drop]at h1;obtain⟨v',hv',hr⟩:=hc j hj;simp only[List.getElem?_map,List.getElem?_range,hj,Option.map_some,Option.some.injEq]at h2;rw[←h2];simp only[f,hv',Option.getD_some];exact hr d h1
  ·cases h1
theorem Zgx {C:Cfg} {ψ:Ps} {w:World} {cb:CB} {f:Bool} {cs:List DV} {p n:Nat} {P:Program} (h:Holds C ψ w cb (.cells f cs)) (hn:p+n≤cs.length):
  ∃vs,(loadCells ⟨cb.b,cb.o+p,none⟩ n).run P w= .ok vs w∧vs.size=n∧VRs C ψ ((cs.drop p).take n) vs.toList∧((cs.drop p).take n).all one=true:=
 let ⟨vs,a,b⟩:=Zmc (P:=P) h hn
 ⟨vs,a w rfl,b⟩
section
variable {C:Cfg} {o:Oper} {D W:HId→Prop} {E:Env} {s:St} {md:Md} {pr ms:List Nat}
theorem Zdp {P:Program} {t:TypeId} {td:TypeDesc} (ht:P.underlying t=some td) (ha:ZG P t=true) (a:Addr) (w:World) {vs:Array Value} (h:(loadCells a (P.cellsOf t)).run P w= .ok vs w):
  (loadVar t a).run P w= .ok (.agg vs) w:=by
 simp[loadVar,Zfl w ht,ha,ZJ w ht,h]
theorem ZcC {P:Program} {t:TypeId} {td:TypeDesc} (ht:P.underlying t=some td) (ha:ZG P t=false) (a:Addr) (w:World) {v:Value} (h:(load a).run P w= .ok v w):
  (loadVar t a).run P w= .ok v w:=by
 rw[loadVar,Sem.run_bind,Zfl w ht,ha];simpa using h
theorem Zy7 {n:Nat} {cs:List DV} {p m:Nat} (hn:cs.length=n):part n cs p m=(cs.drop p).take m:=by
 unfold part;cases h:Nat.beq m n&&Nat.beq p 0 with
 |false=>rfl
 |true=>
  simp only[Bool.and_eq_true]at h;have h1:=Nat.eq_of_beq_eq_true h.2;have h2:=Nat.eq_of_beq_eq_true h.1;subst h1;subst h2;subst hn;simp
theorem ZqC {n m:Nat} {cs:List DV} {p:Nat} {ds:List DV} (hn:cs.length=n) (hd:ds.length=m) (hp:p+m≤n):splV n m cs p ds=spl cs p ds:=by
 unfold splV;cases h:Nat.beq m n&&Nat.beq p 0 with
 |false=>rfl
 |true=>
  simp only[Bool.and_eq_true]at h;have h1:=Nat.eq_of_beq_eq_true h.2;have h2:=Nat.eq_of_beq_eq_true h.1;subst h1;subst h2;subst hn;simp only[cond_true];apply List.ext_getElem?;intro j;rw[ZjZ cs 0 ds j (by omega)];by_cases hj:j<ds.length
  ·rw[if_pos (by omega)];simp
  ·rw[if_neg (by omega),List.getElem?_eq_none (by omega),List.getElem?_eq_none (by omega)]
theorem ZgS {i p n:Nat} {K:List DV→M β} {s:St} {r:Out β×St} (h:M.load i p n K s=some r): ∃f cs,stAB s i=some (.cells f cs)∧p+n≤cs.length∧K ((cs.drop p).take n) s=some r:=by
 unfold M.load at h;unfold St.cells at h;unfold stAB;cases hs:s[i]? with
 |none=>rw[hs]at h;cases h
 |some x=>
  cases x with
  |none=>rw[hs]at h;cases h
  |some b=>
   rw[hs]at h;simp only at h;cases hb:Nat.ble (p+n) b.cells.length with
   |false=>rw[hb]at h;cases h
   |true=>rw[hb]at h;exact⟨_,_,rfl,Nat.le_of_ble_eq_true hb,h⟩
theorem Zpd {i p:Nat} {K:DV→M β} {s:St} {r:Out β×St} (h:M.load1 i p K s=some r): ∃f cs d,stAB s i=some (.cells f cs)∧cs[p]? =some d∧K d s=some r:=by
 unfold M.load1 at h;unfold St.cells at h;unfold stAB;cases hs:s[i]? with
 |none=>rw[hs]at h;cases h
 |some x=>
  cases x with
  |none=>rw[hs]at h;cases h
  |some b=>
   rw[hs]at h;simp only at h;cases hb:b.cells[p]? with
   |none=>rw[hb]at h;cases h
   |some d=>rw[hb]at h;exact⟨_,_,_,rfl,hb,h⟩
theorem Pre.at {ψ:Ps} {Q:Kn} {a:Act} {w:World} (p:Pre C o D E s ψ Q a w) {i:Nat} {ab:AB} {cb:CB} (hD:D (.inl i)) (h:stAB s i=some ab) (e:ψ (.inl i)=some cb):Holds C ψ w cb ab:=
 p.sim.holds _ cb ab e (p.know (.inl i) ab cb hD h e)
theorem Pre.loc {ψ:Ps} {Q:Kn} {a:Act} {w:World} (p:Pre C o D E s ψ Q a w) {t v n:Nat} {cs:List DV} {cb:CB} (hD:D (.inr v)) (h:E.get t= .loc v n cs) (e:ψ (.inr v)=some cb):Holds C ψ w cb (.cells false cs):=
 p.sim.holds _ cb _ e (p.know (.inr v) _ cb hD (.inl ⟨t,n,cs,h,rfl⟩) e)
theorem ZwK {t:TypeId} {x:Operand} (ho:o.op= .load t x) (hWD: ∀h,W h→D h) (hDl: ∀r v,md.loc r=true→(E.get r).ver=some v→D (.inr v)) (hDh:md.far=true→∀i p,E.src C x= .v (.ptr (some (i,p)))→D (.inl i))
  {K:Env→M β} {r:Out β×St} (h:ZoX C E o K md t x s=some r):Res C md pr ms o D W E s K r:=by
 unfold ZoX at h;obtain⟨td,ht,h⟩:=Z9 h;rcases Zfs h with⟨y,v,p0,hx,h⟩|⟨i,p0,hx,h⟩
 ·obtain⟨hm,h⟩:=Zo h
  obtain⟨n,cs,hl,h⟩:=Zm6 h;have hD:=hDl y v hm (by rw[hl];rfl);have addr: ∀ψ Q a w,Pre C o D E s ψ Q a w→∃cb,ψ (.inr v)=some cb∧cb.o=0∧a.eval x= .pointer (some ⟨cb.b,p0,none⟩):=fun ψ Q a w p=>by
   have:=p.src (x:=x) (by simp[Op.operands,ho]);rw[hx]at this;exact this
  cases hs:shOf C.P t with
  |b y'=>
   rw[hs]at h;obtain⟨d,hd,h⟩:=Zkt h;obtain⟨d',h,hr,_⟩:=ZmD h;refine Res.val hWD _ h fun ψ Q a w p=>?_
   obtain⟨cb,e1,e2,e3⟩:=addr ψ Q a w p;obtain⟨v,hv,hvr,_⟩:=ZiN (P:=C.P) (p.loc hD hl e1) hd;rw[e2,Nat.zero_add]at hv;refine⟨v,w,?_,.refl w,hr C ψ v hvr⟩;simp only[execOp,ho,e3,Instr.loadAt,Sem.run_bind,Z3,Result.andThen_ok,ZcC ht (Ztk hs) _ w hv,Sem.run_pure]
  |agg l=>
   rw[hs]at h;simp only at h;obtain⟨hb,h⟩:=ZK h;have hb:=Nat.le_of_ble_eq_true hb;refine Res.val hWD _ h fun ψ Q a w p=>?_
   have hlen:=p.eok.len y v n cs hl;obtain⟨cb,e1,e2,e3⟩:=addr ψ Q a w p;obtain⟨vs,hv,_,hvr,h1⟩:=Zgx (P:=C.P) (p.loc hD hl e1) (p:=p0) (n:=C.P.cellsOf t) (by omega);rw[e2,Nat.zero_add]at hv;refine⟨_,w,?_,.refl w,by rw[Zy7 hlen];exact .agg _ vs hvr h1⟩;simp only[execOp,ho,e3,Instr.loadAt,Sem.run_bind,Z3,Result.andThen_ok,Zdp ht (ZtR hs) _ w hv,Sem.run_pure]
 ·obtain⟨hm,h⟩:=Zo h
  have hD:=hDh hm i p0 hx;have addr: ∀ψ Q a w,Pre C o D E s ψ Q a w→∃cb,ψ (.inl i)=some cb∧a.eval x= .pointer (some ⟨cb.b,cb.o+p0,none⟩):=fun ψ Q a w p=>by
   have:=p.val (x:=x) (by simp[Op.operands,ho]) hx;generalize a.eval x=y at this;cases this with
   |ptr _ _ cb e=>exact⟨cb,e,rfl⟩
  cases hs:shOf C.P t with
  |b y'=>
   rw[hs]at h;obtain⟨f,cs,d,hst,hd,h⟩:=Zpd h;obtain⟨d',h,hr,_⟩:=ZmD h;refine Res.val hWD _ h fun ψ Q a w p=>?_
   obtain⟨cb,e1,e3⟩:=addr ψ Q a w p;obtain⟨v,hv,hvr,_⟩:=ZiN (P:=C.P) (p.at hD hst e1) hd;refine⟨v,w,?_,.refl w,hr C ψ v hvr⟩;simp only[execOp,ho,e3,Instr.loadAt,Sem.run_bind,Z3,Result.andThen_ok,ZcC ht (Ztk hs) _ w hv,Sem.run_pure]
  |agg l=>
   rw[hs]at h;obtain⟨f,cs,hst,hb,h⟩:=ZgS h;obtain⟨ds,h,_,hr,h1⟩:=Zei h;refine Res.val hWD _ h fun ψ Q a w p=>?_
   obtain⟨cb,e1,e3⟩:=addr ψ Q a w p;obtain⟨vs,hv,_,hvr,h2⟩:=Zgx (P:=C.P) (p.at hD hst e1) hb;refine⟨_,w,?_,.refl w,.agg _ vs (hr C ψ _ hvr) (h1 h2)⟩;simp only[execOp,ho,e3,Instr.loadAt,Sem.run_bind,Z3,Result.andThen_ok,Zdp ht (ZtR hs) _ w hv,Sem.run_pure]
structure SetW (w w':World) (b:Nat):Prop where
 other: ∀k,k≠b→w'.heap[k]? =w.heap[k]?
 size:w'.heap.size=w.heap.size
 tape:w'.tape=w.tape
 os:w'.os=w.os
 output:OutD w w'
theorem SetW.setB (w:World) (b:Nat) (ob:Obj):SetW w (setB w b ob) b:=
 ⟨fun _ h=>Zwm h ob,setB_size w b ob,rfl,rfl,rfl,Nat.le_refl _⟩
theorem Zm4 {ψ:Ps} {w:World} {cb:CB} {cs ds cs':List DV} {vs:List Value} {p o':Nat} {P:Program} (h:Holds C ψ w cb (.cells false cs)) (hr:VRs C ψ ds vs) (h1:ds.all one=true)
  (hp:p+ds.length≤cb.m) (ho:o'+cs'.length≤cb.m) (hc1:cs'.all one=true)
  (hc: ∀j d,cs'[j]? =some d→(p≤o'+j∧o'+j<p+ds.length∧ds[o'+j-p]? =some d)∨((o'+j<p∨p+ds.length≤o'+j)∧cs[o'+j]? =some d)):
  ∃w',(storeCells ⟨cb.b,cb.o+p,none⟩ vs).run P w= .ok () w'∧SetW w w' cb.b∧Holds C ψ w' ⟨cb.b,cb.o+o',cb.m-o'⟩ (.cells false cs'):=by
 obtain⟨c,ty,fr,hb,hsz,hfr⟩:=h.2.2.2 rfl;have hl:=hr.len;have hrun:=ZfW P cb.b (cb.o+p) ty fr vs 0 w c hb (hr.oneCells h1) (by omega) (fun j _ hj=>by
  have:=hfr (p+j) (by omega);rw[←Nat.add_assoc]at this;exact this)
 simp only[Nat.add_zero]at hrun;refine⟨_,hrun,SetW.setB w _ _,by simp only;omega,hc1,fun j d hd=>?_,fun _=>⟨_,ty,fr,ZiR (ZbK hb) _,by simp;omega,fun j hj=>?_⟩⟩
 ·dsimp only
  rw[cell_of_row _ _ _ _ ty fr (ZiR (ZbK hb) _),Zmy _ _ _ _ (by omega)];rcases hc j d hd with⟨a1,a2,a3⟩|⟨a1,a2⟩
  ·rw[if_pos ⟨by omega,by omega⟩]
   obtain⟨v,hv,hvr⟩:=hr.get a3;exact⟨v,by rw[show cb.o+o'+j-(cb.o+p)=o'+j-p by omega];exact hv,hvr⟩
  ·rw[if_neg (by omega)]
   obtain⟨v,hv,hvr⟩:=h.2.2.1 _ _ a2;rw[cell_of_row _ _ _ _ ty fr hb]at hv;exact⟨v,by rw[Nat.add_assoc];exact hv,hvr⟩
 ·have:=hfr (o'+j) (by simp only at hj;omega)
  rw[←Nat.add_assoc]at this;exact this
theorem ZvT {cs ds:List DV} {p:Nat} (h:cs.all one=true) (h':ds.all one=true) (hp:p+ds.length≤cs.length):(spl cs p ds).all one=true:=by
 refine List.all_eq_true.2 fun x hx=>?_
 obtain⟨j,hj⟩:=List.getElem?_of_mem hx;rw[ZjZ cs p ds j hp]at hj;split at hj
 ·exact List.all_eq_true.1 h' _ (List.mem_of_getElem? hj)
 ·exact List.all_eq_true.1 h _ (List.mem_of_getElem? hj)
theorem Zi8 {ψ:Ps} {w:World} {cb:CB} {cs ds:List DV} {vs:List Value} {p:Nat} {P:Program} (h:Holds C ψ w cb (.cells false cs)) (hr:VRs C ψ ds vs) (h1:ds.all one=true)
  (hp:p+ds.length≤cs.length):
  ∃w',(storeCells ⟨cb.b,cb.o+p,none⟩ vs).run P w= .ok () w'∧SetW w w' cb.b∧Holds C ψ w' cb (.cells false (spl cs p ds)):=by
 have hm:=h.1;have e1:p+ds.length≤cb.m:=by omega
 have e2:0+(spl cs p ds).length≤cb.m:=by rw[Zfv];omega
 obtain⟨w',a,b,c⟩:=Zm4 (P:=P) (cs':=spl cs p ds) (o':=0) h hr h1 e1 e2 (ZvT h.2.1 h1 hp) (fun j d hd=>by
  rw[ZjZ cs p ds j hp]at hd;split at hd
  ·exact .inl ⟨by omega,by omega,by simpa using hd⟩
  ·exact .inr ⟨by omega,by simpa using hd⟩)
 exact⟨w',a,b,by simpa using c⟩
theorem Zl7 {s:St} {i:Nat} {cs:List DV} (h:s.open? i=some cs):stAB s i=some (.cells false cs)∧i<s.length:=by
 unfold St.open? at h;unfold stAB;cases hs:s[i]? with
 |none=>rw[hs]at h;cases h
 |some x=>
  rw[hs]at h;have hi:i<s.length:=by
   rcases Nat.lt_or_ge i s.length with h'|h'
   ·exact h'
   ·rw[List.getElem?_eq_none h']at hs;cases hs
  cases x with
  |none=>cases h
  |some b=>
   obtain⟨f,c⟩:=b;cases f with
   |true=>cases h
   |false=>simp only[Option.some.injEq]at h;subst h;exact⟨rfl,hi⟩
theorem Zk6 {s:St} {i:Nat} (h:i<s.length) (b:Blk):stAB (s.set i (some b)) i=some (.cells b.frz b.cells):=by simp[stAB,h]
theorem Zgt {s:St} {i j:Nat} (h:i≠j) (b:Option Blk):stAB (s.set i b) j=stAB s j:=by simp[stAB,List.getElem?_set_ne h]
theorem Res.setH (hWD: ∀h,W h→D h) {i:Nat} (hW:W (.inl i)) {K:Env→M β} {r:Out β×St} (e:Ent) (hv:e.ver=none) (hp:EOK E→∀r v n,e= .pl r v n→v<E.nxt) {cs cs':List DV}
  (hi:s.open? i=some cs) (hk:K (E.putO o.dst e) (s.set i (some ⟨false,cs'⟩))=some r)
  (hrun: ∀ψ Q a w,Pre C o D E s ψ Q a w→∃cb,ψ (.inl i)=some cb∧(Holds C ψ w cb (.cells false cs)→∃v w',((execOp a.eval o).run C.P w= .ok (.value v) w'∨(execOp a.eval o).run C.P w= .ok .skip w'∧v=undef)∧
   SetW w w' cb.b∧Holds C ψ w' cb (.cells false cs')∧EntR C ψ e v)):Res C md pr ms o D W E s K r:=by
 obtain⟨hst,hlt⟩:=Zl7 hi;refine .inl ⟨_,_,hk,OpF.put pr ms e hv hp (by simp) (fun j ab h=>?_) (fun j h _=>?_) (.inl (by simp)),?_⟩
 ·by_cases e:j=i
  ·subst e;exact .inl hW
  ·rw[Zgt (fun e'=>e e'.symm)]at h;exact .inr (.inr h)
 ·exact List.getElem?_set_ne (fun e=>h (by rw[←e];exact hW))
 intro ψ Q a w next QQ p room hn;obtain⟨cb,hcb,hh⟩:=hrun ψ Q a w p;have hq:Q (.inl i) (.cells false cs):=p.know (.inl i) _ cb (hWD _ hW) hst hcb;obtain⟨v,w',hr,hset,hh',hv'⟩:=hh (p.sim.holds _ cb _ hcb hq);have post:Post C D W E s (E.putO o.dst e) (s.set i (some ⟨false,cs'⟩)) ψ Q w ψ (upQ Q (.inl i) (.cells false cs')) w':=by
  refine⟨Sim.set p.sim hcb hq rfl hset.other hh',Ext.set hcb hq rfl hset.other hset.size hset.tape hset.os hset.output,fun _ _ e=> .inl e,fun h ab c cr hw e'=>?_,fun h ab c e' q nw _=>?_⟩
  ·by_cases eh:h= .inl i
   ·subst eh
    have cr':stAB (s.set i (some ⟨false,cs'⟩)) i=some ab:=cr;rw[Zk6 hlt]at cr';cases cr';exact .inl ⟨rfl,rfl⟩
   ·refine .inr ⟨eh,?_⟩
    have old:CR E s h ab:=by
     cases h with
     |inl j=>
      have cr':stAB (s.set i (some ⟨false,cs'⟩)) j=some ab:=cr;rw[Zgt (fun e=>eh (by rw[e]))]at cr';exact cr'
     |inr x=>exact CR.putO (t:=o.dst) (e:=e) (s:=s) hv cr
    rcases hw with hw|⟨n1,n2⟩
    ·exact p.know h ab c (hWD h hw) old e'
    ·exact absurd (old.dom p.eok) n1
  ·exact .inr ⟨fun eh=>nw (by subst eh;exact hW),q⟩
 have ent: ∀d,o.dst=some d→EntR C ψ ((E.putO o.dst e).get d) v:=fun d hd=>by rw[Env.get_putO,if_pos hd];exact hv'
 unfold Oper.wp;rcases hr with hr|⟨hr,rfl⟩
 ·rw[hr];exact hn ψ _ v w' post ent
 ·rw[hr];exact hn ψ _ _ w' post ent
theorem Zok {i p:Nat} {ds:List DV} {K:M β} {s:St} {r:Out β×St} (h:M.store i p ds K s=some r):
  ∃cs,s.open? i=some cs∧p+ds.length≤cs.length∧K (s.set i (some ⟨false,spl cs p ds⟩))=some r:=by
 unfold M.store at h;cases hs:s.open? i with
 |none=>rw[hs]at h;cases h
 |some cs=>
  rw[hs]at h;simp only at h;cases hb:Nat.ble (p+ds.length) cs.length with
  |false=>rw[hb]at h;cases h
  |true=>rw[hb]at h;exact⟨_,rfl,Nat.le_of_ble_eq_true hb,h⟩
theorem ZlF {P:Program} {t:TypeId} {td:TypeDesc} (ht:P.underlying t=some td) (a:Addr) (v:Value) (w:World) (hs:v.cells.size=P.cellsOf t):
  (storeVar t a v).run P w=(storeCells a v.cells.toList).run P w:=by
 simp[storeVar,ZJ w ht,hs]
theorem Zvk {t:TypeId} {x y:Operand} (ho:o.op= .store t x y) (hdst:o.dst=none) (hWD: ∀h,W h→D h) (hWl: ∀r v,md.loc r=true→(E.get r).ver=some v→W (.inr v)) (hWh:md.far=true→∀i p,E.src C x= .v (.ptr (some (i,p)))→W (.inl i))
  {K:Env→M β} {r:Out β×St} (h:Zp7 C E K md ms t x y s=some r):Res C md pr ms o D W E s K r:=by
 unfold Zp7 at h;obtain⟨d,hd,h⟩:=Zr h;obtain⟨ds,td,ht,h,hdl,hv⟩:=Zni h;rcases Zfs h with⟨u,v,p0,hx,h⟩|⟨i,p0,hx,h⟩
 ·obtain⟨hm,h⟩:=Zo h
  rw[Bool.and_eq_true]at hm;obtain⟨n,cs,hl,h⟩:=Zm6 h;obtain⟨hb,h⟩:=ZK h;have hb:=Nat.le_of_ble_eq_true hb;have hW:=hWl u v hm.2 (by rw[hl];rfl);have get: ∀k,(E.put u (.loc v n (splV n (C.P.cellsOf t) cs p0 ds))).get k=if u=k then .loc v n (splV n (C.P.cellsOf t) cs p0 ds)else E.get k:=fun k=>Env.get_put _ _ _ _
  have ver: ∀k,((E.put u (.loc v n (splV n (C.P.cellsOf t) cs p0 ds))).get k).ver=(E.get k).ver:=fun k=>by
   rw[get];split
   ·rename_i e;subst e;rw[hl];rfl
   ·rfl
  have crb: ∀h ab,EOK E→CR (E.put u (.loc v n (splV n (C.P.cellsOf t) cs p0 ds))) s h ab→(h= .inr v∧ab= .cells false (splV n (C.P.cellsOf t) cs p0 ds))∨(h≠ .inr v∧CR E s h ab):=by
   intro h ab hE c;cases h with
   |inl i=>exact .inr ⟨by simp,c⟩
   |inr k=>
    rcases c with⟨q,n',cs',hq,hab⟩|⟨q,l,p,hq,hab⟩
    ·rw[get]at hq
     split at hq
     ·cases hq;exact .inl ⟨rfl,hab⟩
     ·rename_i hne
      refine .inr ⟨fun e=>?_,.inl ⟨q,n',cs',hq,hab⟩⟩;cases e;exact hne (hE.uniq u q v (by rw[hl];rfl) (by rw[hq];rfl))
    ·rw[get]at hq
     split at hq
     ·cases hq
     ·rename_i hne
      refine .inr ⟨fun e=>?_,.inr ⟨q,l,p,hq,hab⟩⟩;cases e;exact hne (hE.uniq u q v (by rw[hl];rfl) (by rw[hq];rfl))
  refine .inl ⟨_,_,h,⟨Nat.le_refl _,Nat.le_refl _,fun hE=>⟨?_,?_,?_,?_⟩,?_,(fun k d _ h'=>by
   rw[get]at h';split at h'
   ·cases h'
   ·exact h'),?_,?_,?_,?_,fun _ _ _=>rfl,.inr (by unfold Spec;rw[ho];trivial),.inl rfl⟩,?_⟩
  ·intro k v' h';rw[ver]at h';exact hE.lt k v' h'
  ·intro k a b c h'
   rw[get]at h';split at h'
   ·cases h'
   ·exact hE.pl k a b c h'
  ·intro k a b c h'
   rw[get]at h';split at h'
   ·cases h'
    have:=hE.len u v n cs hl;rw[ZqC this hdl hb,Zfv];exact this
   ·exact hE.len k a b c h'
  ·intro k k' v' h' h'';rw[ver]at h' h'';exact hE.uniq k k' v' h' h''
  ·intro k _ hms
   rw[get,if_neg];rintro rfl;rw[hm.1]at hms;cases hms
  ·intro k _ C' ψ x' hr
   rw[get];split
   ·rename_i e;subst e;rw[hl]at hr;exact hr
   ·exact hr
  ·intro h' ab c
   cases h' with
   |inl i=>exact .inr (.inr c)
   |inr k=>
    rcases c with⟨q,n',cs',hq,hab⟩|⟨q,l,p,hq,hab⟩
    ·rw[get]at hq
     split at hq
     ·cases hq;exact .inl hW
     ·exact .inr (.inr (.inl ⟨q,n',cs',hq,hab⟩))
    ·rw[get]at hq
     split at hq
     ·cases hq
     ·exact .inr (.inr (.inr ⟨q,l,p,hq,hab⟩))
  ·intro k v' n' cs' h'
   rw[get]at h';split at h'
   ·rename_i e;subst e;cases h';exact .inl ⟨cs,hl⟩
   ·exact .inl ⟨cs',h'⟩
  ·intro k v' l p h'
   rw[get]at h';split at h'
   ·cases h'
   ·exact .inl ⟨p,h'⟩
  ·intro ψ Q a w next QQ p room hn
   have:=p.src (x:=x) (by simp[Op.operands,ho]);rw[hx]at this;obtain⟨cb,e1,e2,e3⟩:=this;obtain⟨h1,h2,h3⟩:=hv C ψ _ (p.val (x:=y) (by simp[Op.operands,ho]) hd);have hq:Q (.inr v) (.cells false cs):=p.know (.inr v) _ cb (hWD _ hW) (.inl ⟨u,n,cs,hl,rfl⟩) e1;have hlen:=p.eok.len u v n cs hl;obtain⟨w',hr,hset,hh⟩:=Zi8 (P:=C.P) (p:=p0) (p.sim.holds _ cb _ e1 hq) h1 h2 (by omega);rw[e2,Nat.zero_add]at hr;have hex:(execOp a.eval o).run C.P w= .ok .skip w':=by
    simp only[execOp,ho,e3,Instr.storeAt,Sem.run_bind,Z3,Result.andThen_ok,ZlF ht _ _ w h3,hr,Sem.run_pure]
   unfold Oper.wp;rw[hex];refine hn ψ (upQ Q (.inr v) (.cells false (splV n (C.P.cellsOf t) cs p0 ds))) _ w' ⟨Sim.set p.sim e1 hq rfl hset.other (by rw[ZqC hlen hdl hb];exact hh),Ext.set e1 hq rfl hset.other hset.size hset.tape hset.os hset.output,
    fun _ _ e=> .inl e,fun h' ab c cr hw e'=>?_,fun h' ab c e' q nw _=>?_⟩ (fun d' hd'=>by rw[hdst]at hd';cases hd')
   ·rcases crb h' ab p.eok cr with⟨rfl,rfl⟩|⟨hne,cr⟩
    ·exact .inl ⟨rfl,rfl⟩
    ·refine .inr ⟨hne,?_⟩
     rcases hw with hw|⟨n1,n2⟩
     ·exact p.know h' ab c (hWD h' hw) cr e'
     ·exact absurd (cr.dom p.eok) n1
   ·exact .inr ⟨fun e=>nw (by rw[e];exact hW),q⟩
 ·obtain⟨hm,h⟩:=Zo h
  obtain⟨cs,hi,hb,h⟩:=Zok h;refine Res.setH hWD (hWh hm i p0 hx) .u rfl (fun _ _ _ _ e=>by cases e) hi (by rw[hdst];exact h) fun ψ Q a w p=>?_
  have:=p.val (x:=x) (by simp[Op.operands,ho]) hx;generalize hxe:a.eval x=xv at this;cases this with
  |ptr _ _ cb e=>
   refine⟨cb,e,fun hh=>?_⟩;obtain⟨h1,h2,h3⟩:=hv C ψ _ (p.val (x:=y) (by simp[Op.operands,ho]) hd);obtain⟨w',hr,hset,hh'⟩:=Zi8 (P:=C.P) (p:=p0) hh h1 h2 hb;refine⟨undef,w',.inr ⟨?_,rfl⟩,hset,hh',trivial⟩;simp only[execOp,ho,hxe,Instr.storeAt,Sem.run_bind,Z3,Result.andThen_ok,ZlF ht _ _ w h3,hr,Sem.run_pure]
end
end Go.Gv
namespace Go.Gv
variable {β:Type}
structure CfgOk (C:Cfg):Prop where
 ty: ∀t t',C.ty t=C.ty t'→t=t'
 eqg: ∀t,C.eqT t≠[]→C.P.eqGuardType C.P.depth t=false
 eq: ∀t,C.eqT t≠[]→∀ψ xs ys (vs us:Array Value) b w,VRs C ψ xs vs.toList→VRs C ψ ys us.toList→eqL (C.eqT t) xs ys=some b→(Op.equal t (.agg vs) (.agg us)).run C.P w= .ok b w
 tae: ∃e d,C.P.underlying C.P.rt.typeAssertionError=some (.pointer e)∧C.P.underlying e=some d
section
variable {C:Cfg} {o:Oper} {D W:HId→Prop} {E:Env} {s:St} {md:Md} {pr ms:List Nat}
theorem Zt3 {P:Program} (d:Nat) {t:TypeId} (ht:P.underlying t=some .bool) (x y:Bool) (w:World):(Op.equalIn (d+1) t (.bool x) (.bool y)).run P w= .ok (x==y) w:=by
 simp[Op.equalIn,Zj w ht]
theorem ZwD {P:Program} {t:TypeId} (ht:P.underlying t=some .bool) (x y:Bool) (w:World):(Op.equal t (.bool x) (.bool y)).run P w= .ok (x==y) w:=Zt3 9999 ht x y w
theorem Zvw {P:Program} (d:Nat) {t e:TypeId} (ht:P.underlying t=some (.pointer e)) (a:Option Addr) (w:World):
  (Op.equalIn (d+1) t (.pointer a) (.pointer none)).run P w= .ok a.isNone w∧(Op.equalIn (d+1) t (.pointer none) (.pointer a)).run P w= .ok a.isNone w:=by
 cases a<;>constructor<;>simp[Op.equalIn,Zj w ht]
theorem Zi2 {P:Program} {t e:TypeId} (ht:P.underlying t=some (.pointer e)) (a:Option Addr) (w:World):
  (Op.equal t (.pointer a) (.pointer none)).run P w= .ok a.isNone w∧(Op.equal t (.pointer none) (.pointer a)).run P w= .ok a.isNone w:=Zvw 9999 ht a w
theorem Zsc {P:Program} (d:Nat) {t e:TypeId} (ht:P.underlying t=some (.slice e)) (a:Option Addr) (n m n' m':Nat) (w:World):
  (Op.equalIn (d+1) t (.slice a n m) (.slice none n' m')).run P w= .ok a.isNone w∧(Op.equalIn (d+1) t (.slice none n' m') (.slice a n m)).run P w= .ok a.isNone w:=by
 cases a<;>constructor<;>simp[Op.equalIn,Zj w ht]
theorem Zgn {P:Program} {t e:TypeId} (ht:P.underlying t=some (.slice e)) (a:Option Addr) (n m n' m':Nat) (w:World):
  (Op.equal t (.slice a n m) (.slice none n' m')).run P w= .ok a.isNone w∧(Op.equal t (.slice none n' m') (.slice a n m)).run P w= .ok a.isNone w:=Zsc 9999 ht a n m n' m' w
theorem ZxB (x y:ByteArray):(x.toList==y.toList)=(x.data.toList==y.data.toList):=by rw[ByteArray.toList_eq,ByteArray.toList_eq]
theorem Zus {t:TypeId} {x y:DV} {K:Bool→M β} {r:Out β×St} (hc:CfgOk C) (h:eqK (C.P.underlying t) (C.eqT t) x y K s=some r):
  ∃b,K b s=some r∧∀ψ w (x' y':Value) (p q:Operand),VR C ψ x x'→VR C ψ y y'→
   (do eqGuard .eql t p q x' y';Go.binOp .eql t x' y':Sem Value).run C.P w= .ok (.bool b) w∧(do eqGuard .neq t p q x' y';Go.binOp .neq t x' y':Sem Value).run C.P w= .ok (.bool !b) w:=by
 generalize hu:C.P.underlying t=u at h;unfold eqK at h;split at h
 ·
  split at h
  ·
   refine⟨_,h,fun ψ w x' y' p q hx hy=>?_⟩;cases hx;cases hy;constructor<;>simp[eqGuard,Go.binOp,ZwD hu]
  ·cases h
 ·obtain⟨h1,h2⟩:=Zo h
  clear h;have:=Zkb h1;subst this;refine⟨_,h2,fun ψ w x' y' p q hx hy=>?_⟩;cases hx;cases hy;constructor<;>simp[eqGuard,Go.binOp,Op.intCmp,bne]
 ·refine⟨_,h,fun ψ w x' y' p q hx hy=>?_⟩
  cases hx;cases hy;constructor<;>simp[eqGuard,Go.binOp,Op.stringOp,ZxB]
 ·split at h
  ·refine⟨_,h,fun ψ w x' y' p q hx hy=>?_⟩
   cases hy;cases hx with
   |ptrN=>constructor<;>simp[eqGuard,Go.binOp,(Zi2 hu none w).1]
   |ptr i n cb e=>constructor<;>simp[eqGuard,Go.binOp,(Zi2 hu _ w).1]
  ·cases h
 ·split at h
  ·refine⟨_,h,fun ψ w x' y' p q hx hy=>?_⟩
   cases hx;cases hy with
   |ptrN=>constructor<;>simp[eqGuard,Go.binOp,(Zi2 hu none w).1]
   |ptr i n cb e=>constructor<;>simp[eqGuard,Go.binOp,(Zi2 hu _ w).2]
  ·cases h
 ·split at h
  ·refine⟨_,h,fun ψ w x' y' p q hx hy=>?_⟩
   cases hy;cases hx with
   |sliceN=>constructor<;>simp[eqGuard,Go.binOp,(Zgn hu none 0 0 0 0 w).1]
   |slice _ i n m cb a cap e=>constructor<;>simp[eqGuard,Go.binOp,(Zgn hu _ _ _ 0 0 w).1]
  ·cases h
 ·split at h
  ·refine⟨_,h,fun ψ w x' y' p q hx hy=>?_⟩
   cases hx;cases hy with
   |sliceN=>constructor<;>simp[eqGuard,Go.binOp,(Zgn hu none 0 0 0 0 w).1]
   |slice _ i n m cb a cap e=>constructor<;>simp[eqGuard,Go.binOp,(Zgn hu _ _ _ 0 0 w).2]
  ·cases h
 ·rename_i xs ys
  cases hag:C.eqT t with
  |nil=>rw[hag]at h;cases h
  |cons k ks=>
   rw[hag]at h;simp only at h;cases hb:eqL (k::ks) xs ys with
   |none=>rw[hb]at h;cases h
   |some b=>
    rw[hb]at h;refine⟨_,h,fun ψ w x' y' p q hx hy=>?_⟩;have hag':C.eqT t≠[]:=by rw[hag];exact List.cons_ne_nil _ _
    cases hx with
    |agg _ vs h1 _=>
     cases hy with
     |agg _ us h2 _=>
      have he:=hc.eq t hag' ψ _ _ vs us b w h1 h2 (by rw[hag];exact hb);constructor<;>simp[eqGuard,Go.binOp,hc.eqg t hag',he]
 ·cases h
theorem Zyj {P:Program} {op:BinOp} (h:op= .and∨op= .or∨op= .xor∨op= .andNot) (t:TypeId) (p q:Operand) (k:IntKind) (x y:Int) (w:World):
  (do eqGuard op t p q (.int k x) (.int k y);Go.binOp op t (.int k x) (.int k y):Sem Value).run P w= .ok (.int k (bits op k x y)) w:=by
 have e:Go.binOp op t (.int k x) (.int k y)=Op.intBits op k x y:=by rcases h with rfl|rfl|rfl|rfl<;>simp[Go.binOp]
 rw[e];rcases h with rfl|rfl|rfl|rfl<;>rfl
theorem ZwN {op:BinOp} {t yt:TypeId} {x y:Operand} (hc:CfgOk C) (ho:o.op= .binOp op t x y yt) (hWD: ∀h,W h→D h) {K:Env→M β} {r:Out β×St} (h:opBin C E o K op t x y s=some r):Res C md pr ms o D W E s K r:=by
 unfold opBin at h;obtain⟨a,ha,h⟩:=Zr h;obtain⟨b,hb,h⟩:=Zr h;have key: ∀d,putK E o K d s=some r→(∀ψ w x' y',VR C ψ a x'→VR C ψ b y'→∃v,(do eqGuard op t x y x' y';Go.binOp op t x' y':Sem Value).run C.P w= .ok v w∧VR C ψ d v)→Res C md pr ms o D W E s K r:=by
  intro d h hr;refine Res.val hWD d h fun ψ Q A w p=>?_
  obtain⟨v,hv,hvr⟩:=hr ψ w _ _ (p.val (x:=x) (by simp[Op.operands,ho]) ha) (p.val (x:=y) (by simp[Op.operands,ho]) hb);refine⟨v,w,?_,.refl w,hvr⟩;simp only[execOp,ho,Sem.run_bind]at hv⊢;rw[hv];rfl
 unfold binK at h;split at h
 ·obtain⟨b',h,hr⟩:=Zus hc h
  exact key _ h fun ψ w x' y' hx hy=>⟨_,(hr ψ w x' y' x y hx hy).1,.bool _⟩
 ·obtain⟨b',h,hr⟩:=Zus hc h
  exact key _ h fun ψ w x' y' hx hy=>⟨_,(hr ψ w x' y' x y hx hy).2,.bool _⟩
 ·split at h
  ·rename_i k n k' m
   have h0:=h;clear h;obtain⟨hm,h⟩:=ZK h0;clear h0;have hm:=Int.not_lt.2 (of_decide_eq_true hm);refine key _ h fun ψ w x' y' hx hy=>?_
   cases hx;cases hy;exact⟨_,by simp[eqGuard,Go.binOp,Op.shift,hm],.int _ _⟩
  ·cases h
 ·split at h
  ·rename_i k n k' m
   have h0:=h;clear h;obtain⟨hm,h⟩:=ZK h0;clear h0;have hm:=Int.not_lt.2 (of_decide_eq_true hm);refine key _ h fun ψ w x' y' hx hy=>?_
   cases hx;cases hy;exact⟨_,by simp[eqGuard,Go.binOp,Op.shift,hm],.int _ _⟩
  ·cases h
 ·rename_i n1 n2 n3 n4
  split at h
  ·have h0:=h
   clear h;obtain⟨hk,h⟩:=Zo h0;clear h0;have:=Zkb hk;subst this;cases op with
   |eql=>exact absurd rfl n1
   |neq=>exact absurd rfl n2
   |shl=>exact absurd rfl n3
   |shr=>exact absurd rfl n4
   |quo=>
    obtain⟨hm,h⟩:=ZK h;simp only[Bool.not_eq_true',beq_eq_false_iff_ne]at hm;refine key _ h fun ψ w x' y' hx hy=>?_
    cases hx;cases hy;exact⟨_,by simp[eqGuard,Go.binOp,Op.intDiv,hm],.int _ _⟩
   |rem=>
    obtain⟨hm,h⟩:=ZK h;simp only[Bool.not_eq_true',beq_eq_false_iff_ne]at hm;refine key _ h fun ψ w x' y' hx hy=>?_
    cases hx;cases hy;exact⟨_,by simp[eqGuard,Go.binOp,Op.intDiv,hm],.int _ _⟩
   |and|or|xor|andNot=>
    refine key _ h fun ψ w x' y' hx hy=>?_
    cases hx;cases hy;exact⟨_,Zyj (by simp) t x y _ _ _ w,.int _ _⟩
   |_=>
    refine key _ h fun ψ w x' y' hx hy=>?_
    cases hx;cases hy;exact⟨_,by simp[eqGuard,Go.binOp,Op.intArith,Op.intCmp]<;>rfl,by constructor⟩
  ·rename_i l l'
   cases op with
   |eql=>exact absurd rfl n1
   |neq=>exact absurd rfl n2
   |shl=>exact absurd rfl n3
   |shr=>exact absurd rfl n4
   |add=>
    obtain⟨hm,h⟩:=ZK h;have hm:=Nat.le_of_ble_eq_true hm;refine key _ h fun ψ w x' y' hx hy=>?_
    cases hx with
    |str p=>
     cases hy with
     |str q=>
      have e:p.data.toList++q.data.toList=(p++q).data.toList:=by simp[ByteArray.data_append]
      rw[e];rw[Array.length_toList,Array.length_toList]at hm;have hm':p.size+q.size≤4611686018427387904:=hm;refine⟨.string (p++q),?_,.str _⟩;have:=run_string_add_sum (P:=C.P) (w:=w) p q (by omega);simp[eqGuard,Go.binOp,this]
   |lss|leq|gtr|geq=>
    refine key _ h fun ψ w x' y' hx hy=>?_
    cases hx;cases hy;refine⟨_,by simp only[eqGuard,Go.binOp,Op.stringOp,ByteArray.toList_eq];rfl,.bool _⟩
   |_=>cases h
  ·cases h
end
end Go.Gv
namespace Go.Gv
def scalB (P:Program) (t:TypeId) (b:B):Bool:=match P.underlying t,b with
 |some .bool,.bool=>true
 |some (.int _),.int _=>true
 |some .string,.str=>true
 |_,_=>false
def eqFs (P:Program):List Field→List B→Nat→Bool
 |[],[],_=>true
 |f::r,b::bs,o=>f.name != "_" &&Nat.beq f.offset o&&scalB P f.type b&&eqFs P r bs (o+1)
 |_,_,_=>false
def eqFd (P:Program):List Field→List B→Nat→Bool
 |[],[],_=>true
 |[],_::_,_=>false
 |f::r,bs,o=>f.name != "_" &&Nat.beq f.offset o&&(match P.underlying f.type with
  |some (.struct fs)=>Nat.beq (P.cellsOf f.type) fs.size&&Nat.ble fs.size bs.length&& !(P.stoodInHeld f.type)&&eqFs P fs.toList (bs.take fs.size) 0&&eqFd P r (bs.drop fs.size) (o+fs.size)
  |_=>match bs with
   |b::bs'=>scalB P f.type b&&eqFd P r bs' (o+1)
   |[]=>false)
def eqTy (P:Program) (t:TypeId) (bs:List B):Bool:=match P.underlying t with
 |some (.struct fs)=>eqFd P fs.toList bs 0&& !(P.stoodInHeld t)&& !(P.eqGuardType P.depth t)
 |_=>false
section
variable {C:Cfg} {ψ:Ps}
theorem ZtT {d:Nat} {t:TypeId} {b:B} {x y:DV} {v u:Value} {r:Bool} (w:World) (hs:scalB C.P t b=true) (hx:VR C ψ x v) (hy:VR C ψ y u) (he:eqD b x y=some r):
  (Op.equalIn (d+1) t v u).run C.P w= .ok r w:=by
 unfold scalB at hs;split at hs
 ·rename_i hu
  unfold eqD at he;split at he<;>first|(rename_i h1;cases h1;done)|skip
  ·cases hx;cases hy;cases he
   simp[Op.equalIn,Zj w hu]
  all_goals (first|(cases he;done)|skip)
 ·rename_i hu
  unfold eqD at he;split at he
  ·rename_i h1;cases h1
  ·rename_i k0 k a k' b' _
   cases hk:ikEq k0 k&&ikEq k k' with
   |false=>rw[hk]at he;cases he
   |true=>
    rw[hk]at he;rw[Bool.and_eq_true]at hk;have:=Zkb hk.2;subst this;cases hx;cases hy;cases he;simp[Op.equalIn,Zj w hu]
  ·rename_i h1;cases h1
  ·cases he
 ·rename_i hu
  unfold eqD at he;split at he
  ·rename_i h1;cases h1
  ·rename_i h1;cases h1
  ·cases hx;cases hy;cases he
   have e: ∀a b:ByteArray,(a==b)=(a.data.toList==b.data.toList):=by
    intro a b;have e1:(a==b)=(a.data==b.data):=by cases a;cases b;rfl
    rw[e1,Bool.eq_iff_iff];simp only[beq_iff_eq];exact⟨fun h=>by rw[h],fun h=>Array.toList_inj.1 h⟩
   simp only[Op.equalIn,Sem.run_bind,Zj w hu,Result.andThen_ok,Sem.run_pure,e]
  ·cases he
 ·cases hs
theorem ZiW {e:TypeId} {b:B} {cs:Array Value} {off:Nat} {v:Value} (w:World) (hs:scalB C.P e b=true) (hx:cs[off]? =some v):(Go.part e cs off).run C.P w= .ok v w:=by
 refine run_part_plain w ?_ hx;unfold scalB at hs;unfold Program.plainKey;split at hs<;>first|(rename_i hu;rw[hu];done)|(rename_i hu;rw[hu])|cases hs
theorem ZtP {d:Nat} (xs ys:Array Value) (w:World): ∀(fs:List Field) (bs:List B) (ds es:List DV) (o:Nat) (r:Bool),eqFs C.P fs bs o=true→
  VRs C ψ ds (xs.toList.drop o)→VRs C ψ es (ys.toList.drop o)→eqL bs ds es=some r→(Op.eqFields (d+1) xs ys fs).run C.P w= .ok r w
 |[],[],[],[],o,r,_,_,_,he=>by
  cases he;simp[Op.eqFields]
 |[],[],_::_,_,_,_,_,_,_,he=>by cases he
 |[],[],[],_::_,_,_,_,_,_,he=>by cases he
 |[],_::_,_,_,_,_,h,_,_,_=>by cases h
 |_::_,[],_,_,_,_,h,_,_,_=>by cases h
 |f::fs,b::bs,[],_,_,_,_,_,_,he=>by cases he
 |f::fs,b::bs,_::_,[],_,_,_,_,_,he=>by cases he
 |f::fs,b::bs,x::ds,y::es,o,r,h,hx,hy,he=>by
  simp only[eqFs,Bool.and_eq_true]at h;obtain⟨⟨⟨hn,ho⟩,hs⟩,hr⟩:=h;have ho:=Nat.eq_of_beq_eq_true ho;have hn:f.name≠ "_" :=by simpa using hn
  simp only[eqL]at he;cases h1:eqD b x y with
  |none=>rw[h1]at he;cases he
  |some r1=>
   cases h2:eqL bs ds es with
   |none=>rw[h1,h2]at he;cases he
   |some r2=>
    rw[h1,h2]at he;cases he;have tailOf: ∀ {z:Array Value} {q:DV} {qs:List DV},VRs C ψ (q::qs) (z.toList.drop o)→∃v,z[o]? =some v∧VR C ψ q v∧VRs C ψ qs (z.toList.drop (o+1)):=by
     intro z q qs hq;generalize hz:z.toList.drop o=l at hq;cases hq with
     |cons _ v _ vs a b=>
      have e:z.toList[o]? =some v:=by
       have:=congrArg (fun l:List Value=>l[0]?) hz;simpa using this
      refine⟨v,by rw[←Array.getElem?_toList];exact e,a,?_⟩;have:=congrArg (List.drop 1) hz;rw[List.drop_drop]at this;rw[this];exact b
    obtain⟨v,hv,rv,tv⟩:=tailOf hx;obtain⟨u,hu,ru,tu⟩:=tailOf hy;have p1:=ZiW (C:=C) w hs hv;have p2:=ZiW (C:=C) w hs hu;have p3:=ZtT (d:=d) w hs rv ru h1;have p4:=ZtP (d:=d) xs ys w fs bs ds es (o+1) r2 hr tv tu h2;rw[←ho]at p1 p2;simp only[Op.eqFields,hn,ne_eq,not_false_eq_true,if_true,Sem.run_bind,p1,p2,p3,Result.andThen_ok];cases r1
    ·simp
    ·simpa using p4
theorem ZqY: ∀(n:Nat) (bs:List B) (ds es:List DV) (r:Bool),eqL bs ds es=some r→n≤bs.length→∃r1 r2,eqL (bs.take n) (ds.take n) (es.take n)=some r1∧eqL (bs.drop n) (ds.drop n) (es.drop n)=some r2∧r=(r1&&r2)
 |0,bs,ds,es,r,h,_=>⟨true,r,by simp[eqL],by simpa using h,by simp⟩
 |n+1,[],ds,es,r,h,hn=>by simp at hn
 |n+1,b::bs,[],es,r,h,hn=>by cases h
 |n+1,b::bs,_::_,[],r,h,hn=>by cases h
 |n+1,b::bs,x::ds,y::es,r,h,hn=>by
  simp only[eqL]at h;cases h1:eqD b x y with
  |none=>rw[h1]at h;cases h
  |some a=>
   cases h2:eqL bs ds es with
   |none=>rw[h1,h2]at h;cases h
   |some c=>
    rw[h1,h2]at h;cases h;obtain⟨r1,r2,g1,g2,g3⟩:=ZqY n bs ds es c h2 (by simpa using hn);refine⟨a&&r1,r2,?_,by simpa using g2,by rw[g3,Bool.and_assoc]⟩;simp only[List.take_succ_cons,eqL,h1,g1]
theorem ZnH {d:Nat} (xs ys:Array Value) (w:World): ∀(fs:List Field) (bs:List B) (ds es:List DV) (o:Nat) (r:Bool),eqFd C.P fs bs o=true→
  VRs C ψ ds (xs.toList.drop o)→VRs C ψ es (ys.toList.drop o)→eqL bs ds es=some r→(Op.eqFields (d+2) xs ys fs).run C.P w= .ok r w
 |[],[],ds,es,o,r,_,_,_,he=>by
  cases ds<;>cases es<;>cases he
  simp[Op.eqFields]
 |[],_::_,_,_,_,_,h,_,_,_=>by cases h
 |f::fs,bs,ds,es,o,r,h,hx,hy,he=>by
  unfold eqFd at h;rw[Bool.and_eq_true,Bool.and_eq_true]at h;obtain⟨⟨hn,ho⟩,h⟩:=h;have ho:=Nat.eq_of_beq_eq_true ho;have hn:f.name≠ "_" :=by simpa using hn
  have scal: ∀b bs',bs=b::bs'→(scalB C.P f.type b&&eqFd C.P fs bs' (o+1))=true→(Op.eqFields (d+2) xs ys (f::fs)).run C.P w= .ok r w:=by
   rintro b bs' rfl h;rw[Bool.and_eq_true]at h;obtain⟨hs,hr⟩:=h
   match ds,es,hx,hy,he with
   |[],_,_,_,he=>cases he
   |_::_,[],_,_,he=>cases he
   |x::ds,y::es,hx,hy,he=>
   simp only[eqL]at he;cases h1:eqD b x y with
   |none=>rw[h1]at he;cases he
   |some r1=>
    cases h2:eqL bs' ds es with
    |none=>rw[h1,h2]at he;cases he
    |some r2=>
     rw[h1,h2]at he;cases he;have tailOf: ∀ {z:Array Value} {q:DV} {qs:List DV},VRs C ψ (q::qs) (z.toList.drop o)→∃v,z[o]? =some v∧VR C ψ q v∧VRs C ψ qs (z.toList.drop (o+1)):=by
      intro z q qs hq;generalize hz:z.toList.drop o=l at hq;cases hq with
      |cons _ v _ vs a b=>
       have e:z.toList[o]? =some v:=by
        have:=congrArg (fun l:List Value=>l[0]?) hz;simpa using this
       refine⟨v,by rw[←Array.getElem?_toList];exact e,a,?_⟩;have:=congrArg (List.drop 1) hz;rw[List.drop_drop]at this;rw[this];exact b
     obtain⟨v,hv,rv,tv⟩:=tailOf hx;obtain⟨u,hu,ru,tu⟩:=tailOf hy;have p1:=ZiW (C:=C) w hs hv;have p2:=ZiW (C:=C) w hs hu;have p3:=ZtT (d:=d+1) w hs rv ru h1;have p4:=ZnH (d:=d) xs ys w fs bs' ds es (o+1) r2 hr tv tu h2;rw[←ho]at p1 p2;simp only[Op.eqFields,hn,ne_eq,not_false_eq_true,if_true,Sem.run_bind,p1,p2,p3,Result.andThen_ok];cases r1
     ·simp
     ·simpa using p4
  split at h
  ·rename_i gs hu
   simp only[Bool.and_eq_true]at h;obtain⟨⟨⟨⟨hc,hle⟩,hst⟩,hg⟩,hr⟩:=h;have hc:=Nat.eq_of_beq_eq_true hc;have hle:=Nat.le_of_ble_eq_true hle;have hst:C.P.stoodInHeld f.type=false:=by simpa using hst
   obtain⟨r1,r2,e1,e2,e3⟩:=ZqY gs.size bs ds es r he hle;have hag:ZG C.P f.type=true:=by unfold ZG;rw[hu]
   have prt: ∀z:Array Value,(Go.part f.type z o).run C.P w= .ok (.agg (z.extract o (o+gs.size))) w:=fun z=>by
    unfold Go.part;simp only[Sem.run_bind,Zfl w hu,Result.andThen_ok,hag,if_true,ZJ w hu,hc,Sem.run_pure]
   have sub: ∀ {z:Array Value} {qs:List DV},VRs C ψ qs (z.toList.drop o)→VRs C ψ (qs.take gs.size) ((z.extract o (o+gs.size)).toList.drop 0):=by
    intro z qs hq;have:=hq.take gs.size;rw[List.drop_zero,Array.toList_extract,List.extract_eq_take_drop,show o+gs.size-o=gs.size by omega];exact this
   have rst: ∀ {z:Array Value} {qs:List DV},VRs C ψ qs (z.toList.drop o)→VRs C ψ (qs.drop gs.size) (z.toList.drop (o+gs.size)):=by
    intro z qs hq;have:=hq.drop gs.size;rw[List.drop_drop]at this;exact this
   have hfs:C.P.fieldsOf f.type=gs:=by unfold Program.fieldsOf;rw[hu]
   have p3:(Op.equalIn (d+2) f.type (.agg (xs.extract o (o+gs.size))) (.agg (ys.extract o (o+gs.size)))).run C.P w= .ok r1 w:=by
    rw[run_equalIn_struct w (d+1) f.type _ _ (by rw[hfs];exact hu) hst,hfs];exact ZtP (d:=d) _ _ w gs.toList (bs.take gs.size) _ _ 0 r1 hg (sub hx) (sub hy) e1
   have p4:=ZnH (d:=d) xs ys w fs (bs.drop gs.size) _ _ (o+gs.size) r2 hr (rst hx) (rst hy) e2;have p1:=prt xs;have p2:=prt ys;rw[←ho]at p1 p2 p3;simp only[Op.eqFields,hn,ne_eq,not_false_eq_true,if_true,Sem.run_bind,p1,p2,p3,Result.andThen_ok];rw[e3];cases r1
   ·simp
   ·simpa using p4
  ·split at h
   ·rename_i b bs'
    exact scal b bs' rfl h
   ·cases h
theorem ZwE {P:Program} {t:TypeId} {bs:List B} (h:eqTy P t bs=true):P.eqGuardType P.depth t=false:=by
 unfold eqTy at h;split at h
 ·simp only[Bool.and_eq_true]at h
  simpa using h.2
 ·cases h
theorem ZyL {t:TypeId} {bs:List B} (h:eqTy C.P t bs=true) {xs ys:List DV} {vs us:Array Value} {b:Bool} (w:World) (hx:VRs C ψ xs vs.toList) (hy:VRs C ψ ys us.toList) (he:eqL bs xs ys=some b):
  (Op.equal t (.agg vs) (.agg us)).run C.P w= .ok b w:=by
 unfold eqTy at h;split at h
 ·rename_i fs hu
  simp only[Bool.and_eq_true]at h;have hst:C.P.stoodInHeld t=false:=by simpa using h.1.2
  unfold Op.equal;have hfs:C.P.fieldsOf t=fs:=by unfold Program.fieldsOf;rw[hu]
  rw[show Op.maxDepth=9999+1 from rfl,run_equalIn_struct w 9999 t vs us (by rw[hfs];exact hu) hst,hfs];exact ZnH (d:=9997) vs us w fs.toList bs xs ys 0 b h.1.1 (by rw[List.drop_zero];exact hx) (by rw[List.drop_zero];exact hy) he
 ·cases h
def lkE:List (Nat×List B)→Nat→List B
 |[],_=>[]
 |(k,v)::r,x=>bif Nat.beq k x then v else lkE r x
theorem ZtL {P:Program} : ∀ {l:List (Nat×List B)},(l.all fun x=>eqTy P x.1 x.2)=true→∀t,lkE l t≠[]→eqTy P t (lkE l t)=true
 |[],_,t,h=>absurd rfl h
 |(k,v)::r,hl,t,h=>by
  rw[List.all_cons,Bool.and_eq_true]at hl;simp only[lkE]at h⊢;cases hk:Nat.beq k t with
  |true=>rw[hk]at h;rw[←Nat.eq_of_beq_eq_true hk];exact hl.1
  |false=>rw[hk]at h;exact ZtL hl.2 t h
end
end Go.Gv
namespace Go.Gv
variable {β:Type}
section
variable {C:Cfg} {o:Oper} {D W:HId→Prop} {E:Env} {s:St} {md:Md} {pr ms:List Nat}
theorem Pre.int {ψ:Ps} {Q:Kn} {a:Act} {w:World} (p:Pre C o D E s ψ Q a w) {x:Operand} (hx:x∈o.op.operands) {k:IntKind} {n:Int} (h:E.src C x= .v (.int k n)):a.eval x= .int k n:=by
 have:=p.val hx h;generalize a.eval x=v at this;cases this;rfl
theorem Zh3 {len:Nat} {lo hi:Option Operand} {K:Nat→Nat→M β} {r:Out β×St} (h:Zj6 C E len lo hi K s=some r):
  ∃l u,K l u s=some r∧l≤u∧u≤len∧(lo=none→l=0)∧(hi=none→u=len)∧
   ∀ψ Q a w,Pre C o D E s ψ Q a w→(∀x,lo=some x→x∈o.op.operands)→(∀x,hi=some x→x∈o.op.operands)→∀(b:Bool) (cap:Nat),len≤cap→(b=false→len=cap)→
    (Instr.sliceBounds b len cap (lo.map a.eval) (hi.map a.eval) none).run C.P w= .ok (l,u,cap) w:=by
 unfold Zj6 at h;have low: ∀u,(match lo with|none=>K 0 u|some x=>intK C E x fun l=>M.chk (decide (0≤l)&&decide (l≤u)) (K l.toNat u)) s=some r→
   ∃l,K l u s=some r∧l≤u∧(lo=none→l=0)∧∀ψ Q a w,Pre C o D E s ψ Q a w→(∀x,lo=some x→x∈o.op.operands)→
    (match lo.map a.eval with|some v=>Instr.sliceBound v u .sliceB|none=>pure 0:Sem Nat).run C.P w= .ok l w:=by
  intro u h;cases lo with
  |none=>exact⟨0,h,Nat.zero_le _,fun _=>rfl,fun ψ Q a w p _=>rfl⟩
  |some x=>
   obtain⟨k,n,hx,h⟩:=Ze8 h;obtain⟨hc,h⟩:=ZK h;simp only[Bool.and_eq_true,decide_eq_true_eq]at hc;refine⟨n.toNat,h,by omega,fun h=>(nomatch h),fun ψ Q a w p hm=>?_⟩;simp only[Option.map_some,p.int (hm x rfl) hx];exact run_sliceBound _ k n u _ hc.1 hc.2
 cases hi with
 |none=>
  obtain⟨l,h,h1,h2,h3⟩:=low len h;refine⟨l,len,h,h1,Nat.le_refl _,h2,fun _=>rfl,fun ψ Q a w p hl _ b cap hcap hb=>?_⟩;have:=h3 ψ Q a w p hl;unfold Instr.sliceBounds;simp only[Option.map_none,Sem.run_bind,Sem.run_pure,Result.andThen_ok,Option.isSome_none,Bool.false_eq_true,if_false];cases hlo:lo.map a.eval with
  |none=>rw[hlo]at this;simp only[Sem.run_pure,Result.ok.injEq]at this⊢;simp[this.1]
  |some v=>rw[hlo]at this;simp only at this⊢;rw[Sem.run_bind,this];rfl
 |some y=>
  obtain⟨k,n,hy,h⟩:=Ze8 h;obtain⟨hc,h⟩:=ZK h;simp only[Bool.and_eq_true,decide_eq_true_eq]at hc;obtain⟨l,h,h1,h2,h3⟩:=low n.toNat h;refine⟨l,n.toNat,h,h1,by omega,h2,fun h=>(nomatch h),fun ψ Q a w p hl hh b cap hcap hb=>?_⟩;have:=h3 ψ Q a w p hl;have hs: ∀code,(Instr.sliceBound (.int k n) cap code).run C.P w= .ok n.toNat w:=fun code=>run_sliceBound _ k n cap code hc.1 (by omega)
  unfold Instr.sliceBounds;simp only[Option.map_some,p.int (hh y rfl) hy,Sem.run_bind,Sem.run_pure,Result.andThen_ok,Option.isSome_none,Bool.false_eq_true,if_false,hs];cases hlo:lo.map a.eval with
  |none=>rw[hlo]at this;simp only[Sem.run_pure,Result.ok.injEq]at this⊢;simp[this.1]
  |some v=>rw[hlo]at this;simp only at this⊢;rw[Sem.run_bind,this];rfl
theorem Zvx {t:TypeId} {y:Operand} {lo hi:Option Operand} (ho:o.op= .slice t y lo hi none):y∈o.op.operands∧(∀x,lo=some x→x∈o.op.operands)∧(∀x,hi=some x→x∈o.op.operands):=by
 rw[ho];refine⟨by simp[Op.operands],fun x hx=>?_,fun x hx=>?_⟩
 ·subst hx;simp[Op.operands]
 ·subst hx;simp[Op.operands]
theorem ZvS {ψ:Ps} {sz i n:Nat} {cb:CB} {base:Addr} {off cap l u:Nat} {lo:Bool} (hcb:ψ (.inl i)=some cb) (hb:0<cap→base=⟨cb.b,cb.o+off,none⟩∧off+cap*sz≤cb.m)
  (h1:l≤u) (h2:u≤n) (h3:n≤cap) (hlo:lo=false→l=0):
  VR C ψ (.slice sz (cutA lo (some (i,off)) (l*sz)) (cutN lo l u)) (.slice (some (if cap=l then base else base.add (l*sz))) (u-l) (cap-l)):=by
 have e:cutA lo (some (i,off)) (l*sz)=some (i,off+l*sz):=by
  cases lo with
  |true=>simp[cutA,Nat.add_comm]
  |false=>simp[cutA,hlo rfl]
 have e2:cutN lo l u=u-l:=by
  cases lo with
  |true=>rfl
  |false=>simp[cutN,hlo rfl]
 rw[e,e2];refine .slice sz i _ _ cb _ _ hcb (by omega) (fun hc=>?_);obtain⟨h4,h5⟩:=hb (by omega);rw[if_neg (by omega),h4,ZdM];refine⟨by rw[Nat.add_assoc],?_⟩;have:off+l*sz+(cap-l)*sz=off+cap*sz:=by rw[Nat.add_assoc,←Nat.add_mul];congr 2;omega
 omega
theorem Zu8 {t:TypeId} {y:Operand} {lo hi:Option Operand} (ho:o.op= .slice t y lo hi none) (hWD: ∀h,W h→D h) (hDh:(∃m e,C.P.underlying t=some (.array m e))→∀i,D (.inl i))
  {K:Env→M β} {r:Out β×St} (h:Zqq C E o K t y lo hi s=some r):Res C md pr ms o D W E s K r:=by
 obtain⟨my,mlo,mhi⟩:=Zvx ho;unfold Zqq at h;cases ht:C.P.underlying t with
 |none=>rw[ht]at h;cases h
 |some td=>
  rw[ht]at h;cases td with
  |string=>
   simp only at h;obtain⟨d,hd,h⟩:=Zr h;cases d with
   |str x=>
    simp only at h;obtain⟨l,u,h,h1,h2,h3,h4,hr⟩:=Zh3 (o:=o) (D:=D) h;refine Res.val hWD _ h fun ψ Q a w p=>?_
    have hv:=p.val my hd;generalize hy:a.eval y=v at hv;cases hv with
    |str x=>
     have hlen:x.data.toList.length=x.size:=by rw[Array.length_toList];rfl
     have hr':=hr ψ Q a w p mlo mhi false x.size (by omega) (fun _=>hlen);rw[hlen]at hr';refine⟨.string (x.extract l u),w,?_,.refl w,?_⟩
     ·simp only[execOp,ho,hy,Instr.sliceAt,Sem.run_bind,Zj w ht,Result.andThen_ok,Instr.slice,Option.map_none,Option.isSome_none,Bool.false_eq_true,if_false,Sem.run_pure,hr']
     ·have e:cutS lo.isSome hi.isSome x.data.toList l u=(x.extract l u).data.toList:=by
       rw[ByteArray.data_extract,Array.toList_extract,List.extract_eq_take_drop];have e2:(x.data.toList.take u).drop l=(x.data.toList.drop l).take (u-l):=by rw[List.drop_take]
       cases lo with
       |none=>
        have:=h3 rfl;subst this;cases hi with
        |none=>
         have:=h4 rfl;subst this;simp only[cutS,Option.isSome_none,cond_false];rw[List.drop_zero,Nat.sub_zero,List.take_of_length_le (Nat.le_refl _)]
        |some _=>simp[cutS]
       |some _=>
        cases hi with
        |none=>
         have:=h4 rfl;subst this;simp only[cutS,Option.isSome_some,Option.isSome_none,cond_true,cond_false];rw[List.take_of_length_le (by simp)]
        |some _=>simp only[cutS,Option.isSome_some,cond_true];exact e2
      rw[e];exact .str _
   |_=>cases h
  |slice e=>
   simp only at h;obtain⟨ed,he,h⟩:=Z9 h;obtain⟨d,hd,h⟩:=Zr h;cases d with
   |slice z a n=>
    simp only at h;obtain⟨hz,h⟩:=Zo h;obtain⟨l,u,h,h1,h2,h3,h4,hr⟩:=Zh3 (o:=o) (D:=D) h;refine Res.val hWD _ h fun ψ Q A w p=>?_
    have hv:=p.val my hd;generalize hy:A.eval y=v at hv;cases hv with
    |sliceN=>
     have hr':=hr ψ Q A w p mlo mhi true 0 (Nat.le_refl _) (fun h=>nomatch h);have:l=0:=by omega
     subst this;have:u=0:=by omega
     subst this;refine⟨.slice none 0 0,w,?_,.refl w,?_⟩
     ·simp[execOp,ho,hy,Instr.sliceAt,Instr.slice,Zj w ht,hr',ZJ w he]
     ·cases lo<;>exact .sliceN _
    |slice _ i off _ cb base cap hcb hcap hb=>
     simp only[Option.isNone_some,Bool.or_false]at hz;have hz:=Nat.eq_of_beq_eq_true hz;subst hz;have hr':=hr ψ Q A w p mlo mhi true cap hcap (fun h=>nomatch h);refine⟨_,w,?_,.refl w,ZvS hcb hb h1 h2 hcap (fun hl=>h3 (by cases lo<;>first|rfl|cases hl))⟩;simp only[execOp,ho,hy,Instr.sliceAt,Instr.slice,Sem.run_bind,Zj w ht,Result.andThen_ok,Option.map_none,hr',ZJ w he,Sem.run_pure,Option.map_some];by_cases hcl:cap=l<;>simp[hcl]
   |_=>cases h
  |array m e=>
   simp only at h;obtain⟨ed,he,h⟩:=Z9 h;obtain⟨d,hd,h⟩:=Zr h;cases d with
   |ptr a=>
    simp only at h;obtain⟨i,off,ha,h'⟩:=Zqt h;clear h;subst ha;obtain⟨f,cs,hst,hle,h⟩:=ZgS h';obtain⟨l,u,h,h1,h2,h3,h4,hr⟩:=Zh3 (o:=o) (D:=D) h;refine Res.val hWD _ h fun ψ Q A w p=>?_
    have hv:=p.val my hd;generalize hy:A.eval y=v at hv;cases hv with
    |ptr _ _ cb hcb=>
     have hh:=(p.at (hDh ⟨m,e,ht⟩ i) hst hcb).1;have hr':=hr ψ Q A w p mlo mhi false m (Nat.le_refl _) (fun _=>rfl);refine⟨_,w,?_,.refl w,ZvS (cap:=m) (base:=⟨cb.b,cb.o+off,none⟩) hcb (fun _=>⟨rfl,by omega⟩) h1 h2 (Nat.le_refl _) (fun hl=>h3 (by cases lo<;>first|rfl|cases hl))⟩;simp only[execOp,ho,hy,Instr.sliceAt,Sem.run_bind,Zj w ht,Result.andThen_ok,Z3,Option.map_none,hr',ZJ w he,Sem.run_pure]
   |_=>cases h
  |_=>cases h
theorem Zu1 {t:TypeId} {y:Operand} (ho:o.op= .range t y) (hWD: ∀h,W h→D h) {K:Env→M β} {r:Out β×St} (h:ZpC C E o K t y s=some r):Res C md pr ms o D W E s K r:=by
 unfold ZpC at h;cases ht:C.P.underlying t with
 |none=>rw[ht]at h;cases h
 |some td=>
  rw[ht]at h;cases td with
  |string=>
   simp only at h;obtain⟨d,hd,h⟩:=Zr h;cases hdst:o.dst with
   |none=>rw[hdst]at h;cases d<;>cases h
   |some u=>
    rw[hdst]at h;cases d with
    |str l=>
     simp only at h;refine Res.newL (by unfold Spec;rw[ho];trivial) hWD u hdst _ _ (.inr ⟨l,0,rfl,rfl⟩) h fun ψ Q a w p=>?_
     have hv:=p.val (x:=y) (by simp[Op.operands,ho]) hd;generalize hy:a.eval y=v at hv;cases hv with
     |str x=>
      refine⟨w.alloc (.stringIter x 0),⟨w.heap.size,0,0⟩,?_,.alloc w _,Nat.le_refl _,by simp,rfl,x,heap_alloc_new w _,rfl⟩;simp[execOp,ho,hy,Instr.range,Zj w ht]
    |_=>cases h
  |_=>cases h
theorem Zyg (s:ByteArray) (i:Nat):s.get! i=s.data.toList.getD i 0:=by
 show s.data[i]! =_;rw[Array.getElem!_eq_getD,List.getD_eq_getElem?_getD,Array.getD_eq_getD_getElem?];simp;rfl
theorem Zh1 (s:ByteArray) (i:Nat):dec s.data.toList i=Utf8.decode s i:=by
 have hl:s.data.toList.length=s.size:=by rw[Array.length_toList];rfl
 unfold dec Utf8.decode;simp only[Zyg,hl]
theorem Zm3 {P:Program} {w:World} {b:Nat} {x:ByteArray} {p:Nat} (h:w.heap[b]? =some (.stringIter x p)):(getObj b).run P w= .ok (.stringIter x p) w:=by
 simp only[getObj,Sem.run,h]
theorem Zvo {P:Program} {w:World} {b:Nat} {x y:ByteArray} {p q:Nat} (h:w.heap[b]? =some (.stringIter x p)):(setObj b (.stringIter y q)).run P w= .ok () (setB w b (.stringIter y q)):=by
 simp only[setObj,Sem.run,h];rfl
theorem ZvY {t:Nat} (ho:o.op= .next (.tmp t) true) (hWD: ∀h,W h→D h) (hW: ∀v,(E.get t).ver=some v→W (.inr v)) {K:Env→M β} {r:Out β×St} (h:ZsL E o K ms t s=some r):Res C md pr ms o D W E s K r:=by
 unfold ZsL at h;cases hl:E.get t with
 |it v l pos=>
  rw[hl]at h;cases hdst:o.dst with
  |none=>rw[hdst]at h;cases h
  |some d=>
   rw[hdst]at h;simp only at h;obtain⟨hc,h⟩:=ZfL h;rw[Bool.or_eq_false_iff]at hc;have hne:d≠t:=Nat.ne_of_beq_eq_false hc.1;have hms:has ms t=true:=by simpa using hc.2
   have hWv:=hW v (by rw[hl];rfl);have at_: ∀ψ Q a w,Pre C o D E s ψ Q a w→∃cb x,ψ (.inr v)=some cb∧a.eval (.tmp t)= .pointer (some ⟨cb.b,0,none⟩)∧Q (.inr v) (.iter l pos)∧w.heap[cb.b]? =some (.stringIter x pos)∧x.data.toList=l:=by
    intro ψ Q a w p;have:=p.args t (by simp[Op.operands,ho]);rw[hl]at this;obtain⟨cb,e1,e2⟩:=this;have hq:=p.know (.inr v) (.iter l pos) cb (hWD _ hWv) (.inr ⟨t,l,pos,hl,rfl⟩) e1;obtain⟨x,h1,h2⟩:=p.sim.holds _ cb _ e1 hq;exact⟨cb,x,e1,e2,hq,h1,h2⟩
   cases hb:Nat.blt pos l.length with
   |false=>
    rw[hb]at h;simp only[cond_false]at h;refine Res.pure hWD (.tup [.bool false]) rfl (fun _ _ _ _ e=>nomatch e) (by rw[hdst];exact h) fun ψ Q a w p=>?_
    obtain⟨cb,x,e1,e2,hq,h1,h2⟩:=at_ ψ Q a w p;have hlen: ¬pos<x.size:=by
     have:x.data.toList.length=x.size:=by rw[Array.length_toList];rfl
     rw[←this,h2];intro hlt;have:Nat.blt pos l.length=true:=by rw[Nat.blt_eq];exact hlt
     rw[hb]at this;cases this
    refine⟨.tuple #[.bool false],w,?_,.refl w,_,rfl,.cons _ _ _ _ (.bool _) .nil⟩;simp only[execOp,ho,e2,Instr.next,Sem.run_bind,Zm3 h1,Result.andThen_ok,hlen,if_false,Sem.run_pure]
   |true=>
    rw[hb]at h;simp only[cond_true]at h;have hlt:pos<l.length:=by rw[Nat.blt_eq]at hb;exact hb
    have get: ∀k,((E.put t (.it v l (pos+runeW l pos))).put d (.tup [.bool true,.int .i64 pos,.int .i32 (Ziv l pos)])).get k=
      if d=k then .tup [.bool true,.int .i64 pos,.int .i32 (Ziv l pos)]else if t=k then .it v l (pos+runeW l pos)else E.get k:=fun k=>by rw[Env.get_put,Env.get_put]
    have uniq:EOK E→∀q,(E.get q).ver=some v→q=t:=fun hE q hq=>hE.uniq q t v hq (by rw[hl];rfl)
    refine .inl ⟨_,_,h,⟨Nat.le_refl _,Nat.le_refl _,fun hE=>⟨?_,?_,?_,?_⟩,?_,(fun k d' _ h'=>by
     rw[get]at h';split at h'
     ·cases h'
     ·split at h'
      ·cases h'
      ·exact h'),?_,?_,?_,?_,fun _ _ _=>rfl,.inr (by unfold Spec;rw[ho];trivial),.inl rfl⟩,?_⟩
    ·intro k v' h'
     rw[get]at h';split at h'
     ·cases h'
     ·split at h'
      ·cases h';exact hE.lt t v (by rw[hl];rfl)
      ·exact hE.lt k v' h'
    ·intro k a b c h'
     rw[get]at h';split at h'
     ·cases h'
     ·split at h'
      ·cases h'
      ·exact hE.pl k a b c h'
    ·intro k a b c h'
     rw[get]at h';split at h'
     ·cases h'
     ·split at h'
      ·cases h'
      ·exact hE.len k a b c h'
    ·intro k k' v' h' h''
     rw[get]at h' h'';split at h'
     ·cases h'
     ·split at h''
      ·cases h''
      ·split at h'<;>split at h''
       ·omega
       ·cases h';rename_i e1 e2 _;rw[←e2];exact(uniq hE k' h'').symm
       ·cases h'';rename_i e2;rw[←e2];exact uniq hE k h'
       ·exact hE.uniq k k' v' h' h''
    ·intro k hk hm
     rw[get,if_neg (fun e=>hk (by rw[hdst,e])),if_neg];rintro rfl;rw[hms]at hm;cases hm
    ·intro k hk C' ψ x hr
     rw[get,if_neg (fun e=>hk (by rw[hdst,e]))];split
     ·rename_i e;subst e;rw[hl]at hr;exact hr
     ·exact hr
    ·intro h' ab c
     cases h' with
     |inl i=>exact .inr (.inr c)
     |inr k=>
      rcases c with⟨q,n',cs',hq,hab⟩|⟨q,l',p,hq,hab⟩
      ·rw[get]at hq
       split at hq
       ·cases hq
       ·split at hq
        ·cases hq
        ·exact .inr (.inr (.inl ⟨q,n',cs',hq,hab⟩))
      ·rw[get]at hq
       split at hq
       ·cases hq
       ·split at hq
        ·cases hq;exact .inl hWv
        ·exact .inr (.inr (.inr ⟨q,l',p,hq,hab⟩))
    ·intro k v' n' cs' h'
     rw[get]at h';split at h'
     ·cases h'
     ·split at h'
      ·cases h'
      ·exact .inl ⟨cs',h'⟩
    ·intro k v' l' p h'
     rw[get]at h';split at h'
     ·cases h'
     ·split at h'
      ·rename_i e;cases h';subst e;exact .inl ⟨pos,hl⟩
      ·exact .inl ⟨p,h'⟩
    ·intro ψ Q a w next QQ p room hn
     obtain⟨cb,x,e1,e2,hq,h1,h2⟩:=at_ ψ Q a w p;have hx:x.data.toList.length=x.size:=by rw[Array.length_toList];rfl
     have hlt':pos<x.size:=by rw[←hx,h2];exact hlt
     have hset:=SetW.setB w cb.b (.stringIter x (pos+runeW l pos));have hr:(execOp a.eval o).run C.P w= .ok (.value (.tuple #[.bool true,.int .i64 pos,.int .i32 (Ziv l pos)])) (setB w cb.b (.stringIter x (pos+runeW l pos))):=by
      have hd:=Zh1 x pos;rw[h2]at hd;simp only[execOp,ho,e2,Instr.next,Sem.run_bind,Zm3 h1,Result.andThen_ok,hlt',if_true,←hd,Zvo h1,Sem.run_pure];rfl
     unfold Oper.wp;rw[hr];refine hn ψ (upQ Q (.inr v) (.iter l (pos+runeW l pos))) _ _ ⟨Sim.set p.sim e1 hq rfl hset.other ⟨x,ZiR (ZbK h1) _,h2⟩,Ext.set e1 hq rfl hset.other hset.size hset.tape hset.os hset.output,
      fun _ _ e=> .inl e,fun h' ab c cr hw e'=>?_,fun h' ab c e' q nw _=>?_⟩ (fun d' hd'=>?_)
     ·have old:(h'= .inr v∧ab= .iter l (pos+runeW l pos))∨(h'≠ .inr v∧CR E s h' ab):=by
       cases h' with
       |inl i=>exact .inr ⟨by simp,cr⟩
       |inr k=>
        rcases cr with⟨q,n',cs',hq,hab⟩|⟨q,l',p',hq,hab⟩
        ·rw[get]at hq
         split at hq
         ·cases hq
         ·split at hq
          ·cases hq
          ·rename_i hnt
           refine .inr ⟨fun e=>?_,.inl ⟨q,n',cs',hq,hab⟩⟩;cases e;exact hnt (uniq p.eok q (by rw[hq];rfl)).symm
        ·rw[get]at hq
         split at hq
         ·cases hq
         ·split at hq
          ·cases hq;exact .inl ⟨rfl,hab⟩
          ·rename_i hnt
           refine .inr ⟨fun e=>?_,.inr ⟨q,l',p',hq,hab⟩⟩;cases e;exact hnt (uniq p.eok q (by rw[hq];rfl)).symm
      rcases old with⟨rfl,rfl⟩|⟨hne',cr⟩
      ·exact .inl ⟨rfl,rfl⟩
      ·refine .inr ⟨hne',?_⟩
       rcases hw with hw|⟨n1,n2⟩
       ·exact p.know h' ab c (hWD h' hw) cr e'
       ·exact absurd (cr.dom p.eok) n1
     ·exact .inr ⟨fun e=>nw (by rw[e];exact hWv),q⟩
     ·rw[hdst]at hd';cases hd'
      rw[get,if_pos rfl];exact⟨_,rfl,.cons _ _ _ _ (.bool _) (.cons _ _ _ _ (.int _ _) (.cons _ _ _ _ (.int _ _) .nil))⟩
 |_=>rw[hl]at h;cases h
theorem Zly {P:Program} {e:TypeId} {d:TypeDesc} (h1:P.underlying P.rt.typeAssertionError=some (.pointer e)) (_h2:P.underlying e=some d) (i c:Option TypeId) (a:TypeId) (m:String) (w:World):
  ∃t v o,(runtimePanic (.typeAssertion i c a m):Sem Value).run P w= .halt (.panic (.iface t v)) (w.alloc o):=by
 simp only[runtimePanic,Sem.run_bind,run_program,Result.andThen_ok,elemOf,Zj w h1,Sem.run_pure,Zkk,run_goPanic];exact⟨_,_,_,rfl⟩
theorem OpPan.more (hrun: ∀ψ Q a w,Pre C o D E s ψ Q a w→∃t v w',(execOp a.eval o).run C.P w= .halt (.panic (.iface t v)) w'∧More w w') (hD: ∀i,D (.inl i)):OpPan C o D E s s:=by
 refine⟨Nat.le_refl _,fun ψ Q a w next QQ p _ hn=>?_⟩;obtain⟨t,v,w',hr,hm⟩:=hrun ψ Q a w p;unfold Oper.wp;rw[hr];exact hn ψ Q _ w' ⟨t,v,rfl⟩ (p.sim.more p.blks hm) (Ext.more hm) (fun _ _ e=> .inl e) fun i ab cb h e=>p.know (.inl i) ab cb (hD i) h e
theorem Zl2 {r:Out β×St} (h:panK md s=some r):md.x=0∧r=(.pan,s):=by
 unfold panK at h;obtain⟨h1,h⟩:=Zo h;refine⟨Nat.eq_of_beq_eq_true h1,?_⟩;simp only[M.pan,Option.some.injEq]at h;exact h.symm
theorem ZtF {t xt:TypeId} {y:Operand} (hc:CfgOk C) (ho:o.op= .typeAssert y xt t false) (hWD: ∀h,W h→D h) (hD: ∀i,D (.inl i)) {K:Env→M β} {r:Out β×St} (h:ZnU C E o K md t y s=some r):Res C md pr ms o D W E s K r:=by
 unfold ZnU at h;cases ht:C.P.underlying t with
 |none=>rw[ht]at h;cases h
 |some td=>
  have hni: ∀m,td≠ .interface m:=by rintro m rfl;rw[ht]at h;cases h
  have h':valK C E y (fun d=>Go.Gv.D.asr (panK md) d (C.ty t) fun d=>dsh (shOf C.P t) d (putK E o K)) s=some r:=by rw[ht]at h;cases td<;>first|exact h|exact absurd rfl (hni _)
  obtain⟨d,hd,h'⟩:=Zr h';have fails: ∀(a:Act) (w:World),(a.eval y= .nilIface∨∃t' v,a.eval y= .iface t' v∧t'≠t)→∃t v w',(execOp a.eval o).run C.P w= .halt (.panic (.iface t v)) w'∧More w w':=by
   intro a w hy;obtain⟨e,ed,e1,e2⟩:=hc.tae;rcases hy with hy|⟨t',v,hy,hne⟩
   ·obtain⟨tv,v,ob,hv⟩:=Zly e1 e2 (some xt) none t "" w
    refine⟨tv,v,_,?_,.alloc w ob⟩;simp only[execOp,ho,hy,Instr.typeAssert,Sem.run_bind,Zj w ht,Result.andThen_ok];cases td<;>first|(simp only[Bool.false_eq_true,if_false,hv,Result.andThen_halt];done)|exact absurd rfl (hni _)
   ·obtain⟨tv,v,ob,hv⟩:=Zly e1 e2 (some xt) (some t') t "" w
    refine⟨tv,v,_,?_,.alloc w ob⟩;simp only[execOp,ho,hy,Instr.typeAssert,Sem.run_bind,Zj w ht,Result.andThen_ok];cases td<;>first|(simp only[if_neg hne,Bool.false_eq_true,if_false,hv,Result.andThen_halt];done)|exact absurd rfl (hni _)
  cases d with
  |iface t' d=>
   simp only[Go.Gv.D.asr]at h';cases hb:Nat.beq t' (C.ty t)with
   |true=>
    rw[hb]at h';simp only[cond_true]at h';obtain⟨d',h',hr,_⟩:=ZkL h';refine Res.val hWD _ h' fun ψ Q a w p=>?_
    have hv:=p.val (x:=y) (by simp[Op.operands,ho]) hd;generalize hy:a.eval y=v at hv;cases hv with
    |iface t0 _ v hv=>
     have:=hc.ty _ _ (Nat.eq_of_beq_eq_true hb);subst this;refine⟨v,w,?_,.refl w,hr C ψ v hv⟩;simp only[execOp,ho,hy,Instr.typeAssert,Sem.run_bind,Zj w ht,Result.andThen_ok];cases td<;>first|(simp;done)|exact absurd rfl (hni _)
   |false=>
    rw[hb]at h';obtain⟨hx,rfl⟩:=Zl2 h';refine .inr ⟨hx,s,rfl,OpPan.more (fun ψ Q a w p=>fails a w (.inr ?_)) hD⟩;have hv:=p.val (x:=y) (by simp[Op.operands,ho]) hd;generalize hy:a.eval y=v at hv;cases hv with
    |iface t0 _ v hv=>exact⟨t0,v,rfl,fun e=>by subst e;rw[Nat.beq_refl]at hb;cases hb⟩
  |nilIface=>
   obtain⟨hx,rfl⟩:=Zl2 h';refine .inr ⟨hx,s,rfl,OpPan.more (fun ψ Q a w p=>fails a w (.inl ?_)) hD⟩;have hv:=p.val (x:=y) (by simp[Op.operands,ho]) hd;generalize hy:a.eval y=v at hv;cases hv;rfl
  |_=>cases h'
theorem ZuE {y:Operand} (ho:o.op= .panic y) (hD: ∀i,D (.inl i)) {K:Env→M β} {r:Out β×St} (h:Zqa C E md y s=some r):Res C md pr ms o D W E s K r:=by
 unfold Zqa at h;obtain⟨d,hd,h⟩:=Zr h;cases d with
 |iface t d=>
  obtain⟨hx,rfl⟩:=Zl2 h;refine .inr ⟨hx,s,rfl,OpPan.more (fun ψ Q a w p=>?_) hD⟩;have hv:=p.val (x:=y) (by simp[Op.operands,ho]) hd;generalize hy:a.eval y=v at hv;cases hv with
  |iface t0 _ v hv=>exact⟨t0,v,w,by simp only[execOp,ho,hy,Instr.panic,Sem.run_bind,run_goPanic,Result.andThen_halt],.refl w⟩
 |_=>cases h
end
end Go.Gv
namespace Go.Gv
variable {β:Type}
section
variable {C:Cfg} {o:Oper} {D W:HId→Prop} {E:Env} {s:St} {md:Md} {pr ms:List Nat}
theorem ZvO: ∀(l:List Value) (k off:Nat) (c:Array Value),(l.zipIdx k).foldl (fun cs (x:Value×Nat)=>cs.setIfInBounds (off+x.2) x.1) c=ovA c (off+k) l
 |[],_,_,_=>rfl
 |v::l,k,off,c=>by
  simp only[List.zipIdx_cons,List.foldl_cons,ovA];rw[ZvO l (k+1) off];rfl
theorem ZxQ (place:Nat→Option (Nat×Nat)) (cells:Array Value) (i:Nat) (v:Value) (rest:List (Nat×Value)) {off size:Nat} (hp:place i=some (off,size)) (h1:v.cells.size=size) (h2:off+size≤cells.size):
  Instr.fill place cells ((i,v)::rest)=Instr.fill place (ovA cells off v.cells.toList) rest:=by
 subst h1;have e:v.cells.zipIdx.foldl (fun cs (x:Value×Nat)=>cs.setIfInBounds (off+x.2) x.1) cells=ovA cells off v.cells.toList:=by
  rw[←Array.foldl_toList,Array.toList_zipIdx];exact ZvO v.cells.toList 0 off cells
 have hn: ¬(off+v.cells.size>cells.size):=by omega
 simp only[Instr.fill,hp,ne_eq,not_true_eq_false,decide_false,Bool.false_or,hn,Bool.false_eq_true,if_false];exact congrArg (fun x=>Instr.fill place x rest) e
theorem VRs.lenA {ψ:Ps} {ds:List DV} {vs:Array Value} (h:VRs C ψ ds vs.toList):ds.length=vs.size:=by have:=h.len;simpa using this
theorem Zzb {ψ:Ps} {cs ds:List DV} {vs:Array Value} {us:List Value} {off:Nat} (h:VRs C ψ cs vs.toList) (h':VRs C ψ ds us) (hl:off+ds.length≤cs.length):VRs C ψ (spl cs off ds) (ovA vs off us).toList:=by
 have e1:=h.lenA;have e2:=h'.len;refine VRs.of _ _ (by simp[Zfv,e1]) fun j d v hd hv=>?_
 rw[ZjZ cs off ds j hl]at hd;rw[Array.getElem?_toList,Zmy _ _ _ _ (by omega)]at hv;split at hd
 ·rw[if_pos (by omega)]at hv
  obtain⟨v',hv',hr⟩:=h'.get hd;rw[hv]at hv';cases hv';exact hr
 ·rw[if_neg (by omega)]at hv
  obtain⟨v',hv',hr⟩:=h.get hd;rw[Array.getElem?_toList,hv]at hv';cases hv';exact hr
theorem Zl3 {N:Nat} {place:Nat→Option (Nat×Nat)} {r:Out β×St} : ∀ {l:List (Nat×Operand)} {cs:List DV} {K:List DV→M β},layK E C N place l cs K s=some r→cs.length=N→
  ∃cs',K cs' s=some r∧cs'.length=N∧∀ψ Q a w,Pre C o D E s ψ Q a w→(∀x∈l,x.2∈o.op.operands)→∀vs:Array Value,VRs C ψ cs vs.toList→cs.all one=true→
   ∃vs',Instr.fill place vs (l.map fun x=>(x.1,a.eval x.2))=some vs'∧VRs C ψ cs' vs'.toList∧cs'.all one=true
 |[],cs,K,h,hl=>⟨cs,h,hl,fun ψ Q a w _ _ vs hr h1=>⟨vs,rfl,hr,h1⟩⟩
 |(i,x)::l,cs,K,h,hl=>by
  simp only[layK]at h;cases hp:place i with
  |none=>rw[hp]at h;cases h
  |some on=>
   obtain⟨off,n⟩:=on;rw[hp]at h;simp only at h;obtain⟨hb,h⟩:=Zo h;have hb:=Nat.le_of_ble_eq_true hb;obtain⟨d,hd,h⟩:=Zr h;have go: ∀ds,layK E C N place l (spl cs off ds) K s=some r→ds.length=n→(∀(ψ:Ps) v,VR C ψ d v→VRs C ψ ds v.cells.toList∧ds.all one=true)→
     ∃cs',K cs' s=some r∧cs'.length=N∧∀ψ Q a w,Pre C o D E s ψ Q a w→(∀y∈(i,x)::l,y.2∈o.op.operands)→∀vs:Array Value,VRs C ψ cs vs.toList→cs.all one=true→
      ∃vs',Instr.fill place vs (((i,x)::l).map fun x=>(x.1,a.eval x.2))=some vs'∧VRs C ψ cs' vs'.toList∧cs'.all one=true:=by
    intro ds h hdl hr;obtain⟨cs',h,hl',hrest⟩:=Zl3 h (by rw[Zfv];exact hl);refine⟨cs',h,hl',fun ψ Q a w p hm vs hv h1=>?_⟩;obtain⟨h3,h4⟩:=hr ψ _ (p.val (hm (i,x) (by simp)) hd);have hsz:(a.eval x).cells.size=n:=by rw[←hdl,h3.lenA]
    have hvl:=hv.lenA;obtain⟨vs',e1,e2,e3⟩:=hrest ψ Q a w p (fun y hy=>hm y (by simp[hy])) _ (Zzb (off:=off) hv h3 (by omega)) (ZvT h1 h4 (by omega));refine⟨vs',?_,e2,e3⟩;rw[List.map_cons,ZxQ place vs i _ _ hp hsz (by omega)];exact e1
   have plain:(∀cs,d≠ .agg cs)→(bif Nat.beq n 1 then M.chk (one d) (layK E C N place l (spl cs off [d]) K)else fail) s=some r→_:=fun hna h=>by
    obtain⟨h1,h⟩:=Zo h;obtain⟨h2,h⟩:=ZK h;exact go [d] h (by simpa using (Nat.eq_of_beq_eq_true h1).symm) (fun ψ v hv=>by rw[hv.cells1 h2];exact⟨.cons _ _ _ _ hv .nil,by simp[h2]⟩)
   cases d with
   |agg ds=>
    simp only at h;obtain⟨h1,h⟩:=Znn h;rw[ZqC hl h1 hb]at h;exact go ds h h1 (fun ψ v hv=>by cases hv with|agg _ vs a b=>exact⟨a,b⟩)
   |_=>exact plain (by simp) h
theorem Zk9 {P:Program} : ∀(fs:List Field),(fs.all fun f=>(P.info? f.type).isSome)=true→fs.mapM (fun f=>(P.info? f.type).map fun i=>(f.offset,i.size))=some (fs.map fun f=>(f.offset,P.cellsOf f.type))
 |[],_=>rfl
 |f::fs,h=>by
  simp only[List.all_cons,Bool.and_eq_true]at h;obtain⟨i,hi⟩:=Option.isSome_iff_exists.1 h.1;simp[List.mapM_cons,hi,Zk9 fs h.2,Program.cellsOf]
theorem ZuT {t:TypeId} {ps:Array (Nat×Operand)} (ho:o.op= .build t ps) (hWD: ∀h,W h→D h) {K:Env→M β} {r:Out β×St} (h:Zqp C E o K t ps s=some r):Res C md pr ms o D W E s K r:=by
 unfold Zqp at h;cases hz:Zbp C.P t with
 |none=>rw[hz]at h;cases h
 |some z=>
  rw[hz]at h;simp only at h;obtain⟨hpl,h⟩:=Zo h;obtain⟨cs',h,hl,hr⟩:=Zl3 (o:=o) (D:=D) h rfl;refine Res.val hWD _ h fun ψ Q a w p=>?_
  unfold Zbp at hz;cases hi:C.P.info? t with
  |none=>rw[hi]at hz;cases hz
  |some it=>
   rw[hi]at hz;simp only at hz;cases hzz:it.zero with
   |none=>rw[hzz]at hz;cases hz
   |some zv=>
    rw[hzz]at hz;obtain⟨hz1,hz2⟩:=Zd9 (C:=C) (ψ:=ψ) hz;obtain⟨vs',e1,e2,e3⟩:=hr ψ Q a w p (fun x hx=>by simp only[Op.operands,ho,List.mem_toArray,List.mem_map];exact⟨x,hx,rfl⟩) _ hz1 hz2;refine⟨.agg vs',w,?_,.refl w,.agg _ _ e2 e3⟩;have hb:C.P.built t (ps.map fun(i,x)=>(i,a.eval x)).toList=some vs':=by
     have e1':Instr.fill (ZpK C.P t) zv.cells (ps.map fun(i,x)=>(i,a.eval x)).toList=some vs':=by rw[Array.toList_map];exact e1
     unfold Program.built Zuj at*
     unfold ZpK at e1';cases hu:C.P.underlying t with
     |none=>rw[hu]at hpl;cases hpl
     |some td=>
      rw[hu]at hpl e1';rw[hi];cases td with
      |struct fs=>
       simp only at hpl⊢;rw[hzz,Zk9 _ hpl];simp only at e1'⊢;rw[←e1'];congr 1;funext i;rw[List.getElem?_toArray,List.getElem?_map,Array.getElem?_toList];cases fs[i]? <;>rfl
      |array m e=>
       simp only at hpl⊢;obtain⟨ie,hie⟩:=Option.isSome_iff_exists.1 hpl;rw[hzz,hie];simp only at e1'⊢;rw[←e1'];simp[Program.cellsOf,hie]
      |_=>cases hpl
    simp only[execOp,ho,Sem.run_bind,run_build w t _ _ hb,Result.andThen_ok,Sem.run_pure]
theorem Zd1 (n:Nat) (z:List DV):(rep n z).length=n*z.length:=by
 induction n with
 |zero=>simp[rep]
 |succ n ih=>
  have:rep (n+1) z=z++rep n z:=by simp[rep,List.replicate_succ]
  rw[this,List.length_append,ih,Nat.succ_mul,Nat.add_comm]
theorem ZhU {n:Nat} {z:List DV} (h:z.all one=true):(rep n z).all one=true:=by
 induction n with
 |zero=>rfl
 |succ n ih=>
  have:rep (n+1) z=z++rep n z:=by simp[rep,List.replicate_succ]
  rw[this,List.all_append,h,ih];rfl
theorem Zzy (n:Nat) (z:List DV) (j:Nat) (h:j<n*z.length):(rep n z)[j]? =z[j%z.length]? :=by
 induction n generalizing j with
 |zero=>simp at h
 |succ n ih=>
  have e:rep (n+1) z=z++rep n z:=by simp[rep,List.replicate_succ]
  rw[e];by_cases hj:j<z.length
  ·rw[List.getElem?_append_left hj,Nat.mod_eq_of_lt hj]
  ·rw[List.getElem?_append_right (by omega),ih (j-z.length) (by rw[Nat.succ_mul]at h;omega)]
   rw[show j%z.length=(j-z.length)%z.length from by rw[Nat.mod_eq_sub_mod (by omega)]]
theorem ZnC {ψ:Ps} {z:List DV} {zv:Array Value} (h:VRs C ψ z zv.toList) (n m:Nat) (hm:n*z.length≤m):VRs C ψ (rep n z) ((madeCells zv m).toList.take (rep n z).length):=by
 have hl:=h.lenA;refine VRs.of _ _ (by simp[size_madeCells,Zd1];omega) fun j d v hd hv=>?_
 rw[Zd1]at hv;rw[List.getElem?_take]at hv;split at hv
 ·rename_i hj
  rw[Zzy n z j hj]at hd;obtain⟨v',hv',hr⟩:=h.get hd;rw[Array.getElem?_toList]at hv hv';unfold madeCells at hv;rw[Array.getElem?_map,Array.getElem?_range]at hv;rw[if_pos (by omega)]at hv;simp only[Option.map_some,Option.some.injEq]at hv;rw[←hl]at hv;rw[←hv,getElem!_def,hv'];exact hr
 ·cases hv
theorem Znm {t:TypeId} {len:Nat} {ps:Array (Nat×Operand)} (ho:o.op= .buildSlice t len ps) (hWD: ∀h,W h→D h) {K:Env→M β} {r:Out β×St} (h:ZhZ C E o K t len ps s=some r):Res C md pr ms o D W E s K r:=by
 unfold ZhZ at h;unfold Zdg at h;cases ht:C.P.underlying t with
 |none=>rw[ht]at h;cases h
 |some td=>
  rw[ht]at h;cases td with
  |slice e=>
   simp only at h;cases hz:Zbp C.P e with
   |none=>rw[hz]at h;cases h
   |some z=>
    rw[hz]at h;simp only at h;obtain⟨hb,h⟩:=Zo h;rw[Bool.and_eq_true]at hb;have hb1:=Nat.le_of_ble_eq_true hb.1;have hb2:=Nat.eq_of_beq_eq_true hb.2;obtain⟨cs',h,hl,hr⟩:=Zl3 (o:=o) (D:=D) h (by rw[Zd1,hb2]);refine Res.newH (by unfold NewOp;rw[ho];trivial) hWD (.slice (C.P.cellsOf e) (some (s.length,0)) len) cs' h fun ψ Q a w p=>?_
    obtain⟨zv,hzr,hzv,hz1⟩:=Zks (P:=C.P) w hz;have hzv:=hzv C ψ;have hzl:=hzv.lenA;have hie: ∃ie,C.P.info? e=some ie∧ie.size=C.P.cellsOf e:=by
     unfold Zbp at hz;cases hi:C.P.info? e with
     |none=>rw[hi]at hz;cases hz
     |some ie=>exact⟨ie,rfl,by simp[Program.cellsOf,hi]⟩
    obtain⟨ie,hie,hies⟩:=hie;have hmade:=ZnC hzv len (len*C.P.cellsOf e) (by rw[hb2];exact Nat.le_refl _);rw[Zd1,hb2,Zia (by simp[size_madeCells])]at hmade;obtain⟨vs',e1,e2,e3⟩:=hr ψ Q a w p (fun x hx=>by simp only[Op.operands,ho,List.mem_toArray,List.mem_map];exact⟨x,hx,rfl⟩) _ hmade (ZhU hz1);have hvl:=e2.lenA;rw[hl]at hvl;refine⟨.slice (some ⟨w.heap.size,0,none⟩) len len,w.alloc (.cells vs' e),⟨w.heap.size,0,vs'.size⟩,?_,.alloc w _,Nat.le_refl _,by simp,Zdh (by rw[Zia (by simp[hl,hvl])];exact e2) e3,fun ψ' _ hψ=>?_⟩
    ·have hn: ¬(len*C.P.cellsOf e>2^24):=by omega
     by_cases h0:len*C.P.cellsOf e=0
     ·have e0:madeCells zv.cells (len*C.P.cellsOf e)= #[]:=by rw[h0];simp[madeCells,Array.range_zero']
      rw[e0]at e1;simp only[execOp,ho,Instr.buildSlice,Sem.run_bind,Zj w ht,Result.andThen_ok,sizeOf,typeInfo,run_program,hie,Sem.run_pure,hies,h0,if_true,Array.range_zero',Array.map_empty];simp[e1,newRow]
     ·simp only[execOp,ho,Instr.buildSlice,Sem.run_bind,Zj w ht,Result.andThen_ok,sizeOf,typeInfo,run_program,hie,Sem.run_pure,hies,hn,if_false,h0,hzr]
      unfold madeCells at e1;simp[e1,newRow]
    ·have:=VR.slice (C:=C) (ψ:=ψ') (C.P.cellsOf e) s.length 0 len ⟨w.heap.size,0,vs'.size⟩ ⟨w.heap.size,0,none⟩ len hψ (Nat.le_refl _) (fun _=>⟨rfl,by simp only;omega⟩)
     exact this
  |_=>cases h
theorem Zov {t:TypeId} {l c:Operand} (ho:o.op= .makeSlice t l c) (hWD: ∀h,W h→D h) {K:Env→M β} {r:Out β×St} (h:ZjH C E o K t l c s=some r):Res C md pr ms o D W E s K r:=by
 unfold ZjH Zdg at h;cases ht:C.P.underlying t with
 |none=>rw[ht]at h;cases h
 |some td=>
  rw[ht]at h;cases td with
  |slice e=>
   simp only at h;cases hz:Zbp C.P e with
   |none=>rw[hz]at h;cases h
   |some z=>
    rw[hz]at h;simp only at h;obtain⟨hb2,h⟩:=Zo h;have hb2:=Nat.eq_of_beq_eq_true hb2;obtain⟨k1,n,hn,h⟩:=Ze8 h;obtain⟨k2,m,hm,h⟩:=Ze8 h;obtain⟨hb,h⟩:=ZK h;simp only[Bool.and_eq_true,decide_eq_true_eq]at hb;obtain⟨⟨h0,h1⟩,h2⟩:=hb;refine Res.newH (by unfold NewOp;rw[ho];trivial) hWD (.slice (C.P.cellsOf e) (some (s.length,0)) n.toNat) (rep n.toNat z) h fun ψ Q a w p=>?_
    unfold Zbp at hz;cases hi:C.P.info? e with
    |none=>rw[hi]at hz;cases hz
    |some ie=>
     rw[hi]at hz;simp only at hz;cases hzz:ie.zero with
     |none=>rw[hzz]at hz;cases hz
     |some zv=>
      rw[hzz]at hz;obtain⟨hz1,hz2⟩:=Zd9 (C:=C) (ψ:=ψ) hz;have hsz:ie.size=C.P.cellsOf e:=by simp[Program.cellsOf,hi]
      have hbytes:(ie.bytes:Int)*m≤281474976710656:=by
       unfold limOf Zkv at h2;rw[hi]at h2;simp only at h2;have h3:m.toNat≤70368744177664/ie.bytes:=by omega
       rcases Nat.eq_zero_or_pos ie.bytes with hz|hp
       ·rw[hz];simp
       ·have:=(Nat.le_div_iff_mul_le hp).1 h3
        have e:m=(m.toNat:Int):=by omega
        rw[e,←Int.natCast_mul,Nat.mul_comm];omega
      have h63:m≤9223372036854775807:=by
       unfold limOf at h2;have:=Nat.div_le_self 70368744177664 (Zkv C.P e);omega
      have hr:=run_make (P:=C.P) w t e ie zv ht hi hzz k1 k2 n m h0 h1 hbytes h63;have hle:n.toNat*C.P.cellsOf e≤m.toNat*ie.size:=by rw[hsz];exact Nat.mul_le_mul_right _ (by omega)
      refine⟨.slice (some ⟨w.heap.size,0,none⟩) n.toNat m.toNat,w.alloc (.cells (madeCells zv.cells (m.toNat*ie.size)) e),⟨w.heap.size,0,(madeCells zv.cells (m.toNat*ie.size)).size⟩,?_,.alloc w _,Nat.le_refl _,by simp,Zdh (ZnC hz1 n.toNat (m.toNat*ie.size) (by rw[hb2];exact hle)) (ZhU hz2),fun ψ' _ hψ=>?_⟩
      ·have e1:=p.int (x:=l) (by simp[Op.operands,ho]) hn
       have e2:=p.int (x:=c) (by simp[Op.operands,ho]) hm;simp only[execOp,ho,e1,e2,Sem.run_bind,hr,Result.andThen_ok,Sem.run_pure]
      ·exact VR.slice _ _ 0 _ _ _ _ hψ (by omega) (fun _=>⟨rfl,by simp only[size_madeCells,hsz];omega⟩)
  |_=>cases h
theorem Zxz {q:Call} {b:Builtin} (hq:q.callee= .builtin b) (hb:b= .len) (ho:o.op= .call q) (hWD: ∀h,W h→D h) {K:Env→M β} {r:Out β×St} (h:opLen C E o K q.argTypes q.args s=some r):Res C md pr ms o D W E s K r:=by
 subst hb;unfold opLen at h;cases ha:q.args.toList with
 |nil=>rw[ha]at h;cases h
 |cons y rest=>
  cases rest with
  |cons _ _=>rw[ha]at h;cases h
  |nil=>
   cases ht:q.argTypes[0]? with
   |none=>rw[ha,ht]at h;cases h
   |some t=>
    rw[ha,ht]at h;simp only at h;have hargs:q.args= #[y]:=by rw[←Array.toArray_toList (xs:=q.args),ha]
    have mem:y∈o.op.operands:=by rw[ho];simp[Op.operands,Call.operands,hq,hargs]
    have run: ∀(a:Act) (w:World) v,(Builtin.len_ q.argTypes o.type #[a.eval y]).run C.P w= .ok v w→(execOp a.eval o).run C.P w= .ok (.value v) w:=by
     intro a w v hv;simp[execOp,ho,resolve,hq,invoke,builtin,hargs,hv]
    cases hu:C.P.underlying t with
    |none=>rw[hu]at h;cases h
    |some td=>
     rw[hu]at h;cases td with
     |array m e=>
      refine Res.val hWD _ h fun ψ Q a w p=>⟨.int .i64 m,w,run a w _ ?_,.refl w,.int _ _⟩
      simp[Builtin.len_,ht,Zj w hu,goInt]
     |string=>
      simp only at h;obtain⟨d,hd,h⟩:=Zr h;cases d with
      |str l=>
       refine Res.val hWD _ h fun ψ Q a w p=>?_
       have hv:=p.val mem hd;generalize hy:a.eval y=v at hv;cases hv with
       |str x=>
        refine⟨.int .i64 x.size,w,run a w _ ?_,.refl w,?_⟩
        ·simp[Builtin.len_,ht,Zj w hu,goInt,hy]
        ·have:x.data.toList.length=x.size:=by rw[Array.length_toList];rfl
         rw[this];exact .int _ _
      |_=>cases h
     |slice e=>
      simp only at h;obtain⟨d,hd,h⟩:=Zr h;cases d with
      |slice z a' n=>
       refine Res.val hWD _ h fun ψ Q a w p=>?_
       have hv:=p.val mem hd;generalize hy:a.eval y=v at hv;cases hv with
       |sliceN=>exact⟨.int .i64 (0:Nat),w,run a w _ (by simp[Builtin.len_,ht,Zj w hu,goInt,hy]),.refl w,.int _ _⟩
       |slice _ i off _ cb base cap=>exact⟨.int .i64 n,w,run a w _ (by simp[Builtin.len_,ht,Zj w hu,goInt,hy]),.refl w,.int _ _⟩
      |_=>cases h
     |_=>cases h
theorem Zq3 {q:Call} {b:Builtin} {mx:Bool} (hq:q.callee= .builtin b) (hb:b=if mx then .max else .min) (ho:o.op= .call q) (hWD: ∀h,W h→D h) {K:Env→M β} {r:Out β×St} (h:opMin C E o K mx q.args s=some r):Res C md pr ms o D W E s K r:=by
 unfold opMin at h;cases ha:q.args.toList with
 |nil=>rw[ha]at h;cases h
 |cons y rest=>
  cases rest with
  |nil=>rw[ha]at h;cases h
  |cons z rest=>
   cases rest with
   |cons _ _=>rw[ha]at h;cases h
   |nil=>
    rw[ha]at h;simp only at h;have hargs:q.args= #[y,z]:=by rw[←Array.toArray_toList (xs:=q.args),ha]
    have my:y∈o.op.operands:=by rw[ho];simp[Op.operands,Call.operands,hq,hargs]
    have mz:z∈o.op.operands:=by rw[ho];simp[Op.operands,Call.operands,hq,hargs]
    obtain⟨d,hd,h⟩:=Zr h;obtain⟨e,he,h⟩:=Zr h;cases d with
    |int k n=>
     cases e with
     |int k' m=>
      simp only at h;obtain⟨hk,h⟩:=Zo h;refine Res.val hWD _ h fun ψ Q a w p=>?_
      have e1:=p.int my hd;have e2:=p.int mz he;cases mx with
      |true=>
       simp only[if_true]at hb;subst hb;exact⟨.int k (if n<m then m else n),w,by simp[execOp,ho,resolve,hq,invoke,builtin,hargs,e1,e2,Builtin.max_,Builtin.max2],.refl w,.int _ _⟩
      |false=>
       simp only[Bool.false_eq_true,if_false]at hb;subst hb;exact⟨.int k (if m<n then m else n),w,by simp[execOp,ho,resolve,hq,invoke,builtin,hargs,e1,e2,Builtin.min_,Builtin.min2],.refl w,.int _ _⟩
     |_=>cases h
    |_=>cases h
end
end Go.Gv
namespace Go.Gv
variable {β:Type}
section
variable {C:Cfg} {o:Oper} {D W:HId→Prop} {E:Env} {s:St} {md:Md} {pr ms:List Nat}
theorem ZpW {a:Option (Nat×Nat)} {n:Nat} {K:List DV→M β} {r:Out β×St} (h:M.rd a n K s=some r):
  ∃ds,K ds s=some r∧ds.length=n∧((a=none∧n=0∧ds=[])∨∃i q f cs,a=some (i,q)∧stAB s i=some (.cells f cs)∧q+n≤cs.length∧ds=(cs.drop q).take n):=by
 cases a with
 |none=>
  simp only[M.rd]at h;obtain⟨h1,h⟩:=Zo h;have:=Nat.eq_of_beq_eq_true h1;exact⟨[],h,this.symm,.inl ⟨rfl,this,rfl⟩⟩
 |some iq=>
  obtain⟨i,q⟩:=iq;simp only[M.rd]at h;obtain⟨f,cs,h1,h2,h⟩:=ZgS h;exact⟨_,h,by simp;omega,.inr ⟨i,q,f,cs,rfl,h1,h2,rfl⟩⟩
theorem Zos {ψ:Ps} {Q:Kn} {A:Act} {w:World} (p:Pre C o D E s ψ Q A w) (hD: ∀i,D (.inl i)) {z sz m k n:Nat} {a:Option (Nat×Nat)} {v:Value} {ds:List DV} (hv:VR C ψ (.slice z a m) v)
  (hz:z=sz∨a=none) (hn:n=k*sz) (hk:k≤m)
  (hds:(a=none∧n=0∧ds=[])∨∃i q f cs,a=some (i,q)∧stAB s i=some (.cells f cs)∧q+n≤cs.length∧ds=(cs.drop q).take n):
  ∃base cap vs,v= .slice base m cap∧(∀w',w'.heap=w.heap→(Builtin.firstCells sz k v).run C.P w'= .ok vs w')∧VRs C ψ ds vs.toList∧ds.all one=true:=by
 subst hn;cases hv with
 |sliceN=>
  rcases hds with⟨_,_,rfl⟩|⟨i,q,f,cs,h,_⟩
  ·exact⟨none,0, #[],rfl,fun w' _=>by simp[Builtin.firstCells],.nil,rfl⟩
  ·cases h
 |slice _ i q _ cb ad cap hcb hcap hb=>
  rcases hds with⟨h,_⟩|⟨i',q',f,cs,h,h1,h2,rfl⟩
  ·cases h
  ·cases h
   have hz:z=sz:=by rcases hz with h|h;exact h;cases h
   subst hz;have hh:=p.at (hD i) h1 hcb;by_cases h0:k*z=0
   ·refine⟨some ad,cap, #[],rfl,fun w' _=>?_,?_,?_⟩
    ·simp[Builtin.firstCells,h0,loadCells,loadCellsFrom]
    ·rw[h0];simp only[List.take_zero];exact .nil
    ·rw[h0];simp
   ·have hc:0<cap:=by
     rcases Nat.eq_zero_or_pos k with h|h
     ·subst h;simp at h0
     ·omega
    obtain⟨e1,e2⟩:=hb hc;obtain⟨vs,e3,e4,e5,e6⟩:=Zmc (P:=C.P) hh h2;exact⟨some ad,cap,vs,rfl,fun w' hw=>by simp only[Builtin.firstCells,e1,e3 w' hw],e5,e6⟩
theorem Zn1 {ψ:Ps} : ∀ {ds:List DV} {l:List UInt8} {vs:List Value},ZbX ds=some l→VRs C ψ ds vs→∃ns:List Int,vs=ns.map (Value.int .u8)∧ns.map (fun n=>UInt8.ofNat n.toNat)=l
 |[],l,vs,h,hv=>by
  simp only[ZbX,Option.some.injEq]at h;cases hv;exact⟨[],rfl,h⟩
 |d::ds,l,vs,h,hv=>by
  cases hv with
  |cons _ v _ vs h1 h2=>
   cases h1 with
   |int k n=>
    cases k with
    |u8=>
     simp only[ZbX,Option.map_eq_some_iff]at h;obtain⟨l',h3,h4⟩:=h;obtain⟨ns,e1,e2⟩:=Zn1 h3 h2;exact⟨n::ns,by simp[e1],by simp[e2,h4]⟩
    |_=>simp[ZbX]at h
   |_=>simp[ZbX]at h
theorem Zye {cs:List DV} {K:List UInt8→M β} {r:Out β×St} (h:Go.Gv.D.oct cs K s=some r): ∃l,ZbX cs=some l∧K l s=some r:=by
 unfold Go.Gv.D.oct at h;cases he:ZbX cs with
 |none=>rw[he]at h;cases h
 |some l=>rw[he]at h;exact⟨l,rfl,h⟩
end
section
variable {C:Cfg} {o:Oper} {D W:HId→Prop} {E:Env} {s:St} {md:Md} {pr ms:List Nat}
theorem Zk8 {ψ:Ps} (l:List UInt8):VRs C ψ (ZF l) (l.map fun b=>Value.int .u8 b.toNat):=by
 induction l with
 |nil=>exact .nil
 |cons b l ih=>exact .cons _ _ _ _ (.int _ _) ih
theorem Zhk (l:List UInt8):(ZF l).all one=true:=by simp[ZF,one]
@[simp] theorem byteCells_length (l : List UInt8) : (ZF l).length = l.length := by simp [ZF]
def ZkH (w:World) (c:Array Value) (e:TypeId):World:= { w with heap:=w.heap.push (.cells c e (c.size,c.size+1)) }
theorem Zrv (w:World) (c:Array Value) (e:TypeId):More w (ZkH w c e):=More.alloc w (.cells c e (c.size,c.size+1))
theorem Zvd {P:Program} (w:World) (c:Array Value) (e:TypeId):(markStringish ⟨w.heap.size,0,none⟩).run P (w.alloc (.cells c e))= .ok () (ZkH w c e):=by
 have h1:(w.alloc (.cells c e)).shape? w.heap.size=some (e,c.size):=by simp only[World.shape?,heap_alloc_new]
 unfold markStringish;simp only[Sem.run_bind,run_shape,h1,Result.andThen_ok,run_freeze];congr 1;unfold World.freeze ZkH World.alloc;simp only[Nat.one_ne_zero,if_false];congr 1;apply Array.ext_getElem?;intro k;rw[Array.getElem?_modify,Array.getElem?_push,Array.getElem?_push];by_cases hk:k=w.heap.size
 ·subst hk;simp
 ·simp only[hk,if_false]
  rw[if_neg (fun e=>hk e.symm)]
theorem ZvN {P:Program} {e:TypeId} (h:isU8 P e=true):P.underlying e=some (.int .u8):=by
 unfold isU8 at h;cases he:P.underlying e with
 |none=>rw[he]at h;cases h
 |some ed=>
  rw[he]at h;cases ed with
  |int k=>cases k<;>first|rfl|cases h
  |_=>cases h
theorem Zsy {t u:TypeId} {y:Operand} (ho:o.op= .convert t u y) (hWD: ∀h,W h→D h) (hD: ∀i,D (.inl i)) {K:Env→M β} {r:Out β×St} (h:Zme C E o K t u y s=some r):Res C md pr ms o D W E s K r:=by
 have my:y∈o.op.operands:=by rw[ho];simp[Op.operands]
 unfold Zme at h;obtain⟨td,ht,h⟩:=Z9 h;have run: ∀(a:Act) (w w':World) v,(convert t u (a.eval y)).run C.P w= .ok v w'→(execOp a.eval o).run C.P w= .ok (.value v) w':=by
  intro a w w' v hv;simp[execOp,ho,hv]
 cases hu:C.P.underlying u with
 |none=>rw[hu]at h;cases h
 |some ud=>
  rw[hu]at h;cases ud with
  |int k=>
   simp only at h;obtain⟨d,hd,h⟩:=Zr h;cases d with
   |int k' n=>
    refine Res.val hWD _ h fun ψ Q a w p=>⟨.int k (k.wrap n),w,run a w w _ ?_,.refl w,.int _ _⟩
    rw[p.int my hd];simp[convert,Zj w ht,Zj w hu,Conv.intToInt]
   |_=>cases h
  |string=>
   simp only at h;rw[ht]at h;cases td with
   |int k0=>
    simp only at h;obtain⟨d,hd,h⟩:=Zr h;cases d with
    |int k' n=>
     refine Res.val hWD _ h fun ψ Q a w p=>⟨.string (Utf8.encode n),w,run a w w _ ?_,.refl w,.str _⟩
     rw[p.int my hd];simp[convert,Zj w ht,Zj w hu,Conv.intToString]
    |_=>cases h
   |string=>
    simp only at h;obtain⟨d,hd,h⟩:=Zr h;cases d with
    |str l=>
     refine Res.val hWD _ h fun ψ Q a w p=>?_
     have hv:=p.val my hd;generalize hy:a.eval y=v at hv;cases hv with
     |str x=>exact⟨.string x,w,run a w w _ (by rw[hy];simp[convert,Zj w ht,Zj w hu]),.refl w,.str _⟩
    |_=>cases h
   |slice e=>
    simp only at h;obtain⟨h8,h⟩:=Zo h;have he:=ZvN h8;obtain⟨d,hd,h⟩:=Zr h;cases d with
    |slice z a' n=>
     simp only at h;obtain⟨hz,h⟩:=Zo h;obtain⟨ds,h,_,hds⟩:=ZpW h;obtain⟨l,hl,h⟩:=Zye h;refine Res.val hWD _ h fun ψ Q A w p=>?_
     have hz':z=1∨a'=none:=by
      rw[Bool.or_eq_true]at hz;rcases hz with h|h
      ·exact .inl (Nat.eq_of_beq_eq_true h)
      ·exact .inr (by simpa using h)
     obtain⟨base,cap,vs,hv,hrun,hr,_⟩:=Zos p hD (p.val my hd) hz' (k:=n) (by simp) (Nat.le_refl _) hds;obtain⟨ns,e1,e2⟩:=Zn1 hl hr;cases base with
     |none=>
      have:ds=[]:=by
       have hv':=p.val my hd;rw[hv]at hv';cases hv';rcases hds with⟨_,_,h⟩|⟨_,_,_,_,h,_⟩
       ·exact h
       ·cases h
      subst this;simp only[ZbX,Option.some.injEq]at hl;subst hl;refine⟨.string .empty,w,run A w w _ ?_,.refl w,.str .empty⟩;rw[hv];simp[convert,Zj w ht,Zj w hu,Zj w he,Conv.bytesToString]
     |some b=>
      have hrun':(loadCells b n).run C.P w= .ok (ns.map (Value.int .u8)).toArray w:=by
       have hrun:=hrun w rfl;rw[hv]at hrun;simp only[Builtin.firstCells,Nat.mul_one]at hrun;rw[hrun,←e1]
      refine⟨.string (ns.foldl (fun r n=>r.push (UInt8.ofNat n.toNat)) ByteArray.empty),w,run A w w _ ?_,.refl w,?_⟩
      ·rw[hv,run_convert_bytes_string w t u e (some b) n cap ht he hu]
       exact run_bytesToString w b n cap ns hrun'
      ·have:(ns.foldl (fun r n=>r.push (UInt8.ofNat n.toNat)) ByteArray.empty).data.toList=l:=by
        rw[foldl_push_bytes,←e2];simp
       rw[←this];exact .str _
    |_=>cases h
   |_=>cases h
  |slice e=>
   simp only at h;obtain⟨h8,h⟩:=Zo h;have he:=ZvN h8;obtain⟨d,hd,h⟩:=Zr h;cases d with
   |str l=>
    simp only at h;refine Res.newH (by unfold NewOp;rw[ho];trivial) hWD _ _ h fun ψ Q a w p=>?_
    have hv:=p.val my hd;generalize hy:a.eval y=v at hv;cases hv with
    |str x=>
     have hx:x.data.toList.length=x.size:=by rw[Array.length_toList];rfl
     let cap:=(Question.appendCap x.size 0 e).cut (w.tape w.drawn (.appendCap x.size 0 e))
     have hcap:x.size≤cap:=by simp only[cap,Question.cut];omega
     let c:Array Value:=(x.data.map fun b=>Value.int .u8 b.toNat)++Array.replicate (cap-x.size) (.int .u8 0)
     have hc:c.size=cap:=by
      have:x.data.size=x.size:=rfl;simp[c,this];omega
     refine⟨.slice (some ⟨w.heap.size,0,none⟩) x.size cap,ZkH w.drew c e,⟨w.heap.size,0,c.size⟩,run a w _ _ ?_,(More.drew w).trans (Zrv w.drew c e),Nat.le_refl _,(by show w.heap.size<(w.heap.push _).size;simp),?_,fun ψ' _ hψ=>?_⟩
     ·rw[hy]
      have hm:=Zvd (P:=C.P) w.drew c e;simp only[convert,Sem.run_bind,Zj w ht,Zj w hu,Result.andThen_ok,Zj w he];have hq:(Question.appendCap x.size 0 e).forced=false:=rfl;simp only[Conv.stringToBytes,Sem.run_bind,run_choose,hq,Bool.false_eq_true,if_false,Result.andThen_ok,newRow,run_newObj,Sem.run_pure];exact(congrArg (fun r=>Result.andThen r fun _ w'=>Result.ok (Value.slice (some ⟨w.heap.size,0,none⟩) x.size cap) w') hm)
     ·refine Zrg (ty:=e) (fr:=(c.size,c.size+1)) (by show(w.heap.push _)[w.heap.size]? =_;simp) (.inr (Nat.le_refl _)) ?_ (Zhk _)
      have:c.toList.take (ZF x.data.toList).length=x.data.toList.map fun b=>Value.int .u8 b.toNat:=by
       rw[byteCells_length];simp only[c,Array.toList_append,Array.toList_map];rw[List.take_append_of_le_length (by simp),List.take_of_length_le (by simp)]
      rw[this];exact Zk8 _
     ·rw[hx]
      have:=VR.slice (C:=C) (ψ:=ψ') 1 s.length 0 x.size ⟨w.heap.size,0,c.size⟩ ⟨w.heap.size,0,none⟩ cap hψ hcap (fun _=>⟨rfl,by simp only[hc];omega⟩);exact this
   |_=>cases h
  |_=>cases h
end
end Go.Gv
namespace Go.Gv
variable {β:Type}
section
variable {C:Cfg} {o:Oper} {D W:HId→Prop} {E:Env} {s:St} {md:Md} {pr ms:List Nat}
theorem Zyx {sz:Nat} {a:Option (Nat×Nat)} {len:Nat} {ds:List DV} {m lim:Nat} {K:Option (Nat×Nat)→M β} {r:Out β×St} (h:M.app sz a len ds m lim K s=some r):
  (m=0∧K a s=some r)∨(0<m∧len+m≤lim∧((a=none∧len=0∧K (some (s.length,0)) (s++[some ⟨false,ds⟩])=some r)∨
   ∃i q cs,a=some (i,q)∧s.open? i=some cs∧q+len*sz≤cs.length∧K (some (s.length,0)) (s.set i none++[some ⟨false,(cs.drop q).take (len*sz)++ds⟩])=some r)):=by
 unfold M.app at h;cases h0:Nat.beq m 0 with
 |true=>rw[h0]at h;exact .inl ⟨Nat.eq_of_beq_eq_true h0,h⟩
 |false=>
  rw[h0]at h;simp only[cond_false]at h;have hm:=Nat.ne_of_beq_eq_false h0;cases h1:Nat.ble (len+m) lim with
  |false=>rw[h1]at h;cases h
  |true=>
   rw[h1]at h;simp only[cond_true]at h;refine .inr ⟨by omega,Nat.le_of_ble_eq_true h1,?_⟩;cases a with
   |none=>
    simp only at h;cases h2:Nat.beq len 0 with
    |false=>rw[h2]at h;cases h
    |true=>rw[h2]at h;exact .inl ⟨rfl,Nat.eq_of_beq_eq_true h2,h⟩
   |some iq=>
    obtain⟨i,q⟩:=iq;simp only at h;cases h3:s.open? i with
    |none=>rw[h3]at h;cases h
    |some cs=>
     rw[h3]at h;simp only at h;cases h4:Nat.ble (q+len*sz) cs.length with
     |false=>rw[h4]at h;cases h
     |true=>rw[h4]at h;exact .inr ⟨i,q,cs,rfl,h3,Nat.le_of_ble_eq_true h4,h⟩
def NoNum (P:Program) (ts:Array TypeId):Prop:=match ts[1]? with|none=>True|some t=>∃d,P.underlying t=some d∧∀k,d≠ .int k
theorem Zwd {ts:Array TypeId} {K:M β} {r:Out β×St} (h:noNum C.P ts K s=some r):NoNum C.P ts∧K s=some r:=by
 unfold noNum at h;unfold NoNum;cases ht:ts[1]? with
 |none=>rw[ht]at h;exact⟨trivial,h⟩
 |some t=>
  rw[ht]at h;simp only at h⊢;cases hu:C.P.underlying t with
  |none=>rw[hu]at h;cases h
  |some d=>
   rw[hu]at h;cases d with
   |int k=>cases h
   |_=>exact⟨⟨_,rfl,by simp⟩,h⟩
theorem ZjN {P:Program} {ts:Array TypeId} {t e:TypeId} {ed:TypeDesc} (h0:ts[0]? =some t) (ht:P.underlying t=some (.slice e)) (he:P.underlying e=some ed) (hn:NoNum P ts) (ty:TypeId)
  (base:Option Addr) (n m cap:Nat) (X:Value) (w w':World) (new:Array Value) (hX:(Builtin.lenOf X).run P w= .ok m w) (hc:n+m≤cap)
  (hf:(Builtin.firstCells (P.cellsOf e) m X).run P w= .ok new w) (hs: ∀a,base=some a→(storeCells (a.add (n*P.cellsOf e)) new.toList).run P w= .ok () w') (hb:base=none→w'=w):
  (Builtin.append_ ts ty #[.slice base n cap,X]).run P w= .ok (.slice base (n+m) cap) w':=by
 have key:(P.underlying t=some (.slice e))→(do
   let n' ←Builtin.lenOf X
   let need:=n+n'
   if need≤cap then
    let new ←Builtin.firstCells (P.cellsOf e) n' X
    if let some a:=base then storeCells (a.add (n*P.cellsOf e)) new.toList
    pure (.slice base need cap)
   else stuck "" :Sem Value).run P w= .ok (.slice base (n+m) cap) w':=by
  intro _;simp only[Sem.run_bind,hX,Result.andThen_ok,hc,if_true,hf];cases base with
  |none=>have:=hb rfl;subst this;simp
  |some a=>simp[hs a rfl]
 have key:=key ht;simp only[Sem.run_bind,hX,Result.andThen_ok,hc,if_true,hf]at key;unfold Builtin.append_;unfold NoNum at hn;cases h1:ts[1]? with
 |none=>
  simp only[h0,List.getElem?_toArray,List.getElem?_cons_zero,List.getElem?_cons_succ,Sem.run_bind,Zj w ht,Result.andThen_ok,ZJ w he,Sem.run_pure,Bool.false_eq_true,if_false,hX,Bool.not_false,if_true,hc,hf];exact key
 |some t1=>
  rw[h1]at hn;obtain⟨d,hd,hnd⟩:=hn;simp only[h0,List.getElem?_toArray,List.getElem?_cons_zero,List.getElem?_cons_succ,Sem.run_bind,Zj w ht,Result.andThen_ok,ZJ w he,Zj w hd];cases d<;>first|exact absurd rfl (hnd _)|(simp only[Sem.run_pure,Result.andThen_ok,Sem.run_bind,Bool.false_eq_true,if_false,hX,Bool.not_false,if_true,hc,hf];exact key)
theorem ZpT (z:Array Value) (n:Nat):(Builtin.zeroCells z n).size=n*z.size:=by simp[Builtin.zeroCells]
theorem Zoy {P:Program} {ts:Array TypeId} {t e:TypeId} {ed:TypeDesc} {ie:TypeInfo} {z:Value} (h0:ts[0]? =some t) (ht:P.underlying t=some (.slice e)) (he:P.underlying e=some ed) (hie:P.info? e=some ie)
  (hz0:ie.zero=some z) (hn:NoNum P ts) (ty:TypeId) (base:Option Addr) (n m cap:Nat) (X:Value) (w:World) (old new:Array Value) (hX: ∀w,(Builtin.lenOf X).run P w= .ok m w) (hc:cap<n+m)
  (hb:(n+m)*ie.bytes≤70368744177664) (h63:n+m≤70368744177664) (ho:(Builtin.firstCells (P.cellsOf e) n (.slice base n cap)).run P w.drew= .ok old w.drew) (hf:(Builtin.firstCells (P.cellsOf e) m X).run P w.drew= .ok new w.drew):
  ∃k,n+m≤k∧(Builtin.append_ ts ty #[.slice base n cap,X]).run P w= .ok (.slice (some ⟨w.heap.size,0,none⟩) (n+m) k) (w.drew.alloc (.cells (old++new++Builtin.zeroCells z.cells (k-(n+m))) e)):=by
 refine⟨(Question.appendCap (n+m) cap e).cut (w.tape w.drawn (.appendCap (n+m) cap e)),by simp only[Question.cut];omega,?_⟩;have hq:(Question.appendCap (n+m) cap e).forced=false:=rfl;have g1: ¬(n+m≤cap):=by omega
 have g2: ¬(Builtin.nextslicecap (n+m) cap*ie.bytes>2^48):=by
  have:=growslice_fits (bytes:=ie.bytes) hc (by omega);omega
 have g3: ¬(((n+m:Nat):Int)>IntKind.i64.max):=by
  have:IntKind.i64.max=9223372036854775807:=by decide
  rw[this];omega
 have g4: ¬(((n+m:Nat):Int)>IntKind.i64.max∧(False∨ie.bytes=0)):=fun h=>g3 h.1
 have hie': ∀w,(typeInfo e).run P w= .ok ie w:=fun w=>by simp[typeInfo,hie]
 have hz': ∀w,(zeroValue e).run P w= .ok z w:=fun w=>by simp[zeroValue,typeInfo,hie,hz0]
 unfold Builtin.append_;unfold NoNum at hn;cases h1:ts[1]? with
 |none=>
  simp only[h0,List.getElem?_toArray,List.getElem?_cons_zero,List.getElem?_cons_succ,Sem.run_bind,Zj w ht,Result.andThen_ok,ZJ w he,Sem.run_pure,Bool.false_eq_true,if_false,hX,Bool.not_false,if_true,g1,hie',g4,
   g2,run_choose,hq,run_askRoom,World.drew_eq,ho,hf,hz',newRow,run_newObj,World.alloc_eq]
  rfl
 |some t1=>
  rw[h1]at hn;obtain⟨d,hd,hnd⟩:=hn;simp only[h0,List.getElem?_toArray,List.getElem?_cons_zero,List.getElem?_cons_succ,Sem.run_bind,Zj w ht,Result.andThen_ok,ZJ w he,Zj w hd];cases d<;>first|exact absurd rfl (hnd _)|(simp only[Sem.run_pure,Result.andThen_ok,Sem.run_bind,Bool.false_eq_true,if_false,hX,Bool.not_false,if_true,g1,hie',g4,g2,run_choose,hq,run_askRoom,World.drew_eq,ho,hf,hz',newRow,run_newObj,World.alloc_eq];rfl)
theorem Ext.strong {ψ ψ':Ps} {Q Q1 Q':Kn} {w w':World} (h:Ext ψ Q1 w ψ' Q' w') (hq: ∀k ab,Q1 k ab→Q k ab):Ext ψ Q w ψ' Q' w':=
 have so: ∀b,Sole ψ Q1 b→Sole ψ Q b:=fun _b ⟨k,cb,ab,e,q,hs,hb⟩=>⟨k,cb,ab,e,hq _ _ q,hs,hb⟩
 { h with
  rng:=fun k cb e=>(h.rng k cb e).imp id fun⟨x,y⟩=>⟨x.imp id (so _),y⟩
  keep:=fun b hb hn=>h.keep b hb fun e=>hn (so b e)
  sole:=fun b e=>(h.sole b e).imp (so b) id
  live:=fun k cb x e q=>let ⟨y,hy⟩:=h.live k cb x e q;⟨y,hq _ _ hy⟩ }
theorem Zr8 {s:St} {i:Nat} :stAB (s.set i none) i=none:=by
 unfold stAB;by_cases h:i<s.length
 ·rw[List.getElem?_set_self h]
 ·rw[List.getElem?_eq_none (by rw[List.length_set];exact Nat.le_of_not_lt h)]
theorem ZvB {q:Call} (hq:q.callee= .builtin .append) (ho:o.op= .call q) {y z:Operand} (ha:q.args= #[y,z]) {t e:TypeId} {ed:TypeDesc} {zv:List DV} (h0:q.argTypes[0]? =some t)
  (ht:C.P.underlying t=some (.slice e)) (he:C.P.underlying e=some ed) (hz:Zbp C.P e=some zv) (hzl:zv.length=C.P.cellsOf e) (hn:NoNum C.P q.argTypes) (hWD: ∀h,W h→D h) (hD: ∀i,D (.inl i))
  {z0 n m:Nat} {a:Option (Nat×Nat)} {ds:List DV} (hW: ∀i q,a=some (i,q)→W (.inl i)) (hd:E.src C y= .v (.slice z0 a n)) (hz0:z0=C.P.cellsOf e∨a=none) (hdl:ds.length=m*C.P.cellsOf e)
  (hX: ∀ψ Q A w,Pre C o D E s ψ Q A w→(∀w,(Builtin.lenOf (A.eval z)).run C.P w= .ok m w)∧∃vs,VRs C ψ ds vs.toList∧ds.all one=true∧∀w',w'.heap=w.heap→(Builtin.firstCells (C.P.cellsOf e) m (A.eval z)).run C.P w'= .ok vs w')
  {K:Env→M β} {r:Out β×St} (h:M.app (C.P.cellsOf e) a n ds m (limOf C.P e) (fun p=>putK E o K (.slice (C.P.cellsOf e) p (n+m))) s=some r):Res C md pr ms o D W E s K r:=by
 have my:y∈o.op.operands:=by rw[ho];simp[Op.operands,Call.operands,hq,ha]
 have hex: ∀(A:Act) (w w':World) v,(Builtin.append_ q.argTypes o.type #[A.eval y,A.eval z]).run C.P w= .ok v w'→(execOp A.eval o).run C.P w= .ok (.value v) w':=by
  intro A w w' v hv;simp[execOp,ho,resolve,hq,invoke,builtin,ha,hv]
 have nosz: ∀vs:Array Value,∀ψ,m=0→VRs C ψ ds vs.toList→vs.toList=[]:=by
  intro vs ψ hm hr;have:=hr.len;rw[hdl,hm,Nat.zero_mul]at this;exact List.length_eq_zero_iff.1 this.symm
 have grow: ∀ψ Q A w,Pre C o D E s ψ Q A w→∀base cap old,A.eval y= .slice base n cap→cap<n+m→n+m≤limOf C.P e→(Builtin.firstCells (C.P.cellsOf e) n (.slice base n cap)).run C.P w.drew= .ok old w.drew→
   ∃k new rest,n+m≤k∧VRs C ψ ds new.toList∧ds.all one=true∧rest.size=(k-(n+m))*C.P.cellsOf e∧
    (execOp A.eval o).run C.P w= .ok (.value (.slice (some ⟨w.heap.size,0,none⟩) (n+m) k)) (w.drew.alloc (.cells (old++new++rest) e)):=by
  intro ψ Q A w p base cap old hy hc hlim hold;obtain⟨hl,new,h1,h2,h3⟩:=hX ψ Q A w p;unfold Zbp at hz;cases hi:C.P.info? e with
  |none=>rw[hi]at hz;cases hz
  |some ie=>
   rw[hi]at hz;simp only at hz;cases hzz:ie.zero with
   |none=>rw[hzz]at hz;cases hz
   |some zval=>
    rw[hzz]at hz;have hzs:=(Zd9 (C:=C) (ψ:=ψ) hz).1.lenA;have hb:(n+m)*ie.bytes≤70368744177664:=by
     unfold limOf Zkv at hlim;rw[hi]at hlim;simp only at hlim;rcases Nat.eq_zero_or_pos ie.bytes with hz|hp
     ·rw[hz];simp
     ·exact(Nat.le_div_iff_mul_le hp).1 hlim
    have h63:n+m≤70368744177664:=Nat.le_trans hlim (Nat.div_le_self _ _);obtain⟨k,hk,hrun⟩:=Zoy (P:=C.P) h0 ht he hi hzz hn o.type base n m cap (A.eval z) w old new hl hc hb h63 hold (h3 _ rfl);exact⟨k,new,_,hk,h1,h2,by rw[ZpT,←hzs,hzl],hex A w _ _ (by rw[hy];exact hrun)⟩
 rcases Zyx h with⟨hm,h⟩|⟨hm,hlim,h⟩
 ·
  refine Res.val hWD _ h fun ψ Q A w p=>?_
  obtain⟨hl,new,h1,h2,h3⟩:=hX ψ Q A w p;have hnew:=nosz new ψ hm h1;subst hm;have hv:=p.val my hd;generalize hy:A.eval y=v at hv;have hfit: ∀base cap,v= .slice base n cap→n≤cap→(execOp A.eval o).run C.P w= .ok (.value (.slice base n cap)) w:=by
   intro base cap hv hc;refine hex A w w _ ?_;rw[hy,hv];have:=ZjN (P:=C.P) h0 ht he hn o.type base n 0 cap (A.eval z) w w new (hl w) hc (h3 w rfl) (fun a _=>by rw[hnew];rfl) (fun _=>rfl);exact this
  cases hv with
  |sliceN=>exact⟨_,w,hfit none 0 rfl (Nat.le_refl _),.refl w,.sliceN _⟩
  |slice _ i q0 _ cb ad cap hcb hcap hb=>
   have:z0=C.P.cellsOf e:=by rcases hz0 with h|h;exact h;cases h
   subst this;exact⟨_,w,hfit _ cap rfl hcap,.refl w,.slice _ _ _ _ cb ad cap hcb hcap hb⟩
 ·rcases h with⟨rfl,rfl,h⟩|⟨i,q0,cs,rfl,hi,hle,h⟩
  ·
   refine Res.newH (by unfold NewOp;rw[ho];simp only[hq]) hWD _ ds h fun ψ Q A w p=>?_
   have hv:=p.val my hd;generalize hy:A.eval y=v at hv;cases hv;obtain⟨k,new,rest,hk,h1,h2,h3,hrun⟩:=grow ψ Q A w p none 0 #[] hy (by omega) hlim (by simp[Builtin.firstCells]);have hsz:=h1.lenA;refine⟨_,_,⟨w.heap.size,0,(#[]++new++rest).size⟩,hrun,(More.drew w).trans (More.alloc w.drew _),Nat.le_refl _,by simp,?_,fun ψ' _ hψ=>?_⟩
   ·refine Zdh (w:=w.drew) ?_ h2
    have:(#[]++new++rest).toList.take ds.length=new.toList:=by
     rw[hsz];simp
    rw[this];exact h1
   ·refine VR.slice _ _ 0 _ _ _ _ hψ hk (fun _=>⟨rfl,?_⟩)
    have:(#[]++new++rest).size=new.size+rest.size:=by simp
    simp only[this];rw[←hsz,hdl,h3,Nat.zero_add,Nat.zero_add,←Nat.add_mul];exact Nat.mul_le_mul_right _ (by omega)
  ·
   have hz0:z0=C.P.cellsOf e:=by rcases hz0 with h|h;exact h;cases h
   subst hz0;obtain⟨hst,hlt⟩:=Zl7 hi;have hab: ∀ab,stAB (s.set i none++[some ⟨false,(cs.drop q0).take (n*C.P.cellsOf e)++ds⟩]) s.length=some ab→ab= .cells false ((cs.drop q0).take (n*C.P.cellsOf e)++ds):=by
    intro ab hab;have:=ZfD (s.set i none) ⟨false,(cs.drop q0).take (n*C.P.cellsOf e)++ds⟩;rw[List.length_set]at this;rw[this]at hab;cases hab;rfl
   have hold: ∀j ab,stAB (s.set i none++[some ⟨false,(cs.drop q0).take (n*C.P.cellsOf e)++ds⟩]) j=some ab→j≠s.length→j≠i∧stAB s j=some ab:=by
    intro j ab hj hne;have hjl:=Zgd hj;simp only[List.length_append,List.length_set,List.length_singleton]at hjl;rw[Zd2 (by rw[List.length_set];omega)]at hj;by_cases hji:j=i
    ·subst hji;rw[Zr8]at hj;cases hj
    ·rw[Zgt (Ne.symm hji)]at hj;exact⟨hji,hj⟩
   refine .inl ⟨_,_,h,OpF.put pr ms _ rfl (fun _ _ _ _ h=>by cases h) (by simp) (fun j ab hj=>by
    by_cases e:j=s.length
    ·exact .inr (.inl (by omega))
    ·exact .inr (.inr (hold j ab hj e).2)) (fun j h hj=>by
    have hne:i≠j:=fun e=>h (e▸hW i q0 rfl)
    rw[List.getElem?_append_left (by rw[List.length_set];exact hj),List.getElem?_set_ne hne]) (.inr (by unfold NewOp;rw[ho];simp only[hq])),?_⟩
   intro ψ Q A w next QQ p room hn';have hnew:New E s (E.putO o.dst (.v (.slice (C.P.cellsOf e) (some (s.length,0)) (n+m)))) (s.set i none++[some ⟨false,(cs.drop q0).take (n*C.P.cellsOf e)++ds⟩]) (.inl s.length):=⟨by simp[Dom],by simp[Dom]⟩;have hf:=room _ hnew;have hv:=p.val my hd;generalize hy:A.eval y=v at hv;cases hv with
   |slice _ _ _ _ cb ad cap hcb hcap hb=>
    have hq':Q (.inl i) (.cells false cs):=p.know (.inl i) _ cb (hD i) hst hcb;have hh:=p.sim.holds _ cb _ hcb hq';obtain⟨hl,new,h1,h2,h3⟩:=hX ψ Q A w p;have hlen:((cs.drop q0).take (n*C.P.cellsOf e)).length=n*C.P.cellsOf e:=by simp;omega
    have hlen':((cs.drop q0).take (n*C.P.cellsOf e)++ds).length=(n+m)*C.P.cellsOf e:=by rw[List.length_append,hlen,hdl,Nat.add_mul]
    have hall:((cs.drop q0).take (n*C.P.cellsOf e)++ds).all one=true:=by rw[List.all_append,Zqk hh.2.1,h2];rfl
    have fin: ∀v' w' cb',(execOp A.eval o).run C.P w= .ok (.value v') w'→Sim C (upP ψ (.inl s.length) cb') (mvQ Q (.inl i) (.inl s.length) (.cells false ((cs.drop q0).take (n*C.P.cellsOf e)++ds))) w'→
      Ext ψ Q w (upP ψ (.inl s.length) cb') (mvQ Q (.inl i) (.inl s.length) (.cells false ((cs.drop q0).take (n*C.P.cellsOf e)++ds))) w'→
      VR C (upP ψ (.inl s.length) cb') (.slice (C.P.cellsOf e) (some (s.length,0)) (n+m)) v'→o.wp C.P A w next QQ:=by
     intro v' w' cb' hrun hsim hext hvr;unfold Oper.wp;rw[hrun];refine hn' _ _ v' w' ⟨hsim,hext,fun h c e'=>?_,fun h ab c cr hw e'=>?_,fun h ab c e' q' nw _=>?_⟩ (fun d' hd'=>?_)
     ·by_cases eh:h= .inl s.length
      ·subst eh;exact .inr hnew
      ·rw[ZbJ _ _ eh]at e';exact .inl e'
     ·by_cases eh:h= .inl s.length
      ·subst eh;exact .inl ⟨rfl,hab ab cr⟩
      ·rw[ZbJ _ _ eh]at e'
       have old:h≠ .inl i∧CR E s h ab:=by
        cases h with
        |inl j=>
         obtain⟨a1,a2⟩:=hold j ab cr (fun e=>eh (by rw[e]));exact⟨fun e=>a1 (by cases e;rfl),a2⟩
        |inr x=>
         have cr':CR (E.putO o.dst (.v (.slice (C.P.cellsOf e) (some (s.length,0)) (n+m)))) s (.inr x) ab:=cr;exact⟨by simp,cr'.putO rfl⟩
       refine .inr ⟨eh,old.1,?_⟩;rcases hw with hw|⟨n1,n2⟩
       ·exact p.know h ab c (hWD h hw) old.2 e'
       ·exact absurd (old.2.dom p.eok) n1
     ·cases h with
      |inl j=>exact .inr ⟨fun eq=>(by rw[eq,hf]at e';cases e'),fun eq=>nw (by rw[eq];exact hW i q0 rfl),q'⟩
      |inr x=>exact .inr ⟨by simp,by simp,q'⟩
     ·rw[Env.get_putO,if_pos hd'];exact hvr
    by_cases hfit:n+m≤cap
    ·obtain⟨e1,e2⟩:=hb (by omega)
     have hcapm:(n+m)*C.P.cellsOf e≤cap*C.P.cellsOf e:=Nat.mul_le_mul_right _ hfit;rw[Nat.add_mul]at hcapm;obtain⟨w',hw,hset,hh'⟩:=Zm4 (P:=C.P) (p:=q0+n*C.P.cellsOf e) (o':=q0) (cs':=(cs.drop q0).take (n*C.P.cellsOf e)++ds) hh h1 h2 (by rw[hdl];omega) (by rw[hlen',Nat.add_mul];omega) hall (fun j d hd'=>by
      by_cases hj:j<n*C.P.cellsOf e
      ·rw[List.getElem?_append_left (by omega),List.getElem?_take,if_pos hj,List.getElem?_drop]at hd'
       exact .inr ⟨by omega,hd'⟩
      ·rw[List.getElem?_append_right (by omega),hlen]at hd'
       have hjl:j-n*C.P.cellsOf e<ds.length:=by
        rcases Nat.lt_or_ge (j-n*C.P.cellsOf e) ds.length with h'|h'
        ·exact h'
        ·rw[List.getElem?_eq_none h']at hd';cases hd'
       exact .inl ⟨by omega,by omega,by rw[show q0+j-(q0+n*C.P.cellsOf e)=j-n*C.P.cellsOf e by omega];exact hd'⟩)
     have hrun:=ZjN (P:=C.P) h0 ht he hn o.type (some ad) n m cap (A.eval z) w w' new (hl w) hfit (h3 w rfl) (fun a' ha'=>by
      cases ha';rw[e1,ZdM,Nat.add_assoc];exact hw) (fun e=>by cases e)
     refine fin _ w' ⟨cb.b,cb.o+q0,cb.m-q0⟩ (hex A w _ _ (by rw[hy];exact hrun)) (Sim.move p.sim hcb hq' rfl hf rfl hset.other (hh'.same (fun _ _ e=>Zb8 hf _ _ e) rfl))
      (Ext.move hcb hq' rfl hf rfl (p.blks _ _ hcb) hset.other hset.size hset.tape hset.os hset.output) ?_
     exact VR.slice _ _ 0 _ _ _ _ (Zbg _ _ _) hfit (fun _=>⟨by rw[e1];rfl,by simp only;omega⟩)
    ·obtain⟨base,cap',old,hbv,hro,hrr,hra⟩:=Zos p hD (p.val my hd) (.inl rfl) (k:=n) (n:=n*C.P.cellsOf e) rfl (Nat.le_refl _) (.inr ⟨i,q0,false,cs,rfl,hst,hle,rfl⟩)
     rw[hy]at hbv;cases hbv;have hro:=hro w.drew rfl;rw[hy]at hro;obtain⟨k,new,rest,hk,h1,h2,h3,hrun⟩:=grow ψ Q A w p (some ad) cap old hy (by omega) hlim hro;have hsz:=h1.lenA;have hso:=hrr.lenA;rw[hlen]at hso;have hm':More w (w.drew.alloc (.cells (old++new++rest) e)):=(More.drew w).trans (More.alloc w.drew _);refine fin _ _ ⟨w.heap.size,0,(old++new++rest).size⟩ hrun ?_ ?_ ?_
     ·refine Sim.new (Q:=fun k x=>k≠ .inl i∧Q k x) (p.sim.weaken fun _ _ _ _ q=>q.2) p.blks hm' hf (Nat.le_refl _) ?_
      refine Zdh (w:=w.drew) ?_ hall;have:(old++new++rest).toList.take ((cs.drop q0).take (n*C.P.cellsOf e)++ds).length=old.toList++new.toList:=by
       rw[List.length_append,hlen,hsz,hso];simp only[Array.toList_append];rw[List.take_append_of_le_length (by simp),List.take_of_length_le (by simp)]
      rw[this];exact VRs.append (hrr.mono fun _ _ e=>Zb8 hf _ _ e) (h1.mono fun _ _ e=>Zb8 hf _ _ e)
     ·exact(Ext.new (Q:=fun k x=>k≠ .inl i∧Q k x) hm' hf (Nat.le_refl _) (by simp)).strong fun _ _ q=>q.2
     ·refine VR.slice _ _ 0 _ _ _ _ (Zbg _ _ _) hk (fun _=>⟨rfl,?_⟩)
      have:(old++new++rest).size=old.size+new.size+rest.size:=by simp[Nat.add_assoc]
      simp only[this];rw[←hsz,←hso,hdl,h3,Nat.zero_add,←Nat.add_mul,←Nat.add_mul];exact Nat.mul_le_mul_right _ (by omega)
end
end Go.Gv
namespace Go.Gv
variable {β:Type}
section
variable {C:Cfg} {o:Oper} {D W:HId→Prop} {E:Env} {s:St} {md:Md} {pr ms:List Nat}
theorem args2 {q:Call} {y z:Operand} (h:q.args.toList=[y,z]):q.args= #[y,z]:=by rw[←Array.toArray_toList (xs:=q.args),h]
theorem Zil {x y:Nat} {a:Option (Nat×Nat)} (h:(Nat.beq x y||a.isNone)=true):x=y∨a=none:=by
 rw[Bool.or_eq_true]at h;rcases h with h|h
 ·exact .inl (Nat.eq_of_beq_eq_true h)
 ·exact .inr (by simpa using h)
theorem Zq5 {ψ:Ps} {P:Program} (x:ByteArray) (n:Nat) (w:World):
  ∃vs,(Builtin.firstCells 1 n (.string x)).run P w= .ok vs w∧VRs C ψ (ZF (x.data.toList.take n)) vs.toList:=by
 refine⟨_,rfl,?_⟩;have:((x.extract 0 n).data.map fun b=>Value.int .u8 b.toNat).toList=(x.data.toList.take n).map fun b=>Value.int .u8 b.toNat:=by
  rw[Array.toList_map,ByteArray.data_extract,Array.toList_extract,List.extract_eq_take_drop];simp
 rw[this];exact Zk8 _
theorem Zul {q:Call} (hq:q.callee= .builtin .append) (ho:o.op= .call q) (hWD: ∀h,W h→D h) (hD: ∀i,D (.inl i)) (hW: ∀y z i p n,q.args.toList.head?=some y→E.src C y= .v (.slice z (some (i,p)) n)→W (.inl i)) {K:Env→M β} {r:Out β×St} (h:Znx C E o K q.argTypes q.args s=some r):Res C md pr ms o D W E s K r:=by
 unfold Znx at h;generalize ha:q.args.toList=l at h;generalize h0:q.argTypes[0]? =t0 at h;split at h
 ·rename_i y z t
  unfold Zdg at h;cases ht:C.P.underlying t with
  |none=>rw[ht]at h;cases h
  |some td=>
   rw[ht]at h;cases td with
   |slice e=>
    simp only at h;obtain⟨ed,he,h⟩:=Z9 h;obtain⟨hn,h⟩:=Zwd h;cases hz:Zbp C.P e with
    |none=>rw[hz]at h;cases h
    |some zv=>
     rw[hz]at h;simp only at h;obtain⟨hzl,h⟩:=ZfL h;have hzl:zv.length=C.P.cellsOf e:=Nat.eq_of_beq_eq_true (by simpa using hzl);obtain⟨a,hda,h⟩:=Zr h;obtain⟨b,hdb,h⟩:=Zr h;have hargs:=args2 ha;have mz:z∈o.op.operands:=by rw[ho];simp[Op.operands,Call.operands,hq,hargs]
     cases a with
     |slice w1 p1 n=>
      cases b with
      |slice w2 p2 m=>
       simp only at h;obtain⟨hw,h⟩:=Zo h;rw[Bool.and_eq_true]at hw;obtain⟨ds,h,hdl,hds⟩:=ZpW h;refine ZvB hq ho hargs h0 ht he hz hzl hn hWD hD (fun i q0 e=>hW y _ i q0 _ (by rw[ha];rfl) (by rw[hda,e])) hda (Zil hw.1) hdl (fun ψ Q A w p=>?_) h;obtain⟨base,cap,vs,e1,e2,e3,e4⟩:=Zos p hD (p.val mz hdb) (Zil hw.2) (k:=m) rfl (Nat.le_refl _) hds;exact⟨fun w=>by rw[e1];rfl,vs,e3,e4,e2⟩
      |str l=>
       simp only at h;obtain⟨hw,h⟩:=Zo h;rw[Bool.and_eq_true]at hw;have hsz:=Nat.eq_of_beq_eq_true hw.2;rw[←hsz]at h;refine ZvB hq ho hargs h0 ht he hz hzl hn hWD hD (fun i q0 e=>hW y _ i q0 _ (by rw[ha];rfl) (by rw[hda,e])) hda (by rw[hsz];exact Zil hw.1) (by rw[hsz];simp) (fun ψ Q A w p=>?_) h;have hv:=p.val mz hdb;generalize A.eval z=v at hv;cases hv with
       |str x=>
        have hx:x.data.toList.length=x.size:=by rw[Array.length_toList];rfl
        obtain⟨vs,e1,e2⟩:=Zq5 (C:=C) (ψ:=ψ) (P:=C.P) x x.size w;rw[←hx,List.take_of_length_le (Nat.le_refl _)]at e2;refine⟨fun w=>by rw[hx];rfl,vs,e2,Zhk _,fun w' hw'=>?_⟩;rw[hsz,hx];cases e1;rfl
      |_=>cases h
     |_=>cases b<;>cases h
   |_=>cases h
 ·cases h
theorem ZvC (cs:List DV) (p:Nat):spl cs p []=cs:=by
 induction cs generalizing p with
 |nil=>cases p<;>rfl
 |cons c cs ih=>cases p with
  |zero=>rfl
  |succ p=>simp[spl,ih]
theorem ZvQ {p:Option (Nat×Nat)} {ds:List DV} {K:M β} {r:Out β×St} (h:M.wr p ds K s=some r):
  (p=none∧ds=[]∧K s=some r)∨∃i q cs,p=some (i,q)∧s.open? i=some cs∧q+ds.length≤cs.length∧K (s.set i (some ⟨false,spl cs q ds⟩))=some r:=by
 cases p with
 |none=>
  simp only[M.wr]at h;obtain⟨h1,h⟩:=Zo h;exact .inl ⟨rfl,List.length_eq_zero_iff.1 (Nat.eq_of_beq_eq_true h1),h⟩
 |some iq=>
  obtain⟨i,q⟩:=iq;simp only[M.wr]at h;obtain⟨cs,h1,h2,h3⟩:=Zok h;exact .inr ⟨i,q,cs,rfl,h1,h2,h3⟩
theorem Zlb {ψ:Ps} {w:World} {cb:CB} {ad:Addr} {q cap n k sz:Nat} {cs ds:List DV} {vs:List Value} (hb:0<cap→ad=⟨cb.b,cb.o+q,none⟩∧q+cap*sz≤cb.m) (hc:n≤cap) (hk:k≤n)
  (h:Holds C ψ w cb (.cells false cs)) (hr:VRs C ψ ds vs) (h1:ds.all one=true) (hl:ds.length=k*sz) (hle:q+ds.length≤cs.length):
  ∃w',(storeCells ad vs).run C.P w= .ok () w'∧SetW w w' cb.b∧Holds C ψ w' cb (.cells false (spl cs q ds)):=by
 by_cases h0:ds.length=0
 ·have hd:=List.length_eq_zero_iff.1 h0
  subst hd;cases hr;exact⟨w,rfl,⟨fun _ _=>rfl,rfl,rfl,rfl,.refl _⟩,by rw[ZvC];exact h⟩
 ·have hk0:0<k:=by
   rcases Nat.eq_zero_or_pos k with h|h
   ·subst h;simp at hl;rw[hl]at h0;exact absurd rfl h0
   ·exact h
  obtain⟨e1,_⟩:=hb (by omega);rw[e1];exact Zi8 h hr h1 hle
theorem Ztn {P:Program} {ts:Array TypeId} {t e:TypeId} {ed:TypeDesc} (h0:ts[0]? =some t) (ht:P.underlying t=some (.slice e)) (he:P.underlying e=some ed) (ty:TypeId)
  (base:Option Addr) (n m cap:Nat) (X:Value) (w w':World) (new:Array Value) (hX:(Builtin.lenOf X).run P w= .ok m w)
  (hf:(Builtin.firstCells (P.cellsOf e) (min m n) X).run P w= .ok new w) (hs: ∀a,base=some a→(storeCells a new.toList).run P w= .ok () w') (hb:base=none→w'=w):
  (Builtin.copy_ ts ty #[.slice base n cap,X]).run P w= .ok (.int .i64 (min (m:Int) n)) w':=by
 have hmin:((Nat.min m n:Nat):Int)=min (m:Int) n:=by show((min m n:Nat):Int)=_;omega
 have hf':(Builtin.firstCells (P.cellsOf e) (Nat.min m n) X).run P w= .ok new w:=hf;unfold Builtin.copy_;simp only[h0,List.getElem?_toArray,List.getElem?_cons_zero,List.getElem?_cons_succ,Sem.run_bind,Zj w ht,Result.andThen_ok,ZJ w he,hX,hf'];cases base with
 |none=>have:=hb rfl;subst this;simp[goInt];exact hmin
 |some a=>simp[hs a rfl,goInt];exact hmin
theorem Zwu {q:Call} (hq:q.callee= .builtin .copy) (ho:o.op= .call q) (hWD: ∀h,W h→D h) (hW: ∀i,W (.inl i)) {K:Env→M β} {r:Out β×St} (h:ZtG C E o K q.argTypes q.args s=some r):Res C md pr ms o D W E s K r:=by
 unfold ZtG at h;generalize ha:q.args.toList=l at h;generalize h0:q.argTypes[0]? =t0 at h;split at h
 ·rename_i y z t
  unfold Zdg at h;cases ht:C.P.underlying t with
  |none=>rw[ht]at h;cases h
  |some td=>
   rw[ht]at h;cases td with
   |slice e=>
    simp only at h;obtain⟨ed,he,h⟩:=Z9 h;obtain⟨a,hda,h⟩:=Zr h;obtain⟨b,hdb,h⟩:=Zr h;have hargs:=args2 ha;have my:y∈o.op.operands:=by rw[ho];simp[Op.operands,Call.operands,hq,hargs]
    have mz:z∈o.op.operands:=by rw[ho];simp[Op.operands,Call.operands,hq,hargs]
    have hex: ∀(A:Act) (w w':World) v,(Builtin.copy_ q.argTypes o.type #[A.eval y,A.eval z]).run C.P w= .ok v w'→(execOp A.eval o).run C.P w= .ok (.value v) w':=by
     intro A w w' v hv;simp[execOp,ho,resolve,hq,invoke,builtin,hargs,hv]
    cases a with
    |slice w1 p1 n=>
     have core: ∀(m:Nat) (ds:List DV),(w1=C.P.cellsOf e∨p1=none)→ds.length=min m n*C.P.cellsOf e→M.wr p1 ds (putK E o K (.int .i64 (min (m:Int) n))) s=some r→
       (∀ψ Q A w,Pre C o D E s ψ Q A w→(Builtin.lenOf (A.eval z)).run C.P w= .ok m w∧∃vs,VRs C ψ ds vs.toList∧ds.all one=true∧(Builtin.firstCells (C.P.cellsOf e) (min m n) (A.eval z)).run C.P w= .ok vs w)→
       Res C md pr ms o D W E s K r:=by
      intro m ds hw1 hdl h hX;rcases ZvQ h with⟨rfl,rfl,h⟩|⟨i,q0,cs,rfl,hi,hle,h'⟩
      ·refine Res.val hWD _ h fun ψ Q A w p=>?_
       obtain⟨hl,vs,h1,h2,h3⟩:=hX ψ Q A w p;have hv:=p.val my hda;generalize hy:A.eval y=v at hv;cases hv;exact⟨_,w,hex A w w _ (by rw[hy];exact Ztn h0 ht he o.type none 0 m 0 (A.eval z) w w vs hl h3 (fun _ h=>by cases h) (fun _=>rfl)),.refl w,.int _ _⟩
      ·have hw1:w1=C.P.cellsOf e:=by rcases hw1 with h|h;exact h;cases h
       subst hw1;refine Res.setH hWD (hW _) (.v (.int .i64 (min (m:Int) n))) rfl (fun _ _ _ _ h=>by cases h) hi h' fun ψ Q A w p=>?_
       have hv:=p.val my hda;generalize hy:A.eval y=v at hv;cases hv with
       |slice _ _ _ _ cb ad cap hcb hcap hb=>
        refine⟨cb,hcb,fun hh=>?_⟩;obtain⟨hl,vs,h1,h2,h3⟩:=hX ψ Q A w p;obtain⟨w',e1,e2,e3⟩:=Zlb hb hcap (Nat.min_le_right m n) hh h1 h2 hdl hle;exact⟨_,w',.inl (hex A w w' _ (by rw[hy];exact Ztn h0 ht he o.type (some ad) n m cap (A.eval z) w w' vs hl h3 (fun _ h=>by cases h;exact e1) (fun h=>by cases h))),e2,e3,.int _ _⟩
     cases b with
     |slice w2 p2 m=>
      simp only at h;obtain⟨hw,h⟩:=Zo h;rw[Bool.and_eq_true]at hw;obtain⟨ds,h,hdl,hds⟩:=ZpW h;refine core m ds (Zil hw.1) hdl h fun ψ Q A w p=>?_
      obtain⟨base,cap,vs,e1,e2,e3,e4⟩:=Zos p (fun i=>hWD _ (hW i)) (p.val mz hdb) (Zil hw.2) (k:=min m n) rfl (Nat.min_le_left _ _) hds;exact⟨by rw[e1];rfl,vs,e3,e4,e2 w rfl⟩
     |str l=>
      simp only at h;obtain⟨hw,h⟩:=Zo h;rw[Bool.and_eq_true]at hw;have hsz:=Nat.eq_of_beq_eq_true hw.2;refine core l.length (ZF (l.take n)) (by rw[hsz];exact Zil hw.1) (by rw[hsz];simp[Nat.min_comm]) h fun ψ Q A w p=>?_
      have hv:=p.val mz hdb;generalize A.eval z=v at hv;cases hv with
      |str x=>
       have hx:x.data.toList.length=x.size:=by rw[Array.length_toList];rfl
       obtain⟨vs,e1,e2⟩:=Zq5 (C:=C) (ψ:=ψ) (P:=C.P) x (min x.data.toList.length n) w;refine⟨by rw[hx];rfl,vs,?_,Zhk _,by rw[hsz];exact e1⟩;have:x.data.toList.take (min x.data.toList.length n)=x.data.toList.take n:=by
        rw[Nat.min_comm,←List.take_take,List.take_of_length_le (Nat.le_refl _)]
       rw[this]at e2;exact e2
     |_=>cases h
    |_=>cases b<;>cases h
   |_=>cases h
 ·cases h
theorem ZuU {q:Call} (hq:q.callee= .builtin .clear) (ho:o.op= .call q) (hWD: ∀h,W h→D h) (hW: ∀i,W (.inl i)) {K:Env→M β} {r:Out β×St} (h:Zqm C E o K q.argTypes q.args s=some r):Res C md pr ms o D W E s K r:=by
 unfold Zqm at h;generalize ha:q.args.toList=l at h;generalize h0:q.argTypes[0]? =t0 at h;split at h
 ·rename_i y t
  unfold Zdg at h;cases ht:C.P.underlying t with
  |none=>rw[ht]at h;cases h
  |some td=>
   rw[ht]at h;cases td with
   |slice e=>
    simp only at h;obtain⟨a,hda,h⟩:=Zr h;have hargs:q.args= #[y]:=by rw[←Array.toArray_toList (xs:=q.args),ha]
    have my:y∈o.op.operands:=by rw[ho];simp[Op.operands,Call.operands,hq,hargs]
    have hex: ∀(A:Act) (w w':World),(Builtin.clear_ q.argTypes o.type #[A.eval y]).run C.P w= .ok (.tuple #[]) w'→(execOp A.eval o).run C.P w= .ok (.value (.tuple #[])) w':=by
     intro A w w' hv;simp[execOp,ho,resolve,hq,invoke,builtin,hargs,hv]
    cases a with
    |slice w1 p1 n=>
     cases hz:Zbp C.P e with
     |none=>rw[hz]at h;cases h
     |some z=>
      rw[hz]at h;simp only at h;obtain⟨hw,h⟩:=Zo h;rw[Bool.and_eq_true]at hw;have hzl:=Nat.eq_of_beq_eq_true hw.2;rcases ZvQ h with⟨rfl,hnil,h⟩|⟨i,q0,cs,rfl,hi,hle,h'⟩
      ·refine Res.pure hWD (.tup []) rfl (fun _ _ _ _ h=>by cases h) h fun ψ Q A w p=>?_
       have hv:=p.val my hda;generalize hy:A.eval y=v at hv;cases hv;exact⟨.tuple #[],w,hex A w w (by rw[hy];simp[Builtin.clear_,h0,Zj w ht]),.refl w,_,rfl,.nil⟩
      ·have hw1:w1=C.P.cellsOf e:=by rcases Zil hw.1 with h|h;exact h;cases h
       subst hw1;refine Res.setH hWD (hW _) (.tup []) rfl (fun _ _ _ _ h=>by cases h) hi h' fun ψ Q A w p=>?_
       have hv:=p.val my hda;generalize hy:A.eval y=v at hv;cases hv with
       |slice _ _ _ _ cb ad cap hcb hcap hb=>
        refine⟨cb,hcb,fun hh=>?_⟩;obtain⟨zv,hzr,hzv,hz1⟩:=Zks (P:=C.P) w hz;have hzs:=(hzv C ψ).lenA;have hmade:=ZnC (hzv C ψ) n (n*zv.cells.size) (by rw[hzs];exact Nat.le_refl _);rw[Zia (by simp[size_madeCells,Zd1,hzs])]at hmade;obtain⟨w',e1,e2,e3⟩:=Zlb hb hcap (Nat.le_refl n) hh hmade (ZhU hz1) (by rw[Zd1,hzl]) hle;refine⟨.tuple #[],w',.inl (hex A w w' ?_),e2,e3,_,rfl,.nil⟩;rw[hy];have e1':(storeCells ad (Builtin.zeroCells zv.cells n).toList).run C.P w= .ok () w':=e1;cases n with
        |zero=>
         have:w'=w:=by
          have e4:(madeCells zv.cells (0*zv.cells.size)).toList=[]:=by simp[madeCells,Array.range_zero']
          rw[e4]at e1;cases e1;rfl
         subst this;simp[Builtin.clear_,h0,Zj _ ht]
        |succ n=>
         simp[Builtin.clear_,h0,Zj _ ht,hzr,e1']
    |_=>cases h
   |_=>cases h
 ·cases h
end
end Go.Gv
namespace Go.Gv
variable {β:Type}
def CS (s:St):Kn:=fun h ab=>∃i,h= .inl i∧stAB s i=some ab
def RetV (C:Cfg) (ψ:Ps) (ds:List DV) (v:Value):Prop:=(∃d,ds=[d]∧VR C ψ d v)∨(ds.length≠1∧∃vs,v= .tuple vs∧VRs C ψ ds vs.toList)
structure CallPost (C:Cfg) (ψ:Ps) (s:St) (w:World) (ψ':Ps) (s':St) (w':World):Prop where
 sim:Sim C ψ' (CS s') w'
 ext:Ext ψ (CS s) w ψ' (CS s') w'
 news: ∀h cb,ψ' h=some cb→ψ h=some cb∨∃i,h= .inl i∧s.length≤i∧i<s'.length
def ZdZ (P:Program) (f:FuncId) (vs:Array Value) (w:World) (R:Ending→World→Prop):Prop:=
 match (callFunc f vs).run P w with
 | .ok (.enter f' as) w'=>Calls P f' as w' R
 | .ok (.value v) w'=>R (.returned v) w'
 |_=>False
def ZzV (C:Cfg) (g:Nat) (args:List DV) (s:St) (out:Out (List DV)×St):Prop:=
 s.length≤out.2.length∧
 ∀f,C.cov f=true→C.fn f=g→∀ψ w vs,Sim C ψ (CS s) w→Blks ψ w→Glob C ψ→VRs C ψ args vs→(∀v,ψ (.inr v)=none)→(∀i,s.length≤i→i<out.2.length→ψ (.inl i)=none)→
  ZdZ C.P f vs.toArray w fun
   | .returned v,w'=>∃ds,out.1= .val ds∧∃ψ',CallPost C ψ s w ψ' out.2 w'∧RetV C ψ' ds v
   | .panicked ch,w'=>PanV ch∧out.1= .pan∧∃ψ',CallPost C ψ s w ψ' out.2 w'
   | .outgrown,_=>False
def Zy (C:Cfg) (c:Zg):Prop:=∀g args s out,c g args s=some out→ZzV C g args s out
def inPs (ψ:Ps):Ps
 | .inl i=>ψ (.inl i)
 | .inr _=>none
def outPs (ψ ψc:Ps):Ps
 | .inl i=>ψc (.inl i)
 | .inr v=>ψ (.inr v)
def outQ (s':St) (Q:Kn):Kn:=fun h ab=>CS s' h ab∨(Q h ab∧∀i,h= .inl i→s'.length≤i)
section
variable {C:Cfg} {ψ ψc:Ps} {Q:Kn} {s s':St} {w w':World}
theorem Ze7 {h:HId} {cb:CB} (e:inPs ψ h=some cb):ψ h=some cb∧∃i,h= .inl i:=by
 cases h with
 |inl i=>exact⟨e,i,rfl⟩
 |inr v=>cases e
theorem ZsV {ds:List DV} {vs:List Value} (h:VRs C ψ ds vs):VRs C (inPs ψ) ds vs:=h.mono (ψ:=ψ) (ψ':=inPs ψ) fun _ _ e=>e
theorem Ztv (h:Sim C ψ Q w) (hk: ∀i ab cb,stAB s i=some ab→ψ (.inl i)=some cb→Q (.inl i) ab):Sim C (inPs ψ) (CS s) w:=by
 constructor
 ·intro k cb ab e q
  obtain⟨e,i,rfl⟩:=Ze7 e;obtain⟨_,hi,q⟩:=q;cases hi;exact(h.holds _ cb ab e (hk i ab cb q e)).same (ψ:=ψ) (ψ':=inPs ψ) (fun _ _ e=>e) rfl
 ·intro k cb ab k' cb' ab' e q hs e' q' hn
  obtain⟨e,i,rfl⟩:=Ze7 e;obtain⟨e',i',rfl⟩:=Ze7 e';obtain⟨_,hi,q⟩:=q;cases hi;obtain⟨_,hi,q'⟩:=q';cases hi;exact h.excl _ cb ab _ cb' ab' e (hk i ab cb q e) hs e' (hk i' ab' cb' q' e') hn
theorem frame (h:Sim C ψ Q w) (hb:Blks ψ w) (hk: ∀i ab cb,stAB s i=some ab→ψ (.inl i)=some cb→Q (.inl i) ab) (hlen:s.length≤s'.length)
  (hc:CallPost C (inPs ψ) s w ψc s' w'):Sim C (outPs ψ ψc) (outQ s' Q) w'∧Ext ψ Q w (outPs ψ ψc) (outQ s' Q) w':=by
 have mono: ∀k cb,ψ k=some cb→outPs ψ ψc k=some cb:=by
  intro k cb e;cases k with
  |inl i=>exact hc.ext.mono (.inl i) cb e
  |inr v=>exact e
 have solein: ∀b,Sole (inPs ψ) (CS s) b→∃i cb ab,ψ (.inl i)=some cb∧stAB s i=some ab∧Q (.inl i) ab∧ab.sole=true∧cb.b=b:=by
  rintro b ⟨k,cb,ab,e,⟨i,rfl,q⟩,hs,hb⟩;exact⟨i,cb,ab,e,q,hk i ab cb q e,hs,hb⟩
 have soleQ: ∀b,Sole (inPs ψ) (CS s) b→Sole ψ Q b:=by
  intro b hs;obtain⟨i,cb,ab,e,_,q,hs,hb⟩:=solein b hs;exact⟨_,cb,ab,e,q,hs,hb⟩
 have frm: ∀k cb ab,outPs ψ ψc k=some cb→Q k ab→(∀i,k= .inl i→s'.length≤i)→ψ k=some cb∧¬Sole (inPs ψ) (CS s) cb.b∧cb.b<w.heap.size:=by
  intro k cb ab e q hf;have e':ψ k=some cb:=by
   cases k with
   |inr v=>exact e
   |inl i=>
    rcases hc.news _ _ e with e|⟨j,hj,_,hlt⟩
    ·exact e
    ·cases hj;have:=hf i rfl;omega
  refine⟨e',fun hs=>?_,hb _ _ e'⟩;obtain⟨i,cb0,ab0,e0,q0,qq,hs0,hb0⟩:=solein _ hs;have hne:(Sum.inl i:HId)≠k:=by
   rintro rfl;have h1:=hf i rfl;have h2:=Zgd q0;omega
  exact h.excl _ cb0 ab0 _ cb ab e0 qq hs0 e' q hne hb0.symm
 refine⟨⟨?_,?_⟩,⟨mono,?_,hc.ext.size,?_,?_,?_,hc.ext.tape,hc.ext.os,hc.ext.output⟩⟩
 ·intro k cb ab e q
  rcases q with⟨i,rfl,q⟩|⟨q,hf⟩
  ·exact(hc.sim.holds (.inl i) cb ab e ⟨i,rfl,q⟩).same (ψ:=ψc) (ψ':=outPs ψ ψc) (fun _ _ e=>e) rfl
  ·obtain⟨e1,e2,e3⟩:=frm k cb ab e q hf
   exact(h.holds k cb ab e1 q).same (fun i cb e=>mono _ _ e) (hc.ext.keep _ e3 e2)
 ·intro k cb ab k' cb' ab' e q hs e' q' hn
  rcases q with⟨i,rfl,q⟩|⟨q,hf⟩<;>rcases q' with⟨i',rfl,q'⟩|⟨q',hf'⟩
  ·exact hc.sim.excl (.inl i) cb ab (.inl i') cb' ab' e ⟨i,rfl,q⟩ hs e' ⟨i',rfl,q'⟩ hn
  ·obtain⟨e1,e2,e3⟩:=frm k' cb' ab' e' q' hf'
   rcases hc.ext.sole cb.b ⟨.inl i,cb,ab,e,⟨i,rfl,q⟩,hs,rfl⟩with h1|h1
   ·intro h2;rw[h2]at e2;exact e2 h1
   ·omega
  ·obtain⟨e1,e2,e3⟩:=frm k cb ab e q hf
   rcases hc.ext.rng (.inl i') cb' e' with h1|⟨h1,_⟩
   ·obtain⟨y,i2,hi2,hy⟩:=hc.ext.live (.inl i') cb' ab' h1 ⟨i',rfl,q'⟩
    cases hi2;exact h.excl k cb ab (.inl i') cb' y e1 q hs h1 (hk i' y cb' hy h1) hn
   ·rcases h1 with h1|h1
    ·omega
    ·intro h2;rw[h2]at h1;exact e2 h1
  ·obtain⟨e1,_,_⟩:=frm k cb ab e q hf
   obtain⟨e1',_,_⟩:=frm k' cb' ab' e' q' hf';exact h.excl k cb ab k' cb' ab' e1 q hs e1' q' hn
 ·intro k cb e
  cases k with
  |inr v=>exact .inl e
  |inl i=>
   rcases hc.ext.rng (.inl i) cb e with h1|⟨h1,h2⟩
   ·exact .inl h1
   ·exact .inr ⟨h1.imp id (soleQ _),h2⟩
 ·intro b hb' hn
  exact hc.ext.keep b hb' fun hs=>hn (soleQ b hs)
 ·rintro b ⟨k,cb,ab,e,q,hs,hb'⟩
  rcases q with⟨i,rfl,q⟩|⟨q,hf⟩
  ·exact(hc.ext.sole b ⟨.inl i,cb,ab,e,⟨i,rfl,q⟩,hs,hb'⟩).imp (soleQ b) id
  ·obtain⟨e1,_,_⟩:=frm k cb ab e q hf
   exact .inl ⟨k,cb,ab,e1,q,hs,hb'⟩
 ·intro k cb x e q
  rcases q with⟨i,rfl,q⟩|⟨q,_⟩
  ·obtain⟨y,i2,hi2,hy⟩:=hc.ext.live (.inl i) cb x e ⟨i,rfl,q⟩
   cases hi2;exact⟨y,hk i y cb hy e⟩
  ·exact⟨x,q⟩
end
section
variable {C:Cfg} {o:Oper} {D W:HId→Prop} {E:Env} {s:St} {md:Md} {pr ms:List Nat}
theorem Zo4 {m:M (List DV)} {K:List DV→M β} {r:Out β×St} (h:callK md m K s=some r):
  (∃ds s1,m s=some (.val ds,s1)∧K ds s1=some r∧(2≤md.x→St.begins s s1))∨(md.x=0∧∃s1,m s=some (.pan,s1)∧r=(.pan,s1)):=by
 unfold callK at h;cases hx:md.x with
 |zero=>
  rw[hx]at h;simp only[M.call]at h;cases hm:m s with
  |none=>rw[hm]at h;cases h
  |some p=>
   obtain⟨o,s1⟩:=p;rw[hm]at h;cases o with
   |val ds=>exact .inl ⟨ds,s1,rfl,h,fun h=>by omega⟩
   |pan=>simp only[Option.some.injEq]at h;exact .inr ⟨rfl,s1,rfl,h.symm⟩
 |succ n=>
  cases n with
  |zero=>
   rw[hx]at h;simp only[M.callN]at h;cases hm:m s with
   |none=>rw[hm]at h;cases h
   |some p=>
    obtain⟨o,s1⟩:=p;rw[hm]at h;cases o with
    |val ds=>exact .inl ⟨ds,s1,rfl,h,fun h=>by omega⟩
    |pan=>cases h
  |succ n=>
   rw[hx]at h;simp only[M.callX]at h;cases hm:m s with
   |none=>rw[hm]at h;cases h
   |some p=>
    obtain⟨o,s1⟩:=p;rw[hm]at h;cases o with
    |val ds=>
     simp only at h;split at h
     ·rename_i hb;exact .inl ⟨ds,s1,rfl,h,fun _=>hb⟩
     ·cases h
    |pan=>cases h
theorem Ze1 {m:M (List DV)} : ∀ {bs:List Nat} {o:Out (List DV)} {s1:St},chkC E bs m s=some (o,s1)→
  m s=some (o,s1)∧∀ds,o= .val ds→∀b∈bs,∃j p,E.get b= .v (.ptr (some (j,p)))∧s1[j]? =s[j]?
 |[],_,_,h=>⟨h,fun _ _ b hb=>by cases hb⟩
 |b::bs,o,s1,h=>by
  unfold chkC at h;cases he:E.get b with
  |v d=>
   rw[he]at h;cases d with
   |ptr a=>
    cases a with
    |none=>cases h
    |some jq=>
     obtain⟨j,q'⟩:=jq;simp only[M.keep]at h;cases hm:chkC E bs m s with
     |none=>rw[hm]at h;cases h
     |some p=>
      obtain⟨o1,s2⟩:=p;rw[hm]at h;cases o1 with
      |val ds=>
       simp only at h;split at h
       ·rename_i hk
        cases h;obtain⟨h1,h2⟩:=Ze1 hm;refine⟨h1,fun ds' e b' hb'=>?_⟩;rcases List.mem_cons.1 hb' with rfl|hb'
        ·exact⟨j,q',he,hk⟩
        ·exact h2 ds' e b' hb'
       ·cases h
      |pan=>
       simp only at h;cases h;exact⟨(Ze1 hm).1,fun ds' e=>by cases e⟩
   |_=>cases h
  |_=>rw[he]at h;cases h
theorem Zi9 {q:Call} {f:Operand} (hq:q.callee= .value f) (ho:o.op= .call q) (hWD: ∀h,W h→D h) (hD: ∀i,D (.inl i))
  {c:Zg} (hc:Zy C c) {g:Nat} {fs cs as:List DV} (hf:E.src C f= .v (.func g fs cs)) (has:SV C E q.args.toList as)
  {out:Out (List DV)} {s1:St} (hcall:c g (fs++as++cs) s=some (out,s1)) (hW: ∀ds,out= .val ds→∀i,W (.inl i)∨(i<s.length→s1[i]? =s[i]?)):
  (out= .pan→OpPan C o D E s s1)∧
  (∀ds e,out= .val ds→e.ver=none→(∀r v n,e≠ .pl r v n)→(∀ψ v,RetV C ψ ds v→EntR C ψ e v)→OpF W pr ms o E s (E.putO o.dst e) s1∧OpOK C o D W E s (E.putO o.dst e) s1):=by
 have ok:=hc g _ s _ hcall;have hlen:s.length≤s1.length:=ok.1;have mf:f∈o.op.operands:=by rw[ho];simp[Op.operands,Call.operands,hq]
 have ma: ∀x∈q.args.toList,x∈o.op.operands:=by intro x hx;rw[ho];simp only[Op.operands,Call.operands,hq];simp at hx⊢;first|exact .inl hx|exact .inr hx
 have sem: ∀ψ Q (A:Act) (w:World) (next:Act→World→Prop) (QQ:Exit→Act→World→Prop),Pre C o D E s ψ Q A w→(∀i,s.length≤i→i<s1.length→ψ (.inl i)=none)→
   (∀ds v w' ψc,out= .val ds→CallPost C (inPs ψ) s w ψc s1 w'→RetV C ψc ds v→next (A.put o.dst v) w')→(∀ch w' ψc,PanV ch→out= .pan→CallPost C (inPs ψ) s w ψc s1 w'→QQ (.panic ch) A w')→o.wp C.P A w next QQ:=by
  intro ψ Q A w next QQ p room hv hp;have hfv:=p.val mf hf;generalize hfe:A.eval f=v at hfv;cases hfv with
  |func k _ _ vf vc hcov h1 h2=>
   have h3:=Zh4 p ma has;have hargs:VRs C (inPs ψ) (fs++as++cs) (vf.toList++q.args.toList.map A.eval++vc.toList):=ZsV (VRs.append (VRs.append h1 h3) h2);have:=ok.2 k hcov rfl (inPs ψ) w _ (Ztv p.sim fun i ab cb h e=>p.know (.inl i) ab cb (hD i) h e) (fun h cb e=>p.blks h cb (Ze7 e).1)
    (fun g hg=>let ⟨cb,e1,e2⟩:=p.glob g hg;⟨cb,e1,e2⟩) hargs (fun _=>rfl) (fun i h1 h2=>room i h1 h2)
   have hvs:(vf.toList++q.args.toList.map A.eval++vc.toList).toArray=vf++q.args.map A.eval++vc:=by
    apply Array.ext';simp
   rw[hvs]at this;have hex:(execOp A.eval o).run C.P w=(callFunc k (vf++q.args.map A.eval++vc)).run C.P w:=by
    simp[execOp,ho,resolve,hq,hfe,Deferred.ofValue,invoke]
   unfold Oper.wp;rw[hex];unfold ZdZ at this;split at this
   ·rename_i f' as' w' hr
    rw[hr];refine Calls.mono this fun e w'' he=>?_
    cases e with
    |returned v=>
     obtain⟨ds,e1,ψc,e2,e3⟩:=he;exact hv ds v w'' ψc e1 e2 e3
    |panicked ch=>
     obtain⟨e0,e1,ψc,e2⟩:=he;exact hp ch w'' ψc e0 e1 e2
    |outgrown=>exact he.elim
   ·rename_i v w' hr
    rw[hr];obtain⟨ds,e1,ψc,e2,e3⟩:=this;exact hv ds v w' ψc e1 e2 e3
   ·exact this.elim
 refine⟨fun hout=>⟨hlen,fun ψ Q A w next QQ p room hn=>?_⟩,fun ds e hout hver hpl hret=>⟨OpF.put pr ms e hver (fun _ r v n h=>absurd h (hpl r v n)) hlen (fun i ab h=>?_) (fun i h hi=>?_) (.inr (by unfold NewOp;rw[ho];simp only[hq])),fun ψ Q A w next QQ p room hn=>?_⟩⟩
 ·have room': ∀i,s.length≤i→i<s1.length→ψ (.inl i)=none:=fun i h1 h2=>room (.inl i) ⟨Nat.not_lt.2 h1,h2⟩
  have hk: ∀i ab cb,stAB s i=some ab→ψ (.inl i)=some cb→Q (.inl i) ab:=fun i ab cb h e=>p.know (.inl i) ab cb (hD i) h e
  refine sem ψ Q A w next QQ p room' (fun ds v w' ψc h=>by rw[hout]at h;cases h) fun ch w' ψc hch _ hpost=>?_
  obtain⟨f1,f2⟩:=frame p.sim p.blks hk hlen hpost;refine hn (outPs ψ ψc) (outQ s1 Q) ch w' hch f1 f2 (fun h cb e=>?_) fun i ab cb h e=> .inl ⟨i,rfl,h⟩
  cases h with
  |inr v=>exact .inl e
  |inl i=>
   rcases hpost.news _ _ e with e|⟨j,hj,h1,h2⟩
   ·exact .inl e
   ·cases hj;exact .inr ⟨Nat.not_lt.2 h1,h2⟩
 ·rcases hW ds hout i with h'|h'
  ·exact .inl h'
  ·rcases Nat.lt_or_ge i s.length with hi|hi
   ·unfold stAB at h;rw[h' hi]at h;exact .inr (.inr h)
   ·exact .inr (.inl hi)
 ·rcases hW ds hout i with h'|h'
  ·exact absurd h' h
  ·exact h' hi
 ·have room': ∀i,s.length≤i→i<s1.length→ψ (.inl i)=none:=fun i h1 h2=>room (.inl i) ⟨Nat.not_lt.2 h1,h2⟩
  have hk: ∀i ab cb,stAB s i=some ab→ψ (.inl i)=some cb→Q (.inl i) ab:=fun i ab cb h e=>p.know (.inl i) ab cb (hD i) h e
  refine sem ψ Q A w next QQ p room' (fun ds' v w' ψc h hpost hr=>?_) (fun ch w' ψc _ h=>by rw[hout]at h;cases h);rw[hout]at h;cases h;obtain⟨f1,f2⟩:=frame p.sim p.blks hk hlen hpost;have hr':RetV C (outPs ψ ψc) ds v:=by
   rcases hr with⟨d,e1,e2⟩|⟨e1,vs,e2,e3⟩
   ·exact .inl ⟨d,e1,e2.mono (ψ:=ψc) (ψ':=outPs ψ ψc) fun _ _ e=>e⟩
   ·exact .inr ⟨e1,vs,e2,e3.mono (ψ:=ψc) (ψ':=outPs ψ ψc) fun _ _ e=>e⟩
  refine hn (outPs ψ ψc) (outQ s1 Q) v w' ⟨f1,f2,fun h cb e=>?_,fun h ab cb cr hw e'=>?_,fun h ab cb e' q' nw dm=>?_⟩ (fun d' hd'=>?_)
  ·cases h with
   |inr v=>exact .inl e
   |inl i=>
    rcases hpost.news _ _ e with e|⟨j,hj,h1,h2⟩
    ·exact .inl e
    ·cases hj;exact .inr ⟨Nat.not_lt.2 h1,h2⟩
  ·cases h with
   |inl i=>exact .inl ⟨i,rfl,cr⟩
   |inr x=>
    rcases hw with hw|⟨n1,n2⟩
    ·have cr':CR (E.putO o.dst e) s (.inr x) ab:=cr
     exact .inr ⟨p.know (.inr x) ab cb (hWD _ hw) (cr'.putO hver) e',fun i hi=>by cases hi⟩
    ·simp only[Dom,Env.nxt_putO]at n1 n2;exact absurd n2 n1
  ·cases h with
   |inr x=>exact .inr ⟨q',fun i hi=>by cases hi⟩
   |inl i=>
    rcases Nat.lt_or_ge i s.length with hi|hi
    ·rcases hW ds hout i with h'|h'
     ·exact absurd h' nw
     ·have h1:stAB s i=some ab:=dm (hD i) hi
      exact .inl ⟨i,rfl,by unfold stAB at h1⊢;rw[h' hi];exact h1⟩
    ·rcases Nat.lt_or_ge i s1.length with hi'|hi'
     ·rw[room' i hi hi']at e';cases e'
     ·exact .inr ⟨q',fun j hj=>by cases hj;exact hi'⟩
  ·rw[Env.get_putO,if_pos hd']
   exact hret _ v hr'
theorem Zv6 {q:Call} {f:Operand} (hq:q.callee= .value f) (ho:o.op= .call q) (hWD: ∀h,W h→D h) (hD: ∀i,D (.inl i)) (hW: ∀i,W (.inl i)∨2≤md.x∨∃b∈md.bs,∀j p,E.get b= .v (.ptr (some (j,p)))→j=i)
  {c:Zg} (hc:Zy C c) {K:Env→M β} {r:Out β×St} (h:Zto C E o K md c f q.args s=some r):Res C md pr ms o D W E s K r:=by
 unfold Zto at h;obtain⟨fv,hf,h⟩:=Zr h;obtain⟨as,h,has⟩:=Zft h;have hW': ∀(s1:St),(2≤md.x→St.begins s s1)→(∀b∈md.bs,∃j p,E.get b= .v (.ptr (some (j,p)))∧s1[j]? =s[j]?)→∀i,W (.inl i)∨(i<s.length→s1[i]? =s[i]?):=fun s1 hb hk i=>by
  rcases hW i with h|h|⟨b,hb1,hb2⟩
  ·exact .inl h
  ·obtain⟨x,rfl⟩:=hb h
   exact .inr fun hi=>List.getElem?_append_left hi
  ·obtain⟨j,p,e1,e2⟩:=hk b hb1
   have:=hb2 j p e1;subst this;exact .inr fun _=>e2
 cases fv with
 |func g fs cs=>
  simp only at h;generalize resOf C.P o.type=ro at h;obtain⟨many,shs⟩:=ro;cases many with
  |true=>
   simp only at h;obtain⟨h1,h⟩:=ZfL h;have h1:=Nat.ne_of_beq_eq_false h1;rcases Zo4 h with⟨ds,s1,hm,h,hb⟩|⟨hx,s1,hm,rfl⟩
   ·obtain⟨ds',h,hl,hl2,hr⟩:=Zfh h
    obtain⟨hm,hk⟩:=Ze1 hm;obtain⟨e1,e2⟩:=(Zi9 (pr:=pr) (ms:=ms) hq ho hWD hD hc hf has hm (fun ds e=>hW' s1 hb (hk ds e))).2 ds (.tup ds') rfl rfl (fun _ _ _ h=>by cases h) (fun ψ v hv=>by
     rcases hv with⟨d,e,_⟩|⟨_,vs,e,e'⟩
     ·rw[e]at hl;simp at hl;omega
     ·exact⟨vs,e,hr C ψ _ e'⟩)
    exact .inl ⟨_,s1,h,e1,e2⟩
   ·exact .inr ⟨hx,s1,rfl,(Zi9 (pr:=pr) (ms:=ms) hq ho hWD hD hc hf has (Ze1 hm).1 (fun ds e=>by cases e)).1 rfl⟩
  |false=>
   simp only at h;rcases Zo4 h with⟨ds,s1,hm,h,hb⟩|⟨hx,s1,hm,rfl⟩
   ·obtain⟨ds',h,hl,hl2,hr⟩:=Zfh h
    cases ds' with
    |nil=>cases h
    |cons d rest=>
     cases rest with
     |cons _ _=>cases h
     |nil=>
      simp only at h;obtain⟨hm,hk⟩:=Ze1 hm;obtain⟨e1,e2⟩:=(Zi9 (pr:=pr) (ms:=ms) hq ho hWD hD hc hf has hm (fun ds e=>hW' s1 hb (hk ds e))).2 ds (.v d) rfl rfl (fun _ _ _ h=>by cases h) (fun ψ v hv=>by
       rcases hv with⟨d0,e,hd0⟩|⟨e,_⟩
       ·subst e
        have:=hr C ψ [v] (.cons _ _ _ _ hd0 .nil);cases this with
        |cons _ _ _ _ a _=>exact a
       ·exact absurd hl.symm e)
      exact .inl ⟨_,s1,h,e1,e2⟩
   ·exact .inr ⟨hx,s1,rfl,(Zi9 (pr:=pr) (ms:=ms) hq ho hWD hD hc hf has (Ze1 hm).1 (fun ds e=>by cases e)).1 rfl⟩
 |_=>cases h
end
def IsInl (h:HId):Prop:=∃i,h= .inl i
def VerAt (E:Env) (r:Nat) (h:HId):Prop:=∃v,h= .inr v∧(E.get r).ver=some v
def Dof:Md→Env→HId→Prop
 | .s,_,_=>True
 | .d .pure _,_,_=>False
 | .d (.rdL r) _,E,h=>VerAt E r h
 | .d (.wrL r) _,E,h=>VerAt E r h
 | .d (.lp a) _,E,h=>∃i p,E.get a= .v (.ptr (some (i,p)))∧h= .inl i
 | .d _ _,_,h=>IsInl h
def Wof:Md→Env→HId→Prop
 | .s,_,_=>True
 | .d .wr _,_,h=>IsInl h
 | .d .call x,_,h=>x<2∧IsInl h
 | .d (.wrL r) _,E,h=>VerAt E r h
 | .d (.ap bs) _,E,h=>∃i,h= .inl i∧∀b∈bs,∃j p,E.get b= .v (.ptr (some (j,p)))∧j≠i
 | .d _ _,_,_=>False
theorem ZmA (md:Md) (E:Env) (h:HId) (w:Wof md E h):Dof md E h:=by
 cases md with
 |s=>trivial
 |d k x=>cases k<;>first|exact w|exact w.2|exact w.elim|(obtain⟨i,e,_⟩:=w;exact⟨i,e⟩)
section
variable {C:Cfg} {o:Oper} {E:Env} {s:St} {md:Md} {pr ms:List Nat}
theorem ZtI {P:Program} {pr:List Nat} {ops:List Oper} {t:TypeId} {a:Operand} (ho:o.op= .load t a):cls P pr ops o= .hp∨(∃b,a= .tmp b∧cls P pr ops o= .lp b)∨∃r,cls P pr ops o= .rdL r:=by
 unfold cls;rw[ho];cases a with
 |tmp t=>simp only;cases rootT pr ops 12 t<;>simp
 |_=>exact .inl rfl
theorem Zq8 {P:Program} {pr:List Nat} {ops:List Oper} {t:TypeId} {a y:Operand} (ho:o.op= .store t a y):cls P pr ops o= .wr∨cls P pr ops o= .ap []∨∃r,cls P pr ops o= .wrL r:=by
 unfold cls;rw[ho];cases a with
 |tmp t=>simp only;cases rootT pr ops 12 t<;>simp
 |_=>exact .inl rfl
theorem ZlT {E:Env} {p:Option (Nat×Nat)} {X:M β} {r:Out β×St} : ∀ {bs:List Nat},chkB E p bs X s=some r→X s=some r∧∀b∈bs,∀i q,p=some (i,q)→∃j q',E.get b= .v (.ptr (some (j,q')))∧j≠i
 |[],h=>⟨h,fun b hb=>by cases hb⟩
 |b::bs,h=>by
  unfold chkB at h;cases he:E.get b with
  |v d=>
   rw[he]at h;cases d with
   |ptr a=>
    cases a with
    |none=>cases h
    |some jq=>
     obtain⟨j,q'⟩:=jq;simp only at h;obtain⟨h1,h⟩:=ZK h;obtain⟨h,h2⟩:=ZlT h;refine⟨h,fun b' hb' i q hp=>?_⟩;rcases List.mem_cons.1 hb' with rfl|hb'
     ·refine⟨j,q',he,?_⟩
      rw[hp]at h1;unfold apart at h1;rintro rfl;simp at h1
     ·exact h2 b' hb' i q hp
   |_=>cases h
  |_=>rw[he]at h;cases h
theorem Zyq {C:Cfg} {E:Env} {bs:List Nat} {as:Array Operand} {X:M β} {r:Out β×St} (h:apK C E bs as X s=some r):
  X s=some r∧∀y z i q n,as.toList.head?=some y→E.src C y= .v (.slice z (some (i,q)) n)→∀b∈bs,∃j q',E.get b= .v (.ptr (some (j,q')))∧j≠i:=by
 unfold apK at h;cases bs with
 |nil=>exact⟨h,fun _ _ _ _ _ _ _ b hb=>by cases hb⟩
 |cons b r=>
  simp only at h;cases hy:as.toList with
  |nil=>rw[hy]at h;cases h
  |cons y ys=>
   rw[hy]at h;simp only at h;obtain⟨d,hd,h⟩:=Zr h;cases d with
   |slice z p n=>
    obtain⟨h1,h2⟩:=ZlT h;refine⟨h1,fun y' z' i q n' hy' he b' hb'=>?_⟩;cases hy';rw[hd]at he;cases he;exact h2 b' hb' i q rfl
   |_=>cases h
theorem Zyp {C:Cfg} {E:Env} {bs:List Nat} {a:Operand} {X:M β} {r:Out β×St} (h:stK C E bs a X s=some r):
  X s=some r∧∀i q,E.src C a= .v (.ptr (some (i,q)))→∀b∈bs,∃j q',E.get b= .v (.ptr (some (j,q')))∧j≠i:=by
 unfold stK at h;cases bs with
 |nil=>exact⟨h,fun _ _ _ b hb=>by cases hb⟩
 |cons b r=>
  simp only at h;cases he:E.src C a with
  |v d=>
   rw[he]at h;cases d with
   |ptr p=>
    obtain⟨h1,h2⟩:=ZlT h;refine⟨h1,fun i q e b' hb'=>?_⟩;cases e;exact h2 b' hb' i q rfl
   |_=>cases h
  |_=>rw[he]at h;cases h
theorem ZqL (hC:CfgOk C) {c:Zg} (hc:Zy C c) {ops:List Oper} (hmd:md= .s∨∃x k m,md= .d (setBs pr ops k m (cls C.P pr ops o)) x) {K:Env→M β} {r:Out β×St} (h:opK C pr ms md c o E K s=some r):
  Res C md pr ms o (Dof md E) (Wof md E) E s K r:=by
 have hWD: ∀h,Wof md E h→Dof md E h:=ZmA md E;unfold opK at h;cases ho:o.op with
 |move y=>rw[ho]at h;exact Zo2 (.inl ho) hWD h
 |assign y=>rw[ho]at h;exact Zo2 (.inr ho) hWD h
 |pick b y z=>rw[ho]at h;exact Zwa ho hWD h
 |alloc t=>rw[ho]at h;exact Zu4 ho hWD h
 |box t y=>rw[ho]at h;exact Zw5 ho hWD h
 |build t ps=>rw[ho]at h;exact ZuT ho hWD h
 |buildSlice t n ps=>rw[ho]at h;exact Znm ho hWD h
 |load t a=>
  rw[ho]at h;refine ZwK ho hWD ?_ ?_ h
  ·intro r v hm hv
   rcases hmd with rfl|⟨x,k,m,rfl⟩
   ·trivial
   ·rcases ZtI (P:=C.P) (pr:=pr) (ops:=ops) ho with e|⟨b,_,e⟩|⟨q,e⟩<;>rw[e]at hm⊢
    ·cases hm
    ·cases hm
    ·have:q=r:=Nat.eq_of_beq_eq_true hm
     subst this;exact⟨v,rfl,hv⟩
  ·intro hm i p0 hx
   rcases hmd with rfl|⟨x,k,m,rfl⟩
   ·trivial
   ·rcases ZtI (P:=C.P) (pr:=pr) (ops:=ops) ho with e|⟨b,hb,e⟩|⟨q,e⟩<;>rw[e]at hm⊢
    ·exact⟨i,rfl⟩
    ·rw[hb]at hx
     have hx:E.get b= .v (.ptr (some (i,p0))):=by
      unfold Env.src at hx;simp only at hx;cases hg:E.get b<;>rw[hg]at hx<;>first|exact hx|cases hx
     exact⟨i,p0,hx,rfl⟩
    ·cases hm
 |store t a y=>
  rw[ho]at h;simp only at h;obtain⟨hd,h⟩:=Zo h;obtain⟨h,hst⟩:=Zyp h;refine Zvk ho (by simpa using hd) hWD ?_ ?_ h
  ·intro r v hm hv
   rcases hmd with rfl|⟨x,k,m,rfl⟩
   ·trivial
   ·rcases Zq8 (P:=C.P) (pr:=pr) (ops:=ops) ho with e|e|⟨q,e⟩<;>rw[e]at hm⊢
    ·cases hm
    ·cases hm
    ·have:q=r:=Nat.eq_of_beq_eq_true hm
     subst this;exact⟨v,rfl,hv⟩
  ·intro hm i p hx
   rcases hmd with rfl|⟨x,k,m,rfl⟩
   ·trivial
   ·rcases Zq8 (P:=C.P) (pr:=pr) (ops:=ops) ho with e|e|⟨q,e⟩<;>rw[e]at hm hst⊢
    ·exact⟨i,rfl⟩
    ·exact⟨i,rfl,hst i p hx⟩
    ·cases hm
 |nilCheck y=>rw[ho]at h;exact ZpY ho hWD h
 |binOp op t y z u=>rw[ho]at h;exact ZwN hC ho hWD h
 |unOp op t y=>rw[ho]at h;exact ZyR ho hWD h
 |convert t u y=>
  rw[ho]at h;refine Zsy ho hWD (fun i=>?_) h;rcases hmd with rfl|⟨x,k,m,rfl⟩
  ·trivial
  ·have:cls C.P pr ops o= .hp:=by unfold cls;rw[ho]
   rw[this];exact⟨i,rfl⟩
 |makeInterface t y=>rw[ho]at h;exact ZuY ho hWD h
 |makeFunc f x y=>rw[ho]at h;exact Zv1 ho hWD h
 |makeSlice t x y=>rw[ho]at h;exact Zov ho hWD h
 |slice t y lo hi mx=>
  rw[ho]at h;cases mx with
  |some _=>cases h
  |none=>
   refine Zu8 ho hWD (fun⟨m,e,ht⟩ i=>?_) h;rcases hmd with rfl|⟨x,k,m,rfl⟩
   ·trivial
   ·have:cls C.P pr ops o= .hp:=by unfold cls;rw[ho];simp only[ht]
    rw[this];exact⟨i,rfl⟩
 |fieldAddr t y f=>rw[ho]at h;exact Zpb ho hWD h
 |field t y f=>rw[ho]at h;exact Zva ho hWD h
 |indexAddr t y i=>rw[ho]at h;exact Zn4 ho hWD h
 |index t y i=>rw[ho]at h;exact Zuw ho hWD h
 |range t y=>rw[ho]at h;exact Zu1 ho hWD h
 |next it b=>
  rw[ho]at h;cases it with
  |tmp t=>
   cases b with
   |true=>
    refine ZvY ho hWD (fun v hv=>?_) h;rcases hmd with rfl|⟨x,k,m,rfl⟩
    ·trivial
    ·have:cls C.P pr ops o= .wrL t:=by unfold cls;rw[ho]
     rw[this];exact⟨v,rfl,hv⟩
   |false=>cases h
  |_=>cases b<;>cases h
 |typeAssert y t u ok=>
  rw[ho]at h;cases ok with
  |true=>cases h
  |false=>
   refine ZtF hC ho hWD (fun i=>?_) h;rcases hmd with rfl|⟨x,k,m,rfl⟩
   ·trivial
   ·have:cls C.P pr ops o= .wr:=by unfold cls;rw[ho]
    rw[this];exact⟨i,rfl⟩
 |extract t i=>
  rw[ho]at h;cases t with
  |tmp t=>exact Zse ho hWD h
  |_=>cases h
 |panic y=>
  rw[ho]at h;refine ZuE ho (fun i=>?_) h;rcases hmd with rfl|⟨x,k,m,rfl⟩
  ·trivial
  ·have:cls C.P pr ops o= .wr:=by unfold cls;rw[ho]
   rw[this];exact⟨i,rfl⟩
 |call q=>
  rw[ho]at h;simp only at h;have wr: ∀b,q.callee= .builtin b→b≠ .len→b≠ .min→b≠ .max→b≠ .append→∀i,Wof md E (.inl i):=by
   intro b hq h1 h2 h3 h4 i;rcases hmd with rfl|⟨x,k,m,rfl⟩
   ·trivial
   ·have:cls C.P pr ops o= .wr:=by
     unfold cls;rw[ho];simp only[hq];cases b<;>first|rfl|exact absurd rfl h1|exact absurd rfl h2|exact absurd rfl h3|exact absurd rfl h4
    rw[this];exact⟨i,rfl⟩
  cases hq:q.callee with
  |value f=>
   rw[hq]at h;have hcl:cls C.P pr ops o= .ap []∨cls C.P pr ops o= .call:=by
    unfold cls;rw[ho];simp only[hq];cases has pr 1000000 with
    |true=>exact .inl rfl
    |false=>exact .inr rfl
   refine Zv6 hq ho hWD (fun i=>?_) (fun i=>?_) hc h
   ·rcases hmd with rfl|⟨x,k,m,rfl⟩
    ·trivial
    ·rcases hcl with this|this<;>rw[this]<;>exact⟨i,rfl⟩
   ·rcases hmd with rfl|⟨x,k,m,rfl⟩
    ·exact .inl trivial
    ·rcases hcl with this|this<;>rw[this]
     ·by_cases hb: ∀b∈(Md.d (setBs pr ops k m (.ap [])) x).bs,∃j p,E.get b= .v (.ptr (some (j,p)))∧j≠i
      ·exact .inl ⟨i,rfl,hb⟩
      ·refine .inr (.inr ?_)
       simp only[Classical.not_forall]at hb;obtain⟨b,hb1,hb2⟩:=hb;exact⟨b,hb1,fun j p e=>Classical.byContradiction fun hne=>hb2 ⟨j,p,e,hne⟩⟩
     ·rcases Nat.lt_or_ge x 2 with hx|hx
      ·exact .inl ⟨hx,i,rfl⟩
      ·exact .inr (.inl hx)
  |invoke f m=>rw[hq]at h;cases h
  |builtin b=>
   rw[hq]at h;cases b with
   |len=>exact Zxz hq rfl ho hWD h
   |append=>
    obtain⟨h,hap⟩:=Zyq h;have hc:cls C.P pr ops o= .ap []:=by unfold cls;rw[ho];simp only[hq]
    refine Zul hq ho hWD (fun i=>?_) (fun y z i p n hy he=>?_) h
    ·rcases hmd with rfl|⟨x,k,m,rfl⟩
     ·trivial
     ·rw[hc];exact⟨i,rfl⟩
    ·rcases hmd with rfl|⟨x,k,m,rfl⟩
     ·trivial
     ·rw[hc]at hap⊢
      exact⟨i,rfl,hap y z i p n hy he⟩
   |copy=>exact Zwu hq ho hWD (wr _ hq (by simp) (by simp) (by simp) (by simp)) h
   |min=>exact Zq3 (mx:=false) hq rfl ho hWD h
   |max=>exact Zq3 (mx:=true) hq rfl ho hWD h
   |clear=>exact ZuU hq ho hWD (wr _ hq (by simp) (by simp) (by simp) (by simp)) h
   |_=>cases h
 |_=>rw[ho]at h;cases h
end
end Go.Gv
