/- What an operation does, said of the machine and of the model: the frame of the proofs for the single operations. -/
import Derived.Test.YtegglibipjjblaaGreatDoorGvRel
import Derived.Laws.Strings
import Derived.Laws.Concat
import Derived.DeepKeys
import Derived.Laws.Slices
import Derived.Laws.BytesArg
import Derived.Laws.Tables
import Derived.Laws.MakeOwn
import Derived.Laws.Append
namespace Go.Gv
theorem CQ (k:Nat) (e:dx) (l:List (Nat×dx)) (t:Nat):look ((k,e)::l) t=if k=t then e else look l t:=by
 simp only[look];cases h:Nat.beq k t with
 |true=>rw[aG (cc h)];rfl
 |false=>rw[ax (zY h)];rfl
theorem Env.oD (E:Env) (t:Nat) (e:dx) (u:Nat):(E.put t e).get u=if t=u then e else E.get u:=CQ t e E.l u
theorem Env.WU (n:Nat) (t:Nat) (e:dx) (l:List (Nat×dx)) (u:Nat):(⟨n,(t,e)::l⟩:Env).get u=if t=u then e else look l u:=CQ t e l u
@[simp] theorem Env.VY (E : Env) (t : Nat) (e : dx) : (E.put t e).aZ = E.aZ := rfl
@[simp] theorem Env.BM (E : Env) (t : Option Nat) (e : dx) : (E.dN t e).aZ = E.aZ := by cases t <;> rfl
theorem Env.iQ (E:Env) (t:Option Nat) (e:dx) (u:Nat):(E.dN t e).get u=if t=some u then e else E.get u:=by
 cases t with
 |none=>simp[Env.dN]
 |some t=>simp only[Env.dN,Env.oD,cX]
theorem Db: ∀(l:List Nat) (t:Nat),has l t=true↔t∈l
 |[],t=>by simp[has]
 |k::r,t=>by
  simp only[has,jD,bX,Db r t];constructor
  ·rintro(h|h)
   ·exact .inl (cc h).symm
   ·exact .inr h
  ·rintro(h|h)
   ·exact .inl (by subst h;exact uo _)
   ·exact .inr h
theorem uI (E:Env) (ts:List Nat) (t:Nat):(E.del ts).get t=if has ts t then .u else E.get t:=by
 have key: ∀l:List (Nat×dx),look (Bf l ts) t=if has ts t then .u else look l t:=by
  intro l;induction l with
  |nil=>simp[Bf,look]
  |cons x r ih=>
   obtain⟨k,e⟩:=x;simp only[Bf];cases hk:has ts k with
   |true=>
    simp only[cond_true,ih,CQ];by_cases h:k=t
    ·subst h;simp[hk]
    ·simp[h]
   |false=>
    simp only[cond_false,CQ,ih];by_cases h:k=t
    ·subst h;simp[hk]
    ·simp[h]
 exact key E.l
@[simp] theorem abA (E : Env) (ts : List Nat) : (E.del ts).aZ = E.aZ := rfl
def cS (E:Env) (s:St):cB->Prop
 | .inl i=>i<s.length
 | .inr v=>v<E.aZ
def sQ (E:Env) (s:St) (E':Env) (s':St) (h:cB):Prop:=¬cS E s h/\cS E' s' h
theorem yp {s:St} {i:Nat} {ab:AB} (h:cq s i=some ab):i<s.length:=by
 rcases eM i s.length with h'|h'
 ·exact h'
 ·simp[cq,dT h']at h
theorem CR.nB {E:Env} {s:St} (hE:gW E) {h:cB} {ab:AB} (c:CR E s h ab):cS E s h:=by
 cases h with
 |inl i=>exact yp c
 |inr v=>
  rcases c with⟨t,n,cs,e,_⟩|⟨t,l,p,e,_⟩
  ·exact hE.lt t v (by rw[e];rfl)
  ·exact hE.lt t v (by rw[e];rfl)
theorem He {s:St} {x:St} {i:Nat} (h:i<s.length):cq (s++x) i=cq s i:=by
 simp only[cq,iL h]
theorem MA (s:St) (b:bq):cq (s++[some b]) s.length=some (.cells b.jc b.cells):=by
 simp[cq]
def Spec (pr:List Nat) (o:Oper):Prop:=
 match o.op with
 | .store .. | .next .. | .range .. =>True
 | .alloc _| .box _ _=>∃d,o.dst=some d/\has pr d=true
 |_=>False
def pA (o:Oper):Prop:=
 match o.op with
 | .alloc _| .box .. | .buildSlice .. | .makeSlice .. | .convert .. =>True
 | .call q=>match q.callee with
  | .value _| .builtin .append=>True
  |_=>False
 |_=>False
structure j7 (W:cB->Prop) (pr ms:List Nat) (o:Oper) (E:Env) (s:St) (E':Env) (s':St):Prop where
 len:s.length<=s'.length
 aZ:E.aZ<=E'.aZ
 fA:gW E->gW E'
 other: ∀t,o.dst≠some t->has ms t=false->E'.get t=E.get t
 val: ∀t d,o.dst≠some t->E'.get t= .v d->E.get t= .v d
 bI: ∀t,o.dst≠some t->∀(C:aP) ψ x,eB C ψ (E.get t) x->eB C ψ (E'.get t) x
 back: ∀h ab,CR E' s' h ab->W h\/sQ E s E' s' h\/CR E s h ab
 sG: ∀t v n cs,E'.get t= .loc v n cs->(∃kd,E.get t= .loc v n kd)\/(E.aZ<=v/\o.dst=some t)
 uf: ∀t v l p,E'.get t= .it v l p->(∃p0,E.get t= .it v l p0)\/(E.aZ<=v/\o.dst=some t)
 Wd: ∀i,¬W (.inl i)->i<s.length->s'[i]? =s[i]?
 plain:(∃e:dx,e.bY=none/\E'=E.dN o.dst e)\/Spec pr o
 grow:s'.length=s.length\/pA o
structure ar (C:aP) (o:Oper) (D:cB->Prop) (E:Env) (s:St) (ψ:Ps) (Q:Kn) (a:Act) (w:World):Prop where
 dH:dU C ψ Q w
 fh:oi ψ w
 jd:Glob C ψ
 fA:gW E
 il: ∀h ab cb,D h->CR E s h ab->ψ h=some cb->Q h ab
 args: ∀t,.tmp t∈o.op.operands->eB C ψ (E.get t) (a.tmps.getD t undef)
def FK (E:Env) (s:St) (E':Env) (s':St) (ψ:Ps):Prop:=∀h,sQ E s E' s' h->ψ h=none
structure FI (C:aP) (D W:cB->Prop) (E:Env) (s:St) (E':Env) (s':St) (ψ:Ps) (Q:Kn) (w:World) (ψ':Ps) (Q':Kn) (w':World):Prop where
 dH:dU C ψ' Q' w'
 ext:Ext ψ Q w ψ' Q' w'
 news: ∀h cb,ψ' h=some cb->ψ h=some cb\/sQ E s E' s' h
 p1: ∀h ab cb,CR E' s' h ab->(W h\/sQ E s E' s' h)->ψ' h=some cb->Q' h ab
 p2: ∀h ab cb,ψ h=some cb->Q h ab->¬W h->(D h->cS E s h->CR E s h ab)->Q' h ab
def ya (C:aP) (o:Oper) (D W:cB->Prop) (E:Env) (s:St) (E':Env) (s':St):Prop:=
 ∀(ψ:Ps) (Q:Kn) (a:Act) (w:World) (next:Act->World->Prop) (QQ:Exit->Act->World->Prop),ar C o D E s ψ Q a w->FK E s E' s' ψ->
  (∀ψ' Q' v w',FI C D W E s E' s' ψ Q w ψ' Q' w'->(∀d,o.dst=some d->eB C ψ' (E'.get d) v)->next (a.put o.dst v) w')->o.wp C.P a w next QQ
def l8 (ch:List PanicEntry):Prop:=∃t v,ch=[{ v:= .iface t v,recovered:=false }]
def sR (C:aP) (o:Oper) (D:cB->Prop) (E:Env) (s s':St):Prop:=
 s.length<=s'.length/\
 ∀(ψ:Ps) (Q:Kn) (a:Act) (w:World) (next:Act->World->Prop) (QQ:Exit->Act->World->Prop),ar C o D E s ψ Q a w->FK E s E s' ψ->
  (∀ψ' Q' ch w',l8 ch->dU C ψ' Q' w'->Ext ψ Q w ψ' Q' w'->(∀h cb,ψ' h=some cb->ψ h=some cb\/sQ E s E s' h)->
   (∀i ab cb,cq s' i=some ab->ψ' (.inl i)=some cb->Q' (.inl i) ab)->QQ (.panic ch) a w')->o.wp C.P a w next QQ
def br {β:Type} (C:aP) (md:Md) (pr ms:List Nat) (o:Oper) (D W:cB->Prop) (E:Env) (s:St) (K:Env->M β) (r:Out β×St):Prop:=
 (∃E' s',K E' s'=some r/\j7 W pr ms o E s E' s'/\ya C o D W E s E' s')\/(md.x=0/\∃s',r=(.cC,s')/\sR C o D E s s')
theorem ZrS {C:aP} {ψ:Ps} {v:Value} {d:DV} (h:xF v=some d):VR C ψ d v:=by
 unfold xF at h;split at h<;>first|(cases h;done)|(injection h with h;subst h)
 ·exact .bool _
 ·exact .int _ _
 ·exact .str _
 ·exact .EP
 ·exact .oU _
 ·exact .nilFunc
 ·exact .nilIface
theorem Zy2 {v:Value} {d:DV} (h:xF v=some d):one d=true:=by
 unfold xF at h;split at h<;>first|(cases h;done)|(injection h with h;subst h;rfl)
theorem As {C:aP} {ψ:Ps} : ∀ {vs:List Value} {ds:List DV},De vs=some ds->aS C ψ ds vs/\ds.all one=true
 |[],ds,h=>by simp only[De,cX]at h;subst h;exact⟨.nil,rfl⟩
 |v::vs,ds,h=>by
  simp only[De]at h;split at h
  ·rename_i d ja h1 h2
   injection h with h;subst h
   obtain⟨a,b⟩:=As (C:=C) (ψ:=ψ) h2;exact⟨.cons _ _ _ _ (ZrS h1) a,by simp[Zy2 h1,b]⟩
  ·cases h
section
variable {C:aP} {o:Oper} {D:cB->Prop} {E:Env} {s:St} {ψ:Ps} {Q:Kn} {a:Act} {w:World}
theorem ar.src (p:ar C o D E s ψ Q a w) {x:Operand} (hx:x∈o.op.operands):eB C ψ (E.src C x) (a.eval x):=by
 cases x with
 |tmp t=>
  have h:=p.args t hx;simp only[Env.src,Act.eval];cases he:E.get t with
  |loc v n cs=>
   rw[he]at h;obtain⟨cb,h1,h2,h3⟩:=h;exact⟨cb,h1,h2,h3⟩
  |it v l q=>exact trivial
  |u=>exact trivial
  |un=>rw[he]at h;exact h
  |v d=>rw[he]at h;exact h
  |mY ds=>rw[he]at h;exact h
  |pl r v n=>rw[he]at h;exact h
 |const v=>
  simp only[Env.src,Act.eval];split
  ·exact ZrS (by assumption)
  ·exact trivial
 |global g=>
  simp only[Env.src,Act.eval];cases hg:C.wL g with
  |false=>exact trivial
  |true=>
   obtain⟨cb,h1,h2,h3⟩:=p.jd g hg;have:=VR.ptr (C:=C) (ψ:=ψ) (C.gl g) 0 cb h1;rw[h2,h3]at this;exact this
 |func f=>
  simp only[Env.src,Act.eval];cases hg:C.cov f with
  |false=>exact trivial
  |true=>exact VR.func f [] [] #[] #[] hg .nil .nil
theorem ar.val (p:ar C o D E s ψ Q a w) {x:Operand} (hx:x∈o.op.operands) {d:DV} (h:E.src C x= .v d):VR C ψ d (a.eval x):=by
 have:=p.src hx;rw[h]at this;exact this
theorem Env.E9 (C:aP) (E:Env) (x:Operand):(E.src C x).bY=none:=by
 cases x with
 |tmp t=>simp only[Env.src];cases E.get t<;>rfl
 |const v=>simp only[Env.src];cases xF v<;>rfl
 |global g=>simp only[Env.src];cases C.wL g<;>rfl
 |func f=>simp only[Env.src];cases C.cov f<;>rfl
theorem Env.zB (C:aP) {E:Env} (hE:gW E) {x:Operand} {r v n:Nat} (h:E.src C x= .pl r v n):v<E.aZ:=by
 cases x with
 |tmp t=>
  simp only[Env.src]at h;cases he:E.get t with
  |loc v' m cs=>
   rw[he]at h;simp only[dx.pl.injEq]at h;obtain⟨_,rfl,_⟩:=h;exact hE.lt t v' (by rw[he];rfl)
  |pl r' v' n'=>
   rw[he]at h;simp only[dx.pl.injEq]at h;obtain⟨_,rfl,_⟩:=h;exact hE.pl t _ _ _ he
  |_=>rw[he]at h;cases h
 |const v=>simp only[Env.src]at h;cases hv:xF v<;>rw[hv]at h<;>cases h
 |global g=>simp only[Env.src]at h;cases hv:C.wL g<;>rw[hv]at h<;>cases h
 |func f=>simp only[Env.src]at h;cases hv:C.cov f<;>rw[hv]at h<;>cases h
end
theorem gW.dN {E:Env} (hE:gW E) {t:Option Nat} {e:dx} (hv:e.bY=none) (hp: ∀r v n,e= .pl r v n->v<E.aZ):gW (E.dN t e):=by
 constructor
 ·intro u v h
  rw[Env.iQ]at h;rw[Env.BM];split at h
  ·rw[hv]at h;cases h
  ·exact hE.lt u v h
 ·intro u r v n h
  rw[Env.iQ]at h;rw[Env.BM];split at h
  ·exact hp r v n h
  ·exact hE.pl u r v n h
 ·intro u v n cs h
  rw[Env.iQ]at h;split at h
  ·rw[h]at hv;cases hv
  ·exact hE.len u v n cs h
 ·intro u u' v h h'
  rw[Env.iQ]at h h';split at h
  ·rw[hv]at h;cases h
  ·split at h'
   ·rw[hv]at h';cases h'
   ·exact hE.uniq u u' v h h'
theorem CR.dN {E:Env} {t:Option Nat} {e:dx} {s:St} {h:cB} {ab:AB} (hv:e.bY=none) (c:CR (E.dN t e) s h ab):CR E s h ab:=by
 cases h with
 |inl i=>exact c
 |inr v=>
  rcases c with⟨u,n,cs,h,dc⟩|⟨u,l,p,h,dc⟩
  ·rw[Env.iQ]at h
   split at h
   ·rw[h]at hv;cases hv
   ·exact .inl ⟨u,n,cs,h,dc⟩
  ·rw[Env.iQ]at h
   split at h
   ·rw[h]at hv;cases hv
   ·exact .inr ⟨u,l,p,h,dc⟩
section
variable {C:aP} {o:Oper} {D W:cB->Prop} {E:Env} {s:St}
theorem j7.put (pr ms:List Nat) (e:dx) (hv:e.bY=none) (hp:gW E->∀r v n,e= .pl r v n->v<E.aZ) {s':St} (hl:s.length<=s'.length)
  (hs: ∀i ab,cq s' i=some ab->W (.inl i)\/s.length<=i\/cq s i=some ab) (hf: ∀i,¬W (.inl i)->i<s.length->s'[i]? =s[i]?) (hg:s'.length=s.length\/pA o):j7 W pr ms o E s (E.dN o.dst e) s' where
 len:=hl
 aZ:=by simp
 fA:=fun hE=>hE.dN hv (hp hE)
 other:=fun t h _=>by rw[Env.iQ,ax h]
 val:=fun t d h e=>by rw[Env.iQ,ax h]at e;exact e
 bI:=fun t h C ψ x r=>by rw[Env.iQ,ax h];exact r
 back:=fun h ab c=>by
  cases h with
  |inl i=>
   have c':cq s' i=some ab:=c;rcases hs i ab c' with h|h|h
   ·exact .inl h
   ·exact .inr (.inl ⟨ur.2 h,yp c'⟩)
   ·exact .inr (.inr h)
  |inr v=>
   have c':CR (E.dN o.dst e) s (.inr v) ab:=c;exact .inr (.inr (c'.dN hv))
 sG:=fun t v n cs h=>by
  rw[Env.iQ]at h;split at h
  ·rw[h]at hv;cases hv
  ·exact .inl ⟨cs,h⟩
 uf:=fun t v l p h=>by
  rw[Env.iQ]at h;split at h
  ·rw[h]at hv;cases hv
  ·exact .inl ⟨p,h⟩
 Wd:=hf
 plain:= .inl ⟨e,hv,rfl⟩
 grow:=hg
theorem j7.Tm (pr ms:List Nat) (e:dx) (hv:e.bY=none) (hp:gW E->∀r v n,e= .pl r v n->v<E.aZ):j7 W pr ms o E s (E.dN o.dst e) s:=
 j7.put pr ms e hv hp (ay _) (fun _ _ h=> .inr (.inr h)) (fun _ _ _=>rfl) (.inl rfl)
theorem ya.pure (aJ: ∀h,W h->D h) (e:dx) (hv:e.bY=none)
  (cH: ∀ψ Q a w,ar C o D E s ψ Q a w->∃v w',(execOp a.eval o).run C.P w= .ok (.value v) w'/\fF w w'/\eB C ψ e v):ya C o D W E s (E.dN o.dst e) s:=by
 intro ψ Q a w next QQ p _ hn;obtain⟨v,w',hr,hm,cQ⟩:=cH ψ Q a w p;unfold Oper.wp;rw[hr];refine hn ψ Q v w' ⟨p.dH.more p.fh hm,Ext.more hm,fun h cb e=> .inl e,fun h ab cb c hw e=>?_,fun h ab cb e q _ _=>q⟩ (fun d hd=>?_)
 ·rcases hw with hw|⟨h1,h2⟩
  ·exact p.il h ab cb (aJ h hw) (c.dN hv) e
  ·exact absurd (by cases h<;>simpa [cS]using h2) h1
 ·rw[Env.iQ,aG hd];exact cQ
theorem br.pure {β:Type} {md:Md} {pr ms:List Nat} (aJ: ∀h,W h->D h) {K:Env->M β} {r:Out β×St} (e:dx) (hv:e.bY=none) (hp:gW E->∀r v n,e= .pl r v n->v<E.aZ)
  (hk:K (E.dN o.dst e) s=some r)
  (cH: ∀ψ Q a w,ar C o D E s ψ Q a w->∃v w',(execOp a.eval o).run C.P w= .ok (.value v) w'/\fF w w'/\eB C ψ e v):br C md pr ms o D W E s K r:=
 .inl ⟨_,_,hk,j7.Tm pr ms e hv hp,ya.pure aJ e hv cH⟩
theorem br.val {β:Type} {md:Md} {pr ms:List Nat} (aJ: ∀h,W h->D h) {K:Env->M β} {r:Out β×St} (d:DV)
  (hk:dC E o K d s=some r)
  (cH: ∀ψ Q a w,ar C o D E s ψ Q a w->∃v w',(execOp a.eval o).run C.P w= .ok (.value v) w'/\fF w w'/\VR C ψ d v):br C md pr ms o D W E s K r:=
 br.pure aJ (.v d) rfl (fun _ _ _ _ h=>by cases h) hk cH
theorem br.EI {β:Type} {md:Md} {pr ms:List Nat} (bz:pA o) (aJ: ∀h,W h->D h) {K:Env->M β} {r:Out β×St} (d:DV) (cells:List DV)
  (hk:dC E o K d (s++[some ⟨false,cells⟩])=some r)
  (cH: ∀ψ Q a w,ar C o D E s ψ Q a w->∃v w' cb,(execOp a.eval o).run C.P w= .ok (.value v) w'/\fF w w'/\w.heap.size<=cb.b/\cb.b<w'.heap.size/\
   Holds C ψ w' cb (.cells false cells)/\(∀ψ',(∀h c,ψ h=some c->ψ' h=some c)->ψ' (.inl s.length)=some cb->VR C ψ' d v)):br C md pr ms o D W E s K r:=by
 refine .inl ⟨_,_,hk,j7.put pr ms (.v d) rfl (fun _ _ _ _ h=>by cases h) (by simp) (fun i ab h=>?_) (fun _ i hi=>iL hi) (.inr bz),?_⟩
 ·rcases eM i s.length with hi|hi
  ·rw[He hi]at h;exact .inr (.inr h)
  ·exact .inr (.inl hi)
 ·intro ψ Q a w next QQ p room hn
  obtain⟨v,w',cb,hr,hm,h1,h2,hh,cQ⟩:=cH ψ Q a w p;have fS:sQ E s (E.dN o.dst (.v d)) (s++[some ⟨false,cells⟩]) (.inl s.length):=⟨by simp[cS],by simp[cS]⟩;have hf:=room _ fS;unfold Oper.wp;rw[hr];refine hn _ _ v w' ⟨dU.new (cb:=cb) (ab:= .cells false cells) p.dH p.fh hm hf h1 (hh.same (fun _ _ e=>rQ hf _ _ e) rfl),Ext.new hm hf h1 h2,fun h c e=>?_,fun h ab c cr hw e=>?_,fun h ab c e q _ _=>?_⟩ (fun d' hd=>?_)
  ·by_cases eh:h= .inl s.length
   ·subst eh;exact .inr fS
   ·rw[mc _ _ eh]at e;exact .inl e
  ·by_cases eh:h= .inl s.length
   ·subst eh
    have mg:cq (s++[some ⟨false,cells⟩]) s.length=some ab:=cr;rw[MA]at mg;cases mg;exact .inl ⟨rfl,rfl⟩
   ·refine .inr ⟨eh,?_⟩
    rw[mc _ _ eh]at e;rcases hw with hw|⟨n1,n2⟩
    ·refine p.il h ab c (aJ h hw) ?_ e
     cases h with
     |inl i=>
      have mg:cq (s++[some ⟨false,cells⟩]) i=some ab:=cr;have:=yp mg;simp only[bg,rG]at this
      rwa [He (by have:i≠s.length:=fun e=>eh (by rw[e]);omega)]at mg
     |inr x=>
      have mg:CR (E.dN o.dst (.v d)) s (.inr x) ab:=cr;exact mg.dN rfl
    ·cases h with
     |inl i=>
      simp only[cS,bg,rG]at n1 n2;exact absurd (by rw[show i=s.length by omega]) eh
     |inr x=>simp only[cS,Env.BM]at n1 n2;exact absurd n2 n1
  ·refine .inr ⟨fun eh=>?_,q⟩
   subst eh;rw[hf]at e;cases e
  ·rw[Env.iQ,aG hd]
   exact cQ _ (rQ hf) (nk _ _ _)
end
end Go.Gv
namespace Go.Gv
variable {β:Type}
theorem Zs {C:aP} {E:Env} {x:Operand} {K:DV->M β} {s:St} {r:Out β×St} (h:dZ C E x K s=some r): ∃d,E.src C x= .v d/\K d s=some r:=by
 unfold dZ at h;cases he:E.src C x<;>rw[he]at h<;>first|exact⟨_,rfl,h⟩|cases h
theorem Av {C:aP} {E:Env} {x:Operand} {K:Int->M β} {s:St} {r:Out β×St} (h:xy C E x K s=some r): ∃k n,E.src C x= .v (.int k n)/\K n s=some r:=by
 obtain⟨d,h1,h2⟩:=Zs h;split at h2
 ·exact⟨_,_,h1,h2⟩
 ·cases h2
theorem Ol {C:aP} {E:Env} {x:Operand} {K:Bool->M β} {s:St} {r:Out β×St} (h:QI C E x K s=some r): ∃b,E.src C x= .v (.bool b)/\K b s=some r:=by
 obtain⟨d,h1,h2⟩:=Zs h;split at h2
 ·exact⟨_,h1,h2⟩
 ·cases h2
theorem P3 {a:Option (Nat×Nat)} {K:Nat->Nat->M β} {s:St} {r:Out β×St} (h:M.nn a K s=some r): ∃i o,a=some (i,o)/\K i o s=some r:=by
 unfold M.nn at h;split at h
 ·exact⟨_,_,rfl,h⟩
 ·cases h
theorem CI {C:aP} {E:Env} {x:Operand} {KL:Nat->Nat->Nat->M β} {KH:Nat->Nat->M β} {s:St} {r:Out β×St} (h:yA C E x KL KH s=some r):
  (∃t v o,E.src C x= .pl t v o/\KL t v o s=some r)\/(∃i o,E.src C x= .v (.ptr (some (i,o)))/\KH i o s=some r):=by
 unfold yA at h;cases he:E.src C x with
 |pl t v o=>rw[he]at h;exact .inl ⟨_,_,_,rfl,h⟩
 |v d=>
  rw[he]at h;cases d with
  |ptr a=>
   obtain⟨i,o,rfl,h⟩:=P3 h;exact .inr ⟨i,o,rfl,h⟩
  |_=>cases h
 |_=>rw[he]at h;cases h
theorem ZP {b:Bool} {K:M β} {s:St} {r:Out β×St} (h:M.ak b K s=some r):b=true/\K s=some r:=by
 cases b with
 |true=>exact⟨rfl,h⟩
 |false=>cases h
theorem Zp {b:Bool} {x:M β} {s:St} {r:Out β×St} (h:(bif b then x else fail) s=some r):b=true/\x s=some r:=by
 cases b with
 |true=>exact⟨rfl,h⟩
 |false=>cases h
theorem CC {b:Bool} {x:M β} {s:St} {r:Out β×St} (h:(bif b then fail else x) s=some r):b=false/\x s=some r:=by
 cases b with
 |false=>exact⟨rfl,h⟩
 |true=>cases h
theorem mC {P:Program} {t:TypeId} {K:M β} {s:St} {r:Out β×St} (h:nY P t K s=some r): ∃d,P.underlying t=some d/\K s=some r:=by
 unfold nY at h;cases he:P.underlying t<;>rw[he]at h<;>first|exact⟨_,rfl,h⟩|cases h
theorem Jr {cs:List DV} {i:Nat} {K:DV->M β} {s:St} {r:Out β×St} (h:D.nth cs i K s=some r): ∃d,cs[i]? =some d/\K d s=some r:=by
 unfold D.nth at h;cases he:cs[i]? <;>rw[he]at h<;>first|exact⟨_,rfl,h⟩|cases h
theorem Pk {cs:List DV} {n:Nat} {K:M β} {s:St} {r:Out β×St} (h:D.len cs n K s=some r):cs.length=n/\K s=some r:=by
 unfold D.len at h;obtain⟨h1,h2⟩:=Zp h;exact⟨cc h1,h2⟩
theorem Zn4 {E:Env} {t v:Nat} {K:Nat->List DV->M β} {s:St} {r:Out β×St} (h:JM E t v K s=some r): ∃n cs,E.get t= .loc v n cs/\K n cs s=some r:=by
 unfold JM at h;cases he:E.get t with
 |loc v' n cs=>
  rw[he]at h;obtain⟨h1,h2⟩:=Zp h;have:=cc h1;subst this;exact⟨n,cs,rfl,h2⟩
 |_=>rw[he]at h;cases h
theorem C5 {k k':IntKind} (h:qb k k'=true):k=k':=by cases k<;>cases k'<;>first|rfl|(simp[qb]at h)
theorem JH {x:B} {d:DV} {K:DV->M β} {s:St} {r:Out β×St} (h:d1 x d K s=some r):
  ∃d',K d' s=some r/\(∀(C:aP) ψ v,VR C ψ d v->VR C ψ d' v)/\(one d=true->one d'=true):=by
 unfold d1 at h;split at h
 ·unfold D.bool at h;split at h
  ·exact⟨_,h,fun _ _ _ h=>h,fun h=>h⟩
  ·cases h
 ·unfold D.int at h;split at h
  ·obtain⟨h1,h2⟩:=Zp h
   have:=C5 h1;subst this;exact⟨_,h2,fun _ _ _ h=>h,fun h=>h⟩
  ·cases h
 ·unfold D.str at h;split at h
  ·exact⟨_,h,fun _ _ _ h=>h,fun h=>h⟩
  ·cases h
 ·unfold D.ptr at h;split at h
  ·exact⟨_,h,fun _ _ _ h=>h,fun h=>h⟩
  ·cases h
 ·unfold D.slice at h;split at h
  ·rename_i z a n
   obtain⟨h1,h2⟩:=Zp h;refine⟨_,h2,fun C ψ v hv=>?_,fun _=>rfl⟩;simp only[jD]at h1;rcases h1 with h1|h1
   ·have:=cc h1;subst this;exact hv
   ·cases a with
    |none=>cases hv;exact .oU _
    |some _=>cases h1
  ·cases h
 ·unfold D.func at h;split at h
  ·exact⟨_,h,fun _ _ _ h=>h,fun h=>h⟩
  ·cases h
 ·exact⟨_,h,fun _ _ _ h=>h,fun h=>h⟩
 ·cases h
theorem Cw: ∀ {l:List B} {cs:List DV} {K:List DV->M β} {s:St} {r:Out β×St},lx l cs K s=some r->
  ∃ds,K ds s=some r/\ds.length=cs.length/\(∀(C:aP) ψ vs,aS C ψ cs vs->aS C ψ ds vs)/\(cs.all one=true->ds.all one=true)
 |[],cs,K,s,r,h=>by
  simp only[lx]at h;cases cs with
  |nil=>exact⟨[],h,rfl,fun _ _ _ h=>h,fun h=>h⟩
  |cons _ _=>cases h
 |x::l,cs,K,s,r,h=>by
  have gen: ∀ {x:B},(D.cons cs fun d rest=>d1 x d fun d'=>lx l rest fun ds=>K (d'::ds)) s=some r->
    ∃ds,K ds s=some r/\ds.length=cs.length/\(∀(C:aP) ψ vs,aS C ψ cs vs->aS C ψ ds vs)/\(cs.all one=true->ds.all one=true):=by
   intro x h;cases cs with
   |nil=>cases h
   |cons d rest=>
    simp only[D.cons]at h;obtain⟨d',h,hd,h1⟩:=JH h;obtain⟨ds,h,hl,hr,h2⟩:=Cw h;refine⟨_,h,by simp[hl],fun C ψ vs hv=>?_,fun ho=>?_⟩
    ·cases hv with
     |cons _ v _ vs a b=>exact .cons _ _ _ _ (hd C ψ v a) (hr C ψ vs b)
    ·simp only[sJ,aH]at ho⊢
     exact⟨h1 ho.1,h2 ho.2⟩
  have dV: ∀ {n:Nat} ,(D.dV n cs fun xs rest=>lx l rest fun ds=>K (xs++ds)) s=some r->
    ∃ds,K ds s=some r/\ds.length=cs.length/\(∀(C:aP) ψ vs,aS C ψ cs vs->aS C ψ ds vs)/\(cs.all one=true->ds.all one=true):=by
   intro n h;unfold D.dV at h;obtain⟨h1,h⟩:=Zp h;have h1:=lW h1;obtain⟨ds,h,hl,hr,h2⟩:=Cw h;refine⟨_,h,by simp[hl];omega,fun C ψ vs hv=>?_,fun ho=>?_⟩
   ·have e:vs=vs.take n++vs.drop n:=(lj n vs).symm
    rw[e];exact(hv.take n).append (hr C ψ _ (hv.drop n))
   ·rw[rF,aH]
    have yV: ∀x∈cs,one x=true:=gv.1 ho;exact⟨gv.2 fun x hx=>yV x (sL hx),h2 (gv.2 fun x hx=>yV x (sK hx))⟩
  cases x with
  |dV n=>
   cases l with
   |nil=>
    simp only[lx]at h;obtain⟨hl,h⟩:=Pk h;exact⟨cs,h,rfl,fun _ _ _ h=>h,fun h=>h⟩
   |cons y l=>simp only[lx]at h;exact dV h
  |bool=>simp only[lx]at h;exact gen h
  |int k=>simp only[lx]at h;exact gen h
  |str=>simp only[lx]at h;exact gen h
  |ptr=>simp only[lx]at h;exact gen h
  |slice sz=>simp only[lx]at h;exact gen h
  |func=>simp only[lx]at h;exact gen h
  |any=>simp only[lx]at h;exact gen h
theorem Jl {x:Sh} {d:DV} {K:DV->M β} {s:St} {r:Out β×St} (h:uU x d K s=some r):
  ∃d',K d' s=some r/\(∀(C:aP) ψ v,VR C ψ d v->VR C ψ d' v)/\(one d=true->one d'=true):=by
 cases x with
 |b x=>exact JH h
 |agg l=>
  simp only[uU,D.agg]at h;split at h
  ·obtain⟨ds,h,hl,hr,h2⟩:=Cw h
   refine⟨_,h,fun C ψ v hv=>?_,fun h=>by cases h⟩;cases hv with
   |agg _ vs a b=>exact .agg _ _ (hr C ψ _ a) (h2 b)
  ·cases h
theorem CH: ∀ {l:List Sh} {cs:List DV} {K:List DV->M β} {s:St} {r:Out β×St},wJ l cs K s=some r->
  ∃ds,K ds s=some r/\ds.length=cs.length/\ds.length=l.length/\(∀(C:aP) ψ vs,aS C ψ cs vs->aS C ψ ds vs)
 |[],cs,K,s,r,h=>by
  simp only[wJ]at h;cases cs with
  |nil=>exact⟨[],h,rfl,rfl,fun _ _ _ h=>h⟩
  |cons _ _=>cases h
 |x::l,cs,K,s,r,h=>by
  simp only[wJ]at h;cases cs with
  |nil=>cases h
  |cons d rest=>
   simp only[D.cons]at h;obtain⟨d',h,hd,_⟩:=Jl h;obtain⟨ds,h,hl,kh,hr⟩:=CH h;refine⟨_,h,by simp[hl],by simp[kh],fun C ψ vs hv=>?_⟩;cases hv with
   |cons _ v _ vs a b=>exact .cons _ _ _ _ (hd C ψ v a) (hr C ψ vs b)
inductive SV (C:aP) (E:Env):List Operand->List DV->Prop
 |nil:SV C E [] []
 |cons {x:Operand} {d:DV} {l:List Operand} {ds:List DV} :E.src C x= .v d->SV C E l ds->SV C E (x::l) (d::ds)
theorem CG {C:aP} {E:Env} : ∀ {l:List Operand} {K:List DV->M β} {s:St} {r:Out β×St},vO C E l K s=some r->
  ∃ds,K ds s=some r/\SV C E l ds
 |[],K,s,r,h=>⟨[],h,.nil⟩
 |x::l,K,s,r,h=>by
  simp only[vO]at h;obtain⟨d,h1,h⟩:=Zs h;obtain⟨ds,h,h2⟩:=CG h;exact⟨_,h,.cons h1 h2⟩
theorem C0 {C:aP} {o:Oper} {D:cB->Prop} {E:Env} {s:St} {ψ:Ps} {Q:Kn} {a:Act} {w:World} (p:ar C o D E s ψ Q a w):
  ∀ {l:List Operand} {ds:List DV},(∀x∈l,x∈o.op.operands)->SV C E l ds->aS C ψ ds (l.map a.eval)
 |[],_,_,.nil=> .nil
 |x::l,_,hm,.cons h1 h2=> .cons _ _ _ _ (p.val (hm x (by simp)) h1) (C0 p (fun y hy=>hm y (by simp[hy])) h2)
theorem ZmW {P:Program} {t:TypeId} {d:TypeDesc} (h:P.underlying t=some d): ∃i,P.info? t=some i/\i.size=P.cellsOf t:=by
 unfold Program.underlying at h;unfold Program.cellsOf;cases hi:P.info? t with
 |none=>rw[hi]at h;cases h
 |some i=>exact⟨i,rfl,by simp⟩
theorem Zj {P:Program} {t:TypeId} {d:TypeDesc} (w:World) (h:P.underlying t=some d):(underlying t).run P w= .ok d w:=by
 simp[underlying,h]
theorem ZQ {P:Program} {t:TypeId} {d:TypeDesc} (w:World) (h:P.underlying t=some d):(sizeOf t).run P w= .ok (P.cellsOf t) w:=by
 obtain⟨i,h1,h2⟩:=ZmW h;simp[sizeOf,typeInfo,h1,h2]
theorem CF {P:Program} {t:TypeId} {d:TypeDesc} (w:World) (h:P.underlying t=some d):(isAgg t).run P w= .ok (ZL P t) w:=by
 simp only[isAgg,Sem.run_bind,Zj w h,Result.andThen_ok,ZL,h];cases d<;>rfl
theorem Ox {P:Program} {t:TypeId} {z:List DV} (w:World) (h:kE P t=some z): ∃v,(zeroValue t).run P w= .ok v w/\(∀(C:aP) ψ,aS C ψ z v.cells.toList)/\z.all one=true:=by
 unfold kE at h;split at h
 ·rename_i i hi
  split at h
  ·rename_i v hv
   refine⟨v,by simp[zeroValue,typeInfo,hi,hv],fun C ψ=>(As h).1,?_⟩;exact(As (C:=⟨P,id,fun _=>true,id,id,fun _=>true,fun _=>[],fun _=>false⟩) (ψ:=fun _=>none) h).2
  ·cases h
 ·cases h
theorem Zsa {C:aP} {ψ:Ps} {w:World} {b:Nat} {c:Array Value} {ty:TypeId} {fr:Nat×Nat} {cells:List DV} (hb:w.heap[b]? =some (.cells c ty fr)) (hf:fr=(0,0)\/c.size<=fr.1)
  (hr:aS C ψ cells (c.toList.take cells.length)) (ho:cells.all one=true):Holds C ψ w ⟨b,0,c.size⟩ (.cells false cells):=by
 have hl:cells.length<=c.size:=by
  have:=hr.len;simp only[bW,jC]at this;omega
 refine⟨hl,ho,fun j d hd=>?_,fun _=>⟨c,ty,fr,hb,by simp,fun j hj=>?_⟩⟩
 ·obtain⟨v,hv,jj⟩:=hr.get hd
  refine⟨v,?_,jj⟩;rw[lg]at hv;split at hv
  ·rw[cell_of_row w b _ c ty fr hb];simpa using hv
  ·cases hv
 ·rcases hf with hf|hf
  ·subst hf;simp
  ·simp only at hj
   have:decide (fr.1<=0+j)=false:=by simp;omega
   rw[this];rfl
theorem ZzF (a:Act) (t:Nat):a.eval (.tmp t)=a.tmps.getD t undef:=rfl
end Go.Gv
namespace Go.Gv
variable {β:Type}
section
variable {C:aP} {o:Oper} {D W:cB->Prop} {E:Env} {s:St} {md:Md} {pr ms:List Nat}
theorem br.VV (eR:Spec pr o) (aJ: ∀h,W h->D h) {K:Env->M β} {r:Out β×St} (t:Nat) (ht:o.dst=some t) (e:dx) (ab:AB)
  (he:(∃n cells,e= .loc E.aZ n cells/\ab= .cells false cells/\cells.length=n)\/(∃l p,e= .it E.aZ l p/\ab= .iter l p))
  (hk:K ⟨E.aZ+1,(t,e)::E.l⟩ s=some r)
  (cH: ∀ψ Q a w,ar C o D E s ψ Q a w->∃w' cb,(execOp a.eval o).run C.P w= .ok (.value (.pointer (some ⟨cb.b,0,none⟩))) w'/\fF w w'/\w.heap.size<=cb.b/\cb.b<w'.heap.size/\
   cb.o=0/\Holds C ψ w' cb ab):br C md pr ms o D W E s K r:=by
 have hv:e.bY=some E.aZ:=by rcases he with⟨n,c,rfl,_⟩|⟨l,p,rfl,_⟩<;>rfl
 have get: ∀u,(⟨E.aZ+1,(t,e)::E.l⟩:Env).get u=if t=u then e else E.get u:=fun u=>Env.WU _ _ _ _ _
 have crn: ∀bO,CR ⟨E.aZ+1,(t,e)::E.l⟩ s (.inr E.aZ) bO->gW E->bO=ab:=by
  intro bO c hE;rcases c with⟨u,n,cs,h,dc⟩|⟨u,l,p,h,dc⟩<;>rw[get]at h<;>split at h
  ·rcases he with⟨n',c',rfl,rfl,_⟩|⟨l,p,rfl,_⟩
   ·cases h;exact dc
   ·cases h
  ·have:=hE.lt u E.aZ (by rw[h];rfl);omega
  ·rcases he with⟨n',c',rfl,rfl,_⟩|⟨l,p,rfl,rfl⟩
   ·cases h
   ·cases h;exact dc
  ·have:=hE.lt u E.aZ (by rw[h];rfl);omega
 have QM: ∀h bO,CR ⟨E.aZ+1,(t,e)::E.l⟩ s h bO->h≠ .inr E.aZ->CR E s h bO:=by
  intro h bO c bn;cases h with
  |inl i=>exact c
  |inr v=>
   rcases c with⟨u,n,cs,h,dc⟩|⟨u,l,p,h,dc⟩<;>rw[get]at h<;>split at h
   ·rw[h]at hv;cases hv;exact absurd rfl bn
   ·exact .inl ⟨u,n,cs,h,dc⟩
   ·rw[h]at hv;cases hv;exact absurd rfl bn
   ·exact .inr ⟨u,l,p,h,dc⟩
 have fS:sQ E s ⟨E.aZ+1,(t,e)::E.l⟩ s (.inr E.aZ):=⟨by simp[cS],by simp[cS]⟩;refine .inl ⟨_,_,hk,⟨ay _,by simp,fun hE=>⟨?_,?_,?_,?_⟩,?_,(fun u d _ h=>by
   rw[get]at h;split at h
   ·rw[h]at hv;cases hv
   ·exact h),?_,?_,?_,?_,fun _ _ _=>rfl,.inr eR,.inl rfl⟩,?_⟩
 ·intro u v h
  rw[get]at h;split at h
  ·rw[hv]at h;cases h;simp
  ·have:=hE.lt u v h;simp only;omega
 ·intro u x v n h
  rw[get]at h;split at h
  ·rw[h]at hv;cases hv
  ·have:=hE.pl u x v n h;simp only;omega
 ·intro u v n cs h
  rw[get]at h;split at h
  ·rcases he with⟨n',c',rfl,_,hl⟩|⟨l,p,rfl,_⟩
   ·cases h;exact hl
   ·cases h
  ·exact hE.len u v n cs h
 ·intro u u' v h h'
  rw[get]at h h';split at h<;>split at h'
  ·omega
  ·rw[hv]at h;cases h;have:=hE.lt u' _ h';omega
  ·rw[hv]at h';cases h';have:=hE.lt u _ h;omega
  ·exact hE.uniq u u' v h h'
 ·intro u h _
  rw[get,ax (fun e=>h (by rw[ht,e]))]
 ·intro u h C ψ x hr
  rw[get,ax (fun e=>h (by rw[ht,e]))];exact hr
 ·intro h bO c
  by_cases eh:h= .inr E.aZ
  ·subst eh;exact .inr (.inl fS)
  ·exact .inr (.inr (QM h bO c eh))
 ·intro u v n cs h
  rw[get]at h;split at h
  ·rename_i hu;rw[h]at hv;simp only[dx.bY,cX]at hv;exact .inr ⟨by omega,by rw[ht,hu]⟩
  ·exact .inl ⟨cs,h⟩
 ·intro u v l p h
  rw[get]at h;split at h
  ·rename_i hu;rw[h]at hv;simp only[dx.bY,cX]at hv;exact .inr ⟨by omega,by rw[ht,hu]⟩
  ·exact .inl ⟨p,h⟩
 ·intro ψ Q a w next QQ p room hn
  obtain⟨w',cb,hr,hm,h1,h2,h0,hh⟩:=cH ψ Q a w p;have hf:=room _ fS;unfold Oper.wp;rw[hr];refine hn _ _ _ w' ⟨dU.new (cb:=cb) (ab:=ab) p.dH p.fh hm hf h1 (hh.same (fun _ _ e=>rQ hf _ _ e) rfl),Ext.new hm hf h1 h2,fun h c e=>?_,fun h bO c cr hw e=>?_,fun h bO c e q _ _=>?_⟩ (fun d' hd=>?_)
  ·by_cases eh:h= .inr E.aZ
   ·subst eh;exact .inr fS
   ·rw[mc _ _ eh]at e;exact .inl e
  ·by_cases eh:h= .inr E.aZ
   ·subst eh;exact .inl ⟨rfl,crn _ cr p.fA⟩
   ·refine .inr ⟨eh,?_⟩
    rw[mc _ _ eh]at e;rcases hw with hw|⟨n1,n2⟩
    ·exact p.il h bO c (aJ h hw) (QM h bO cr eh) e
    ·exact absurd ((QM h bO cr eh).nB p.fA) n1
  ·refine .inr ⟨fun eh=>?_,q⟩
   subst eh;rw[hf]at e;cases e
  ·rw[ht]at hd;cases hd
   rw[get,aG rfl];rcases he with⟨n',c',rfl,_,hl⟩|⟨l,p,rfl,_⟩
   ·exact⟨cb,nk _ _ _,h0,rfl⟩
   ·exact⟨cb,nk _ _ _,rfl⟩
theorem br.newVar (u5:(∃t,o.op= .alloc t)\/(∃t y,o.op= .box t y)) (aJ: ∀h,W h->D h) {K:Env->M β} {r:Out β×St} {n:Nat} {cells:List DV} (hlen:cells.length=n) (h:Jw pr o n cells E K s=some r)
  (cH: ∀ψ Q a w,ar C o D E s ψ Q a w->∃w' cb,(execOp a.eval o).run C.P w= .ok (.value (.pointer (some ⟨cb.b,0,none⟩))) w'/\fF w w'/\w.heap.size<=cb.b/\cb.b<w'.heap.size/\
   cb.o=0/\Holds C ψ w' cb (.cells false cells)):br C md pr ms o D W E s K r:=by
 unfold Jw at h;cases ht:o.dst with
 |none=>rw[ht]at h;cases h
 |some t=>
  rw[ht]at h;simp only at h;cases hp:has pr t with
  |true=>
   rw[hp]at h;simp only[cond_true]at h;exact br.VV (by rcases u5 with⟨t,ho⟩|⟨t,y,ho⟩<;>(unfold Spec;rw[ho];exact⟨_,ht,hp⟩)) aJ t ht _ _ (.inl ⟨n,cells,rfl,rfl,hlen⟩) h cH
  |false=>
   rw[hp]at h;simp only[cond_false]at h;refine br.EI (by rcases u5 with⟨t,ho⟩|⟨t,y,ho⟩<;>(unfold pA;rw[ho];trivial)) aJ (.ptr (some (s.length,0))) cells (by simpa [dC,Env.dN,ht,M.new]using h) fun ψ Q a w p=>?_
   obtain⟨w',cb,hr,hm,h1,h2,h0,hh⟩:=cH ψ Q a w p;refine⟨_,w',cb,hr,hm,h1,h2,hh,fun ψ' _ e=>?_⟩;have:=VR.ptr (C:=C) (ψ:=ψ') s.length 0 cb e
   rwa [h0]at this
theorem OA {P:Program} (t:TypeId) (v:Value) (w:World):(newVar t v).run P w= .ok ⟨w.heap.size,0,none⟩ (w.alloc (.cells v.cells t)):=by
 simp[newVar,newRow]
theorem ZpO {y:Operand} (ho:o.op= .move y\/o.op= .assign y) (aJ: ∀h,W h->D h) {K:Env->M β} {r:Out β×St} (h:vK E o K (E.src C y) s=some r):br C md pr ms o D W E s K r:=by
 refine br.pure aJ (E.src C y) (Env.E9 C E y) (fun hE r v n h=>Env.zB C hE h) h fun ψ Q a w p=>⟨a.eval y,w,?_,.refl w,p.src ?_⟩
 ·rcases ho with ho|ho<;>simp[execOp,ho]
 ·rcases ho with ho|ho<;>simp[Op.operands,ho]
theorem ZxA {b y z:Operand} (ho:o.op= .pick b y z) (aJ: ∀h,W h->D h) {K:Env->M β} {r:Out β×St} (h:Qv C E o K b y z s=some r):br C md pr ms o D W E s K r:=by
 unfold Qv at h;obtain⟨t,hb,h⟩:=Ol h;have DI: ∀ψ Q a w,ar C o D E s ψ Q a w->a.eval b= .bool t:=fun ψ Q a w p=>by
  have:=p.val (x:=b) (by simp[Op.operands,ho]) hb;generalize a.eval b=v at this;cases this;rfl
 cases t with
 |true=>
  refine br.pure aJ (E.src C y) (Env.E9 C E y) (fun hE r v n h=>Env.zB C hE h) h fun ψ Q a w p=>⟨a.eval y,w,?_,.refl w,p.src (by simp[Op.operands,ho])⟩
  simp[execOp,ho,DI ψ Q a w p,asBool]
 |false=>
  refine br.pure aJ (E.src C z) (Env.E9 C E z) (fun hE r v n h=>Env.zB C hE h) h fun ψ Q a w p=>⟨a.eval z,w,?_,.refl w,p.src (by simp[Op.operands,ho])⟩
  simp[execOp,ho,DI ψ Q a w p,asBool]
theorem Am {ψ:Ps} {w:World} {t:TypeId} {c:Array Value} {cells:List DV} (hr:aS C ψ cells (c.toList.take cells.length)) (ho:cells.all one=true):
  Holds C ψ (w.alloc (.cells c t)) ⟨w.heap.size,0,c.size⟩ (.cells false cells):=
 Zsa (heap_alloc_new w _) (.inl rfl) hr ho
theorem CW {α:Type} {l:List α} {n:Nat} (h:n=l.length):l.take n=l:=by subst h;simp
theorem Zv1 {t:TypeId} (ho:o.op= .alloc t) (aJ: ∀h,W h->D h) {K:Env->M β} {r:Out β×St} (h:Qa C E o K pr t s=some r):br C md pr ms o D W E s K r:=by
 unfold Qa at h;cases hz:kE C.P t with
 |none=>rw[hz]at h;cases h
 |some z=>
  rw[hz]at h;simp only at h;obtain⟨hl,h⟩:=Zp h;refine br.newVar (.inl ⟨t,ho⟩) aJ (cc hl) h fun ψ Q a w p=>?_
  obtain⟨v,hv,hr,h1⟩:=Ox w hz;refine⟨w.alloc (.cells v.cells t),⟨w.heap.size,0,v.cells.size⟩,?_,.alloc w _,ay _,by simp,rfl,?_⟩
  ·simp[execOp,ho,Instr.alloc,hv,OA]
  ·exact Am (by rw[CW (by simpa using (hr C ψ).len)];exact hr C ψ) h1
theorem ZnZ {P:Program} {t:TypeId} {d:DV} {K:List DV->M β} {r:Out β×St} (h:JL P t d K s=some r):
  ∃ds td,P.underlying t=some td/\K ds s=some r/\ds.length=P.cellsOf t/\∀(C:aP) ψ v,VR C ψ d v->aS C ψ ds v.cells.toList/\ds.all one=true/\v.cells.size=P.cellsOf t:=by
 unfold JL at h;obtain⟨td,SK,h⟩:=mC h;cases ha:ZL P t with
 |true=>
  rw[ha]at h;simp only[cond_true]at h;cases d with
  |agg cs=>
   obtain⟨hl,h⟩:=Pk h;refine⟨cs,td,SK,h,hl,fun C ψ v hv=>?_⟩;cases hv with
   |agg _ vs a b=>exact⟨a,b,by rw[<-hl,a.len];simp[Value.cells]⟩
  |_=>cases h
 |false=>
  rw[ha]at h;simp only[cond_false]at h;obtain⟨hc,h⟩:=Zp h;obtain⟨h1,h⟩:=ZP h;have hc:=cc hc;refine⟨[d],td,SK,h,by simp[hc],fun C ψ v hv=>?_⟩;rw[hv.Up h1];exact⟨.cons _ _ _ _ hv .nil,by simp[h1],by simp[hc]⟩
theorem Zyd {t:TypeId} {y:Operand} (ho:o.op= .box t y) (aJ: ∀h,W h->D h) {K:Env->M β} {r:Out β×St} (h:Th C E o K pr t y s=some r):br C md pr ms o D W E s K r:=by
 unfold Th at h;obtain⟨d,hd,h⟩:=Zs h;obtain⟨ds,td,SK,h,hl,hv⟩:=ZnZ h;refine br.newVar (.inr ⟨t,y,ho⟩) aJ hl h fun ψ Q a w p=>?_
 obtain⟨h1,h2,h3⟩:=hv C ψ _ (p.val (x:=y) (by simp[Op.operands,ho]) hd);refine⟨w.alloc (.cells (a.eval y).cells t),⟨w.heap.size,0,(a.eval y).cells.size⟩,?_,.alloc w _,ay _,by simp,rfl,?_⟩
 ·simp[execOp,ho,Instr.box,OA]
 ·exact Am (by rw[CW (by simpa using h1.len)];exact h1) h2
theorem Zrb {y:Operand} (ho:o.op= .nilCheck y) (aJ: ∀h,W h->D h) {K:Env->M β} {r:Out β×St} (h:NV C E o K y s=some r):br C md pr ms o D W E s K r:=by
 unfold NV at h;rcases CI h with⟨t,v,n,he,h⟩|⟨i,n,he,h⟩
 ·refine br.pure aJ (.pl t v n) rfl (fun hE r v' n' e=>by cases e;exact Env.zB C hE he) h fun ψ Q a w p=>⟨a.eval y,w,?_,.refl w,?_⟩
  ·have:=p.src (x:=y) (by simp[Op.operands,ho])
   rw[he]at this;obtain⟨cb,_,_,h3⟩:=this;simp[execOp,ho,h3]
  ·have:=p.src (x:=y) (by simp[Op.operands,ho])
   rw[he]at this;exact this
 ·refine br.val aJ (.ptr (some (i,n))) h fun ψ Q a w p=>⟨a.eval y,w,?_,.refl w,?_⟩
  ·have:=p.val (x:=y) (by simp[Op.operands,ho]) he
   generalize hx:a.eval y=x at this;cases this;simp[execOp,ho,hx]
  ·exact p.val (x:=y) (by simp[Op.operands,ho]) he
theorem ZzZ {op:UnOp} {t:TypeId} {y:Operand} (ho:o.op= .unOp op t y) (aJ: ∀h,W h->D h) {K:Env->M β} {r:Out β×St} (h:Tj C E o K op y s=some r):br C md pr ms o D W E s K r:=by
 unfold Tj at h;obtain⟨d,hd,h⟩:=Zs h;unfold unK at h;split at h
 ·refine br.val aJ _ h fun ψ Q a w p=>?_
  have:=p.val (x:=y) (by simp[Op.operands,ho]) hd;generalize hx:a.eval y=x at this;cases this;exact⟨_,w,by simp[execOp,ho,hx,Op.unary],.refl w,.bool _⟩
 ·refine br.val aJ _ h fun ψ Q a w p=>?_
  have:=p.val (x:=y) (by simp[Op.operands,ho]) hd;generalize hx:a.eval y=x at this;cases this;exact⟨_,w,by simp[execOp,ho,hx,Op.unary,Op.intArith],.refl w,.int _ _⟩
 ·cases h
theorem Zwo {t:TypeId} {y:Operand} (ho:o.op= .makeInterface t y) (aJ: ∀h,W h->D h) {K:Env->M β} {r:Out β×St} (h:PQ C E o K t y s=some r):br C md pr ms o D W E s K r:=by
 unfold PQ at h;cases ht:C.P.underlying t with
 |none=>rw[ht]at h;cases h
 |some td=>
  have vp: ∀m,td≠ .interface m:=by rintro m rfl;rw[ht]at h;cases h
  have h':dZ C E y (fun d=>dC E o K (.iface (C.ty t) d)) s=some r:=by rw[ht]at h;cases td<;>first|exact h|exact absurd rfl (vp _)
  obtain⟨d,hd,h'⟩:=Zs h';refine br.val aJ _ h' fun ψ Q a w p=>⟨.iface t (a.eval y),w,?_,.refl w,.iface _ _ _ (p.val (x:=y) (by simp[Op.operands,ho]) hd)⟩
  simp only[execOp,ho,Instr.makeInterface,Sem.run_bind,Zj w ht,Result.andThen_ok];cases td<;>first|rfl|exact absurd rfl (vp _)
theorem Zxz {f:Fn} {first cap:Array Operand} (ho:o.op= .makeFunc f first cap) (aJ: ∀h,W h->D h) {K:Env->M β} {r:Out β×St} (h:Qy C E o K f first cap s=some r):br C md pr ms o D W E s K r:=by
 unfold Qy at h;cases f with
 |func f=>
  simp only at h;obtain⟨hc,h⟩:=Zp h;obtain⟨fs,h,h1⟩:=CG h;obtain⟨cs,h,h2⟩:=CG h;refine br.val aJ _ h fun ψ Q a w p=>⟨.func (.func f) (first.map a.eval) (cap.map a.eval),w,by simp[execOp,ho,Instr.makeFunc],.refl w,.func _ _ _ _ _ hc ?_ ?_⟩
  ·have:=C0 p (l:=first.toList) (fun x hx=>by simp only[Op.operands,ho,Array.mem_append];exact .inl (by simpa using hx)) h1
   simpa using this
  ·have:=C0 p (l:=cap.toList) (fun x hx=>by simp only[Op.operands,ho,Array.mem_append];exact .inr (by simpa using hx)) h2
   simpa using this
 |_=>cases h
theorem ZsK {t i:Nat} (ho:o.op= .extract (.tmp t) i) (aJ: ∀h,W h->D h) {K:Env->M β} {r:Out β×St} (h:OX E o K t i s=some r):br C md pr ms o D W E s K r:=by
 unfold OX at h;cases he:E.get t with
 |mY ds=>
  rw[he]at h;simp only at h;cases hd:ds[i]? with
  |none=>rw[hd]at h;cases h
  |some d=>
   rw[hd]at h;refine br.val aJ d h fun ψ Q a w p=>?_
   have:=p.args t (by simp[Op.operands,ho]);rw[he]at this;obtain⟨vs,kM,hr⟩:=this;obtain⟨v,hv,hr⟩:=hr.get hd;refine⟨v,w,?_,.refl w,hr⟩;have cQ:vs[i]? =some v:=by simpa using hv
   simp[execOp,ho,ZzF,kM,Instr.extract,cQ]
 |_=>rw[he]at h;cases h
end
end Go.Gv
namespace Go.Gv
variable {β:Type}
section
variable {C:aP} {o:Oper} {D W:cB->Prop} {E:Env} {s:St} {md:Md} {pr ms:List Nat}
theorem Z4 (P:Program) (a:Addr) (w:World):(Instr.sureAddr (.pointer (some a))).run P w= .ok a w:=rfl
theorem Zqm {t:TypeId} {y:Operand} {f:Nat} (ho:o.op= .fieldAddr t y f) (aJ: ∀h,W h->D h) {K:Env->M β} {r:Out β×St} (h:If C E o K t y f s=some r):br C md pr ms o D W E s K r:=by
 unfold If at h;cases ht:C.P.underlying t with
 |none=>rw[ht]at h;cases h
 |some td=>
  rw[ht]at h;cases td with
  |struct fs=>
   simp only at h;cases hf:fs[f]? with
   |none=>rw[hf]at h;cases h
   |some fd=>
    rw[hf]at h;simp only at h;obtain⟨hc,h⟩:=CC h;have hc:=zY hc;have bG: ∀w,(sizeOf fd.type).run C.P w= .ok (C.P.cellsOf fd.type) w:=by
     intro w;unfold Program.cellsOf at hc⊢;cases hi:C.P.info? fd.type with
     |none=>rw[hi]at hc;simp at hc
     |some i=>simp[sizeOf,typeInfo,hi]
    have run: ∀(a:Act) (w:World) b n,a.eval y= .pointer (some ⟨b,n,none⟩)->(execOp a.eval o).run C.P w= .ok (.value (.pointer (some ⟨b,n+fd.offset,none⟩))) w:=by
     intro a w b n hy;simp[execOp,ho,hy,Instr.fieldAt,Zj w ht,hf,Z4,fieldPlace,bG,hc,wj]
    rcases CI h with⟨x,v,n,he,h⟩|⟨i,n,he,h⟩
    ·refine br.pure aJ _ rfl (fun hE r v' n' e=>by cases e;exact Env.zB C hE he) h fun ψ Q a w p=>?_
     have:=p.src (x:=y) (by simp[Op.operands,ho]);rw[he]at this;obtain⟨cb,h1,h2,h3⟩:=this;exact⟨_,w,run a w _ _ h3,.refl w,cb,h1,h2,rfl⟩
    ·refine br.val aJ _ h fun ψ Q a w p=>?_
     have:=p.val (x:=y) (by simp[Op.operands,ho]) he;generalize hy:a.eval y=v at this;cases this with
     |ptr _ _ cb e=>exact⟨_,w,run a w _ _ hy,.refl w,by rw[lU];exact .ptr _ _ cb e⟩
  |_=>cases h
theorem Io (P:Program) (k:IntKind) (n:Int) (w:World):(asIntOf (.int k n)).run P w= .ok (k,n) w:=rfl
theorem Da {n:Int} {m:Nat} (h:av n m=true):0<=n/\n<m:=by
 simp only[av,aH,j4]at h;exact h
theorem Zo7 {t:TypeId} {y i:Operand} (ho:o.op= .indexAddr t y i) (aJ: ∀h,W h->D h) {K:Env->M β} {r:Out β×St} (h:N5 C E o K t y i s=some r):br C md pr ms o D W E s K r:=by
 unfold N5 at h;obtain⟨k,n,hi,h⟩:=Av h;have iv: ∀ψ Q a w,ar C o D E s ψ Q a w->a.eval i= .int k n:=fun ψ Q a w p=>by
  have:=p.val (x:=i) (by simp[Op.operands,ho]) hi;generalize a.eval i=v at this;cases this;rfl
 cases ht:C.P.underlying t with
 |none=>rw[ht]at h;cases h
 |some td=>
  rw[ht]at h;cases td with
  |slice e=>
   simp only at h;obtain⟨ed,he,h⟩:=mC h;obtain⟨d,hd,h⟩:=Zs h;cases d with
   |slice z a m=>
    simp only at h;obtain⟨hz,h⟩:=Zp h;obtain⟨j,p0,rfl,h⟩:=P3 h;obtain⟨hb,h⟩:=ZP h;obtain⟨ju,eQ⟩:=Da hb;simp only[Option.isNone_some,zM]at hz;have hz:=cc hz;refine br.val aJ _ h fun ψ Q a w p=>?_
    have hv:=p.val (x:=y) (by simp[Op.operands,ho]) hd;generalize hy:a.eval y=v at hv;cases hv with
    |slice _ _ _ _ cb ad cap e1 e2 e3=>
     obtain⟨e4,e5⟩:=e3 (by omega);refine⟨.pointer (some ⟨cb.b,cb.o+(n.toNat*C.P.cellsOf e+p0),none⟩),w,?_,.refl w,.ptr _ _ cb e1⟩;rw[rH _ p0];simp[execOp,ho,hy,iv ψ Q a w p,Instr.indexAt,Zj w ht,Io,ju,eQ,ZQ w he,e4,wj,lU]
   |_=>cases h
  |array m e=>
   simp only at h;obtain⟨ed,he,h⟩:=mC h;have run: ∀ψ Q (a:Act) (w:World) b p0,ar C o D E s ψ Q a w->a.eval y= .pointer (some ⟨b,p0,none⟩)->0<=n->n<m->
     (execOp a.eval o).run C.P w= .ok (.value (.pointer (some ⟨b,p0+n.toNat*C.P.cellsOf e,none⟩))) w:=by
    intro ψ Q a w b p0 p hy ju eQ;simp[execOp,ho,hy,iv ψ Q a w p,Instr.indexAt,Zj w ht,Io,ju,eQ,Z4,ZQ w he,wj]
   rcases CI h with⟨x,v,p0,hx,h⟩|⟨x,p0,hx,h⟩
   ·obtain⟨hb,h⟩:=ZP h
    obtain⟨ju,eQ⟩:=Da hb;refine br.pure aJ _ rfl (fun hE r v' n' e=>by cases e;exact Env.zB C hE hx) h fun ψ Q a w p=>?_
    have:=p.src (x:=y) (by simp[Op.operands,ho]);rw[hx]at this;obtain⟨cb,h1,h2,h3⟩:=this;exact⟨_,w,run ψ Q a w _ _ p h3 ju eQ,.refl w,cb,h1,h2,by rw[rH]⟩
   ·obtain⟨hb,h⟩:=ZP h
    obtain⟨ju,eQ⟩:=Da hb;refine br.val aJ _ h fun ψ Q a w p=>?_
    have:=p.val (x:=y) (by simp[Op.operands,ho]) hx;generalize hy:a.eval y=v at this;cases this with
    |ptr _ _ cb e1=>exact⟨_,w,run ψ Q a w _ _ p hy ju eQ,.refl w,by rw[rH _ p0,lU];exact .ptr _ _ cb e1⟩
  |_=>cases h
theorem ZuI {P:Program} {t:TypeId} {d:TypeDesc} (w:World) (h:P.underlying t=some d) (ha:ZL P t=true) (cs:Array Value) (off:Nat):
  (Go.part t cs off).run P w= .ok (.agg (cs.extract off (off+P.cellsOf t))) w:=by
 simp[Go.part,CF w h,ha,ZQ w h]
theorem Zuv {P:Program} {t:TypeId} {d:TypeDesc} (w:World) (h:P.underlying t=some d) (ha:ZL P t=false) {cs:Array Value} {off:Nat} {v:Value} (hv:cs[off]? =some v):
  (Go.part t cs off).run P w= .ok v w:=by
 simp[Go.part,CF w h,ha,hv]
theorem Zv2 {ψ:Ps} {ds:List DV} {vs:Array Value} (h:aS C ψ ds vs.toList) (off n:Nat):aS C ψ ((ds.drop off).take n) (vs.extract off (off+n)).toList:=by
 have:=(h.drop off).take n;rw[Array.toList_extract,LR];simpa using this
theorem PM {cs:List DV} {off n:Nat} (h:cs.all one=true):((cs.drop off).take n).all one=true:=
 gv.2 fun _ hx=>gv.1 h _ (sK (sL hx))
theorem Ztz {t:TypeId} {td:TypeDesc} (ht:C.P.underlying t=some td) (aJ: ∀h,W h->D h) {K:Env->M β} {r:Out β×St} {cs:List DV} {off:Nat}
  (h:(bif ZL C.P t then dC E o K (.agg ((cs.drop off).take (C.P.cellsOf t)))else Go.Gv.D.nth cs off fun d=>uU (kq C.P t) d (dC E o K)) s=some r)
  (cH: ∀ψ Q a w,ar C o D E s ψ Q a w->∃vs,aS C ψ cs vs.toList/\cs.all one=true/\(∀v,(Go.part t vs off).run C.P w= .ok v w->(execOp a.eval o).run C.P w= .ok (.value v) w)):br C md pr ms o D W E s K r:=by
 cases ha:ZL C.P t with
 |true=>
  rw[ha]at h;refine br.val aJ _ h fun ψ Q a w p=>?_
  obtain⟨vs,h1,h2,h3⟩:=cH ψ Q a w p;exact⟨_,w,h3 _ (ZuI w ht ha vs off),.refl w,.agg _ _ (Zv2 h1 _ _) (PM h2)⟩
 |false=>
  rw[ha]at h;simp only[cond_false]at h;obtain⟨d,hd,h⟩:=Jr h;obtain⟨d',h,hr,_⟩:=Jl h;refine br.val aJ _ h fun ψ Q a w p=>?_
  obtain⟨vs,h1,h2,h3⟩:=cH ψ Q a w p;obtain⟨v,hv,jj⟩:=h1.get hd;exact⟨v,w,h3 _ (Zuv w ht ha (by simpa using hv)),.refl w,hr C ψ v jj⟩
theorem ZvX {t:TypeId} {y:Operand} {f:Nat} (ho:o.op= .field t y f) (aJ: ∀h,W h->D h) {K:Env->M β} {r:Out β×St} (h:P6 C E o K t y f s=some r):br C md pr ms o D W E s K r:=by
 unfold P6 at h;cases ht:C.P.underlying t with
 |none=>rw[ht]at h;cases h
 |some td=>
  rw[ht]at h;cases td with
  |struct fs=>
   simp only at h;cases hf:fs[f]? with
   |none=>rw[hf]at h;cases h
   |some fd=>
    rw[hf]at h;simp only at h;obtain⟨ed,he,h⟩:=mC h;obtain⟨d,hd,h⟩:=Zs h;cases d with
    |agg cs=>
     refine Ztz he aJ h fun ψ Q a w p=>?_
     have hv:=p.val (x:=y) (by simp[Op.operands,ho]) hd;generalize hy:a.eval y=v at hv;cases hv with
     |agg _ vs h1 h2=>exact⟨vs,h1,h2,fun v hp=>by simp[execOp,ho,hy,Instr.field,Zj w ht,hf,asAgg,hp]⟩
    |_=>cases h
  |_=>cases h
theorem ZyJ (s:ByteArray) (i:Nat):s[i]? =s.data.toList[i]? :=by
 rcases eM i s.data.toList.length with h|h
 ·have h':i<s.size:=by rw[jC]at h;exact h
  rw[ba h,getElem?_pos s i h',ByteArray.getElem_eq_getElem_data,Array.getElem_toList]
 ·have h': ¬i<s.size:=by rw[jC]at h;exact ur.2 h
  rw[dT h,getElem?_neg s i h']
theorem Zwt {t:TypeId} {y i:Operand} (ho:o.op= .index t y i) (aJ: ∀h,W h->D h) {K:Env->M β} {r:Out β×St} (h:Qb C E o K t y i s=some r):br C md pr ms o D W E s K r:=by
 unfold Qb at h;obtain⟨k,n,hi,h⟩:=Av h;obtain⟨d,hd,h⟩:=Zs h;have iv: ∀ψ Q a w,ar C o D E s ψ Q a w->a.eval i= .int k n:=fun ψ Q a w p=>by
  have:=p.val (x:=i) (by simp[Op.operands,ho]) hi;generalize a.eval i=v at this;cases this;rfl
 cases ht:C.P.underlying t with
 |none=>rw[ht]at h;cases h
 |some td=>
  rw[ht]at h;cases td with
  |string=>
   cases d with
   |str l=>
    simp only at h;obtain⟨hb,h⟩:=ZP h;obtain⟨ju,eQ⟩:=Da hb;refine br.val aJ _ h fun ψ Q a w p=>?_
    have hv:=p.val (x:=y) (by simp[Op.operands,ho]) hd;generalize hy:a.eval y=v at hv;cases hv with
    |str x=>
     have aj:n.toNat<x.data.toList.length:=by omega
     have hg:x[n.toNat]? =some x.data.toList[n.toNat]:=by rw[ZyJ];exact ba aj
     refine⟨.int .u8 (ZI x.data.toList n),w,?_,.refl w,.int _ _⟩;simp only[execOp,ho,hy,iv ψ Q a w p,Instr.index,Sem.run_bind,Io,Zj w ht,Result.andThen_ok,ju,iM,hg,Sem.run_pure,ZI];congr 3;simp[List.getD,ba aj]
   |_=>cases h
  |array m e=>
   cases d with
   |agg cs=>
    simp only at h;obtain⟨ed,he,h⟩:=mC h;obtain⟨hb,h⟩:=ZP h;obtain⟨ju,eQ⟩:=Da hb;refine Ztz he aJ h fun ψ Q a w p=>?_
    have hv:=p.val (x:=y) (by simp[Op.operands,ho]) hd;generalize hy:a.eval y=v at hv;cases hv with
    |agg _ vs h1 h2=>exact⟨vs,h1,h2,fun v hp=>by simp[execOp,ho,hy,iv ψ Q a w p,Instr.index,Io,Zj w ht,ju,eQ,ZQ w he,hp]⟩
   |_=>cases h
  |_=>cases d<;>cases h
end
end Go.Gv
namespace Go.Gv
variable {β:Type}
theorem Qw {P:Program} {t:TypeId} {y:B} (h:kq P t= .b y):ZL P t=false:=by
 unfold kq at h;cases ha:ZL P t with
 |false=>rfl
 |true=>rw[ha]at h;cases h
theorem ZuR {P:Program} {t:TypeId} {l:List B} (h:kq P t= .agg l):ZL P t=true:=by
 unfold kq at h;cases ha:ZL P t with
 |true=>rfl
 |false=>rw[ha]at h;simp only[cond_false]at h;split at h<;>cases h
theorem I8 {C:aP} {ψ:Ps} {w:World} {cb:CB} {f:Bool} {cs:List DV} {p:Nat} {d:DV} {P:Program} (h:Holds C ψ w cb (.cells f cs)) (hd:cs[p]? =some d):
  ∃v,(load ⟨cb.b,cb.o+p,none⟩).run P w= .ok v w/\VR C ψ d v/\one d=true:=by
 obtain⟨v,hv,hr⟩:=h.2.2.1 p d hd;exact⟨v,by rw[run_load,hv],hr,gv.1 h.2.1 _ (lh hd)⟩
theorem Zmn {C:aP} {ψ:Ps} {w:World} {cb:CB} {f:Bool} {cs:List DV} {p n:Nat} {P:Program} (h:Holds C ψ w cb (.cells f cs)) (hn:p+n<=cs.length):
  ∃vs,(∀w',w'.heap=w.heap->(loadCells ⟨cb.b,cb.o+p,none⟩ n).run P w'= .ok vs w')/\vs.size=n/\aS C ψ ((cs.drop p).take n) vs.toList/\((cs.drop p).take n).all one=true:=by
 have hc: ∀j,j<n->∃v,w.cell? ⟨cb.b,cb.o+p+j,none⟩=some v/\∀d,cs[p+j]? =some d->VR C ψ d v:=by
  intro j hj;obtain⟨v,hv,hr⟩:=h.2.2.1 (p+j) cs[p+j] (ba (by omega));exact⟨v,by rw[lU];exact hv,fun d hd=>by rw[ba (by omega)]at hd;cases hd;exact hr⟩
 let f:Nat->Value:=fun j=>(w.cell? ⟨cb.b,cb.o+p+j,none⟩).getD undef
 have hf: ∀w':World,w'.heap=w.heap->∀j,j<n->w'.cell? ((⟨cb.b,cb.o+p,none⟩:Addr).add j)=some (f j):=by
  intro w' hw j hj;obtain⟨v,hv,_⟩:=hc j hj;have e:w'.cell? ((⟨cb.b,cb.o+p,none⟩:Addr).add j)=w.cell? ((⟨cb.b,cb.o+p,none⟩:Addr).add j):=by simp only[World.cell?,hw]
  rw[e,wj,hv];simp[f,hv]
 refine⟨_,fun w' hw=>run_loadCells w' _ n f (hf w' hw),by simp,aS.of _ _ ?_ ?_,PM h.2.1⟩
 ·simp;omega
 ·intro j d v h1 h2
  rw[lg]at h1;split at h1
  ·rename_i hj
   rw[lR]at h1;obtain⟨v',cQ,hr⟩:=hc j hj;simp only[gL,og,hj,lX,cX]at h2;rw[<-h2];simp only[f,cQ,sO];exact hr d h1
  ·cases h1
theorem Ir {C:aP} {ψ:Ps} {w:World} {cb:CB} {f:Bool} {cs:List DV} {p n:Nat} {P:Program} (h:Holds C ψ w cb (.cells f cs)) (hn:p+n<=cs.length):
  ∃vs,(loadCells ⟨cb.b,cb.o+p,none⟩ n).run P w= .ok vs w/\vs.size=n/\aS C ψ ((cs.drop p).take n) vs.toList/\((cs.drop p).take n).all one=true:=
 let ⟨vs,a,b⟩:=Zmn (P:=P) h hn
 ⟨vs,a w rfl,b⟩
section
variable {C:aP} {o:Oper} {D W:cB->Prop} {E:Env} {s:St} {md:Md} {pr ms:List Nat}
theorem Gl {P:Program} {t:TypeId} {td:TypeDesc} (ht:P.underlying t=some td) (ha:ZL P t=true) (a:Addr) (w:World) {vs:Array Value} (h:(loadCells a (P.cellsOf t)).run P w= .ok vs w):
  (loadVar t a).run P w= .ok (.agg vs) w:=by
 simp[loadVar,CF w ht,ha,ZQ w ht,h]
theorem Cm {P:Program} {t:TypeId} {td:TypeDesc} (ht:P.underlying t=some td) (ha:ZL P t=false) (a:Addr) (w:World) {v:Value} (h:(load a).run P w= .ok v w):
  (loadVar t a).run P w= .ok v w:=by
 rw[loadVar,Sem.run_bind,CF w ht,ha];simpa using h
theorem ZAp {n:Nat} {cs:List DV} {p m:Nat} (hn:cs.length=n):part n cs p m=(cs.drop p).take m:=by
 unfold part;cases h:Nat.beq m n&&Nat.beq p 0 with
 |false=>rfl
 |true=>
  simp only[aH]at h;have h1:=cc h.2;have h2:=cc h.1;subst h1;subst h2;subst hn;simp
theorem P8 {n m:Nat} {cs:List DV} {p:Nat} {ds:List DV} (hn:cs.length=n) (hd:ds.length=m) (hp:p+m<=n):ua n m cs p ds=bC cs p ds:=by
 unfold ua;cases h:Nat.beq m n&&Nat.beq p 0 with
 |false=>rfl
 |true=>
  simp only[aH]at h;have h1:=cc h.2;have h2:=cc h.1;subst h1;subst h2;subst hn;simp only[cond_true];apply na;intro j;rw[C7 cs 0 ds j (by omega)];by_cases hj:j<ds.length
  ·rw[aG (by omega)];simp
  ·rw[ax (by omega),dT (by omega),dT (by omega)]
theorem CO {i p n:Nat} {K:List DV->M β} {s:St} {r:Out β×St} (h:M.load i p n K s=some r): ∃f cs,cq s i=some (.cells f cs)/\p+n<=cs.length/\K ((cs.drop p).take n) s=some r:=by
 unfold M.load at h;unfold St.cells at h;unfold cq;cases hs:s[i]? with
 |none=>rw[hs]at h;cases h
 |some x=>
  cases x with
  |none=>rw[hs]at h;cases h
  |some b=>
   rw[hs]at h;simp only at h;cases hb:Nat.ble (p+n) b.cells.length with
   |false=>rw[hb]at h;cases h
   |true=>rw[hb]at h;exact⟨_,_,rfl,lW hb,h⟩
theorem ZpN {i p:Nat} {K:DV->M β} {s:St} {r:Out β×St} (h:M.au i p K s=some r): ∃f cs d,cq s i=some (.cells f cs)/\cs[p]? =some d/\K d s=some r:=by
 unfold M.au at h;unfold St.cells at h;unfold cq;cases hs:s[i]? with
 |none=>rw[hs]at h;cases h
 |some x=>
  cases x with
  |none=>rw[hs]at h;cases h
  |some b=>
   rw[hs]at h;simp only at h;cases hb:b.cells[p]? with
   |none=>rw[hb]at h;cases h
   |some d=>rw[hb]at h;exact⟨_,_,_,rfl,hb,h⟩
theorem ar.at {ψ:Ps} {Q:Kn} {a:Act} {w:World} (p:ar C o D E s ψ Q a w) {i:Nat} {ab:AB} {cb:CB} (hD:D (.inl i)) (h:cq s i=some ab) (e:ψ (.inl i)=some cb):Holds C ψ w cb ab:=
 p.dH.holds _ cb ab e (p.il (.inl i) ab cb hD h e)
theorem ar.loc {ψ:Ps} {Q:Kn} {a:Act} {w:World} (p:ar C o D E s ψ Q a w) {t v n:Nat} {cs:List DV} {cb:CB} (hD:D (.inr v)) (h:E.get t= .loc v n cs) (e:ψ (.inr v)=some cb):Holds C ψ w cb (.cells false cs):=
 p.dH.holds _ cb _ e (p.il (.inr v) _ cb hD (.inl ⟨t,n,cs,h,rfl⟩) e)
theorem Zxd {t:TypeId} {x:Operand} (ho:o.op= .load t x) (aJ: ∀h,W h->D h) (hDl: ∀r v,md.loc r=true->(E.get r).bY=some v->D (.inr v)) (Q3:md.J6=true->∀i p,E.src C x= .v (.ptr (some (i,p)))->D (.inl i))
  {K:Env->M β} {r:Out β×St} (h:JQ C E o K md t x s=some r):br C md pr ms o D W E s K r:=by
 unfold JQ at h;obtain⟨td,ht,h⟩:=mC h;rcases CI h with⟨y,v,p0,hx,h⟩|⟨i,p0,hx,h⟩
 ·obtain⟨hm,h⟩:=Zp h
  obtain⟨n,cs,hl,h⟩:=Zn4 h;have hD:=hDl y v hm (by rw[hl];rfl);have addr: ∀ψ Q a w,ar C o D E s ψ Q a w->∃cb,ψ (.inr v)=some cb/\cb.o=0/\a.eval x= .pointer (some ⟨cb.b,p0,none⟩):=fun ψ Q a w p=>by
   have:=p.src (x:=x) (by simp[Op.operands,ho]);rw[hx]at this;exact this
  cases hs:kq C.P t with
  |b y'=>
   rw[hs]at h;obtain⟨d,hd,h⟩:=Jr h;obtain⟨d',h,hr,_⟩:=JH h;refine br.val aJ _ h fun ψ Q a w p=>?_
   obtain⟨cb,e1,e2,e3⟩:=addr ψ Q a w p;obtain⟨v,hv,iT,_⟩:=I8 (P:=C.P) (p.loc hD hl e1) hd;rw[e2,dj]at hv;refine⟨v,w,?_,.refl w,hr C ψ v iT⟩;simp only[execOp,ho,e3,Instr.loadAt,Sem.run_bind,Z4,Result.andThen_ok,Cm ht (Qw hs) _ w hv,Sem.run_pure]
  |agg l=>
   rw[hs]at h;simp only at h;obtain⟨hb,h⟩:=ZP h;have hb:=lW hb;refine br.val aJ _ h fun ψ Q a w p=>?_
   have hlen:=p.fA.len y v n cs hl;obtain⟨cb,e1,e2,e3⟩:=addr ψ Q a w p;obtain⟨vs,hv,_,iT,h1⟩:=Ir (P:=C.P) (p.loc hD hl e1) (p:=p0) (n:=C.P.cellsOf t) (by omega);rw[e2,dj]at hv;refine⟨_,w,?_,.refl w,by rw[ZAp hlen];exact .agg _ vs iT h1⟩;simp only[execOp,ho,e3,Instr.loadAt,Sem.run_bind,Z4,Result.andThen_ok,Gl ht (ZuR hs) _ w hv,Sem.run_pure]
 ·obtain⟨hm,h⟩:=Zp h
  have hD:=Q3 hm i p0 hx;have addr: ∀ψ Q a w,ar C o D E s ψ Q a w->∃cb,ψ (.inl i)=some cb/\a.eval x= .pointer (some ⟨cb.b,cb.o+p0,none⟩):=fun ψ Q a w p=>by
   have:=p.val (x:=x) (by simp[Op.operands,ho]) hx;generalize a.eval x=y at this;cases this with
   |ptr _ _ cb e=>exact⟨cb,e,rfl⟩
  cases hs:kq C.P t with
  |b y'=>
   rw[hs]at h;obtain⟨f,cs,d,bB,hd,h⟩:=ZpN h;obtain⟨d',h,hr,_⟩:=JH h;refine br.val aJ _ h fun ψ Q a w p=>?_
   obtain⟨cb,e1,e3⟩:=addr ψ Q a w p;obtain⟨v,hv,iT,_⟩:=I8 (P:=C.P) (p.at hD bB e1) hd;refine⟨v,w,?_,.refl w,hr C ψ v iT⟩;simp only[execOp,ho,e3,Instr.loadAt,Sem.run_bind,Z4,Result.andThen_ok,Cm ht (Qw hs) _ w hv,Sem.run_pure]
  |agg l=>
   rw[hs]at h;obtain⟨f,cs,bB,hb,h⟩:=CO h;obtain⟨ds,h,_,hr,h1⟩:=Cw h;refine br.val aJ _ h fun ψ Q a w p=>?_
   obtain⟨cb,e1,e3⟩:=addr ψ Q a w p;obtain⟨vs,hv,_,iT,h2⟩:=Ir (P:=C.P) (p.at hD bB e1) hb;refine⟨_,w,?_,.refl w,.agg _ vs (hr C ψ _ iT) (h1 h2)⟩;simp only[execOp,ho,e3,Instr.loadAt,Sem.run_bind,Z4,Result.andThen_ok,Gl ht (ZuR hs) _ w hv,Sem.run_pure]
structure vZ (w w':World) (b:Nat):Prop where
 other: ∀k,k≠b->w'.heap[k]? =w.heap[k]?
 size:w'.heap.size=w.heap.size
 tape:w'.tape=w.tape
 os:w'.os=w.os
 output:qz w w'
theorem vZ.jB (w:World) (b:Nat) (ob:Obj):vZ w (jB w b ob) b:=
 ⟨fun _ h=>ZxS h ob,LJ w b ob,rfl,rfl,rfl,ay _⟩
theorem Zn3 {ψ:Ps} {w:World} {cb:CB} {cs ds cs':List DV} {vs:List Value} {p o':Nat} {P:Program} (h:Holds C ψ w cb (.cells false cs)) (hr:aS C ψ ds vs) (h1:ds.all one=true)
  (hp:p+ds.length<=cb.m) (ho:o'+cs'.length<=cb.m) (fQ:cs'.all one=true)
  (hc: ∀j d,cs'[j]? =some d->(p<=o'+j/\o'+j<p+ds.length/\ds[o'+j-p]? =some d)\/((o'+j<p\/p+ds.length<=o'+j)/\cs[o'+j]? =some d)):
  ∃w',(storeCells ⟨cb.b,cb.o+p,none⟩ vs).run P w= .ok () w'/\vZ w w' cb.b/\Holds C ψ w' ⟨cb.b,cb.o+o',cb.m-o'⟩ (.cells false cs'):=by
 obtain⟨c,ty,fr,hb,bG,fR⟩:=h.2.2.2 rfl;have hl:=hr.len;have cH:=ML P cb.b (cb.o+p) ty fr vs 0 w c hb (hr.V0 h1) (by omega) (fun j _ hj=>by
  have:=fR (p+j) (by omega);rw[<-lU]at this;exact this)
 simp only[dG]at cH;refine⟨_,cH,vZ.jB w _ _,by simp only;omega,fQ,fun j d hd=>?_,fun _=>⟨_,ty,fr,I5 (rL hb) _,by simp;omega,fun j hj=>?_⟩⟩
 ·dsimp only
  rw[cell_of_row _ _ _ _ ty fr (I5 (rL hb) _),JB _ _ _ _ (by omega)];rcases hc j d hd with⟨a1,a2,a3⟩|⟨a1,a2⟩
  ·rw[aG ⟨by omega,by omega⟩]
   obtain⟨v,hv,iT⟩:=hr.get a3;exact⟨v,by rw[show cb.o+o'+j-(cb.o+p)=o'+j-p by omega];exact hv,iT⟩
  ·rw[ax (by omega)]
   obtain⟨v,hv,iT⟩:=h.2.2.1 _ _ a2;rw[cell_of_row _ _ _ _ ty fr hb]at hv;exact⟨v,by rw[lU];exact hv,iT⟩
 ·have:=fR (o'+j) (by simp only at hj;omega)
  rw[<-lU]at this;exact this
theorem Zw1 {cs ds:List DV} {p:Nat} (h:cs.all one=true) (h':ds.all one=true) (hp:p+ds.length<=cs.length):(bC cs p ds).all one=true:=by
 refine gv.2 fun x hx=>?_
 obtain⟨j,hj⟩:=xR hx;rw[C7 cs p ds j hp]at hj;split at hj
 ·exact gv.1 h' _ (lh hj)
 ·exact gv.1 h _ (lh hj)
theorem IV {ψ:Ps} {w:World} {cb:CB} {cs ds:List DV} {vs:List Value} {p:Nat} {P:Program} (h:Holds C ψ w cb (.cells false cs)) (hr:aS C ψ ds vs) (h1:ds.all one=true)
  (hp:p+ds.length<=cs.length):
  ∃w',(storeCells ⟨cb.b,cb.o+p,none⟩ vs).run P w= .ok () w'/\vZ w w' cb.b/\Holds C ψ w' cb (.cells false (bC cs p ds)):=by
 have hm:=h.1;have e1:p+ds.length<=cb.m:=by omega
 have e2:0+(bC cs p ds).length<=cb.m:=by rw[CD];omega
 obtain⟨w',a,b,c⟩:=Zn3 (P:=P) (cs':=bC cs p ds) (o':=0) h hr h1 e1 e2 (Zw1 h.2.1 h1 hp) (fun j d hd=>by
  rw[C7 cs p ds j hp]at hd;split at hd
  ·exact .inl ⟨by omega,by omega,by simpa using hd⟩
  ·exact .inr ⟨by omega,by simpa using hd⟩)
 exact⟨w',a,b,by simpa using c⟩
theorem O1 {s:St} {i:Nat} {cs:List DV} (h:s.fH i=some cs):cq s i=some (.cells false cs)/\i<s.length:=by
 unfold St.fH at h;unfold cq;cases hs:s[i]? with
 |none=>rw[hs]at h;cases h
 |some x=>
  rw[hs]at h;have hi:i<s.length:=by
   rcases eM i s.length with h'|h'
   ·exact h'
   ·rw[dT h']at hs;cases hs
  cases x with
  |none=>cases h
  |some b=>
   obtain⟨f,c⟩:=b;cases f with
   |true=>cases h
   |false=>simp only[cX]at h;subst h;exact⟨rfl,hi⟩
theorem ZlO {s:St} {i:Nat} (h:i<s.length) (b:bq):cq (s.set i (some b)) i=some (.cells b.jc b.cells):=by simp[cq,h]
theorem Ii {s:St} {i j:Nat} (h:i≠j) (b:Option bq):cq (s.set i b) j=cq s j:=by simp[cq,eu h]
theorem br.TR (aJ: ∀h,W h->D h) {i:Nat} (hW:W (.inl i)) {K:Env->M β} {r:Out β×St} (e:dx) (hv:e.bY=none) (hp:gW E->∀r v n,e= .pl r v n->v<E.aZ) {cs cs':List DV}
  (hi:s.fH i=some cs) (hk:K (E.dN o.dst e) (s.set i (some ⟨false,cs'⟩))=some r)
  (cH: ∀ψ Q a w,ar C o D E s ψ Q a w->∃cb,ψ (.inl i)=some cb/\(Holds C ψ w cb (.cells false cs)->∃v w',((execOp a.eval o).run C.P w= .ok (.value v) w'\/(execOp a.eval o).run C.P w= .ok .skip w'/\v=undef)/\
   vZ w w' cb.b/\Holds C ψ w' cb (.cells false cs')/\eB C ψ e v)):br C md pr ms o D W E s K r:=by
 obtain⟨bB,aj⟩:=O1 hi;refine .inl ⟨_,_,hk,j7.put pr ms e hv hp (by simp) (fun j ab h=>?_) (fun j h _=>?_) (.inl (by simp)),?_⟩
 ·by_cases e:j=i
  ·subst e;exact .inl hW
  ·rw[Ii (fun e'=>e e'.symm)]at h;exact .inr (.inr h)
 ·exact eu (fun e=>h (by rw[<-e];exact hW))
 intro ψ Q a w next QQ p room hn;obtain⟨cb,fZ,hh⟩:=cH ψ Q a w p;have hq:Q (.inl i) (.cells false cs):=p.il (.inl i) _ cb (aJ _ hW) bB fZ;obtain⟨v,w',hr,cg,DQ,cQ⟩:=hh (p.dH.holds _ cb _ fZ hq);have post:FI C D W E s (E.dN o.dst e) (s.set i (some ⟨false,cs'⟩)) ψ Q w ψ (ue Q (.inl i) (.cells false cs')) w':=by
  refine⟨dU.set p.dH fZ hq rfl cg.other DQ,Ext.set fZ hq rfl cg.other cg.size cg.tape cg.os cg.output,fun _ _ e=> .inl e,fun h ab c cr hw e'=>?_,fun h ab c e' q nw _=>?_⟩
  ·by_cases eh:h= .inl i
   ·subst eh
    have mg:cq (s.set i (some ⟨false,cs'⟩)) i=some ab:=cr;rw[ZlO aj]at mg;cases mg;exact .inl ⟨rfl,rfl⟩
   ·refine .inr ⟨eh,?_⟩
    have ej:CR E s h ab:=by
     cases h with
     |inl j=>
      have mg:cq (s.set i (some ⟨false,cs'⟩)) j=some ab:=cr;rw[Ii (fun e=>eh (by rw[e]))]at mg;exact mg
     |inr x=>exact CR.dN (t:=o.dst) (e:=e) (s:=s) hv cr
    rcases hw with hw|⟨n1,n2⟩
    ·exact p.il h ab c (aJ h hw) ej e'
    ·exact absurd (ej.nB p.fA) n1
  ·exact .inr ⟨fun eh=>nw (by subst eh;exact hW),q⟩
 have bI: ∀d,o.dst=some d->eB C ψ ((E.dN o.dst e).get d) v:=fun d hd=>by rw[Env.iQ,aG hd];exact cQ
 unfold Oper.wp;rcases hr with hr|⟨hr,rfl⟩
 ·rw[hr];exact hn ψ _ v w' post bI
 ·rw[hr];exact hn ψ _ _ w' post bI
theorem Zo6 {i p:Nat} {ds:List DV} {K:M β} {s:St} {r:Out β×St} (h:M.store i p ds K s=some r):
  ∃cs,s.fH i=some cs/\p+ds.length<=cs.length/\K (s.set i (some ⟨false,bC cs p ds⟩))=some r:=by
 unfold M.store at h;cases hs:s.fH i with
 |none=>rw[hs]at h;cases h
 |some cs=>
  rw[hs]at h;simp only at h;cases hb:Nat.ble (p+ds.length) cs.length with
  |false=>rw[hb]at h;cases h
  |true=>rw[hb]at h;exact⟨_,rfl,lW hb,h⟩
theorem Zm5 {P:Program} {t:TypeId} {td:TypeDesc} (ht:P.underlying t=some td) (a:Addr) (v:Value) (w:World) (hs:v.cells.size=P.cellsOf t):
  (storeVar t a v).run P w=(storeCells a v.cells.toList).run P w:=by
 simp[storeVar,ZQ w ht,hs]
theorem Zwd {t:TypeId} {x y:Operand} (ho:o.op= .store t x y) (pR:o.dst=none) (aJ: ∀h,W h->D h) (Ri: ∀r v,md.loc r=true->(E.get r).bY=some v->W (.inr v)) (hWh:md.J6=true->∀i p,E.src C x= .v (.ptr (some (i,p)))->W (.inl i))
  {K:Env->M β} {r:Out β×St} (h:PS C E K md ms t x y s=some r):br C md pr ms o D W E s K r:=by
 unfold PS at h;obtain⟨d,hd,h⟩:=Zs h;obtain⟨ds,td,ht,h,kf,hv⟩:=ZnZ h;rcases CI h with⟨u,v,p0,hx,h⟩|⟨i,p0,hx,h⟩
 ·obtain⟨hm,h⟩:=Zp h
  rw[aH]at hm;obtain⟨n,cs,hl,h⟩:=Zn4 h;obtain⟨hb,h⟩:=ZP h;have hb:=lW hb;have hW:=Ri u v hm.2 (by rw[hl];rfl);have get: ∀k,(E.put u (.loc v n (ua n (C.P.cellsOf t) cs p0 ds))).get k=if u=k then .loc v n (ua n (C.P.cellsOf t) cs p0 ds)else E.get k:=fun k=>Env.oD _ _ _ _
  have bY: ∀k,((E.put u (.loc v n (ua n (C.P.cellsOf t) cs p0 ds))).get k).bY=(E.get k).bY:=fun k=>by
   rw[get];split
   ·rename_i e;subst e;rw[hl];rfl
   ·rfl
  have crb: ∀h ab,gW E->CR (E.put u (.loc v n (ua n (C.P.cellsOf t) cs p0 ds))) s h ab->(h= .inr v/\ab= .cells false (ua n (C.P.cellsOf t) cs p0 ds))\/(h≠ .inr v/\CR E s h ab):=by
   intro h ab hE c;cases h with
   |inl i=>exact .inr ⟨by simp,c⟩
   |inr k=>
    rcases c with⟨q,n',cs',hq,dc⟩|⟨q,l,p,hq,dc⟩
    ·rw[get]at hq
     split at hq
     ·cases hq;exact .inl ⟨rfl,dc⟩
     ·rename_i bn
      refine .inr ⟨fun e=>?_,.inl ⟨q,n',cs',hq,dc⟩⟩;cases e;exact bn (hE.uniq u q v (by rw[hl];rfl) (by rw[hq];rfl))
    ·rw[get]at hq
     split at hq
     ·cases hq
     ·rename_i bn
      refine .inr ⟨fun e=>?_,.inr ⟨q,l,p,hq,dc⟩⟩;cases e;exact bn (hE.uniq u q v (by rw[hl];rfl) (by rw[hq];rfl))
  refine .inl ⟨_,_,h,⟨ay _,ay _,fun hE=>⟨?_,?_,?_,?_⟩,?_,(fun k d _ h'=>by
   rw[get]at h';split at h'
   ·cases h'
   ·exact h'),?_,?_,?_,?_,fun _ _ _=>rfl,.inr (by unfold Spec;rw[ho];trivial),.inl rfl⟩,?_⟩
  ·intro k v' h';rw[bY]at h';exact hE.lt k v' h'
  ·intro k a b c h'
   rw[get]at h';split at h'
   ·cases h'
   ·exact hE.pl k a b c h'
  ·intro k a b c h'
   rw[get]at h';split at h'
   ·cases h'
    have:=hE.len u v n cs hl;rw[P8 this kf hb,CD];exact this
   ·exact hE.len k a b c h'
  ·intro k k' v' h' tw;rw[bY]at h' tw;exact hE.uniq k k' v' h' tw
  ·intro k _ BE
   rw[get,ax];rintro rfl;rw[hm.1]at BE;cases BE
  ·intro k _ C' ψ x' hr
   rw[get];split
   ·rename_i e;subst e;rw[hl]at hr;exact hr
   ·exact hr
  ·intro h' ab c
   cases h' with
   |inl i=>exact .inr (.inr c)
   |inr k=>
    rcases c with⟨q,n',cs',hq,dc⟩|⟨q,l,p,hq,dc⟩
    ·rw[get]at hq
     split at hq
     ·cases hq;exact .inl hW
     ·exact .inr (.inr (.inl ⟨q,n',cs',hq,dc⟩))
    ·rw[get]at hq
     split at hq
     ·cases hq
     ·exact .inr (.inr (.inr ⟨q,l,p,hq,dc⟩))
  ·intro k v' n' cs' h'
   rw[get]at h';split at h'
   ·rename_i e;subst e;cases h';exact .inl ⟨cs,hl⟩
   ·exact .inl ⟨cs',h'⟩
  ·intro k v' l p h'
   rw[get]at h';split at h'
   ·cases h'
   ·exact .inl ⟨p,h'⟩
  ·intro ψ Q a w next QQ p room hn
   have:=p.src (x:=x) (by simp[Op.operands,ho]);rw[hx]at this;obtain⟨cb,e1,e2,e3⟩:=this;obtain⟨h1,h2,h3⟩:=hv C ψ _ (p.val (x:=y) (by simp[Op.operands,ho]) hd);have hq:Q (.inr v) (.cells false cs):=p.il (.inr v) _ cb (aJ _ hW) (.inl ⟨u,n,cs,hl,rfl⟩) e1;have hlen:=p.fA.len u v n cs hl;obtain⟨w',hr,cg,hh⟩:=IV (P:=C.P) (p:=p0) (p.dH.holds _ cb _ e1 hq) h1 h2 (by omega);rw[e2,dj]at hr;have hex:(execOp a.eval o).run C.P w= .ok .skip w':=by
    simp only[execOp,ho,e3,Instr.storeAt,Sem.run_bind,Z4,Result.andThen_ok,Zm5 ht _ _ w h3,hr,Sem.run_pure]
   unfold Oper.wp;rw[hex];refine hn ψ (ue Q (.inr v) (.cells false (ua n (C.P.cellsOf t) cs p0 ds))) _ w' ⟨dU.set p.dH e1 hq rfl cg.other (by rw[P8 hlen kf hb];exact hh),Ext.set e1 hq rfl cg.other cg.size cg.tape cg.os cg.output,
    fun _ _ e=> .inl e,fun h' ab c cr hw e'=>?_,fun h' ab c e' q nw _=>?_⟩ (fun d' jw=>by rw[pR]at jw;cases jw)
   ·rcases crb h' ab p.fA cr with⟨rfl,rfl⟩|⟨bn,cr⟩
    ·exact .inl ⟨rfl,rfl⟩
    ·refine .inr ⟨bn,?_⟩
     rcases hw with hw|⟨n1,n2⟩
     ·exact p.il h' ab c (aJ h' hw) cr e'
     ·exact absurd (cr.nB p.fA) n1
   ·exact .inr ⟨fun e=>nw (by rw[e];exact hW),q⟩
 ·obtain⟨hm,h⟩:=Zp h
  obtain⟨cs,hi,hb,h⟩:=Zo6 h;refine br.TR aJ (hWh hm i p0 hx) .u rfl (fun _ _ _ _ e=>by cases e) hi (by rw[pR];exact h) fun ψ Q a w p=>?_
  have:=p.val (x:=x) (by simp[Op.operands,ho]) hx;generalize Lm:a.eval x=xv at this;cases this with
  |ptr _ _ cb e=>
   refine⟨cb,e,fun hh=>?_⟩;obtain⟨h1,h2,h3⟩:=hv C ψ _ (p.val (x:=y) (by simp[Op.operands,ho]) hd);obtain⟨w',hr,cg,DQ⟩:=IV (P:=C.P) (p:=p0) hh h1 h2 hb;refine⟨undef,w',.inr ⟨?_,rfl⟩,cg,DQ,trivial⟩;simp only[execOp,ho,Lm,Instr.storeAt,Sem.run_bind,Z4,Result.andThen_ok,Zm5 ht _ _ w h3,hr,Sem.run_pure]
end
end Go.Gv
namespace Go.Gv
variable {β:Type}
structure lZ (C:aP):Prop where
 ty: ∀t t',C.ty t=C.ty t'->t=t'
 eqg: ∀t,C.yB t≠[]->C.P.eqGuardType C.P.depth t=false
 eq: ∀t,C.yB t≠[]->∀ψ xs ys (vs us:Array Value) b w,aS C ψ xs vs.toList->aS C ψ ys us.toList->kJ (C.yB t) xs ys=some b->(Op.equal t (.agg vs) (.agg us)).run C.P w= .ok b w
 tae: ∃e d,C.P.underlying C.P.rt.typeAssertionError=some (.pointer e)/\C.P.underlying e=some d
section
variable {C:aP} {o:Oper} {D W:cB->Prop} {E:Env} {s:St} {md:Md} {pr ms:List Nat}
theorem Zum {P:Program} (d:Nat) {t:TypeId} (ht:P.underlying t=some .bool) (x y:Bool) (w:World):(Op.equalIn (d+1) t (.bool x) (.bool y)).run P w= .ok (x==y) w:=by
 simp[Op.equalIn,Zj w ht]
theorem Zxu {P:Program} {t:TypeId} (ht:P.underlying t=some .bool) (x y:Bool) (w:World):(Op.equal t (.bool x) (.bool y)).run P w= .ok (x==y) w:=Zum 9999 ht x y w
theorem Zwa {P:Program} (d:Nat) {t e:TypeId} (ht:P.underlying t=some (.pointer e)) (a:Option Addr) (w:World):
  (Op.equalIn (d+1) t (.pointer a) (.pointer none)).run P w= .ok a.isNone w/\(Op.equalIn (d+1) t (.pointer none) (.pointer a)).run P w= .ok a.isNone w:=by
 cases a<;>constructor<;>simp[Op.equalIn,Zj w ht]
theorem Jg {P:Program} {t e:TypeId} (ht:P.underlying t=some (.pointer e)) (a:Option Addr) (w:World):
  (Op.equal t (.pointer a) (.pointer none)).run P w= .ok a.isNone w/\(Op.equal t (.pointer none) (.pointer a)).run P w= .ok a.isNone w:=Zwa 9999 ht a w
theorem Zsz {P:Program} (d:Nat) {t e:TypeId} (ht:P.underlying t=some (.slice e)) (a:Option Addr) (n m n' m':Nat) (w:World):
  (Op.equalIn (d+1) t (.slice a n m) (.slice none n' m')).run P w= .ok a.isNone w/\(Op.equalIn (d+1) t (.slice none n' m') (.slice a n m)).run P w= .ok a.isNone w:=by
 cases a<;>constructor<;>simp[Op.equalIn,Zj w ht]
theorem Ia {P:Program} {t e:TypeId} (ht:P.underlying t=some (.slice e)) (a:Option Addr) (n m n' m':Nat) (w:World):
  (Op.equal t (.slice a n m) (.slice none n' m')).run P w= .ok a.isNone w/\(Op.equal t (.slice none n' m') (.slice a n m)).run P w= .ok a.isNone w:=Zsz 9999 ht a n m n' m' w
theorem Zzc (x y:ByteArray):(x.toList==y.toList)=(x.data.toList==y.data.toList):=by rw[ByteArray.toList_eq,ByteArray.toList_eq]
theorem ZuX {t:TypeId} {x y:DV} {K:Bool->M β} {r:Out β×St} (hc:lZ C) (h:J3 (C.P.underlying t) (C.yB t) x y K s=some r):
  ∃b,K b s=some r/\∀ψ w (x' y':Value) (p q:Operand),VR C ψ x x'->VR C ψ y y'->
   (do eqGuard .eql t p q x' y';Go.binOp .eql t x' y':Sem Value).run C.P w= .ok (.bool b) w/\(do eqGuard .neq t p q x' y';Go.binOp .neq t x' y':Sem Value).run C.P w= .ok (.bool !b) w:=by
 generalize hu:C.P.underlying t=u at h;unfold J3 at h;split at h
 ·
  split at h
  ·
   refine⟨_,h,fun ψ w x' y' p q hx hy=>?_⟩;cases hx;cases hy;constructor<;>simp[eqGuard,Go.binOp,Zxu hu]
  ·cases h
 ·obtain⟨h1,h2⟩:=Zp h
  clear h;have:=C5 h1;subst this;refine⟨_,h2,fun ψ w x' y' p q hx hy=>?_⟩;cases hx;cases hy;constructor<;>simp[eqGuard,Go.binOp,Op.intCmp,bne]
 ·refine⟨_,h,fun ψ w x' y' p q hx hy=>?_⟩
  cases hx;cases hy;constructor<;>simp[eqGuard,Go.binOp,Op.stringOp,Zzc]
 ·split at h
  ·refine⟨_,h,fun ψ w x' y' p q hx hy=>?_⟩
   cases hy;cases hx with
   |EP=>constructor<;>simp[eqGuard,Go.binOp,(Jg hu none w).1]
   |ptr i n cb e=>constructor<;>simp[eqGuard,Go.binOp,(Jg hu _ w).1]
  ·cases h
 ·split at h
  ·refine⟨_,h,fun ψ w x' y' p q hx hy=>?_⟩
   cases hx;cases hy with
   |EP=>constructor<;>simp[eqGuard,Go.binOp,(Jg hu none w).1]
   |ptr i n cb e=>constructor<;>simp[eqGuard,Go.binOp,(Jg hu _ w).2]
  ·cases h
 ·split at h
  ·refine⟨_,h,fun ψ w x' y' p q hx hy=>?_⟩
   cases hy;cases hx with
   |oU=>constructor<;>simp[eqGuard,Go.binOp,(Ia hu none 0 0 0 0 w).1]
   |slice _ i n m cb a cap e=>constructor<;>simp[eqGuard,Go.binOp,(Ia hu _ _ _ 0 0 w).1]
  ·cases h
 ·split at h
  ·refine⟨_,h,fun ψ w x' y' p q hx hy=>?_⟩
   cases hx;cases hy with
   |oU=>constructor<;>simp[eqGuard,Go.binOp,(Ia hu none 0 0 0 0 w).1]
   |slice _ i n m cb a cap e=>constructor<;>simp[eqGuard,Go.binOp,(Ia hu _ _ _ 0 0 w).2]
  ·cases h
 ·rename_i xs ys
  cases fP:C.yB t with
  |nil=>rw[fP]at h;cases h
  |cons k ks=>
   rw[fP]at h;simp only at h;cases hb:kJ (k::ks) xs ys with
   |none=>rw[hb]at h;cases h
   |some b=>
    rw[hb]at h;refine⟨_,h,fun ψ w x' y' p q hx hy=>?_⟩;have Uz:C.yB t≠[]:=by rw[fP];exact List.cons_ne_nil _ _
    cases hx with
    |agg _ vs h1 _=>
     cases hy with
     |agg _ us h2 _=>
      have he:=hc.eq t Uz ψ _ _ vs us b w h1 h2 (by rw[fP];exact hb);constructor<;>simp[eqGuard,Go.binOp,hc.eqg t Uz,he]
 ·cases h
theorem ZzH {P:Program} {op:BinOp} (h:op= .and\/op= .or\/op= .xor\/op= .andNot) (t:TypeId) (p q:Operand) (k:IntKind) (x y:Int) (w:World):
  (do eqGuard op t p q (.int k x) (.int k y);Go.binOp op t (.int k x) (.int k y):Sem Value).run P w= .ok (.int k (bits op k x y)) w:=by
 have e:Go.binOp op t (.int k x) (.int k y)=Op.intBits op k x y:=by rcases h with rfl|rfl|rfl|rfl<;>simp[Go.binOp]
 rw[e];rcases h with rfl|rfl|rfl|rfl<;>rfl
theorem Zzd {op:BinOp} {t yt:TypeId} {x y:Operand} (hc:lZ C) (ho:o.op= .binOp op t x y yt) (aJ: ∀h,W h->D h) {K:Env->M β} {r:Out β×St} (h:Tg C E o K op t x y s=some r):br C md pr ms o D W E s K r:=by
 unfold Tg at h;obtain⟨a,ha,h⟩:=Zs h;obtain⟨b,hb,h⟩:=Zs h;have key: ∀d,dC E o K d s=some r->(∀ψ w x' y',VR C ψ a x'->VR C ψ b y'->∃v,(do eqGuard op t x y x' y';Go.binOp op t x' y':Sem Value).run C.P w= .ok v w/\VR C ψ d v)->br C md pr ms o D W E s K r:=by
  intro d h hr;refine br.val aJ d h fun ψ Q A w p=>?_
  obtain⟨v,hv,iT⟩:=hr ψ w _ _ (p.val (x:=x) (by simp[Op.operands,ho]) ha) (p.val (x:=y) (by simp[Op.operands,ho]) hb);refine⟨v,w,?_,.refl w,iT⟩;simp only[execOp,ho,Sem.run_bind]at hv⊢;rw[hv];rfl
 unfold Uo at h;split at h
 ·obtain⟨b',h,hr⟩:=ZuX hc h
  exact key _ h fun ψ w x' y' hx hy=>⟨_,(hr ψ w x' y' x y hx hy).1,.bool _⟩
 ·obtain⟨b',h,hr⟩:=ZuX hc h
  exact key _ h fun ψ w x' y' hx hy=>⟨_,(hr ψ w x' y' x y hx hy).2,.bool _⟩
 ·split at h
  ·rename_i k n k' m
   have h0:=h;clear h;obtain⟨hm,h⟩:=ZP h0;clear h0;have hm:=Int.not_lt.2 (lY hm);refine key _ h fun ψ w x' y' hx hy=>?_
   cases hx;cases hy;exact⟨_,by simp[eqGuard,Go.binOp,Op.shift,hm],.int _ _⟩
  ·cases h
 ·split at h
  ·rename_i k n k' m
   have h0:=h;clear h;obtain⟨hm,h⟩:=ZP h0;clear h0;have hm:=Int.not_lt.2 (lY hm);refine key _ h fun ψ w x' y' hx hy=>?_
   cases hx;cases hy;exact⟨_,by simp[eqGuard,Go.binOp,Op.shift,hm],.int _ _⟩
  ·cases h
 ·rename_i n1 n2 n3 n4
  split at h
  ·have h0:=h
   clear h;obtain⟨hk,h⟩:=Zp h0;clear h0;have:=C5 hk;subst this;cases op with
   |eql=>exact absurd rfl n1
   |neq=>exact absurd rfl n2
   |shl=>exact absurd rfl n3
   |shr=>exact absurd rfl n4
   |quo=>
    obtain⟨hm,h⟩:=ZP h;simp only[hJ,cx]at hm;refine key _ h fun ψ w x' y' hx hy=>?_
    cases hx;cases hy;exact⟨_,by simp[eqGuard,Go.binOp,Op.intDiv,hm],.int _ _⟩
   |rem=>
    obtain⟨hm,h⟩:=ZP h;simp only[hJ,cx]at hm;refine key _ h fun ψ w x' y' hx hy=>?_
    cases hx;cases hy;exact⟨_,by simp[eqGuard,Go.binOp,Op.intDiv,hm],.int _ _⟩
   |and|or|xor|andNot=>
    refine key _ h fun ψ w x' y' hx hy=>?_
    cases hx;cases hy;exact⟨_,ZzH (by simp) t x y _ _ _ w,.int _ _⟩
   |_=>
    refine key _ h fun ψ w x' y' hx hy=>?_
    cases hx;cases hy;exact⟨_,by simp[eqGuard,Go.binOp,Op.intArith,Op.intCmp]<;>rfl,by constructor⟩
  ·rename_i l l'
   cases op with
   |eql=>exact absurd rfl n1
   |neq=>exact absurd rfl n2
   |shl=>exact absurd rfl n3
   |shr=>exact absurd rfl n4
   |add=>
    obtain⟨hm,h⟩:=ZP h;have hm:=lW hm;refine key _ h fun ψ w x' y' hx hy=>?_
    cases hx with
    |str p=>
     cases hy with
     |str q=>
      have e:p.data.toList++q.data.toList=(p++q).data.toList:=by simp[ByteArray.data_append]
      rw[e];rw[jC,jC]at hm;have mM:p.size+q.size<=4611686018427387904:=hm;refine⟨.string (p++q),?_,.str _⟩;have:=run_string_add_sum (P:=C.P) (w:=w) p q (by omega);simp[eqGuard,Go.binOp,this]
   |lss|leq|gtr|geq=>
    refine key _ h fun ψ w x' y' hx hy=>?_
    cases hx;cases hy;refine⟨_,by simp only[eqGuard,Go.binOp,Op.stringOp,ByteArray.toList_eq];rfl,.bool _⟩
   |_=>cases h
  ·cases h
end
end Go.Gv
namespace Go.Gv
def zA (P:Program) (t:TypeId) (b:B):Bool:=match P.underlying t,b with
 |some .bool,.bool=>true
 |some (.int _),.int _=>true
 |some .string,.str=>true
 |_,_=>false
def J2 (P:Program):List Field->List B->Nat->Bool
 |[],[],_=>true
 |f::r,b::bs,o=>f.name != "_" &&Nat.beq f.offset o&&zA P f.type b&&J2 P r bs (o+1)
 |_,_,_=>false
def Bi (P:Program):List Field->List B->Nat->Bool
 |[],[],_=>true
 |[],_::_,_=>false
 |f::r,bs,o=>f.name != "_" &&Nat.beq f.offset o&&(match P.underlying f.type with
  |some (.struct fs)=>Nat.beq (P.cellsOf f.type) fs.size&&Nat.ble fs.size bs.length&& !(P.stoodInHeld f.type)&&J2 P fs.toList (bs.take fs.size) 0&&Bi P r (bs.drop fs.size) (o+fs.size)
  |_=>match bs with
   |b::uO=>zA P f.type b&&Bi P r uO (o+1)
   |[]=>false)
def Bj (P:Program) (t:TypeId) (bs:List B):Bool:=match P.underlying t with
 |some (.struct fs)=>Bi P fs.toList bs 0&& !(P.stoodInHeld t)&& !(P.eqGuardType P.depth t)
 |_=>false
section
variable {C:aP} {ψ:Ps}
theorem Zu8 {d:Nat} {t:TypeId} {b:B} {x y:DV} {v u:Value} {r:Bool} (w:World) (hs:zA C.P t b=true) (hx:VR C ψ x v) (hy:VR C ψ y u) (he:wK b x y=some r):
  (Op.equalIn (d+1) t v u).run C.P w= .ok r w:=by
 unfold zA at hs;split at hs
 ·rename_i hu
  unfold wK at he;split at he<;>first|(rename_i h1;cases h1;done)|skip
  ·cases hx;cases hy;cases he
   simp[Op.equalIn,Zj w hu]
  all_goals (first|(cases he;done)|skip)
 ·rename_i hu
  unfold wK at he;split at he
  ·rename_i h1;cases h1
  ·rename_i k0 k a k' b' _
   cases hk:qb k0 k&&qb k k' with
   |false=>rw[hk]at he;cases he
   |true=>
    rw[hk]at he;rw[aH]at hk;have:=C5 hk.2;subst this;cases hx;cases hy;cases he;simp[Op.equalIn,Zj w hu]
  ·rename_i h1;cases h1
  ·cases he
 ·rename_i hu
  unfold wK at he;split at he
  ·rename_i h1;cases h1
  ·rename_i h1;cases h1
  ·cases hx;cases hy;cases he
   have e: ∀a b:ByteArray,(a==b)=(a.data.toList==b.data.toList):=by
    intro a b;have e1:(a==b)=(a.data==b.data):=by cases a;cases b;rfl
    rw[e1,jY];simp only[mu];exact⟨fun h=>by rw[h],fun h=>Array.toList_inj.1 h⟩
   simp only[Op.equalIn,Sem.run_bind,Zj w hu,Result.andThen_ok,Sem.run_pure,e]
  ·cases he
 ·cases hs
theorem Jh {e:TypeId} {b:B} {cs:Array Value} {off:Nat} {v:Value} (w:World) (hs:zA C.P e b=true) (hx:cs[off]? =some v):(Go.part e cs off).run C.P w= .ok v w:=by
 refine run_part_plain w ?_ hx;unfold zA at hs;unfold Program.plainKey;split at hs<;>first|(rename_i hu;rw[hu];done)|(rename_i hu;rw[hu])|cases hs
theorem Zuo {d:Nat} (xs ys:Array Value) (w:World): ∀(fs:List Field) (bs:List B) (ds es:List DV) (o:Nat) (r:Bool),J2 C.P fs bs o=true->
  aS C ψ ds (xs.toList.drop o)->aS C ψ es (ys.toList.drop o)->kJ bs ds es=some r->(Op.eqFields (d+1) xs ys fs).run C.P w= .ok r w
 |[],[],[],[],o,r,_,_,_,he=>by
  cases he;simp[Op.eqFields]
 |[],[],_::_,_,_,_,_,_,_,he=>by cases he
 |[],[],[],_::_,_,_,_,_,_,he=>by cases he
 |[],_::_,_,_,_,_,h,_,_,_=>by cases h
 |_::_,[],_,_,_,_,h,_,_,_=>by cases h
 |f::fs,b::bs,[],_,_,_,_,_,_,he=>by cases he
 |f::fs,b::bs,_::_,[],_,_,_,_,_,he=>by cases he
 |f::fs,b::bs,x::ds,y::es,o,r,h,hx,hy,he=>by
  simp only[J2,aH]at h;obtain⟨⟨⟨hn,ho⟩,hs⟩,hr⟩:=h;have ho:=cc ho;have hn:f.name≠ "_" :=by simpa using hn
  simp only[kJ]at he;cases h1:wK b x y with
  |none=>rw[h1]at he;cases he
  |some r1=>
   cases h2:kJ bs ds es with
   |none=>rw[h1,h2]at he;cases he
   |some r2=>
    rw[h1,h2]at he;cases he;have Fa: ∀ {z:Array Value} {q:DV} {qs:List DV},aS C ψ (q::qs) (z.toList.drop o)->∃v,z[o]? =some v/\VR C ψ q v/\aS C ψ qs (z.toList.drop (o+1)):=by
     intro z q qs hq;generalize hz:z.toList.drop o=l at hq;cases hq with
     |cons _ v _ vs a b=>
      have e:z.toList[o]? =some v:=by
       have:=congrArg (fun l:List Value=>l[0]?) hz;simpa using this
      refine⟨v,by rw[<-gK];exact e,a,?_⟩;have:=congrArg (List.drop 1) hz;rw[iK]at this;rw[this];exact b
    obtain⟨v,hv,rv,tv⟩:=Fa hx;obtain⟨u,hu,ru,tu⟩:=Fa hy;have p1:=Jh (C:=C) w hs hv;have p2:=Jh (C:=C) w hs hu;have p3:=Zu8 (d:=d) w hs rv ru h1;have p4:=Zuo (d:=d) xs ys w fs bs ds es (o+1) r2 hr tv tu h2;rw[<-ho]at p1 p2;simp only[Op.eqFields,hn,ne_eq,not_false_eq_true,iM,Sem.run_bind,p1,p2,p3,Result.andThen_ok];cases r1
    ·simp
    ·simpa using p4
theorem Zsd: ∀(n:Nat) (bs:List B) (ds es:List DV) (r:Bool),kJ bs ds es=some r->n<=bs.length->∃r1 r2,kJ (bs.take n) (ds.take n) (es.take n)=some r1/\kJ (bs.drop n) (ds.drop n) (es.drop n)=some r2/\r=(r1&&r2)
 |0,bs,ds,es,r,h,_=>⟨true,r,by simp[kJ],by simpa using h,by simp⟩
 |n+1,[],ds,es,r,h,hn=>by simp at hn
 |n+1,b::bs,[],es,r,h,hn=>by cases h
 |n+1,b::bs,_::_,[],r,h,hn=>by cases h
 |n+1,b::bs,x::ds,y::es,r,h,hn=>by
  simp only[kJ]at h;cases h1:wK b x y with
  |none=>rw[h1]at h;cases h
  |some a=>
   cases h2:kJ bs ds es with
   |none=>rw[h1,h2]at h;cases h
   |some c=>
    rw[h1,h2]at h;cases h;obtain⟨r1,r2,g1,g2,g3⟩:=Zsd n bs ds es c h2 (by simpa using hn);refine⟨a&&r1,r2,?_,by simpa using g2,by rw[g3,Bool.and_assoc]⟩;simp only[List.take_succ_cons,kJ,h1,g1]
theorem Pg {d:Nat} (xs ys:Array Value) (w:World): ∀(fs:List Field) (bs:List B) (ds es:List DV) (o:Nat) (r:Bool),Bi C.P fs bs o=true->
  aS C ψ ds (xs.toList.drop o)->aS C ψ es (ys.toList.drop o)->kJ bs ds es=some r->(Op.eqFields (d+2) xs ys fs).run C.P w= .ok r w
 |[],[],ds,es,o,r,_,_,_,he=>by
  cases ds<;>cases es<;>cases he
  simp[Op.eqFields]
 |[],_::_,_,_,_,_,h,_,_,_=>by cases h
 |f::fs,bs,ds,es,o,r,h,hx,hy,he=>by
  unfold Bi at h;rw[aH,aH]at h;obtain⟨⟨hn,ho⟩,h⟩:=h;have ho:=cc ho;have hn:f.name≠ "_" :=by simpa using hn
  have aas: ∀b uO,bs=b::uO->(zA C.P f.type b&&Bi C.P fs uO (o+1))=true->(Op.eqFields (d+2) xs ys (f::fs)).run C.P w= .ok r w:=by
   rintro b uO rfl h;rw[aH]at h;obtain⟨hs,hr⟩:=h
   match ds,es,hx,hy,he with
   |[],_,_,_,he=>cases he
   |_::_,[],_,_,he=>cases he
   |x::ds,y::es,hx,hy,he=>
   simp only[kJ]at he;cases h1:wK b x y with
   |none=>rw[h1]at he;cases he
   |some r1=>
    cases h2:kJ uO ds es with
    |none=>rw[h1,h2]at he;cases he
    |some r2=>
     rw[h1,h2]at he;cases he;have Fa: ∀ {z:Array Value} {q:DV} {qs:List DV},aS C ψ (q::qs) (z.toList.drop o)->∃v,z[o]? =some v/\VR C ψ q v/\aS C ψ qs (z.toList.drop (o+1)):=by
      intro z q qs hq;generalize hz:z.toList.drop o=l at hq;cases hq with
      |cons _ v _ vs a b=>
       have e:z.toList[o]? =some v:=by
        have:=congrArg (fun l:List Value=>l[0]?) hz;simpa using this
       refine⟨v,by rw[<-gK];exact e,a,?_⟩;have:=congrArg (List.drop 1) hz;rw[iK]at this;rw[this];exact b
     obtain⟨v,hv,rv,tv⟩:=Fa hx;obtain⟨u,hu,ru,tu⟩:=Fa hy;have p1:=Jh (C:=C) w hs hv;have p2:=Jh (C:=C) w hs hu;have p3:=Zu8 (d:=d+1) w hs rv ru h1;have p4:=Pg (d:=d) xs ys w fs uO ds es (o+1) r2 hr tv tu h2;rw[<-ho]at p1 p2;simp only[Op.eqFields,hn,ne_eq,not_false_eq_true,iM,Sem.run_bind,p1,p2,p3,Result.andThen_ok];cases r1
     ·simp
     ·simpa using p4
  split at h
  ·rename_i gs hu
   simp only[aH]at h;obtain⟨⟨⟨⟨hc,hle⟩,bB⟩,hg⟩,hr⟩:=h;have hc:=cc hc;have hle:=lW hle;have bB:C.P.stoodInHeld f.type=false:=by simpa using bB
   obtain⟨r1,r2,e1,e2,e3⟩:=Zsd gs.size bs ds es r he hle;have fP:ZL C.P f.type=true:=by unfold ZL;rw[hu]
   have prt: ∀z:Array Value,(Go.part f.type z o).run C.P w= .ok (.agg (z.extract o (o+gs.size))) w:=fun z=>by
    unfold Go.part;simp only[Sem.run_bind,CF w hu,Result.andThen_ok,fP,iM,ZQ w hu,hc,Sem.run_pure]
   have sub: ∀ {z:Array Value} {qs:List DV},aS C ψ qs (z.toList.drop o)->aS C ψ (qs.take gs.size) ((z.extract o (o+gs.size)).toList.drop 0):=by
    intro z qs hq;have:=hq.take gs.size;rw[dE,Array.toList_extract,LR,show o+gs.size-o=gs.size by omega];exact this
   have rst: ∀ {z:Array Value} {qs:List DV},aS C ψ qs (z.toList.drop o)->aS C ψ (qs.drop gs.size) (z.toList.drop (o+gs.size)):=by
    intro z qs hq;have:=hq.drop gs.size;rw[iK]at this;exact this
   have nJ:C.P.fieldsOf f.type=gs:=by unfold Program.fieldsOf;rw[hu]
   have p3:(Op.equalIn (d+2) f.type (.agg (xs.extract o (o+gs.size))) (.agg (ys.extract o (o+gs.size)))).run C.P w= .ok r1 w:=by
    rw[run_equalIn_struct w (d+1) f.type _ _ (by rw[nJ];exact hu) bB,nJ];exact Zuo (d:=d) _ _ w gs.toList (bs.take gs.size) _ _ 0 r1 hg (sub hx) (sub hy) e1
   have p4:=Pg (d:=d) xs ys w fs (bs.drop gs.size) _ _ (o+gs.size) r2 hr (rst hx) (rst hy) e2;have p1:=prt xs;have p2:=prt ys;rw[<-ho]at p1 p2 p3;simp only[Op.eqFields,hn,ne_eq,not_false_eq_true,iM,Sem.run_bind,p1,p2,p3,Result.andThen_ok];rw[e3];cases r1
   ·simp
   ·simpa using p4
  ·split at h
   ·rename_i b uO
    exact aas b uO rfl h
   ·cases h
theorem Zxb {P:Program} {t:TypeId} {bs:List B} (h:Bj P t bs=true):P.eqGuardType P.depth t=false:=by
 unfold Bj at h;split at h
 ·simp only[aH]at h
  simpa using h.2
 ·cases h
theorem ZzA {t:TypeId} {bs:List B} (h:Bj C.P t bs=true) {xs ys:List DV} {vs us:Array Value} {b:Bool} (w:World) (hx:aS C ψ xs vs.toList) (hy:aS C ψ ys us.toList) (he:kJ bs xs ys=some b):
  (Op.equal t (.agg vs) (.agg us)).run C.P w= .ok b w:=by
 unfold Bj at h;split at h
 ·rename_i fs hu
  simp only[aH]at h;have bB:C.P.stoodInHeld t=false:=by simpa using h.1.2
  unfold Op.equal;have nJ:C.P.fieldsOf t=fs:=by unfold Program.fieldsOf;rw[hu]
  rw[show Op.maxDepth=9999+1 from rfl,run_equalIn_struct w 9999 t vs us (by rw[nJ];exact hu) bB,nJ];exact Pg (d:=9997) vs us w fs.toList bs xs ys 0 b h.1.1 (by rw[dE];exact hx) (by rw[dE];exact hy) he
 ·cases h
def EF:List (Nat×List B)->Nat->List B
 |[],_=>[]
 |(k,v)::r,x=>bif Nat.beq k x then v else EF r x
theorem Qt {P:Program} : ∀ {l:List (Nat×List B)},(l.all fun x=>Bj P x.1 x.2)=true->∀t,EF l t≠[]->Bj P t (EF l t)=true
 |[],_,t,h=>absurd rfl h
 |(k,v)::r,hl,t,h=>by
  rw[sJ,aH]at hl;simp only[EF]at h⊢;cases hk:Nat.beq k t with
  |true=>rw[hk]at h;rw[<-cc hk];exact hl.1
  |false=>rw[hk]at h;exact Qt hl.2 t h
end
end Go.Gv
namespace Go.Gv
variable {β:Type}
section
variable {C:aP} {o:Oper} {D W:cB->Prop} {E:Env} {s:St} {md:Md} {pr ms:List Nat}
theorem ar.int {ψ:Ps} {Q:Kn} {a:Act} {w:World} (p:ar C o D E s ψ Q a w) {x:Operand} (hx:x∈o.op.operands) {k:IntKind} {n:Int} (h:E.src C x= .v (.int k n)):a.eval x= .int k n:=by
 have:=p.val hx h;generalize a.eval x=v at this;cases this;rfl
theorem NU {len:Nat} {lo hi:Option Operand} {K:Nat->Nat->M β} {r:Out β×St} (h:C4 C E len lo hi K s=some r):
  ∃l u,K l u s=some r/\l<=u/\u<=len/\(lo=none->l=0)/\(hi=none->u=len)/\
   ∀ψ Q a w,ar C o D E s ψ Q a w->(∀x,lo=some x->x∈o.op.operands)->(∀x,hi=some x->x∈o.op.operands)->∀(b:Bool) (cap:Nat),len<=cap->(b=false->len=cap)->
    (Instr.sliceBounds b len cap (lo.map a.eval) (hi.map a.eval) none).run C.P w= .ok (l,u,cap) w:=by
 unfold C4 at h;have low: ∀u,(match lo with|none=>K 0 u|some x=>xy C E x fun l=>M.ak (decide (0<=l)&&decide (l<=u)) (K l.toNat u)) s=some r->
   ∃l,K l u s=some r/\l<=u/\(lo=none->l=0)/\∀ψ Q a w,ar C o D E s ψ Q a w->(∀x,lo=some x->x∈o.op.operands)->
    (match lo.map a.eval with|some v=>Instr.sliceBound v u .sliceB|none=>pure 0:Sem Nat).run C.P w= .ok l w:=by
  intro u h;cases lo with
  |none=>exact⟨0,h,bH _,fun _=>rfl,fun ψ Q a w p _=>rfl⟩
  |some x=>
   obtain⟨k,n,hx,h⟩:=Av h;obtain⟨hc,h⟩:=ZP h;simp only[aH,j4]at hc;refine⟨n.toNat,h,by omega,fun h=>(nomatch h),fun ψ Q a w p hm=>?_⟩;simp only[lX,p.int (hm x rfl) hx];exact run_sliceBound _ k n u _ hc.1 hc.2
 cases hi with
 |none=>
  obtain⟨l,h,h1,h2,h3⟩:=low len h;refine⟨l,len,h,h1,ay _,h2,fun _=>rfl,fun ψ Q a w p hl _ b cap nF hb=>?_⟩;have:=h3 ψ Q a w p hl;unfold Instr.sliceBounds;simp only[Option.map_none,Sem.run_bind,Sem.run_pure,Result.andThen_ok,FD,oe,iY];cases pW:lo.map a.eval with
  |none=>rw[pW]at this;simp only[Sem.run_pure,Result.ok.injEq]at this⊢;simp[this.1]
  |some v=>rw[pW]at this;simp only at this⊢;rw[Sem.run_bind,this];rfl
 |some y=>
  obtain⟨k,n,hy,h⟩:=Av h;obtain⟨hc,h⟩:=ZP h;simp only[aH,j4]at hc;obtain⟨l,h,h1,h2,h3⟩:=low n.toNat h;refine⟨l,n.toNat,h,h1,by omega,h2,fun h=>(nomatch h),fun ψ Q a w p hl hh b cap nF hb=>?_⟩;have:=h3 ψ Q a w p hl;have hs: ∀code,(Instr.sliceBound (.int k n) cap code).run C.P w= .ok n.toNat w:=fun code=>run_sliceBound _ k n cap code hc.1 (by omega)
  unfold Instr.sliceBounds;simp only[lX,p.int (hh y rfl) hy,Sem.run_bind,Sem.run_pure,Result.andThen_ok,FD,oe,iY,hs];cases pW:lo.map a.eval with
  |none=>rw[pW]at this;simp only[Sem.run_pure,Result.ok.injEq]at this⊢;simp[this.1]
  |some v=>rw[pW]at this;simp only at this⊢;rw[Sem.run_bind,this];rfl
theorem Zwj {t:TypeId} {y:Operand} {lo hi:Option Operand} (ho:o.op= .slice t y lo hi none):y∈o.op.operands/\(∀x,lo=some x->x∈o.op.operands)/\(∀x,hi=some x->x∈o.op.operands):=by
 rw[ho];refine⟨by simp[Op.operands],fun x hx=>?_,fun x hx=>?_⟩
 ·subst hx;simp[Op.operands]
 ·subst hx;simp[Op.operands]
theorem ZwU {ψ:Ps} {sz i n:Nat} {cb:CB} {base:Addr} {off cap l u:Nat} {lo:Bool} (fZ:ψ (.inl i)=some cb) (hb:0<cap->base=⟨cb.b,cb.o+off,none⟩/\off+cap*sz<=cb.m)
  (h1:l<=u) (h2:u<=n) (h3:n<=cap) (pW:lo=false->l=0):
  VR C ψ (.slice sz (cy lo (some (i,off)) (l*sz)) (Dn lo l u)) (.slice (some (if cap=l then base else base.add (l*sz))) (u-l) (cap-l)):=by
 have e:cy lo (some (i,off)) (l*sz)=some (i,off+l*sz):=by
  cases lo with
  |true=>simp[cy,rH]
  |false=>simp[cy,pW rfl]
 have e2:Dn lo l u=u-l:=by
  cases lo with
  |true=>rfl
  |false=>simp[Dn,pW rfl]
 rw[e,e2];refine .slice sz i _ _ cb _ _ fZ (by omega) (fun hc=>?_);obtain⟨h4,h5⟩:=hb (by omega);rw[ax (by omega),h4,wj];refine⟨by rw[lU],?_⟩;have:off+l*sz+(cap-l)*sz=off+cap*sz:=by rw[lU,<-qu];congr 2;omega
 omega
theorem Zwu {t:TypeId} {y:Operand} {lo hi:Option Operand} (ho:o.op= .slice t y lo hi none) (aJ: ∀h,W h->D h) (Q3:(∃m e,C.P.underlying t=some (.array m e))->∀i,D (.inl i))
  {K:Env->M β} {r:Out β×St} (h:PY C E o K t y lo hi s=some r):br C md pr ms o D W E s K r:=by
 obtain⟨my,Lz,Ly⟩:=Zwj ho;unfold PY at h;cases ht:C.P.underlying t with
 |none=>rw[ht]at h;cases h
 |some td=>
  rw[ht]at h;cases td with
  |string=>
   simp only at h;obtain⟨d,hd,h⟩:=Zs h;cases d with
   |str x=>
    simp only at h;obtain⟨l,u,h,h1,h2,h3,h4,hr⟩:=NU (o:=o) (D:=D) h;refine br.val aJ _ h fun ψ Q a w p=>?_
    have hv:=p.val my hd;generalize hy:a.eval y=v at hv;cases hv with
    |str x=>
     have hlen:x.data.toList.length=x.size:=by rw[jC];rfl
     have jj:=hr ψ Q a w p Lz Ly false x.size (by omega) (fun _=>hlen);rw[hlen]at jj;refine⟨.string (x.extract l u),w,?_,.refl w,?_⟩
     ·simp only[execOp,ho,hy,Instr.sliceAt,Sem.run_bind,Zj w ht,Result.andThen_ok,Instr.slice,Option.map_none,FD,oe,iY,Sem.run_pure,jj]
     ·have e:Bc lo.isSome hi.isSome x.data.toList l u=(x.extract l u).data.toList:=by
       rw[ByteArray.data_extract,Array.toList_extract,LR];have e2:(x.data.toList.take u).drop l=(x.data.toList.drop l).take (u-l):=by rw[List.drop_take]
       cases lo with
       |none=>
        have:=h3 rfl;subst this;cases hi with
        |none=>
         have:=h4 rfl;subst this;simp only[Bc,FD,cond_false];rw[dE,qy,cA (ay _)]
        |some _=>simp[Bc]
       |some _=>
        cases hi with
        |none=>
         have:=h4 rfl;subst this;simp only[Bc,Option.isSome_some,FD,cond_true,cond_false];rw[cA (by simp)]
        |some _=>simp only[Bc,Option.isSome_some,cond_true];exact e2
      rw[e];exact .str _
   |_=>cases h
  |slice e=>
   simp only at h;obtain⟨ed,he,h⟩:=mC h;obtain⟨d,hd,h⟩:=Zs h;cases d with
   |slice z a n=>
    simp only at h;obtain⟨hz,h⟩:=Zp h;obtain⟨l,u,h,h1,h2,h3,h4,hr⟩:=NU (o:=o) (D:=D) h;refine br.val aJ _ h fun ψ Q A w p=>?_
    have hv:=p.val my hd;generalize hy:A.eval y=v at hv;cases hv with
    |oU=>
     have jj:=hr ψ Q A w p Lz Ly true 0 (ay _) (fun h=>nomatch h);have:l=0:=by omega
     subst this;have:u=0:=by omega
     subst this;refine⟨.slice none 0 0,w,?_,.refl w,?_⟩
     ·simp[execOp,ho,hy,Instr.sliceAt,Instr.slice,Zj w ht,jj,ZQ w he]
     ·cases lo<;>exact .oU _
    |slice _ i off _ cb base cap fZ nF hb=>
     simp only[Option.isNone_some,zM]at hz;have hz:=cc hz;subst hz;have jj:=hr ψ Q A w p Lz Ly true cap nF (fun h=>nomatch h);refine⟨_,w,?_,.refl w,ZwU fZ hb h1 h2 nF (fun hl=>h3 (by cases lo<;>first|rfl|cases hl))⟩;simp only[execOp,ho,hy,Instr.sliceAt,Instr.slice,Sem.run_bind,Zj w ht,Result.andThen_ok,Option.map_none,jj,ZQ w he,Sem.run_pure,lX];by_cases dq:cap=l<;>simp[dq]
   |_=>cases h
  |array m e=>
   simp only at h;obtain⟨ed,he,h⟩:=mC h;obtain⟨d,hd,h⟩:=Zs h;cases d with
   |ptr a=>
    simp only at h;obtain⟨i,off,ha,h'⟩:=P3 h;clear h;subst ha;obtain⟨f,cs,bB,hle,h⟩:=CO h';obtain⟨l,u,h,h1,h2,h3,h4,hr⟩:=NU (o:=o) (D:=D) h;refine br.val aJ _ h fun ψ Q A w p=>?_
    have hv:=p.val my hd;generalize hy:A.eval y=v at hv;cases hv with
    |ptr _ _ cb fZ=>
     have hh:=(p.at (Q3 ⟨m,e,ht⟩ i) bB fZ).1;have jj:=hr ψ Q A w p Lz Ly false m (ay _) (fun _=>rfl);refine⟨_,w,?_,.refl w,ZwU (cap:=m) (base:=⟨cb.b,cb.o+off,none⟩) fZ (fun _=>⟨rfl,by omega⟩) h1 h2 (ay _) (fun hl=>h3 (by cases lo<;>first|rfl|cases hl))⟩;simp only[execOp,ho,hy,Instr.sliceAt,Sem.run_bind,Zj w ht,Result.andThen_ok,Z4,Option.map_none,jj,ZQ w he,Sem.run_pure]
   |_=>cases h
  |_=>cases h
theorem Zv6 {t:TypeId} {y:Operand} (ho:o.op= .range t y) (aJ: ∀h,W h->D h) {K:Env->M β} {r:Out β×St} (h:P9 C E o K t y s=some r):br C md pr ms o D W E s K r:=by
 unfold P9 at h;cases ht:C.P.underlying t with
 |none=>rw[ht]at h;cases h
 |some td=>
  rw[ht]at h;cases td with
  |string=>
   simp only at h;obtain⟨d,hd,h⟩:=Zs h;cases pR:o.dst with
   |none=>rw[pR]at h;cases d<;>cases h
   |some u=>
    rw[pR]at h;cases d with
    |str l=>
     simp only at h;refine br.VV (by unfold Spec;rw[ho];trivial) aJ u pR _ _ (.inr ⟨l,0,rfl,rfl⟩) h fun ψ Q a w p=>?_
     have hv:=p.val (x:=y) (by simp[Op.operands,ho]) hd;generalize hy:a.eval y=v at hv;cases hv with
     |str x=>
      refine⟨w.alloc (.stringIter x 0),⟨w.heap.size,0,0⟩,?_,.alloc w _,ay _,by simp,rfl,x,heap_alloc_new w _,rfl⟩;simp[execOp,ho,hy,Instr.range,Zj w ht]
    |_=>cases h
  |_=>cases h
theorem ZzG (s:ByteArray) (i:Nat):s.get! i=s.data.toList.getD i 0:=by
 show s.data[i]! =_;rw[Array.getElem!_eq_getD,bJ,mn];simp;rfl
theorem wD (s:ByteArray) (i:Nat):dec s.data.toList i=Utf8.decode s i:=by
 have hl:s.data.toList.length=s.size:=by rw[jC];rfl
 unfold dec Utf8.decode;simp only[ZzG,hl]
theorem Zn7 {P:Program} {w:World} {b:Nat} {x:ByteArray} {p:Nat} (h:w.heap[b]? =some (.stringIter x p)):(getObj b).run P w= .ok (.stringIter x p) w:=by
 simp only[getObj,Sem.run,h]
theorem ZvG {P:Program} {w:World} {b:Nat} {x y:ByteArray} {p q:Nat} (h:w.heap[b]? =some (.stringIter x p)):(setObj b (.stringIter y q)).run P w= .ok () (jB w b (.stringIter y q)):=by
 simp only[setObj,Sem.run,h];rfl
theorem ZxC {t:Nat} (ho:o.op= .next (.tmp t) true) (aJ: ∀h,W h->D h) (hW: ∀v,(E.get t).bY=some v->W (.inr v)) {K:Env->M β} {r:Out β×St} (h:Qz E o K ms t s=some r):br C md pr ms o D W E s K r:=by
 unfold Qz at h;cases hl:E.get t with
 |it v l pos=>
  rw[hl]at h;cases pR:o.dst with
  |none=>rw[pR]at h;cases h
  |some d=>
   rw[pR]at h;simp only at h;obtain⟨hc,h⟩:=CC h;rw[kZ]at hc;have bn:d≠t:=zY hc.1;have BE:has ms t=true:=by simpa using hc.2
   have Rk:=hW v (by rw[hl];rfl);have at_: ∀ψ Q a w,ar C o D E s ψ Q a w->∃cb x,ψ (.inr v)=some cb/\a.eval (.tmp t)= .pointer (some ⟨cb.b,0,none⟩)/\Q (.inr v) (.iter l pos)/\w.heap[cb.b]? =some (.stringIter x pos)/\x.data.toList=l:=by
    intro ψ Q a w p;have:=p.args t (by simp[Op.operands,ho]);rw[hl]at this;obtain⟨cb,e1,e2⟩:=this;have hq:=p.il (.inr v) (.iter l pos) cb (aJ _ Rk) (.inr ⟨t,l,pos,hl,rfl⟩) e1;obtain⟨x,h1,h2⟩:=p.dH.holds _ cb _ e1 hq;exact⟨cb,x,e1,e2,hq,h1,h2⟩
   cases hb:Nat.blt pos l.length with
   |false=>
    rw[hb]at h;simp only[cond_false]at h;refine br.pure aJ (.mY [.bool false]) rfl (fun _ _ _ _ e=>nomatch e) (by rw[pR];exact h) fun ψ Q a w p=>?_
    obtain⟨cb,x,e1,e2,hq,h1,h2⟩:=at_ ψ Q a w p;have hlen: ¬pos<x.size:=by
     have:x.data.toList.length=x.size:=by rw[jC];rfl
     rw[<-this,h2];intro aj;have:Nat.blt pos l.length=true:=by rw[lV];exact aj
     rw[hb]at this;cases this
    refine⟨.tuple #[.bool false],w,?_,.refl w,_,rfl,.cons _ _ _ _ (.bool _) .nil⟩;simp only[execOp,ho,e2,Instr.next,Sem.run_bind,Zn7 h1,Result.andThen_ok,hlen,iY,Sem.run_pure]
   |true=>
    rw[hb]at h;simp only[cond_true]at h;have aj:pos<l.length:=by rw[lV]at hb;exact hb
    have get: ∀k,((E.put t (.it v l (pos+rz l pos))).put d (.mY [.bool true,.int .i64 pos,.int .i32 (yv l pos)])).get k=
      if d=k then .mY [.bool true,.int .i64 pos,.int .i32 (yv l pos)]else if t=k then .it v l (pos+rz l pos)else E.get k:=fun k=>by rw[Env.oD,Env.oD]
    have uniq:gW E->∀q,(E.get q).bY=some v->q=t:=fun hE q hq=>hE.uniq q t v hq (by rw[hl];rfl)
    refine .inl ⟨_,_,h,⟨ay _,ay _,fun hE=>⟨?_,?_,?_,?_⟩,?_,(fun k d' _ h'=>by
     rw[get]at h';split at h'
     ·cases h'
     ·split at h'
      ·cases h'
      ·exact h'),?_,?_,?_,?_,fun _ _ _=>rfl,.inr (by unfold Spec;rw[ho];trivial),.inl rfl⟩,?_⟩
    ·intro k v' h'
     rw[get]at h';split at h'
     ·cases h'
     ·split at h'
      ·cases h';exact hE.lt t v (by rw[hl];rfl)
      ·exact hE.lt k v' h'
    ·intro k a b c h'
     rw[get]at h';split at h'
     ·cases h'
     ·split at h'
      ·cases h'
      ·exact hE.pl k a b c h'
    ·intro k a b c h'
     rw[get]at h';split at h'
     ·cases h'
     ·split at h'
      ·cases h'
      ·exact hE.len k a b c h'
    ·intro k k' v' h' tw
     rw[get]at h' tw;split at h'
     ·cases h'
     ·split at tw
      ·cases tw
      ·split at h'<;>split at tw
       ·omega
       ·cases h';rename_i e1 e2 _;rw[<-e2];exact(uniq hE k' tw).symm
       ·cases tw;rename_i e2;rw[<-e2];exact uniq hE k h'
       ·exact hE.uniq k k' v' h' tw
    ·intro k hk hm
     rw[get,ax (fun e=>hk (by rw[pR,e])),ax];rintro rfl;rw[BE]at hm;cases hm
    ·intro k hk C' ψ x hr
     rw[get,ax (fun e=>hk (by rw[pR,e]))];split
     ·rename_i e;subst e;rw[hl]at hr;exact hr
     ·exact hr
    ·intro h' ab c
     cases h' with
     |inl i=>exact .inr (.inr c)
     |inr k=>
      rcases c with⟨q,n',cs',hq,dc⟩|⟨q,l',p,hq,dc⟩
      ·rw[get]at hq
       split at hq
       ·cases hq
       ·split at hq
        ·cases hq
        ·exact .inr (.inr (.inl ⟨q,n',cs',hq,dc⟩))
      ·rw[get]at hq
       split at hq
       ·cases hq
       ·split at hq
        ·cases hq;exact .inl Rk
        ·exact .inr (.inr (.inr ⟨q,l',p,hq,dc⟩))
    ·intro k v' n' cs' h'
     rw[get]at h';split at h'
     ·cases h'
     ·split at h'
      ·cases h'
      ·exact .inl ⟨cs',h'⟩
    ·intro k v' l' p h'
     rw[get]at h';split at h'
     ·cases h'
     ·split at h'
      ·rename_i e;cases h';subst e;exact .inl ⟨pos,hl⟩
      ·exact .inl ⟨p,h'⟩
    ·intro ψ Q a w next QQ p room hn
     obtain⟨cb,x,e1,e2,hq,h1,h2⟩:=at_ ψ Q a w p;have hx:x.data.toList.length=x.size:=by rw[jC];rfl
     have oJ:pos<x.size:=by rw[<-hx,h2];exact aj
     have cg:=vZ.jB w cb.b (.stringIter x (pos+rz l pos));have hr:(execOp a.eval o).run C.P w= .ok (.value (.tuple #[.bool true,.int .i64 pos,.int .i32 (yv l pos)])) (jB w cb.b (.stringIter x (pos+rz l pos))):=by
      have hd:=wD x pos;rw[h2]at hd;simp only[execOp,ho,e2,Instr.next,Sem.run_bind,Zn7 h1,Result.andThen_ok,oJ,iM,<-hd,ZvG h1,Sem.run_pure];rfl
     unfold Oper.wp;rw[hr];refine hn ψ (ue Q (.inr v) (.iter l (pos+rz l pos))) _ _ ⟨dU.set p.dH e1 hq rfl cg.other ⟨x,I5 (rL h1) _,h2⟩,Ext.set e1 hq rfl cg.other cg.size cg.tape cg.os cg.output,
      fun _ _ e=> .inl e,fun h' ab c cr hw e'=>?_,fun h' ab c e' q nw _=>?_⟩ (fun d' jw=>?_)
     ·have ej:(h'= .inr v/\ab= .iter l (pos+rz l pos))\/(h'≠ .inr v/\CR E s h' ab):=by
       cases h' with
       |inl i=>exact .inr ⟨by simp,cr⟩
       |inr k=>
        rcases cr with⟨q,n',cs',hq,dc⟩|⟨q,l',p',hq,dc⟩
        ·rw[get]at hq
         split at hq
         ·cases hq
         ·split at hq
          ·cases hq
          ·rename_i D7
           refine .inr ⟨fun e=>?_,.inl ⟨q,n',cs',hq,dc⟩⟩;cases e;exact D7 (uniq p.fA q (by rw[hq];rfl)).symm
        ·rw[get]at hq
         split at hq
         ·cases hq
         ·split at hq
          ·cases hq;exact .inl ⟨rfl,dc⟩
          ·rename_i D7
           refine .inr ⟨fun e=>?_,.inr ⟨q,l',p',hq,dc⟩⟩;cases e;exact D7 (uniq p.fA q (by rw[hq];rfl)).symm
      rcases ej with⟨rfl,rfl⟩|⟨Si,cr⟩
      ·exact .inl ⟨rfl,rfl⟩
      ·refine .inr ⟨Si,?_⟩
       rcases hw with hw|⟨n1,n2⟩
       ·exact p.il h' ab c (aJ h' hw) cr e'
       ·exact absurd (cr.nB p.fA) n1
     ·exact .inr ⟨fun e=>nw (by rw[e];exact Rk),q⟩
     ·rw[pR]at jw;cases jw
      rw[get,aG rfl];exact⟨_,rfl,.cons _ _ _ _ (.bool _) (.cons _ _ _ _ (.int _ _) (.cons _ _ _ _ (.int _ _) .nil))⟩
 |_=>rw[hl]at h;cases h
theorem ZmM {P:Program} {e:TypeId} {d:TypeDesc} (h1:P.underlying P.rt.typeAssertionError=some (.pointer e)) (_h2:P.underlying e=some d) (i c:Option TypeId) (a:TypeId) (m:String) (w:World):
  ∃t v o,(runtimePanic (.typeAssertion i c a m):Sem Value).run P w= .halt (.panic (.iface t v)) (w.alloc o):=by
 simp only[runtimePanic,Sem.run_bind,run_program,Result.andThen_ok,elemOf,Zj w h1,Sem.run_pure,OA,run_goPanic];exact⟨_,_,_,rfl⟩
theorem sR.more (cH: ∀ψ Q a w,ar C o D E s ψ Q a w->∃t v w',(execOp a.eval o).run C.P w= .halt (.panic (.iface t v)) w'/\fF w w') (hD: ∀i,D (.inl i)):sR C o D E s s:=by
 refine⟨ay _,fun ψ Q a w next QQ p _ hn=>?_⟩;obtain⟨t,v,w',hr,hm⟩:=cH ψ Q a w p;unfold Oper.wp;rw[hr];exact hn ψ Q _ w' ⟨t,v,rfl⟩ (p.dH.more p.fh hm) (Ext.more hm) (fun _ _ e=> .inl e) fun i ab cb h e=>p.il (.inl i) ab cb (hD i) h e
theorem OT {r:Out β×St} (h:EM md s=some r):md.x=0/\r=(.cC,s):=by
 unfold EM at h;obtain⟨h1,h⟩:=Zp h;refine⟨cc h1,?_⟩;simp only[M.cC,cX]at h;exact h.symm
theorem Zuw {t xt:TypeId} {y:Operand} (hc:lZ C) (ho:o.op= .typeAssert y xt t false) (aJ: ∀h,W h->D h) (hD: ∀i,D (.inl i)) {K:Env->M β} {r:Out β×St} (h:Pj C E o K md t y s=some r):br C md pr ms o D W E s K r:=by
 unfold Pj at h;cases ht:C.P.underlying t with
 |none=>rw[ht]at h;cases h
 |some td=>
  have vp: ∀m,td≠ .interface m:=by rintro m rfl;rw[ht]at h;cases h
  have h':dZ C E y (fun d=>Go.Gv.D.qK (EM md) d (C.ty t) fun d=>uU (kq C.P t) d (dC E o K)) s=some r:=by rw[ht]at h;cases td<;>first|exact h|exact absurd rfl (vp _)
  obtain⟨d,hd,h'⟩:=Zs h';have Uv: ∀(a:Act) (w:World),(a.eval y= .nilIface\/∃t' v,a.eval y= .iface t' v/\t'≠t)->∃t v w',(execOp a.eval o).run C.P w= .halt (.panic (.iface t v)) w'/\fF w w':=by
   intro a w hy;obtain⟨e,ed,e1,e2⟩:=hc.tae;rcases hy with hy|⟨t',v,hy,bn⟩
   ·obtain⟨tv,v,ob,hv⟩:=ZmM e1 e2 (some xt) none t "" w
    refine⟨tv,v,_,?_,.alloc w ob⟩;simp only[execOp,ho,hy,Instr.typeAssert,Sem.run_bind,Zj w ht,Result.andThen_ok];cases td<;>first|(simp only[oe,iY,hv,Result.andThen_halt];done)|exact absurd rfl (vp _)
   ·obtain⟨tv,v,ob,hv⟩:=ZmM e1 e2 (some xt) (some t') t "" w
    refine⟨tv,v,_,?_,.alloc w ob⟩;simp only[execOp,ho,hy,Instr.typeAssert,Sem.run_bind,Zj w ht,Result.andThen_ok];cases td<;>first|(simp only[ax bn,oe,iY,hv,Result.andThen_halt];done)|exact absurd rfl (vp _)
  cases d with
  |iface t' d=>
   simp only[Go.Gv.D.qK]at h';cases hb:Nat.beq t' (C.ty t)with
   |true=>
    rw[hb]at h';simp only[cond_true]at h';obtain⟨d',h',hr,_⟩:=Jl h';refine br.val aJ _ h' fun ψ Q a w p=>?_
    have hv:=p.val (x:=y) (by simp[Op.operands,ho]) hd;generalize hy:a.eval y=v at hv;cases hv with
    |iface t0 _ v hv=>
     have:=hc.ty _ _ (cc hb);subst this;refine⟨v,w,?_,.refl w,hr C ψ v hv⟩;simp only[execOp,ho,hy,Instr.typeAssert,Sem.run_bind,Zj w ht,Result.andThen_ok];cases td<;>first|(simp;done)|exact absurd rfl (vp _)
   |false=>
    rw[hb]at h';obtain⟨hx,rfl⟩:=OT h';refine .inr ⟨hx,s,rfl,sR.more (fun ψ Q a w p=>Uv a w (.inr ?_)) hD⟩;have hv:=p.val (x:=y) (by simp[Op.operands,ho]) hd;generalize hy:a.eval y=v at hv;cases hv with
    |iface t0 _ v hv=>exact⟨t0,v,rfl,fun e=>by subst e;rw[uo]at hb;cases hb⟩
  |nilIface=>
   obtain⟨hx,rfl⟩:=OT h';refine .inr ⟨hx,s,rfl,sR.more (fun ψ Q a w p=>Uv a w (.inl ?_)) hD⟩;have hv:=p.val (x:=y) (by simp[Op.operands,ho]) hd;generalize hy:a.eval y=v at hv;cases hv;rfl
  |_=>cases h'
theorem Zwq {y:Operand} (ho:o.op= .panic y) (hD: ∀i,D (.inl i)) {K:Env->M β} {r:Out β×St} (h:PV C E md y s=some r):br C md pr ms o D W E s K r:=by
 unfold PV at h;obtain⟨d,hd,h⟩:=Zs h;cases d with
 |iface t d=>
  obtain⟨hx,rfl⟩:=OT h;refine .inr ⟨hx,s,rfl,sR.more (fun ψ Q a w p=>?_) hD⟩;have hv:=p.val (x:=y) (by simp[Op.operands,ho]) hd;generalize hy:a.eval y=v at hv;cases hv with
  |iface t0 _ v hv=>exact⟨t0,v,w,by simp only[execOp,ho,hy,Instr.panic,Sem.run_bind,run_goPanic,Result.andThen_halt],.refl w⟩
 |_=>cases h
end
end Go.Gv
namespace Go.Gv
variable {β:Type}
section
variable {C:aP} {o:Oper} {D W:cB->Prop} {E:Env} {s:St} {md:Md} {pr ms:List Nat}
theorem ZwP: ∀(l:List Value) (k off:Nat) (c:Array Value),(l.zipIdx k).foldl (fun cs (x:Value×Nat)=>cs.setIfInBounds (off+x.2) x.1) c=mU c (off+k) l
 |[],_,_,_=>rfl
 |v::l,k,off,c=>by
  simp only[List.zipIdx_cons,zR,mU];rw[ZwP l (k+1) off];rfl
theorem ZyF (place:Nat->Option (Nat×Nat)) (cells:Array Value) (i:Nat) (v:Value) (rest:List (Nat×Value)) {off size:Nat} (hp:place i=some (off,size)) (h1:v.cells.size=size) (h2:off+size<=cells.size):
  Instr.fill place cells ((i,v)::rest)=Instr.fill place (mU cells off v.cells.toList) rest:=by
 subst h1;have e:v.cells.zipIdx.foldl (fun cs (x:Value×Nat)=>cs.setIfInBounds (off+x.2) x.1) cells=mU cells off v.cells.toList:=by
  rw[<-Array.foldl_toList,Array.toList_zipIdx];exact ZwP v.cells.toList 0 off cells
 have hn: ¬(off+v.cells.size>cells.size):=by omega
 simp only[Instr.fill,hp,ne_eq,not_true_eq_false,decide_false,ql,hn,oe,iY];exact congrArg (fun x=>Instr.fill place x rest) e
theorem aS.sv {ψ:Ps} {ds:List DV} {vs:Array Value} (h:aS C ψ ds vs.toList):ds.length=vs.size:=by have:=h.len;simpa using this
theorem ZAq {ψ:Ps} {cs ds:List DV} {vs:Array Value} {us:List Value} {off:Nat} (h:aS C ψ cs vs.toList) (h':aS C ψ ds us) (hl:off+ds.length<=cs.length):aS C ψ (bC cs off ds) (mU vs off us).toList:=by
 have e1:=h.sv;have e2:=h'.len;refine aS.of _ _ (by simp[CD,e1]) fun j d v hd hv=>?_
 rw[C7 cs off ds j hl]at hd;rw[gK,JB _ _ _ _ (by omega)]at hv;split at hd
 ·rw[aG (by omega)]at hv
  obtain⟨v',cQ,hr⟩:=h'.get hd;rw[hv]at cQ;cases cQ;exact hr
 ·rw[ax (by omega)]at hv
  obtain⟨v',cQ,hr⟩:=h.get hd;rw[gK,hv]at cQ;cases cQ;exact hr
theorem O8 {N:Nat} {place:Nat->Option (Nat×Nat)} {r:Out β×St} : ∀ {l:List (Nat×Operand)} {cs:List DV} {K:List DV->M β},xz E C N place l cs K s=some r->cs.length=N->
  ∃cs',K cs' s=some r/\cs'.length=N/\∀ψ Q a w,ar C o D E s ψ Q a w->(∀x∈l,x.2∈o.op.operands)->∀vs:Array Value,aS C ψ cs vs.toList->cs.all one=true->
   ∃gI,Instr.fill place vs (l.map fun x=>(x.1,a.eval x.2))=some gI/\aS C ψ cs' gI.toList/\cs'.all one=true
 |[],cs,K,h,hl=>⟨cs,h,hl,fun ψ Q a w _ _ vs hr h1=>⟨vs,rfl,hr,h1⟩⟩
 |(i,x)::l,cs,K,h,hl=>by
  simp only[xz]at h;cases hp:place i with
  |none=>rw[hp]at h;cases h
  |some on=>
   obtain⟨off,n⟩:=on;rw[hp]at h;simp only at h;obtain⟨hb,h⟩:=Zp h;have hb:=lW hb;obtain⟨d,hd,h⟩:=Zs h;have go: ∀ds,xz E C N place l (bC cs off ds) K s=some r->ds.length=n->(∀(ψ:Ps) v,VR C ψ d v->aS C ψ ds v.cells.toList/\ds.all one=true)->
     ∃cs',K cs' s=some r/\cs'.length=N/\∀ψ Q a w,ar C o D E s ψ Q a w->(∀y∈(i,x)::l,y.2∈o.op.operands)->∀vs:Array Value,aS C ψ cs vs.toList->cs.all one=true->
      ∃gI,Instr.fill place vs (((i,x)::l).map fun x=>(x.1,a.eval x.2))=some gI/\aS C ψ cs' gI.toList/\cs'.all one=true:=by
    intro ds h kf hr;obtain⟨cs',h,hl',Ej⟩:=O8 h (by rw[CD];exact hl);refine⟨cs',h,hl',fun ψ Q a w p hm vs hv h1=>?_⟩;obtain⟨h3,h4⟩:=hr ψ _ (p.val (hm (i,x) (by simp)) hd);have bG:(a.eval x).cells.size=n:=by rw[<-kf,h3.sv]
    have vy:=hv.sv;obtain⟨gI,e1,e2,e3⟩:=Ej ψ Q a w p (fun y hy=>hm y (by simp[hy])) _ (ZAq (off:=off) hv h3 (by omega)) (Zw1 h1 h4 (by omega));refine⟨gI,?_,e2,e3⟩;rw[gM,ZyF place vs i _ _ hp bG (by omega)];exact e1
   have plain:(∀cs,d≠ .agg cs)->(bif Nat.beq n 1 then M.ak (one d) (xz E C N place l (bC cs off [d]) K)else fail) s=some r->_:=fun hna h=>by
    obtain⟨h1,h⟩:=Zp h;obtain⟨h2,h⟩:=ZP h;exact go [d] h (by simpa using (cc h1).symm) (fun ψ v hv=>by rw[hv.Up h2];exact⟨.cons _ _ _ _ hv .nil,by simp[h2]⟩)
   cases d with
   |agg ds=>
    simp only at h;obtain⟨h1,h⟩:=Pk h;rw[P8 hl h1 hb]at h;exact go ds h h1 (fun ψ v hv=>by cases hv with|agg _ vs a b=>exact⟨a,b⟩)
   |_=>exact plain (by simp) h
theorem ZlK {P:Program} : ∀(fs:List Field),(fs.all fun f=>(P.info? f.type).isSome)=true->fs.mapM (fun f=>(P.info? f.type).map fun i=>(f.offset,i.size))=some (fs.map fun f=>(f.offset,P.cellsOf f.type))
 |[],_=>rfl
 |f::fs,h=>by
  simp only[sJ,aH]at h;obtain⟨i,hi⟩:=Option.isSome_iff_exists.1 h.1;simp[List.mapM_cons,hi,ZlK fs h.2,Program.cellsOf]
theorem ZwF {t:TypeId} {ps:Array (Nat×Operand)} (ho:o.op= .build t ps) (aJ: ∀h,W h->D h) {K:Env->M β} {r:Out β×St} (h:Qg C E o K t ps s=some r):br C md pr ms o D W E s K r:=by
 unfold Qg at h;cases hz:kE C.P t with
 |none=>rw[hz]at h;cases h
 |some z=>
  rw[hz]at h;simp only at h;obtain⟨kl,h⟩:=Zp h;obtain⟨cs',h,hl,hr⟩:=O8 (o:=o) (D:=D) h rfl;refine br.val aJ _ h fun ψ Q a w p=>?_
  unfold kE at hz;cases hi:C.P.info? t with
  |none=>rw[hi]at hz;cases hz
  |some it=>
   rw[hi]at hz;simp only at hz;cases rn:it.zero with
   |none=>rw[rn]at hz;cases hz
   |some zv=>
    rw[rn]at hz;obtain⟨jn,gZ⟩:=As (C:=C) (ψ:=ψ) hz;obtain⟨gI,e1,e2,e3⟩:=hr ψ Q a w p (fun x hx=>by simp only[Op.operands,ho,List.mem_toArray,dP];exact⟨x,hx,rfl⟩) _ jn gZ;refine⟨.agg gI,w,?_,.refl w,.agg _ _ e2 e3⟩;have hb:C.P.built t (ps.map fun(i,x)=>(i,a.eval x)).toList=some gI:=by
     have qO:Instr.fill (PT C.P t) zv.cells (ps.map fun(i,x)=>(i,a.eval x)).toList=some gI:=by rw[Array.toList_map];exact e1
     unfold Program.built Zuu at*
     unfold PT at qO;cases hu:C.P.underlying t with
     |none=>rw[hu]at kl;cases kl
     |some td=>
      rw[hu]at kl qO;rw[hi];cases td with
      |struct fs=>
       simp only at kl⊢;rw[rn,ZlK _ kl];simp only at qO⊢;rw[<-qO];congr 1;funext i;rw[BY,gL,gK];cases fs[i]? <;>rfl
      |array m e=>
       simp only at kl⊢;obtain⟨ie,tH⟩:=Option.isSome_iff_exists.1 kl;rw[rn,tH];simp only at qO⊢;rw[<-qO];simp[Program.cellsOf,tH]
      |_=>cases kl
    simp only[execOp,ho,Sem.run_bind,run_build w t _ _ hb,Result.andThen_ok,Sem.run_pure]
theorem Aq (n:Nat) (z:List DV):(fD n z).length=n*z.length:=by
 induction n with
 |zero=>simp[fD]
 |succ n ih=>
  have:fD (n+1) z=z++fD n z:=by simp[fD,sM]
  rw[this,bg,ih,z6,rH]
theorem AO {n:Nat} {z:List DV} (h:z.all one=true):(fD n z).all one=true:=by
 induction n with
 |zero=>rfl
 |succ n ih=>
  have:fD (n+1) z=z++fD n z:=by simp[fD,sM]
  rw[this,rF,h,ih];rfl
theorem ZAP (n:Nat) (z:List DV) (j:Nat) (h:j<n*z.length):(fD n z)[j]? =z[j%z.length]? :=by
 induction n generalizing j with
 |zero=>simp at h
 |succ n ih=>
  have e:fD (n+1) z=z++fD n z:=by simp[fD,sM]
  rw[e];by_cases hj:j<z.length
  ·rw[iL hj,Ca hj]
  ·rw[gU (by omega),ih (j-z.length) (by rw[z6]at h;omega)]
   rw[show j%z.length=(j-z.length)%z.length from by rw[Nat.mod_eq_sub_mod (by omega)]]
theorem PE {ψ:Ps} {z:List DV} {zv:Array Value} (h:aS C ψ z zv.toList) (n m:Nat) (hm:n*z.length<=m):aS C ψ (fD n z) ((madeCells zv m).toList.take (fD n z).length):=by
 have hl:=h.sv;refine aS.of _ _ (by simp[size_madeCells,Aq];omega) fun j d v hd hv=>?_
 rw[Aq]at hv;rw[lg]at hv;split at hv
 ·rename_i hj
  rw[ZAP n z j hj]at hd;obtain⟨v',cQ,hr⟩:=h.get hd;rw[gK]at hv cQ;unfold madeCells at hv;rw[Array.getElem?_map,Array.getElem?_range]at hv;rw[aG (by omega)]at hv;simp only[lX,cX]at hv;rw[<-hl]at hv;rw[<-hv,getElem!_def,cQ];exact hr
 ·cases hv
theorem ZoL {t:TypeId} {len:Nat} {ps:Array (Nat×Operand)} (ho:o.op= .buildSlice t len ps) (aJ: ∀h,W h->D h) {K:Env->M β} {r:Out β×St} (h:Nr C E o K t len ps s=some r):br C md pr ms o D W E s K r:=by
 unfold Nr at h;unfold sZ at h;cases ht:C.P.underlying t with
 |none=>rw[ht]at h;cases h
 |some td=>
  rw[ht]at h;cases td with
  |slice e=>
   simp only at h;cases hz:kE C.P e with
   |none=>rw[hz]at h;cases h
   |some z=>
    rw[hz]at h;simp only at h;obtain⟨hb,h⟩:=Zp h;rw[aH]at hb;have ju:=lW hb.1;have eQ:=cc hb.2;obtain⟨cs',h,hl,hr⟩:=O8 (o:=o) (D:=D) h (by rw[Aq,eQ]);refine br.EI (by unfold pA;rw[ho];trivial) aJ (.slice (C.P.cellsOf e) (some (s.length,0)) len) cs' h fun ψ Q a w p=>?_
    obtain⟨zv,EA,zf,jn⟩:=Ox (P:=C.P) w hz;have zf:=zf C ψ;have mS:=zf.sv;have tH: ∃ie,C.P.info? e=some ie/\ie.size=C.P.cellsOf e:=by
     unfold kE at hz;cases hi:C.P.info? e with
     |none=>rw[hi]at hz;cases hz
     |some ie=>exact⟨ie,rfl,by simp[Program.cellsOf,hi]⟩
    obtain⟨ie,tH,U2⟩:=tH;have D3:=PE zf len (len*C.P.cellsOf e) (by rw[eQ];exact ay _);rw[Aq,eQ,CW (by simp[size_madeCells])]at D3;obtain⟨gI,e1,e2,e3⟩:=hr ψ Q a w p (fun x hx=>by simp only[Op.operands,ho,List.mem_toArray,dP];exact⟨x,hx,rfl⟩) _ D3 (AO jn);have vy:=e2.sv;rw[hl]at vy;refine⟨.slice (some ⟨w.heap.size,0,none⟩) len len,w.alloc (.cells gI e),⟨w.heap.size,0,gI.size⟩,?_,.alloc w _,ay _,by simp,Am (by rw[CW (by simp[hl,vy])];exact e2) e3,fun ψ' _ su=>?_⟩
    ·have hn: ¬(len*C.P.cellsOf e>2^24):=by omega
     by_cases h0:len*C.P.cellsOf e=0
     ·have e0:madeCells zv.cells (len*C.P.cellsOf e)= #[]:=by rw[h0];simp[madeCells,Array.range_zero']
      rw[e0]at e1;simp only[execOp,ho,Instr.buildSlice,Sem.run_bind,Zj w ht,Result.andThen_ok,sizeOf,typeInfo,run_program,tH,Sem.run_pure,U2,h0,iM,Array.range_zero',Array.map_empty];simp[e1,newRow]
     ·simp only[execOp,ho,Instr.buildSlice,Sem.run_bind,Zj w ht,Result.andThen_ok,sizeOf,typeInfo,run_program,tH,Sem.run_pure,U2,hn,iY,h0,EA]
      unfold madeCells at e1;simp[e1,newRow]
    ·have:=VR.slice (C:=C) (ψ:=ψ') (C.P.cellsOf e) s.length 0 len ⟨w.heap.size,0,gI.size⟩ ⟨w.heap.size,0,none⟩ len su (ay _) (fun _=>⟨rfl,by simp only;omega⟩)
     exact this
  |_=>cases h
theorem Zqg {t:TypeId} {l c:Operand} (ho:o.op= .makeSlice t l c) (aJ: ∀h,W h->D h) {K:Env->M β} {r:Out β×St} (h:NG C E o K t l c s=some r):br C md pr ms o D W E s K r:=by
 unfold NG sZ at h;cases ht:C.P.underlying t with
 |none=>rw[ht]at h;cases h
 |some td=>
  rw[ht]at h;cases td with
  |slice e=>
   simp only at h;cases hz:kE C.P e with
   |none=>rw[hz]at h;cases h
   |some z=>
    rw[hz]at h;simp only at h;obtain⟨eQ,h⟩:=Zp h;have eQ:=cc eQ;obtain⟨k1,n,hn,h⟩:=Av h;obtain⟨k2,m,hm,h⟩:=Av h;obtain⟨hb,h⟩:=ZP h;simp only[aH,j4]at hb;obtain⟨⟨h0,h1⟩,h2⟩:=hb;refine br.EI (by unfold pA;rw[ho];trivial) aJ (.slice (C.P.cellsOf e) (some (s.length,0)) n.toNat) (fD n.toNat z) h fun ψ Q a w p=>?_
    unfold kE at hz;cases hi:C.P.info? e with
    |none=>rw[hi]at hz;cases hz
    |some ie=>
     rw[hi]at hz;simp only at hz;cases rn:ie.zero with
     |none=>rw[rn]at hz;cases hz
     |some zv=>
      rw[rn]at hz;obtain⟨jn,gZ⟩:=As (C:=C) (ψ:=ψ) hz;have bG:ie.size=C.P.cellsOf e:=by simp[Program.cellsOf,hi]
      have Xd:(ie.bytes:Int)*m<=281474976710656:=by
       unfold xA Ju at h2;rw[hi]at h2;simp only at h2;have h3:m.toNat<=70368744177664/ie.bytes:=by omega
       rcases vU ie.bytes with hz|hp
       ·rw[hz];simp
       ·have:=(Nat.le_div_iff_mul_le hp).1 h3
        have e:m=(m.toNat:Int):=by omega
        rw[e,<-Int.natCast_mul,pq];omega
      have Kh:m<=9223372036854775807:=by
       unfold xA at h2;have:=B5 70368744177664 (Ju C.P e);omega
      have hr:=run_make (P:=C.P) w t e ie zv ht hi rn k1 k2 n m h0 h1 Xd Kh;have hle:n.toNat*C.P.cellsOf e<=m.toNat*ie.size:=by rw[bG];exact uq _ (by omega)
      refine⟨.slice (some ⟨w.heap.size,0,none⟩) n.toNat m.toNat,w.alloc (.cells (madeCells zv.cells (m.toNat*ie.size)) e),⟨w.heap.size,0,(madeCells zv.cells (m.toNat*ie.size)).size⟩,?_,.alloc w _,ay _,by simp,Am (PE jn n.toNat (m.toNat*ie.size) (by rw[eQ];exact hle)) (AO gZ),fun ψ' _ su=>?_⟩
      ·have e1:=p.int (x:=l) (by simp[Op.operands,ho]) hn
       have e2:=p.int (x:=c) (by simp[Op.operands,ho]) hm;simp only[execOp,ho,e1,e2,Sem.run_bind,hr,Result.andThen_ok,Sem.run_pure]
      ·exact VR.slice _ _ 0 _ _ _ _ su (by omega) (fun _=>⟨rfl,by simp only[size_madeCells,bG];omega⟩)
  |_=>cases h
theorem ZyN {q:Call} {b:Builtin} (hq:q.callee= .builtin b) (hb:b= .len) (ho:o.op= .call q) (aJ: ∀h,W h->D h) {K:Env->M β} {r:Out β×St} (h:Ti C E o K q.argTypes q.args s=some r):br C md pr ms o D W E s K r:=by
 subst hb;unfold Ti at h;cases ha:q.args.toList with
 |nil=>rw[ha]at h;cases h
 |cons y rest=>
  cases rest with
  |cons _ _=>rw[ha]at h;cases h
  |nil=>
   cases ht:q.argTypes[0]? with
   |none=>rw[ha,ht]at h;cases h
   |some t=>
    rw[ha,ht]at h;simp only at h;have iR:q.args= #[y]:=by rw[<-Array.toArray_toList (xs:=q.args),ha]
    have mem:y∈o.op.operands:=by rw[ho];simp[Op.operands,Call.operands,hq,iR]
    have run: ∀(a:Act) (w:World) v,(Builtin.len_ q.argTypes o.type #[a.eval y]).run C.P w= .ok v w->(execOp a.eval o).run C.P w= .ok (.value v) w:=by
     intro a w v hv;simp[execOp,ho,resolve,hq,invoke,builtin,iR,hv]
    cases hu:C.P.underlying t with
    |none=>rw[hu]at h;cases h
    |some td=>
     rw[hu]at h;cases td with
     |array m e=>
      refine br.val aJ _ h fun ψ Q a w p=>⟨.int .i64 m,w,run a w _ ?_,.refl w,.int _ _⟩
      simp[Builtin.len_,ht,Zj w hu,goInt]
     |string=>
      simp only at h;obtain⟨d,hd,h⟩:=Zs h;cases d with
      |str l=>
       refine br.val aJ _ h fun ψ Q a w p=>?_
       have hv:=p.val mem hd;generalize hy:a.eval y=v at hv;cases hv with
       |str x=>
        refine⟨.int .i64 x.size,w,run a w _ ?_,.refl w,?_⟩
        ·simp[Builtin.len_,ht,Zj w hu,goInt,hy]
        ·have:x.data.toList.length=x.size:=by rw[jC];rfl
         rw[this];exact .int _ _
      |_=>cases h
     |slice e=>
      simp only at h;obtain⟨d,hd,h⟩:=Zs h;cases d with
      |slice z a' n=>
       refine br.val aJ _ h fun ψ Q a w p=>?_
       have hv:=p.val mem hd;generalize hy:a.eval y=v at hv;cases hv with
       |oU=>exact⟨.int .i64 (0:Nat),w,run a w _ (by simp[Builtin.len_,ht,Zj w hu,goInt,hy]),.refl w,.int _ _⟩
       |slice _ i off _ cb base cap=>exact⟨.int .i64 n,w,run a w _ (by simp[Builtin.len_,ht,Zj w hu,goInt,hy]),.refl w,.int _ _⟩
      |_=>cases h
     |_=>cases h
theorem ZrR {q:Call} {b:Builtin} {mx:Bool} (hq:q.callee= .builtin b) (hb:b=if mx then .max else .min) (ho:o.op= .call q) (aJ: ∀h,W h->D h) {K:Env->M β} {r:Out β×St} (h:LC C E o K mx q.args s=some r):br C md pr ms o D W E s K r:=by
 unfold LC at h;cases ha:q.args.toList with
 |nil=>rw[ha]at h;cases h
 |cons y rest=>
  cases rest with
  |nil=>rw[ha]at h;cases h
  |cons z rest=>
   cases rest with
   |cons _ _=>rw[ha]at h;cases h
   |nil=>
    rw[ha]at h;simp only at h;have iR:q.args= #[y,z]:=by rw[<-Array.toArray_toList (xs:=q.args),ha]
    have my:y∈o.op.operands:=by rw[ho];simp[Op.operands,Call.operands,hq,iR]
    have mz:z∈o.op.operands:=by rw[ho];simp[Op.operands,Call.operands,hq,iR]
    obtain⟨d,hd,h⟩:=Zs h;obtain⟨e,he,h⟩:=Zs h;cases d with
    |int k n=>
     cases e with
     |int k' m=>
      simp only at h;obtain⟨hk,h⟩:=Zp h;refine br.val aJ _ h fun ψ Q a w p=>?_
      have e1:=p.int my hd;have e2:=p.int mz he;cases mx with
      |true=>
       simp only[iM]at hb;subst hb;exact⟨.int k (if n<m then m else n),w,by simp[execOp,ho,resolve,hq,invoke,builtin,iR,e1,e2,Builtin.max_,Builtin.max2],.refl w,.int _ _⟩
      |false=>
       simp only[oe,iY]at hb;subst hb;exact⟨.int k (if m<n then m else n),w,by simp[execOp,ho,resolve,hq,invoke,builtin,iR,e1,e2,Builtin.min_,Builtin.min2],.refl w,.int _ _⟩
     |_=>cases h
    |_=>cases h
end
end Go.Gv
namespace Go.Gv
variable {β:Type}
section
variable {C:aP} {o:Oper} {D W:cB->Prop} {E:Env} {s:St} {md:Md} {pr ms:List Nat}
theorem P0 {a:Option (Nat×Nat)} {n:Nat} {K:List DV->M β} {r:Out β×St} (h:M.rd a n K s=some r):
  ∃ds,K ds s=some r/\ds.length=n/\((a=none/\n=0/\ds=[])\/∃i q f cs,a=some (i,q)/\cq s i=some (.cells f cs)/\q+n<=cs.length/\ds=(cs.drop q).take n):=by
 cases a with
 |none=>
  simp only[M.rd]at h;obtain⟨h1,h⟩:=Zp h;have:=cc h1;exact⟨[],h,this.symm,.inl ⟨rfl,this,rfl⟩⟩
 |some iq=>
  obtain⟨i,q⟩:=iq;simp only[M.rd]at h;obtain⟨f,cs,h1,h2,h⟩:=CO h;exact⟨_,h,by simp;omega,.inr ⟨i,q,f,cs,rfl,h1,h2,rfl⟩⟩
theorem JP {ψ:Ps} {Q:Kn} {A:Act} {w:World} (p:ar C o D E s ψ Q A w) (hD: ∀i,D (.inl i)) {z sz m k n:Nat} {a:Option (Nat×Nat)} {v:Value} {ds:List DV} (hv:VR C ψ (.slice z a m) v)
  (hz:z=sz\/a=none) (hn:n=k*sz) (hk:k<=m)
  (lF:(a=none/\n=0/\ds=[])\/∃i q f cs,a=some (i,q)/\cq s i=some (.cells f cs)/\q+n<=cs.length/\ds=(cs.drop q).take n):
  ∃base cap vs,v= .slice base m cap/\(∀w',w'.heap=w.heap->(Builtin.firstCells sz k v).run C.P w'= .ok vs w')/\aS C ψ ds vs.toList/\ds.all one=true:=by
 subst hn;cases hv with
 |oU=>
  rcases lF with⟨_,_,rfl⟩|⟨i,q,f,cs,h,_⟩
  ·exact⟨none,0, #[],rfl,fun w' _=>by simp[Builtin.firstCells],.nil,rfl⟩
  ·cases h
 |slice _ i q _ cb ad cap fZ nF hb=>
  rcases lF with⟨h,_⟩|⟨i',q',f,cs,h,h1,h2,rfl⟩
  ·cases h
  ·cases h
   have hz:z=sz:=by rcases hz with h|h;exact h;cases h
   subst hz;have hh:=p.at (hD i) h1 fZ;by_cases h0:k*z=0
   ·refine⟨some ad,cap, #[],rfl,fun w' _=>?_,?_,?_⟩
    ·simp[Builtin.firstCells,h0,loadCells,loadCellsFrom]
    ·rw[h0];simp only[xV];exact .nil
    ·rw[h0];simp
   ·have hc:0<cap:=by
     rcases vU k with h|h
     ·subst h;simp at h0
     ·omega
    obtain⟨e1,e2⟩:=hb hc;obtain⟨vs,e3,e4,e5,e6⟩:=Zmn (P:=C.P) hh h2;exact⟨some ad,cap,vs,rfl,fun w' hw=>by simp only[Builtin.firstCells,e1,e3 w' hw],e5,e6⟩
theorem Zqi {ψ:Ps} : ∀ {ds:List DV} {l:List UInt8} {vs:List Value},pD ds=some l->aS C ψ ds vs->∃ns:List Int,vs=ns.map (Value.int .u8)/\ns.map (fun n=>UInt8.ofNat n.toNat)=l
 |[],l,vs,h,hv=>by
  simp only[pD,cX]at h;cases hv;exact⟨[],rfl,h⟩
 |d::ds,l,vs,h,hv=>by
  cases hv with
  |cons _ v _ vs h1 h2=>
   cases h1 with
   |int k n=>
    cases k with
    |u8=>
     simp only[pD,Option.map_eq_some_iff]at h;obtain⟨l',h3,h4⟩:=h;obtain⟨ns,e1,e2⟩:=Zqi h3 h2;exact⟨n::ns,by simp[e1],by simp[e2,h4]⟩
    |_=>simp[pD]at h
   |_=>simp[pD]at h
theorem Zzv {cs:List DV} {K:List UInt8->M β} {r:Out β×St} (h:Go.Gv.D.bT cs K s=some r): ∃l,pD cs=some l/\K l s=some r:=by
 unfold Go.Gv.D.bT at h;cases he:pD cs with
 |none=>rw[he]at h;cases h
 |some l=>rw[he]at h;exact⟨l,rfl,h⟩
end
section
variable {C:aP} {o:Oper} {D W:cB->Prop} {E:Env} {s:St} {md:Md} {pr ms:List Nat}
theorem ZlP {ψ:Ps} (l:List UInt8):aS C ψ (ZF l) (l.map fun b=>Value.int .u8 b.toNat):=by
 induction l with
 |nil=>exact .nil
 |cons b l ih=>exact .cons _ _ _ _ (.int _ _) ih
theorem MW (l:List UInt8):(ZF l).all one=true:=by simp[ZF,one]
@[simp] theorem WJ (l : List UInt8) : (ZF l).length = l.length := by simp [ZF]
def Jo (w:World) (c:Array Value) (e:TypeId):World:= { w with heap:=w.heap.push (.cells c e (c.size,c.size+1)) }
theorem Zte (w:World) (c:Array Value) (e:TypeId):fF w (Jo w c e):=fF.alloc w (.cells c e (c.size,c.size+1))
theorem Zwr {P:Program} (w:World) (c:Array Value) (e:TypeId):(markStringish ⟨w.heap.size,0,none⟩).run P (w.alloc (.cells c e))= .ok () (Jo w c e):=by
 have h1:(w.alloc (.cells c e)).shape? w.heap.size=some (e,c.size):=by simp only[World.shape?,heap_alloc_new]
 unfold markStringish;simp only[Sem.run_bind,run_shape,h1,Result.andThen_ok,run_freeze];congr 1;unfold World.freeze Jo World.alloc;simp only[Nat.one_ne_zero,iY];congr 1;apply Fo;intro k;rw[Array.getElem?_modify,Array.getElem?_push,Array.getElem?_push];by_cases hk:k=w.heap.size
 ·subst hk;simp
 ·simp only[hk,iY]
  rw[ax (fun e=>hk e.symm)]
theorem ZwR {P:Program} {e:TypeId} (h:Lr P e=true):P.underlying e=some (.int .u8):=by
 unfold Lr at h;cases he:P.underlying e with
 |none=>rw[he]at h;cases h
 |some ed=>
  rw[he]at h;cases ed with
  |int k=>cases k<;>first|rfl|cases h
  |_=>cases h
theorem ZsA {t u:TypeId} {y:Operand} (ho:o.op= .convert t u y) (aJ: ∀h,W h->D h) (hD: ∀i,D (.inl i)) {K:Env->M β} {r:Out β×St} (h:O7 C E o K t u y s=some r):br C md pr ms o D W E s K r:=by
 have my:y∈o.op.operands:=by rw[ho];simp[Op.operands]
 unfold O7 at h;obtain⟨td,ht,h⟩:=mC h;have run: ∀(a:Act) (w w':World) v,(convert t u (a.eval y)).run C.P w= .ok v w'->(execOp a.eval o).run C.P w= .ok (.value v) w':=by
  intro a w w' v hv;simp[execOp,ho,hv]
 cases hu:C.P.underlying u with
 |none=>rw[hu]at h;cases h
 |some ud=>
  rw[hu]at h;cases ud with
  |int k=>
   simp only at h;obtain⟨d,hd,h⟩:=Zs h;cases d with
   |int k' n=>
    refine br.val aJ _ h fun ψ Q a w p=>⟨.int k (k.wrap n),w,run a w w _ ?_,.refl w,.int _ _⟩
    rw[p.int my hd];simp[convert,Zj w ht,Zj w hu,Conv.intToInt]
   |_=>cases h
  |string=>
   simp only at h;rw[ht]at h;cases td with
   |int k0=>
    simp only at h;obtain⟨d,hd,h⟩:=Zs h;cases d with
    |int k' n=>
     refine br.val aJ _ h fun ψ Q a w p=>⟨.string (Utf8.encode n),w,run a w w _ ?_,.refl w,.str _⟩
     rw[p.int my hd];simp[convert,Zj w ht,Zj w hu,Conv.intToString]
    |_=>cases h
   |string=>
    simp only at h;obtain⟨d,hd,h⟩:=Zs h;cases d with
    |str l=>
     refine br.val aJ _ h fun ψ Q a w p=>?_
     have hv:=p.val my hd;generalize hy:a.eval y=v at hv;cases hv with
     |str x=>exact⟨.string x,w,run a w w _ (by rw[hy];simp[convert,Zj w ht,Zj w hu]),.refl w,.str _⟩
    |_=>cases h
   |slice e=>
    simp only at h;obtain⟨h8,h⟩:=Zp h;have he:=ZwR h8;obtain⟨d,hd,h⟩:=Zs h;cases d with
    |slice z a' n=>
     simp only at h;obtain⟨hz,h⟩:=Zp h;obtain⟨ds,h,_,lF⟩:=P0 h;obtain⟨l,hl,h⟩:=Zzv h;refine br.val aJ _ h fun ψ Q A w p=>?_
     have xx:z=1\/a'=none:=by
      rw[jD]at hz;rcases hz with h|h
      ·exact .inl (cc h)
      ·exact .inr (by simpa using h)
     obtain⟨base,cap,vs,hv,cH,hr,_⟩:=JP p hD (p.val my hd) xx (k:=n) (by simp) (ay _) lF;obtain⟨ns,e1,e2⟩:=Zqi hl hr;cases base with
     |none=>
      have:ds=[]:=by
       have cQ:=p.val my hd;rw[hv]at cQ;cases cQ;rcases lF with⟨_,_,h⟩|⟨_,_,_,_,h,_⟩
       ·exact h
       ·cases h
      subst this;simp only[pD,cX]at hl;subst hl;refine⟨.string .empty,w,run A w w _ ?_,.refl w,.str .empty⟩;rw[hv];simp[convert,Zj w ht,Zj w hu,Zj w he,Conv.bytesToString]
     |some b=>
      have Ye:(loadCells b n).run C.P w= .ok (ns.map (Value.int .u8)).toArray w:=by
       have cH:=cH w rfl;rw[hv]at cH;simp only[Builtin.firstCells,di]at cH;rw[cH,<-e1]
      refine⟨.string (ns.foldl (fun r n=>r.push (UInt8.ofNat n.toNat)) ByteArray.empty),w,run A w w _ ?_,.refl w,?_⟩
      ·rw[hv,run_convert_bytes_string w t u e (some b) n cap ht he hu]
       exact run_bytesToString w b n cap ns Ye
      ·have:(ns.foldl (fun r n=>r.push (UInt8.ofNat n.toNat)) ByteArray.empty).data.toList=l:=by
        rw[foldl_push_bytes,<-e2];simp
       rw[<-this];exact .str _
    |_=>cases h
   |_=>cases h
  |slice e=>
   simp only at h;obtain⟨h8,h⟩:=Zp h;have he:=ZwR h8;obtain⟨d,hd,h⟩:=Zs h;cases d with
   |str l=>
    simp only at h;refine br.EI (by unfold pA;rw[ho];trivial) aJ _ _ h fun ψ Q a w p=>?_
    have hv:=p.val my hd;generalize hy:a.eval y=v at hv;cases hv with
    |str x=>
     have hx:x.data.toList.length=x.size:=by rw[jC];rfl
     let cap:=(Question.appendCap x.size 0 e).cut (w.tape w.drawn (.appendCap x.size 0 e))
     have nF:x.size<=cap:=by simp only[cap,Question.cut];omega
     let c:Array Value:=(x.data.map fun b=>Value.int .u8 b.toNat)++Array.replicate (cap-x.size) (.int .u8 0)
     have hc:c.size=cap:=by
      have:x.data.size=x.size:=rfl;simp[c,this];omega
     refine⟨.slice (some ⟨w.heap.size,0,none⟩) x.size cap,Jo w.drew c e,⟨w.heap.size,0,c.size⟩,run a w _ _ ?_,(fF.drew w).trans (Zte w.drew c e),ay _,(by show w.heap.size<(w.heap.push _).size;simp),?_,fun ψ' _ su=>?_⟩
     ·rw[hy]
      have hm:=Zwr (P:=C.P) w.drew c e;simp only[convert,Sem.run_bind,Zj w ht,Zj w hu,Result.andThen_ok,Zj w he];have hq:(Question.appendCap x.size 0 e).forced=false:=rfl;simp only[Conv.stringToBytes,Sem.run_bind,run_choose,hq,oe,iY,Result.andThen_ok,newRow,run_newObj,Sem.run_pure];exact(congrArg (fun r=>Result.andThen r fun _ w'=>Result.ok (Value.slice (some ⟨w.heap.size,0,none⟩) x.size cap) w') hm)
     ·refine Zsa (ty:=e) (fr:=(c.size,c.size+1)) (by show(w.heap.push _)[w.heap.size]? =_;simp) (.inr (ay _)) ?_ (MW _)
      have:c.toList.take (ZF x.data.toList).length=x.data.toList.map fun b=>Value.int .u8 b.toNat:=by
       rw[WJ];simp only[c,Array.toList_append,Array.toList_map];rw[zW (by simp),cA (by simp)]
      rw[this];exact ZlP _
     ·rw[hx]
      have:=VR.slice (C:=C) (ψ:=ψ') 1 s.length 0 x.size ⟨w.heap.size,0,c.size⟩ ⟨w.heap.size,0,none⟩ cap su nF (fun _=>⟨rfl,by simp only[hc];omega⟩);exact this
   |_=>cases h
  |_=>cases h
end
end Go.Gv
namespace Go.Gv
variable {β:Type}
section
variable {C:aP} {o:Oper} {D W:cB->Prop} {E:Env} {s:St} {md:Md} {pr ms:List Nat}
theorem Zzo {sz:Nat} {a:Option (Nat×Nat)} {len:Nat} {ds:List DV} {m lim:Nat} {K:Option (Nat×Nat)->M β} {r:Out β×St} (h:M.app sz a len ds m lim K s=some r):
  (m=0/\K a s=some r)\/(0<m/\len+m<=lim/\((a=none/\len=0/\K (some (s.length,0)) (s++[some ⟨false,ds⟩])=some r)\/
   ∃i q cs,a=some (i,q)/\s.fH i=some cs/\q+len*sz<=cs.length/\K (some (s.length,0)) (s.set i none++[some ⟨false,(cs.drop q).take (len*sz)++ds⟩])=some r)):=by
 unfold M.app at h;cases h0:Nat.beq m 0 with
 |true=>rw[h0]at h;exact .inl ⟨cc h0,h⟩
 |false=>
  rw[h0]at h;simp only[cond_false]at h;have hm:=zY h0;cases h1:Nat.ble (len+m) lim with
  |false=>rw[h1]at h;cases h
  |true=>
   rw[h1]at h;simp only[cond_true]at h;refine .inr ⟨by omega,lW h1,?_⟩;cases a with
   |none=>
    simp only at h;cases h2:Nat.beq len 0 with
    |false=>rw[h2]at h;cases h
    |true=>rw[h2]at h;exact .inl ⟨rfl,cc h2,h⟩
   |some iq=>
    obtain⟨i,q⟩:=iq;simp only at h;cases h3:s.fH i with
    |none=>rw[h3]at h;cases h
    |some cs=>
     rw[h3]at h;simp only at h;cases h4:Nat.ble (q+len*sz) cs.length with
     |false=>rw[h4]at h;cases h
     |true=>rw[h4]at h;exact .inr ⟨i,q,cs,rfl,h3,lW h4,h⟩
def x0 (P:Program) (ts:Array TypeId):Prop:=match ts[1]? with|none=>True|some t=>∃d,P.underlying t=some d/\∀k,d≠ .int k
theorem ZxP {ts:Array TypeId} {K:M β} {r:Out β×St} (h:Te C.P ts K s=some r):x0 C.P ts/\K s=some r:=by
 unfold Te at h;unfold x0;cases ht:ts[1]? with
 |none=>rw[ht]at h;exact⟨trivial,h⟩
 |some t=>
  rw[ht]at h;simp only at h⊢;cases hu:C.P.underlying t with
  |none=>rw[hu]at h;cases h
  |some d=>
   rw[hu]at h;cases d with
   |int k=>cases h
   |_=>exact⟨⟨_,rfl,by simp⟩,h⟩
theorem ZkB {P:Program} {ts:Array TypeId} {t e:TypeId} {ed:TypeDesc} (h0:ts[0]? =some t) (ht:P.underlying t=some (.slice e)) (he:P.underlying e=some ed) (hn:x0 P ts) (ty:TypeId)
  (base:Option Addr) (n m cap:Nat) (X:Value) (w w':World) (new:Array Value) (hX:(Builtin.lenOf X).run P w= .ok m w) (hc:n+m<=cap)
  (hf:(Builtin.firstCells (P.cellsOf e) m X).run P w= .ok new w) (hs: ∀a,base=some a->(storeCells (a.add (n*P.cellsOf e)) new.toList).run P w= .ok () w') (hb:base=none->w'=w):
  (Builtin.append_ ts ty #[.slice base n cap,X]).run P w= .ok (.slice base (n+m) cap) w':=by
 have key:(P.underlying t=some (.slice e))->(do
   let n' <-Builtin.lenOf X
   let EH:=n+n'
   if EH<=cap then
    let new <-Builtin.firstCells (P.cellsOf e) n' X
    if let some a:=base then storeCells (a.add (n*P.cellsOf e)) new.toList
    pure (.slice base EH cap)
   else stuck "" :Sem Value).run P w= .ok (.slice base (n+m) cap) w':=by
  intro _;simp only[Sem.run_bind,hX,Result.andThen_ok,hc,iM,hf];cases base with
  |none=>have:=hb rfl;subst this;simp
  |some a=>simp[hs a rfl]
 have key:=key ht;simp only[Sem.run_bind,hX,Result.andThen_ok,hc,iM,hf]at key;unfold Builtin.append_;unfold x0 at hn;cases h1:ts[1]? with
 |none=>
  simp only[h0,BY,gV,mq,Sem.run_bind,Zj w ht,Result.andThen_ok,ZQ w he,Sem.run_pure,oe,iY,hX,bD,iM,hc,hf];exact key
 |some t1=>
  rw[h1]at hn;obtain⟨d,hd,cZ⟩:=hn;simp only[h0,BY,gV,mq,Sem.run_bind,Zj w ht,Result.andThen_ok,ZQ w he,Zj w hd];cases d<;>first|exact absurd rfl (cZ _)|(simp only[Sem.run_pure,Result.andThen_ok,Sem.run_bind,oe,iY,hX,bD,iM,hc,hf];exact key)
theorem Zq6 (z:Array Value) (n:Nat):(Builtin.zeroCells z n).size=n*z.size:=by simp[Builtin.zeroCells]
theorem ZpW {P:Program} {ts:Array TypeId} {t e:TypeId} {ed:TypeDesc} {ie:TypeInfo} {z:Value} (h0:ts[0]? =some t) (ht:P.underlying t=some (.slice e)) (he:P.underlying e=some ed) (tH:P.info? e=some ie)
  (tT:ie.zero=some z) (hn:x0 P ts) (ty:TypeId) (base:Option Addr) (n m cap:Nat) (X:Value) (w:World) (ej new:Array Value) (hX: ∀w,(Builtin.lenOf X).run P w= .ok m w) (hc:cap<n+m)
  (hb:(n+m)*ie.bytes<=70368744177664) (Kh:n+m<=70368744177664) (ho:(Builtin.firstCells (P.cellsOf e) n (.slice base n cap)).run P w.drew= .ok ej w.drew) (hf:(Builtin.firstCells (P.cellsOf e) m X).run P w.drew= .ok new w.drew):
  ∃k,n+m<=k/\(Builtin.append_ ts ty #[.slice base n cap,X]).run P w= .ok (.slice (some ⟨w.heap.size,0,none⟩) (n+m) k) (w.drew.alloc (.cells (ej++new++Builtin.zeroCells z.cells (k-(n+m))) e)):=by
 refine⟨(Question.appendCap (n+m) cap e).cut (w.tape w.drawn (.appendCap (n+m) cap e)),by simp only[Question.cut];omega,?_⟩;have hq:(Question.appendCap (n+m) cap e).forced=false:=rfl;have g1: ¬(n+m<=cap):=by omega
 have g2: ¬(Builtin.nextslicecap (n+m) cap*ie.bytes>2^48):=by
  have:=growslice_fits (bytes:=ie.bytes) hc (by omega);omega
 have g3: ¬(((n+m:Nat):Int)>IntKind.i64.max):=by
  have:IntKind.i64.max=9223372036854775807:=by decide
  rw[this];omega
 have g4: ¬(((n+m:Nat):Int)>IntKind.i64.max/\(False\/ie.bytes=0)):=fun h=>g3 h.1
 have U1: ∀w,(typeInfo e).run P w= .ok ie w:=fun w=>by simp[typeInfo,tH]
 have xx: ∀w,(zeroValue e).run P w= .ok z w:=fun w=>by simp[zeroValue,typeInfo,tH,tT]
 unfold Builtin.append_;unfold x0 at hn;cases h1:ts[1]? with
 |none=>
  simp only[h0,BY,gV,mq,Sem.run_bind,Zj w ht,Result.andThen_ok,ZQ w he,Sem.run_pure,oe,iY,hX,bD,iM,g1,U1,g4,
   g2,run_choose,hq,run_askRoom,World.drew_eq,ho,hf,xx,newRow,run_newObj,World.alloc_eq]
  rfl
 |some t1=>
  rw[h1]at hn;obtain⟨d,hd,cZ⟩:=hn;simp only[h0,BY,gV,mq,Sem.run_bind,Zj w ht,Result.andThen_ok,ZQ w he,Zj w hd];cases d<;>first|exact absurd rfl (cZ _)|(simp only[Sem.run_pure,Result.andThen_ok,Sem.run_bind,oe,iY,hX,bD,iM,g1,U1,g4,g2,run_choose,hq,run_askRoom,World.drew_eq,ho,hf,xx,newRow,run_newObj,World.alloc_eq];rfl)
theorem Ext.aaz {ψ ψ':Ps} {Q Q1 Q':Kn} {w w':World} (h:Ext ψ Q1 w ψ' Q' w') (hq: ∀k ab,Q1 k ab->Q k ab):Ext ψ Q w ψ' Q' w':=
 have so: ∀b,qA ψ Q1 b->qA ψ Q b:=fun _b ⟨k,cb,ab,e,q,hs,hb⟩=>⟨k,cb,ab,e,hq _ _ q,hs,hb⟩
 { h with
  oS:=fun k cb e=>(h.oS k cb e).imp id fun⟨x,y⟩=>⟨x.imp id (so _),y⟩
  gF:=fun b hb hn=>h.gF b hb fun e=>hn (so b e)
  fE:=fun b e=>(h.fE b e).imp (so b) id
  live:=fun k cb x e q=>let ⟨y,hy⟩:=h.live k cb x e q;⟨y,hq _ _ hy⟩ }
theorem ZsH {s:St} {i:Nat} :cq (s.set i none) i=none:=by
 unfold cq;by_cases h:i<s.length
 ·rw[fJ h]
 ·rw[dT (by rw[hU];exact Nat.le_of_not_lt h)]
theorem ZwN {q:Call} (hq:q.callee= .builtin .append) (ho:o.op= .call q) {y z:Operand} (ha:q.args= #[y,z]) {t e:TypeId} {ed:TypeDesc} {zv:List DV} (h0:q.argTypes[0]? =some t)
  (ht:C.P.underlying t=some (.slice e)) (he:C.P.underlying e=some ed) (hz:kE C.P e=some zv) (mS:zv.length=C.P.cellsOf e) (hn:x0 C.P q.argTypes) (aJ: ∀h,W h->D h) (hD: ∀i,D (.inl i))
  {z0 n m:Nat} {a:Option (Nat×Nat)} {ds:List DV} (hW: ∀i q,a=some (i,q)->W (.inl i)) (hd:E.src C y= .v (.slice z0 a n)) (tT:z0=C.P.cellsOf e\/a=none) (kf:ds.length=m*C.P.cellsOf e)
  (hX: ∀ψ Q A w,ar C o D E s ψ Q A w->(∀w,(Builtin.lenOf (A.eval z)).run C.P w= .ok m w)/\∃vs,aS C ψ ds vs.toList/\ds.all one=true/\∀w',w'.heap=w.heap->(Builtin.firstCells (C.P.cellsOf e) m (A.eval z)).run C.P w'= .ok vs w')
  {K:Env->M β} {r:Out β×St} (h:M.app (C.P.cellsOf e) a n ds m (xA C.P e) (fun p=>dC E o K (.slice (C.P.cellsOf e) p (n+m))) s=some r):br C md pr ms o D W E s K r:=by
 have my:y∈o.op.operands:=by rw[ho];simp[Op.operands,Call.operands,hq,ha]
 have hex: ∀(A:Act) (w w':World) v,(Builtin.append_ q.argTypes o.type #[A.eval y,A.eval z]).run C.P w= .ok v w'->(execOp A.eval o).run C.P w= .ok (.value v) w':=by
  intro A w w' v hv;simp[execOp,ho,resolve,hq,invoke,builtin,ha,hv]
 have YS: ∀vs:Array Value,∀ψ,m=0->aS C ψ ds vs.toList->vs.toList=[]:=by
  intro vs ψ hm hr;have:=hr.len;rw[kf,hm,nf]at this;exact pd.1 this.symm
 have grow: ∀ψ Q A w,ar C o D E s ψ Q A w->∀base cap ej,A.eval y= .slice base n cap->cap<n+m->n+m<=xA C.P e->(Builtin.firstCells (C.P.cellsOf e) n (.slice base n cap)).run C.P w.drew= .ok ej w.drew->
   ∃k new rest,n+m<=k/\aS C ψ ds new.toList/\ds.all one=true/\rest.size=(k-(n+m))*C.P.cellsOf e/\
    (execOp A.eval o).run C.P w= .ok (.value (.slice (some ⟨w.heap.size,0,none⟩) (n+m) k)) (w.drew.alloc (.cells (ej++new++rest) e)):=by
  intro ψ Q A w p base cap ej hy hc xc hold;obtain⟨hl,new,h1,h2,h3⟩:=hX ψ Q A w p;unfold kE at hz;cases hi:C.P.info? e with
  |none=>rw[hi]at hz;cases hz
  |some ie=>
   rw[hi]at hz;simp only at hz;cases rn:ie.zero with
   |none=>rw[rn]at hz;cases hz
   |some abD=>
    rw[rn]at hz;have Lo:=(As (C:=C) (ψ:=ψ) hz).1.sv;have hb:(n+m)*ie.bytes<=70368744177664:=by
     unfold xA Ju at xc;rw[hi]at xc;simp only at xc;rcases vU ie.bytes with hz|hp
     ·rw[hz];simp
     ·exact(Nat.le_div_iff_mul_le hp).1 xc
    have Kh:n+m<=70368744177664:=fw xc (B5 _ _);obtain⟨k,hk,cH⟩:=ZpW (P:=C.P) h0 ht he hi rn hn o.type base n m cap (A.eval z) w ej new hl hc hb Kh hold (h3 _ rfl);exact⟨k,new,_,hk,h1,h2,by rw[Zq6,<-Lo,mS],hex A w _ _ (by rw[hy];exact cH)⟩
 rcases Zzo h with⟨hm,h⟩|⟨hm,xc,h⟩
 ·
  refine br.val aJ _ h fun ψ Q A w p=>?_
  obtain⟨hl,new,h1,h2,h3⟩:=hX ψ Q A w p;have fS:=YS new ψ hm h1;subst hm;have hv:=p.val my hd;generalize hy:A.eval y=v at hv;have ve: ∀base cap,v= .slice base n cap->n<=cap->(execOp A.eval o).run C.P w= .ok (.value (.slice base n cap)) w:=by
   intro base cap hv hc;refine hex A w w _ ?_;rw[hy,hv];have:=ZkB (P:=C.P) h0 ht he hn o.type base n 0 cap (A.eval z) w w new (hl w) hc (h3 w rfl) (fun a _=>by rw[fS];rfl) (fun _=>rfl);exact this
  cases hv with
  |oU=>exact⟨_,w,ve none 0 rfl (ay _),.refl w,.oU _⟩
  |slice _ i q0 _ cb ad cap fZ nF hb=>
   have:z0=C.P.cellsOf e:=by rcases tT with h|h;exact h;cases h
   subst this;exact⟨_,w,ve _ cap rfl nF,.refl w,.slice _ _ _ _ cb ad cap fZ nF hb⟩
 ·rcases h with⟨rfl,rfl,h⟩|⟨i,q0,cs,rfl,hi,hle,h⟩
  ·
   refine br.EI (by unfold pA;rw[ho];simp only[hq]) aJ _ ds h fun ψ Q A w p=>?_
   have hv:=p.val my hd;generalize hy:A.eval y=v at hv;cases hv;obtain⟨k,new,rest,hk,h1,h2,h3,cH⟩:=grow ψ Q A w p none 0 #[] hy (by omega) xc (by simp[Builtin.firstCells]);have bG:=h1.sv;refine⟨_,_,⟨w.heap.size,0,(#[]++new++rest).size⟩,cH,(fF.drew w).trans (fF.alloc w.drew _),ay _,by simp,?_,fun ψ' _ su=>?_⟩
   ·refine Am (w:=w.drew) ?_ h2
    have:(#[]++new++rest).toList.take ds.length=new.toList:=by
     rw[bG];simp
    rw[this];exact h1
   ·refine VR.slice _ _ 0 _ _ _ _ su hk (fun _=>⟨rfl,?_⟩)
    have:(#[]++new++rest).size=new.size+rest.size:=by simp
    simp only[this];rw[<-bG,kf,h3,dj,dj,<-qu];exact uq _ (by omega)
  ·
   have tT:z0=C.P.cellsOf e:=by rcases tT with h|h;exact h;cases h
   subst tT;obtain⟨bB,aj⟩:=O1 hi;have dc: ∀ab,cq (s.set i none++[some ⟨false,(cs.drop q0).take (n*C.P.cellsOf e)++ds⟩]) s.length=some ab->ab= .cells false ((cs.drop q0).take (n*C.P.cellsOf e)++ds):=by
    intro ab dc;have:=MA (s.set i none) ⟨false,(cs.drop q0).take (n*C.P.cellsOf e)++ds⟩;rw[hU]at this;rw[this]at dc;cases dc;rfl
   have hold: ∀j ab,cq (s.set i none++[some ⟨false,(cs.drop q0).take (n*C.P.cellsOf e)++ds⟩]) j=some ab->j≠s.length->j≠i/\cq s j=some ab:=by
    intro j ab hj bn;have vn:=yp hj;simp only[bg,hU,rG]at vn;rw[He (by rw[hU];omega)]at hj;by_cases jf:j=i
    ·subst jf;rw[ZsH]at hj;cases hj
    ·rw[Ii (Ne.symm jf)]at hj;exact⟨jf,hj⟩
   refine .inl ⟨_,_,h,j7.put pr ms _ rfl (fun _ _ _ _ h=>by cases h) (by simp) (fun j ab hj=>by
    by_cases e:j=s.length
    ·exact .inr (.inl (by omega))
    ·exact .inr (.inr (hold j ab hj e).2)) (fun j h hj=>by
    have bn:i≠j:=fun e=>h (e▸hW i q0 rfl)
    rw[iL (by rw[hU];exact hj),eu bn]) (.inr (by unfold pA;rw[ho];simp only[hq])),?_⟩
   intro ψ Q A w next QQ p room hn';have fS:sQ E s (E.dN o.dst (.v (.slice (C.P.cellsOf e) (some (s.length,0)) (n+m)))) (s.set i none++[some ⟨false,(cs.drop q0).take (n*C.P.cellsOf e)++ds⟩]) (.inl s.length):=⟨by simp[cS],by simp[cS]⟩;have hf:=room _ fS;have hv:=p.val my hd;generalize hy:A.eval y=v at hv;cases hv with
   |slice _ _ _ _ cb ad cap fZ nF hb=>
    have xj:Q (.inl i) (.cells false cs):=p.il (.inl i) _ cb (hD i) bB fZ;have hh:=p.dH.holds _ cb _ fZ xj;obtain⟨hl,new,h1,h2,h3⟩:=hX ψ Q A w p;have hlen:((cs.drop q0).take (n*C.P.cellsOf e)).length=n*C.P.cellsOf e:=by simp;omega
    have XK:((cs.drop q0).take (n*C.P.cellsOf e)++ds).length=(n+m)*C.P.cellsOf e:=by rw[bg,hlen,kf,qu]
    have ca:((cs.drop q0).take (n*C.P.cellsOf e)++ds).all one=true:=by rw[rF,PM hh.2.1,h2];rfl
    have fin: ∀v' w' eN,(execOp A.eval o).run C.P w= .ok (.value v') w'->dU C (lO ψ (.inl s.length) eN) (EG Q (.inl i) (.inl s.length) (.cells false ((cs.drop q0).take (n*C.P.cellsOf e)++ds))) w'->
      Ext ψ Q w (lO ψ (.inl s.length) eN) (EG Q (.inl i) (.inl s.length) (.cells false ((cs.drop q0).take (n*C.P.cellsOf e)++ds))) w'->
      VR C (lO ψ (.inl s.length) eN) (.slice (C.P.cellsOf e) (some (s.length,0)) (n+m)) v'->o.wp C.P A w next QQ:=by
     intro v' w' eN cH vx qY iT;unfold Oper.wp;rw[cH];refine hn' _ _ v' w' ⟨vx,qY,fun h c e'=>?_,fun h ab c cr hw e'=>?_,fun h ab c e' q' nw _=>?_⟩ (fun d' jw=>?_)
     ·by_cases eh:h= .inl s.length
      ·subst eh;exact .inr fS
      ·rw[mc _ _ eh]at e';exact .inl e'
     ·by_cases eh:h= .inl s.length
      ·subst eh;exact .inl ⟨rfl,dc ab cr⟩
      ·rw[mc _ _ eh]at e'
       have ej:h≠ .inl i/\CR E s h ab:=by
        cases h with
        |inl j=>
         obtain⟨a1,a2⟩:=hold j ab cr (fun e=>eh (by rw[e]));exact⟨fun e=>a1 (by cases e;rfl),a2⟩
        |inr x=>
         have mg:CR (E.dN o.dst (.v (.slice (C.P.cellsOf e) (some (s.length,0)) (n+m)))) s (.inr x) ab:=cr;exact⟨by simp,mg.dN rfl⟩
       refine .inr ⟨eh,ej.1,?_⟩;rcases hw with hw|⟨n1,n2⟩
       ·exact p.il h ab c (aJ h hw) ej.2 e'
       ·exact absurd (ej.2.nB p.fA) n1
     ·cases h with
      |inl j=>exact .inr ⟨fun eq=>(by rw[eq,hf]at e';cases e'),fun eq=>nw (by rw[eq];exact hW i q0 rfl),q'⟩
      |inr x=>exact .inr ⟨by simp,by simp,q'⟩
     ·rw[Env.iQ,aG jw];exact iT
    by_cases ve:n+m<=cap
    ·obtain⟨e1,e2⟩:=hb (by omega)
     have UF:(n+m)*C.P.cellsOf e<=cap*C.P.cellsOf e:=uq _ ve;rw[qu]at UF;obtain⟨w',hw,cg,DQ⟩:=Zn3 (P:=C.P) (p:=q0+n*C.P.cellsOf e) (o':=q0) (cs':=(cs.drop q0).take (n*C.P.cellsOf e)++ds) hh h1 h2 (by rw[kf];omega) (by rw[XK,qu];omega) ca (fun j d jw=>by
      by_cases hj:j<n*C.P.cellsOf e
      ·rw[iL (by omega),lg,aG hj,lR]at jw
       exact .inr ⟨by omega,jw⟩
      ·rw[gU (by omega),hlen]at jw
       have vn:j-n*C.P.cellsOf e<ds.length:=by
        rcases eM (j-n*C.P.cellsOf e) ds.length with h'|h'
        ·exact h'
        ·rw[dT h']at jw;cases jw
       exact .inl ⟨by omega,by omega,by rw[show q0+j-(q0+n*C.P.cellsOf e)=j-n*C.P.cellsOf e by omega];exact jw⟩)
     have cH:=ZkB (P:=C.P) h0 ht he hn o.type (some ad) n m cap (A.eval z) w w' new (hl w) ve (h3 w rfl) (fun a' wP=>by
      cases wP;rw[e1,wj,lU];exact hw) (fun e=>by cases e)
     refine fin _ w' ⟨cb.b,cb.o+q0,cb.m-q0⟩ (hex A w _ _ (by rw[hy];exact cH)) (dU.move p.dH fZ xj rfl hf rfl cg.other (DQ.same (fun _ _ e=>rQ hf _ _ e) rfl))
      (Ext.move fZ xj rfl hf rfl (p.fh _ _ fZ) cg.other cg.size cg.tape cg.os cg.output) ?_
     exact VR.slice _ _ 0 _ _ _ _ (nk _ _ _) ve (fun _=>⟨by rw[e1];rfl,by simp only;omega⟩)
    ·obtain⟨base,aa4,ej,DI,xm,SA,Eh⟩:=JP p hD (p.val my hd) (.inl rfl) (k:=n) (n:=n*C.P.cellsOf e) rfl (ay _) (.inr ⟨i,q0,false,cs,rfl,bB,hle,rfl⟩)
     rw[hy]at DI;cases DI;have xm:=xm w.drew rfl;rw[hy]at xm;obtain⟨k,new,rest,hk,h1,h2,h3,cH⟩:=grow ψ Q A w p (some ad) cap ej hy (by omega) xc xm;have bG:=h1.sv;have SE:=SA.sv;rw[hlen]at SE;have mM:fF w (w.drew.alloc (.cells (ej++new++rest) e)):=(fF.drew w).trans (fF.alloc w.drew _);refine fin _ _ ⟨w.heap.size,0,(ej++new++rest).size⟩ cH ?_ ?_ ?_
     ·refine dU.new (Q:=fun k x=>k≠ .inl i/\Q k x) (p.dH.weaken fun _ _ _ _ q=>q.2) p.fh mM hf (ay _) ?_
      refine Am (w:=w.drew) ?_ ca;have:(ej++new++rest).toList.take ((cs.drop q0).take (n*C.P.cellsOf e)++ds).length=ej.toList++new.toList:=by
       rw[bg,hlen,bG,SE];simp only[Array.toList_append];rw[zW (by simp),cA (by simp)]
      rw[this];exact aS.append (SA.mono fun _ _ e=>rQ hf _ _ e) (h1.mono fun _ _ e=>rQ hf _ _ e)
     ·exact(Ext.new (Q:=fun k x=>k≠ .inl i/\Q k x) mM hf (ay _) (by simp)).aaz fun _ _ q=>q.2
     ·refine VR.slice _ _ 0 _ _ _ _ (nk _ _ _) hk (fun _=>⟨rfl,?_⟩)
      have:(ej++new++rest).size=ej.size+new.size+rest.size:=by simp[lU]
      simp only[this];rw[<-bG,<-SE,kf,h3,dj,<-qu,<-qu];exact uq _ (by omega)
end
end Go.Gv
namespace Go.Gv
variable {β:Type}
section
variable {C:aP} {o:Oper} {D W:cB->Prop} {E:Env} {s:St} {md:Md} {pr ms:List Nat}
theorem Ul {q:Call} {y z:Operand} (h:q.args.toList=[y,z]):q.args= #[y,z]:=by rw[<-Array.toArray_toList (xs:=q.args),h]
theorem yz {x y:Nat} {a:Option (Nat×Nat)} (h:(Nat.beq x y||a.isNone)=true):x=y\/a=none:=by
 rw[jD]at h;rcases h with h|h
 ·exact .inl (cc h)
 ·exact .inr (by simpa using h)
theorem Zsq {ψ:Ps} {P:Program} (x:ByteArray) (n:Nat) (w:World):
  ∃vs,(Builtin.firstCells 1 n (.string x)).run P w= .ok vs w/\aS C ψ (ZF (x.data.toList.take n)) vs.toList:=by
 refine⟨_,rfl,?_⟩;have:((x.extract 0 n).data.map fun b=>Value.int .u8 b.toNat).toList=(x.data.toList.take n).map fun b=>Value.int .u8 b.toNat:=by
  rw[Array.toList_map,ByteArray.data_extract,Array.toList_extract,LR];simp
 rw[this];exact ZlP _
theorem Zut {q:Call} (hq:q.callee= .builtin .append) (ho:o.op= .call q) (aJ: ∀h,W h->D h) (hD: ∀i,D (.inl i)) (hW: ∀y z i p n,q.args.toList.head?=some y->E.src C y= .v (.slice z (some (i,p)) n)->W (.inl i)) {K:Env->M β} {r:Out β×St} (h:PH C E o K q.argTypes q.args s=some r):br C md pr ms o D W E s K r:=by
 unfold PH at h;generalize ha:q.args.toList=l at h;generalize h0:q.argTypes[0]? =t0 at h;split at h
 ·rename_i y z t
  unfold sZ at h;cases ht:C.P.underlying t with
  |none=>rw[ht]at h;cases h
  |some td=>
   rw[ht]at h;cases td with
   |slice e=>
    simp only at h;obtain⟨ed,he,h⟩:=mC h;obtain⟨hn,h⟩:=ZxP h;cases hz:kE C.P e with
    |none=>rw[hz]at h;cases h
    |some zv=>
     rw[hz]at h;simp only at h;obtain⟨mS,h⟩:=CC h;have mS:zv.length=C.P.cellsOf e:=cc (by simpa using mS);obtain⟨a,tC,h⟩:=Zs h;obtain⟨b,pQ,h⟩:=Zs h;have iR:=Ul ha;have mz:z∈o.op.operands:=by rw[ho];simp[Op.operands,Call.operands,hq,iR]
     cases a with
     |slice w1 p1 n=>
      cases b with
      |slice w2 p2 m=>
       simp only at h;obtain⟨hw,h⟩:=Zp h;rw[aH]at hw;obtain⟨ds,h,kf,lF⟩:=P0 h;refine ZwN hq ho iR h0 ht he hz mS hn aJ hD (fun i q0 e=>hW y _ i q0 _ (by rw[ha];rfl) (by rw[tC,e])) tC (yz hw.1) kf (fun ψ Q A w p=>?_) h;obtain⟨base,cap,vs,e1,e2,e3,e4⟩:=JP p hD (p.val mz pQ) (yz hw.2) (k:=m) rfl (ay _) lF;exact⟨fun w=>by rw[e1];rfl,vs,e3,e4,e2⟩
      |str l=>
       simp only at h;obtain⟨hw,h⟩:=Zp h;rw[aH]at hw;have bG:=cc hw.2;rw[<-bG]at h;refine ZwN hq ho iR h0 ht he hz mS hn aJ hD (fun i q0 e=>hW y _ i q0 _ (by rw[ha];rfl) (by rw[tC,e])) tC (by rw[bG];exact yz hw.1) (by rw[bG];simp) (fun ψ Q A w p=>?_) h;have hv:=p.val mz pQ;generalize A.eval z=v at hv;cases hv with
       |str x=>
        have hx:x.data.toList.length=x.size:=by rw[jC];rfl
        obtain⟨vs,e1,e2⟩:=Zsq (C:=C) (ψ:=ψ) (P:=C.P) x x.size w;rw[<-hx,cA (ay _)]at e2;refine⟨fun w=>by rw[hx];rfl,vs,e2,MW _,fun w' qa=>?_⟩;rw[bG,hx];cases e1;rfl
      |_=>cases h
     |_=>cases b<;>cases h
   |_=>cases h
 ·cases h
theorem ZwY (cs:List DV) (p:Nat):bC cs p []=cs:=by
 induction cs generalizing p with
 |nil=>cases p<;>rfl
 |cons c cs ih=>cases p with
  |zero=>rfl
  |succ p=>simp[bC,ih]
theorem ZwT {p:Option (Nat×Nat)} {ds:List DV} {K:M β} {r:Out β×St} (h:M.wr p ds K s=some r):
  (p=none/\ds=[]/\K s=some r)\/∃i q cs,p=some (i,q)/\s.fH i=some cs/\q+ds.length<=cs.length/\K (s.set i (some ⟨false,bC cs q ds⟩))=some r:=by
 cases p with
 |none=>
  simp only[M.wr]at h;obtain⟨h1,h⟩:=Zp h;exact .inl ⟨rfl,pd.1 (cc h1),h⟩
 |some iq=>
  obtain⟨i,q⟩:=iq;simp only[M.wr]at h;obtain⟨cs,h1,h2,h3⟩:=Zo6 h;exact .inr ⟨i,q,cs,rfl,h1,h2,h3⟩
theorem ZlI {ψ:Ps} {w:World} {cb:CB} {ad:Addr} {q cap n k sz:Nat} {cs ds:List DV} {vs:List Value} (hb:0<cap->ad=⟨cb.b,cb.o+q,none⟩/\q+cap*sz<=cb.m) (hc:n<=cap) (hk:k<=n)
  (h:Holds C ψ w cb (.cells false cs)) (hr:aS C ψ ds vs) (h1:ds.all one=true) (hl:ds.length=k*sz) (hle:q+ds.length<=cs.length):
  ∃w',(storeCells ad vs).run C.P w= .ok () w'/\vZ w w' cb.b/\Holds C ψ w' cb (.cells false (bC cs q ds)):=by
 by_cases h0:ds.length=0
 ·have hd:=pd.1 h0
  subst hd;cases hr;exact⟨w,rfl,⟨fun _ _=>rfl,rfl,rfl,rfl,.refl _⟩,by rw[ZwY];exact h⟩
 ·have hk0:0<k:=by
   rcases vU k with h|h
   ·subst h;simp at hl;rw[hl]at h0;exact absurd rfl h0
   ·exact h
  obtain⟨e1,_⟩:=hb (by omega);rw[e1];exact IV h hr h1 hle
theorem ZtV {P:Program} {ts:Array TypeId} {t e:TypeId} {ed:TypeDesc} (h0:ts[0]? =some t) (ht:P.underlying t=some (.slice e)) (he:P.underlying e=some ed) (ty:TypeId)
  (base:Option Addr) (n m cap:Nat) (X:Value) (w w':World) (new:Array Value) (hX:(Builtin.lenOf X).run P w= .ok m w)
  (hf:(Builtin.firstCells (P.cellsOf e) (min m n) X).run P w= .ok new w) (hs: ∀a,base=some a->(storeCells a new.toList).run P w= .ok () w') (hb:base=none->w'=w):
  (Builtin.copy_ ts ty #[.slice base n cap,X]).run P w= .ok (.int .i64 (min (m:Int) n)) w':=by
 have U9:((Nat.min m n:Nat):Int)=min (m:Int) n:=by show((min m n:Nat):Int)=_;omega
 have vb:(Builtin.firstCells (P.cellsOf e) (Nat.min m n) X).run P w= .ok new w:=hf;unfold Builtin.copy_;simp only[h0,BY,gV,mq,Sem.run_bind,Zj w ht,Result.andThen_ok,ZQ w he,hX,vb];cases base with
 |none=>have:=hb rfl;subst this;simp[goInt];exact U9
 |some a=>simp[hs a rfl,goInt];exact U9
theorem ZxB {q:Call} (hq:q.callee= .builtin .copy) (ho:o.op= .call q) (aJ: ∀h,W h->D h) (hW: ∀i,W (.inl i)) {K:Env->M β} {r:Out β×St} (h:Qu C E o K q.argTypes q.args s=some r):br C md pr ms o D W E s K r:=by
 unfold Qu at h;generalize ha:q.args.toList=l at h;generalize h0:q.argTypes[0]? =t0 at h;split at h
 ·rename_i y z t
  unfold sZ at h;cases ht:C.P.underlying t with
  |none=>rw[ht]at h;cases h
  |some td=>
   rw[ht]at h;cases td with
   |slice e=>
    simp only at h;obtain⟨ed,he,h⟩:=mC h;obtain⟨a,tC,h⟩:=Zs h;obtain⟨b,pQ,h⟩:=Zs h;have iR:=Ul ha;have my:y∈o.op.operands:=by rw[ho];simp[Op.operands,Call.operands,hq,iR]
    have mz:z∈o.op.operands:=by rw[ho];simp[Op.operands,Call.operands,hq,iR]
    have hex: ∀(A:Act) (w w':World) v,(Builtin.copy_ q.argTypes o.type #[A.eval y,A.eval z]).run C.P w= .ok v w'->(execOp A.eval o).run C.P w= .ok (.value v) w':=by
     intro A w w' v hv;simp[execOp,ho,resolve,hq,invoke,builtin,iR,hv]
    cases a with
    |slice w1 p1 n=>
     have core: ∀(m:Nat) (ds:List DV),(w1=C.P.cellsOf e\/p1=none)->ds.length=min m n*C.P.cellsOf e->M.wr p1 ds (dC E o K (.int .i64 (min (m:Int) n))) s=some r->
       (∀ψ Q A w,ar C o D E s ψ Q A w->(Builtin.lenOf (A.eval z)).run C.P w= .ok m w/\∃vs,aS C ψ ds vs.toList/\ds.all one=true/\(Builtin.firstCells (C.P.cellsOf e) (min m n) (A.eval z)).run C.P w= .ok vs w)->
       br C md pr ms o D W E s K r:=by
      intro m ds cj kf h hX;rcases ZwT h with⟨rfl,rfl,h⟩|⟨i,q0,cs,rfl,hi,hle,h'⟩
      ·refine br.val aJ _ h fun ψ Q A w p=>?_
       obtain⟨hl,vs,h1,h2,h3⟩:=hX ψ Q A w p;have hv:=p.val my tC;generalize hy:A.eval y=v at hv;cases hv;exact⟨_,w,hex A w w _ (by rw[hy];exact ZtV h0 ht he o.type none 0 m 0 (A.eval z) w w vs hl h3 (fun _ h=>by cases h) (fun _=>rfl)),.refl w,.int _ _⟩
      ·have cj:w1=C.P.cellsOf e:=by rcases cj with h|h;exact h;cases h
       subst cj;refine br.TR aJ (hW _) (.v (.int .i64 (min (m:Int) n))) rfl (fun _ _ _ _ h=>by cases h) hi h' fun ψ Q A w p=>?_
       have hv:=p.val my tC;generalize hy:A.eval y=v at hv;cases hv with
       |slice _ _ _ _ cb ad cap fZ nF hb=>
        refine⟨cb,fZ,fun hh=>?_⟩;obtain⟨hl,vs,h1,h2,h3⟩:=hX ψ Q A w p;obtain⟨w',e1,e2,e3⟩:=ZlI hb nF (Nat.min_le_right m n) hh h1 h2 kf hle;exact⟨_,w',.inl (hex A w w' _ (by rw[hy];exact ZtV h0 ht he o.type (some ad) n m cap (A.eval z) w w' vs hl h3 (fun _ h=>by cases h;exact e1) (fun h=>by cases h))),e2,e3,.int _ _⟩
     cases b with
     |slice w2 p2 m=>
      simp only at h;obtain⟨hw,h⟩:=Zp h;rw[aH]at hw;obtain⟨ds,h,kf,lF⟩:=P0 h;refine core m ds (yz hw.1) kf h fun ψ Q A w p=>?_
      obtain⟨base,cap,vs,e1,e2,e3,e4⟩:=JP p (fun i=>aJ _ (hW i)) (p.val mz pQ) (yz hw.2) (k:=min m n) rfl (Nat.min_le_left _ _) lF;exact⟨by rw[e1];rfl,vs,e3,e4,e2 w rfl⟩
     |str l=>
      simp only at h;obtain⟨hw,h⟩:=Zp h;rw[aH]at hw;have bG:=cc hw.2;refine core l.length (ZF (l.take n)) (by rw[bG];exact yz hw.1) (by rw[bG];simp[Nat.min_comm]) h fun ψ Q A w p=>?_
      have hv:=p.val mz pQ;generalize A.eval z=v at hv;cases hv with
      |str x=>
       have hx:x.data.toList.length=x.size:=by rw[jC];rfl
       obtain⟨vs,e1,e2⟩:=Zsq (C:=C) (ψ:=ψ) (P:=C.P) x (min x.data.toList.length n) w;refine⟨by rw[hx];rfl,vs,?_,MW _,by rw[bG];exact e1⟩;have:x.data.toList.take (min x.data.toList.length n)=x.data.toList.take n:=by
        rw[Nat.min_comm,<-B4,cA (ay _)]
       rw[this]at e2;exact e2
     |_=>cases h
    |_=>cases b<;>cases h
   |_=>cases h
 ·cases h
theorem ZvI {q:Call} (hq:q.callee= .builtin .clear) (ho:o.op= .call q) (aJ: ∀h,W h->D h) (hW: ∀i,W (.inl i)) {K:Env->M β} {r:Out β×St} (h:PN C E o K q.argTypes q.args s=some r):br C md pr ms o D W E s K r:=by
 unfold PN at h;generalize ha:q.args.toList=l at h;generalize h0:q.argTypes[0]? =t0 at h;split at h
 ·rename_i y t
  unfold sZ at h;cases ht:C.P.underlying t with
  |none=>rw[ht]at h;cases h
  |some td=>
   rw[ht]at h;cases td with
   |slice e=>
    simp only at h;obtain⟨a,tC,h⟩:=Zs h;have iR:q.args= #[y]:=by rw[<-Array.toArray_toList (xs:=q.args),ha]
    have my:y∈o.op.operands:=by rw[ho];simp[Op.operands,Call.operands,hq,iR]
    have hex: ∀(A:Act) (w w':World),(Builtin.clear_ q.argTypes o.type #[A.eval y]).run C.P w= .ok (.tuple #[]) w'->(execOp A.eval o).run C.P w= .ok (.value (.tuple #[])) w':=by
     intro A w w' hv;simp[execOp,ho,resolve,hq,invoke,builtin,iR,hv]
    cases a with
    |slice w1 p1 n=>
     cases hz:kE C.P e with
     |none=>rw[hz]at h;cases h
     |some z=>
      rw[hz]at h;simp only at h;obtain⟨hw,h⟩:=Zp h;rw[aH]at hw;have mS:=cc hw.2;rcases ZwT h with⟨rfl,Vc,h⟩|⟨i,q0,cs,rfl,hi,hle,h'⟩
      ·refine br.pure aJ (.mY []) rfl (fun _ _ _ _ h=>by cases h) h fun ψ Q A w p=>?_
       have hv:=p.val my tC;generalize hy:A.eval y=v at hv;cases hv;exact⟨.tuple #[],w,hex A w w (by rw[hy];simp[Builtin.clear_,h0,Zj w ht]),.refl w,_,rfl,.nil⟩
      ·have cj:w1=C.P.cellsOf e:=by rcases yz hw.1 with h|h;exact h;cases h
       subst cj;refine br.TR aJ (hW _) (.mY []) rfl (fun _ _ _ _ h=>by cases h) hi h' fun ψ Q A w p=>?_
       have hv:=p.val my tC;generalize hy:A.eval y=v at hv;cases hv with
       |slice _ _ _ _ cb ad cap fZ nF hb=>
        refine⟨cb,fZ,fun hh=>?_⟩;obtain⟨zv,EA,zf,jn⟩:=Ox (P:=C.P) w hz;have Lo:=(zf C ψ).sv;have D3:=PE (zf C ψ) n (n*zv.cells.size) (by rw[Lo];exact ay _);rw[CW (by simp[size_madeCells,Aq,Lo])]at D3;obtain⟨w',e1,e2,e3⟩:=ZlI hb nF (ay n) hh D3 (AO jn) (by rw[Aq,mS]) hle;refine⟨.tuple #[],w',.inl (hex A w w' ?_),e2,e3,_,rfl,.nil⟩;rw[hy];have qO:(storeCells ad (Builtin.zeroCells zv.cells n).toList).run C.P w= .ok () w':=e1;cases n with
        |zero=>
         have:w'=w:=by
          have e4:(madeCells zv.cells (0*zv.cells.size)).toList=[]:=by simp[madeCells,Array.range_zero']
          rw[e4]at e1;cases e1;rfl
         subst this;simp[Builtin.clear_,h0,Zj _ ht]
        |succ n=>
         simp[Builtin.clear_,h0,Zj _ ht,EA,qO]
    |_=>cases h
   |_=>cases h
 ·cases h
end
end Go.Gv
namespace Go.Gv
variable {β:Type}
def CS (s:St):Kn:=fun h ab=>∃i,h= .inl i/\cq s i=some ab
def vY (C:aP) (ψ:Ps) (ds:List DV) (v:Value):Prop:=(∃d,ds=[d]/\VR C ψ d v)\/(ds.length≠1/\∃vs,v= .tuple vs/\aS C ψ ds vs.toList)
structure hZ (C:aP) (ψ:Ps) (s:St) (w:World) (ψ':Ps) (s':St) (w':World):Prop where
 dH:dU C ψ' (CS s') w'
 ext:Ext ψ (CS s) w ψ' (CS s') w'
 news: ∀h cb,ψ' h=some cb->ψ h=some cb\/∃i,h= .inl i/\s.length<=i/\i<s'.length
def uK (P:Program) (f:FuncId) (vs:Array Value) (w:World) (R:Ending->World->Prop):Prop:=
 match (callFunc f vs).run P w with
 | .ok (.enter f' as) w'=>Calls P f' as w' R
 | .ok (.value v) w'=>R (.returned v) w'
 |_=>False
def ZBy (C:aP) (g:Nat) (args:List DV) (s:St) (out:Out (List DV)×St):Prop:=
 s.length<=out.2.length/\
 ∀f,C.cov f=true->C.fn f=g->∀ψ w vs,dU C ψ (CS s) w->oi ψ w->Glob C ψ->aS C ψ args vs->(∀v,ψ (.inr v)=none)->(∀i,s.length<=i->i<out.2.length->ψ (.inl i)=none)->
  uK C.P f vs.toArray w fun
   | .returned v,w'=>∃ds,out.1= .val ds/\∃ψ',hZ C ψ s w ψ' out.2 w'/\vY C ψ' ds v
   | .panicked ch,w'=>l8 ch/\out.1= .cC/\∃ψ',hZ C ψ s w ψ' out.2 w'
   | .outgrown,_=>False
def ZC (C:aP) (c:Zg):Prop:=∀g args s out,c g args s=some out->ZBy C g args s out
def kN (ψ:Ps):Ps
 | .inl i=>ψ (.inl i)
 | .inr _=>none
def tY (ψ gu:Ps):Ps
 | .inl i=>gu (.inl i)
 | .inr v=>ψ (.inr v)
def LF (s':St) (Q:Kn):Kn:=fun h ab=>CS s' h ab\/(Q h ab/\∀i,h= .inl i->s'.length<=i)
section
variable {C:aP} {ψ gu:Ps} {Q:Kn} {s s':St} {w w':World}
theorem Au {h:cB} {cb:CB} (e:kN ψ h=some cb):ψ h=some cb/\∃i,h= .inl i:=by
 cases h with
 |inl i=>exact⟨e,i,rfl⟩
 |inr v=>cases e
theorem Zvg {ds:List DV} {vs:List Value} (h:aS C ψ ds vs):aS C (kN ψ) ds vs:=h.mono (ψ:=ψ) (ψ':=kN ψ) fun _ _ e=>e
theorem ZtY (h:dU C ψ Q w) (hk: ∀i ab cb,cq s i=some ab->ψ (.inl i)=some cb->Q (.inl i) ab):dU C (kN ψ) (CS s) w:=by
 constructor
 ·intro k cb ab e q
  obtain⟨e,i,rfl⟩:=Au e;obtain⟨_,hi,q⟩:=q;cases hi;exact(h.holds _ cb ab e (hk i ab cb q e)).same (ψ:=ψ) (ψ':=kN ψ) (fun _ _ e=>e) rfl
 ·intro k cb ab k' eN bO e q hs e' q' hn
  obtain⟨e,i,rfl⟩:=Au e;obtain⟨e',i',rfl⟩:=Au e';obtain⟨_,hi,q⟩:=q;cases hi;obtain⟨_,hi,q'⟩:=q';cases hi;exact h.pJ _ cb ab _ eN bO e (hk i ab cb q e) hs e' (hk i' bO eN q' e') hn
theorem frame (h:dU C ψ Q w) (hb:oi ψ w) (hk: ∀i ab cb,cq s i=some ab->ψ (.inl i)=some cb->Q (.inl i) ab) (hlen:s.length<=s'.length)
  (hc:hZ C (kN ψ) s w gu s' w'):dU C (tY ψ gu) (LF s' Q) w'/\Ext ψ Q w (tY ψ gu) (LF s' Q) w':=by
 have mono: ∀k cb,ψ k=some cb->tY ψ gu k=some cb:=by
  intro k cb e;cases k with
  |inl i=>exact hc.ext.mono (.inl i) cb e
  |inr v=>exact e
 have LK: ∀b,qA (kN ψ) (CS s) b->∃i cb ab,ψ (.inl i)=some cb/\cq s i=some ab/\Q (.inl i) ab/\ab.fE=true/\cb.b=b:=by
  rintro b ⟨k,cb,ab,e,⟨i,rfl,q⟩,hs,hb⟩;exact⟨i,cb,ab,e,q,hk i ab cb q e,hs,hb⟩
 have TT: ∀b,qA (kN ψ) (CS s) b->qA ψ Q b:=by
  intro b hs;obtain⟨i,cb,ab,e,_,q,hs,hb⟩:=LK b hs;exact⟨_,cb,ab,e,q,hs,hb⟩
 have Bl: ∀k cb ab,tY ψ gu k=some cb->Q k ab->(∀i,k= .inl i->s'.length<=i)->ψ k=some cb/\¬qA (kN ψ) (CS s) cb.b/\cb.b<w.heap.size:=by
  intro k cb ab e q hf;have e':ψ k=some cb:=by
   cases k with
   |inr v=>exact e
   |inl i=>
    rcases hc.news _ _ e with e|⟨j,hj,_,aj⟩
    ·exact e
    ·cases hj;have:=hf i rfl;omega
  refine⟨e',fun hs=>?_,hb _ _ e'⟩;obtain⟨i,cb0,ab0,e0,q0,qq,SC,u6⟩:=LK _ hs;have bn:(Sum.inl i:cB)≠k:=by
   rintro rfl;have h1:=hf i rfl;have h2:=yp q0;omega
  exact h.pJ _ cb0 ab0 _ cb ab e0 qq SC e' q bn u6.symm
 refine⟨⟨?_,?_⟩,⟨mono,?_,hc.ext.size,?_,?_,?_,hc.ext.tape,hc.ext.os,hc.ext.output⟩⟩
 ·intro k cb ab e q
  rcases q with⟨i,rfl,q⟩|⟨q,hf⟩
  ·exact(hc.dH.holds (.inl i) cb ab e ⟨i,rfl,q⟩).same (ψ:=gu) (ψ':=tY ψ gu) (fun _ _ e=>e) rfl
  ·obtain⟨e1,e2,e3⟩:=Bl k cb ab e q hf
   exact(h.holds k cb ab e1 q).same (fun i cb e=>mono _ _ e) (hc.ext.gF _ e3 e2)
 ·intro k cb ab k' eN bO e q hs e' q' hn
  rcases q with⟨i,rfl,q⟩|⟨q,hf⟩<;>rcases q' with⟨i',rfl,q'⟩|⟨q',vb⟩
  ·exact hc.dH.pJ (.inl i) cb ab (.inl i') eN bO e ⟨i,rfl,q⟩ hs e' ⟨i',rfl,q'⟩ hn
  ·obtain⟨e1,e2,e3⟩:=Bl k' eN bO e' q' vb
   rcases hc.ext.fE cb.b ⟨.inl i,cb,ab,e,⟨i,rfl,q⟩,hs,rfl⟩with h1|h1
   ·intro h2;rw[h2]at e2;exact e2 h1
   ·omega
  ·obtain⟨e1,e2,e3⟩:=Bl k cb ab e q hf
   rcases hc.ext.oS (.inl i') eN e' with h1|⟨h1,_⟩
   ·obtain⟨y,i2,tF,hy⟩:=hc.ext.live (.inl i') eN bO h1 ⟨i',rfl,q'⟩
    cases tF;exact h.pJ k cb ab (.inl i') eN y e1 q hs h1 (hk i' y eN hy h1) hn
   ·rcases h1 with h1|h1
    ·omega
    ·intro h2;rw[h2]at h1;exact e2 h1
  ·obtain⟨e1,_,_⟩:=Bl k cb ab e q hf
   obtain⟨qO,_,_⟩:=Bl k' eN bO e' q' vb;exact h.pJ k cb ab k' eN bO e1 q hs qO q' hn
 ·intro k cb e
  cases k with
  |inr v=>exact .inl e
  |inl i=>
   rcases hc.ext.oS (.inl i) cb e with h1|⟨h1,h2⟩
   ·exact .inl h1
   ·exact .inr ⟨h1.imp id (TT _),h2⟩
 ·intro b cz hn
  exact hc.ext.gF b cz fun hs=>hn (TT b hs)
 ·rintro b ⟨k,cb,ab,e,q,hs,cz⟩
  rcases q with⟨i,rfl,q⟩|⟨q,hf⟩
  ·exact(hc.ext.fE b ⟨.inl i,cb,ab,e,⟨i,rfl,q⟩,hs,cz⟩).imp (TT b) id
  ·obtain⟨e1,_,_⟩:=Bl k cb ab e q hf
   exact .inl ⟨k,cb,ab,e1,q,hs,cz⟩
 ·intro k cb x e q
  rcases q with⟨i,rfl,q⟩|⟨q,_⟩
  ·obtain⟨y,i2,tF,hy⟩:=hc.ext.live (.inl i) cb x e ⟨i,rfl,q⟩
   cases tF;exact⟨y,hk i y cb hy e⟩
  ·exact⟨x,q⟩
end
section
variable {C:aP} {o:Oper} {D W:cB->Prop} {E:Env} {s:St} {md:Md} {pr ms:List Nat}
theorem Zqf {m:M (List DV)} {K:List DV->M β} {r:Out β×St} (h:JZ md m K s=some r):
  (∃ds s1,m s=some (.val ds,s1)/\K ds s1=some r/\(2<=md.x->St.QG s s1))\/(md.x=0/\∃s1,m s=some (.cC,s1)/\r=(.cC,s1)):=by
 unfold JZ at h;cases hx:md.x with
 |zero=>
  rw[hx]at h;simp only[M.call]at h;cases hm:m s with
  |none=>rw[hm]at h;cases h
  |some p=>
   obtain⟨o,s1⟩:=p;rw[hm]at h;cases o with
   |val ds=>exact .inl ⟨ds,s1,rfl,h,fun h=>by omega⟩
   |cC=>simp only[cX]at h;exact .inr ⟨rfl,s1,rfl,h.symm⟩
 |succ n=>
  cases n with
  |zero=>
   rw[hx]at h;simp only[M.fW]at h;cases hm:m s with
   |none=>rw[hm]at h;cases h
   |some p=>
    obtain⟨o,s1⟩:=p;rw[hm]at h;cases o with
    |val ds=>exact .inl ⟨ds,s1,rfl,h,fun h=>by omega⟩
    |cC=>cases h
  |succ n=>
   rw[hx]at h;simp only[M.dW]at h;cases hm:m s with
   |none=>rw[hm]at h;cases h
   |some p=>
    obtain⟨o,s1⟩:=p;rw[hm]at h;cases o with
    |val ds=>
     simp only at h;split at h
     ·rename_i hb;exact .inl ⟨ds,s1,rfl,h,fun _=>hb⟩
     ·cases h
    |cC=>cases h
theorem Az {m:M (List DV)} : ∀ {bs:List Nat} {o:Out (List DV)} {s1:St},Bb E bs m s=some (o,s1)->
  m s=some (o,s1)/\∀ds,o= .val ds->∀b∈bs,∃j p,E.get b= .v (.ptr (some (j,p)))/\s1[j]? =s[j]?
 |[],_,_,h=>⟨h,fun _ _ b hb=>by cases hb⟩
 |b::bs,o,s1,h=>by
  unfold Bb at h;cases he:E.get b with
  |v d=>
   rw[he]at h;cases d with
   |ptr a=>
    cases a with
    |none=>cases h
    |some jq=>
     obtain⟨j,q'⟩:=jq;simp only[M.gF]at h;cases hm:Bb E bs m s with
     |none=>rw[hm]at h;cases h
     |some p=>
      obtain⟨o1,s2⟩:=p;rw[hm]at h;cases o1 with
      |val ds=>
       simp only at h;split at h
       ·rename_i hk
        cases h;obtain⟨h1,h2⟩:=Az hm;refine⟨h1,fun ja e b' cz=>?_⟩;rcases bX.1 cz with rfl|cz
        ·exact⟨j,q',he,hk⟩
        ·exact h2 ja e b' cz
       ·cases h
      |cC=>
       simp only at h;cases h;exact⟨(Az hm).1,fun ja e=>by cases e⟩
   |_=>cases h
  |_=>rw[he]at h;cases h
theorem IZ {q:Call} {f:Operand} (hq:q.callee= .value f) (ho:o.op= .call q) (aJ: ∀h,W h->D h) (hD: ∀i,D (.inl i))
  {c:Zg} (hc:ZC C c) {g:Nat} {fs cs as:List DV} (hf:E.src C f= .v (.func g fs cs)) (has:SV C E q.args.toList as)
  {out:Out (List DV)} {s1:St} (pO:c g (fs++as++cs) s=some (out,s1)) (hW: ∀ds,out= .val ds->∀i,W (.inl i)\/(i<s.length->s1[i]? =s[i]?)):
  (out= .cC->sR C o D E s s1)/\
  (∀ds e,out= .val ds->e.bY=none->(∀r v n,e≠ .pl r v n)->(∀ψ v,vY C ψ ds v->eB C ψ e v)->j7 W pr ms o E s (E.dN o.dst e) s1/\ya C o D W E s (E.dN o.dst e) s1):=by
 have ok:=hc g _ s _ pO;have hlen:s.length<=s1.length:=ok.1;have mf:f∈o.op.operands:=by rw[ho];simp[Op.operands,Call.operands,hq]
 have ma: ∀x∈q.args.toList,x∈o.op.operands:=by intro x hx;rw[ho];simp only[Op.operands,Call.operands,hq];simp at hx⊢;first|exact .inl hx|exact .inr hx
 have sem: ∀ψ Q (A:Act) (w:World) (next:Act->World->Prop) (QQ:Exit->Act->World->Prop),ar C o D E s ψ Q A w->(∀i,s.length<=i->i<s1.length->ψ (.inl i)=none)->
   (∀ds v w' gu,out= .val ds->hZ C (kN ψ) s w gu s1 w'->vY C gu ds v->next (A.put o.dst v) w')->(∀ch w' gu,l8 ch->out= .cC->hZ C (kN ψ) s w gu s1 w'->QQ (.panic ch) A w')->o.wp C.P A w next QQ:=by
  intro ψ Q A w next QQ p room hv hp;have hfv:=p.val mf hf;generalize qZ:A.eval f=v at hfv;cases hfv with
  |func k _ _ vf vc qW h1 h2=>
   have h3:=C0 p ma has;have iR:aS C (kN ψ) (fs++as++cs) (vf.toList++q.args.toList.map A.eval++vc.toList):=Zvg (aS.append (aS.append h1 h3) h2);have:=ok.2 k qW rfl (kN ψ) w _ (ZtY p.dH fun i ab cb h e=>p.il (.inl i) ab cb (hD i) h e) (fun h cb e=>p.fh h cb (Au e).1)
    (fun g hg=>let ⟨cb,e1,e2⟩:=p.jd g hg;⟨cb,e1,e2⟩) iR (fun _=>rfl) (fun i h1 h2=>room i h1 h2)
   have kM:(vf.toList++q.args.toList.map A.eval++vc.toList).toArray=vf++q.args.map A.eval++vc:=by
    apply Array.ext';simp
   rw[kM]at this;have hex:(execOp A.eval o).run C.P w=(callFunc k (vf++q.args.map A.eval++vc)).run C.P w:=by
    simp[execOp,ho,resolve,hq,qZ,Deferred.ofValue,invoke]
   unfold Oper.wp;rw[hex];unfold uK at this;split at this
   ·rename_i f' as' w' hr
    rw[hr];refine Calls.mono this fun e qj he=>?_
    cases e with
    |returned v=>
     obtain⟨ds,e1,gu,e2,e3⟩:=he;exact hv ds v qj gu e1 e2 e3
    |panicked ch=>
     obtain⟨e0,e1,gu,e2⟩:=he;exact hp ch qj gu e0 e1 e2
    |outgrown=>exact he.elim
   ·rename_i v w' hr
    rw[hr];obtain⟨ds,e1,gu,e2,e3⟩:=this;exact hv ds v w' gu e1 e2 e3
   ·exact this.elim
 refine⟨fun yX=>⟨hlen,fun ψ Q A w next QQ p room hn=>?_⟩,fun ds e yX tS kl Sy=>⟨j7.put pr ms e tS (fun _ r v n h=>absurd h (kl r v n)) hlen (fun i ab h=>?_) (fun i h hi=>?_) (.inr (by unfold pA;rw[ho];simp only[hq])),fun ψ Q A w next QQ p room hn=>?_⟩⟩
 ·have LI: ∀i,s.length<=i->i<s1.length->ψ (.inl i)=none:=fun i h1 h2=>room (.inl i) ⟨ur.2 h1,h2⟩
  have hk: ∀i ab cb,cq s i=some ab->ψ (.inl i)=some cb->Q (.inl i) ab:=fun i ab cb h e=>p.il (.inl i) ab cb (hD i) h e
  refine sem ψ Q A w next QQ p LI (fun ds v w' gu h=>by rw[yX]at h;cases h) fun ch w' gu pP _ Ed=>?_
  obtain⟨f1,f2⟩:=frame p.dH p.fh hk hlen Ed;refine hn (tY ψ gu) (LF s1 Q) ch w' pP f1 f2 (fun h cb e=>?_) fun i ab cb h e=> .inl ⟨i,rfl,h⟩
  cases h with
  |inr v=>exact .inl e
  |inl i=>
   rcases Ed.news _ _ e with e|⟨j,hj,h1,h2⟩
   ·exact .inl e
   ·cases hj;exact .inr ⟨ur.2 h1,h2⟩
 ·rcases hW ds yX i with h'|h'
  ·exact .inl h'
  ·rcases eM i s.length with hi|hi
   ·unfold cq at h;rw[h' hi]at h;exact .inr (.inr h)
   ·exact .inr (.inl hi)
 ·rcases hW ds yX i with h'|h'
  ·exact absurd h' h
  ·exact h' hi
 ·have LI: ∀i,s.length<=i->i<s1.length->ψ (.inl i)=none:=fun i h1 h2=>room (.inl i) ⟨ur.2 h1,h2⟩
  have hk: ∀i ab cb,cq s i=some ab->ψ (.inl i)=some cb->Q (.inl i) ab:=fun i ab cb h e=>p.il (.inl i) ab cb (hD i) h e
  refine sem ψ Q A w next QQ p LI (fun ja v w' gu h Ed hr=>?_) (fun ch w' gu _ h=>by rw[yX]at h;cases h);rw[yX]at h;cases h;obtain⟨f1,f2⟩:=frame p.dH p.fh hk hlen Ed;have jj:vY C (tY ψ gu) ds v:=by
   rcases hr with⟨d,e1,e2⟩|⟨e1,vs,e2,e3⟩
   ·exact .inl ⟨d,e1,e2.mono (ψ:=gu) (ψ':=tY ψ gu) fun _ _ e=>e⟩
   ·exact .inr ⟨e1,vs,e2,e3.mono (ψ:=gu) (ψ':=tY ψ gu) fun _ _ e=>e⟩
  refine hn (tY ψ gu) (LF s1 Q) v w' ⟨f1,f2,fun h cb e=>?_,fun h ab cb cr hw e'=>?_,fun h ab cb e' q' nw dm=>?_⟩ (fun d' jw=>?_)
  ·cases h with
   |inr v=>exact .inl e
   |inl i=>
    rcases Ed.news _ _ e with e|⟨j,hj,h1,h2⟩
    ·exact .inl e
    ·cases hj;exact .inr ⟨ur.2 h1,h2⟩
  ·cases h with
   |inl i=>exact .inl ⟨i,rfl,cr⟩
   |inr x=>
    rcases hw with hw|⟨n1,n2⟩
    ·have mg:CR (E.dN o.dst e) s (.inr x) ab:=cr
     exact .inr ⟨p.il (.inr x) ab cb (aJ _ hw) (mg.dN tS) e',fun i hi=>by cases hi⟩
    ·simp only[cS,Env.BM]at n1 n2;exact absurd n2 n1
  ·cases h with
   |inr x=>exact .inr ⟨q',fun i hi=>by cases hi⟩
   |inl i=>
    rcases eM i s.length with hi|hi
    ·rcases hW ds yX i with h'|h'
     ·exact absurd h' nw
     ·have h1:cq s i=some ab:=dm (hD i) hi
      exact .inl ⟨i,rfl,by unfold cq at h1⊢;rw[h' hi];exact h1⟩
    ·rcases eM i s1.length with wY|wY
     ·rw[LI i hi wY]at e';cases e'
     ·exact .inr ⟨q',fun j hj=>by cases hj;exact wY⟩
  ·rw[Env.iQ,aG jw]
   exact Sy _ v jj
theorem Zxs {q:Call} {f:Operand} (hq:q.callee= .value f) (ho:o.op= .call q) (aJ: ∀h,W h->D h) (hD: ∀i,D (.inl i)) (hW: ∀i,W (.inl i)\/2<=md.x\/∃b∈md.bs,∀j p,E.get b= .v (.ptr (some (j,p)))->j=i)
  {c:Zg} (hc:ZC C c) {K:Env->M β} {r:Out β×St} (h:Qk C E o K md c f q.args s=some r):br C md pr ms o D W E s K r:=by
 unfold Qk at h;obtain⟨fv,hf,h⟩:=Zs h;obtain⟨as,h,has⟩:=CG h;have Kz: ∀(s1:St),(2<=md.x->St.QG s s1)->(∀b∈md.bs,∃j p,E.get b= .v (.ptr (some (j,p)))/\s1[j]? =s[j]?)->∀i,W (.inl i)\/(i<s.length->s1[i]? =s[i]?):=fun s1 hb hk i=>by
  rcases hW i with h|h|⟨b,ju,eQ⟩
  ·exact .inl h
  ·obtain⟨x,rfl⟩:=hb h
   exact .inr fun hi=>iL hi
  ·obtain⟨j,p,e1,e2⟩:=hk b ju
   have:=eQ j p e1;subst this;exact .inr fun _=>e2
 cases fv with
 |func g fs cs=>
  simp only at h;generalize Wc C.P o.type=ro at h;obtain⟨many,EZ⟩:=ro;cases many with
  |true=>
   simp only at h;obtain⟨h1,h⟩:=CC h;have h1:=zY h1;rcases Zqf h with⟨ds,s1,hm,h,hb⟩|⟨hx,s1,hm,rfl⟩
   ·obtain⟨ja,h,hl,kh,hr⟩:=CH h
    obtain⟨hm,hk⟩:=Az hm;obtain⟨e1,e2⟩:=(IZ (pr:=pr) (ms:=ms) hq ho aJ hD hc hf has hm (fun ds e=>Kz s1 hb (hk ds e))).2 ds (.mY ja) rfl rfl (fun _ _ _ h=>by cases h) (fun ψ v hv=>by
     rcases hv with⟨d,e,_⟩|⟨_,vs,e,e'⟩
     ·rw[e]at hl;simp at hl;omega
     ·exact⟨vs,e,hr C ψ _ e'⟩)
    exact .inl ⟨_,s1,h,e1,e2⟩
   ·exact .inr ⟨hx,s1,rfl,(IZ (pr:=pr) (ms:=ms) hq ho aJ hD hc hf has (Az hm).1 (fun ds e=>by cases e)).1 rfl⟩
  |false=>
   simp only at h;rcases Zqf h with⟨ds,s1,hm,h,hb⟩|⟨hx,s1,hm,rfl⟩
   ·obtain⟨ja,h,hl,kh,hr⟩:=CH h
    cases ja with
    |nil=>cases h
    |cons d rest=>
     cases rest with
     |cons _ _=>cases h
     |nil=>
      simp only at h;obtain⟨hm,hk⟩:=Az hm;obtain⟨e1,e2⟩:=(IZ (pr:=pr) (ms:=ms) hq ho aJ hD hc hf has hm (fun ds e=>Kz s1 hb (hk ds e))).2 ds (.v d) rfl rfl (fun _ _ _ h=>by cases h) (fun ψ v hv=>by
       rcases hv with⟨d0,e,va⟩|⟨e,_⟩
       ·subst e
        have:=hr C ψ [v] (.cons _ _ _ _ va .nil);cases this with
        |cons _ _ _ _ a _=>exact a
       ·exact absurd hl.symm e)
      exact .inl ⟨_,s1,h,e1,e2⟩
   ·exact .inr ⟨hx,s1,rfl,(IZ (pr:=pr) (ms:=ms) hq ho aJ hD hc hf has (Az hm).1 (fun ds e=>by cases e)).1 rfl⟩
 |_=>cases h
end
def L5 (h:cB):Prop:=∃i,h= .inl i
def Mb (E:Env) (r:Nat) (h:cB):Prop:=∃v,h= .inr v/\(E.get r).bY=some v
def mA:Md->Env->cB->Prop
 | .s,_,_=>True
 | .d .pure _,_,_=>False
 | .d (.sE r) _,E,h=>Mb E r h
 | .d (.mm r) _,E,h=>Mb E r h
 | .d (.lp a) _,E,h=>∃i p,E.get a= .v (.ptr (some (i,p)))/\h= .inl i
 | .d _ _,_,h=>L5 h
def kD:Md->Env->cB->Prop
 | .s,_,_=>True
 | .d .wr _,_,h=>L5 h
 | .d .call x,_,h=>x<2/\L5 h
 | .d (.mm r) _,E,h=>Mb E r h
 | .d (.ap bs) _,E,h=>∃i,h= .inl i/\∀b∈bs,∃j p,E.get b= .v (.ptr (some (j,p)))/\j≠i
 | .d _ _,_,_=>False
theorem JC (md:Md) (E:Env) (h:cB) (w:kD md E h):mA md E h:=by
 cases md with
 |s=>trivial
 |d k x=>cases k<;>first|exact w|exact w.2|exact w.elim|(obtain⟨i,e,_⟩:=w;exact⟨i,e⟩)
section
variable {C:aP} {o:Oper} {E:Env} {s:St} {md:Md} {pr ms:List Nat}
theorem Zvs {P:Program} {pr:List Nat} {ops:List Oper} {t:TypeId} {a:Operand} (ho:o.op= .load t a):cls P pr ops o= .hp\/(∃b,a= .tmp b/\cls P pr ops o= .lp b)\/∃r,cls P pr ops o= .sE r:=by
 unfold cls;rw[ho];cases a with
 |tmp t=>simp only;cases mX pr ops 12 t<;>simp
 |_=>exact .inl rfl
theorem Zsh {P:Program} {pr:List Nat} {ops:List Oper} {t:TypeId} {a y:Operand} (ho:o.op= .store t a y):cls P pr ops o= .wr\/cls P pr ops o= .ap []\/∃r,cls P pr ops o= .mm r:=by
 unfold cls;rw[ho];cases a with
 |tmp t=>simp only;cases mX pr ops 12 t<;>simp
 |_=>exact .inl rfl
theorem ON {E:Env} {p:Option (Nat×Nat)} {X:M β} {r:Out β×St} : ∀ {bs:List Nat},Dj E p bs X s=some r->X s=some r/\∀b∈bs,∀i q,p=some (i,q)->∃j q',E.get b= .v (.ptr (some (j,q')))/\j≠i
 |[],h=>⟨h,fun b hb=>by cases hb⟩
 |b::bs,h=>by
  unfold Dj at h;cases he:E.get b with
  |v d=>
   rw[he]at h;cases d with
   |ptr a=>
    cases a with
    |none=>cases h
    |some jq=>
     obtain⟨j,q'⟩:=jq;simp only at h;obtain⟨h1,h⟩:=ZP h;obtain⟨h,h2⟩:=ON h;refine⟨h,fun b' cz i q hp=>?_⟩;rcases bX.1 cz with rfl|cz
     ·refine⟨j,q',he,?_⟩
      rw[hp]at h1;unfold apart at h1;rintro rfl;simp at h1
     ·exact h2 b' cz i q hp
   |_=>cases h
  |_=>rw[he]at h;cases h
theorem ZAd {C:aP} {E:Env} {bs:List Nat} {as:Array Operand} {X:M β} {r:Out β×St} (h:QA C E bs as X s=some r):
  X s=some r/\∀y z i q n,as.toList.head?=some y->E.src C y= .v (.slice z (some (i,q)) n)->∀b∈bs,∃j q',E.get b= .v (.ptr (some (j,q')))/\j≠i:=by
 unfold QA at h;cases bs with
 |nil=>exact⟨h,fun _ _ _ _ _ _ _ b hb=>by cases hb⟩
 |cons b r=>
  simp only at h;cases hy:as.toList with
  |nil=>rw[hy]at h;cases h
  |cons y ys=>
   rw[hy]at h;simp only at h;obtain⟨d,hd,h⟩:=Zs h;cases d with
   |slice z p n=>
    obtain⟨h1,h2⟩:=ON h;refine⟨h1,fun y' z' i q n' mR he b' cz=>?_⟩;cases mR;rw[hd]at he;cases he;exact h2 b' cz i q rfl
   |_=>cases h
theorem Zzn {C:aP} {E:Env} {bs:List Nat} {a:Operand} {X:M β} {r:Out β×St} (h:TU C E bs a X s=some r):
  X s=some r/\∀i q,E.src C a= .v (.ptr (some (i,q)))->∀b∈bs,∃j q',E.get b= .v (.ptr (some (j,q')))/\j≠i:=by
 unfold TU at h;cases bs with
 |nil=>exact⟨h,fun _ _ _ b hb=>by cases hb⟩
 |cons b r=>
  simp only at h;cases he:E.src C a with
  |v d=>
   rw[he]at h;cases d with
   |ptr p=>
    obtain⟨h1,h2⟩:=ON h;refine⟨h1,fun i q e b' cz=>?_⟩;cases e;exact h2 b' cz i q rfl
   |_=>cases h
  |_=>rw[he]at h;cases h
theorem P1 (hC:lZ C) {c:Zg} (hc:ZC C c) {ops:List Oper} (jh:md= .s\/∃x k m,md= .d (rB pr ops k m (cls C.P pr ops o)) x) {K:Env->M β} {r:Out β×St} (h:ep C pr ms md c o E K s=some r):
  br C md pr ms o (mA md E) (kD md E) E s K r:=by
 have aJ: ∀h,kD md E h->mA md E h:=JC md E;unfold ep at h;cases ho:o.op with
 |move y=>rw[ho]at h;exact ZpO (.inl ho) aJ h
 |assign y=>rw[ho]at h;exact ZpO (.inr ho) aJ h
 |pick b y z=>rw[ho]at h;exact ZxA ho aJ h
 |alloc t=>rw[ho]at h;exact Zv1 ho aJ h
 |box t y=>rw[ho]at h;exact Zyd ho aJ h
 |build t ps=>rw[ho]at h;exact ZwF ho aJ h
 |buildSlice t n ps=>rw[ho]at h;exact ZoL ho aJ h
 |load t a=>
  rw[ho]at h;refine Zxd ho aJ ?_ ?_ h
  ·intro r v hm hv
   rcases jh with rfl|⟨x,k,m,rfl⟩
   ·trivial
   ·rcases Zvs (P:=C.P) (pr:=pr) (ops:=ops) ho with e|⟨b,_,e⟩|⟨q,e⟩<;>rw[e]at hm⊢
    ·cases hm
    ·cases hm
    ·have:q=r:=cc hm
     subst this;exact⟨v,rfl,hv⟩
  ·intro hm i p0 hx
   rcases jh with rfl|⟨x,k,m,rfl⟩
   ·trivial
   ·rcases Zvs (P:=C.P) (pr:=pr) (ops:=ops) ho with e|⟨b,hb,e⟩|⟨q,e⟩<;>rw[e]at hm⊢
    ·exact⟨i,rfl⟩
    ·rw[hb]at hx
     have hx:E.get b= .v (.ptr (some (i,p0))):=by
      unfold Env.src at hx;simp only at hx;cases hg:E.get b<;>rw[hg]at hx<;>first|exact hx|cases hx
     exact⟨i,p0,hx,rfl⟩
    ·cases hm
 |store t a y=>
  rw[ho]at h;simp only at h;obtain⟨hd,h⟩:=Zp h;obtain⟨h,bB⟩:=Zzn h;refine Zwd ho (by simpa using hd) aJ ?_ ?_ h
  ·intro r v hm hv
   rcases jh with rfl|⟨x,k,m,rfl⟩
   ·trivial
   ·rcases Zsh (P:=C.P) (pr:=pr) (ops:=ops) ho with e|e|⟨q,e⟩<;>rw[e]at hm⊢
    ·cases hm
    ·cases hm
    ·have:q=r:=cc hm
     subst this;exact⟨v,rfl,hv⟩
  ·intro hm i p hx
   rcases jh with rfl|⟨x,k,m,rfl⟩
   ·trivial
   ·rcases Zsh (P:=C.P) (pr:=pr) (ops:=ops) ho with e|e|⟨q,e⟩<;>rw[e]at hm bB⊢
    ·exact⟨i,rfl⟩
    ·exact⟨i,rfl,bB i p hx⟩
    ·cases hm
 |nilCheck y=>rw[ho]at h;exact Zrb ho aJ h
 |binOp op t y z u=>rw[ho]at h;exact Zzd hC ho aJ h
 |unOp op t y=>rw[ho]at h;exact ZzZ ho aJ h
 |convert t u y=>
  rw[ho]at h;refine ZsA ho aJ (fun i=>?_) h;rcases jh with rfl|⟨x,k,m,rfl⟩
  ·trivial
  ·have:cls C.P pr ops o= .hp:=by unfold cls;rw[ho]
   rw[this];exact⟨i,rfl⟩
 |makeInterface t y=>rw[ho]at h;exact Zwo ho aJ h
 |makeFunc f x y=>rw[ho]at h;exact Zxz ho aJ h
 |makeSlice t x y=>rw[ho]at h;exact Zqg ho aJ h
 |slice t y lo hi mx=>
  rw[ho]at h;cases mx with
  |some _=>cases h
  |none=>
   refine Zwu ho aJ (fun⟨m,e,ht⟩ i=>?_) h;rcases jh with rfl|⟨x,k,m,rfl⟩
   ·trivial
   ·have:cls C.P pr ops o= .hp:=by unfold cls;rw[ho];simp only[ht]
    rw[this];exact⟨i,rfl⟩
 |fieldAddr t y f=>rw[ho]at h;exact Zqm ho aJ h
 |field t y f=>rw[ho]at h;exact ZvX ho aJ h
 |indexAddr t y i=>rw[ho]at h;exact Zo7 ho aJ h
 |index t y i=>rw[ho]at h;exact Zwt ho aJ h
 |range t y=>rw[ho]at h;exact Zv6 ho aJ h
 |next it b=>
  rw[ho]at h;cases it with
  |tmp t=>
   cases b with
   |true=>
    refine ZxC ho aJ (fun v hv=>?_) h;rcases jh with rfl|⟨x,k,m,rfl⟩
    ·trivial
    ·have:cls C.P pr ops o= .mm t:=by unfold cls;rw[ho]
     rw[this];exact⟨v,rfl,hv⟩
   |false=>cases h
  |_=>cases b<;>cases h
 |typeAssert y t u ok=>
  rw[ho]at h;cases ok with
  |true=>cases h
  |false=>
   refine Zuw hC ho aJ (fun i=>?_) h;rcases jh with rfl|⟨x,k,m,rfl⟩
   ·trivial
   ·have:cls C.P pr ops o= .wr:=by unfold cls;rw[ho]
    rw[this];exact⟨i,rfl⟩
 |extract t i=>
  rw[ho]at h;cases t with
  |tmp t=>exact ZsK ho aJ h
  |_=>cases h
 |panic y=>
  rw[ho]at h;refine Zwq ho (fun i=>?_) h;rcases jh with rfl|⟨x,k,m,rfl⟩
  ·trivial
  ·have:cls C.P pr ops o= .wr:=by unfold cls;rw[ho]
   rw[this];exact⟨i,rfl⟩
 |call q=>
  rw[ho]at h;simp only at h;have wr: ∀b,q.callee= .builtin b->b≠ .len->b≠ .min->b≠ .max->b≠ .append->∀i,kD md E (.inl i):=by
   intro b hq h1 h2 h3 h4 i;rcases jh with rfl|⟨x,k,m,rfl⟩
   ·trivial
   ·have:cls C.P pr ops o= .wr:=by
     unfold cls;rw[ho];simp only[hq];cases b<;>first|rfl|exact absurd rfl h1|exact absurd rfl h2|exact absurd rfl h3|exact absurd rfl h4
    rw[this];exact⟨i,rfl⟩
  cases hq:q.callee with
  |value f=>
   rw[hq]at h;have dq:cls C.P pr ops o= .ap []\/cls C.P pr ops o= .call:=by
    unfold cls;rw[ho];simp only[hq];cases has pr 1000000 with
    |true=>exact .inl rfl
    |false=>exact .inr rfl
   refine Zxs hq ho aJ (fun i=>?_) (fun i=>?_) hc h
   ·rcases jh with rfl|⟨x,k,m,rfl⟩
    ·trivial
    ·rcases dq with this|this<;>rw[this]<;>exact⟨i,rfl⟩
   ·rcases jh with rfl|⟨x,k,m,rfl⟩
    ·exact .inl trivial
    ·rcases dq with this|this<;>rw[this]
     ·by_cases hb: ∀b∈(Md.d (rB pr ops k m (.ap [])) x).bs,∃j p,E.get b= .v (.ptr (some (j,p)))/\j≠i
      ·exact .inl ⟨i,rfl,hb⟩
      ·refine .inr (.inr ?_)
       simp only[Classical.not_forall]at hb;obtain⟨b,ju,eQ⟩:=hb;exact⟨b,ju,fun j p e=>Classical.byContradiction fun bn=>eQ ⟨j,p,e,bn⟩⟩
     ·rcases eM x 2 with hx|hx
      ·exact .inl ⟨hx,i,rfl⟩
      ·exact .inr (.inl hx)
  |invoke f m=>rw[hq]at h;cases h
  |builtin b=>
   rw[hq]at h;cases b with
   |len=>exact ZyN hq rfl ho aJ h
   |append=>
    obtain⟨h,tx⟩:=ZAd h;have hc:cls C.P pr ops o= .ap []:=by unfold cls;rw[ho];simp only[hq]
    refine Zut hq ho aJ (fun i=>?_) (fun y z i p n hy he=>?_) h
    ·rcases jh with rfl|⟨x,k,m,rfl⟩
     ·trivial
     ·rw[hc];exact⟨i,rfl⟩
    ·rcases jh with rfl|⟨x,k,m,rfl⟩
     ·trivial
     ·rw[hc]at tx⊢
      exact⟨i,rfl,tx y z i p n hy he⟩
   |copy=>exact ZxB hq ho aJ (wr _ hq (by simp) (by simp) (by simp) (by simp)) h
   |min=>exact ZrR (mx:=false) hq rfl ho aJ h
   |max=>exact ZrR (mx:=true) hq rfl ho aJ h
   |clear=>exact ZvI hq ho aJ (wr _ hq (by simp) (by simp) (by simp) (by simp)) h
   |_=>cases h
 |_=>rw[ho]at h;cases h
end
end Go.Gv
