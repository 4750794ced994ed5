/- What an operation does, said of the machine and of the model: the frame of the proofs for the single operations. -/
import Derived.Test.YtegglibipjjblaaGreatDoorGvRel
import Derived.Laws.Strings
import Derived.Laws.Concat
import Derived.DeepKeys
import Derived.Laws.Slices
import Derived.Laws.BytesArg
import Derived.Laws.Tables
import Derived.Laws.MakeOwn
import Derived.Laws.Append
namespace Go.Gv
theorem B5 (k:Nat) (e:df) (l:List (Nat×df)) (t:Nat):look ((k,e)::l) t=if k=t then e else look l t:=by
 simp only[look];cases h:Nat.beq k t with
 |true=>rw[aF (bY h)];rfl
 |false=>rw[ay (zg h)];rfl
theorem Env.oo (E:Env) (t:Nat) (e:df) (u:Nat):(E.put t e).get u=if t=u then e else E.get u:=B5 t e E.l u
theorem Env.Vi (n:Nat) (t:Nat) (e:df) (l:List (Nat×df)) (u:Nat):(⟨n,(t,e)::l⟩:Env).get u=if t=u then e else look l u:=B5 t e l u
@[simp] theorem Env.Us (E : Env) (t : Nat) (e : df) : (E.put t e).aX = E.aX := rfl
@[simp] theorem Env.Bf (E : Env) (t : Option Nat) (e : df) : (E.dJ t e).aX = E.aX := by cases t <;> rfl
theorem Env.iE (E:Env) (t:Option Nat) (e:df) (u:Nat):(E.dJ t e).get u=if t=some u then e else E.get u:=by
 cases t with
 |none=>simp[Env.dJ]
 |some t=>simp only[Env.dJ,Env.oo,cQ]
theorem Cj: ∀(l:List Nat) (t:Nat),has l t=true↔t∈l
 |[],t=>by simp[has]
 |k::r,t=>by
  simp only[has,jt,cd,Cj r t];constructor
  ·rintro(h|h)
   ·exact .inl (bY h).symm
   ·exact .inr h
  ·rintro(h|h)
   ·exact .inl (by subst h;exact tG _)
   ·exact .inr h
theorem tW (E:Env) (ts:List Nat) (t:Nat):(E.del ts).get t=if has ts t then .u else E.get t:=by
 have key: ∀l:List (Nat×df),look (Ar l ts) t=if has ts t then .u else look l t:=by
  intro l;induction l with
  |nil=>simp[Ar,look]
  |cons x r ih=>
   obtain⟨k,e⟩:=x;simp only[Ar];cases hk:has ts k with
   |true=>
    simp only[cond_true,ih,B5];by_cases h:k=t
    ·subst h;simp[hk]
    ·simp[h]
   |false=>
    simp only[cond_false,B5,ih];by_cases h:k=t
    ·subst h;simp[hk]
    ·simp[h]
 exact key E.l
@[simp] theorem YB (E : Env) (ts : List Nat) : (E.del ts).aX = E.aX := rfl
def cN (E:Env) (s:St):cx->Prop
 | .inl i=>i<s.length
 | .inr v=>v<E.aX
def sh (E:Env) (s:St) (E':Env) (s':St) (h:cx):Prop:=¬cN E s h/\cN E' s' h
theorem xG {s:St} {i:Nat} {ab:AB} (h:cj s i=some ab):i<s.length:=by
 rcases eJ i s.length with h'|h'
 ·exact h'
 ·simp[cj,dL h']at h
theorem CR.nh {E:Env} {s:St} (hE:gL E) {h:cx} {ab:AB} (c:CR E s h ab):cN E s h:=by
 cases h with
 |inl i=>exact xG c
 |inr v=>
  rcases c with⟨t,n,cs,e,_⟩|⟨t,l,p,e,_⟩
  ·exact hE.lt t v (by rw[e];rfl)
  ·exact hE.lt t v (by rw[e];rfl)
theorem Gk {s:St} {x:St} {i:Nat} (h:i<s.length):cj (s++x) i=cj s i:=by
 simp only[cj,iN h]
theorem Ld (s:St) (b:bn):cj (s++[some b]) s.length=some (.cells b.jA b.cells):=by
 simp[cj]
def Spec (pr:List Nat) (o:Oper):Prop:=
 match o.op with
 | .store .. | .next .. | .range .. =>True
 | .alloc _| .box _ _=>∃d,o.dst=some d/\has pr d=true
 |_=>False
def oS (o:Oper):Prop:=
 match o.op with
 | .alloc _| .box .. | .buildSlice .. | .makeSlice .. | .convert .. =>True
 | .call q=>match q.callee with
  | .value _| .builtin .append=>True
  |_=>False
 |_=>False
structure jO (W:cx->Prop) (pr ms:List Nat) (o:Oper) (E:Env) (s:St) (E':Env) (s':St):Prop where
 len:s.length<=s'.length
 aX:E.aX<=E'.aX
 fe:gL E->gL E'
 other: ∀t,o.dst≠some t->has ms t=false->E'.get t=E.get t
 val: ∀t d,o.dst≠some t->E'.get t= .v d->E.get t= .v d
 bD: ∀t,o.dst≠some t->∀(C:aM) ψ x,ef C ψ (E.get t) x->ef C ψ (E'.get t) x
 back: ∀h ab,CR E' s' h ab->W h\/sh E s E' s' h\/CR E s h ab
 rV: ∀t v n cs,E'.get t= .loc v n cs->(∃jS,E.get t= .loc v n jS)\/(E.aX<=v/\o.dst=some t)
 tz: ∀t v l p,E'.get t= .it v l p->(∃p0,E.get t= .it v l p0)\/(E.aX<=v/\o.dst=some t)
 UH: ∀i,¬W (.inl i)->i<s.length->s'[i]? =s[i]?
 plain:(∃e:df,e.bT=none/\E'=E.dJ o.dst e)\/Spec pr o
 grow:s'.length=s.length\/oS o
structure aw (C:aM) (o:Oper) (D:cx->Prop) (E:Env) (s:St) (ψ:Ps) (Q:Kn) (a:Act) (w:World):Prop where
 dA:dP C ψ Q w
 eV:nW ψ w
 iR:Glob C ψ
 fe:gL E
 gT: ∀h ab cb,D h->CR E s h ab->ψ h=some cb->Q h ab
 args: ∀t,.tmp t∈o.op.operands->ef C ψ (E.get t) (a.tmps.getD t undef)
def EG (E:Env) (s:St) (E':Env) (s':St) (ψ:Ps):Prop:=∀h,sh E s E' s' h->ψ h=none
structure EE (C:aM) (D W:cx->Prop) (E:Env) (s:St) (E':Env) (s':St) (ψ:Ps) (Q:Kn) (w:World) (ψ':Ps) (Q':Kn) (w':World):Prop where
 dA:dP C ψ' Q' w'
 ext:Ext ψ Q w ψ' Q' w'
 news: ∀h cb,ψ' h=some cb->ψ h=some cb\/sh E s E' s' h
 p1: ∀h ab cb,CR E' s' h ab->(W h\/sh E s E' s' h)->ψ' h=some cb->Q' h ab
 p2: ∀h ab cb,ψ h=some cb->Q h ab->¬W h->(D h->cN E s h->CR E s h ab)->Q' h ab
def xk (C:aM) (o:Oper) (D W:cx->Prop) (E:Env) (s:St) (E':Env) (s':St):Prop:=
 ∀(ψ:Ps) (Q:Kn) (a:Act) (w:World) (next:Act->World->Prop) (QQ:Exit->Act->World->Prop),aw C o D E s ψ Q a w->EG E s E' s' ψ->
  (∀ψ' Q' v w',EE C D W E s E' s' ψ Q w ψ' Q' w'->(∀d,o.dst=some d->ef C ψ' (E'.get d) v)->next (a.put o.dst v) w')->o.wp C.P a w next QQ
def lF (ch:List PanicEntry):Prop:=∃t v,ch=[{ v:= .iface t v,recovered:=false }]
def si (C:aM) (o:Oper) (D:cx->Prop) (E:Env) (s s':St):Prop:=
 s.length<=s'.length/\
 ∀(ψ:Ps) (Q:Kn) (a:Act) (w:World) (next:Act->World->Prop) (QQ:Exit->Act->World->Prop),aw C o D E s ψ Q a w->EG E s E s' ψ->
  (∀ψ' Q' ch w',lF ch->dP C ψ' Q' w'->Ext ψ Q w ψ' Q' w'->(∀h cb,ψ' h=some cb->ψ h=some cb\/sh E s E s' h)->
   (∀i ab cb,cj s' i=some ab->ψ' (.inl i)=some cb->Q' (.inl i) ab)->QQ (.panic ch) a w')->o.wp C.P a w next QQ
def bm {β:Type} (C:aM) (md:Md) (pr ms:List Nat) (o:Oper) (D W:cx->Prop) (E:Env) (s:St) (K:Env->M β) (r:Out β×St):Prop:=
 (∃E' s',K E' s'=some r/\jO W pr ms o E s E' s'/\xk C o D W E s E' s')\/(md.x=0/\∃s',r=(.cy,s')/\si C o D E s s')
theorem Zrn {C:aM} {ψ:Ps} {v:Value} {d:DV} (h:wQ v=some d):VR C ψ d v:=by
 unfold wQ at h;split at h<;>first|(cases h;done)|(injection h with h;subst h)
 ·exact .bool _
 ·exact .int _ _
 ·exact .str _
 ·exact .D2
 ·exact .oK _
 ·exact .nilFunc
 ·exact .nilIface
theorem Zxs {v:Value} {d:DV} (h:wQ v=some d):one d=true:=by
 unfold wQ at h;split at h<;>first|(cases h;done)|(injection h with h;subst h;rfl)
theorem zD {C:aM} {ψ:Ps} : ∀ {vs:List Value} {ds:List DV},Ct vs=some ds->aR C ψ ds vs/\ds.all one=true
 |[],ds,h=>by simp only[Ct,cQ]at h;subst h;exact⟨.nil,rfl⟩
 |v::vs,ds,h=>by
  simp only[Ct]at h;split at h
  ·rename_i d iP h1 h2
   injection h with h;subst h
   obtain⟨a,b⟩:=zD (C:=C) (ψ:=ψ) h2;exact⟨.cons _ _ _ _ (Zrn h1) a,by simp[Zxs h1,b]⟩
  ·cases h
section
variable {C:aM} {o:Oper} {D:cx->Prop} {E:Env} {s:St} {ψ:Ps} {Q:Kn} {a:Act} {w:World}
theorem aw.src (p:aw C o D E s ψ Q a w) {x:Operand} (hx:x∈o.op.operands):ef C ψ (E.src C x) (a.eval x):=by
 cases x with
 |tmp t=>
  have h:=p.args t hx;simp only[Env.src,Act.eval];cases he:E.get t with
  |loc v n cs=>
   rw[he]at h;obtain⟨cb,h1,h2,h3⟩:=h;exact⟨cb,h1,h2,h3⟩
  |it v l q=>exact trivial
  |u=>exact trivial
  |un=>rw[he]at h;exact h
  |v d=>rw[he]at h;exact h
  |mL ds=>rw[he]at h;exact h
  |pl r v n=>rw[he]at h;exact h
 |const v=>
  simp only[Env.src,Act.eval];split
  ·exact Zrn (by assumption)
  ·exact trivial
 |global g=>
  simp only[Env.src,Act.eval];cases hg:C.vU g with
  |false=>exact trivial
  |true=>
   obtain⟨cb,h1,h2,h3⟩:=p.iR g hg;have:=VR.ptr (C:=C) (ψ:=ψ) (C.gl g) 0 cb h1;rw[h2,h3]at this;exact this
 |func f=>
  simp only[Env.src,Act.eval];cases hg:C.cov f with
  |false=>exact trivial
  |true=>exact VR.func f [] [] #[] #[] hg .nil .nil
theorem aw.val (p:aw C o D E s ψ Q a w) {x:Operand} (hx:x∈o.op.operands) {d:DV} (h:E.src C x= .v d):VR C ψ d (a.eval x):=by
 have:=p.src hx;rw[h]at this;exact this
theorem Env.Ec (C:aM) (E:Env) (x:Operand):(E.src C x).bT=none:=by
 cases x with
 |tmp t=>simp only[Env.src];cases E.get t<;>rfl
 |const v=>simp only[Env.src];cases wQ v<;>rfl
 |global g=>simp only[Env.src];cases C.vU g<;>rfl
 |func f=>simp only[Env.src];cases C.cov f<;>rfl
theorem Env.yM (C:aM) {E:Env} (hE:gL E) {x:Operand} {r v n:Nat} (h:E.src C x= .pl r v n):v<E.aX:=by
 cases x with
 |tmp t=>
  simp only[Env.src]at h;cases he:E.get t with
  |loc v' m cs=>
   rw[he]at h;simp only[df.pl.injEq]at h;obtain⟨_,rfl,_⟩:=h;exact hE.lt t v' (by rw[he];rfl)
  |pl r' v' n'=>
   rw[he]at h;simp only[df.pl.injEq]at h;obtain⟨_,rfl,_⟩:=h;exact hE.pl t _ _ _ he
  |_=>rw[he]at h;cases h
 |const v=>simp only[Env.src]at h;cases hv:wQ v<;>rw[hv]at h<;>cases h
 |global g=>simp only[Env.src]at h;cases hv:C.vU g<;>rw[hv]at h<;>cases h
 |func f=>simp only[Env.src]at h;cases hv:C.cov f<;>rw[hv]at h<;>cases h
end
theorem gL.dJ {E:Env} (hE:gL E) {t:Option Nat} {e:df} (hv:e.bT=none) (hp: ∀r v n,e= .pl r v n->v<E.aX):gL (E.dJ t e):=by
 constructor
 ·intro u v h
  rw[Env.iE]at h;rw[Env.Bf];split at h
  ·rw[hv]at h;cases h
  ·exact hE.lt u v h
 ·intro u r v n h
  rw[Env.iE]at h;rw[Env.Bf];split at h
  ·exact hp r v n h
  ·exact hE.pl u r v n h
 ·intro u v n cs h
  rw[Env.iE]at h;split at h
  ·rw[h]at hv;cases hv
  ·exact hE.len u v n cs h
 ·intro u u' v h h'
  rw[Env.iE]at h h';split at h
  ·rw[hv]at h;cases h
  ·split at h'
   ·rw[hv]at h';cases h'
   ·exact hE.uniq u u' v h h'
theorem CR.dJ {E:Env} {t:Option Nat} {e:df} {s:St} {h:cx} {ab:AB} (hv:e.bT=none) (c:CR (E.dJ t e) s h ab):CR E s h ab:=by
 cases h with
 |inl i=>exact c
 |inr v=>
  rcases c with⟨u,n,cs,h,cR⟩|⟨u,l,p,h,cR⟩
  ·rw[Env.iE]at h
   split at h
   ·rw[h]at hv;cases hv
   ·exact .inl ⟨u,n,cs,h,cR⟩
  ·rw[Env.iE]at h
   split at h
   ·rw[h]at hv;cases hv
   ·exact .inr ⟨u,l,p,h,cR⟩
section
variable {C:aM} {o:Oper} {D W:cx->Prop} {E:Env} {s:St}
theorem jO.put (pr ms:List Nat) (e:df) (hv:e.bT=none) (hp:gL E->∀r v n,e= .pl r v n->v<E.aX) {s':St} (hl:s.length<=s'.length)
  (hs: ∀i ab,cj s' i=some ab->W (.inl i)\/s.length<=i\/cj s i=some ab) (hf: ∀i,¬W (.inl i)->i<s.length->s'[i]? =s[i]?) (hg:s'.length=s.length\/oS o):jO W pr ms o E s (E.dJ o.dst e) s' where
 len:=hl
 aX:=by simp
 fe:=fun hE=>hE.dJ hv (hp hE)
 other:=fun t h _=>by rw[Env.iE,ay h]
 val:=fun t d h e=>by rw[Env.iE,ay h]at e;exact e
 bD:=fun t h C ψ x r=>by rw[Env.iE,ay h];exact r
 back:=fun h ab c=>by
  cases h with
  |inl i=>
   have c':cj s' i=some ab:=c;rcases hs i ab c' with h|h|h
   ·exact .inl h
   ·exact .inr (.inl ⟨tI.2 h,xG c'⟩)
   ·exact .inr (.inr h)
  |inr v=>
   have c':CR (E.dJ o.dst e) s (.inr v) ab:=c;exact .inr (.inr (c'.dJ hv))
 rV:=fun t v n cs h=>by
  rw[Env.iE]at h;split at h
  ·rw[h]at hv;cases hv
  ·exact .inl ⟨cs,h⟩
 tz:=fun t v l p h=>by
  rw[Env.iE]at h;split at h
  ·rw[h]at hv;cases hv
  ·exact .inl ⟨p,h⟩
 UH:=hf
 plain:= .inl ⟨e,hv,rfl⟩
 grow:=hg
theorem jO.RG (pr ms:List Nat) (e:df) (hv:e.bT=none) (hp:gL E->∀r v n,e= .pl r v n->v<E.aX):jO W pr ms o E s (E.dJ o.dst e) s:=
 jO.put pr ms e hv hp (aA _) (fun _ _ h=> .inr (.inr h)) (fun _ _ _=>rfl) (.inl rfl)
theorem xk.pure (aI: ∀h,W h->D h) (e:df) (hv:e.bT=none)
  (cD: ∀ψ Q a w,aw C o D E s ψ Q a w->∃v w',(execOp a.eval o).run C.P w= .ok (.value v) w'/\fq w w'/\ef C ψ e v):xk C o D W E s (E.dJ o.dst e) s:=by
 intro ψ Q a w next QQ p _ hn;obtain⟨v,w',hr,hm,cM⟩:=cD ψ Q a w p;unfold Oper.wp;rw[hr];refine hn ψ Q v w' ⟨p.dA.more p.eV hm,Ext.more hm,fun h cb e=> .inl e,fun h ab cb c hw e=>?_,fun h ab cb e q _ _=>q⟩ (fun d hd=>?_)
 ·rcases hw with hw|⟨h1,h2⟩
  ·exact p.gT h ab cb (aI h hw) (c.dJ hv) e
  ·exact absurd (by cases h<;>simpa [cN]using h2) h1
 ·rw[Env.iE,aF hd];exact cM
theorem bm.pure {β:Type} {md:Md} {pr ms:List Nat} (aI: ∀h,W h->D h) {K:Env->M β} {r:Out β×St} (e:df) (hv:e.bT=none) (hp:gL E->∀r v n,e= .pl r v n->v<E.aX)
  (hk:K (E.dJ o.dst e) s=some r)
  (cD: ∀ψ Q a w,aw C o D E s ψ Q a w->∃v w',(execOp a.eval o).run C.P w= .ok (.value v) w'/\fq w w'/\ef C ψ e v):bm C md pr ms o D W E s K r:=
 .inl ⟨_,_,hk,jO.RG pr ms e hv hp,xk.pure aI e hv cD⟩
theorem bm.val {β:Type} {md:Md} {pr ms:List Nat} (aI: ∀h,W h->D h) {K:Env->M β} {r:Out β×St} (d:DV)
  (hk:dt E o K d s=some r)
  (cD: ∀ψ Q a w,aw C o D E s ψ Q a w->∃v w',(execOp a.eval o).run C.P w= .ok (.value v) w'/\fq w w'/\VR C ψ d v):bm C md pr ms o D W E s K r:=
 bm.pure aI (.v d) rfl (fun _ _ _ _ h=>by cases h) hk cD
theorem bm.DT {β:Type} {md:Md} {pr ms:List Nat} (bA:oS o) (aI: ∀h,W h->D h) {K:Env->M β} {r:Out β×St} (d:DV) (cells:List DV)
  (hk:dt E o K d (s++[some ⟨false,cells⟩])=some r)
  (cD: ∀ψ Q a w,aw C o D E s ψ Q a w->∃v w' cb,(execOp a.eval o).run C.P w= .ok (.value v) w'/\fq w w'/\w.heap.size<=cb.b/\cb.b<w'.heap.size/\
   Holds C ψ w' cb (.cells false cells)/\(∀ψ',(∀h c,ψ h=some c->ψ' h=some c)->ψ' (.inl s.length)=some cb->VR C ψ' d v)):bm C md pr ms o D W E s K r:=by
 refine .inl ⟨_,_,hk,jO.put pr ms (.v d) rfl (fun _ _ _ _ h=>by cases h) (by simp) (fun i ab h=>?_) (fun _ i hi=>iN hi) (.inr bA),?_⟩
 ·rcases eJ i s.length with hi|hi
  ·rw[Gk hi]at h;exact .inr (.inr h)
  ·exact .inr (.inl hi)
 ·intro ψ Q a w next QQ p room hn
  obtain⟨v,w',cb,hr,hm,h1,h2,hh,cM⟩:=cD ψ Q a w p;have fC:sh E s (E.dJ o.dst (.v d)) (s++[some ⟨false,cells⟩]) (.inl s.length):=⟨by simp[cN],by simp[cN]⟩;have hf:=room _ fC;unfold Oper.wp;rw[hr];refine hn _ _ v w' ⟨dP.new (cb:=cb) (ab:= .cells false cells) p.dA p.eV hm hf h1 (hh.same (fun _ _ e=>rh hf _ _ e) rfl),Ext.new hm hf h1 h2,fun h c e=>?_,fun h ab c cr hw e=>?_,fun h ab c e q _ _=>?_⟩ (fun d' hd=>?_)
  ·by_cases eh:h= .inl s.length
   ·subst eh;exact .inr fC
   ·rw[lH _ _ eh]at e;exact .inl e
  ·by_cases eh:h= .inl s.length
   ·subst eh
    have lJ:cj (s++[some ⟨false,cells⟩]) s.length=some ab:=cr;rw[Ld]at lJ;cases lJ;exact .inl ⟨rfl,rfl⟩
   ·refine .inr ⟨eh,?_⟩
    rw[lH _ _ eh]at e;rcases hw with hw|⟨n1,n2⟩
    ·refine p.gT h ab c (aI h hw) ?_ e
     cases h with
     |inl i=>
      have lJ:cj (s++[some ⟨false,cells⟩]) i=some ab:=cr;have:=xG lJ;simp only[aZ,tE]at this
      rwa [Gk (by have:i≠s.length:=fun e=>eh (by rw[e]);omega)]at lJ
     |inr x=>
      have lJ:CR (E.dJ o.dst (.v d)) s (.inr x) ab:=cr;exact lJ.dJ rfl
    ·cases h with
     |inl i=>
      simp only[cN,aZ,tE]at n1 n2;exact absurd (by rw[show i=s.length by omega]) eh
     |inr x=>simp only[cN,Env.Bf]at n1 n2;exact absurd n2 n1
  ·refine .inr ⟨fun eh=>?_,q⟩
   subst eh;rw[hf]at e;cases e
  ·rw[Env.iE,aF hd]
   exact cM _ (rh hf) (mX _ _ _)
end
end Go.Gv
namespace Go.Gv
variable {β:Type}
theorem Zr {C:aM} {E:Env} {x:Operand} {K:DV->M β} {s:St} {r:Out β×St} (h:dR C E x K s=some r): ∃d,E.src C x= .v d/\K d s=some r:=by
 unfold dR at h;cases he:E.src C x<;>rw[he]at h<;>first|exact⟨_,rfl,h⟩|cases h
theorem zL {C:aM} {E:Env} {x:Operand} {K:Int->M β} {s:St} {r:Out β×St} (h:wK C E x K s=some r): ∃k n,E.src C x= .v (.int k n)/\K n s=some r:=by
 obtain⟨d,h1,h2⟩:=Zr h;split at h2
 ·exact⟨_,_,h1,h2⟩
 ·cases h2
theorem M7 {C:aM} {E:Env} {x:Operand} {K:Bool->M β} {s:St} {r:Out β×St} (h:Pm C E x K s=some r): ∃b,E.src C x= .v (.bool b)/\K b s=some r:=by
 obtain⟨d,h1,h2⟩:=Zr h;split at h2
 ·exact⟨_,h1,h2⟩
 ·cases h2
theorem Ov {a:Option (Nat×Nat)} {K:Nat->Nat->M β} {s:St} {r:Out β×St} (h:M.nn a K s=some r): ∃i o,a=some (i,o)/\K i o s=some r:=by
 unfold M.nn at h;split at h
 ·exact⟨_,_,rfl,h⟩
 ·cases h
theorem BN {C:aM} {E:Env} {x:Operand} {KL:Nat->Nat->Nat->M β} {KH:Nat->Nat->M β} {s:St} {r:Out β×St} (h:xP C E x KL KH s=some r):
  (∃t v o,E.src C x= .pl t v o/\KL t v o s=some r)\/(∃i o,E.src C x= .v (.ptr (some (i,o)))/\KH i o s=some r):=by
 unfold xP at h;cases he:E.src C x with
 |pl t v o=>rw[he]at h;exact .inl ⟨_,_,_,rfl,h⟩
 |v d=>
  rw[he]at h;cases d with
  |ptr a=>
   obtain⟨i,o,rfl,h⟩:=Ov h;exact .inr ⟨i,o,rfl,h⟩
  |_=>cases h
 |_=>rw[he]at h;cases h
theorem ZM {b:Bool} {K:M β} {s:St} {r:Out β×St} (h:M.ak b K s=some r):b=true/\K s=some r:=by
 cases b with
 |true=>exact⟨rfl,h⟩
 |false=>cases h
theorem Zp {b:Bool} {x:M β} {s:St} {r:Out β×St} (h:(bif b then x else fail) s=some r):b=true/\x s=some r:=by
 cases b with
 |true=>exact⟨rfl,h⟩
 |false=>cases h
theorem BY {b:Bool} {x:M β} {s:St} {r:Out β×St} (h:(bif b then fail else x) s=some r):b=false/\x s=some r:=by
 cases b with
 |false=>exact⟨rfl,h⟩
 |true=>cases h
theorem mb {P:Program} {t:TypeId} {K:M β} {s:St} {r:Out β×St} (h:nL P t K s=some r): ∃d,P.underlying t=some d/\K s=some r:=by
 unfold nL at h;cases he:P.underlying t<;>rw[he]at h<;>first|exact⟨_,rfl,h⟩|cases h
theorem Il {cs:List DV} {i:Nat} {K:DV->M β} {s:St} {r:Out β×St} (h:D.nth cs i K s=some r): ∃d,cs[i]? =some d/\K d s=some r:=by
 unfold D.nth at h;cases he:cs[i]? <;>rw[he]at h<;>first|exact⟨_,rfl,h⟩|cases h
theorem NZ {cs:List DV} {n:Nat} {K:M β} {s:St} {r:Out β×St} (h:D.len cs n K s=some r):cs.length=n/\K s=some r:=by
 unfold D.len at h;obtain⟨h1,h2⟩:=Zp h;exact⟨bY h1,h2⟩
theorem Znb {E:Env} {t v:Nat} {K:Nat->List DV->M β} {s:St} {r:Out β×St} (h:IM E t v K s=some r): ∃n cs,E.get t= .loc v n cs/\K n cs s=some r:=by
 unfold IM at h;cases he:E.get t with
 |loc v' n cs=>
  rw[he]at h;obtain⟨h1,h2⟩:=Zp h;have:=bY h1;subst this;exact⟨n,cs,rfl,h2⟩
 |_=>rw[he]at h;cases h
theorem Cq {k k':IntKind} (h:pJ k k'=true):k=k':=by cases k<;>cases k'<;>first|rfl|(simp[pJ]at h)
theorem It {x:B} {d:DV} {K:DV->M β} {s:St} {r:Out β×St} (h:d1 x d K s=some r):
  ∃d',K d' s=some r/\(∀(C:aM) ψ v,VR C ψ d v->VR C ψ d' v)/\(one d=true->one d'=true):=by
 unfold d1 at h;split at h
 ·unfold D.bool at h;split at h
  ·exact⟨_,h,fun _ _ _ h=>h,fun h=>h⟩
  ·cases h
 ·unfold D.int at h;split at h
  ·obtain⟨h1,h2⟩:=Zp h
   have:=Cq h1;subst this;exact⟨_,h2,fun _ _ _ h=>h,fun h=>h⟩
  ·cases h
 ·unfold D.str at h;split at h
  ·exact⟨_,h,fun _ _ _ h=>h,fun h=>h⟩
  ·cases h
 ·unfold D.ptr at h;split at h
  ·exact⟨_,h,fun _ _ _ h=>h,fun h=>h⟩
  ·cases h
 ·unfold D.slice at h;split at h
  ·rename_i z a n
   obtain⟨h1,h2⟩:=Zp h;refine⟨_,h2,fun C ψ v hv=>?_,fun _=>rfl⟩;simp only[jt]at h1;rcases h1 with h1|h1
   ·have:=bY h1;subst this;exact hv
   ·cases a with
    |none=>cases hv;exact .oK _
    |some _=>cases h1
  ·cases h
 ·unfold D.func at h;split at h
  ·exact⟨_,h,fun _ _ _ h=>h,fun h=>h⟩
  ·cases h
 ·exact⟨_,h,fun _ _ _ h=>h,fun h=>h⟩
 ·cases h
theorem BM: ∀ {l:List B} {cs:List DV} {K:List DV->M β} {s:St} {r:Out β×St},kO l cs K s=some r->
  ∃ds,K ds s=some r/\ds.length=cs.length/\(∀(C:aM) ψ vs,aR C ψ cs vs->aR C ψ ds vs)/\(cs.all one=true->ds.all one=true)
 |[],cs,K,s,r,h=>by
  simp only[kO]at h;cases cs with
  |nil=>exact⟨[],h,rfl,fun _ _ _ h=>h,fun h=>h⟩
  |cons _ _=>cases h
 |x::l,cs,K,s,r,h=>by
  have gen: ∀ {x:B},(D.cons cs fun d rest=>d1 x d fun d'=>kO l rest fun ds=>K (d'::ds)) s=some r->
    ∃ds,K ds s=some r/\ds.length=cs.length/\(∀(C:aM) ψ vs,aR C ψ cs vs->aR C ψ ds vs)/\(cs.all one=true->ds.all one=true):=by
   intro x h;cases cs with
   |nil=>cases h
   |cons d rest=>
    simp only[D.cons]at h;obtain⟨d',h,hd,h1⟩:=It h;obtain⟨ds,h,hl,hr,h2⟩:=BM h;refine⟨_,h,by simp[hl],fun C ψ vs hv=>?_,fun ho=>?_⟩
    ·cases hv with
     |cons _ v _ vs a b=>exact .cons _ _ _ _ (hd C ψ v a) (hr C ψ vs b)
    ·simp only[rZ,aH]at ho⊢
     exact⟨h1 ho.1,h2 ho.2⟩
  have dQ: ∀ {n:Nat} ,(D.dQ n cs fun xs rest=>kO l rest fun ds=>K (xs++ds)) s=some r->
    ∃ds,K ds s=some r/\ds.length=cs.length/\(∀(C:aM) ψ vs,aR C ψ cs vs->aR C ψ ds vs)/\(cs.all one=true->ds.all one=true):=by
   intro n h;unfold D.dQ at h;obtain⟨h1,h⟩:=Zp h;have h1:=lC h1;obtain⟨ds,h,hl,hr,h2⟩:=BM h;refine⟨_,h,by simp[hl];omega,fun C ψ vs hv=>?_,fun ho=>?_⟩
   ·have e:vs=vs.take n++vs.drop n:=(nU n vs).symm
    rw[e];exact(hv.take n).append (hr C ψ _ (hv.drop n))
   ·rw[qR,aH]
    have yl: ∀x∈cs,one x=true:=gm.1 ho;exact⟨gm.2 fun x hx=>yl x (sa hx),h2 (gm.2 fun x hx=>yl x (r9 hx))⟩
  cases x with
  |dQ n=>
   cases l with
   |nil=>
    simp only[kO]at h;obtain⟨hl,h⟩:=NZ h;exact⟨cs,h,rfl,fun _ _ _ h=>h,fun h=>h⟩
   |cons y l=>simp only[kO]at h;exact dQ h
  |bool=>simp only[kO]at h;exact gen h
  |int k=>simp only[kO]at h;exact gen h
  |str=>simp only[kO]at h;exact gen h
  |ptr=>simp only[kO]at h;exact gen h
  |slice sz=>simp only[kO]at h;exact gen h
  |func=>simp only[kO]at h;exact gen h
  |any=>simp only[kO]at h;exact gen h
theorem Ii {x:Sh} {d:DV} {K:DV->M β} {s:St} {r:Out β×St} (h:ug x d K s=some r):
  ∃d',K d' s=some r/\(∀(C:aM) ψ v,VR C ψ d v->VR C ψ d' v)/\(one d=true->one d'=true):=by
 cases x with
 |b x=>exact It h
 |agg l=>
  simp only[ug,D.agg]at h;split at h
  ·obtain⟨ds,h,hl,hr,h2⟩:=BM h
   refine⟨_,h,fun C ψ v hv=>?_,fun h=>by cases h⟩;cases hv with
   |agg _ vs a b=>exact .agg _ _ (hr C ψ _ a) (h2 b)
  ·cases h
theorem BP: ∀ {l:List Sh} {cs:List DV} {K:List DV->M β} {s:St} {r:Out β×St},vR l cs K s=some r->
  ∃ds,K ds s=some r/\ds.length=cs.length/\ds.length=l.length/\(∀(C:aM) ψ vs,aR C ψ cs vs->aR C ψ ds vs)
 |[],cs,K,s,r,h=>by
  simp only[vR]at h;cases cs with
  |nil=>exact⟨[],h,rfl,rfl,fun _ _ _ h=>h⟩
  |cons _ _=>cases h
 |x::l,cs,K,s,r,h=>by
  simp only[vR]at h;cases cs with
  |nil=>cases h
  |cons d rest=>
   simp only[D.cons]at h;obtain⟨d',h,hd,_⟩:=Ii h;obtain⟨ds,h,hl,lN,hr⟩:=BP h;refine⟨_,h,by simp[hl],by simp[lN],fun C ψ vs hv=>?_⟩;cases hv with
   |cons _ v _ vs a b=>exact .cons _ _ _ _ (hd C ψ v a) (hr C ψ vs b)
inductive SV (C:aM) (E:Env):List Operand->List DV->Prop
 |nil:SV C E [] []
 |cons {x:Operand} {d:DV} {l:List Operand} {ds:List DV} :E.src C x= .v d->SV C E l ds->SV C E (x::l) (d::ds)
theorem BX {C:aM} {E:Env} : ∀ {l:List Operand} {K:List DV->M β} {s:St} {r:Out β×St},u5 C E l K s=some r->
  ∃ds,K ds s=some r/\SV C E l ds
 |[],K,s,r,h=>⟨[],h,.nil⟩
 |x::l,K,s,r,h=>by
  simp only[u5]at h;obtain⟨d,h1,h⟩:=Zr h;obtain⟨ds,h,h2⟩:=BX h;exact⟨_,h,.cons h1 h2⟩
theorem Ca {C:aM} {o:Oper} {D:cx->Prop} {E:Env} {s:St} {ψ:Ps} {Q:Kn} {a:Act} {w:World} (p:aw C o D E s ψ Q a w):
  ∀ {l:List Operand} {ds:List DV},(∀x∈l,x∈o.op.operands)->SV C E l ds->aR C ψ ds (l.map a.eval)
 |[],_,_,.nil=> .nil
 |x::l,_,hm,.cons h1 h2=> .cons _ _ _ _ (p.val (hm x (by simp)) h1) (Ca p (fun y hy=>hm y (by simp[hy])) h2)
theorem Zmn {P:Program} {t:TypeId} {d:TypeDesc} (h:P.underlying t=some d): ∃i,P.info? t=some i/\i.size=P.cellsOf t:=by
 unfold Program.underlying at h;unfold Program.cellsOf;cases hi:P.info? t with
 |none=>rw[hi]at h;cases h
 |some i=>exact⟨i,rfl,by simp⟩
theorem Zi {P:Program} {t:TypeId} {d:TypeDesc} (w:World) (h:P.underlying t=some d):(underlying t).run P w= .ok d w:=by
 simp[underlying,h]
theorem ZN {P:Program} {t:TypeId} {d:TypeDesc} (w:World) (h:P.underlying t=some d):(sizeOf t).run P w= .ok (P.cellsOf t) w:=by
 obtain⟨i,h1,h2⟩:=Zmn h;simp[sizeOf,typeInfo,h1,h2]
theorem BV {P:Program} {t:TypeId} {d:TypeDesc} (w:World) (h:P.underlying t=some d):(isAgg t).run P w= .ok (ZI P t) w:=by
 simp only[isAgg,Sem.run_bind,Zi w h,Result.andThen_ok,ZI,h];cases d<;>rfl
theorem M1 {P:Program} {t:TypeId} {z:List DV} (w:World) (h:kf P t=some z): ∃v,(zeroValue t).run P w= .ok v w/\(∀(C:aM) ψ,aR C ψ z v.cells.toList)/\z.all one=true:=by
 unfold kf at h;split at h
 ·rename_i i hi
  split at h
  ·rename_i v hv
   refine⟨v,by simp[zeroValue,typeInfo,hi,hv],fun C ψ=>(zD h).1,?_⟩;exact(zD (C:=⟨P,id,fun _=>true,id,id,fun _=>true,fun _=>[],fun _=>false⟩) (ψ:=fun _=>none) h).2
  ·cases h
 ·cases h
theorem Zre {C:aM} {ψ:Ps} {w:World} {b:Nat} {c:Array Value} {ty:TypeId} {fr:Nat×Nat} {cells:List DV} (hb:w.heap[b]? =some (.cells c ty fr)) (hf:fr=(0,0)\/c.size<=fr.1)
  (hr:aR C ψ cells (c.toList.take cells.length)) (ho:cells.all one=true):Holds C ψ w ⟨b,0,c.size⟩ (.cells false cells):=by
 have hl:cells.length<=c.size:=by
  have:=hr.len;simp only[cn,js]at this;omega
 refine⟨hl,ho,fun j d hd=>?_,fun _=>⟨c,ty,fr,hb,by simp,fun j hj=>?_⟩⟩
 ·obtain⟨v,hv,iV⟩:=hr.get hd
  refine⟨v,?_,iV⟩;rw[mR]at hv;split at hv
  ·rw[cell_of_row w b _ c ty fr hb];simpa using hv
  ·cases hv
 ·rcases hf with hf|hf
  ·subst hf;simp
  ·simp only at hj
   have:decide (fr.1<=0+j)=false:=by simp;omega
   rw[this];rfl
theorem Zzg (a:Act) (t:Nat):a.eval (.tmp t)=a.tmps.getD t undef:=rfl
end Go.Gv
namespace Go.Gv
variable {β:Type}
section
variable {C:aM} {o:Oper} {D W:cx->Prop} {E:Env} {s:St} {md:Md} {pr ms:List Nat}
theorem bm.Uo (fY:Spec pr o) (aI: ∀h,W h->D h) {K:Env->M β} {r:Out β×St} (t:Nat) (ht:o.dst=some t) (e:df) (ab:AB)
  (he:(∃n cells,e= .loc E.aX n cells/\ab= .cells false cells/\cells.length=n)\/(∃l p,e= .it E.aX l p/\ab= .iter l p))
  (hk:K ⟨E.aX+1,(t,e)::E.l⟩ s=some r)
  (cD: ∀ψ Q a w,aw C o D E s ψ Q a w->∃w' cb,(execOp a.eval o).run C.P w= .ok (.value (.pointer (some ⟨cb.b,0,none⟩))) w'/\fq w w'/\w.heap.size<=cb.b/\cb.b<w'.heap.size/\
   cb.o=0/\Holds C ψ w' cb ab):bm C md pr ms o D W E s K r:=by
 have hv:e.bT=some E.aX:=by rcases he with⟨n,c,rfl,_⟩|⟨l,p,rfl,_⟩<;>rfl
 have get: ∀u,(⟨E.aX+1,(t,e)::E.l⟩:Env).get u=if t=u then e else E.get u:=fun u=>Env.Vi _ _ _ _ _
 have crn: ∀bJ,CR ⟨E.aX+1,(t,e)::E.l⟩ s (.inr E.aX) bJ->gL E->bJ=ab:=by
  intro bJ c hE;rcases c with⟨u,n,cs,h,cR⟩|⟨u,l,p,h,cR⟩<;>rw[get]at h<;>split at h
  ·rcases he with⟨n',c',rfl,rfl,_⟩|⟨l,p,rfl,_⟩
   ·cases h;exact cR
   ·cases h
  ·have:=hE.lt u E.aX (by rw[h];rfl);omega
  ·rcases he with⟨n',c',rfl,rfl,_⟩|⟨l,p,rfl,rfl⟩
   ·cases h
   ·cases h;exact cR
  ·have:=hE.lt u E.aX (by rw[h];rfl);omega
 have Pp: ∀h bJ,CR ⟨E.aX+1,(t,e)::E.l⟩ s h bJ->h≠ .inr E.aX->CR E s h bJ:=by
  intro h bJ c bp;cases h with
  |inl i=>exact c
  |inr v=>
   rcases c with⟨u,n,cs,h,cR⟩|⟨u,l,p,h,cR⟩<;>rw[get]at h<;>split at h
   ·rw[h]at hv;cases hv;exact absurd rfl bp
   ·exact .inl ⟨u,n,cs,h,cR⟩
   ·rw[h]at hv;cases hv;exact absurd rfl bp
   ·exact .inr ⟨u,l,p,h,cR⟩
 have fC:sh E s ⟨E.aX+1,(t,e)::E.l⟩ s (.inr E.aX):=⟨by simp[cN],by simp[cN]⟩;refine .inl ⟨_,_,hk,⟨aA _,by simp,fun hE=>⟨?_,?_,?_,?_⟩,?_,(fun u d _ h=>by
   rw[get]at h;split at h
   ·rw[h]at hv;cases hv
   ·exact h),?_,?_,?_,?_,fun _ _ _=>rfl,.inr fY,.inl rfl⟩,?_⟩
 ·intro u v h
  rw[get]at h;split at h
  ·rw[hv]at h;cases h;simp
  ·have:=hE.lt u v h;simp only;omega
 ·intro u x v n h
  rw[get]at h;split at h
  ·rw[h]at hv;cases hv
  ·have:=hE.pl u x v n h;simp only;omega
 ·intro u v n cs h
  rw[get]at h;split at h
  ·rcases he with⟨n',c',rfl,_,hl⟩|⟨l,p,rfl,_⟩
   ·cases h;exact hl
   ·cases h
  ·exact hE.len u v n cs h
 ·intro u u' v h h'
  rw[get]at h h';split at h<;>split at h'
  ·omega
  ·rw[hv]at h;cases h;have:=hE.lt u' _ h';omega
  ·rw[hv]at h';cases h';have:=hE.lt u _ h;omega
  ·exact hE.uniq u u' v h h'
 ·intro u h _
  rw[get,ay (fun e=>h (by rw[ht,e]))]
 ·intro u h C ψ x hr
  rw[get,ay (fun e=>h (by rw[ht,e]))];exact hr
 ·intro h bJ c
  by_cases eh:h= .inr E.aX
  ·subst eh;exact .inr (.inl fC)
  ·exact .inr (.inr (Pp h bJ c eh))
 ·intro u v n cs h
  rw[get]at h;split at h
  ·rename_i hu;rw[h]at hv;simp only[df.bT,cQ]at hv;exact .inr ⟨by omega,by rw[ht,hu]⟩
  ·exact .inl ⟨cs,h⟩
 ·intro u v l p h
  rw[get]at h;split at h
  ·rename_i hu;rw[h]at hv;simp only[df.bT,cQ]at hv;exact .inr ⟨by omega,by rw[ht,hu]⟩
  ·exact .inl ⟨p,h⟩
 ·intro ψ Q a w next QQ p room hn
  obtain⟨w',cb,hr,hm,h1,h2,h0,hh⟩:=cD ψ Q a w p;have hf:=room _ fC;unfold Oper.wp;rw[hr];refine hn _ _ _ w' ⟨dP.new (cb:=cb) (ab:=ab) p.dA p.eV hm hf h1 (hh.same (fun _ _ e=>rh hf _ _ e) rfl),Ext.new hm hf h1 h2,fun h c e=>?_,fun h bJ c cr hw e=>?_,fun h bJ c e q _ _=>?_⟩ (fun d' hd=>?_)
  ·by_cases eh:h= .inr E.aX
   ·subst eh;exact .inr fC
   ·rw[lH _ _ eh]at e;exact .inl e
  ·by_cases eh:h= .inr E.aX
   ·subst eh;exact .inl ⟨rfl,crn _ cr p.fe⟩
   ·refine .inr ⟨eh,?_⟩
    rw[lH _ _ eh]at e;rcases hw with hw|⟨n1,n2⟩
    ·exact p.gT h bJ c (aI h hw) (Pp h bJ cr eh) e
    ·exact absurd ((Pp h bJ cr eh).nh p.fe) n1
  ·refine .inr ⟨fun eh=>?_,q⟩
   subst eh;rw[hf]at e;cases e
  ·rw[ht]at hd;cases hd
   rw[get,aF rfl];rcases he with⟨n',c',rfl,_,hl⟩|⟨l,p,rfl,_⟩
   ·exact⟨cb,mX _ _ _,h0,rfl⟩
   ·exact⟨cb,mX _ _ _,rfl⟩
theorem bm.newVar (xX:(∃t,o.op= .alloc t)\/(∃t y,o.op= .box t y)) (aI: ∀h,W h->D h) {K:Env->M β} {r:Out β×St} {n:Nat} {cells:List DV} (hlen:cells.length=n) (h:Iv pr o n cells E K s=some r)
  (cD: ∀ψ Q a w,aw C o D E s ψ Q a w->∃w' cb,(execOp a.eval o).run C.P w= .ok (.value (.pointer (some ⟨cb.b,0,none⟩))) w'/\fq w w'/\w.heap.size<=cb.b/\cb.b<w'.heap.size/\
   cb.o=0/\Holds C ψ w' cb (.cells false cells)):bm C md pr ms o D W E s K r:=by
 unfold Iv at h;cases ht:o.dst with
 |none=>rw[ht]at h;cases h
 |some t=>
  rw[ht]at h;simp only at h;cases hp:has pr t with
  |true=>
   rw[hp]at h;simp only[cond_true]at h;exact bm.Uo (by rcases xX with⟨t,ho⟩|⟨t,y,ho⟩<;>(unfold Spec;rw[ho];exact⟨_,ht,hp⟩)) aI t ht _ _ (.inl ⟨n,cells,rfl,rfl,hlen⟩) h cD
  |false=>
   rw[hp]at h;simp only[cond_false]at h;refine bm.DT (by rcases xX with⟨t,ho⟩|⟨t,y,ho⟩<;>(unfold oS;rw[ho];trivial)) aI (.ptr (some (s.length,0))) cells (by simpa [dt,Env.dJ,ht,M.new]using h) fun ψ Q a w p=>?_
   obtain⟨w',cb,hr,hm,h1,h2,h0,hh⟩:=cD ψ Q a w p;refine⟨_,w',cb,hr,hm,h1,h2,hh,fun ψ' _ e=>?_⟩;have:=VR.ptr (C:=C) (ψ:=ψ') s.length 0 cb e
   rwa [h0]at this
theorem M6 {P:Program} (t:TypeId) (v:Value) (w:World):(newVar t v).run P w= .ok ⟨w.heap.size,0,none⟩ (w.alloc (.cells v.cells t)):=by
 simp[newVar,newRow]
theorem Zo8 {y:Operand} (ho:o.op= .move y\/o.op= .assign y) (aI: ∀h,W h->D h) {K:Env->M β} {r:Out β×St} (h:uV E o K (E.src C y) s=some r):bm C md pr ms o D W E s K r:=by
 refine bm.pure aI (E.src C y) (Env.Ec C E y) (fun hE r v n h=>Env.yM C hE h) h fun ψ Q a w p=>⟨a.eval y,w,?_,.refl w,p.src ?_⟩
 ·rcases ho with ho|ho<;>simp[execOp,ho]
 ·rcases ho with ho|ho<;>simp[Op.operands,ho]
theorem ZwK {b y z:Operand} (ho:o.op= .pick b y z) (aI: ∀h,W h->D h) {K:Env->M β} {r:Out β×St} (h:O1 C E o K b y z s=some r):bm C md pr ms o D W E s K r:=by
 unfold O1 at h;obtain⟨t,hb,h⟩:=M7 h;have CY: ∀ψ Q a w,aw C o D E s ψ Q a w->a.eval b= .bool t:=fun ψ Q a w p=>by
  have:=p.val (x:=b) (by simp[Op.operands,ho]) hb;generalize a.eval b=v at this;cases this;rfl
 cases t with
 |true=>
  refine bm.pure aI (E.src C y) (Env.Ec C E y) (fun hE r v n h=>Env.yM C hE h) h fun ψ Q a w p=>⟨a.eval y,w,?_,.refl w,p.src (by simp[Op.operands,ho])⟩
  simp[execOp,ho,CY ψ Q a w p,asBool]
 |false=>
  refine bm.pure aI (E.src C z) (Env.Ec C E z) (fun hE r v n h=>Env.yM C hE h) h fun ψ Q a w p=>⟨a.eval z,w,?_,.refl w,p.src (by simp[Op.operands,ho])⟩
  simp[execOp,ho,CY ψ Q a w p,asBool]
theorem zH {ψ:Ps} {w:World} {t:TypeId} {c:Array Value} {cells:List DV} (hr:aR C ψ cells (c.toList.take cells.length)) (ho:cells.all one=true):
  Holds C ψ (w.alloc (.cells c t)) ⟨w.heap.size,0,c.size⟩ (.cells false cells):=
 Zre (heap_alloc_new w _) (.inl rfl) hr ho
theorem Cc {α:Type} {l:List α} {n:Nat} (h:n=l.length):l.take n=l:=by subst h;simp
theorem ZuI {t:TypeId} (ho:o.op= .alloc t) (aI: ∀h,W h->D h) {K:Env->M β} {r:Out β×St} (h:OD C E o K pr t s=some r):bm C md pr ms o D W E s K r:=by
 unfold OD at h;cases hz:kf C.P t with
 |none=>rw[hz]at h;cases h
 |some z=>
  rw[hz]at h;simp only at h;obtain⟨hl,h⟩:=Zp h;refine bm.newVar (.inl ⟨t,ho⟩) aI (bY hl) h fun ψ Q a w p=>?_
  obtain⟨v,hv,hr,h1⟩:=M1 w hz;refine⟨w.alloc (.cells v.cells t),⟨w.heap.size,0,v.cells.size⟩,?_,.alloc w _,aA _,by simp,rfl,?_⟩
  ·simp[execOp,ho,Instr.alloc,hv,M6]
  ·exact zH (by rw[Cc (by simpa using (hr C ψ).len)];exact hr C ψ) h1
theorem Znz {P:Program} {t:TypeId} {d:DV} {K:List DV->M β} {r:Out β×St} (h:IL P t d K s=some r):
  ∃ds td,P.underlying t=some td/\K ds s=some r/\ds.length=P.cellsOf t/\∀(C:aM) ψ v,VR C ψ d v->aR C ψ ds v.cells.toList/\ds.all one=true/\v.cells.size=P.cellsOf t:=by
 unfold IL at h;obtain⟨td,Q7,h⟩:=mb h;cases ha:ZI P t with
 |true=>
  rw[ha]at h;simp only[cond_true]at h;cases d with
  |agg cs=>
   obtain⟨hl,h⟩:=NZ h;refine⟨cs,td,Q7,h,hl,fun C ψ v hv=>?_⟩;cases hv with
   |agg _ vs a b=>exact⟨a,b,by rw[<-hl,a.len];simp[Value.cells]⟩
  |_=>cases h
 |false=>
  rw[ha]at h;simp only[cond_false]at h;obtain⟨hc,h⟩:=Zp h;obtain⟨h1,h⟩:=ZM h;have hc:=bY hc;refine⟨[d],td,Q7,h,by simp[hc],fun C ψ v hv=>?_⟩;rw[hv.SO h1];exact⟨.cons _ _ _ _ hv .nil,by simp[h1],by simp[hc]⟩
theorem ZxA {t:TypeId} {y:Operand} (ho:o.op= .box t y) (aI: ∀h,W h->D h) {K:Env->M β} {r:Out β×St} (h:RA C E o K pr t y s=some r):bm C md pr ms o D W E s K r:=by
 unfold RA at h;obtain⟨d,hd,h⟩:=Zr h;obtain⟨ds,td,Q7,h,hl,hv⟩:=Znz h;refine bm.newVar (.inr ⟨t,y,ho⟩) aI hl h fun ψ Q a w p=>?_
 obtain⟨h1,h2,h3⟩:=hv C ψ _ (p.val (x:=y) (by simp[Op.operands,ho]) hd);refine⟨w.alloc (.cells (a.eval y).cells t),⟨w.heap.size,0,(a.eval y).cells.size⟩,?_,.alloc w _,aA _,by simp,rfl,?_⟩
 ·simp[execOp,ho,Instr.box,M6]
 ·exact zH (by rw[Cc (by simpa using h1.len)];exact h1) h2
theorem ZpN {y:Operand} (ho:o.op= .nilCheck y) (aI: ∀h,W h->D h) {K:Env->M β} {r:Out β×St} (h:M0 C E o K y s=some r):bm C md pr ms o D W E s K r:=by
 unfold M0 at h;rcases BN h with⟨t,v,n,he,h⟩|⟨i,n,he,h⟩
 ·refine bm.pure aI (.pl t v n) rfl (fun hE r v' n' e=>by cases e;exact Env.yM C hE he) h fun ψ Q a w p=>⟨a.eval y,w,?_,.refl w,?_⟩
  ·have:=p.src (x:=y) (by simp[Op.operands,ho])
   rw[he]at this;obtain⟨cb,_,_,h3⟩:=this;simp[execOp,ho,h3]
  ·have:=p.src (x:=y) (by simp[Op.operands,ho])
   rw[he]at this;exact this
 ·refine bm.val aI (.ptr (some (i,n))) h fun ψ Q a w p=>⟨a.eval y,w,?_,.refl w,?_⟩
  ·have:=p.val (x:=y) (by simp[Op.operands,ho]) he
   generalize hx:a.eval y=x at this;cases this;simp[execOp,ho,hx]
  ·exact p.val (x:=y) (by simp[Op.operands,ho]) he
theorem Zyv {op:UnOp} {t:TypeId} {y:Operand} (ho:o.op= .unOp op t y) (aI: ∀h,W h->D h) {K:Env->M β} {r:Out β×St} (h:RC C E o K op y s=some r):bm C md pr ms o D W E s K r:=by
 unfold RC at h;obtain⟨d,hd,h⟩:=Zr h;unfold unK at h;split at h
 ·refine bm.val aI _ h fun ψ Q a w p=>?_
  have:=p.val (x:=y) (by simp[Op.operands,ho]) hd;generalize hx:a.eval y=x at this;cases this;exact⟨_,w,by simp[execOp,ho,hx,Op.unary],.refl w,.bool _⟩
 ·refine bm.val aI _ h fun ψ Q a w p=>?_
  have:=p.val (x:=y) (by simp[Op.operands,ho]) hd;generalize hx:a.eval y=x at this;cases this;exact⟨_,w,by simp[execOp,ho,hx,Op.unary,Op.intArith],.refl w,.int _ _⟩
 ·cases h
theorem Zvf {t:TypeId} {y:Operand} (ho:o.op= .makeInterface t y) (aI: ∀h,W h->D h) {K:Env->M β} {r:Out β×St} (h:OK C E o K t y s=some r):bm C md pr ms o D W E s K r:=by
 unfold OK at h;cases ht:C.P.underlying t with
 |none=>rw[ht]at h;cases h
 |some td=>
  have yj: ∀m,td≠ .interface m:=by rintro m rfl;rw[ht]at h;cases h
  have h':dR C E y (fun d=>dt E o K (.iface (C.ty t) d)) s=some r:=by rw[ht]at h;cases td<;>first|exact h|exact absurd rfl (yj _)
  obtain⟨d,hd,h'⟩:=Zr h';refine bm.val aI _ h' fun ψ Q a w p=>⟨.iface t (a.eval y),w,?_,.refl w,.iface _ _ _ (p.val (x:=y) (by simp[Op.operands,ho]) hd)⟩
  simp only[execOp,ho,Instr.makeInterface,Sem.run_bind,Zi w ht,Result.andThen_ok];cases td<;>first|rfl|exact absurd rfl (yj _)
theorem Zw0 {f:Fn} {first cap:Array Operand} (ho:o.op= .makeFunc f first cap) (aI: ∀h,W h->D h) {K:Env->M β} {r:Out β×St} (h:OW C E o K f first cap s=some r):bm C md pr ms o D W E s K r:=by
 unfold OW at h;cases f with
 |func f=>
  simp only at h;obtain⟨hc,h⟩:=Zp h;obtain⟨fs,h,h1⟩:=BX h;obtain⟨cs,h,h2⟩:=BX h;refine bm.val aI _ h fun ψ Q a w p=>⟨.func (.func f) (first.map a.eval) (cap.map a.eval),w,by simp[execOp,ho,Instr.makeFunc],.refl w,.func _ _ _ _ _ hc ?_ ?_⟩
  ·have:=Ca p (l:=first.toList) (fun x hx=>by simp only[Op.operands,ho,Array.mem_append];exact .inl (by simpa using hx)) h1
   simpa using this
  ·have:=Ca p (l:=cap.toList) (fun x hx=>by simp only[Op.operands,ho,Array.mem_append];exact .inr (by simpa using hx)) h2
   simpa using this
 |_=>cases h
theorem ZrB {t i:Nat} (ho:o.op= .extract (.tmp t) i) (aI: ∀h,W h->D h) {K:Env->M β} {r:Out β×St} (h:Nv E o K t i s=some r):bm C md pr ms o D W E s K r:=by
 unfold Nv at h;cases he:E.get t with
 |mL ds=>
  rw[he]at h;simp only at h;cases hd:ds[i]? with
  |none=>rw[hd]at h;cases h
  |some d=>
   rw[hd]at h;refine bm.val aI d h fun ψ Q a w p=>?_
   have:=p.args t (by simp[Op.operands,ho]);rw[he]at this;obtain⟨vs,kq,hr⟩:=this;obtain⟨v,hv,hr⟩:=hr.get hd;refine⟨v,w,?_,.refl w,hr⟩;have cM:vs[i]? =some v:=by simpa using hv
   simp[execOp,ho,Zzg,kq,Instr.extract,cM]
 |_=>rw[he]at h;cases h
end
end Go.Gv
namespace Go.Gv
variable {β:Type}
section
variable {C:aM} {o:Oper} {D W:cx->Prop} {E:Env} {s:St} {md:Md} {pr ms:List Nat}
theorem Z3 (P:Program) (a:Addr) (w:World):(Instr.sureAddr (.pointer (some a))).run P w= .ok a w:=rfl
theorem Zpv {t:TypeId} {y:Operand} {f:Nat} (ho:o.op= .fieldAddr t y f) (aI: ∀h,W h->D h) {K:Env->M β} {r:Out β×St} (h:G4 C E o K t y f s=some r):bm C md pr ms o D W E s K r:=by
 unfold G4 at h;cases ht:C.P.underlying t with
 |none=>rw[ht]at h;cases h
 |some td=>
  rw[ht]at h;cases td with
  |struct fs=>
   simp only at h;cases hf:fs[f]? with
   |none=>rw[hf]at h;cases h
   |some fd=>
    rw[hf]at h;simp only at h;obtain⟨hc,h⟩:=BY h;have hc:=zg hc;have bC: ∀w,(sizeOf fd.type).run C.P w= .ok (C.P.cellsOf fd.type) w:=by
     intro w;unfold Program.cellsOf at hc⊢;cases hi:C.P.info? fd.type with
     |none=>rw[hi]at hc;simp at hc
     |some i=>simp[sizeOf,typeInfo,hi]
    have run: ∀(a:Act) (w:World) b n,a.eval y= .pointer (some ⟨b,n,none⟩)->(execOp a.eval o).run C.P w= .ok (.value (.pointer (some ⟨b,n+fd.offset,none⟩))) w:=by
     intro a w b n hy;simp[execOp,ho,hy,Instr.fieldAt,Zi w ht,hf,Z3,fieldPlace,bC,hc,vz]
    rcases BN h with⟨x,v,n,he,h⟩|⟨i,n,he,h⟩
    ·refine bm.pure aI _ rfl (fun hE r v' n' e=>by cases e;exact Env.yM C hE he) h fun ψ Q a w p=>?_
     have:=p.src (x:=y) (by simp[Op.operands,ho]);rw[he]at this;obtain⟨cb,h1,h2,h3⟩:=this;exact⟨_,w,run a w _ _ h3,.refl w,cb,h1,h2,rfl⟩
    ·refine bm.val aI _ h fun ψ Q a w p=>?_
     have:=p.val (x:=y) (by simp[Op.operands,ho]) he;generalize hy:a.eval y=v at this;cases this with
     |ptr _ _ cb e=>exact⟨_,w,run a w _ _ hy,.refl w,by rw[lA];exact .ptr _ _ cb e⟩
  |_=>cases h
theorem Hj (P:Program) (k:IntKind) (n:Int) (w:World):(asIntOf (.int k n)).run P w= .ok (k,n) w:=rfl
theorem Cr {n:Int} {m:Nat} (h:au n m=true):0<=n/\n<m:=by
 simp only[au,aH,jL]at h;exact h
theorem Zpb {t:TypeId} {y i:Operand} (ho:o.op= .indexAddr t y i) (aI: ∀h,W h->D h) {K:Env->M β} {r:Out β×St} (h:MP C E o K t y i s=some r):bm C md pr ms o D W E s K r:=by
 unfold MP at h;obtain⟨k,n,hi,h⟩:=zL h;have iv: ∀ψ Q a w,aw C o D E s ψ Q a w->a.eval i= .int k n:=fun ψ Q a w p=>by
  have:=p.val (x:=i) (by simp[Op.operands,ho]) hi;generalize a.eval i=v at this;cases this;rfl
 cases ht:C.P.underlying t with
 |none=>rw[ht]at h;cases h
 |some td=>
  rw[ht]at h;cases td with
  |slice e=>
   simp only at h;obtain⟨ed,he,h⟩:=mb h;obtain⟨d,hd,h⟩:=Zr h;cases d with
   |slice z a m=>
    simp only at h;obtain⟨hz,h⟩:=Zp h;obtain⟨j,p0,rfl,h⟩:=Ov h;obtain⟨hb,h⟩:=ZM h;obtain⟨jg,eH⟩:=Cr hb;simp only[Option.isNone_some,yY]at hz;have hz:=bY hz;refine bm.val aI _ h fun ψ Q a w p=>?_
    have hv:=p.val (x:=y) (by simp[Op.operands,ho]) hd;generalize hy:a.eval y=v at hv;cases hv with
    |slice _ _ _ _ cb ad cap e1 e2 e3=>
     obtain⟨e4,e5⟩:=e3 (by omega);refine⟨.pointer (some ⟨cb.b,cb.o+(n.toNat*C.P.cellsOf e+p0),none⟩),w,?_,.refl w,.ptr _ _ cb e1⟩;rw[qT _ p0];simp[execOp,ho,hy,iv ψ Q a w p,Instr.indexAt,Zi w ht,Hj,jg,eH,ZN w he,e4,vz,lA]
   |_=>cases h
  |array m e=>
   simp only at h;obtain⟨ed,he,h⟩:=mb h;have run: ∀ψ Q (a:Act) (w:World) b p0,aw C o D E s ψ Q a w->a.eval y= .pointer (some ⟨b,p0,none⟩)->0<=n->n<m->
     (execOp a.eval o).run C.P w= .ok (.value (.pointer (some ⟨b,p0+n.toNat*C.P.cellsOf e,none⟩))) w:=by
    intro ψ Q a w b p0 p hy jg eH;simp[execOp,ho,hy,iv ψ Q a w p,Instr.indexAt,Zi w ht,Hj,jg,eH,Z3,ZN w he,vz]
   rcases BN h with⟨x,v,p0,hx,h⟩|⟨x,p0,hx,h⟩
   ·obtain⟨hb,h⟩:=ZM h
    obtain⟨jg,eH⟩:=Cr hb;refine bm.pure aI _ rfl (fun hE r v' n' e=>by cases e;exact Env.yM C hE hx) h fun ψ Q a w p=>?_
    have:=p.src (x:=y) (by simp[Op.operands,ho]);rw[hx]at this;obtain⟨cb,h1,h2,h3⟩:=this;exact⟨_,w,run ψ Q a w _ _ p h3 jg eH,.refl w,cb,h1,h2,by rw[qT]⟩
   ·obtain⟨hb,h⟩:=ZM h
    obtain⟨jg,eH⟩:=Cr hb;refine bm.val aI _ h fun ψ Q a w p=>?_
    have:=p.val (x:=y) (by simp[Op.operands,ho]) hx;generalize hy:a.eval y=v at this;cases this with
    |ptr _ _ cb e1=>exact⟨_,w,run ψ Q a w _ _ p hy jg eH,.refl w,by rw[qT _ p0,lA];exact .ptr _ _ cb e1⟩
  |_=>cases h
theorem ZsY {P:Program} {t:TypeId} {d:TypeDesc} (w:World) (h:P.underlying t=some d) (ha:ZI P t=true) (cs:Array Value) (off:Nat):
  (Go.part t cs off).run P w= .ok (.agg (cs.extract off (off+P.cellsOf t))) w:=by
 simp[Go.part,BV w h,ha,ZN w h]
theorem Zs4 {P:Program} {t:TypeId} {d:TypeDesc} (w:World) (h:P.underlying t=some d) (ha:ZI P t=false) {cs:Array Value} {off:Nat} {v:Value} (hv:cs[off]? =some v):
  (Go.part t cs off).run P w= .ok v w:=by
 simp[Go.part,BV w h,ha,hv]
theorem Zve {ψ:Ps} {ds:List DV} {vs:Array Value} (h:aR C ψ ds vs.toList) (off n:Nat):aR C ψ ((ds.drop off).take n) (vs.extract off (off+n)).toList:=by
 have:=(h.drop off).take n;rw[Array.toList_extract,Kx];simpa using this
theorem Oy {cs:List DV} {off n:Nat} (h:cs.all one=true):((cs.drop off).take n).all one=true:=
 gm.2 fun _ hx=>gm.1 h _ (r9 (sa hx))
theorem Zty {t:TypeId} {td:TypeDesc} (ht:C.P.underlying t=some td) (aI: ∀h,W h->D h) {K:Env->M β} {r:Out β×St} {cs:List DV} {off:Nat}
  (h:(bif ZI C.P t then dt E o K (.agg ((cs.drop off).take (C.P.cellsOf t)))else Go.Gv.D.nth cs off fun d=>ug (jZ C.P t) d (dt E o K)) s=some r)
  (cD: ∀ψ Q a w,aw C o D E s ψ Q a w->∃vs,aR C ψ cs vs.toList/\cs.all one=true/\(∀v,(Go.part t vs off).run C.P w= .ok v w->(execOp a.eval o).run C.P w= .ok (.value v) w)):bm C md pr ms o D W E s K r:=by
 cases ha:ZI C.P t with
 |true=>
  rw[ha]at h;refine bm.val aI _ h fun ψ Q a w p=>?_
  obtain⟨vs,h1,h2,h3⟩:=cD ψ Q a w p;exact⟨_,w,h3 _ (ZsY w ht ha vs off),.refl w,.agg _ _ (Zve h1 _ _) (Oy h2)⟩
 |false=>
  rw[ha]at h;simp only[cond_false]at h;obtain⟨d,hd,h⟩:=Il h;obtain⟨d',h,hr,_⟩:=Ii h;refine bm.val aI _ h fun ψ Q a w p=>?_
  obtain⟨vs,h1,h2,h3⟩:=cD ψ Q a w p;obtain⟨v,hv,iV⟩:=h1.get hd;exact⟨v,w,h3 _ (Zs4 w ht ha (by simpa using hv)),.refl w,hr C ψ v iV⟩
theorem ZuK {t:TypeId} {y:Operand} {f:Nat} (ho:o.op= .field t y f) (aI: ∀h,W h->D h) {K:Env->M β} {r:Out β×St} (h:OO C E o K t y f s=some r):bm C md pr ms o D W E s K r:=by
 unfold OO at h;cases ht:C.P.underlying t with
 |none=>rw[ht]at h;cases h
 |some td=>
  rw[ht]at h;cases td with
  |struct fs=>
   simp only at h;cases hf:fs[f]? with
   |none=>rw[hf]at h;cases h
   |some fd=>
    rw[hf]at h;simp only at h;obtain⟨ed,he,h⟩:=mb h;obtain⟨d,hd,h⟩:=Zr h;cases d with
    |agg cs=>
     refine Zty he aI h fun ψ Q a w p=>?_
     have hv:=p.val (x:=y) (by simp[Op.operands,ho]) hd;generalize hy:a.eval y=v at hv;cases hv with
     |agg _ vs h1 h2=>exact⟨vs,h1,h2,fun v hp=>by simp[execOp,ho,hy,Instr.field,Zi w ht,hf,asAgg,hp]⟩
    |_=>cases h
  |_=>cases h
theorem Zxf (s:ByteArray) (i:Nat):s[i]? =s.data.toList[i]? :=by
 rcases eJ i s.data.toList.length with h|h
 ·have h':i<s.size:=by rw[js]at h;exact h
  rw[ba h,getElem?_pos s i h',ByteArray.getElem_eq_getElem_data,Array.getElem_toList]
 ·have h': ¬i<s.size:=by rw[js]at h;exact tI.2 h
  rw[dL h,getElem?_neg s i h']
theorem Zvy {t:TypeId} {y i:Operand} (ho:o.op= .index t y i) (aI: ∀h,W h->D h) {K:Env->M β} {r:Out β×St} (h:Ox C E o K t y i s=some r):bm C md pr ms o D W E s K r:=by
 unfold Ox at h;obtain⟨k,n,hi,h⟩:=zL h;obtain⟨d,hd,h⟩:=Zr h;have iv: ∀ψ Q a w,aw C o D E s ψ Q a w->a.eval i= .int k n:=fun ψ Q a w p=>by
  have:=p.val (x:=i) (by simp[Op.operands,ho]) hi;generalize a.eval i=v at this;cases this;rfl
 cases ht:C.P.underlying t with
 |none=>rw[ht]at h;cases h
 |some td=>
  rw[ht]at h;cases td with
  |string=>
   cases d with
   |str l=>
    simp only at h;obtain⟨hb,h⟩:=ZM h;obtain⟨jg,eH⟩:=Cr hb;refine bm.val aI _ h fun ψ Q a w p=>?_
    have hv:=p.val (x:=y) (by simp[Op.operands,ho]) hd;generalize hy:a.eval y=v at hv;cases hv with
    |str x=>
     have aj:n.toNat<x.data.toList.length:=by omega
     have hg:x[n.toNat]? =some x.data.toList[n.toNat]:=by rw[Zxf];exact ba aj
     refine⟨.int .u8 (ZE x.data.toList n),w,?_,.refl w,.int _ _⟩;simp only[execOp,ho,hy,iv ψ Q a w p,Instr.index,Sem.run_bind,Hj,Zi w ht,Result.andThen_ok,jg,iA,hg,Sem.run_pure,ZE];congr 3;simp[List.getD,ba aj]
   |_=>cases h
  |array m e=>
   cases d with
   |agg cs=>
    simp only at h;obtain⟨ed,he,h⟩:=mb h;obtain⟨hb,h⟩:=ZM h;obtain⟨jg,eH⟩:=Cr hb;refine Zty he aI h fun ψ Q a w p=>?_
    have hv:=p.val (x:=y) (by simp[Op.operands,ho]) hd;generalize hy:a.eval y=v at hv;cases hv with
    |agg _ vs h1 h2=>exact⟨vs,h1,h2,fun v hp=>by simp[execOp,ho,hy,iv ψ Q a w p,Instr.index,Hj,Zi w ht,jg,eH,ZN w he,hp]⟩
   |_=>cases h
  |_=>cases d<;>cases h
end
end Go.Gv
namespace Go.Gv
variable {β:Type}
theorem O6 {P:Program} {t:TypeId} {y:B} (h:jZ P t= .b y):ZI P t=false:=by
 unfold jZ at h;cases ha:ZI P t with
 |false=>rfl
 |true=>rw[ha]at h;cases h
theorem ZsV {P:Program} {t:TypeId} {l:List B} (h:jZ P t= .agg l):ZI P t=true:=by
 unfold jZ at h;cases ha:ZI P t with
 |true=>rfl
 |false=>rw[ha]at h;simp only[cond_false]at h;split at h<;>cases h
theorem HO {C:aM} {ψ:Ps} {w:World} {cb:CB} {f:Bool} {cs:List DV} {p:Nat} {d:DV} {P:Program} (h:Holds C ψ w cb (.cells f cs)) (hd:cs[p]? =some d):
  ∃v,(load ⟨cb.b,cb.o+p,none⟩).run P w= .ok v w/\VR C ψ d v/\one d=true:=by
 obtain⟨v,hv,hr⟩:=h.2.2.1 p d hd;exact⟨v,by rw[run_load,hv],hr,gm.1 h.2.1 _ (kK hd)⟩
theorem Zmf {C:aM} {ψ:Ps} {w:World} {cb:CB} {f:Bool} {cs:List DV} {p n:Nat} {P:Program} (h:Holds C ψ w cb (.cells f cs)) (hn:p+n<=cs.length):
  ∃vs,(∀w',w'.heap=w.heap->(loadCells ⟨cb.b,cb.o+p,none⟩ n).run P w'= .ok vs w')/\vs.size=n/\aR C ψ ((cs.drop p).take n) vs.toList/\((cs.drop p).take n).all one=true:=by
 have hc: ∀j,j<n->∃v,w.cell? ⟨cb.b,cb.o+p+j,none⟩=some v/\∀d,cs[p+j]? =some d->VR C ψ d v:=by
  intro j hj;obtain⟨v,hv,hr⟩:=h.2.2.1 (p+j) cs[p+j] (ba (by omega));exact⟨v,by rw[lA];exact hv,fun d hd=>by rw[ba (by omega)]at hd;cases hd;exact hr⟩
 let f:Nat->Value:=fun j=>(w.cell? ⟨cb.b,cb.o+p+j,none⟩).getD undef
 have hf: ∀w':World,w'.heap=w.heap->∀j,j<n->w'.cell? ((⟨cb.b,cb.o+p,none⟩:Addr).add j)=some (f j):=by
  intro w' hw j hj;obtain⟨v,hv,_⟩:=hc j hj;have e:w'.cell? ((⟨cb.b,cb.o+p,none⟩:Addr).add j)=w.cell? ((⟨cb.b,cb.o+p,none⟩:Addr).add j):=by simp only[World.cell?,hw]
  rw[e,vz,hv];simp[f,hv]
 refine⟨_,fun w' hw=>run_loadCells w' _ n f (hf w' hw),by simp,aR.of _ _ ?_ ?_,Oy h.2.1⟩
 ·simp;omega
 ·intro j d v h1 h2
  rw[mR]at h1;split at h1
  ·rename_i hj
   rw[nR]at h1;obtain⟨v',cM,hr⟩:=hc j hj;simp only[gB,nS,hj,lD,cQ]at h2;rw[<-h2];simp only[f,cM,sg];exact hr d h1
  ·cases h1
theorem G9 {C:aM} {ψ:Ps} {w:World} {cb:CB} {f:Bool} {cs:List DV} {p n:Nat} {P:Program} (h:Holds C ψ w cb (.cells f cs)) (hn:p+n<=cs.length):
  ∃vs,(loadCells ⟨cb.b,cb.o+p,none⟩ n).run P w= .ok vs w/\vs.size=n/\aR C ψ ((cs.drop p).take n) vs.toList/\((cs.drop p).take n).all one=true:=
 let ⟨vs,a,b⟩:=Zmf (P:=P) h hn
 ⟨vs,a w rfl,b⟩
section
variable {C:aM} {o:Oper} {D W:cx->Prop} {E:Env} {s:St} {md:Md} {pr ms:List Nat}
theorem FF {P:Program} {t:TypeId} {td:TypeDesc} (ht:P.underlying t=some td) (ha:ZI P t=true) (a:Addr) (w:World) {vs:Array Value} (h:(loadCells a (P.cellsOf t)).run P w= .ok vs w):
  (loadVar t a).run P w= .ok (.agg vs) w:=by
 simp[loadVar,BV w ht,ha,ZN w ht,h]
theorem BG {P:Program} {t:TypeId} {td:TypeDesc} (ht:P.underlying t=some td) (ha:ZI P t=false) (a:Addr) (w:World) {v:Value} (h:(load a).run P w= .ok v w):
  (loadVar t a).run P w= .ok v w:=by
 rw[loadVar,Sem.run_bind,BV w ht,ha];simpa using h
theorem Zzq {n:Nat} {cs:List DV} {p m:Nat} (hn:cs.length=n):part n cs p m=(cs.drop p).take m:=by
 unfold part;cases h:Nat.beq m n&&Nat.beq p 0 with
 |false=>rfl
 |true=>
  simp only[aH]at h;have h1:=bY h.2;have h2:=bY h.1;subst h1;subst h2;subst hn;simp
theorem ON {n m:Nat} {cs:List DV} {p:Nat} {ds:List DV} (hn:cs.length=n) (hd:ds.length=m) (hp:p+m<=n):tr n m cs p ds=bN cs p ds:=by
 unfold tr;cases h:Nat.beq m n&&Nat.beq p 0 with
 |false=>rfl
 |true=>
  simp only[aH]at h;have h1:=bY h.2;have h2:=bY h.1;subst h1;subst h2;subst hn;simp only[cond_true];apply mP;intro j;rw[Cn cs 0 ds j (by omega)];by_cases hj:j<ds.length
  ·rw[aF (by omega)];simp
  ·rw[ay (by omega),dL (by omega),dL (by omega)]
theorem B1 {i p n:Nat} {K:List DV->M β} {s:St} {r:Out β×St} (h:M.load i p n K s=some r): ∃f cs,cj s i=some (.cells f cs)/\p+n<=cs.length/\K ((cs.drop p).take n) s=some r:=by
 unfold M.load at h;unfold St.cells at h;unfold cj;cases hs:s[i]? with
 |none=>rw[hs]at h;cases h
 |some x=>
  cases x with
  |none=>rw[hs]at h;cases h
  |some b=>
   rw[hs]at h;simp only at h;cases hb:Nat.ble (p+n) b.cells.length with
   |false=>rw[hb]at h;cases h
   |true=>rw[hb]at h;exact⟨_,_,rfl,lC hb,h⟩
theorem ZoW {i p:Nat} {K:DV->M β} {s:St} {r:Out β×St} (h:M.ar i p K s=some r): ∃f cs d,cj s i=some (.cells f cs)/\cs[p]? =some d/\K d s=some r:=by
 unfold M.ar at h;unfold St.cells at h;unfold cj;cases hs:s[i]? with
 |none=>rw[hs]at h;cases h
 |some x=>
  cases x with
  |none=>rw[hs]at h;cases h
  |some b=>
   rw[hs]at h;simp only at h;cases hb:b.cells[p]? with
   |none=>rw[hb]at h;cases h
   |some d=>rw[hb]at h;exact⟨_,_,_,rfl,hb,h⟩
theorem aw.at {ψ:Ps} {Q:Kn} {a:Act} {w:World} (p:aw C o D E s ψ Q a w) {i:Nat} {ab:AB} {cb:CB} (hD:D (.inl i)) (h:cj s i=some ab) (e:ψ (.inl i)=some cb):Holds C ψ w cb ab:=
 p.dA.holds _ cb ab e (p.gT (.inl i) ab cb hD h e)
theorem aw.loc {ψ:Ps} {Q:Kn} {a:Act} {w:World} (p:aw C o D E s ψ Q a w) {t v n:Nat} {cs:List DV} {cb:CB} (hD:D (.inr v)) (h:E.get t= .loc v n cs) (e:ψ (.inr v)=some cb):Holds C ψ w cb (.cells false cs):=
 p.dA.holds _ cb _ e (p.gT (.inr v) _ cb hD (.inl ⟨t,n,cs,h,rfl⟩) e)
theorem ZwW {t:TypeId} {x:Operand} (ho:o.op= .load t x) (aI: ∀h,W h->D h) (hDl: ∀r v,md.loc r=true->(E.get r).bT=some v->D (.inr v)) (PE:md.I3=true->∀i p,E.src C x= .v (.ptr (some (i,p)))->D (.inl i))
  {K:Env->M β} {r:Out β×St} (h:II C E o K md t x s=some r):bm C md pr ms o D W E s K r:=by
 unfold II at h;obtain⟨td,ht,h⟩:=mb h;rcases BN h with⟨y,v,p0,hx,h⟩|⟨i,p0,hx,h⟩
 ·obtain⟨hm,h⟩:=Zp h
  obtain⟨n,cs,hl,h⟩:=Znb h;have hD:=hDl y v hm (by rw[hl];rfl);have addr: ∀ψ Q a w,aw C o D E s ψ Q a w->∃cb,ψ (.inr v)=some cb/\cb.o=0/\a.eval x= .pointer (some ⟨cb.b,p0,none⟩):=fun ψ Q a w p=>by
   have:=p.src (x:=x) (by simp[Op.operands,ho]);rw[hx]at this;exact this
  cases hs:jZ C.P t with
  |b y'=>
   rw[hs]at h;obtain⟨d,hd,h⟩:=Il h;obtain⟨d',h,hr,_⟩:=It h;refine bm.val aI _ h fun ψ Q a w p=>?_
   obtain⟨cb,e1,e2,e3⟩:=addr ψ Q a w p;obtain⟨v,hv,iI,_⟩:=HO (P:=C.P) (p.loc hD hl e1) hd;rw[e2,dy]at hv;refine⟨v,w,?_,.refl w,hr C ψ v iI⟩;simp only[execOp,ho,e3,Instr.loadAt,Sem.run_bind,Z3,Result.andThen_ok,BG ht (O6 hs) _ w hv,Sem.run_pure]
  |agg l=>
   rw[hs]at h;simp only at h;obtain⟨hb,h⟩:=ZM h;have hb:=lC hb;refine bm.val aI _ h fun ψ Q a w p=>?_
   have hlen:=p.fe.len y v n cs hl;obtain⟨cb,e1,e2,e3⟩:=addr ψ Q a w p;obtain⟨vs,hv,_,iI,h1⟩:=G9 (P:=C.P) (p.loc hD hl e1) (p:=p0) (n:=C.P.cellsOf t) (by omega);rw[e2,dy]at hv;refine⟨_,w,?_,.refl w,by rw[Zzq hlen];exact .agg _ vs iI h1⟩;simp only[execOp,ho,e3,Instr.loadAt,Sem.run_bind,Z3,Result.andThen_ok,FF ht (ZsV hs) _ w hv,Sem.run_pure]
 ·obtain⟨hm,h⟩:=Zp h
  have hD:=PE hm i p0 hx;have addr: ∀ψ Q a w,aw C o D E s ψ Q a w->∃cb,ψ (.inl i)=some cb/\a.eval x= .pointer (some ⟨cb.b,cb.o+p0,none⟩):=fun ψ Q a w p=>by
   have:=p.val (x:=x) (by simp[Op.operands,ho]) hx;generalize a.eval x=y at this;cases this with
   |ptr _ _ cb e=>exact⟨cb,e,rfl⟩
  cases hs:jZ C.P t with
  |b y'=>
   rw[hs]at h;obtain⟨f,cs,d,bE,hd,h⟩:=ZoW h;obtain⟨d',h,hr,_⟩:=It h;refine bm.val aI _ h fun ψ Q a w p=>?_
   obtain⟨cb,e1,e3⟩:=addr ψ Q a w p;obtain⟨v,hv,iI,_⟩:=HO (P:=C.P) (p.at hD bE e1) hd;refine⟨v,w,?_,.refl w,hr C ψ v iI⟩;simp only[execOp,ho,e3,Instr.loadAt,Sem.run_bind,Z3,Result.andThen_ok,BG ht (O6 hs) _ w hv,Sem.run_pure]
  |agg l=>
   rw[hs]at h;obtain⟨f,cs,bE,hb,h⟩:=B1 h;obtain⟨ds,h,_,hr,h1⟩:=BM h;refine bm.val aI _ h fun ψ Q a w p=>?_
   obtain⟨cb,e1,e3⟩:=addr ψ Q a w p;obtain⟨vs,hv,_,iI,h2⟩:=G9 (P:=C.P) (p.at hD bE e1) hb;refine⟨_,w,?_,.refl w,.agg _ vs (hr C ψ _ iI) (h1 h2)⟩;simp only[execOp,ho,e3,Instr.loadAt,Sem.run_bind,Z3,Result.andThen_ok,FF ht (ZsV hs) _ w hv,Sem.run_pure]
structure vo (w w':World) (b:Nat):Prop where
 other: ∀k,k≠b->w'.heap[k]? =w.heap[k]?
 size:w'.heap.size=w.heap.size
 tape:w'.tape=w.tape
 os:w'.os=w.os
 output:pW w w'
theorem vo.jn (w:World) (b:Nat) (ob:Obj):vo w (jn w b ob) b:=
 ⟨fun _ h=>Zwq h ob,Kj w b ob,rfl,rfl,rfl,aA _⟩
theorem Znr {ψ:Ps} {w:World} {cb:CB} {cs ds cs':List DV} {vs:List Value} {p o':Nat} {P:Program} (h:Holds C ψ w cb (.cells false cs)) (hr:aR C ψ ds vs) (h1:ds.all one=true)
  (hp:p+ds.length<=cb.m) (ho:o'+cs'.length<=cb.m) (fL:cs'.all one=true)
  (hc: ∀j d,cs'[j]? =some d->(p<=o'+j/\o'+j<p+ds.length/\ds[o'+j-p]? =some d)\/((o'+j<p\/p+ds.length<=o'+j)/\cs[o'+j]? =some d)):
  ∃w',(storeCells ⟨cb.b,cb.o+p,none⟩ vs).run P w= .ok () w'/\vo w w' cb.b/\Holds C ψ w' ⟨cb.b,cb.o+o',cb.m-o'⟩ (.cells false cs'):=by
 obtain⟨c,ty,fr,hb,bC,eK⟩:=h.2.2.2 rfl;have hl:=hr.len;have cD:=Ly P cb.b (cb.o+p) ty fr vs 0 w c hb (hr.Uu h1) (by omega) (fun j _ hj=>by
  have:=eK (p+j) (by omega);rw[<-lA]at this;exact this)
 simp only[dC]at cD;refine⟨_,cD,vo.jn w _ _,by simp only;omega,fL,fun j d hd=>?_,fun _=>⟨_,ty,fr,HZ (qX hb) _,by simp;omega,fun j hj=>?_⟩⟩
 ·dsimp only
  rw[cell_of_row _ _ _ _ ty fr (HZ (qX hb) _),IA _ _ _ _ (by omega)];rcases hc j d hd with⟨a1,a2,a3⟩|⟨a1,a2⟩
  ·rw[aF ⟨by omega,by omega⟩]
   obtain⟨v,hv,iI⟩:=hr.get a3;exact⟨v,by rw[show cb.o+o'+j-(cb.o+p)=o'+j-p by omega];exact hv,iI⟩
  ·rw[ay (by omega)]
   obtain⟨v,hv,iI⟩:=h.2.2.1 _ _ a2;rw[cell_of_row _ _ _ _ ty fr hb]at hv;exact⟨v,by rw[lA];exact hv,iI⟩
 ·have:=eK (o'+j) (by simp only at hj;omega)
  rw[<-lA]at this;exact this
theorem Zv2 {cs ds:List DV} {p:Nat} (h:cs.all one=true) (h':ds.all one=true) (hp:p+ds.length<=cs.length):(bN cs p ds).all one=true:=by
 refine gm.2 fun x hx=>?_
 obtain⟨j,hj⟩:=w9 hx;rw[Cn cs p ds j hp]at hj;split at hj
 ·exact gm.1 h' _ (kK hj)
 ·exact gm.1 h _ (kK hj)
theorem H8 {ψ:Ps} {w:World} {cb:CB} {cs ds:List DV} {vs:List Value} {p:Nat} {P:Program} (h:Holds C ψ w cb (.cells false cs)) (hr:aR C ψ ds vs) (h1:ds.all one=true)
  (hp:p+ds.length<=cs.length):
  ∃w',(storeCells ⟨cb.b,cb.o+p,none⟩ vs).run P w= .ok () w'/\vo w w' cb.b/\Holds C ψ w' cb (.cells false (bN cs p ds)):=by
 have hm:=h.1;have e1:p+ds.length<=cb.m:=by omega
 have e2:0+(bN cs p ds).length<=cb.m:=by rw[BW];omega
 obtain⟨w',a,b,c⟩:=Znr (P:=P) (cs':=bN cs p ds) (o':=0) h hr h1 e1 e2 (Zv2 h.2.1 h1 hp) (fun j d hd=>by
  rw[Cn cs p ds j hp]at hd;split at hd
  ·exact .inl ⟨by omega,by omega,by simpa using hd⟩
  ·exact .inr ⟨by omega,by simpa using hd⟩)
 exact⟨w',a,b,by simpa using c⟩
theorem Nb {s:St} {i:Nat} {cs:List DV} (h:s.gy i=some cs):cj s i=some (.cells false cs)/\i<s.length:=by
 unfold St.gy at h;unfold cj;cases hs:s[i]? with
 |none=>rw[hs]at h;cases h
 |some x=>
  rw[hs]at h;have hi:i<s.length:=by
   rcases eJ i s.length with h'|h'
   ·exact h'
   ·rw[dL h']at hs;cases hs
  cases x with
  |none=>cases h
  |some b=>
   obtain⟨f,c⟩:=b;cases f with
   |true=>cases h
   |false=>simp only[cQ]at h;subst h;exact⟨rfl,hi⟩
theorem Zlj {s:St} {i:Nat} (h:i<s.length) (b:bn):cj (s.set i (some b)) i=some (.cells b.jA b.cells):=by simp[cj,h]
theorem Ht {s:St} {i j:Nat} (h:i≠j) (b:Option bn):cj (s.set i b) j=cj s j:=by simp[cj,ec h]
theorem bm.Sf (aI: ∀h,W h->D h) {i:Nat} (hW:W (.inl i)) {K:Env->M β} {r:Out β×St} (e:df) (hv:e.bT=none) (hp:gL E->∀r v n,e= .pl r v n->v<E.aX) {cs cs':List DV}
  (hi:s.gy i=some cs) (hk:K (E.dJ o.dst e) (s.set i (some ⟨false,cs'⟩))=some r)
  (cD: ∀ψ Q a w,aw C o D E s ψ Q a w->∃cb,ψ (.inl i)=some cb/\(Holds C ψ w cb (.cells false cs)->∃v w',((execOp a.eval o).run C.P w= .ok (.value v) w'\/(execOp a.eval o).run C.P w= .ok .skip w'/\v=undef)/\
   vo w w' cb.b/\Holds C ψ w' cb (.cells false cs')/\ef C ψ e v)):bm C md pr ms o D W E s K r:=by
 obtain⟨bE,aj⟩:=Nb hi;refine .inl ⟨_,_,hk,jO.put pr ms e hv hp (by simp) (fun j ab h=>?_) (fun j h _=>?_) (.inl (by simp)),?_⟩
 ·by_cases e:j=i
  ·subst e;exact .inl hW
  ·rw[Ht (fun e'=>e e'.symm)]at h;exact .inr (.inr h)
 ·exact ec (fun e=>h (by rw[<-e];exact hW))
 intro ψ Q a w next QQ p room hn;obtain⟨cb,gq,hh⟩:=cD ψ Q a w p;have hq:Q (.inl i) (.cells false cs):=p.gT (.inl i) _ cb (aI _ hW) bE gq;obtain⟨v,w',hr,cu,C8,cM⟩:=hh (p.dA.holds _ cb _ gq hq);have post:EE C D W E s (E.dJ o.dst e) (s.set i (some ⟨false,cs'⟩)) ψ Q w ψ (tx Q (.inl i) (.cells false cs')) w':=by
  refine⟨dP.set p.dA gq hq rfl cu.other C8,Ext.set gq hq rfl cu.other cu.size cu.tape cu.os cu.output,fun _ _ e=> .inl e,fun h ab c cr hw e'=>?_,fun h ab c e' q nw _=>?_⟩
  ·by_cases eh:h= .inl i
   ·subst eh
    have lJ:cj (s.set i (some ⟨false,cs'⟩)) i=some ab:=cr;rw[Zlj aj]at lJ;cases lJ;exact .inl ⟨rfl,rfl⟩
   ·refine .inr ⟨eh,?_⟩
    have dU:CR E s h ab:=by
     cases h with
     |inl j=>
      have lJ:cj (s.set i (some ⟨false,cs'⟩)) j=some ab:=cr;rw[Ht (fun e=>eh (by rw[e]))]at lJ;exact lJ
     |inr x=>exact CR.dJ (t:=o.dst) (e:=e) (s:=s) hv cr
    rcases hw with hw|⟨n1,n2⟩
    ·exact p.gT h ab c (aI h hw) dU e'
    ·exact absurd (dU.nh p.fe) n1
  ·exact .inr ⟨fun eh=>nw (by subst eh;exact hW),q⟩
 have bD: ∀d,o.dst=some d->ef C ψ ((E.dJ o.dst e).get d) v:=fun d hd=>by rw[Env.iE,aF hd];exact cM
 unfold Oper.wp;rcases hr with hr|⟨hr,rfl⟩
 ·rw[hr];exact hn ψ _ v w' post bD
 ·rw[hr];exact hn ψ _ _ w' post bD
theorem Zpa {i p:Nat} {ds:List DV} {K:M β} {s:St} {r:Out β×St} (h:M.store i p ds K s=some r):
  ∃cs,s.gy i=some cs/\p+ds.length<=cs.length/\K (s.set i (some ⟨false,bN cs p ds⟩))=some r:=by
 unfold M.store at h;cases hs:s.gy i with
 |none=>rw[hs]at h;cases h
 |some cs=>
  rw[hs]at h;simp only at h;cases hb:Nat.ble (p+ds.length) cs.length with
  |false=>rw[hb]at h;cases h
  |true=>rw[hb]at h;exact⟨_,rfl,lC hb,h⟩
theorem Zl8 {P:Program} {t:TypeId} {td:TypeDesc} (ht:P.underlying t=some td) (a:Addr) (v:Value) (w:World) (hs:v.cells.size=P.cellsOf t):
  (storeVar t a v).run P w=(storeCells a v.cells.toList).run P w:=by
 simp[storeVar,ZN w ht,hs]
theorem ZuQ {t:TypeId} {x y:Operand} (ho:o.op= .store t x y) (pA:o.dst=none) (aI: ∀h,W h->D h) (PT: ∀r v,md.loc r=true->(E.get r).bT=some v->W (.inr v)) (hWh:md.I3=true->∀i p,E.src C x= .v (.ptr (some (i,p)))->W (.inl i))
  {K:Env->M β} {r:Out β×St} (h:OQ C E K md ms t x y s=some r):bm C md pr ms o D W E s K r:=by
 unfold OQ at h;obtain⟨d,hd,h⟩:=Zr h;obtain⟨ds,td,ht,h,jV,hv⟩:=Znz h;rcases BN h with⟨u,v,p0,hx,h⟩|⟨i,p0,hx,h⟩
 ·obtain⟨hm,h⟩:=Zp h
  rw[aH]at hm;obtain⟨n,cs,hl,h⟩:=Znb h;obtain⟨hb,h⟩:=ZM h;have hb:=lC hb;have hW:=PT u v hm.2 (by rw[hl];rfl);have get: ∀k,(E.put u (.loc v n (tr n (C.P.cellsOf t) cs p0 ds))).get k=if u=k then .loc v n (tr n (C.P.cellsOf t) cs p0 ds)else E.get k:=fun k=>Env.oo _ _ _ _
  have bT: ∀k,((E.put u (.loc v n (tr n (C.P.cellsOf t) cs p0 ds))).get k).bT=(E.get k).bT:=fun k=>by
   rw[get];split
   ·rename_i e;subst e;rw[hl];rfl
   ·rfl
  have crb: ∀h ab,gL E->CR (E.put u (.loc v n (tr n (C.P.cellsOf t) cs p0 ds))) s h ab->(h= .inr v/\ab= .cells false (tr n (C.P.cellsOf t) cs p0 ds))\/(h≠ .inr v/\CR E s h ab):=by
   intro h ab hE c;cases h with
   |inl i=>exact .inr ⟨by simp,c⟩
   |inr k=>
    rcases c with⟨q,n',cs',hq,cR⟩|⟨q,l,p,hq,cR⟩
    ·rw[get]at hq
     split at hq
     ·cases hq;exact .inl ⟨rfl,cR⟩
     ·rename_i bp
      refine .inr ⟨fun e=>?_,.inl ⟨q,n',cs',hq,cR⟩⟩;cases e;exact bp (hE.uniq u q v (by rw[hl];rfl) (by rw[hq];rfl))
    ·rw[get]at hq
     split at hq
     ·cases hq
     ·rename_i bp
      refine .inr ⟨fun e=>?_,.inr ⟨q,l,p,hq,cR⟩⟩;cases e;exact bp (hE.uniq u q v (by rw[hl];rfl) (by rw[hq];rfl))
  refine .inl ⟨_,_,h,⟨aA _,aA _,fun hE=>⟨?_,?_,?_,?_⟩,?_,(fun k d _ h'=>by
   rw[get]at h';split at h'
   ·cases h'
   ·exact h'),?_,?_,?_,?_,fun _ _ _=>rfl,.inr (by unfold Spec;rw[ho];trivial),.inl rfl⟩,?_⟩
  ·intro k v' h';rw[bT]at h';exact hE.lt k v' h'
  ·intro k a b c h'
   rw[get]at h';split at h'
   ·cases h'
   ·exact hE.pl k a b c h'
  ·intro k a b c h'
   rw[get]at h';split at h'
   ·cases h'
    have:=hE.len u v n cs hl;rw[ON this jV hb,BW];exact this
   ·exact hE.len k a b c h'
  ·intro k k' v' h' sQ;rw[bT]at h' sQ;exact hE.uniq k k' v' h' sQ
  ·intro k _ AU
   rw[get,ay];rintro rfl;rw[hm.1]at AU;cases AU
  ·intro k _ C' ψ x' hr
   rw[get];split
   ·rename_i e;subst e;rw[hl]at hr;exact hr
   ·exact hr
  ·intro h' ab c
   cases h' with
   |inl i=>exact .inr (.inr c)
   |inr k=>
    rcases c with⟨q,n',cs',hq,cR⟩|⟨q,l,p,hq,cR⟩
    ·rw[get]at hq
     split at hq
     ·cases hq;exact .inl hW
     ·exact .inr (.inr (.inl ⟨q,n',cs',hq,cR⟩))
    ·rw[get]at hq
     split at hq
     ·cases hq
     ·exact .inr (.inr (.inr ⟨q,l,p,hq,cR⟩))
  ·intro k v' n' cs' h'
   rw[get]at h';split at h'
   ·rename_i e;subst e;cases h';exact .inl ⟨cs,hl⟩
   ·exact .inl ⟨cs',h'⟩
  ·intro k v' l p h'
   rw[get]at h';split at h'
   ·cases h'
   ·exact .inl ⟨p,h'⟩
  ·intro ψ Q a w next QQ p room hn
   have:=p.src (x:=x) (by simp[Op.operands,ho]);rw[hx]at this;obtain⟨cb,e1,e2,e3⟩:=this;obtain⟨h1,h2,h3⟩:=hv C ψ _ (p.val (x:=y) (by simp[Op.operands,ho]) hd);have hq:Q (.inr v) (.cells false cs):=p.gT (.inr v) _ cb (aI _ hW) (.inl ⟨u,n,cs,hl,rfl⟩) e1;have hlen:=p.fe.len u v n cs hl;obtain⟨w',hr,cu,hh⟩:=H8 (P:=C.P) (p:=p0) (p.dA.holds _ cb _ e1 hq) h1 h2 (by omega);rw[e2,dy]at hr;have hex:(execOp a.eval o).run C.P w= .ok .skip w':=by
    simp only[execOp,ho,e3,Instr.storeAt,Sem.run_bind,Z3,Result.andThen_ok,Zl8 ht _ _ w h3,hr,Sem.run_pure]
   unfold Oper.wp;rw[hex];refine hn ψ (tx Q (.inr v) (.cells false (tr n (C.P.cellsOf t) cs p0 ds))) _ w' ⟨dP.set p.dA e1 hq rfl cu.other (by rw[ON hlen jV hb];exact hh),Ext.set e1 hq rfl cu.other cu.size cu.tape cu.os cu.output,
    fun _ _ e=> .inl e,fun h' ab c cr hw e'=>?_,fun h' ab c e' q nw _=>?_⟩ (fun d' jh=>by rw[pA]at jh;cases jh)
   ·rcases crb h' ab p.fe cr with⟨rfl,rfl⟩|⟨bp,cr⟩
    ·exact .inl ⟨rfl,rfl⟩
    ·refine .inr ⟨bp,?_⟩
     rcases hw with hw|⟨n1,n2⟩
     ·exact p.gT h' ab c (aI h' hw) cr e'
     ·exact absurd (cr.nh p.fe) n1
   ·exact .inr ⟨fun e=>nw (by rw[e];exact hW),q⟩
 ·obtain⟨hm,h⟩:=Zp h
  obtain⟨cs,hi,hb,h⟩:=Zpa h;refine bm.Sf aI (hWh hm i p0 hx) .u rfl (fun _ _ _ _ e=>by cases e) hi (by rw[pA];exact h) fun ψ Q a w p=>?_
  have:=p.val (x:=x) (by simp[Op.operands,ho]) hx;generalize JW:a.eval x=xv at this;cases this with
  |ptr _ _ cb e=>
   refine⟨cb,e,fun hh=>?_⟩;obtain⟨h1,h2,h3⟩:=hv C ψ _ (p.val (x:=y) (by simp[Op.operands,ho]) hd);obtain⟨w',hr,cu,C8⟩:=H8 (P:=C.P) (p:=p0) hh h1 h2 hb;refine⟨undef,w',.inr ⟨?_,rfl⟩,cu,C8,trivial⟩;simp only[execOp,ho,JW,Instr.storeAt,Sem.run_bind,Z3,Result.andThen_ok,Zl8 ht _ _ w h3,hr,Sem.run_pure]
end
end Go.Gv
namespace Go.Gv
variable {β:Type}
structure lE (C:aM):Prop where
 ty: ∀t t',C.ty t=C.ty t'->t=t'
 eqg: ∀t,C.xQ t≠[]->C.P.eqGuardType C.P.depth t=false
 eq: ∀t,C.xQ t≠[]->∀ψ xs ys (vs us:Array Value) b w,aR C ψ xs vs.toList->aR C ψ ys us.toList->kl (C.xQ t) xs ys=some b->(Op.equal t (.agg vs) (.agg us)).run C.P w= .ok b w
 tae: ∃e d,C.P.underlying C.P.rt.typeAssertionError=some (.pointer e)/\C.P.underlying e=some d
section
variable {C:aM} {o:Oper} {D W:cx->Prop} {E:Env} {s:St} {md:Md} {pr ms:List Nat}
theorem ZsQ {P:Program} (d:Nat) {t:TypeId} (ht:P.underlying t=some .bool) (x y:Bool) (w:World):(Op.equalIn (d+1) t (.bool x) (.bool y)).run P w= .ok (x==y) w:=by
 simp[Op.equalIn,Zi w ht]
theorem Zwl {P:Program} {t:TypeId} (ht:P.underlying t=some .bool) (x y:Bool) (w:World):(Op.equal t (.bool x) (.bool y)).run P w= .ok (x==y) w:=ZsQ 9999 ht x y w
theorem ZuS {P:Program} (d:Nat) {t e:TypeId} (ht:P.underlying t=some (.pointer e)) (a:Option Addr) (w:World):
  (Op.equalIn (d+1) t (.pointer a) (.pointer none)).run P w= .ok a.isNone w/\(Op.equalIn (d+1) t (.pointer none) (.pointer a)).run P w= .ok a.isNone w:=by
 cases a<;>constructor<;>simp[Op.equalIn,Zi w ht]
theorem H6 {P:Program} {t e:TypeId} (ht:P.underlying t=some (.pointer e)) (a:Option Addr) (w:World):
  (Op.equal t (.pointer a) (.pointer none)).run P w= .ok a.isNone w/\(Op.equal t (.pointer none) (.pointer a)).run P w= .ok a.isNone w:=ZuS 9999 ht a w
theorem ZrN {P:Program} (d:Nat) {t e:TypeId} (ht:P.underlying t=some (.slice e)) (a:Option Addr) (n m n' m':Nat) (w:World):
  (Op.equalIn (d+1) t (.slice a n m) (.slice none n' m')).run P w= .ok a.isNone w/\(Op.equalIn (d+1) t (.slice none n' m') (.slice a n m)).run P w= .ok a.isNone w:=by
 cases a<;>constructor<;>simp[Op.equalIn,Zi w ht]
theorem GX {P:Program} {t e:TypeId} (ht:P.underlying t=some (.slice e)) (a:Option Addr) (n m n' m':Nat) (w:World):
  (Op.equal t (.slice a n m) (.slice none n' m')).run P w= .ok a.isNone w/\(Op.equal t (.slice none n' m') (.slice a n m)).run P w= .ok a.isNone w:=ZrN 9999 ht a n m n' m' w
theorem Zxk (x y:ByteArray):(x.toList==y.toList)=(x.data.toList==y.data.toList):=by rw[ByteArray.toList_eq,ByteArray.toList_eq]
theorem ZuF {t:TypeId} {x y:DV} {K:Bool->M β} {r:Out β×St} (hc:lE C) (h:IY (C.P.underlying t) (C.xQ t) x y K s=some r):
  ∃b,K b s=some r/\∀ψ w (x' y':Value) (p q:Operand),VR C ψ x x'->VR C ψ y y'->
   (do eqGuard .eql t p q x' y';Go.binOp .eql t x' y':Sem Value).run C.P w= .ok (.bool b) w/\(do eqGuard .neq t p q x' y';Go.binOp .neq t x' y':Sem Value).run C.P w= .ok (.bool !b) w:=by
 generalize hu:C.P.underlying t=u at h;unfold IY at h;split at h
 ·
  split at h
  ·
   refine⟨_,h,fun ψ w x' y' p q hx hy=>?_⟩;cases hx;cases hy;constructor<;>simp[eqGuard,Go.binOp,Zwl hu]
  ·cases h
 ·obtain⟨h1,h2⟩:=Zp h
  clear h;have:=Cq h1;subst this;refine⟨_,h2,fun ψ w x' y' p q hx hy=>?_⟩;cases hx;cases hy;constructor<;>simp[eqGuard,Go.binOp,Op.intCmp,bne]
 ·refine⟨_,h,fun ψ w x' y' p q hx hy=>?_⟩
  cases hx;cases hy;constructor<;>simp[eqGuard,Go.binOp,Op.stringOp,Zxk]
 ·split at h
  ·refine⟨_,h,fun ψ w x' y' p q hx hy=>?_⟩
   cases hy;cases hx with
   |D2=>constructor<;>simp[eqGuard,Go.binOp,(H6 hu none w).1]
   |ptr i n cb e=>constructor<;>simp[eqGuard,Go.binOp,(H6 hu _ w).1]
  ·cases h
 ·split at h
  ·refine⟨_,h,fun ψ w x' y' p q hx hy=>?_⟩
   cases hx;cases hy with
   |D2=>constructor<;>simp[eqGuard,Go.binOp,(H6 hu none w).1]
   |ptr i n cb e=>constructor<;>simp[eqGuard,Go.binOp,(H6 hu _ w).2]
  ·cases h
 ·split at h
  ·refine⟨_,h,fun ψ w x' y' p q hx hy=>?_⟩
   cases hy;cases hx with
   |oK=>constructor<;>simp[eqGuard,Go.binOp,(GX hu none 0 0 0 0 w).1]
   |slice _ i n m cb a cap e=>constructor<;>simp[eqGuard,Go.binOp,(GX hu _ _ _ 0 0 w).1]
  ·cases h
 ·split at h
  ·refine⟨_,h,fun ψ w x' y' p q hx hy=>?_⟩
   cases hx;cases hy with
   |oK=>constructor<;>simp[eqGuard,Go.binOp,(GX hu none 0 0 0 0 w).1]
   |slice _ i n m cb a cap e=>constructor<;>simp[eqGuard,Go.binOp,(GX hu _ _ _ 0 0 w).2]
  ·cases h
 ·rename_i xs ys
  cases gQ:C.xQ t with
  |nil=>rw[gQ]at h;cases h
  |cons k ks=>
   rw[gQ]at h;simp only at h;cases hb:kl (k::ks) xs ys with
   |none=>rw[hb]at h;cases h
   |some b=>
    rw[hb]at h;refine⟨_,h,fun ψ w x' y' p q hx hy=>?_⟩;have S7:C.xQ t≠[]:=by rw[gQ];exact List.cons_ne_nil _ _
    cases hx with
    |agg _ vs h1 _=>
     cases hy with
     |agg _ us h2 _=>
      have he:=hc.eq t S7 ψ _ _ vs us b w h1 h2 (by rw[gQ];exact hb);constructor<;>simp[eqGuard,Go.binOp,hc.eqg t S7,he]
 ·cases h
theorem ZyQ {P:Program} {op:BinOp} (h:op= .and\/op= .or\/op= .xor\/op= .andNot) (t:TypeId) (p q:Operand) (k:IntKind) (x y:Int) (w:World):
  (do eqGuard op t p q (.int k x) (.int k y);Go.binOp op t (.int k x) (.int k y):Sem Value).run P w= .ok (.int k (bits op k x y)) w:=by
 have e:Go.binOp op t (.int k x) (.int k y)=Op.intBits op k x y:=by rcases h with rfl|rfl|rfl|rfl<;>simp[Go.binOp]
 rw[e];rcases h with rfl|rfl|rfl|rfl<;>rfl
theorem Zxa {op:BinOp} {t yt:TypeId} {x y:Operand} (hc:lE C) (ho:o.op= .binOp op t x y yt) (aI: ∀h,W h->D h) {K:Env->M β} {r:Out β×St} (h:Rz C E o K op t x y s=some r):bm C md pr ms o D W E s K r:=by
 unfold Rz at h;obtain⟨a,ha,h⟩:=Zr h;obtain⟨b,hb,h⟩:=Zr h;have key: ∀d,dt E o K d s=some r->(∀ψ w x' y',VR C ψ a x'->VR C ψ b y'->∃v,(do eqGuard op t x y x' y';Go.binOp op t x' y':Sem Value).run C.P w= .ok v w/\VR C ψ d v)->bm C md pr ms o D W E s K r:=by
  intro d h hr;refine bm.val aI d h fun ψ Q A w p=>?_
  obtain⟨v,hv,iI⟩:=hr ψ w _ _ (p.val (x:=x) (by simp[Op.operands,ho]) ha) (p.val (x:=y) (by simp[Op.operands,ho]) hb);refine⟨v,w,?_,.refl w,iI⟩;simp only[execOp,ho,Sem.run_bind]at hv⊢;rw[hv];rfl
 unfold SN at h;split at h
 ·obtain⟨b',h,hr⟩:=ZuF hc h
  exact key _ h fun ψ w x' y' hx hy=>⟨_,(hr ψ w x' y' x y hx hy).1,.bool _⟩
 ·obtain⟨b',h,hr⟩:=ZuF hc h
  exact key _ h fun ψ w x' y' hx hy=>⟨_,(hr ψ w x' y' x y hx hy).2,.bool _⟩
 ·split at h
  ·rename_i k n k' m
   have h0:=h;clear h;obtain⟨hm,h⟩:=ZM h0;clear h0;have hm:=Int.not_lt.2 (mU hm);refine key _ h fun ψ w x' y' hx hy=>?_
   cases hx;cases hy;exact⟨_,by simp[eqGuard,Go.binOp,Op.shift,hm],.int _ _⟩
  ·cases h
 ·split at h
  ·rename_i k n k' m
   have h0:=h;clear h;obtain⟨hm,h⟩:=ZM h0;clear h0;have hm:=Int.not_lt.2 (mU hm);refine key _ h fun ψ w x' y' hx hy=>?_
   cases hx;cases hy;exact⟨_,by simp[eqGuard,Go.binOp,Op.shift,hm],.int _ _⟩
  ·cases h
 ·rename_i n1 n2 n3 n4
  split at h
  ·have h0:=h
   clear h;obtain⟨hk,h⟩:=Zp h0;clear h0;have:=Cq hk;subst this;cases op with
   |eql=>exact absurd rfl n1
   |neq=>exact absurd rfl n2
   |shl=>exact absurd rfl n3
   |shr=>exact absurd rfl n4
   |quo=>
    obtain⟨hm,h⟩:=ZM h;simp only[gZ,cg]at hm;refine key _ h fun ψ w x' y' hx hy=>?_
    cases hx;cases hy;exact⟨_,by simp[eqGuard,Go.binOp,Op.intDiv,hm],.int _ _⟩
   |rem=>
    obtain⟨hm,h⟩:=ZM h;simp only[gZ,cg]at hm;refine key _ h fun ψ w x' y' hx hy=>?_
    cases hx;cases hy;exact⟨_,by simp[eqGuard,Go.binOp,Op.intDiv,hm],.int _ _⟩
   |and|or|xor|andNot=>
    refine key _ h fun ψ w x' y' hx hy=>?_
    cases hx;cases hy;exact⟨_,ZyQ (by simp) t x y _ _ _ w,.int _ _⟩
   |_=>
    refine key _ h fun ψ w x' y' hx hy=>?_
    cases hx;cases hy;exact⟨_,by simp[eqGuard,Go.binOp,Op.intArith,Op.intCmp]<;>rfl,by constructor⟩
  ·rename_i l l'
   cases op with
   |eql=>exact absurd rfl n1
   |neq=>exact absurd rfl n2
   |shl=>exact absurd rfl n3
   |shr=>exact absurd rfl n4
   |add=>
    obtain⟨hm,h⟩:=ZM h;have hm:=lC hm;refine key _ h fun ψ w x' y' hx hy=>?_
    cases hx with
    |str p=>
     cases hy with
     |str q=>
      have e:p.data.toList++q.data.toList=(p++q).data.toList:=by simp[ByteArray.data_append]
      rw[e];rw[js,js]at hm;have mq:p.size+q.size<=4611686018427387904:=hm;refine⟨.string (p++q),?_,.str _⟩;have:=run_string_add_sum (P:=C.P) (w:=w) p q (by omega);simp[eqGuard,Go.binOp,this]
   |lss|leq|gtr|geq=>
    refine key _ h fun ψ w x' y' hx hy=>?_
    cases hx;cases hy;refine⟨_,by simp only[eqGuard,Go.binOp,Op.stringOp,ByteArray.toList_eq];rfl,.bool _⟩
   |_=>cases h
  ·cases h
end
end Go.Gv
namespace Go.Gv
def yL (P:Program) (t:TypeId) (b:B):Bool:=match P.underlying t,b with
 |some .bool,.bool=>true
 |some (.int _),.int _=>true
 |some .string,.str=>true
 |_,_=>false
def IX (P:Program):List Field->List B->Nat->Bool
 |[],[],_=>true
 |f::r,b::bs,o=>f.name != "_" &&Nat.beq f.offset o&&yL P f.type b&&IX P r bs (o+1)
 |_,_,_=>false
def Av (P:Program):List Field->List B->Nat->Bool
 |[],[],_=>true
 |[],_::_,_=>false
 |f::r,bs,o=>f.name != "_" &&Nat.beq f.offset o&&(match P.underlying f.type with
  |some (.struct fs)=>Nat.beq (P.cellsOf f.type) fs.size&&Nat.ble fs.size bs.length&& !(P.stoodInHeld f.type)&&IX P fs.toList (bs.take fs.size) 0&&Av P r (bs.drop fs.size) (o+fs.size)
  |_=>match bs with
   |b::tZ=>yL P f.type b&&Av P r tZ (o+1)
   |[]=>false)
def Aw (P:Program) (t:TypeId) (bs:List B):Bool:=match P.underlying t with
 |some (.struct fs)=>Av P fs.toList bs 0&& !(P.stoodInHeld t)&& !(P.eqGuardType P.depth t)
 |_=>false
section
variable {C:aM} {ψ:Ps}
theorem Zto {d:Nat} {t:TypeId} {b:B} {x y:DV} {v u:Value} {r:Bool} (w:World) (hs:yL C.P t b=true) (hx:VR C ψ x v) (hy:VR C ψ y u) (he:vS b x y=some r):
  (Op.equalIn (d+1) t v u).run C.P w= .ok r w:=by
 unfold yL at hs;split at hs
 ·rename_i hu
  unfold vS at he;split at he<;>first|(rename_i h1;cases h1;done)|skip
  ·cases hx;cases hy;cases he
   simp[Op.equalIn,Zi w hu]
  all_goals (first|(cases he;done)|skip)
 ·rename_i hu
  unfold vS at he;split at he
  ·rename_i h1;cases h1
  ·rename_i k0 k a k' b' _
   cases hk:pJ k0 k&&pJ k k' with
   |false=>rw[hk]at he;cases he
   |true=>
    rw[hk]at he;rw[aH]at hk;have:=Cq hk.2;subst this;cases hx;cases hy;cases he;simp[Op.equalIn,Zi w hu]
  ·rename_i h1;cases h1
  ·cases he
 ·rename_i hu
  unfold vS at he;split at he
  ·rename_i h1;cases h1
  ·rename_i h1;cases h1
  ·cases hx;cases hy;cases he
   have e: ∀a b:ByteArray,(a==b)=(a.data.toList==b.data.toList):=by
    intro a b;have e1:(a==b)=(a.data==b.data):=by cases a;cases b;rfl
    rw[e1,mN];simp only[lW];exact⟨fun h=>by rw[h],fun h=>Array.toList_inj.1 h⟩
   simp only[Op.equalIn,Sem.run_bind,Zi w hu,Result.andThen_ok,Sem.run_pure,e]
  ·cases he
 ·cases hs
theorem HP {e:TypeId} {b:B} {cs:Array Value} {off:Nat} {v:Value} (w:World) (hs:yL C.P e b=true) (hx:cs[off]? =some v):(Go.part e cs off).run C.P w= .ok v w:=by
 refine run_part_plain w ?_ hx;unfold yL at hs;unfold Program.plainKey;split at hs<;>first|(rename_i hu;rw[hu];done)|(rename_i hu;rw[hu])|cases hs
theorem ZsJ {d:Nat} (xs ys:Array Value) (w:World): ∀(fs:List Field) (bs:List B) (ds es:List DV) (o:Nat) (r:Bool),IX C.P fs bs o=true->
  aR C ψ ds (xs.toList.drop o)->aR C ψ es (ys.toList.drop o)->kl bs ds es=some r->(Op.eqFields (d+1) xs ys fs).run C.P w= .ok r w
 |[],[],[],[],o,r,_,_,_,he=>by
  cases he;simp[Op.eqFields]
 |[],[],_::_,_,_,_,_,_,_,he=>by cases he
 |[],[],[],_::_,_,_,_,_,_,he=>by cases he
 |[],_::_,_,_,_,_,h,_,_,_=>by cases h
 |_::_,[],_,_,_,_,h,_,_,_=>by cases h
 |f::fs,b::bs,[],_,_,_,_,_,_,he=>by cases he
 |f::fs,b::bs,_::_,[],_,_,_,_,_,he=>by cases he
 |f::fs,b::bs,x::ds,y::es,o,r,h,hx,hy,he=>by
  simp only[IX,aH]at h;obtain⟨⟨⟨hn,ho⟩,hs⟩,hr⟩:=h;have ho:=bY ho;have hn:f.name≠ "_" :=by simpa using hn
  simp only[kl]at he;cases h1:vS b x y with
  |none=>rw[h1]at he;cases he
  |some r1=>
   cases h2:kl bs ds es with
   |none=>rw[h1,h2]at he;cases he
   |some r2=>
    rw[h1,h2]at he;cases he;have Ed: ∀ {z:Array Value} {q:DV} {qs:List DV},aR C ψ (q::qs) (z.toList.drop o)->∃v,z[o]? =some v/\VR C ψ q v/\aR C ψ qs (z.toList.drop (o+1)):=by
     intro z q qs hq;generalize hz:z.toList.drop o=l at hq;cases hq with
     |cons _ v _ vs a b=>
      have e:z.toList[o]? =some v:=by
       have:=congrArg (fun l:List Value=>l[0]?) hz;simpa using this
      refine⟨v,by rw[<-gA];exact e,a,?_⟩;have:=congrArg (List.drop 1) hz;rw[iM]at this;rw[this];exact b
    obtain⟨v,hv,rv,tv⟩:=Ed hx;obtain⟨u,hu,ru,tu⟩:=Ed hy;have p1:=HP (C:=C) w hs hv;have p2:=HP (C:=C) w hs hu;have p3:=Zto (d:=d) w hs rv ru h1;have p4:=ZsJ (d:=d) xs ys w fs bs ds es (o+1) r2 hr tv tu h2;rw[<-ho]at p1 p2;simp only[Op.eqFields,hn,ne_eq,not_false_eq_true,iA,Sem.run_bind,p1,p2,p3,Result.andThen_ok];cases r1
    ·simp
    ·simpa using p4
theorem Zrq: ∀(n:Nat) (bs:List B) (ds es:List DV) (r:Bool),kl bs ds es=some r->n<=bs.length->∃r1 r2,kl (bs.take n) (ds.take n) (es.take n)=some r1/\kl (bs.drop n) (ds.drop n) (es.drop n)=some r2/\r=(r1&&r2)
 |0,bs,ds,es,r,h,_=>⟨true,r,by simp[kl],by simpa using h,by simp⟩
 |n+1,[],ds,es,r,h,hn=>by simp at hn
 |n+1,b::bs,[],es,r,h,hn=>by cases h
 |n+1,b::bs,_::_,[],r,h,hn=>by cases h
 |n+1,b::bs,x::ds,y::es,r,h,hn=>by
  simp only[kl]at h;cases h1:vS b x y with
  |none=>rw[h1]at h;cases h
  |some a=>
   cases h2:kl bs ds es with
   |none=>rw[h1,h2]at h;cases h
   |some c=>
    rw[h1,h2]at h;cases h;obtain⟨r1,r2,g1,g2,g3⟩:=Zrq n bs ds es c h2 (by simpa using hn);refine⟨a&&r1,r2,?_,by simpa using g2,by rw[g3,Bool.and_assoc]⟩;simp only[List.take_succ_cons,kl,h1,g1]
theorem NY {d:Nat} (xs ys:Array Value) (w:World): ∀(fs:List Field) (bs:List B) (ds es:List DV) (o:Nat) (r:Bool),Av C.P fs bs o=true->
  aR C ψ ds (xs.toList.drop o)->aR C ψ es (ys.toList.drop o)->kl bs ds es=some r->(Op.eqFields (d+2) xs ys fs).run C.P w= .ok r w
 |[],[],ds,es,o,r,_,_,_,he=>by
  cases ds<;>cases es<;>cases he
  simp[Op.eqFields]
 |[],_::_,_,_,_,_,h,_,_,_=>by cases h
 |f::fs,bs,ds,es,o,r,h,hx,hy,he=>by
  unfold Av at h;rw[aH,aH]at h;obtain⟨⟨hn,ho⟩,h⟩:=h;have ho:=bY ho;have hn:f.name≠ "_" :=by simpa using hn
  have XI: ∀b tZ,bs=b::tZ->(yL C.P f.type b&&Av C.P fs tZ (o+1))=true->(Op.eqFields (d+2) xs ys (f::fs)).run C.P w= .ok r w:=by
   rintro b tZ rfl h;rw[aH]at h;obtain⟨hs,hr⟩:=h
   match ds,es,hx,hy,he with
   |[],_,_,_,he=>cases he
   |_::_,[],_,_,he=>cases he
   |x::ds,y::es,hx,hy,he=>
   simp only[kl]at he;cases h1:vS b x y with
   |none=>rw[h1]at he;cases he
   |some r1=>
    cases h2:kl tZ ds es with
    |none=>rw[h1,h2]at he;cases he
    |some r2=>
     rw[h1,h2]at he;cases he;have Ed: ∀ {z:Array Value} {q:DV} {qs:List DV},aR C ψ (q::qs) (z.toList.drop o)->∃v,z[o]? =some v/\VR C ψ q v/\aR C ψ qs (z.toList.drop (o+1)):=by
      intro z q qs hq;generalize hz:z.toList.drop o=l at hq;cases hq with
      |cons _ v _ vs a b=>
       have e:z.toList[o]? =some v:=by
        have:=congrArg (fun l:List Value=>l[0]?) hz;simpa using this
       refine⟨v,by rw[<-gA];exact e,a,?_⟩;have:=congrArg (List.drop 1) hz;rw[iM]at this;rw[this];exact b
     obtain⟨v,hv,rv,tv⟩:=Ed hx;obtain⟨u,hu,ru,tu⟩:=Ed hy;have p1:=HP (C:=C) w hs hv;have p2:=HP (C:=C) w hs hu;have p3:=Zto (d:=d+1) w hs rv ru h1;have p4:=NY (d:=d) xs ys w fs tZ ds es (o+1) r2 hr tv tu h2;rw[<-ho]at p1 p2;simp only[Op.eqFields,hn,ne_eq,not_false_eq_true,iA,Sem.run_bind,p1,p2,p3,Result.andThen_ok];cases r1
     ·simp
     ·simpa using p4
  split at h
  ·rename_i gs hu
   simp only[aH]at h;obtain⟨⟨⟨⟨hc,hle⟩,bE⟩,hg⟩,hr⟩:=h;have hc:=bY hc;have hle:=lC hle;have bE:C.P.stoodInHeld f.type=false:=by simpa using bE
   obtain⟨r1,r2,e1,e2,e3⟩:=Zrq gs.size bs ds es r he hle;have gQ:ZI C.P f.type=true:=by unfold ZI;rw[hu]
   have prt: ∀z:Array Value,(Go.part f.type z o).run C.P w= .ok (.agg (z.extract o (o+gs.size))) w:=fun z=>by
    unfold Go.part;simp only[Sem.run_bind,BV w hu,Result.andThen_ok,gQ,iA,ZN w hu,hc,Sem.run_pure]
   have sub: ∀ {z:Array Value} {qs:List DV},aR C ψ qs (z.toList.drop o)->aR C ψ (qs.take gs.size) ((z.extract o (o+gs.size)).toList.drop 0):=by
    intro z qs hq;have:=hq.take gs.size;rw[dw,Array.toList_extract,Kx,show o+gs.size-o=gs.size by omega];exact this
   have rst: ∀ {z:Array Value} {qs:List DV},aR C ψ qs (z.toList.drop o)->aR C ψ (qs.drop gs.size) (z.toList.drop (o+gs.size)):=by
    intro z qs hq;have:=hq.drop gs.size;rw[iM]at this;exact this
   have ny:C.P.fieldsOf f.type=gs:=by unfold Program.fieldsOf;rw[hu]
   have p3:(Op.equalIn (d+2) f.type (.agg (xs.extract o (o+gs.size))) (.agg (ys.extract o (o+gs.size)))).run C.P w= .ok r1 w:=by
    rw[run_equalIn_struct w (d+1) f.type _ _ (by rw[ny];exact hu) bE,ny];exact ZsJ (d:=d) _ _ w gs.toList (bs.take gs.size) _ _ 0 r1 hg (sub hx) (sub hy) e1
   have p4:=NY (d:=d) xs ys w fs (bs.drop gs.size) _ _ (o+gs.size) r2 hr (rst hx) (rst hy) e2;have p1:=prt xs;have p2:=prt ys;rw[<-ho]at p1 p2 p3;simp only[Op.eqFields,hn,ne_eq,not_false_eq_true,iA,Sem.run_bind,p1,p2,p3,Result.andThen_ok];rw[e3];cases r1
   ·simp
   ·simpa using p4
  ·split at h
   ·rename_i b tZ
    exact XI b tZ rfl h
   ·cases h
theorem ZwQ {P:Program} {t:TypeId} {bs:List B} (h:Aw P t bs=true):P.eqGuardType P.depth t=false:=by
 unfold Aw at h;split at h
 ·simp only[aH]at h
  simpa using h.2
 ·cases h
theorem ZyH {t:TypeId} {bs:List B} (h:Aw C.P t bs=true) {xs ys:List DV} {vs us:Array Value} {b:Bool} (w:World) (hx:aR C ψ xs vs.toList) (hy:aR C ψ ys us.toList) (he:kl bs xs ys=some b):
  (Op.equal t (.agg vs) (.agg us)).run C.P w= .ok b w:=by
 unfold Aw at h;split at h
 ·rename_i fs hu
  simp only[aH]at h;have bE:C.P.stoodInHeld t=false:=by simpa using h.1.2
  unfold Op.equal;have ny:C.P.fieldsOf t=fs:=by unfold Program.fieldsOf;rw[hu]
  rw[show Op.maxDepth=9999+1 from rfl,run_equalIn_struct w 9999 t vs us (by rw[ny];exact hu) bE,ny];exact NY (d:=9997) vs us w fs.toList bs xs ys 0 b h.1.1 (by rw[dw];exact hx) (by rw[dw];exact hy) he
 ·cases h
def DQ:List (Nat×List B)->Nat->List B
 |[],_=>[]
 |(k,v)::r,x=>bif Nat.beq k x then v else DQ r x
theorem O7 {P:Program} : ∀ {l:List (Nat×List B)},(l.all fun x=>Aw P x.1 x.2)=true->∀t,DQ l t≠[]->Aw P t (DQ l t)=true
 |[],_,t,h=>absurd rfl h
 |(k,v)::r,hl,t,h=>by
  rw[rZ,aH]at hl;simp only[DQ]at h⊢;cases hk:Nat.beq k t with
  |true=>rw[hk]at h;rw[<-bY hk];exact hl.1
  |false=>rw[hk]at h;exact O7 hl.2 t h
end
end Go.Gv
namespace Go.Gv
variable {β:Type}
section
variable {C:aM} {o:Oper} {D W:cx->Prop} {E:Env} {s:St} {md:Md} {pr ms:List Nat}
theorem aw.int {ψ:Ps} {Q:Kn} {a:Act} {w:World} (p:aw C o D E s ψ Q a w) {x:Operand} (hx:x∈o.op.operands) {k:IntKind} {n:Int} (h:E.src C x= .v (.int k n)):a.eval x= .int k n:=by
 have:=p.val hx h;generalize a.eval x=v at this;cases this;rfl
theorem Mj {len:Nat} {lo hi:Option Operand} {K:Nat->Nat->M β} {r:Out β×St} (h:Co C E len lo hi K s=some r):
  ∃l u,K l u s=some r/\l<=u/\u<=len/\(lo=none->l=0)/\(hi=none->u=len)/\
   ∀ψ Q a w,aw C o D E s ψ Q a w->(∀x,lo=some x->x∈o.op.operands)->(∀x,hi=some x->x∈o.op.operands)->∀(b:Bool) (cap:Nat),len<=cap->(b=false->len=cap)->
    (Instr.sliceBounds b len cap (lo.map a.eval) (hi.map a.eval) none).run C.P w= .ok (l,u,cap) w:=by
 unfold Co at h;have low: ∀u,(match lo with|none=>K 0 u|some x=>wK C E x fun l=>M.ak (decide (0<=l)&&decide (l<=u)) (K l.toNat u)) s=some r->
   ∃l,K l u s=some r/\l<=u/\(lo=none->l=0)/\∀ψ Q a w,aw C o D E s ψ Q a w->(∀x,lo=some x->x∈o.op.operands)->
    (match lo.map a.eval with|some v=>Instr.sliceBound v u .sliceB|none=>pure 0:Sem Nat).run C.P w= .ok l w:=by
  intro u h;cases lo with
  |none=>exact⟨0,h,bH _,fun _=>rfl,fun ψ Q a w p _=>rfl⟩
  |some x=>
   obtain⟨k,n,hx,h⟩:=zL h;obtain⟨hc,h⟩:=ZM h;simp only[aH,jL]at hc;refine⟨n.toNat,h,by omega,fun h=>(nomatch h),fun ψ Q a w p hm=>?_⟩;simp only[lD,p.int (hm x rfl) hx];exact run_sliceBound _ k n u _ hc.1 hc.2
 cases hi with
 |none=>
  obtain⟨l,h,h1,h2,h3⟩:=low len h;refine⟨l,len,h,h1,aA _,h2,fun _=>rfl,fun ψ Q a w p hl _ b cap nr hb=>?_⟩;have:=h3 ψ Q a w p hl;unfold Instr.sliceBounds;simp only[Option.map_none,Sem.run_bind,Sem.run_pure,Result.andThen_ok,EA,nQ,iO];cases rD:lo.map a.eval with
  |none=>rw[rD]at this;simp only[Sem.run_pure,Result.ok.injEq]at this⊢;simp[this.1]
  |some v=>rw[rD]at this;simp only at this⊢;rw[Sem.run_bind,this];rfl
 |some y=>
  obtain⟨k,n,hy,h⟩:=zL h;obtain⟨hc,h⟩:=ZM h;simp only[aH,jL]at hc;obtain⟨l,h,h1,h2,h3⟩:=low n.toNat h;refine⟨l,n.toNat,h,h1,by omega,h2,fun h=>(nomatch h),fun ψ Q a w p hl hh b cap nr hb=>?_⟩;have:=h3 ψ Q a w p hl;have hs: ∀code,(Instr.sliceBound (.int k n) cap code).run C.P w= .ok n.toNat w:=fun code=>run_sliceBound _ k n cap code hc.1 (by omega)
  unfold Instr.sliceBounds;simp only[lD,p.int (hh y rfl) hy,Sem.run_bind,Sem.run_pure,Result.andThen_ok,EA,nQ,iO,hs];cases rD:lo.map a.eval with
  |none=>rw[rD]at this;simp only[Sem.run_pure,Result.ok.injEq]at this⊢;simp[this.1]
  |some v=>rw[rD]at this;simp only at this⊢;rw[Sem.run_bind,this];rfl
theorem ZuN {t:TypeId} {y:Operand} {lo hi:Option Operand} (ho:o.op= .slice t y lo hi none):y∈o.op.operands/\(∀x,lo=some x->x∈o.op.operands)/\(∀x,hi=some x->x∈o.op.operands):=by
 rw[ho];refine⟨by simp[Op.operands],fun x hx=>?_,fun x hx=>?_⟩
 ·subst hx;simp[Op.operands]
 ·subst hx;simp[Op.operands]
theorem Zv5 {ψ:Ps} {sz i n:Nat} {cb:CB} {base:Addr} {off cap l u:Nat} {lo:Bool} (gq:ψ (.inl i)=some cb) (hb:0<cap->base=⟨cb.b,cb.o+off,none⟩/\off+cap*sz<=cb.m)
  (h1:l<=u) (h2:u<=n) (h3:n<=cap) (rD:lo=false->l=0):
  VR C ψ (.slice sz (cY lo (some (i,off)) (l*sz)) (CF lo l u)) (.slice (some (if cap=l then base else base.add (l*sz))) (u-l) (cap-l)):=by
 have e:cY lo (some (i,off)) (l*sz)=some (i,off+l*sz):=by
  cases lo with
  |true=>simp[cY,qT]
  |false=>simp[cY,rD rfl]
 have e2:CF lo l u=u-l:=by
  cases lo with
  |true=>rfl
  |false=>simp[CF,rD rfl]
 rw[e,e2];refine .slice sz i _ _ cb _ _ gq (by omega) (fun hc=>?_);obtain⟨h4,h5⟩:=hb (by omega);rw[ay (by omega),h4,vz];refine⟨by rw[lA],?_⟩;have:off+l*sz+(cap-l)*sz=off+cap*sz:=by rw[lA,<-pS];congr 2;omega
 omega
theorem Zvm {t:TypeId} {y:Operand} {lo hi:Option Operand} (ho:o.op= .slice t y lo hi none) (aI: ∀h,W h->D h) (PE:(∃m e,C.P.underlying t=some (.array m e))->∀i,D (.inl i))
  {K:Env->M β} {r:Out β×St} (h:Oi C E o K t y lo hi s=some r):bm C md pr ms o D W E s K r:=by
 obtain⟨my,J7,J6⟩:=ZuN ho;unfold Oi at h;cases ht:C.P.underlying t with
 |none=>rw[ht]at h;cases h
 |some td=>
  rw[ht]at h;cases td with
  |string=>
   simp only at h;obtain⟨d,hd,h⟩:=Zr h;cases d with
   |str x=>
    simp only at h;obtain⟨l,u,h,h1,h2,h3,h4,hr⟩:=Mj (o:=o) (D:=D) h;refine bm.val aI _ h fun ψ Q a w p=>?_
    have hv:=p.val my hd;generalize hy:a.eval y=v at hv;cases hv with
    |str x=>
     have hlen:x.data.toList.length=x.size:=by rw[js];rfl
     have iV:=hr ψ Q a w p J7 J6 false x.size (by omega) (fun _=>hlen);rw[hlen]at iV;refine⟨.string (x.extract l u),w,?_,.refl w,?_⟩
     ·simp only[execOp,ho,hy,Instr.sliceAt,Sem.run_bind,Zi w ht,Result.andThen_ok,Instr.slice,Option.map_none,EA,nQ,iO,Sem.run_pure,iV]
     ·have e:Ao lo.isSome hi.isSome x.data.toList l u=(x.extract l u).data.toList:=by
       rw[ByteArray.data_extract,Array.toList_extract,Kx];have e2:(x.data.toList.take u).drop l=(x.data.toList.drop l).take (u-l):=by rw[List.drop_take]
       cases lo with
       |none=>
        have:=h3 rfl;subst this;cases hi with
        |none=>
         have:=h4 rfl;subst this;simp only[Ao,EA,cond_false];rw[dw,se,cF (aA _)]
        |some _=>simp[Ao]
       |some _=>
        cases hi with
        |none=>
         have:=h4 rfl;subst this;simp only[Ao,Option.isSome_some,EA,cond_true,cond_false];rw[cF (by simp)]
        |some _=>simp only[Ao,Option.isSome_some,cond_true];exact e2
      rw[e];exact .str _
   |_=>cases h
  |slice e=>
   simp only at h;obtain⟨ed,he,h⟩:=mb h;obtain⟨d,hd,h⟩:=Zr h;cases d with
   |slice z a n=>
    simp only at h;obtain⟨hz,h⟩:=Zp h;obtain⟨l,u,h,h1,h2,h3,h4,hr⟩:=Mj (o:=o) (D:=D) h;refine bm.val aI _ h fun ψ Q A w p=>?_
    have hv:=p.val my hd;generalize hy:A.eval y=v at hv;cases hv with
    |oK=>
     have iV:=hr ψ Q A w p J7 J6 true 0 (aA _) (fun h=>nomatch h);have:l=0:=by omega
     subst this;have:u=0:=by omega
     subst this;refine⟨.slice none 0 0,w,?_,.refl w,?_⟩
     ·simp[execOp,ho,hy,Instr.sliceAt,Instr.slice,Zi w ht,iV,ZN w he]
     ·cases lo<;>exact .oK _
    |slice _ i off _ cb base cap gq nr hb=>
     simp only[Option.isNone_some,yY]at hz;have hz:=bY hz;subst hz;have iV:=hr ψ Q A w p J7 J6 true cap nr (fun h=>nomatch h);refine⟨_,w,?_,.refl w,Zv5 gq hb h1 h2 nr (fun hl=>h3 (by cases lo<;>first|rfl|cases hl))⟩;simp only[execOp,ho,hy,Instr.sliceAt,Instr.slice,Sem.run_bind,Zi w ht,Result.andThen_ok,Option.map_none,iV,ZN w he,Sem.run_pure,lD];by_cases dz:cap=l<;>simp[dz]
   |_=>cases h
  |array m e=>
   simp only at h;obtain⟨ed,he,h⟩:=mb h;obtain⟨d,hd,h⟩:=Zr h;cases d with
   |ptr a=>
    simp only at h;obtain⟨i,off,ha,h'⟩:=Ov h;clear h;subst ha;obtain⟨f,cs,bE,hle,h⟩:=B1 h';obtain⟨l,u,h,h1,h2,h3,h4,hr⟩:=Mj (o:=o) (D:=D) h;refine bm.val aI _ h fun ψ Q A w p=>?_
    have hv:=p.val my hd;generalize hy:A.eval y=v at hv;cases hv with
    |ptr _ _ cb gq=>
     have hh:=(p.at (PE ⟨m,e,ht⟩ i) bE gq).1;have iV:=hr ψ Q A w p J7 J6 false m (aA _) (fun _=>rfl);refine⟨_,w,?_,.refl w,Zv5 (cap:=m) (base:=⟨cb.b,cb.o+off,none⟩) gq (fun _=>⟨rfl,by omega⟩) h1 h2 (aA _) (fun hl=>h3 (by cases lo<;>first|rfl|cases hl))⟩;simp only[execOp,ho,hy,Instr.sliceAt,Sem.run_bind,Zi w ht,Result.andThen_ok,Z3,Option.map_none,iV,ZN w he,Sem.run_pure]
   |_=>cases h
  |_=>cases h
theorem Zu6 {t:TypeId} {y:Operand} (ho:o.op= .range t y) (aI: ∀h,W h->D h) {K:Env->M β} {r:Out β×St} (h:OB C E o K t y s=some r):bm C md pr ms o D W E s K r:=by
 unfold OB at h;cases ht:C.P.underlying t with
 |none=>rw[ht]at h;cases h
 |some td=>
  rw[ht]at h;cases td with
  |string=>
   simp only at h;obtain⟨d,hd,h⟩:=Zr h;cases pA:o.dst with
   |none=>rw[pA]at h;cases d<;>cases h
   |some u=>
    rw[pA]at h;cases d with
    |str l=>
     simp only at h;refine bm.Uo (by unfold Spec;rw[ho];trivial) aI u pA _ _ (.inr ⟨l,0,rfl,rfl⟩) h fun ψ Q a w p=>?_
     have hv:=p.val (x:=y) (by simp[Op.operands,ho]) hd;generalize hy:a.eval y=v at hv;cases hv with
     |str x=>
      refine⟨w.alloc (.stringIter x 0),⟨w.heap.size,0,0⟩,?_,.alloc w _,aA _,by simp,rfl,x,heap_alloc_new w _,rfl⟩;simp[execOp,ho,hy,Instr.range,Zi w ht]
    |_=>cases h
  |_=>cases h
theorem ZyG (s:ByteArray) (i:Nat):s.get! i=s.data.toList.getD i 0:=by
 show s.data[i]! =_;rw[Array.getElem!_eq_getD,bM,lT];simp;rfl
theorem vH (s:ByteArray) (i:Nat):dec s.data.toList i=Utf8.decode s i:=by
 have hl:s.data.toList.length=s.size:=by rw[js];rfl
 unfold dec Utf8.decode;simp only[ZyG,hl]
theorem Znl {P:Program} {w:World} {b:Nat} {x:ByteArray} {p:Nat} (h:w.heap[b]? =some (.stringIter x p)):(getObj b).run P w= .ok (.stringIter x p) w:=by
 simp only[getObj,Sem.run,h]
theorem ZvJ {P:Program} {w:World} {b:Nat} {x y:ByteArray} {p q:Nat} (h:w.heap[b]? =some (.stringIter x p)):(setObj b (.stringIter y q)).run P w= .ok () (jn w b (.stringIter y q)):=by
 simp only[setObj,Sem.run,h];rfl
theorem Zws {t:Nat} (ho:o.op= .next (.tmp t) true) (aI: ∀h,W h->D h) (hW: ∀v,(E.get t).bT=some v->W (.inr v)) {K:Env->M β} {r:Out β×St} (h:OZ E o K ms t s=some r):bm C md pr ms o D W E s K r:=by
 unfold OZ at h;cases hl:E.get t with
 |it v l pos=>
  rw[hl]at h;cases pA:o.dst with
  |none=>rw[pA]at h;cases h
  |some d=>
   rw[pA]at h;simp only at h;obtain⟨hc,h⟩:=BY h;rw[kJ]at hc;have bp:d≠t:=zg hc.1;have AU:has ms t=true:=by simpa using hc.2
   have PV:=hW v (by rw[hl];rfl);have at_: ∀ψ Q a w,aw C o D E s ψ Q a w->∃cb x,ψ (.inr v)=some cb/\a.eval (.tmp t)= .pointer (some ⟨cb.b,0,none⟩)/\Q (.inr v) (.iter l pos)/\w.heap[cb.b]? =some (.stringIter x pos)/\x.data.toList=l:=by
    intro ψ Q a w p;have:=p.args t (by simp[Op.operands,ho]);rw[hl]at this;obtain⟨cb,e1,e2⟩:=this;have hq:=p.gT (.inr v) (.iter l pos) cb (aI _ PV) (.inr ⟨t,l,pos,hl,rfl⟩) e1;obtain⟨x,h1,h2⟩:=p.dA.holds _ cb _ e1 hq;exact⟨cb,x,e1,e2,hq,h1,h2⟩
   cases hb:Nat.blt pos l.length with
   |false=>
    rw[hb]at h;simp only[cond_false]at h;refine bm.pure aI (.mL [.bool false]) rfl (fun _ _ _ _ e=>nomatch e) (by rw[pA];exact h) fun ψ Q a w p=>?_
    obtain⟨cb,x,e1,e2,hq,h1,h2⟩:=at_ ψ Q a w p;have hlen: ¬pos<x.size:=by
     have:x.data.toList.length=x.size:=by rw[js];rfl
     rw[<-this,h2];intro aj;have:Nat.blt pos l.length=true:=by rw[lB];exact aj
     rw[hb]at this;cases this
    refine⟨.tuple #[.bool false],w,?_,.refl w,_,rfl,.cons _ _ _ _ (.bool _) .nil⟩;simp only[execOp,ho,e2,Instr.next,Sem.run_bind,Znl h1,Result.andThen_ok,hlen,iO,Sem.run_pure]
   |true=>
    rw[hb]at h;simp only[cond_true]at h;have aj:pos<l.length:=by rw[lB]at hb;exact hb
    have get: ∀k,((E.put t (.it v l (pos+qM l pos))).put d (.mL [.bool true,.int .i64 pos,.int .i32 (xK l pos)])).get k=
      if d=k then .mL [.bool true,.int .i64 pos,.int .i32 (xK l pos)]else if t=k then .it v l (pos+qM l pos)else E.get k:=fun k=>by rw[Env.oo,Env.oo]
    have uniq:gL E->∀q,(E.get q).bT=some v->q=t:=fun hE q hq=>hE.uniq q t v hq (by rw[hl];rfl)
    refine .inl ⟨_,_,h,⟨aA _,aA _,fun hE=>⟨?_,?_,?_,?_⟩,?_,(fun k d' _ h'=>by
     rw[get]at h';split at h'
     ·cases h'
     ·split at h'
      ·cases h'
      ·exact h'),?_,?_,?_,?_,fun _ _ _=>rfl,.inr (by unfold Spec;rw[ho];trivial),.inl rfl⟩,?_⟩
    ·intro k v' h'
     rw[get]at h';split at h'
     ·cases h'
     ·split at h'
      ·cases h';exact hE.lt t v (by rw[hl];rfl)
      ·exact hE.lt k v' h'
    ·intro k a b c h'
     rw[get]at h';split at h'
     ·cases h'
     ·split at h'
      ·cases h'
      ·exact hE.pl k a b c h'
    ·intro k a b c h'
     rw[get]at h';split at h'
     ·cases h'
     ·split at h'
      ·cases h'
      ·exact hE.len k a b c h'
    ·intro k k' v' h' sQ
     rw[get]at h' sQ;split at h'
     ·cases h'
     ·split at sQ
      ·cases sQ
      ·split at h'<;>split at sQ
       ·omega
       ·cases h';rename_i e1 e2 _;rw[<-e2];exact(uniq hE k' sQ).symm
       ·cases sQ;rename_i e2;rw[<-e2];exact uniq hE k h'
       ·exact hE.uniq k k' v' h' sQ
    ·intro k hk hm
     rw[get,ay (fun e=>hk (by rw[pA,e])),ay];rintro rfl;rw[AU]at hm;cases hm
    ·intro k hk C' ψ x hr
     rw[get,ay (fun e=>hk (by rw[pA,e]))];split
     ·rename_i e;subst e;rw[hl]at hr;exact hr
     ·exact hr
    ·intro h' ab c
     cases h' with
     |inl i=>exact .inr (.inr c)
     |inr k=>
      rcases c with⟨q,n',cs',hq,cR⟩|⟨q,l',p,hq,cR⟩
      ·rw[get]at hq
       split at hq
       ·cases hq
       ·split at hq
        ·cases hq
        ·exact .inr (.inr (.inl ⟨q,n',cs',hq,cR⟩))
      ·rw[get]at hq
       split at hq
       ·cases hq
       ·split at hq
        ·cases hq;exact .inl PV
        ·exact .inr (.inr (.inr ⟨q,l',p,hq,cR⟩))
    ·intro k v' n' cs' h'
     rw[get]at h';split at h'
     ·cases h'
     ·split at h'
      ·cases h'
      ·exact .inl ⟨cs',h'⟩
    ·intro k v' l' p h'
     rw[get]at h';split at h'
     ·cases h'
     ·split at h'
      ·rename_i e;cases h';subst e;exact .inl ⟨pos,hl⟩
      ·exact .inl ⟨p,h'⟩
    ·intro ψ Q a w next QQ p room hn
     obtain⟨cb,x,e1,e2,hq,h1,h2⟩:=at_ ψ Q a w p;have hx:x.data.toList.length=x.size:=by rw[js];rfl
     have ox:pos<x.size:=by rw[<-hx,h2];exact aj
     have cu:=vo.jn w cb.b (.stringIter x (pos+qM l pos));have hr:(execOp a.eval o).run C.P w= .ok (.value (.tuple #[.bool true,.int .i64 pos,.int .i32 (xK l pos)])) (jn w cb.b (.stringIter x (pos+qM l pos))):=by
      have hd:=vH x pos;rw[h2]at hd;simp only[execOp,ho,e2,Instr.next,Sem.run_bind,Znl h1,Result.andThen_ok,ox,iA,<-hd,ZvJ h1,Sem.run_pure];rfl
     unfold Oper.wp;rw[hr];refine hn ψ (tx Q (.inr v) (.iter l (pos+qM l pos))) _ _ ⟨dP.set p.dA e1 hq rfl cu.other ⟨x,HZ (qX h1) _,h2⟩,Ext.set e1 hq rfl cu.other cu.size cu.tape cu.os cu.output,
      fun _ _ e=> .inl e,fun h' ab c cr hw e'=>?_,fun h' ab c e' q nw _=>?_⟩ (fun d' jh=>?_)
     ·have dU:(h'= .inr v/\ab= .iter l (pos+qM l pos))\/(h'≠ .inr v/\CR E s h' ab):=by
       cases h' with
       |inl i=>exact .inr ⟨by simp,cr⟩
       |inr k=>
        rcases cr with⟨q,n',cs',hq,cR⟩|⟨q,l',p',hq,cR⟩
        ·rw[get]at hq
         split at hq
         ·cases hq
         ·split at hq
          ·cases hq
          ·rename_i Dq
           refine .inr ⟨fun e=>?_,.inl ⟨q,n',cs',hq,cR⟩⟩;cases e;exact Dq (uniq p.fe q (by rw[hq];rfl)).symm
        ·rw[get]at hq
         split at hq
         ·cases hq
         ·split at hq
          ·cases hq;exact .inl ⟨rfl,cR⟩
          ·rename_i Dq
           refine .inr ⟨fun e=>?_,.inr ⟨q,l',p',hq,cR⟩⟩;cases e;exact Dq (uniq p.fe q (by rw[hq];rfl)).symm
      rcases dU with⟨rfl,rfl⟩|⟨QH,cr⟩
      ·exact .inl ⟨rfl,rfl⟩
      ·refine .inr ⟨QH,?_⟩
       rcases hw with hw|⟨n1,n2⟩
       ·exact p.gT h' ab c (aI h' hw) cr e'
       ·exact absurd (cr.nh p.fe) n1
     ·exact .inr ⟨fun e=>nw (by rw[e];exact PV),q⟩
     ·rw[pA]at jh;cases jh
      rw[get,aF rfl];exact⟨_,rfl,.cons _ _ _ _ (.bool _) (.cons _ _ _ _ (.int _ _) (.cons _ _ _ _ (.int _ _) .nil))⟩
 |_=>rw[hl]at h;cases h
theorem ZlK {P:Program} {e:TypeId} {d:TypeDesc} (h1:P.underlying P.rt.typeAssertionError=some (.pointer e)) (_h2:P.underlying e=some d) (i c:Option TypeId) (a:TypeId) (m:String) (w:World):
  ∃t v o,(runtimePanic (.typeAssertion i c a m):Sem Value).run P w= .halt (.panic (.iface t v)) (w.alloc o):=by
 simp only[runtimePanic,Sem.run_bind,run_program,Result.andThen_ok,elemOf,Zi w h1,Sem.run_pure,M6,run_goPanic];exact⟨_,_,_,rfl⟩
theorem si.more (cD: ∀ψ Q a w,aw C o D E s ψ Q a w->∃t v w',(execOp a.eval o).run C.P w= .halt (.panic (.iface t v)) w'/\fq w w') (hD: ∀i,D (.inl i)):si C o D E s s:=by
 refine⟨aA _,fun ψ Q a w next QQ p _ hn=>?_⟩;obtain⟨t,v,w',hr,hm⟩:=cD ψ Q a w p;unfold Oper.wp;rw[hr];exact hn ψ Q _ w' ⟨t,v,rfl⟩ (p.dA.more p.eV hm) (Ext.more hm) (fun _ _ e=> .inl e) fun i ab cb h e=>p.gT (.inl i) ab cb (hD i) h e
theorem NI {r:Out β×St} (h:DZ md s=some r):md.x=0/\r=(.cy,s):=by
 unfold DZ at h;obtain⟨h1,h⟩:=Zp h;refine⟨bY h1,?_⟩;simp only[M.cy,cQ]at h;exact h.symm
theorem ZsS {t xt:TypeId} {y:Operand} (hc:lE C) (ho:o.op= .typeAssert y xt t false) (aI: ∀h,W h->D h) (hD: ∀i,D (.inl i)) {K:Env->M β} {r:Out β×St} (h:Od C E o K md t y s=some r):bm C md pr ms o D W E s K r:=by
 unfold Od at h;cases ht:C.P.underlying t with
 |none=>rw[ht]at h;cases h
 |some td=>
  have yj: ∀m,td≠ .interface m:=by rintro m rfl;rw[ht]at h;cases h
  have h':dR C E y (fun d=>Go.Gv.D.qa (DZ md) d (C.ty t) fun d=>ug (jZ C.P t) d (dt E o K)) s=some r:=by rw[ht]at h;cases td<;>first|exact h|exact absurd rfl (yj _)
  obtain⟨d,hd,h'⟩:=Zr h';have SX: ∀(a:Act) (w:World),(a.eval y= .nilIface\/∃t' v,a.eval y= .iface t' v/\t'≠t)->∃t v w',(execOp a.eval o).run C.P w= .halt (.panic (.iface t v)) w'/\fq w w':=by
   intro a w hy;obtain⟨e,ed,e1,e2⟩:=hc.tae;rcases hy with hy|⟨t',v,hy,bp⟩
   ·obtain⟨tv,v,ob,hv⟩:=ZlK e1 e2 (some xt) none t "" w
    refine⟨tv,v,_,?_,.alloc w ob⟩;simp only[execOp,ho,hy,Instr.typeAssert,Sem.run_bind,Zi w ht,Result.andThen_ok];cases td<;>first|(simp only[nQ,iO,hv,Result.andThen_halt];done)|exact absurd rfl (yj _)
   ·obtain⟨tv,v,ob,hv⟩:=ZlK e1 e2 (some xt) (some t') t "" w
    refine⟨tv,v,_,?_,.alloc w ob⟩;simp only[execOp,ho,hy,Instr.typeAssert,Sem.run_bind,Zi w ht,Result.andThen_ok];cases td<;>first|(simp only[ay bp,nQ,iO,hv,Result.andThen_halt];done)|exact absurd rfl (yj _)
  cases d with
  |iface t' d=>
   simp only[Go.Gv.D.qa]at h';cases hb:Nat.beq t' (C.ty t)with
   |true=>
    rw[hb]at h';simp only[cond_true]at h';obtain⟨d',h',hr,_⟩:=Ii h';refine bm.val aI _ h' fun ψ Q a w p=>?_
    have hv:=p.val (x:=y) (by simp[Op.operands,ho]) hd;generalize hy:a.eval y=v at hv;cases hv with
    |iface t0 _ v hv=>
     have:=hc.ty _ _ (bY hb);subst this;refine⟨v,w,?_,.refl w,hr C ψ v hv⟩;simp only[execOp,ho,hy,Instr.typeAssert,Sem.run_bind,Zi w ht,Result.andThen_ok];cases td<;>first|(simp;done)|exact absurd rfl (yj _)
   |false=>
    rw[hb]at h';obtain⟨hx,rfl⟩:=NI h';refine .inr ⟨hx,s,rfl,si.more (fun ψ Q a w p=>SX a w (.inr ?_)) hD⟩;have hv:=p.val (x:=y) (by simp[Op.operands,ho]) hd;generalize hy:a.eval y=v at hv;cases hv with
    |iface t0 _ v hv=>exact⟨t0,v,rfl,fun e=>by subst e;rw[tG]at hb;cases hb⟩
  |nilIface=>
   obtain⟨hx,rfl⟩:=NI h';refine .inr ⟨hx,s,rfl,si.more (fun ψ Q a w p=>SX a w (.inl ?_)) hD⟩;have hv:=p.val (x:=y) (by simp[Op.operands,ho]) hd;generalize hy:a.eval y=v at hv;cases hv;rfl
  |_=>cases h'
theorem Zvn {y:Operand} (ho:o.op= .panic y) (hD: ∀i,D (.inl i)) {K:Env->M β} {r:Out β×St} (h:Om C E md y s=some r):bm C md pr ms o D W E s K r:=by
 unfold Om at h;obtain⟨d,hd,h⟩:=Zr h;cases d with
 |iface t d=>
  obtain⟨hx,rfl⟩:=NI h;refine .inr ⟨hx,s,rfl,si.more (fun ψ Q a w p=>?_) hD⟩;have hv:=p.val (x:=y) (by simp[Op.operands,ho]) hd;generalize hy:a.eval y=v at hv;cases hv with
  |iface t0 _ v hv=>exact⟨t0,v,w,by simp only[execOp,ho,hy,Instr.panic,Sem.run_bind,run_goPanic,Result.andThen_halt],.refl w⟩
 |_=>cases h
end
end Go.Gv
namespace Go.Gv
variable {β:Type}
section
variable {C:aM} {o:Oper} {D W:cx->Prop} {E:Env} {s:St} {md:Md} {pr ms:List Nat}
theorem Zv1: ∀(l:List Value) (k off:Nat) (c:Array Value),(l.zipIdx k).foldl (fun cs (x:Value×Nat)=>cs.setIfInBounds (off+x.2) x.1) c=mG c (off+k) l
 |[],_,_,_=>rfl
 |v::l,k,off,c=>by
  simp only[List.zipIdx_cons,y8,mG];rw[Zv1 l (k+1) off];rfl
theorem Zyd (place:Nat->Option (Nat×Nat)) (cells:Array Value) (i:Nat) (v:Value) (rest:List (Nat×Value)) {off size:Nat} (hp:place i=some (off,size)) (h1:v.cells.size=size) (h2:off+size<=cells.size):
  Instr.fill place cells ((i,v)::rest)=Instr.fill place (mG cells off v.cells.toList) rest:=by
 subst h1;have e:v.cells.zipIdx.foldl (fun cs (x:Value×Nat)=>cs.setIfInBounds (off+x.2) x.1) cells=mG cells off v.cells.toList:=by
  rw[<-Array.foldl_toList,Array.toList_zipIdx];exact Zv1 v.cells.toList 0 off cells
 have hn: ¬(off+v.cells.size>cells.size):=by omega
 simp only[Instr.fill,hp,ne_eq,not_true_eq_false,decide_false,pQ,hn,nQ,iO];exact congrArg (fun x=>Instr.fill place x rest) e
theorem aR.rJ {ψ:Ps} {ds:List DV} {vs:Array Value} (h:aR C ψ ds vs.toList):ds.length=vs.size:=by have:=h.len;simpa using this
theorem Zz7 {ψ:Ps} {cs ds:List DV} {vs:Array Value} {us:List Value} {off:Nat} (h:aR C ψ cs vs.toList) (h':aR C ψ ds us) (hl:off+ds.length<=cs.length):aR C ψ (bN cs off ds) (mG vs off us).toList:=by
 have e1:=h.rJ;have e2:=h'.len;refine aR.of _ _ (by simp[BW,e1]) fun j d v hd hv=>?_
 rw[Cn cs off ds j hl]at hd;rw[gA,IA _ _ _ _ (by omega)]at hv;split at hd
 ·rw[aF (by omega)]at hv
  obtain⟨v',cM,hr⟩:=h'.get hd;rw[hv]at cM;cases cM;exact hr
 ·rw[ay (by omega)]at hv
  obtain⟨v',cM,hr⟩:=h.get hd;rw[gA,hv]at cM;cases cM;exact hr
theorem NJ {N:Nat} {place:Nat->Option (Nat×Nat)} {r:Out β×St} : ∀ {l:List (Nat×Operand)} {cs:List DV} {K:List DV->M β},wL E C N place l cs K s=some r->cs.length=N->
  ∃cs',K cs' s=some r/\cs'.length=N/\∀ψ Q a w,aw C o D E s ψ Q a w->(∀x∈l,x.2∈o.op.operands)->∀vs:Array Value,aR C ψ cs vs.toList->cs.all one=true->
   ∃gz,Instr.fill place vs (l.map fun x=>(x.1,a.eval x.2))=some gz/\aR C ψ cs' gz.toList/\cs'.all one=true
 |[],cs,K,h,hl=>⟨cs,h,hl,fun ψ Q a w _ _ vs hr h1=>⟨vs,rfl,hr,h1⟩⟩
 |(i,x)::l,cs,K,h,hl=>by
  simp only[wL]at h;cases hp:place i with
  |none=>rw[hp]at h;cases h
  |some on=>
   obtain⟨off,n⟩:=on;rw[hp]at h;simp only at h;obtain⟨hb,h⟩:=Zp h;have hb:=lC hb;obtain⟨d,hd,h⟩:=Zr h;have go: ∀ds,wL E C N place l (bN cs off ds) K s=some r->ds.length=n->(∀(ψ:Ps) v,VR C ψ d v->aR C ψ ds v.cells.toList/\ds.all one=true)->
     ∃cs',K cs' s=some r/\cs'.length=N/\∀ψ Q a w,aw C o D E s ψ Q a w->(∀y∈(i,x)::l,y.2∈o.op.operands)->∀vs:Array Value,aR C ψ cs vs.toList->cs.all one=true->
      ∃gz,Instr.fill place vs (((i,x)::l).map fun x=>(x.1,a.eval x.2))=some gz/\aR C ψ cs' gz.toList/\cs'.all one=true:=by
    intro ds h jV hr;obtain⟨cs',h,hl',Dy⟩:=NJ h (by rw[BW];exact hl);refine⟨cs',h,hl',fun ψ Q a w p hm vs hv h1=>?_⟩;obtain⟨h3,h4⟩:=hr ψ _ (p.val (hm (i,x) (by simp)) hd);have bC:(a.eval x).cells.size=n:=by rw[<-jV,h3.rJ]
    have uJ:=hv.rJ;obtain⟨gz,e1,e2,e3⟩:=Dy ψ Q a w p (fun y hy=>hm y (by simp[hy])) _ (Zz7 (off:=off) hv h3 (by omega)) (Zv2 h1 h4 (by omega));refine⟨gz,?_,e2,e3⟩;rw[gK,Zyd place vs i _ _ hp bC (by omega)];exact e1
   have plain:(∀cs,d≠ .agg cs)->(bif Nat.beq n 1 then M.ak (one d) (wL E C N place l (bN cs off [d]) K)else fail) s=some r->_:=fun hna h=>by
    obtain⟨h1,h⟩:=Zp h;obtain⟨h2,h⟩:=ZM h;exact go [d] h (by simpa using (bY h1).symm) (fun ψ v hv=>by rw[hv.SO h2];exact⟨.cons _ _ _ _ hv .nil,by simp[h2]⟩)
   cases d with
   |agg ds=>
    simp only at h;obtain⟨h1,h⟩:=NZ h;rw[ON hl h1 hb]at h;exact go ds h h1 (fun ψ v hv=>by cases hv with|agg _ vs a b=>exact⟨a,b⟩)
   |_=>exact plain (by simp) h
theorem Zll {P:Program} : ∀(fs:List Field),(fs.all fun f=>(P.info? f.type).isSome)=true->fs.mapM (fun f=>(P.info? f.type).map fun i=>(f.offset,i.size))=some (fs.map fun f=>(f.offset,P.cellsOf f.type))
 |[],_=>rfl
 |f::fs,h=>by
  simp only[rZ,aH]at h;obtain⟨i,hi⟩:=Option.isSome_iff_exists.1 h.1;simp[List.mapM_cons,hi,Zll fs h.2,Program.cellsOf]
theorem ZuZ {t:TypeId} {ps:Array (Nat×Operand)} (ho:o.op= .build t ps) (aI: ∀h,W h->D h) {K:Env->M β} {r:Out β×St} (h:Oo C E o K t ps s=some r):bm C md pr ms o D W E s K r:=by
 unfold Oo at h;cases hz:kf C.P t with
 |none=>rw[hz]at h;cases h
 |some z=>
  rw[hz]at h;simp only at h;obtain⟨jX,h⟩:=Zp h;obtain⟨cs',h,hl,hr⟩:=NJ (o:=o) (D:=D) h rfl;refine bm.val aI _ h fun ψ Q a w p=>?_
  unfold kf at hz;cases hi:C.P.info? t with
  |none=>rw[hi]at hz;cases hz
  |some it=>
   rw[hi]at hz;simp only at hz;cases qI:it.zero with
   |none=>rw[qI]at hz;cases hz
   |some zv=>
    rw[qI]at hz;obtain⟨iu,gv⟩:=zD (C:=C) (ψ:=ψ) hz;obtain⟨gz,e1,e2,e3⟩:=hr ψ Q a w p (fun x hx=>by simp only[Op.operands,ho,List.mem_toArray,dE];exact⟨x,hx,rfl⟩) _ iu gv;refine⟨.agg gz,w,?_,.refl w,.agg _ _ e2 e3⟩;have hb:C.P.built t (ps.map fun(i,x)=>(i,a.eval x)).toList=some gz:=by
     have qg:Instr.fill (OA C.P t) zv.cells (ps.map fun(i,x)=>(i,a.eval x)).toList=some gz:=by rw[Array.toList_map];exact e1
     unfold Program.built Zuh at*
     unfold OA at qg;cases hu:C.P.underlying t with
     |none=>rw[hu]at jX;cases jX
     |some td=>
      rw[hu]at jX qg;rw[hi];cases td with
      |struct fs=>
       simp only at jX⊢;rw[qI,Zll _ jX];simp only at qg⊢;rw[<-qg];congr 1;funext i;rw[Bq,gB,gA];cases fs[i]? <;>rfl
      |array m e=>
       simp only at jX⊢;obtain⟨ie,sZ⟩:=Option.isSome_iff_exists.1 jX;rw[qI,sZ];simp only at qg⊢;rw[<-qg];simp[Program.cellsOf,sZ]
      |_=>cases jX
    simp only[execOp,ho,Sem.run_bind,run_build w t _ _ hb,Result.andThen_ok,Sem.run_pure]
theorem zC (n:Nat) (z:List DV):(fj n z).length=n*z.length:=by
 induction n with
 |zero=>simp[fj]
 |succ n ih=>
  have:fj (n+1) z=z++fj n z:=by simp[fj,sb]
  rw[this,aZ,ih,zi,qT]
theorem z7 {n:Nat} {z:List DV} (h:z.all one=true):(fj n z).all one=true:=by
 induction n with
 |zero=>rfl
 |succ n ih=>
  have:fj (n+1) z=z++fj n z:=by simp[fj,sb]
  rw[this,qR,h,ih];rfl
theorem ZzU (n:Nat) (z:List DV) (j:Nat) (h:j<n*z.length):(fj n z)[j]? =z[j%z.length]? :=by
 induction n generalizing j with
 |zero=>simp at h
 |succ n ih=>
  have e:fj (n+1) z=z++fj n z:=by simp[fj,sb]
  rw[e];by_cases hj:j<z.length
  ·rw[iN hj,Bx hj]
  ·rw[gN (by omega),ih (j-z.length) (by rw[zi]at h;omega)]
   rw[show j%z.length=(j-z.length)%z.length from by rw[Nat.mod_eq_sub_mod (by omega)]]
theorem Oe {ψ:Ps} {z:List DV} {zv:Array Value} (h:aR C ψ z zv.toList) (n m:Nat) (hm:n*z.length<=m):aR C ψ (fj n z) ((madeCells zv m).toList.take (fj n z).length):=by
 have hl:=h.rJ;refine aR.of _ _ (by simp[size_madeCells,zC];omega) fun j d v hd hv=>?_
 rw[zC]at hv;rw[mR]at hv;split at hv
 ·rename_i hj
  rw[ZzU n z j hj]at hd;obtain⟨v',cM,hr⟩:=h.get hd;rw[gA]at hv cM;unfold madeCells at hv;rw[Array.getElem?_map,Array.getElem?_range]at hv;rw[aF (by omega)]at hv;simp only[lD,cQ]at hv;rw[<-hl]at hv;rw[<-hv,getElem!_def,cM];exact hr
 ·cases hv
theorem ZnI {t:TypeId} {len:Nat} {ps:Array (Nat×Operand)} (ho:o.op= .buildSlice t len ps) (aI: ∀h,W h->D h) {K:Env->M β} {r:Out β×St} (h:Mo C E o K t len ps s=some r):bm C md pr ms o D W E s K r:=by
 unfold Mo at h;unfold sC at h;cases ht:C.P.underlying t with
 |none=>rw[ht]at h;cases h
 |some td=>
  rw[ht]at h;cases td with
  |slice e=>
   simp only at h;cases hz:kf C.P e with
   |none=>rw[hz]at h;cases h
   |some z=>
    rw[hz]at h;simp only at h;obtain⟨hb,h⟩:=Zp h;rw[aH]at hb;have jg:=lC hb.1;have eH:=bY hb.2;obtain⟨cs',h,hl,hr⟩:=NJ (o:=o) (D:=D) h (by rw[zC,eH]);refine bm.DT (by unfold oS;rw[ho];trivial) aI (.slice (C.P.cellsOf e) (some (s.length,0)) len) cs' h fun ψ Q a w p=>?_
    obtain⟨zv,Rk,yy,iu⟩:=M1 (P:=C.P) w hz;have yy:=yy C ψ;have qH:=yy.rJ;have sZ: ∃ie,C.P.info? e=some ie/\ie.size=C.P.cellsOf e:=by
     unfold kf at hz;cases hi:C.P.info? e with
     |none=>rw[hi]at hz;cases hz
     |some ie=>exact⟨ie,rfl,by simp[Program.cellsOf,hi]⟩
    obtain⟨ie,sZ,TB⟩:=sZ;have Dl:=Oe yy len (len*C.P.cellsOf e) (by rw[eH];exact aA _);rw[zC,eH,Cc (by simp[size_madeCells])]at Dl;obtain⟨gz,e1,e2,e3⟩:=hr ψ Q a w p (fun x hx=>by simp only[Op.operands,ho,List.mem_toArray,dE];exact⟨x,hx,rfl⟩) _ Dl (z7 iu);have uJ:=e2.rJ;rw[hl]at uJ;refine⟨.slice (some ⟨w.heap.size,0,none⟩) len len,w.alloc (.cells gz e),⟨w.heap.size,0,gz.size⟩,?_,.alloc w _,aA _,by simp,zH (by rw[Cc (by simp[hl,uJ])];exact e2) e3,fun ψ' _ rI=>?_⟩
    ·have hn: ¬(len*C.P.cellsOf e>2^24):=by omega
     by_cases h0:len*C.P.cellsOf e=0
     ·have e0:madeCells zv.cells (len*C.P.cellsOf e)= #[]:=by rw[h0];simp[madeCells,Array.range_zero']
      rw[e0]at e1;simp only[execOp,ho,Instr.buildSlice,Sem.run_bind,Zi w ht,Result.andThen_ok,sizeOf,typeInfo,run_program,sZ,Sem.run_pure,TB,h0,iA,Array.range_zero',Array.map_empty];simp[e1,newRow]
     ·simp only[execOp,ho,Instr.buildSlice,Sem.run_bind,Zi w ht,Result.andThen_ok,sizeOf,typeInfo,run_program,sZ,Sem.run_pure,TB,hn,iO,h0,Rk]
      unfold madeCells at e1;simp[e1,newRow]
    ·have:=VR.slice (C:=C) (ψ:=ψ') (C.P.cellsOf e) s.length 0 len ⟨w.heap.size,0,gz.size⟩ ⟨w.heap.size,0,none⟩ len rI (aA _) (fun _=>⟨rfl,by simp only;omega⟩)
     exact this
  |_=>cases h
theorem ZoV {t:TypeId} {l c:Operand} (ho:o.op= .makeSlice t l c) (aI: ∀h,W h->D h) {K:Env->M β} {r:Out β×St} (h:MJ C E o K t l c s=some r):bm C md pr ms o D W E s K r:=by
 unfold MJ sC at h;cases ht:C.P.underlying t with
 |none=>rw[ht]at h;cases h
 |some td=>
  rw[ht]at h;cases td with
  |slice e=>
   simp only at h;cases hz:kf C.P e with
   |none=>rw[hz]at h;cases h
   |some z=>
    rw[hz]at h;simp only at h;obtain⟨eH,h⟩:=Zp h;have eH:=bY eH;obtain⟨k1,n,hn,h⟩:=zL h;obtain⟨k2,m,hm,h⟩:=zL h;obtain⟨hb,h⟩:=ZM h;simp only[aH,jL]at hb;obtain⟨⟨h0,h1⟩,h2⟩:=hb;refine bm.DT (by unfold oS;rw[ho];trivial) aI (.slice (C.P.cellsOf e) (some (s.length,0)) n.toNat) (fj n.toNat z) h fun ψ Q a w p=>?_
    unfold kf at hz;cases hi:C.P.info? e with
    |none=>rw[hi]at hz;cases hz
    |some ie=>
     rw[hi]at hz;simp only at hz;cases qI:ie.zero with
     |none=>rw[qI]at hz;cases hz
     |some zv=>
      rw[qI]at hz;obtain⟨iu,gv⟩:=zD (C:=C) (ψ:=ψ) hz;have bC:ie.size=C.P.cellsOf e:=by simp[Program.cellsOf,hi]
      have Vy:(ie.bytes:Int)*m<=281474976710656:=by
       unfold wM Iq at h2;rw[hi]at h2;simp only at h2;have h3:m.toNat<=70368744177664/ie.bytes:=by omega
       rcases xd ie.bytes with hz|hp
       ·rw[hz];simp
       ·have:=(Nat.le_div_iff_mul_le hp).1 h3
        have e:m=(m.toNat:Int):=by omega
        rw[e,<-Int.natCast_mul,qU];omega
      have Ja:m<=9223372036854775807:=by
       unfold wM at h2;have:=Bw 70368744177664 (Iq C.P e);omega
      have hr:=run_make (P:=C.P) w t e ie zv ht hi qI k1 k2 n m h0 h1 Vy Ja;have hle:n.toNat*C.P.cellsOf e<=m.toNat*ie.size:=by rw[bC];exact tH _ (by omega)
      refine⟨.slice (some ⟨w.heap.size,0,none⟩) n.toNat m.toNat,w.alloc (.cells (madeCells zv.cells (m.toNat*ie.size)) e),⟨w.heap.size,0,(madeCells zv.cells (m.toNat*ie.size)).size⟩,?_,.alloc w _,aA _,by simp,zH (Oe iu n.toNat (m.toNat*ie.size) (by rw[eH];exact hle)) (z7 gv),fun ψ' _ rI=>?_⟩
      ·have e1:=p.int (x:=l) (by simp[Op.operands,ho]) hn
       have e2:=p.int (x:=c) (by simp[Op.operands,ho]) hm;simp only[execOp,ho,e1,e2,Sem.run_bind,hr,Result.andThen_ok,Sem.run_pure]
      ·exact VR.slice _ _ 0 _ _ _ _ rI (by omega) (fun _=>⟨rfl,by simp only[size_madeCells,bC];omega⟩)
  |_=>cases h
theorem Zyk {q:Call} {b:Builtin} (hq:q.callee= .builtin b) (hb:b= .len) (ho:o.op= .call q) (aI: ∀h,W h->D h) {K:Env->M β} {r:Out β×St} (h:RB C E o K q.argTypes q.args s=some r):bm C md pr ms o D W E s K r:=by
 subst hb;unfold RB at h;cases ha:q.args.toList with
 |nil=>rw[ha]at h;cases h
 |cons y rest=>
  cases rest with
  |cons _ _=>rw[ha]at h;cases h
  |nil=>
   cases ht:q.argTypes[0]? with
   |none=>rw[ha,ht]at h;cases h
   |some t=>
    rw[ha,ht]at h;simp only at h;have iG:q.args= #[y]:=by rw[<-Array.toArray_toList (xs:=q.args),ha]
    have mem:y∈o.op.operands:=by rw[ho];simp[Op.operands,Call.operands,hq,iG]
    have run: ∀(a:Act) (w:World) v,(Builtin.len_ q.argTypes o.type #[a.eval y]).run C.P w= .ok v w->(execOp a.eval o).run C.P w= .ok (.value v) w:=by
     intro a w v hv;simp[execOp,ho,resolve,hq,invoke,builtin,iG,hv]
    cases hu:C.P.underlying t with
    |none=>rw[hu]at h;cases h
    |some td=>
     rw[hu]at h;cases td with
     |array m e=>
      refine bm.val aI _ h fun ψ Q a w p=>⟨.int .i64 m,w,run a w _ ?_,.refl w,.int _ _⟩
      simp[Builtin.len_,ht,Zi w hu,goInt]
     |string=>
      simp only at h;obtain⟨d,hd,h⟩:=Zr h;cases d with
      |str l=>
       refine bm.val aI _ h fun ψ Q a w p=>?_
       have hv:=p.val mem hd;generalize hy:a.eval y=v at hv;cases hv with
       |str x=>
        refine⟨.int .i64 x.size,w,run a w _ ?_,.refl w,?_⟩
        ·simp[Builtin.len_,ht,Zi w hu,goInt,hy]
        ·have:x.data.toList.length=x.size:=by rw[js];rfl
         rw[this];exact .int _ _
      |_=>cases h
     |slice e=>
      simp only at h;obtain⟨d,hd,h⟩:=Zr h;cases d with
      |slice z a' n=>
       refine bm.val aI _ h fun ψ Q a w p=>?_
       have hv:=p.val mem hd;generalize hy:a.eval y=v at hv;cases hv with
       |oK=>exact⟨.int .i64 (0:Nat),w,run a w _ (by simp[Builtin.len_,ht,Zi w hu,goInt,hy]),.refl w,.int _ _⟩
       |slice _ i off _ cb base cap=>exact⟨.int .i64 n,w,run a w _ (by simp[Builtin.len_,ht,Zi w hu,goInt,hy]),.refl w,.int _ _⟩
      |_=>cases h
     |_=>cases h
theorem Zrw {q:Call} {b:Builtin} {mx:Bool} (hq:q.callee= .builtin b) (hb:b=if mx then .max else .min) (ho:o.op= .call q) (aI: ∀h,W h->D h) {K:Env->M β} {r:Out β×St} (h:Ka C E o K mx q.args s=some r):bm C md pr ms o D W E s K r:=by
 unfold Ka at h;cases ha:q.args.toList with
 |nil=>rw[ha]at h;cases h
 |cons y rest=>
  cases rest with
  |nil=>rw[ha]at h;cases h
  |cons z rest=>
   cases rest with
   |cons _ _=>rw[ha]at h;cases h
   |nil=>
    rw[ha]at h;simp only at h;have iG:q.args= #[y,z]:=by rw[<-Array.toArray_toList (xs:=q.args),ha]
    have my:y∈o.op.operands:=by rw[ho];simp[Op.operands,Call.operands,hq,iG]
    have mz:z∈o.op.operands:=by rw[ho];simp[Op.operands,Call.operands,hq,iG]
    obtain⟨d,hd,h⟩:=Zr h;obtain⟨e,he,h⟩:=Zr h;cases d with
    |int k n=>
     cases e with
     |int k' m=>
      simp only at h;obtain⟨hk,h⟩:=Zp h;refine bm.val aI _ h fun ψ Q a w p=>?_
      have e1:=p.int my hd;have e2:=p.int mz he;cases mx with
      |true=>
       simp only[iA]at hb;subst hb;exact⟨.int k (if n<m then m else n),w,by simp[execOp,ho,resolve,hq,invoke,builtin,iG,e1,e2,Builtin.max_,Builtin.max2],.refl w,.int _ _⟩
      |false=>
       simp only[nQ,iO]at hb;subst hb;exact⟨.int k (if m<n then m else n),w,by simp[execOp,ho,resolve,hq,invoke,builtin,iG,e1,e2,Builtin.min_,Builtin.min2],.refl w,.int _ _⟩
     |_=>cases h
    |_=>cases h
end
end Go.Gv
namespace Go.Gv
variable {β:Type}
section
variable {C:aM} {o:Oper} {D W:cx->Prop} {E:Env} {s:St} {md:Md} {pr ms:List Nat}
theorem Ol {a:Option (Nat×Nat)} {n:Nat} {K:List DV->M β} {r:Out β×St} (h:M.rd a n K s=some r):
  ∃ds,K ds s=some r/\ds.length=n/\((a=none/\n=0/\ds=[])\/∃i q f cs,a=some (i,q)/\cj s i=some (.cells f cs)/\q+n<=cs.length/\ds=(cs.drop q).take n):=by
 cases a with
 |none=>
  simp only[M.rd]at h;obtain⟨h1,h⟩:=Zp h;have:=bY h1;exact⟨[],h,this.symm,.inl ⟨rfl,this,rfl⟩⟩
 |some iq=>
  obtain⟨i,q⟩:=iq;simp only[M.rd]at h;obtain⟨f,cs,h1,h2,h⟩:=B1 h;exact⟨_,h,by simp;omega,.inr ⟨i,q,f,cs,rfl,h1,h2,rfl⟩⟩
theorem IH {ψ:Ps} {Q:Kn} {A:Act} {w:World} (p:aw C o D E s ψ Q A w) (hD: ∀i,D (.inl i)) {z sz m k n:Nat} {a:Option (Nat×Nat)} {v:Value} {ds:List DV} (hv:VR C ψ (.slice z a m) v)
  (hz:z=sz\/a=none) (hn:n=k*sz) (hk:k<=m)
  (kW:(a=none/\n=0/\ds=[])\/∃i q f cs,a=some (i,q)/\cj s i=some (.cells f cs)/\q+n<=cs.length/\ds=(cs.drop q).take n):
  ∃base cap vs,v= .slice base m cap/\(∀w',w'.heap=w.heap->(Builtin.firstCells sz k v).run C.P w'= .ok vs w')/\aR C ψ ds vs.toList/\ds.all one=true:=by
 subst hn;cases hv with
 |oK=>
  rcases kW with⟨_,_,rfl⟩|⟨i,q,f,cs,h,_⟩
  ·exact⟨none,0, #[],rfl,fun w' _=>by simp[Builtin.firstCells],.nil,rfl⟩
  ·cases h
 |slice _ i q _ cb ad cap gq nr hb=>
  rcases kW with⟨h,_⟩|⟨i',q',f,cs,h,h1,h2,rfl⟩
  ·cases h
  ·cases h
   have hz:z=sz:=by rcases hz with h|h;exact h;cases h
   subst hz;have hh:=p.at (hD i) h1 gq;by_cases h0:k*z=0
   ·refine⟨some ad,cap, #[],rfl,fun w' _=>?_,?_,?_⟩
    ·simp[Builtin.firstCells,h0,loadCells,loadCellsFrom]
    ·rw[h0];simp only[Bv];exact .nil
    ·rw[h0];simp
   ·have hc:0<cap:=by
     rcases xd k with h|h
     ·subst h;simp at h0
     ·omega
    obtain⟨e1,e2⟩:=hb hc;obtain⟨vs,e3,e4,e5,e6⟩:=Zmf (P:=C.P) hh h2;exact⟨some ad,cap,vs,rfl,fun w' hw=>by simp only[Builtin.firstCells,e1,e3 w' hw],e5,e6⟩
theorem Zpj {ψ:Ps} : ∀ {ds:List DV} {l:List UInt8} {vs:List Value},oX ds=some l->aR C ψ ds vs->∃ns:List Int,vs=ns.map (Value.int .u8)/\ns.map (fun n=>UInt8.ofNat n.toNat)=l
 |[],l,vs,h,hv=>by
  simp only[oX,cQ]at h;cases hv;exact⟨[],rfl,h⟩
 |d::ds,l,vs,h,hv=>by
  cases hv with
  |cons _ v _ vs h1 h2=>
   cases h1 with
   |int k n=>
    cases k with
    |u8=>
     simp only[oX,Option.map_eq_some_iff]at h;obtain⟨l',h3,h4⟩:=h;obtain⟨ns,e1,e2⟩:=Zpj h3 h2;exact⟨n::ns,by simp[e1],by simp[e2,h4]⟩
    |_=>simp[oX]at h
   |_=>simp[oX]at h
theorem ZyD {cs:List DV} {K:List UInt8->M β} {r:Out β×St} (h:Go.Gv.D.cO cs K s=some r): ∃l,oX cs=some l/\K l s=some r:=by
 unfold Go.Gv.D.cO at h;cases he:oX cs with
 |none=>rw[he]at h;cases h
 |some l=>rw[he]at h;exact⟨l,rfl,h⟩
end
section
variable {C:aM} {o:Oper} {D W:cx->Prop} {E:Env} {s:St} {md:Md} {pr ms:List Nat}
theorem Zlo {ψ:Ps} (l:List UInt8):aR C ψ (ZH l) (l.map fun b=>Value.int .u8 b.toNat):=by
 induction l with
 |nil=>exact .nil
 |cons b l ih=>exact .cons _ _ _ _ (.int _ _) ih
theorem LV (l:List UInt8):(ZH l).all one=true:=by simp[ZH,one]
@[simp] theorem U8 (l : List UInt8) : (ZH l).length = l.length := by simp [ZH]
def Is (w:World) (c:Array Value) (e:TypeId):World:= { w with heap:=w.heap.push (.cells c e (c.size,c.size+1)) }
theorem ZrG (w:World) (c:Array Value) (e:TypeId):fq w (Is w c e):=fq.alloc w (.cells c e (c.size,c.size+1))
theorem Zvq {P:Program} (w:World) (c:Array Value) (e:TypeId):(markStringish ⟨w.heap.size,0,none⟩).run P (w.alloc (.cells c e))= .ok () (Is w c e):=by
 have h1:(w.alloc (.cells c e)).shape? w.heap.size=some (e,c.size):=by simp only[World.shape?,heap_alloc_new]
 unfold markStringish;simp only[Sem.run_bind,run_shape,h1,Result.andThen_ok,run_freeze];congr 1;unfold World.freeze Is World.alloc;simp only[Nat.one_ne_zero,iO];congr 1;apply Eo;intro k;rw[Array.getElem?_modify,Array.getElem?_push,Array.getElem?_push];by_cases hk:k=w.heap.size
 ·subst hk;simp
 ·simp only[hk,iO]
  rw[ay (fun e=>hk e.symm)]
theorem Zv7 {P:Program} {e:TypeId} (h:J1 P e=true):P.underlying e=some (.int .u8):=by
 unfold J1 at h;cases he:P.underlying e with
 |none=>rw[he]at h;cases h
 |some ed=>
  rw[he]at h;cases ed with
  |int k=>cases k<;>first|rfl|cases h
  |_=>cases h
theorem ZrP {t u:TypeId} {y:Operand} (ho:o.op= .convert t u y) (aI: ∀h,W h->D h) (hD: ∀i,D (.inl i)) {K:Env->M β} {r:Out β×St} (h:NC C E o K t u y s=some r):bm C md pr ms o D W E s K r:=by
 have my:y∈o.op.operands:=by rw[ho];simp[Op.operands]
 unfold NC at h;obtain⟨td,ht,h⟩:=mb h;have run: ∀(a:Act) (w w':World) v,(convert t u (a.eval y)).run C.P w= .ok v w'->(execOp a.eval o).run C.P w= .ok (.value v) w':=by
  intro a w w' v hv;simp[execOp,ho,hv]
 cases hu:C.P.underlying u with
 |none=>rw[hu]at h;cases h
 |some ud=>
  rw[hu]at h;cases ud with
  |int k=>
   simp only at h;obtain⟨d,hd,h⟩:=Zr h;cases d with
   |int k' n=>
    refine bm.val aI _ h fun ψ Q a w p=>⟨.int k (k.wrap n),w,run a w w _ ?_,.refl w,.int _ _⟩
    rw[p.int my hd];simp[convert,Zi w ht,Zi w hu,Conv.intToInt]
   |_=>cases h
  |string=>
   simp only at h;rw[ht]at h;cases td with
   |int k0=>
    simp only at h;obtain⟨d,hd,h⟩:=Zr h;cases d with
    |int k' n=>
     refine bm.val aI _ h fun ψ Q a w p=>⟨.string (Utf8.encode n),w,run a w w _ ?_,.refl w,.str _⟩
     rw[p.int my hd];simp[convert,Zi w ht,Zi w hu,Conv.intToString]
    |_=>cases h
   |string=>
    simp only at h;obtain⟨d,hd,h⟩:=Zr h;cases d with
    |str l=>
     refine bm.val aI _ h fun ψ Q a w p=>?_
     have hv:=p.val my hd;generalize hy:a.eval y=v at hv;cases hv with
     |str x=>exact⟨.string x,w,run a w w _ (by rw[hy];simp[convert,Zi w ht,Zi w hu]),.refl w,.str _⟩
    |_=>cases h
   |slice e=>
    simp only at h;obtain⟨h8,h⟩:=Zp h;have he:=Zv7 h8;obtain⟨d,hd,h⟩:=Zr h;cases d with
    |slice z a' n=>
     simp only at h;obtain⟨hz,h⟩:=Zp h;obtain⟨ds,h,_,kW⟩:=Ol h;obtain⟨l,hl,h⟩:=ZyD h;refine bm.val aI _ h fun ψ Q A w p=>?_
     have Be:z=1\/a'=none:=by
      rw[jt]at hz;rcases hz with h|h
      ·exact .inl (bY h)
      ·exact .inr (by simpa using h)
     obtain⟨base,cap,vs,hv,cD,hr,_⟩:=IH p hD (p.val my hd) Be (k:=n) (by simp) (aA _) kW;obtain⟨ns,e1,e2⟩:=Zpj hl hr;cases base with
     |none=>
      have:ds=[]:=by
       have cM:=p.val my hd;rw[hv]at cM;cases cM;rcases kW with⟨_,_,h⟩|⟨_,_,_,_,h,_⟩
       ·exact h
       ·cases h
      subst this;simp only[oX,cQ]at hl;subst hl;refine⟨.string .empty,w,run A w w _ ?_,.refl w,.str .empty⟩;rw[hv];simp[convert,Zi w ht,Zi w hu,Zi w he,Conv.bytesToString]
     |some b=>
      have WB:(loadCells b n).run C.P w= .ok (ns.map (Value.int .u8)).toArray w:=by
       have cD:=cD w rfl;rw[hv]at cD;simp only[Builtin.firstCells,dx]at cD;rw[cD,<-e1]
      refine⟨.string (ns.foldl (fun r n=>r.push (UInt8.ofNat n.toNat)) ByteArray.empty),w,run A w w _ ?_,.refl w,?_⟩
      ·rw[hv,run_convert_bytes_string w t u e (some b) n cap ht he hu]
       exact run_bytesToString w b n cap ns WB
      ·have:(ns.foldl (fun r n=>r.push (UInt8.ofNat n.toNat)) ByteArray.empty).data.toList=l:=by
        rw[foldl_push_bytes,<-e2];simp
       rw[<-this];exact .str _
    |_=>cases h
   |_=>cases h
  |slice e=>
   simp only at h;obtain⟨h8,h⟩:=Zp h;have he:=Zv7 h8;obtain⟨d,hd,h⟩:=Zr h;cases d with
   |str l=>
    simp only at h;refine bm.DT (by unfold oS;rw[ho];trivial) aI _ _ h fun ψ Q a w p=>?_
    have hv:=p.val my hd;generalize hy:a.eval y=v at hv;cases hv with
    |str x=>
     have hx:x.data.toList.length=x.size:=by rw[js];rfl
     let cap:=(Question.appendCap x.size 0 e).cut (w.tape w.drawn (.appendCap x.size 0 e))
     have nr:x.size<=cap:=by simp only[cap,Question.cut];omega
     let c:Array Value:=(x.data.map fun b=>Value.int .u8 b.toNat)++Array.replicate (cap-x.size) (.int .u8 0)
     have hc:c.size=cap:=by
      have:x.data.size=x.size:=rfl;simp[c,this];omega
     refine⟨.slice (some ⟨w.heap.size,0,none⟩) x.size cap,Is w.drew c e,⟨w.heap.size,0,c.size⟩,run a w _ _ ?_,(fq.drew w).trans (ZrG w.drew c e),aA _,(by show w.heap.size<(w.heap.push _).size;simp),?_,fun ψ' _ rI=>?_⟩
     ·rw[hy]
      have hm:=Zvq (P:=C.P) w.drew c e;simp only[convert,Sem.run_bind,Zi w ht,Zi w hu,Result.andThen_ok,Zi w he];have hq:(Question.appendCap x.size 0 e).forced=false:=rfl;simp only[Conv.stringToBytes,Sem.run_bind,run_choose,hq,nQ,iO,Result.andThen_ok,newRow,run_newObj,Sem.run_pure];exact(congrArg (fun r=>Result.andThen r fun _ w'=>Result.ok (Value.slice (some ⟨w.heap.size,0,none⟩) x.size cap) w') hm)
     ·refine Zre (ty:=e) (fr:=(c.size,c.size+1)) (by show(w.heap.push _)[w.heap.size]? =_;simp) (.inr (aA _)) ?_ (LV _)
      have:c.toList.take (ZH x.data.toList).length=x.data.toList.map fun b=>Value.int .u8 b.toNat:=by
       rw[U8];simp only[c,Array.toList_append,Array.toList_map];rw[ze (by simp),cF (by simp)]
      rw[this];exact Zlo _
     ·rw[hx]
      have:=VR.slice (C:=C) (ψ:=ψ') 1 s.length 0 x.size ⟨w.heap.size,0,c.size⟩ ⟨w.heap.size,0,none⟩ cap rI nr (fun _=>⟨rfl,by simp only[hc];omega⟩);exact this
   |_=>cases h
  |_=>cases h
end
end Go.Gv
namespace Go.Gv
variable {β:Type}
section
variable {C:aM} {o:Oper} {D W:cx->Prop} {E:Env} {s:St} {md:Md} {pr ms:List Nat}
theorem Zzh {sz:Nat} {a:Option (Nat×Nat)} {len:Nat} {ds:List DV} {m lim:Nat} {K:Option (Nat×Nat)->M β} {r:Out β×St} (h:M.app sz a len ds m lim K s=some r):
  (m=0/\K a s=some r)\/(0<m/\len+m<=lim/\((a=none/\len=0/\K (some (s.length,0)) (s++[some ⟨false,ds⟩])=some r)\/
   ∃i q cs,a=some (i,q)/\s.gy i=some cs/\q+len*sz<=cs.length/\K (some (s.length,0)) (s.set i none++[some ⟨false,(cs.drop q).take (len*sz)++ds⟩])=some r)):=by
 unfold M.app at h;cases h0:Nat.beq m 0 with
 |true=>rw[h0]at h;exact .inl ⟨bY h0,h⟩
 |false=>
  rw[h0]at h;simp only[cond_false]at h;have hm:=zg h0;cases h1:Nat.ble (len+m) lim with
  |false=>rw[h1]at h;cases h
  |true=>
   rw[h1]at h;simp only[cond_true]at h;refine .inr ⟨by omega,lC h1,?_⟩;cases a with
   |none=>
    simp only at h;cases h2:Nat.beq len 0 with
    |false=>rw[h2]at h;cases h
    |true=>rw[h2]at h;exact .inl ⟨rfl,bY h2,h⟩
   |some iq=>
    obtain⟨i,q⟩:=iq;simp only at h;cases h3:s.gy i with
    |none=>rw[h3]at h;cases h
    |some cs=>
     rw[h3]at h;simp only at h;cases h4:Nat.ble (q+len*sz) cs.length with
     |false=>rw[h4]at h;cases h
     |true=>rw[h4]at h;exact .inr ⟨i,q,cs,rfl,h3,lC h4,h⟩
def xj (P:Program) (ts:Array TypeId):Prop:=match ts[1]? with|none=>True|some t=>∃d,P.underlying t=some d/\∀k,d≠ .int k
theorem Zwe {ts:Array TypeId} {K:M β} {r:Out β×St} (h:Rx C.P ts K s=some r):xj C.P ts/\K s=some r:=by
 unfold Rx at h;unfold xj;cases ht:ts[1]? with
 |none=>rw[ht]at h;exact⟨trivial,h⟩
 |some t=>
  rw[ht]at h;simp only at h⊢;cases hu:C.P.underlying t with
  |none=>rw[hu]at h;cases h
  |some d=>
   rw[hu]at h;cases d with
   |int k=>cases h
   |_=>exact⟨⟨_,rfl,by simp⟩,h⟩
theorem Zkl {P:Program} {ts:Array TypeId} {t e:TypeId} {ed:TypeDesc} (h0:ts[0]? =some t) (ht:P.underlying t=some (.slice e)) (he:P.underlying e=some ed) (hn:xj P ts) (ty:TypeId)
  (base:Option Addr) (n m cap:Nat) (X:Value) (w w':World) (new:Array Value) (hX:(Builtin.lenOf X).run P w= .ok m w) (hc:n+m<=cap)
  (hf:(Builtin.firstCells (P.cellsOf e) m X).run P w= .ok new w) (hs: ∀a,base=some a->(storeCells (a.add (n*P.cellsOf e)) new.toList).run P w= .ok () w') (hb:base=none->w'=w):
  (Builtin.append_ ts ty #[.slice base n cap,X]).run P w= .ok (.slice base (n+m) cap) w':=by
 have key:(P.underlying t=some (.slice e))->(do
   let n' <-Builtin.lenOf X
   let DS:=n+n'
   if DS<=cap then
    let new <-Builtin.firstCells (P.cellsOf e) n' X
    if let some a:=base then storeCells (a.add (n*P.cellsOf e)) new.toList
    pure (.slice base DS cap)
   else stuck "" :Sem Value).run P w= .ok (.slice base (n+m) cap) w':=by
  intro _;simp only[Sem.run_bind,hX,Result.andThen_ok,hc,iA,hf];cases base with
  |none=>have:=hb rfl;subst this;simp
  |some a=>simp[hs a rfl]
 have key:=key ht;simp only[Sem.run_bind,hX,Result.andThen_ok,hc,iA,hf]at key;unfold Builtin.append_;unfold xj at hn;cases h1:ts[1]? with
 |none=>
  simp only[h0,Bq,gJ,lU,Sem.run_bind,Zi w ht,Result.andThen_ok,ZN w he,Sem.run_pure,nQ,iO,hX,bu,iA,hc,hf];exact key
 |some t1=>
  rw[h1]at hn;obtain⟨d,hd,cT⟩:=hn;simp only[h0,Bq,gJ,lU,Sem.run_bind,Zi w ht,Result.andThen_ok,ZN w he,Zi w hd];cases d<;>first|exact absurd rfl (cT _)|(simp only[Sem.run_pure,Result.andThen_ok,Sem.run_bind,nQ,iO,hX,bu,iA,hc,hf];exact key)
theorem ZqQ (z:Array Value) (n:Nat):(Builtin.zeroCells z n).size=n*z.size:=by simp[Builtin.zeroCells]
theorem ZoA {P:Program} {ts:Array TypeId} {t e:TypeId} {ed:TypeDesc} {ie:TypeInfo} {z:Value} (h0:ts[0]? =some t) (ht:P.underlying t=some (.slice e)) (he:P.underlying e=some ed) (sZ:P.info? e=some ie)
  (tj:ie.zero=some z) (hn:xj P ts) (ty:TypeId) (base:Option Addr) (n m cap:Nat) (X:Value) (w:World) (dU new:Array Value) (hX: ∀w,(Builtin.lenOf X).run P w= .ok m w) (hc:cap<n+m)
  (hb:(n+m)*ie.bytes<=70368744177664) (Ja:n+m<=70368744177664) (ho:(Builtin.firstCells (P.cellsOf e) n (.slice base n cap)).run P w.drew= .ok dU w.drew) (hf:(Builtin.firstCells (P.cellsOf e) m X).run P w.drew= .ok new w.drew):
  ∃k,n+m<=k/\(Builtin.append_ ts ty #[.slice base n cap,X]).run P w= .ok (.slice (some ⟨w.heap.size,0,none⟩) (n+m) k) (w.drew.alloc (.cells (dU++new++Builtin.zeroCells z.cells (k-(n+m))) e)):=by
 refine⟨(Question.appendCap (n+m) cap e).cut (w.tape w.drawn (.appendCap (n+m) cap e)),by simp only[Question.cut];omega,?_⟩;have hq:(Question.appendCap (n+m) cap e).forced=false:=rfl;have g1: ¬(n+m<=cap):=by omega
 have g2: ¬(Builtin.nextslicecap (n+m) cap*ie.bytes>2^48):=by
  have:=growslice_fits (bytes:=ie.bytes) hc (by omega);omega
 have g3: ¬(((n+m:Nat):Int)>IntKind.i64.max):=by
  have:IntKind.i64.max=9223372036854775807:=by decide
  rw[this];omega
 have g4: ¬(((n+m:Nat):Int)>IntKind.i64.max/\(False\/ie.bytes=0)):=fun h=>g3 h.1
 have TA: ∀w,(typeInfo e).run P w= .ok ie w:=fun w=>by simp[typeInfo,sZ]
 have Be: ∀w,(zeroValue e).run P w= .ok z w:=fun w=>by simp[zeroValue,typeInfo,sZ,tj]
 unfold Builtin.append_;unfold xj at hn;cases h1:ts[1]? with
 |none=>
  simp only[h0,Bq,gJ,lU,Sem.run_bind,Zi w ht,Result.andThen_ok,ZN w he,Sem.run_pure,nQ,iO,hX,bu,iA,g1,TA,g4,
   g2,run_choose,hq,run_askRoom,World.drew_eq,ho,hf,Be,newRow,run_newObj,World.alloc_eq]
  rfl
 |some t1=>
  rw[h1]at hn;obtain⟨d,hd,cT⟩:=hn;simp only[h0,Bq,gJ,lU,Sem.run_bind,Zi w ht,Result.andThen_ok,ZN w he,Zi w hd];cases d<;>first|exact absurd rfl (cT _)|(simp only[Sem.run_pure,Result.andThen_ok,Sem.run_bind,nQ,iO,hX,bu,iA,g1,TA,g4,g2,run_choose,hq,run_askRoom,World.drew_eq,ho,hf,Be,newRow,run_newObj,World.alloc_eq];rfl)
theorem Ext.XN {ψ ψ':Ps} {Q Q1 Q':Kn} {w w':World} (h:Ext ψ Q1 w ψ' Q' w') (hq: ∀k ab,Q1 k ab->Q k ab):Ext ψ Q w ψ' Q' w':=
 have so: ∀b,pX ψ Q1 b->pX ψ Q b:=fun _b ⟨k,cb,ab,e,q,hs,hb⟩=>⟨k,cb,ab,e,hq _ _ q,hs,hb⟩
 { h with
  oH:=fun k cb e=>(h.oH k cb e).imp id fun⟨x,y⟩=>⟨x.imp id (so _),y⟩
  gx:=fun b hb hn=>h.gx b hb fun e=>hn (so b e)
  fk:=fun b e=>(h.fk b e).imp (so b) id
  live:=fun k cb x e q=>let ⟨y,hy⟩:=h.live k cb x e q;⟨y,hq _ _ hy⟩ }
theorem Zsz {s:St} {i:Nat} :cj (s.set i none) i=none:=by
 unfold cj;by_cases h:i<s.length
 ·rw[fV h]
 ·rw[dL (by rw[ju];exact Nat.le_of_not_lt h)]
theorem ZvV {q:Call} (hq:q.callee= .builtin .append) (ho:o.op= .call q) {y z:Operand} (ha:q.args= #[y,z]) {t e:TypeId} {ed:TypeDesc} {zv:List DV} (h0:q.argTypes[0]? =some t)
  (ht:C.P.underlying t=some (.slice e)) (he:C.P.underlying e=some ed) (hz:kf C.P e=some zv) (qH:zv.length=C.P.cellsOf e) (hn:xj C.P q.argTypes) (aI: ∀h,W h->D h) (hD: ∀i,D (.inl i))
  {z0 n m:Nat} {a:Option (Nat×Nat)} {ds:List DV} (hW: ∀i q,a=some (i,q)->W (.inl i)) (hd:E.src C y= .v (.slice z0 a n)) (tj:z0=C.P.cellsOf e\/a=none) (jV:ds.length=m*C.P.cellsOf e)
  (hX: ∀ψ Q A w,aw C o D E s ψ Q A w->(∀w,(Builtin.lenOf (A.eval z)).run C.P w= .ok m w)/\∃vs,aR C ψ ds vs.toList/\ds.all one=true/\∀w',w'.heap=w.heap->(Builtin.firstCells (C.P.cellsOf e) m (A.eval z)).run C.P w'= .ok vs w')
  {K:Env->M β} {r:Out β×St} (h:M.app (C.P.cellsOf e) a n ds m (wM C.P e) (fun p=>dt E o K (.slice (C.P.cellsOf e) p (n+m))) s=some r):bm C md pr ms o D W E s K r:=by
 have my:y∈o.op.operands:=by rw[ho];simp[Op.operands,Call.operands,hq,ha]
 have hex: ∀(A:Act) (w w':World) v,(Builtin.append_ q.argTypes o.type #[A.eval y,A.eval z]).run C.P w= .ok v w'->(execOp A.eval o).run C.P w= .ok (.value v) w':=by
  intro A w w' v hv;simp[execOp,ho,resolve,hq,invoke,builtin,ha,hv]
 have W9: ∀vs:Array Value,∀ψ,m=0->aR C ψ ds vs.toList->vs.toList=[]:=by
  intro vs ψ hm hr;have:=hr.len;rw[jV,hm,nV]at this;exact r8.1 this.symm
 have grow: ∀ψ Q A w,aw C o D E s ψ Q A w->∀base cap dU,A.eval y= .slice base n cap->cap<n+m->n+m<=wM C.P e->(Builtin.firstCells (C.P.cellsOf e) n (.slice base n cap)).run C.P w.drew= .ok dU w.drew->
   ∃k new rest,n+m<=k/\aR C ψ ds new.toList/\ds.all one=true/\rest.size=(k-(n+m))*C.P.cellsOf e/\
    (execOp A.eval o).run C.P w= .ok (.value (.slice (some ⟨w.heap.size,0,none⟩) (n+m) k)) (w.drew.alloc (.cells (dU++new++rest) e)):=by
  intro ψ Q A w p base cap dU hy hc wy hold;obtain⟨hl,new,h1,h2,h3⟩:=hX ψ Q A w p;unfold kf at hz;cases hi:C.P.info? e with
  |none=>rw[hi]at hz;cases hz
  |some ie=>
   rw[hi]at hz;simp only at hz;cases qI:ie.zero with
   |none=>rw[qI]at hz;cases hz
   |some YC=>
    rw[qI]at hz;have JY:=(zD (C:=C) (ψ:=ψ) hz).1.rJ;have hb:(n+m)*ie.bytes<=70368744177664:=by
     unfold wM Iq at wy;rw[hi]at wy;simp only at wy;rcases xd ie.bytes with hz|hp
     ·rw[hz];simp
     ·exact(Nat.le_div_iff_mul_le hp).1 wy
    have Ja:n+m<=70368744177664:=eZ wy (Bw _ _);obtain⟨k,hk,cD⟩:=ZoA (P:=C.P) h0 ht he hi qI hn o.type base n m cap (A.eval z) w dU new hl hc hb Ja hold (h3 _ rfl);exact⟨k,new,_,hk,h1,h2,by rw[ZqQ,<-JY,qH],hex A w _ _ (by rw[hy];exact cD)⟩
 rcases Zzh h with⟨hm,h⟩|⟨hm,wy,h⟩
 ·
  refine bm.val aI _ h fun ψ Q A w p=>?_
  obtain⟨hl,new,h1,h2,h3⟩:=hX ψ Q A w p;have fC:=W9 new ψ hm h1;subst hm;have hv:=p.val my hd;generalize hy:A.eval y=v at hv;have uv: ∀base cap,v= .slice base n cap->n<=cap->(execOp A.eval o).run C.P w= .ok (.value (.slice base n cap)) w:=by
   intro base cap hv hc;refine hex A w w _ ?_;rw[hy,hv];have:=Zkl (P:=C.P) h0 ht he hn o.type base n 0 cap (A.eval z) w w new (hl w) hc (h3 w rfl) (fun a _=>by rw[fC];rfl) (fun _=>rfl);exact this
  cases hv with
  |oK=>exact⟨_,w,uv none 0 rfl (aA _),.refl w,.oK _⟩
  |slice _ i q0 _ cb ad cap gq nr hb=>
   have:z0=C.P.cellsOf e:=by rcases tj with h|h;exact h;cases h
   subst this;exact⟨_,w,uv _ cap rfl nr,.refl w,.slice _ _ _ _ cb ad cap gq nr hb⟩
 ·rcases h with⟨rfl,rfl,h⟩|⟨i,q0,cs,rfl,hi,hle,h⟩
  ·
   refine bm.DT (by unfold oS;rw[ho];simp only[hq]) aI _ ds h fun ψ Q A w p=>?_
   have hv:=p.val my hd;generalize hy:A.eval y=v at hv;cases hv;obtain⟨k,new,rest,hk,h1,h2,h3,cD⟩:=grow ψ Q A w p none 0 #[] hy (by omega) wy (by simp[Builtin.firstCells]);have bC:=h1.rJ;refine⟨_,_,⟨w.heap.size,0,(#[]++new++rest).size⟩,cD,(fq.drew w).trans (fq.alloc w.drew _),aA _,by simp,?_,fun ψ' _ rI=>?_⟩
   ·refine zH (w:=w.drew) ?_ h2
    have:(#[]++new++rest).toList.take ds.length=new.toList:=by
     rw[bC];simp
    rw[this];exact h1
   ·refine VR.slice _ _ 0 _ _ _ _ rI hk (fun _=>⟨rfl,?_⟩)
    have:(#[]++new++rest).size=new.size+rest.size:=by simp
    simp only[this];rw[<-bC,jV,h3,dy,dy,<-pS];exact tH _ (by omega)
  ·
   have tj:z0=C.P.cellsOf e:=by rcases tj with h|h;exact h;cases h
   subst tj;obtain⟨bE,aj⟩:=Nb hi;have cR: ∀ab,cj (s.set i none++[some ⟨false,(cs.drop q0).take (n*C.P.cellsOf e)++ds⟩]) s.length=some ab->ab= .cells false ((cs.drop q0).take (n*C.P.cellsOf e)++ds):=by
    intro ab cR;have:=Ld (s.set i none) ⟨false,(cs.drop q0).take (n*C.P.cellsOf e)++ds⟩;rw[ju]at this;rw[this]at cR;cases cR;rfl
   have hold: ∀j ab,cj (s.set i none++[some ⟨false,(cs.drop q0).take (n*C.P.cellsOf e)++ds⟩]) j=some ab->j≠s.length->j≠i/\cj s j=some ab:=by
    intro j ab hj bp;have uC:=xG hj;simp only[aZ,ju,tE]at uC;rw[Gk (by rw[ju];omega)]at hj;by_cases ij:j=i
    ·subst ij;rw[Zsz]at hj;cases hj
    ·rw[Ht (Ne.symm ij)]at hj;exact⟨ij,hj⟩
   refine .inl ⟨_,_,h,jO.put pr ms _ rfl (fun _ _ _ _ h=>by cases h) (by simp) (fun j ab hj=>by
    by_cases e:j=s.length
    ·exact .inr (.inl (by omega))
    ·exact .inr (.inr (hold j ab hj e).2)) (fun j h hj=>by
    have bp:i≠j:=fun e=>h (e▸hW i q0 rfl)
    rw[iN (by rw[ju];exact hj),ec bp]) (.inr (by unfold oS;rw[ho];simp only[hq])),?_⟩
   intro ψ Q A w next QQ p room hn';have fC:sh E s (E.dJ o.dst (.v (.slice (C.P.cellsOf e) (some (s.length,0)) (n+m)))) (s.set i none++[some ⟨false,(cs.drop q0).take (n*C.P.cellsOf e)++ds⟩]) (.inl s.length):=⟨by simp[cN],by simp[cN]⟩;have hf:=room _ fC;have hv:=p.val my hd;generalize hy:A.eval y=v at hv;cases hv with
   |slice _ _ _ _ cb ad cap gq nr hb=>
    have wD:Q (.inl i) (.cells false cs):=p.gT (.inl i) _ cb (hD i) bE gq;have hh:=p.dA.holds _ cb _ gq wD;obtain⟨hl,new,h1,h2,h3⟩:=hX ψ Q A w p;have hlen:((cs.drop q0).take (n*C.P.cellsOf e)).length=n*C.P.cellsOf e:=by simp;omega
    have V4:((cs.drop q0).take (n*C.P.cellsOf e)++ds).length=(n+m)*C.P.cellsOf e:=by rw[aZ,hlen,jV,pS]
    have bW:((cs.drop q0).take (n*C.P.cellsOf e)++ds).all one=true:=by rw[qR,Oy hh.2.1,h2];rfl
    have fin: ∀v' w' eF,(execOp A.eval o).run C.P w= .ok (.value v') w'->dP C (ly ψ (.inl s.length) eF) (DR Q (.inl i) (.inl s.length) (.cells false ((cs.drop q0).take (n*C.P.cellsOf e)++ds))) w'->
      Ext ψ Q w (ly ψ (.inl s.length) eF) (DR Q (.inl i) (.inl s.length) (.cells false ((cs.drop q0).take (n*C.P.cellsOf e)++ds))) w'->
      VR C (ly ψ (.inl s.length) eF) (.slice (C.P.cellsOf e) (some (s.length,0)) (n+m)) v'->o.wp C.P A w next QQ:=by
     intro v' w' eF cD uI qw iI;unfold Oper.wp;rw[cD];refine hn' _ _ v' w' ⟨uI,qw,fun h c e'=>?_,fun h ab c cr hw e'=>?_,fun h ab c e' q' nw _=>?_⟩ (fun d' jh=>?_)
     ·by_cases eh:h= .inl s.length
      ·subst eh;exact .inr fC
      ·rw[lH _ _ eh]at e';exact .inl e'
     ·by_cases eh:h= .inl s.length
      ·subst eh;exact .inl ⟨rfl,cR ab cr⟩
      ·rw[lH _ _ eh]at e'
       have dU:h≠ .inl i/\CR E s h ab:=by
        cases h with
        |inl j=>
         obtain⟨a1,a2⟩:=hold j ab cr (fun e=>eh (by rw[e]));exact⟨fun e=>a1 (by cases e;rfl),a2⟩
        |inr x=>
         have lJ:CR (E.dJ o.dst (.v (.slice (C.P.cellsOf e) (some (s.length,0)) (n+m)))) s (.inr x) ab:=cr;exact⟨by simp,lJ.dJ rfl⟩
       refine .inr ⟨eh,dU.1,?_⟩;rcases hw with hw|⟨n1,n2⟩
       ·exact p.gT h ab c (aI h hw) dU.2 e'
       ·exact absurd (dU.2.nh p.fe) n1
     ·cases h with
      |inl j=>exact .inr ⟨fun eq=>(by rw[eq,hf]at e';cases e'),fun eq=>nw (by rw[eq];exact hW i q0 rfl),q'⟩
      |inr x=>exact .inr ⟨by simp,by simp,q'⟩
     ·rw[Env.iE,aF jh];exact iI
    by_cases uv:n+m<=cap
    ·obtain⟨e1,e2⟩:=hb (by omega)
     have Td:(n+m)*C.P.cellsOf e<=cap*C.P.cellsOf e:=tH _ uv;rw[pS]at Td;obtain⟨w',hw,cu,C8⟩:=Znr (P:=C.P) (p:=q0+n*C.P.cellsOf e) (o':=q0) (cs':=(cs.drop q0).take (n*C.P.cellsOf e)++ds) hh h1 h2 (by rw[jV];omega) (by rw[V4,pS];omega) bW (fun j d jh=>by
      by_cases hj:j<n*C.P.cellsOf e
      ·rw[iN (by omega),mR,aF hj,nR]at jh
       exact .inr ⟨by omega,jh⟩
      ·rw[gN (by omega),hlen]at jh
       have uC:j-n*C.P.cellsOf e<ds.length:=by
        rcases eJ (j-n*C.P.cellsOf e) ds.length with h'|h'
        ·exact h'
        ·rw[dL h']at jh;cases jh
       exact .inl ⟨by omega,by omega,by rw[show q0+j-(q0+n*C.P.cellsOf e)=j-n*C.P.cellsOf e by omega];exact jh⟩)
     have cD:=Zkl (P:=C.P) h0 ht he hn o.type (some ad) n m cap (A.eval z) w w' new (hl w) uv (h3 w rfl) (fun a' vY=>by
      cases vY;rw[e1,vz,lA];exact hw) (fun e=>by cases e)
     refine fin _ w' ⟨cb.b,cb.o+q0,cb.m-q0⟩ (hex A w _ _ (by rw[hy];exact cD)) (dP.move p.dA gq wD rfl hf rfl cu.other (C8.same (fun _ _ e=>rh hf _ _ e) rfl))
      (Ext.move gq wD rfl hf rfl (p.eV _ _ gq) cu.other cu.size cu.tape cu.os cu.output) ?_
     exact VR.slice _ _ 0 _ _ _ _ (mX _ _ _) uv (fun _=>⟨by rw[e1];rfl,by simp only;omega⟩)
    ·obtain⟨base,Ye,dU,CY,JL,hrr,Dw⟩:=IH p hD (p.val my hd) (.inl rfl) (k:=n) (n:=n*C.P.cellsOf e) rfl (aA _) (.inr ⟨i,q0,false,cs,rfl,bE,hle,rfl⟩)
     rw[hy]at CY;cases CY;have JL:=JL w.drew rfl;rw[hy]at JL;obtain⟨k,new,rest,hk,h1,h2,h3,cD⟩:=grow ψ Q A w p (some ad) cap dU hy (by omega) wy JL;have bC:=h1.rJ;have QZ:=hrr.rJ;rw[hlen]at QZ;have mq:fq w (w.drew.alloc (.cells (dU++new++rest) e)):=(fq.drew w).trans (fq.alloc w.drew _);refine fin _ _ ⟨w.heap.size,0,(dU++new++rest).size⟩ cD ?_ ?_ ?_
     ·refine dP.new (Q:=fun k x=>k≠ .inl i/\Q k x) (p.dA.weaken fun _ _ _ _ q=>q.2) p.eV mq hf (aA _) ?_
      refine zH (w:=w.drew) ?_ bW;have:(dU++new++rest).toList.take ((cs.drop q0).take (n*C.P.cellsOf e)++ds).length=dU.toList++new.toList:=by
       rw[aZ,hlen,bC,QZ];simp only[Array.toList_append];rw[ze (by simp),cF (by simp)]
      rw[this];exact aR.append (hrr.mono fun _ _ e=>rh hf _ _ e) (h1.mono fun _ _ e=>rh hf _ _ e)
     ·exact(Ext.new (Q:=fun k x=>k≠ .inl i/\Q k x) mq hf (aA _) (by simp)).XN fun _ _ q=>q.2
     ·refine VR.slice _ _ 0 _ _ _ _ (mX _ _ _) hk (fun _=>⟨rfl,?_⟩)
      have:(dU++new++rest).size=dU.size+new.size+rest.size:=by simp[lA]
      simp only[this];rw[<-bC,<-QZ,jV,h3,dy,<-pS,<-pS];exact tH _ (by omega)
end
end Go.Gv
namespace Go.Gv
variable {β:Type}
section
variable {C:aM} {o:Oper} {D W:cx->Prop} {E:Env} {s:St} {md:Md} {pr ms:List Nat}
theorem SL {q:Call} {y z:Operand} (h:q.args.toList=[y,z]):q.args= #[y,z]:=by rw[<-Array.toArray_toList (xs:=q.args),h]
theorem xO {x y:Nat} {a:Option (Nat×Nat)} (h:(Nat.beq x y||a.isNone)=true):x=y\/a=none:=by
 rw[jt]at h;rcases h with h|h
 ·exact .inl (bY h)
 ·exact .inr (by simpa using h)
theorem Zrx {ψ:Ps} {P:Program} (x:ByteArray) (n:Nat) (w:World):
  ∃vs,(Builtin.firstCells 1 n (.string x)).run P w= .ok vs w/\aR C ψ (ZH (x.data.toList.take n)) vs.toList:=by
 refine⟨_,rfl,?_⟩;have:((x.extract 0 n).data.map fun b=>Value.int .u8 b.toNat).toList=(x.data.toList.take n).map fun b=>Value.int .u8 b.toNat:=by
  rw[Array.toList_map,ByteArray.data_extract,Array.toList_extract,Kx];simp
 rw[this];exact Zlo _
theorem Ztn {q:Call} (hq:q.callee= .builtin .append) (ho:o.op= .call q) (aI: ∀h,W h->D h) (hD: ∀i,D (.inl i)) (hW: ∀y z i p n,q.args.toList.head?=some y->E.src C y= .v (.slice z (some (i,p)) n)->W (.inl i)) {K:Env->M β} {r:Out β×St} (h:N2 C E o K q.argTypes q.args s=some r):bm C md pr ms o D W E s K r:=by
 unfold N2 at h;generalize ha:q.args.toList=l at h;generalize h0:q.argTypes[0]? =t0 at h;split at h
 ·rename_i y z t
  unfold sC at h;cases ht:C.P.underlying t with
  |none=>rw[ht]at h;cases h
  |some td=>
   rw[ht]at h;cases td with
   |slice e=>
    simp only at h;obtain⟨ed,he,h⟩:=mb h;obtain⟨hn,h⟩:=Zwe h;cases hz:kf C.P e with
    |none=>rw[hz]at h;cases h
    |some zv=>
     rw[hz]at h;simp only at h;obtain⟨qH,h⟩:=BY h;have qH:zv.length=C.P.cellsOf e:=bY (by simpa using qH);obtain⟨a,sU,h⟩:=Zr h;obtain⟨b,pz,h⟩:=Zr h;have iG:=SL ha;have mz:z∈o.op.operands:=by rw[ho];simp[Op.operands,Call.operands,hq,iG]
     cases a with
     |slice w1 p1 n=>
      cases b with
      |slice w2 p2 m=>
       simp only at h;obtain⟨hw,h⟩:=Zp h;rw[aH]at hw;obtain⟨ds,h,jV,kW⟩:=Ol h;refine ZvV hq ho iG h0 ht he hz qH hn aI hD (fun i q0 e=>hW y _ i q0 _ (by rw[ha];rfl) (by rw[sU,e])) sU (xO hw.1) jV (fun ψ Q A w p=>?_) h;obtain⟨base,cap,vs,e1,e2,e3,e4⟩:=IH p hD (p.val mz pz) (xO hw.2) (k:=m) rfl (aA _) kW;exact⟨fun w=>by rw[e1];rfl,vs,e3,e4,e2⟩
      |str l=>
       simp only at h;obtain⟨hw,h⟩:=Zp h;rw[aH]at hw;have bC:=bY hw.2;rw[<-bC]at h;refine ZvV hq ho iG h0 ht he hz qH hn aI hD (fun i q0 e=>hW y _ i q0 _ (by rw[ha];rfl) (by rw[sU,e])) sU (by rw[bC];exact xO hw.1) (by rw[bC];simp) (fun ψ Q A w p=>?_) h;have hv:=p.val mz pz;generalize A.eval z=v at hv;cases hv with
       |str x=>
        have hx:x.data.toList.length=x.size:=by rw[js];rfl
        obtain⟨vs,e1,e2⟩:=Zrx (C:=C) (ψ:=ψ) (P:=C.P) x x.size w;rw[<-hx,cF (aA _)]at e2;refine⟨fun w=>by rw[hx];rfl,vs,e2,LV _,fun w' pI=>?_⟩;rw[bC,hx];cases e1;rfl
      |_=>cases h
     |_=>cases b<;>cases h
   |_=>cases h
 ·cases h
theorem Zv3 (cs:List DV) (p:Nat):bN cs p []=cs:=by
 induction cs generalizing p with
 |nil=>cases p<;>rfl
 |cons c cs ih=>cases p with
  |zero=>rfl
  |succ p=>simp[bN,ih]
theorem ZvM {p:Option (Nat×Nat)} {ds:List DV} {K:M β} {r:Out β×St} (h:M.wr p ds K s=some r):
  (p=none/\ds=[]/\K s=some r)\/∃i q cs,p=some (i,q)/\s.gy i=some cs/\q+ds.length<=cs.length/\K (s.set i (some ⟨false,bN cs q ds⟩))=some r:=by
 cases p with
 |none=>
  simp only[M.wr]at h;obtain⟨h1,h⟩:=Zp h;exact .inl ⟨rfl,r8.1 (bY h1),h⟩
 |some iq=>
  obtain⟨i,q⟩:=iq;simp only[M.wr]at h;obtain⟨cs,h1,h2,h3⟩:=Zpa h;exact .inr ⟨i,q,cs,rfl,h1,h2,h3⟩
theorem Zlg {ψ:Ps} {w:World} {cb:CB} {ad:Addr} {q cap n k sz:Nat} {cs ds:List DV} {vs:List Value} (hb:0<cap->ad=⟨cb.b,cb.o+q,none⟩/\q+cap*sz<=cb.m) (hc:n<=cap) (hk:k<=n)
  (h:Holds C ψ w cb (.cells false cs)) (hr:aR C ψ ds vs) (h1:ds.all one=true) (hl:ds.length=k*sz) (hle:q+ds.length<=cs.length):
  ∃w',(storeCells ad vs).run C.P w= .ok () w'/\vo w w' cb.b/\Holds C ψ w' cb (.cells false (bN cs q ds)):=by
 by_cases h0:ds.length=0
 ·have hd:=r8.1 h0
  subst hd;cases hr;exact⟨w,rfl,⟨fun _ _=>rfl,rfl,rfl,rfl,.refl _⟩,by rw[Zv3];exact h⟩
 ·have hk0:0<k:=by
   rcases xd k with h|h
   ·subst h;simp at hl;rw[hl]at h0;exact absurd rfl h0
   ·exact h
  obtain⟨e1,_⟩:=hb (by omega);rw[e1];exact H8 h hr h1 hle
theorem ZsN {P:Program} {ts:Array TypeId} {t e:TypeId} {ed:TypeDesc} (h0:ts[0]? =some t) (ht:P.underlying t=some (.slice e)) (he:P.underlying e=some ed) (ty:TypeId)
  (base:Option Addr) (n m cap:Nat) (X:Value) (w w':World) (new:Array Value) (hX:(Builtin.lenOf X).run P w= .ok m w)
  (hf:(Builtin.firstCells (P.cellsOf e) (min m n) X).run P w= .ok new w) (hs: ∀a,base=some a->(storeCells a new.toList).run P w= .ok () w') (hb:base=none->w'=w):
  (Builtin.copy_ ts ty #[.slice base n cap,X]).run P w= .ok (.int .i64 (min (m:Int) n)) w':=by
 have TJ:((Nat.min m n:Nat):Int)=min (m:Int) n:=by show((min m n:Nat):Int)=_;omega
 have ur:(Builtin.firstCells (P.cellsOf e) (Nat.min m n) X).run P w= .ok new w:=hf;unfold Builtin.copy_;simp only[h0,Bq,gJ,lU,Sem.run_bind,Zi w ht,Result.andThen_ok,ZN w he,hX,ur];cases base with
 |none=>have:=hb rfl;subst this;simp[goInt];exact TJ
 |some a=>simp[hs a rfl,goInt];exact TJ
theorem Zwj {q:Call} (hq:q.callee= .builtin .copy) (ho:o.op= .call q) (aI: ∀h,W h->D h) (hW: ∀i,W (.inl i)) {K:Env->M β} {r:Out β×St} (h:OS C E o K q.argTypes q.args s=some r):bm C md pr ms o D W E s K r:=by
 unfold OS at h;generalize ha:q.args.toList=l at h;generalize h0:q.argTypes[0]? =t0 at h;split at h
 ·rename_i y z t
  unfold sC at h;cases ht:C.P.underlying t with
  |none=>rw[ht]at h;cases h
  |some td=>
   rw[ht]at h;cases td with
   |slice e=>
    simp only at h;obtain⟨ed,he,h⟩:=mb h;obtain⟨a,sU,h⟩:=Zr h;obtain⟨b,pz,h⟩:=Zr h;have iG:=SL ha;have my:y∈o.op.operands:=by rw[ho];simp[Op.operands,Call.operands,hq,iG]
    have mz:z∈o.op.operands:=by rw[ho];simp[Op.operands,Call.operands,hq,iG]
    have hex: ∀(A:Act) (w w':World) v,(Builtin.copy_ q.argTypes o.type #[A.eval y,A.eval z]).run C.P w= .ok v w'->(execOp A.eval o).run C.P w= .ok (.value v) w':=by
     intro A w w' v hv;simp[execOp,ho,resolve,hq,invoke,builtin,iG,hv]
    cases a with
    |slice w1 p1 n=>
     have core: ∀(m:Nat) (ds:List DV),(w1=C.P.cellsOf e\/p1=none)->ds.length=min m n*C.P.cellsOf e->M.wr p1 ds (dt E o K (.int .i64 (min (m:Int) n))) s=some r->
       (∀ψ Q A w,aw C o D E s ψ Q A w->(Builtin.lenOf (A.eval z)).run C.P w= .ok m w/\∃vs,aR C ψ ds vs.toList/\ds.all one=true/\(Builtin.firstCells (C.P.cellsOf e) (min m n) (A.eval z)).run C.P w= .ok vs w)->
       bm C md pr ms o D W E s K r:=by
      intro m ds cc jV h hX;rcases ZvM h with⟨rfl,rfl,h⟩|⟨i,q0,cs,rfl,hi,hle,h'⟩
      ·refine bm.val aI _ h fun ψ Q A w p=>?_
       obtain⟨hl,vs,h1,h2,h3⟩:=hX ψ Q A w p;have hv:=p.val my sU;generalize hy:A.eval y=v at hv;cases hv;exact⟨_,w,hex A w w _ (by rw[hy];exact ZsN h0 ht he o.type none 0 m 0 (A.eval z) w w vs hl h3 (fun _ h=>by cases h) (fun _=>rfl)),.refl w,.int _ _⟩
      ·have cc:w1=C.P.cellsOf e:=by rcases cc with h|h;exact h;cases h
       subst cc;refine bm.Sf aI (hW _) (.v (.int .i64 (min (m:Int) n))) rfl (fun _ _ _ _ h=>by cases h) hi h' fun ψ Q A w p=>?_
       have hv:=p.val my sU;generalize hy:A.eval y=v at hv;cases hv with
       |slice _ _ _ _ cb ad cap gq nr hb=>
        refine⟨cb,gq,fun hh=>?_⟩;obtain⟨hl,vs,h1,h2,h3⟩:=hX ψ Q A w p;obtain⟨w',e1,e2,e3⟩:=Zlg hb nr (Nat.min_le_right m n) hh h1 h2 jV hle;exact⟨_,w',.inl (hex A w w' _ (by rw[hy];exact ZsN h0 ht he o.type (some ad) n m cap (A.eval z) w w' vs hl h3 (fun _ h=>by cases h;exact e1) (fun h=>by cases h))),e2,e3,.int _ _⟩
     cases b with
     |slice w2 p2 m=>
      simp only at h;obtain⟨hw,h⟩:=Zp h;rw[aH]at hw;obtain⟨ds,h,jV,kW⟩:=Ol h;refine core m ds (xO hw.1) jV h fun ψ Q A w p=>?_
      obtain⟨base,cap,vs,e1,e2,e3,e4⟩:=IH p (fun i=>aI _ (hW i)) (p.val mz pz) (xO hw.2) (k:=min m n) rfl (Nat.min_le_left _ _) kW;exact⟨by rw[e1];rfl,vs,e3,e4,e2 w rfl⟩
     |str l=>
      simp only at h;obtain⟨hw,h⟩:=Zp h;rw[aH]at hw;have bC:=bY hw.2;refine core l.length (ZH (l.take n)) (by rw[bC];exact xO hw.1) (by rw[bC];simp[Nat.min_comm]) h fun ψ Q A w p=>?_
      have hv:=p.val mz pz;generalize A.eval z=v at hv;cases hv with
      |str x=>
       have hx:x.data.toList.length=x.size:=by rw[js];rfl
       obtain⟨vs,e1,e2⟩:=Zrx (C:=C) (ψ:=ψ) (P:=C.P) x (min x.data.toList.length n) w;refine⟨by rw[hx];rfl,vs,?_,LV _,by rw[bC];exact e1⟩;have:x.data.toList.take (min x.data.toList.length n)=x.data.toList.take n:=by
        rw[Nat.min_comm,<-Bu,cF (aA _)]
       rw[this]at e2;exact e2
     |_=>cases h
    |_=>cases b<;>cases h
   |_=>cases h
 ·cases h
theorem ZuW {q:Call} (hq:q.callee= .builtin .clear) (ho:o.op= .call q) (aI: ∀h,W h->D h) (hW: ∀i,W (.inl i)) {K:Env->M β} {r:Out β×St} (h:OF C E o K q.argTypes q.args s=some r):bm C md pr ms o D W E s K r:=by
 unfold OF at h;generalize ha:q.args.toList=l at h;generalize h0:q.argTypes[0]? =t0 at h;split at h
 ·rename_i y t
  unfold sC at h;cases ht:C.P.underlying t with
  |none=>rw[ht]at h;cases h
  |some td=>
   rw[ht]at h;cases td with
   |slice e=>
    simp only at h;obtain⟨a,sU,h⟩:=Zr h;have iG:q.args= #[y]:=by rw[<-Array.toArray_toList (xs:=q.args),ha]
    have my:y∈o.op.operands:=by rw[ho];simp[Op.operands,Call.operands,hq,iG]
    have hex: ∀(A:Act) (w w':World),(Builtin.clear_ q.argTypes o.type #[A.eval y]).run C.P w= .ok (.tuple #[]) w'->(execOp A.eval o).run C.P w= .ok (.value (.tuple #[])) w':=by
     intro A w w' hv;simp[execOp,ho,resolve,hq,invoke,builtin,iG,hv]
    cases a with
    |slice w1 p1 n=>
     cases hz:kf C.P e with
     |none=>rw[hz]at h;cases h
     |some z=>
      rw[hz]at h;simp only at h;obtain⟨hw,h⟩:=Zp h;rw[aH]at hw;have qH:=bY hw.2;rcases ZvM h with⟨rfl,TL,h⟩|⟨i,q0,cs,rfl,hi,hle,h'⟩
      ·refine bm.pure aI (.mL []) rfl (fun _ _ _ _ h=>by cases h) h fun ψ Q A w p=>?_
       have hv:=p.val my sU;generalize hy:A.eval y=v at hv;cases hv;exact⟨.tuple #[],w,hex A w w (by rw[hy];simp[Builtin.clear_,h0,Zi w ht]),.refl w,_,rfl,.nil⟩
      ·have cc:w1=C.P.cellsOf e:=by rcases xO hw.1 with h|h;exact h;cases h
       subst cc;refine bm.Sf aI (hW _) (.mL []) rfl (fun _ _ _ _ h=>by cases h) hi h' fun ψ Q A w p=>?_
       have hv:=p.val my sU;generalize hy:A.eval y=v at hv;cases hv with
       |slice _ _ _ _ cb ad cap gq nr hb=>
        refine⟨cb,gq,fun hh=>?_⟩;obtain⟨zv,Rk,yy,iu⟩:=M1 (P:=C.P) w hz;have JY:=(yy C ψ).rJ;have Dl:=Oe (yy C ψ) n (n*zv.cells.size) (by rw[JY];exact aA _);rw[Cc (by simp[size_madeCells,zC,JY])]at Dl;obtain⟨w',e1,e2,e3⟩:=Zlg hb nr (aA n) hh Dl (z7 iu) (by rw[zC,qH]) hle;refine⟨.tuple #[],w',.inl (hex A w w' ?_),e2,e3,_,rfl,.nil⟩;rw[hy];have qg:(storeCells ad (Builtin.zeroCells zv.cells n).toList).run C.P w= .ok () w':=e1;cases n with
        |zero=>
         have:w'=w:=by
          have e4:(madeCells zv.cells (0*zv.cells.size)).toList=[]:=by simp[madeCells,Array.range_zero']
          rw[e4]at e1;cases e1;rfl
         subst this;simp[Builtin.clear_,h0,Zi _ ht]
        |succ n=>
         simp[Builtin.clear_,h0,Zi _ ht,Rk,qg]
    |_=>cases h
   |_=>cases h
 ·cases h
end
end Go.Gv
namespace Go.Gv
variable {β:Type}
def CS (s:St):Kn:=fun h ab=>∃i,h= .inl i/\cj s i=some ab
def vn (C:aM) (ψ:Ps) (ds:List DV) (v:Value):Prop:=(∃d,ds=[d]/\VR C ψ d v)\/(ds.length≠1/\∃vs,v= .tuple vs/\aR C ψ ds vs.toList)
structure gP (C:aM) (ψ:Ps) (s:St) (w:World) (ψ':Ps) (s':St) (w':World):Prop where
 dA:dP C ψ' (CS s') w'
 ext:Ext ψ (CS s) w ψ' (CS s') w'
 news: ∀h cb,ψ' h=some cb->ψ h=some cb\/∃i,h= .inl i/\s.length<=i/\i<s'.length
def tV (P:Program) (f:FuncId) (vs:Array Value) (w:World) (R:Ending->World->Prop):Prop:=
 match (callFunc f vs).run P w with
 | .ok (.enter f' as) w'=>Calls P f' as w' R
 | .ok (.value v) w'=>R (.returned v) w'
 |_=>False
def ZAD (C:aM) (g:Nat) (args:List DV) (s:St) (out:Out (List DV)×St):Prop:=
 s.length<=out.2.length/\
 ∀f,C.cov f=true->C.fn f=g->∀ψ w vs,dP C ψ (CS s) w->nW ψ w->Glob C ψ->aR C ψ args vs->(∀v,ψ (.inr v)=none)->(∀i,s.length<=i->i<out.2.length->ψ (.inl i)=none)->
  tV C.P f vs.toArray w fun
   | .returned v,w'=>∃ds,out.1= .val ds/\∃ψ',gP C ψ s w ψ' out.2 w'/\vn C ψ' ds v
   | .panicked ch,w'=>lF ch/\out.1= .cy/\∃ψ',gP C ψ s w ψ' out.2 w'
   | .outgrown,_=>False
def ZA (C:aM) (c:Zg):Prop:=∀g args s out,c g args s=some out->ZAD C g args s out
def kt (ψ:Ps):Ps
 | .inl i=>ψ (.inl i)
 | .inr _=>none
def tp (ψ fU:Ps):Ps
 | .inl i=>fU (.inl i)
 | .inr v=>ψ (.inr v)
def Kd (s':St) (Q:Kn):Kn:=fun h ab=>CS s' h ab\/(Q h ab/\∀i,h= .inl i->s'.length<=i)
section
variable {C:aM} {ψ fU:Ps} {Q:Kn} {s s':St} {w w':World}
theorem zN {h:cx} {cb:CB} (e:kt ψ h=some cb):ψ h=some cb/\∃i,h= .inl i:=by
 cases h with
 |inl i=>exact⟨e,i,rfl⟩
 |inr v=>cases e
theorem Zs5 {ds:List DV} {vs:List Value} (h:aR C ψ ds vs):aR C (kt ψ) ds vs:=h.mono (ψ:=ψ) (ψ':=kt ψ) fun _ _ e=>e
theorem Zuw (h:dP C ψ Q w) (hk: ∀i ab cb,cj s i=some ab->ψ (.inl i)=some cb->Q (.inl i) ab):dP C (kt ψ) (CS s) w:=by
 constructor
 ·intro k cb ab e q
  obtain⟨e,i,rfl⟩:=zN e;obtain⟨_,hi,q⟩:=q;cases hi;exact(h.holds _ cb ab e (hk i ab cb q e)).same (ψ:=ψ) (ψ':=kt ψ) (fun _ _ e=>e) rfl
 ·intro k cb ab k' eF bJ e q hs e' q' hn
  obtain⟨e,i,rfl⟩:=zN e;obtain⟨e',i',rfl⟩:=zN e';obtain⟨_,hi,q⟩:=q;cases hi;obtain⟨_,hi,q'⟩:=q';cases hi;exact h.ph _ cb ab _ eF bJ e (hk i ab cb q e) hs e' (hk i' bJ eF q' e') hn
theorem frame (h:dP C ψ Q w) (hb:nW ψ w) (hk: ∀i ab cb,cj s i=some ab->ψ (.inl i)=some cb->Q (.inl i) ab) (hlen:s.length<=s'.length)
  (hc:gP C (kt ψ) s w fU s' w'):dP C (tp ψ fU) (Kd s' Q) w'/\Ext ψ Q w (tp ψ fU) (Kd s' Q) w':=by
 have mono: ∀k cb,ψ k=some cb->tp ψ fU k=some cb:=by
  intro k cb e;cases k with
  |inl i=>exact hc.ext.mono (.inl i) cb e
  |inr v=>exact e
 have Kl: ∀b,pX (kt ψ) (CS s) b->∃i cb ab,ψ (.inl i)=some cb/\cj s i=some ab/\Q (.inl i) ab/\ab.fk=true/\cb.b=b:=by
  rintro b ⟨k,cb,ab,e,⟨i,rfl,q⟩,hs,hb⟩;exact⟨i,cb,ab,e,q,hk i ab cb q e,hs,hb⟩
 have Si: ∀b,pX (kt ψ) (CS s) b->pX ψ Q b:=by
  intro b hs;obtain⟨i,cb,ab,e,_,q,hs,hb⟩:=Kl b hs;exact⟨_,cb,ab,e,q,hs,hb⟩
 have Ay: ∀k cb ab,tp ψ fU k=some cb->Q k ab->(∀i,k= .inl i->s'.length<=i)->ψ k=some cb/\¬pX (kt ψ) (CS s) cb.b/\cb.b<w.heap.size:=by
  intro k cb ab e q hf;have e':ψ k=some cb:=by
   cases k with
   |inr v=>exact e
   |inl i=>
    rcases hc.news _ _ e with e|⟨j,hj,_,aj⟩
    ·exact e
    ·cases hj;have:=hf i rfl;omega
  refine⟨e',fun hs=>?_,hb _ _ e'⟩;obtain⟨i,cb0,ab0,e0,q0,qq,QW,um⟩:=Kl _ hs;have bp:(Sum.inl i:cx)≠k:=by
   rintro rfl;have h1:=hf i rfl;have h2:=xG q0;omega
  exact h.ph _ cb0 ab0 _ cb ab e0 qq QW e' q bp um.symm
 refine⟨⟨?_,?_⟩,⟨mono,?_,hc.ext.size,?_,?_,?_,hc.ext.tape,hc.ext.os,hc.ext.output⟩⟩
 ·intro k cb ab e q
  rcases q with⟨i,rfl,q⟩|⟨q,hf⟩
  ·exact(hc.dA.holds (.inl i) cb ab e ⟨i,rfl,q⟩).same (ψ:=fU) (ψ':=tp ψ fU) (fun _ _ e=>e) rfl
  ·obtain⟨e1,e2,e3⟩:=Ay k cb ab e q hf
   exact(h.holds k cb ab e1 q).same (fun i cb e=>mono _ _ e) (hc.ext.gx _ e3 e2)
 ·intro k cb ab k' eF bJ e q hs e' q' hn
  rcases q with⟨i,rfl,q⟩|⟨q,hf⟩<;>rcases q' with⟨i',rfl,q'⟩|⟨q',ur⟩
  ·exact hc.dA.ph (.inl i) cb ab (.inl i') eF bJ e ⟨i,rfl,q⟩ hs e' ⟨i',rfl,q'⟩ hn
  ·obtain⟨e1,e2,e3⟩:=Ay k' eF bJ e' q' ur
   rcases hc.ext.fk cb.b ⟨.inl i,cb,ab,e,⟨i,rfl,q⟩,hs,rfl⟩with h1|h1
   ·intro h2;rw[h2]at e2;exact e2 h1
   ·omega
  ·obtain⟨e1,e2,e3⟩:=Ay k cb ab e q hf
   rcases hc.ext.oH (.inl i') eF e' with h1|⟨h1,_⟩
   ·obtain⟨y,i2,uz,hy⟩:=hc.ext.live (.inl i') eF bJ h1 ⟨i',rfl,q'⟩
    cases uz;exact h.ph k cb ab (.inl i') eF y e1 q hs h1 (hk i' y eF hy h1) hn
   ·rcases h1 with h1|h1
    ·omega
    ·intro h2;rw[h2]at h1;exact e2 h1
  ·obtain⟨e1,_,_⟩:=Ay k cb ab e q hf
   obtain⟨qg,_,_⟩:=Ay k' eF bJ e' q' ur;exact h.ph k cb ab k' eF bJ e1 q hs qg q' hn
 ·intro k cb e
  cases k with
  |inr v=>exact .inl e
  |inl i=>
   rcases hc.ext.oH (.inl i) cb e with h1|⟨h1,h2⟩
   ·exact .inl h1
   ·exact .inr ⟨h1.imp id (Si _),h2⟩
 ·intro b cq hn
  exact hc.ext.gx b cq fun hs=>hn (Si b hs)
 ·rintro b ⟨k,cb,ab,e,q,hs,cq⟩
  rcases q with⟨i,rfl,q⟩|⟨q,hf⟩
  ·exact(hc.ext.fk b ⟨.inl i,cb,ab,e,⟨i,rfl,q⟩,hs,cq⟩).imp (Si b) id
  ·obtain⟨e1,_,_⟩:=Ay k cb ab e q hf
   exact .inl ⟨k,cb,ab,e1,q,hs,cq⟩
 ·intro k cb x e q
  rcases q with⟨i,rfl,q⟩|⟨q,_⟩
  ·obtain⟨y,i2,uz,hy⟩:=hc.ext.live (.inl i) cb x e ⟨i,rfl,q⟩
   cases uz;exact⟨y,hk i y cb hy e⟩
  ·exact⟨x,q⟩
end
section
variable {C:aM} {o:Oper} {D W:cx->Prop} {E:Env} {s:St} {md:Md} {pr ms:List Nat}
theorem Zpw {m:M (List DV)} {K:List DV->M β} {r:Out β×St} (h:IU md m K s=some r):
  (∃ds s1,m s=some (.val ds,s1)/\K ds s1=some r/\(2<=md.x->St.Pj s s1))\/(md.x=0/\∃s1,m s=some (.cy,s1)/\r=(.cy,s1)):=by
 unfold IU at h;cases hx:md.x with
 |zero=>
  rw[hx]at h;simp only[M.call]at h;cases hm:m s with
  |none=>rw[hm]at h;cases h
  |some p=>
   obtain⟨o,s1⟩:=p;rw[hm]at h;cases o with
   |val ds=>exact .inl ⟨ds,s1,rfl,h,fun h=>by omega⟩
   |cy=>simp only[cQ]at h;exact .inr ⟨rfl,s1,rfl,h.symm⟩
 |succ n=>
  cases n with
  |zero=>
   rw[hx]at h;simp only[M.ig]at h;cases hm:m s with
   |none=>rw[hm]at h;cases h
   |some p=>
    obtain⟨o,s1⟩:=p;rw[hm]at h;cases o with
    |val ds=>exact .inl ⟨ds,s1,rfl,h,fun h=>by omega⟩
    |cy=>cases h
  |succ n=>
   rw[hx]at h;simp only[M.ew]at h;cases hm:m s with
   |none=>rw[hm]at h;cases h
   |some p=>
    obtain⟨o,s1⟩:=p;rw[hm]at h;cases o with
    |val ds=>
     simp only at h;split at h
     ·rename_i hb;exact .inl ⟨ds,s1,rfl,h,fun _=>hb⟩
     ·cases h
    |cy=>cases h
theorem zO {m:M (List DV)} : ∀ {bs:List Nat} {o:Out (List DV)} {s1:St},An E bs m s=some (o,s1)->
  m s=some (o,s1)/\∀ds,o= .val ds->∀b∈bs,∃j p,E.get b= .v (.ptr (some (j,p)))/\s1[j]? =s[j]?
 |[],_,_,h=>⟨h,fun _ _ b hb=>by cases hb⟩
 |b::bs,o,s1,h=>by
  unfold An at h;cases he:E.get b with
  |v d=>
   rw[he]at h;cases d with
   |ptr a=>
    cases a with
    |none=>cases h
    |some jq=>
     obtain⟨j,q'⟩:=jq;simp only[M.gx]at h;cases hm:An E bs m s with
     |none=>rw[hm]at h;cases h
     |some p=>
      obtain⟨o1,s2⟩:=p;rw[hm]at h;cases o1 with
      |val ds=>
       simp only at h;split at h
       ·rename_i hk
        cases h;obtain⟨h1,h2⟩:=zO hm;refine⟨h1,fun iP e b' cq=>?_⟩;rcases cd.1 cq with rfl|cq
        ·exact⟨j,q',he,hk⟩
        ·exact h2 iP e b' cq
       ·cases h
      |cy=>
       simp only at h;cases h;exact⟨(zO hm).1,fun iP e=>by cases e⟩
   |_=>cases h
  |_=>rw[he]at h;cases h
theorem HY {q:Call} {f:Operand} (hq:q.callee= .value f) (ho:o.op= .call q) (aI: ∀h,W h->D h) (hD: ∀i,D (.inl i))
  {c:Zg} (hc:ZA C c) {g:Nat} {fs cs as:List DV} (hf:E.src C f= .v (.func g fs cs)) (has:SV C E q.args.toList as)
  {out:Out (List DV)} {s1:St} (pw:c g (fs++as++cs) s=some (out,s1)) (hW: ∀ds,out= .val ds->∀i,W (.inl i)\/(i<s.length->s1[i]? =s[i]?)):
  (out= .cy->si C o D E s s1)/\
  (∀ds e,out= .val ds->e.bT=none->(∀r v n,e≠ .pl r v n)->(∀ψ v,vn C ψ ds v->ef C ψ e v)->jO W pr ms o E s (E.dJ o.dst e) s1/\xk C o D W E s (E.dJ o.dst e) s1):=by
 have ok:=hc g _ s _ pw;have hlen:s.length<=s1.length:=ok.1;have mf:f∈o.op.operands:=by rw[ho];simp[Op.operands,Call.operands,hq]
 have ma: ∀x∈q.args.toList,x∈o.op.operands:=by intro x hx;rw[ho];simp only[Op.operands,Call.operands,hq];simp at hx⊢;first|exact .inl hx|exact .inr hx
 have sem: ∀ψ Q (A:Act) (w:World) (next:Act->World->Prop) (QQ:Exit->Act->World->Prop),aw C o D E s ψ Q A w->(∀i,s.length<=i->i<s1.length->ψ (.inl i)=none)->
   (∀ds v w' fU,out= .val ds->gP C (kt ψ) s w fU s1 w'->vn C fU ds v->next (A.put o.dst v) w')->(∀ch w' fU,lF ch->out= .cy->gP C (kt ψ) s w fU s1 w'->QQ (.panic ch) A w')->o.wp C.P A w next QQ:=by
  intro ψ Q A w next QQ p room hv hp;have hfv:=p.val mf hf;generalize qy:A.eval f=v at hfv;cases hfv with
  |func k _ _ vf vc qo h1 h2=>
   have h3:=Ca p ma has;have iG:aR C (kt ψ) (fs++as++cs) (vf.toList++q.args.toList.map A.eval++vc.toList):=Zs5 (aR.append (aR.append h1 h3) h2);have:=ok.2 k qo rfl (kt ψ) w _ (Zuw p.dA fun i ab cb h e=>p.gT (.inl i) ab cb (hD i) h e) (fun h cb e=>p.eV h cb (zN e).1)
    (fun g hg=>let ⟨cb,e1,e2⟩:=p.iR g hg;⟨cb,e1,e2⟩) iG (fun _=>rfl) (fun i h1 h2=>room i h1 h2)
   have kq:(vf.toList++q.args.toList.map A.eval++vc.toList).toArray=vf++q.args.map A.eval++vc:=by
    apply Array.ext';simp
   rw[kq]at this;have hex:(execOp A.eval o).run C.P w=(callFunc k (vf++q.args.map A.eval++vc)).run C.P w:=by
    simp[execOp,ho,resolve,hq,qy,Deferred.ofValue,invoke]
   unfold Oper.wp;rw[hex];unfold tV at this;split at this
   ·rename_i f' as' w' hr
    rw[hr];refine Calls.mono this fun e pP he=>?_
    cases e with
    |returned v=>
     obtain⟨ds,e1,fU,e2,e3⟩:=he;exact hv ds v pP fU e1 e2 e3
    |panicked ch=>
     obtain⟨e0,e1,fU,e2⟩:=he;exact hp ch pP fU e0 e1 e2
    |outgrown=>exact he.elim
   ·rename_i v w' hr
    rw[hr];obtain⟨ds,e1,fU,e2,e3⟩:=this;exact hv ds v w' fU e1 e2 e3
   ·exact this.elim
 refine⟨fun yo=>⟨hlen,fun ψ Q A w next QQ p room hn=>?_⟩,fun ds e yo th jX QT=>⟨jO.put pr ms e th (fun _ r v n h=>absurd h (jX r v n)) hlen (fun i ab h=>?_) (fun i h hi=>?_) (.inr (by unfold oS;rw[ho];simp only[hq])),fun ψ Q A w next QQ p room hn=>?_⟩⟩
 ·have Kh: ∀i,s.length<=i->i<s1.length->ψ (.inl i)=none:=fun i h1 h2=>room (.inl i) ⟨tI.2 h1,h2⟩
  have hk: ∀i ab cb,cj s i=some ab->ψ (.inl i)=some cb->Q (.inl i) ab:=fun i ab cb h e=>p.gT (.inl i) ab cb (hD i) h e
  refine sem ψ Q A w next QQ p Kh (fun ds v w' fU h=>by rw[yo]at h;cases h) fun ch w' fU nv _ Dt=>?_
  obtain⟨f1,f2⟩:=frame p.dA p.eV hk hlen Dt;refine hn (tp ψ fU) (Kd s1 Q) ch w' nv f1 f2 (fun h cb e=>?_) fun i ab cb h e=> .inl ⟨i,rfl,h⟩
  cases h with
  |inr v=>exact .inl e
  |inl i=>
   rcases Dt.news _ _ e with e|⟨j,hj,h1,h2⟩
   ·exact .inl e
   ·cases hj;exact .inr ⟨tI.2 h1,h2⟩
 ·rcases hW ds yo i with h'|h'
  ·exact .inl h'
  ·rcases eJ i s.length with hi|hi
   ·unfold cj at h;rw[h' hi]at h;exact .inr (.inr h)
   ·exact .inr (.inl hi)
 ·rcases hW ds yo i with h'|h'
  ·exact absurd h' h
  ·exact h' hi
 ·have Kh: ∀i,s.length<=i->i<s1.length->ψ (.inl i)=none:=fun i h1 h2=>room (.inl i) ⟨tI.2 h1,h2⟩
  have hk: ∀i ab cb,cj s i=some ab->ψ (.inl i)=some cb->Q (.inl i) ab:=fun i ab cb h e=>p.gT (.inl i) ab cb (hD i) h e
  refine sem ψ Q A w next QQ p Kh (fun iP v w' fU h Dt hr=>?_) (fun ch w' fU _ h=>by rw[yo]at h;cases h);rw[yo]at h;cases h;obtain⟨f1,f2⟩:=frame p.dA p.eV hk hlen Dt;have iV:vn C (tp ψ fU) ds v:=by
   rcases hr with⟨d,e1,e2⟩|⟨e1,vs,e2,e3⟩
   ·exact .inl ⟨d,e1,e2.mono (ψ:=fU) (ψ':=tp ψ fU) fun _ _ e=>e⟩
   ·exact .inr ⟨e1,vs,e2,e3.mono (ψ:=fU) (ψ':=tp ψ fU) fun _ _ e=>e⟩
  refine hn (tp ψ fU) (Kd s1 Q) v w' ⟨f1,f2,fun h cb e=>?_,fun h ab cb cr hw e'=>?_,fun h ab cb e' q' nw dm=>?_⟩ (fun d' jh=>?_)
  ·cases h with
   |inr v=>exact .inl e
   |inl i=>
    rcases Dt.news _ _ e with e|⟨j,hj,h1,h2⟩
    ·exact .inl e
    ·cases hj;exact .inr ⟨tI.2 h1,h2⟩
  ·cases h with
   |inl i=>exact .inl ⟨i,rfl,cr⟩
   |inr x=>
    rcases hw with hw|⟨n1,n2⟩
    ·have lJ:CR (E.dJ o.dst e) s (.inr x) ab:=cr
     exact .inr ⟨p.gT (.inr x) ab cb (aI _ hw) (lJ.dJ th) e',fun i hi=>by cases hi⟩
    ·simp only[cN,Env.Bf]at n1 n2;exact absurd n2 n1
  ·cases h with
   |inr x=>exact .inr ⟨q',fun i hi=>by cases hi⟩
   |inl i=>
    rcases eJ i s.length with hi|hi
    ·rcases hW ds yo i with h'|h'
     ·exact absurd h' nw
     ·have h1:cj s i=some ab:=dm (hD i) hi
      exact .inl ⟨i,rfl,by unfold cj at h1⊢;rw[h' hi];exact h1⟩
    ·rcases eJ i s1.length with wi|wi
     ·rw[Kh i hi wi]at e';cases e'
     ·exact .inr ⟨q',fun j hj=>by cases hj;exact wi⟩
  ·rw[Env.iE,aF jh]
   exact QT _ v iV
theorem ZwR {q:Call} {f:Operand} (hq:q.callee= .value f) (ho:o.op= .call q) (aI: ∀h,W h->D h) (hD: ∀i,D (.inl i)) (hW: ∀i,W (.inl i)\/2<=md.x\/∃b∈md.bs,∀j p,E.get b= .v (.ptr (some (j,p)))->j=i)
  {c:Zg} (hc:ZA C c) {K:Env->M β} {r:Out β×St} (h:O3 C E o K md c f q.args s=some r):bm C md pr ms o D W E s K r:=by
 unfold O3 at h;obtain⟨fv,hf,h⟩:=Zr h;obtain⟨as,h,has⟩:=BX h;have Jj: ∀(s1:St),(2<=md.x->St.Pj s s1)->(∀b∈md.bs,∃j p,E.get b= .v (.ptr (some (j,p)))/\s1[j]? =s[j]?)->∀i,W (.inl i)\/(i<s.length->s1[i]? =s[i]?):=fun s1 hb hk i=>by
  rcases hW i with h|h|⟨b,jg,eH⟩
  ·exact .inl h
  ·obtain⟨x,rfl⟩:=hb h
   exact .inr fun hi=>iN hi
  ·obtain⟨j,p,e1,e2⟩:=hk b jg
   have:=eH j p e1;subst this;exact .inr fun _=>e2
 cases fv with
 |func g fs cs=>
  simp only at h;generalize UG C.P o.type=ro at h;obtain⟨many,Ea⟩:=ro;cases many with
  |true=>
   simp only at h;obtain⟨h1,h⟩:=BY h;have h1:=zg h1;rcases Zpw h with⟨ds,s1,hm,h,hb⟩|⟨hx,s1,hm,rfl⟩
   ·obtain⟨iP,h,hl,lN,hr⟩:=BP h
    obtain⟨hm,hk⟩:=zO hm;obtain⟨e1,e2⟩:=(HY (pr:=pr) (ms:=ms) hq ho aI hD hc hf has hm (fun ds e=>Jj s1 hb (hk ds e))).2 ds (.mL iP) rfl rfl (fun _ _ _ h=>by cases h) (fun ψ v hv=>by
     rcases hv with⟨d,e,_⟩|⟨_,vs,e,e'⟩
     ·rw[e]at hl;simp at hl;omega
     ·exact⟨vs,e,hr C ψ _ e'⟩)
    exact .inl ⟨_,s1,h,e1,e2⟩
   ·exact .inr ⟨hx,s1,rfl,(HY (pr:=pr) (ms:=ms) hq ho aI hD hc hf has (zO hm).1 (fun ds e=>by cases e)).1 rfl⟩
  |false=>
   simp only at h;rcases Zpw h with⟨ds,s1,hm,h,hb⟩|⟨hx,s1,hm,rfl⟩
   ·obtain⟨iP,h,hl,lN,hr⟩:=BP h
    cases iP with
    |nil=>cases h
    |cons d rest=>
     cases rest with
     |cons _ _=>cases h
     |nil=>
      simp only at h;obtain⟨hm,hk⟩:=zO hm;obtain⟨e1,e2⟩:=(HY (pr:=pr) (ms:=ms) hq ho aI hD hc hf has hm (fun ds e=>Jj s1 hb (hk ds e))).2 ds (.v d) rfl rfl (fun _ _ _ h=>by cases h) (fun ψ v hv=>by
       rcases hv with⟨d0,e,uq⟩|⟨e,_⟩
       ·subst e
        have:=hr C ψ [v] (.cons _ _ _ _ uq .nil);cases this with
        |cons _ _ _ _ a _=>exact a
       ·exact absurd hl.symm e)
      exact .inl ⟨_,s1,h,e1,e2⟩
   ·exact .inr ⟨hx,s1,rfl,(HY (pr:=pr) (ms:=ms) hq ho aI hD hc hf has (zO hm).1 (fun ds e=>by cases e)).1 rfl⟩
 |_=>cases h
end
def KI (h:cx):Prop:=∃i,h= .inl i
def KO (E:Env) (r:Nat) (h:cx):Prop:=∃v,h= .inr v/\(E.get r).bT=some v
def lY:Md->Env->cx->Prop
 | .s,_,_=>True
 | .d .pure _,_,_=>False
 | .d (.rS r) _,E,h=>KO E r h
 | .d (.lS r) _,E,h=>KO E r h
 | .d (.lp a) _,E,h=>∃i p,E.get a= .v (.ptr (some (i,p)))/\h= .inl i
 | .d _ _,_,h=>KI h
def j9:Md->Env->cx->Prop
 | .s,_,_=>True
 | .d .wr _,_,h=>KI h
 | .d .call x,_,h=>x<2/\KI h
 | .d (.lS r) _,E,h=>KO E r h
 | .d (.ap bs) _,E,h=>∃i,h= .inl i/\∀b∈bs,∃j p,E.get b= .v (.ptr (some (j,p)))/\j≠i
 | .d _ _,_,_=>False
theorem Iy (md:Md) (E:Env) (h:cx) (w:j9 md E h):lY md E h:=by
 cases md with
 |s=>trivial
 |d k x=>cases k<;>first|exact w|exact w.2|exact w.elim|(obtain⟨i,e,_⟩:=w;exact⟨i,e⟩)
section
variable {C:aM} {o:Oper} {E:Env} {s:St} {md:Md} {pr ms:List Nat}
theorem ZtN {P:Program} {pr:List Nat} {ops:List Oper} {t:TypeId} {a:Operand} (ho:o.op= .load t a):cls P pr ops o= .hp\/(∃b,a= .tmp b/\cls P pr ops o= .lp b)\/∃r,cls P pr ops o= .rS r:=by
 unfold cls;rw[ho];cases a with
 |tmp t=>simp only;cases mK pr ops 12 t<;>simp
 |_=>exact .inl rfl
theorem Zro {P:Program} {pr:List Nat} {ops:List Oper} {t:TypeId} {a y:Operand} (ho:o.op= .store t a y):cls P pr ops o= .wr\/cls P pr ops o= .ap []\/∃r,cls P pr ops o= .lS r:=by
 unfold cls;rw[ho];cases a with
 |tmp t=>simp only;cases mK pr ops 12 t<;>simp
 |_=>exact .inl rfl
theorem Nc {E:Env} {p:Option (Nat×Nat)} {X:M β} {r:Out β×St} : ∀ {bs:List Nat},CA E p bs X s=some r->X s=some r/\∀b∈bs,∀i q,p=some (i,q)->∃j q',E.get b= .v (.ptr (some (j,q')))/\j≠i
 |[],h=>⟨h,fun b hb=>by cases hb⟩
 |b::bs,h=>by
  unfold CA at h;cases he:E.get b with
  |v d=>
   rw[he]at h;cases d with
   |ptr a=>
    cases a with
    |none=>cases h
    |some jq=>
     obtain⟨j,q'⟩:=jq;simp only at h;obtain⟨h1,h⟩:=ZM h;obtain⟨h,h2⟩:=Nc h;refine⟨h,fun b' cq i q hp=>?_⟩;rcases cd.1 cq with rfl|cq
     ·refine⟨j,q',he,?_⟩
      rw[hp]at h1;unfold apart at h1;rintro rfl;simp at h1
     ·exact h2 b' cq i q hp
   |_=>cases h
  |_=>rw[he]at h;cases h
theorem Zzf {C:aM} {E:Env} {bs:List Nat} {as:Array Operand} {X:M β} {r:Out β×St} (h:Pa C E bs as X s=some r):
  X s=some r/\∀y z i q n,as.toList.head?=some y->E.src C y= .v (.slice z (some (i,q)) n)->∀b∈bs,∃j q',E.get b= .v (.ptr (some (j,q')))/\j≠i:=by
 unfold Pa at h;cases bs with
 |nil=>exact⟨h,fun _ _ _ _ _ _ _ b hb=>by cases hb⟩
 |cons b r=>
  simp only at h;cases hy:as.toList with
  |nil=>rw[hy]at h;cases h
  |cons y ys=>
   rw[hy]at h;simp only at h;obtain⟨d,hd,h⟩:=Zr h;cases d with
   |slice z p n=>
    obtain⟨h1,h2⟩:=Nc h;refine⟨h1,fun y' z' i q n' mE he b' cq=>?_⟩;cases mE;rw[hd]at he;cases he;exact h2 b' cq i q rfl
   |_=>cases h
theorem ZyC {C:aM} {E:Env} {bs:List Nat} {a:Operand} {X:M β} {r:Out β×St} (h:Sj C E bs a X s=some r):
  X s=some r/\∀i q,E.src C a= .v (.ptr (some (i,q)))->∀b∈bs,∃j q',E.get b= .v (.ptr (some (j,q')))/\j≠i:=by
 unfold Sj at h;cases bs with
 |nil=>exact⟨h,fun _ _ _ b hb=>by cases hb⟩
 |cons b r=>
  simp only at h;cases he:E.src C a with
  |v d=>
   rw[he]at h;cases d with
   |ptr p=>
    obtain⟨h1,h2⟩:=Nc h;refine⟨h1,fun i q e b' cq=>?_⟩;cases e;exact h2 b' cq i q rfl
   |_=>cases h
  |_=>rw[he]at h;cases h
theorem OP (hC:lE C) {c:Zg} (hc:ZA C c) {ops:List Oper} (iU:md= .s\/∃x k m,md= .d (qN pr ops k m (cls C.P pr ops o)) x) {K:Env->M β} {r:Out β×St} (h:dV C pr ms md c o E K s=some r):
  bm C md pr ms o (lY md E) (j9 md E) E s K r:=by
 have aI: ∀h,j9 md E h->lY md E h:=Iy md E;unfold dV at h;cases ho:o.op with
 |move y=>rw[ho]at h;exact Zo8 (.inl ho) aI h
 |assign y=>rw[ho]at h;exact Zo8 (.inr ho) aI h
 |pick b y z=>rw[ho]at h;exact ZwK ho aI h
 |alloc t=>rw[ho]at h;exact ZuI ho aI h
 |box t y=>rw[ho]at h;exact ZxA ho aI h
 |build t ps=>rw[ho]at h;exact ZuZ ho aI h
 |buildSlice t n ps=>rw[ho]at h;exact ZnI ho aI h
 |load t a=>
  rw[ho]at h;refine ZwW ho aI ?_ ?_ h
  ·intro r v hm hv
   rcases iU with rfl|⟨x,k,m,rfl⟩
   ·trivial
   ·rcases ZtN (P:=C.P) (pr:=pr) (ops:=ops) ho with e|⟨b,_,e⟩|⟨q,e⟩<;>rw[e]at hm⊢
    ·cases hm
    ·cases hm
    ·have:q=r:=bY hm
     subst this;exact⟨v,rfl,hv⟩
  ·intro hm i p0 hx
   rcases iU with rfl|⟨x,k,m,rfl⟩
   ·trivial
   ·rcases ZtN (P:=C.P) (pr:=pr) (ops:=ops) ho with e|⟨b,hb,e⟩|⟨q,e⟩<;>rw[e]at hm⊢
    ·exact⟨i,rfl⟩
    ·rw[hb]at hx
     have hx:E.get b= .v (.ptr (some (i,p0))):=by
      unfold Env.src at hx;simp only at hx;cases hg:E.get b<;>rw[hg]at hx<;>first|exact hx|cases hx
     exact⟨i,p0,hx,rfl⟩
    ·cases hm
 |store t a y=>
  rw[ho]at h;simp only at h;obtain⟨hd,h⟩:=Zp h;obtain⟨h,bE⟩:=ZyC h;refine ZuQ ho (by simpa using hd) aI ?_ ?_ h
  ·intro r v hm hv
   rcases iU with rfl|⟨x,k,m,rfl⟩
   ·trivial
   ·rcases Zro (P:=C.P) (pr:=pr) (ops:=ops) ho with e|e|⟨q,e⟩<;>rw[e]at hm⊢
    ·cases hm
    ·cases hm
    ·have:q=r:=bY hm
     subst this;exact⟨v,rfl,hv⟩
  ·intro hm i p hx
   rcases iU with rfl|⟨x,k,m,rfl⟩
   ·trivial
   ·rcases Zro (P:=C.P) (pr:=pr) (ops:=ops) ho with e|e|⟨q,e⟩<;>rw[e]at hm bE⊢
    ·exact⟨i,rfl⟩
    ·exact⟨i,rfl,bE i p hx⟩
    ·cases hm
 |nilCheck y=>rw[ho]at h;exact ZpN ho aI h
 |binOp op t y z u=>rw[ho]at h;exact Zxa hC ho aI h
 |unOp op t y=>rw[ho]at h;exact Zyv ho aI h
 |convert t u y=>
  rw[ho]at h;refine ZrP ho aI (fun i=>?_) h;rcases iU with rfl|⟨x,k,m,rfl⟩
  ·trivial
  ·have:cls C.P pr ops o= .hp:=by unfold cls;rw[ho]
   rw[this];exact⟨i,rfl⟩
 |makeInterface t y=>rw[ho]at h;exact Zvf ho aI h
 |makeFunc f x y=>rw[ho]at h;exact Zw0 ho aI h
 |makeSlice t x y=>rw[ho]at h;exact ZoV ho aI h
 |slice t y lo hi mx=>
  rw[ho]at h;cases mx with
  |some _=>cases h
  |none=>
   refine Zvm ho aI (fun⟨m,e,ht⟩ i=>?_) h;rcases iU with rfl|⟨x,k,m,rfl⟩
   ·trivial
   ·have:cls C.P pr ops o= .hp:=by unfold cls;rw[ho];simp only[ht]
    rw[this];exact⟨i,rfl⟩
 |fieldAddr t y f=>rw[ho]at h;exact Zpv ho aI h
 |field t y f=>rw[ho]at h;exact ZuK ho aI h
 |indexAddr t y i=>rw[ho]at h;exact Zpb ho aI h
 |index t y i=>rw[ho]at h;exact Zvy ho aI h
 |range t y=>rw[ho]at h;exact Zu6 ho aI h
 |next it b=>
  rw[ho]at h;cases it with
  |tmp t=>
   cases b with
   |true=>
    refine Zws ho aI (fun v hv=>?_) h;rcases iU with rfl|⟨x,k,m,rfl⟩
    ·trivial
    ·have:cls C.P pr ops o= .lS t:=by unfold cls;rw[ho]
     rw[this];exact⟨v,rfl,hv⟩
   |false=>cases h
  |_=>cases b<;>cases h
 |typeAssert y t u ok=>
  rw[ho]at h;cases ok with
  |true=>cases h
  |false=>
   refine ZsS hC ho aI (fun i=>?_) h;rcases iU with rfl|⟨x,k,m,rfl⟩
   ·trivial
   ·have:cls C.P pr ops o= .wr:=by unfold cls;rw[ho]
    rw[this];exact⟨i,rfl⟩
 |extract t i=>
  rw[ho]at h;cases t with
  |tmp t=>exact ZrB ho aI h
  |_=>cases h
 |panic y=>
  rw[ho]at h;refine Zvn ho (fun i=>?_) h;rcases iU with rfl|⟨x,k,m,rfl⟩
  ·trivial
  ·have:cls C.P pr ops o= .wr:=by unfold cls;rw[ho]
   rw[this];exact⟨i,rfl⟩
 |call q=>
  rw[ho]at h;simp only at h;have wr: ∀b,q.callee= .builtin b->b≠ .len->b≠ .min->b≠ .max->b≠ .append->∀i,j9 md E (.inl i):=by
   intro b hq h1 h2 h3 h4 i;rcases iU with rfl|⟨x,k,m,rfl⟩
   ·trivial
   ·have:cls C.P pr ops o= .wr:=by
     unfold cls;rw[ho];simp only[hq];cases b<;>first|rfl|exact absurd rfl h1|exact absurd rfl h2|exact absurd rfl h3|exact absurd rfl h4
    rw[this];exact⟨i,rfl⟩
  cases hq:q.callee with
  |value f=>
   rw[hq]at h;have dz:cls C.P pr ops o= .ap []\/cls C.P pr ops o= .call:=by
    unfold cls;rw[ho];simp only[hq];cases has pr 1000000 with
    |true=>exact .inl rfl
    |false=>exact .inr rfl
   refine ZwR hq ho aI (fun i=>?_) (fun i=>?_) hc h
   ·rcases iU with rfl|⟨x,k,m,rfl⟩
    ·trivial
    ·rcases dz with this|this<;>rw[this]<;>exact⟨i,rfl⟩
   ·rcases iU with rfl|⟨x,k,m,rfl⟩
    ·exact .inl trivial
    ·rcases dz with this|this<;>rw[this]
     ·by_cases hb: ∀b∈(Md.d (qN pr ops k m (.ap [])) x).bs,∃j p,E.get b= .v (.ptr (some (j,p)))/\j≠i
      ·exact .inl ⟨i,rfl,hb⟩
      ·refine .inr (.inr ?_)
       simp only[Classical.not_forall]at hb;obtain⟨b,jg,eH⟩:=hb;exact⟨b,jg,fun j p e=>Classical.byContradiction fun bp=>eH ⟨j,p,e,bp⟩⟩
     ·rcases eJ x 2 with hx|hx
      ·exact .inl ⟨hx,i,rfl⟩
      ·exact .inr (.inl hx)
  |invoke f m=>rw[hq]at h;cases h
  |builtin b=>
   rw[hq]at h;cases b with
   |len=>exact Zyk hq rfl ho aI h
   |append=>
    obtain⟨h,sR⟩:=Zzf h;have hc:cls C.P pr ops o= .ap []:=by unfold cls;rw[ho];simp only[hq]
    refine Ztn hq ho aI (fun i=>?_) (fun y z i p n hy he=>?_) h
    ·rcases iU with rfl|⟨x,k,m,rfl⟩
     ·trivial
     ·rw[hc];exact⟨i,rfl⟩
    ·rcases iU with rfl|⟨x,k,m,rfl⟩
     ·trivial
     ·rw[hc]at sR⊢
      exact⟨i,rfl,sR y z i p n hy he⟩
   |copy=>exact Zwj hq ho aI (wr _ hq (by simp) (by simp) (by simp) (by simp)) h
   |min=>exact Zrw (mx:=false) hq rfl ho aI h
   |max=>exact Zrw (mx:=true) hq rfl ho aI h
   |clear=>exact ZuW hq ho aI (wr _ hq (by simp) (by simp) (by simp) (by simp)) h
   |_=>cases h
 |_=>rw[ho]at h;cases h
end
end Go.Gv
