/- What an operation does, said of the machine and of the model: the frame of the proofs for the single operations. -/
import Derived.Test.YtjcghijjmhhldaaGreatDoorGvRel
import Derived.Laws.Strings
import Derived.Laws.Concat
import Derived.DeepKeys
import Derived.Laws.Slices
import Derived.Laws.BytesArg
import Derived.Laws.Tables
import Derived.Laws.MakeOwn
import Derived.Laws.Append
set_option linter.all false
namespace Go.Gv
theorem AJ (k:Nat) (e:dz) (l:List (Nat×dz)) (t:Nat):look ((k,e)::l) t=if k=t then e else look l t:=by
 simp[look]
theorem Env.nk (E:Env) (t:Nat) (e:dz) (u:Nat):(E.put t e).get u=if t=u then e else E.get u:=AJ t e E.l u
theorem Env.UN (n:Nat) (t:Nat) (e:dz) (l:List (Nat×dz)) (u:Nat):(⟨n,(t,e)::l⟩:Env).get u=if t=u then e else look l u:=AJ t e l u
@[simp] theorem Env.QO (E : Env) (t : Nat) (e : dz) : (E.put t e).bq = E.bq := rfl
@[simp] theorem Env.zK (E : Env) (t : Option Nat) (e : dz) : (E.dI t e).bq = E.bq := by cases t <;> rfl
theorem Env.iw (E:Env) (t:Option Nat) (e:dz) (u:Nat):(E.dI t e).get u=if t=some u then e else E.get u:=by
 cases t with
 |none=>simp[Env.dI]
 |some t=>simp[Env.dI,Env.nk,eO]
theorem A0: ∀(l:al) (t:Nat),has l t=true↔t∈l
 |[],t=>by simp[has]
 |k::r,t=>by
  rw[has,kb,dR,A0 r t];constructor
  .rintro(h|h)
   .simp_all
   .exact .inr h
  .rintro(h|h)
   .simp_all
   .exact .inr h
theorem sO (E:Env) (ts:al) (t:Nat):(E.del ts).get t=if has ts t then .u else E.get t:=by
 have key: ∀l:List (Nat×dz),look (yK l ts) t=if has ts t then .u else look l t:=by
  intro l;induction l with
  |nil=>simp[yK,look]
  |cons x r ih=>
   have⟨k,e⟩:=x;rw[yK];cases hk:has ts k with
   |true=>
    rw[aa,ih,AJ];by_cases h:k=t
    .subst h;simp[hk]
    .simp[h]
   |false=>
    simp only[ae,AJ,ih];by_cases h:k=t
    .subst h;simp[hk]
    .simp[h]
 exact key E.l
@[simp] theorem Xq (E : Env) (ts : al) : (E.del ts).bq = E.bq := rfl
def cY (E:Env) (s:St):cJ->Prop
 | .inl i=>i<s.length
 | .inr v=>v<E.bq
def qS (E:Env) (s:St) (E':Env) (s':St) (h:cJ):Prop:=¬cY E s h/\cY E' s' h
variable {ab:AB} {ad base:Addr} {ps:Array (Nat×Operand)} {as cap first:Array Operand} {ts:Array TypeId} {c vs zv:Array Value} {f mx:Bool} {cb:CB} {q:Call} {Q Q' Q1:Kn} {ops:List Oper} {md:Md} {g i j lim m n o' off p sz z0:Nat} {y:Operand} {hi lo:Option Operand} {P:Program} {ψ ψ':Ps} {s s' s1:St} {α β:Type} {d ed td:TypeDesc} {e t ty u xt yt:TypeId} {v:Value} {w w':World} {C:aY} {cs' ds fs xs ys z:af} {ms pr:al} {h:cJ}
theorem vW (h:cu s i=some ab):i<s.length:=by
 grind[cu]
variable {E:Env}
theorem CR.mh (hE:gG E) (c:CR E s h ab):cY E s h:=by
 cases h with
 |inl i=>exact vW c
 |inr v=>
  rcases c with⟨t,n,cs,e,_⟩|⟨t,l,p,e,_⟩
  .exact hE.lt t v (by rw[e];rfl)
  .exact hE.lt t v (by rw[e];rfl)
theorem DG {x:St} (h:i<s.length):cu (s++x) i=cu s i:=by
 grind[cu]
theorem Ie (s:St) (b:aH):cu (s++[some b]) s.length=some (.cells b.jS b.cells):=by
 simp[cu]
def Spec (pr:al) (o:Oper):Prop:=
 match o.op with
 | .store .. | .next .. | .range .. =>True
 | .alloc _| .box _ _=>∃d,o.dst=some d/\has pr d=true
 |_=>False
def nS (o:Oper):Prop:=
 match o.op with
 | .alloc _| .box .. | .buildSlice .. | .makeSlice .. | .convert .. =>True
 | .call q=>match q.callee with
  | .value _| .builtin .append=>True
  |_=>False
 |_=>False
structure jw (W:cJ->Prop) (pr ms:List Nat) (o:Oper) (E:Env) (s:St) (E':Env) (s':St):Prop where
 len:s.length<=s'.length
 bq:E.bq<=E'.bq
 fh:gG E->gG E'
 other: ∀t,o.dst≠some t->has ms t=false->E'.get t=E.get t
 val: ∀t d,o.dst≠some t->E'.get t= .v d->E.get t= .v d
 du: ∀t,o.dst≠some t->∀(C:aY) ψ x,eV C ψ (E.get t) x->eV C ψ (E'.get t) x
 back: ∀h ab,CR E' s' h ab->W h\/qS E s E' s' h\/CR E s h ab
 qJ: ∀t v n cs,E'.get t= .loc v n cs->(∃jA,E.get t= .loc v n jA)\/(E.bq<=v/\o.dst=some t)
 sm: ∀t v l p,E'.get t= .it v l p->(∃p0,E.get t= .it v l p0)\/(E.bq<=v/\o.dst=some t)
 Q3: ∀i,¬W (.inl i)->i<s.length->s'[i]? =s[i]?
 plain:(∃e:dz,e.cd=none/\E'=E.dI o.dst e)\/Spec pr o
 grow:s'.length=s.length\/nS o
structure ax (C:aY) (o:Oper) (D:cJ->Prop) (E:Env) (s:St) (ψ:Ps) (Q:Kn) (a:Act) (w:World):Prop where
 dD:dN C ψ Q w
 eS:mP ψ w
 iK:Glob C ψ
 fh:gG E
 gV: ∀h ab cb,D h->CR E s h ab->ψ h=some cb->Q h ab
 args: ∀t,.tmp t∈o.op.operands->eV C ψ (E.get t) (a.tmps.getD t undef)
def Dr (E:Env) (s:St) (E':Env) (s':St) (ψ:Ps):Prop:=∀h,qS E s E' s' h->ψ h=none
structure Dp (C:aY) (D W:cJ->Prop) (E:Env) (s:St) (E':Env) (s':St) (ψ:Ps) (Q:Kn) (w:World) (ψ':Ps) (Q':Kn) (w':World):Prop where
 dD:dN C ψ' Q' w'
 ext:Ext ψ Q w ψ' Q' w'
 news: ∀h cb,ψ' h=some cb->ψ h=some cb\/qS E s E' s' h
 p1: ∀h ab cb,CR E' s' h ab->(W h\/qS E s E' s' h)->ψ' h=some cb->Q' h ab
 p2: ∀h ab cb,ψ h=some cb->Q h ab->¬W h->(D h->cY E s h->CR E s h ab)->Q' h ab
def vI (C:aY) (o:Oper) (D W:cJ->Prop) (E:Env) (s:St) (E':Env) (s':St):Prop:=
 ∀(ψ:Ps) (Q:Kn) (a:Act) (w:World) (next:Act->World->Prop) (QQ:Exit->Act->World->Prop),ax C o D E s ψ Q a w->Dr E s E' s' ψ->
  (∀ψ' Q' v w',Dp C D W E s E' s' ψ Q w ψ' Q' w'->(∀d,o.dst=some d->eV C ψ' (E'.get d) v)->next (a.put o.dst v) w')->o.wp C.P a w next QQ
def kK (ch:List PanicEntry):Prop:=∃t v,ch=[{ v:= .iface t v,recovered:=false }]
def qT (C:aY) (o:Oper) (D:cJ->Prop) (E:Env) (s s':St):Prop:=
 s.length<=s'.length/\
 ∀(ψ:Ps) (Q:Kn) (a:Act) (w:World) (next:Act->World->Prop) (QQ:Exit->Act->World->Prop),ax C o D E s ψ Q a w->Dr E s E s' ψ->
  (∀ψ' Q' ch w',kK ch->dN C ψ' Q' w'->Ext ψ Q w ψ' Q' w'->(∀h cb,ψ' h=some cb->ψ h=some cb\/qS E s E s' h)->
   (∀i ab cb,cu s' i=some ab->ψ' (.inl i)=some cb->Q' (.inl i) ab)->QQ (.panic ch) a w')->o.wp C.P a w next QQ
def bz (C:aY) (md:Md) (pr ms:al) (o:Oper) (D W:cJ->Prop) (E:Env) (s:St) (K:Env->M β) (r:Out β×St):Prop:=
 (∃E' s',K E' s'=some r/\jw W pr ms o E s E' s'/\vI C o D W E s E' s')\/(md.x=0/\∃s',r=(.dM,s')/\qT C o D E s s')
theorem ZnI {d:DV} (h:vi v=some d):VR C ψ d v:=by
 unfold vi at h;split at h<;>first|(cases h;done)|(injection h with h;subst h)
 .exact .bool _
 .exact .int _ _
 .exact .str _
 .exact .CP
 .exact .nI _
 .exact .nilFunc
 .exact .nilIface
theorem ZrN {d:DV} (h:vi v=some d):one d=true:=by
 unfold vi at h;split at h<;>first|(cases h;done)|(injection h with h;subst h;rfl)
theorem xR {C:aY} {ψ:Ps} : ∀ {vs:List Value} {ds:af},Bi vs=some ds->ba C ψ ds vs/\ds.all one=true
 |[],ds,h=>by simp only[Bi,eO]at h;subst h;exact⟨.nil,rfl⟩
 |v::vs,ds,h=>by
  simp only[Bi]at h;split at h
  .rename_i d ji h1 h2
   injection h with h;subst h
   have⟨a,b⟩:=xR (C:=C) (ψ:=ψ) h2;exact⟨.cons _ _ _ _ (ZnI h1) a,by simp[ZrN h1,b]⟩
  .cases h
section
variable {C:aY} {o:Oper} {D:cJ->Prop} {E:Env} {s:St} {ψ:Ps} {Q:Kn} {a:Act} {w:World}
theorem ax.src (p:ax C o D E s ψ Q a w) {x:Operand} (hx:x∈o.op.operands):eV C ψ (E.src C x) (a.eval x):=by
 cases x with
 |tmp t=>
  have h:=p.args t hx;rw[Env.src,Act.eval];cases he:E.get t with
  |loc v n cs=>
   rw[he]at h;have⟨cb,h1,h2,h3⟩:=h;exact⟨cb,h1,h2,h3⟩
  |it v l q=>exact trivial
  |u=>exact trivial
  |un=>rw[he]at h;exact h
  |v d=>rw[he]at h;exact h
  |lL ds=>rw[he]at h;exact h
  |pl r v n=>rw[he]at h;exact h
 |const v=>
  rw[Env.src,Act.eval];split
  .exact ZnI (by assumption)
  .exact trivial
 |global g=>
  rw[Env.src,Act.eval];cases hg:C.uO g with
  |false=>exact trivial
  |true=>
   have⟨cb,h1,h2,h3⟩:=p.iK g hg;have:=VR.ptr (C:=C) (ψ:=ψ) (C.gl g) 0 cb h1;rw[h2,h3]at this;exact this
 |func f=>
  rw[Env.src,Act.eval];cases hg:C.cov f with
  |false=>exact trivial
  |true=>exact VR.func f [] [] #[] #[] hg .nil .nil
theorem ax.val (p:ax C o D E s ψ Q a w) {x:Operand} (hx:x∈o.op.operands) {d:DV} (h:E.src C x= .v d):VR C ψ d (a.eval x):=by
 have:=p.src hx;rw[h]at this;exact this
theorem Env.CX (C:aY) (E:Env) (x:Operand):(E.src C x).cd=none:=by
 cases x with
 |tmp t=>rw[Env.src];cases E.get t<;>rfl
 |const v=>rw[Env.src];cases vi v<;>rfl
 |global g=>rw[Env.src];cases C.uO g<;>rfl
 |func f=>rw[Env.src];cases C.cov f<;>rfl
theorem Env.xe (C:aY) (hE:gG E) {x:Operand} {r v:Nat} (h:E.src C x= .pl r v n):v<E.bq:=by
 cases x with
 |tmp t=>
  simp only[Env.src]at h;cases he:E.get t with
  |loc v' m cs=>
   rw[he]at h;simp only[dz.pl.injEq]at h;obtain⟨_,rfl,_⟩:=h;exact hE.lt t v' (by rw[he];rfl)
  |pl r' v' n'=>
   rw[he]at h;simp only[dz.pl.injEq]at h;obtain⟨_,rfl,_⟩:=h;exact hE.pl t _ _ _ he
  |_=>rw[he]at h;cases h
 |const v=>simp only[Env.src]at h;cases hv:vi v<;>rw[hv]at h<;>cases h
 |global g=>simp only[Env.src]at h;cases hv:C.uO g<;>rw[hv]at h<;>cases h
 |func f=>simp only[Env.src]at h;cases hv:C.cov f<;>rw[hv]at h<;>cases h
end
theorem gG.dI {E:Env} (hE:gG E) {t:Option Nat} {e:dz} (hv:e.cd=none) (hp: ∀r v n,e= .pl r v n->v<E.bq):gG (E.dI t e):=by
 constructor
 .intro u v h
  rw[Env.iw]at h;rw[Env.zK];split at h
  .rw[hv]at h;cases h
  .exact hE.lt u v h
 .intro u r v n h
  rw[Env.iw]at h;rw[Env.zK];split at h
  .exact hp r v n h
  .exact hE.pl u r v n h
 .intro u v n cs h
  rw[Env.iw]at h;split at h
  .rw[h]at hv;cases hv
  .exact hE.len u v n cs h
 .intro u u' v h h'
  rw[Env.iw]at h h';split at h
  .rw[hv]at h;cases h
  .split at h'
   .rw[hv]at h';cases h'
   .exact hE.uniq u u' v h h'
theorem CR.dI {t:Option Nat} {e:dz} (hv:e.cd=none) (c:CR (E.dI t e) s h ab):CR E s h ab:=by
 cases h with
 |inl i=>exact c
 |inr v=>
  rcases c with⟨u,n,cs,h,fm⟩|⟨u,l,p,h,fm⟩
  .rw[Env.iw]at h
   split at h
   .rw[h]at hv;cases hv
   .exact .inl ⟨u,n,cs,h,fm⟩
  .rw[Env.iw]at h
   split at h
   .rw[h]at hv;cases hv
   .exact .inr ⟨u,l,p,h,fm⟩
section
variable {C:aY} {o:Oper} {D W:cJ->Prop} {E:Env} {s:St}
theorem jw.put (pr ms:al) (e:dz) (hv:e.cd=none) (hp:gG E->∀r v n,e= .pl r v n->v<E.bq) (hl:s.length<=s'.length)
  (hs: ∀i ab,cu s' i=some ab->W (.inl i)\/s.length<=i\/cu s i=some ab) (hf: ∀i,¬W (.inl i)->i<s.length->s'[i]? =s[i]?) (hg:s'.length=s.length\/nS o):jw W pr ms o E s (E.dI o.dst e) s' where
 len:=hl
 bq:=Do
 fh:=λhE=>hE.dI hv (hp hE)
 other:=λt h _=>by rw[Env.iw,cG h]
 val:=λt d h e=>by rw[Env.iw,cG h]at e;exact e
 du:=λt h C ψ x r=>by rw[Env.iw,cG h];exact r
 back:=λh ab c=>by
  cases h with
  |inl i=>
   have c':cu s' i=some ab:=c;rcases hs i ab c' with h|h|h
   .exact .inl h
   .exact .inr (.inl ⟨ui.2 h,vW c'⟩)
   .exact .inr (.inr h)
  |inr v=>
   have c':CR (E.dI o.dst e) s (.inr v) ab:=c;exact .inr (.inr (c'.dI hv))
 qJ:=λt v n cs h=>by
  rw[Env.iw]at h;split at h
  .rw[h]at hv;cases hv
  grind
 sm:=λt v l p h=>by
  rw[Env.iw]at h;split at h
  .rw[h]at hv;cases hv
  grind
 Q3:=hf
 plain:= .inl ⟨e,hv,rfl⟩
 grow:=hg
theorem jw.OB (pr ms:al) (e:dz) (hv:e.cd=none) (hp:gG E->∀r v n,e= .pl r v n->v<E.bq):jw W pr ms o E s (E.dI o.dst e) s:=
 jw.put pr ms e hv hp (aW _) (λ_ _ h=> .inr (.inr h)) (λ_ _ _=>rfl) (.inl rfl)
theorem vI.pure (aS: ∀h,W h->D h) (e:dz) (hv:e.cd=none)
  (cm: ∀ψ Q a w,ax C o D E s ψ Q a w->∃v w',(execOp a.eval o).run C.P w= .ok (.value v) w'/\fu w w'/\eV C ψ e v):vI C o D W E s (E.dI o.dst e) s:=by
 intro ψ Q a w next QQ p _ hn;have⟨v,w',hr,hm,dB⟩:=cm ψ Q a w p;unfold Oper.wp;rw[hr];refine hn ψ Q v w' ⟨p.dD.more p.eS hm,Ext.more hm,λh cb e=> .inl e,λh ab cb c hw e=>?_,λh ab cb e q _ _=>q⟩ (λd hd=>?_)
 .rcases hw with hw|⟨h1,h2⟩
  .exact p.gV h ab cb (aS h hw) (c.dI hv) e
  .exact absurd (by cases h<;>simpa [cY]using h2) h1
 grind[Env.iw]
theorem bz.pure {β:Type} {md:Md} {pr ms:al} (aS: ∀h,W h->D h) {K:Env->M β} {r:Out β×St} (e:dz) (hv:e.cd=none) (hp:gG E->∀r v n,e= .pl r v n->v<E.bq)
  (hk:K (E.dI o.dst e) s=some r)
  (cm: ∀ψ Q a w,ax C o D E s ψ Q a w->∃v w',(execOp a.eval o).run C.P w= .ok (.value v) w'/\fu w w'/\eV C ψ e v):bz C md pr ms o D W E s K r:=
 .inl ⟨_,_,hk,jw.OB pr ms e hv hp,vI.pure aS e hv cm⟩
theorem bz.val (aS: ∀h,W h->D h) {K:Env->M β} {r:Out β×St} (d:DV)
  (hk:dx E o K d s=some r)
  (cm: ∀ψ Q a w,ax C o D E s ψ Q a w->∃v w',(execOp a.eval o).run C.P w= .ok (.value v) w'/\fu w w'/\VR C ψ d v):bz C md pr ms o D W E s K r:=
 bz.pure aS (.v d) rfl (λ_ _ _ _ h=>by cases h) hk cm
theorem bz.CJ (dq:nS o) (aS: ∀h,W h->D h) {K:Env->M β} {r:Out β×St} (d:DV) (cells:af)
  (hk:dx E o K d (s++[some ⟨false,cells⟩])=some r)
  (cm: ∀ψ Q a w,ax C o D E s ψ Q a w->∃v w' cb,(execOp a.eval o).run C.P w= .ok (.value v) w'/\fu w w'/\w.heap.size<=cb.b/\cb.b<w'.heap.size/\
   Holds C ψ w' cb (.cells false cells)/\(∀ψ',(∀h c,ψ h=some c->ψ' h=some c)->ψ' (.inl s.length)=some cb->VR C ψ' d v)):bz C md pr ms o D W E s K r:=by
 refine .inl ⟨_,_,hk,jw.put pr ms (.v d) rfl (λ_ _ _ _ h=>by cases h) Do (λi ab h=>?_) Fd (.inr dq),?_⟩
 .rcases jd i s.length with hi|hi
  .rw[DG hi]at h;exact .inr (.inr h)
  .exact .inr (.inl hi)
 .intro ψ Q a w next QQ p room hn
  have⟨v,w',cb,hr,hm,h1,h2,hh,dB⟩:=cm ψ Q a w p;have gB:qS E s (E.dI o.dst (.v d)) (s++[some ⟨false,cells⟩]) (.inl s.length):=⟨by simp[cY],by simp[cY]⟩;have hf:=room _ gB;unfold Oper.wp;rw[hr];refine hn _ _ v w' ⟨dN.new (cb:=cb) (ab:= .cells false cells) p.dD p.eS hm hf h1 (hh.same (λ_ _ e=>pI hf _ _ e) rfl),Ext.new hm hf h1 h2,λh c e=>?_,λh ab c cr hw e=>?_,λh ab c e q _ _=>?_⟩ (λd' hd=>?_)
  .by_cases eh:h= .inl s.length
   .grind
   .rw[kM _ _ eh]at e;exact .inl e
  .by_cases eh:h= .inl s.length
   .subst eh
    have kU:cu (s++[some ⟨false,cells⟩]) s.length=some ab:=cr;rw[Ie]at kU;cases kU;exact .inl ⟨rfl,rfl⟩
   .refine .inr ⟨eh,?_⟩
    rw[kM _ _ eh]at e;rcases hw with hw|⟨n1,n2⟩
    .refine p.gV h ab c (aS h hw) ?_ e
     cases h with
     |inl i=>
      have kU:cu (s++[some ⟨false,cells⟩]) i=some ab:=cr;have:=vW kU;simp only[cq,xu]at this;rwa [DG (by have:i≠s.length:=λe=>eh (by rw[e]);omega)]at kU
     |inr x=>
      have kU:CR (E.dI o.dst (.v d)) s (.inr x) ab:=cr;exact kU.dI rfl
    .cases h with
     |inl i=>
      simp only[cY,cq,xu]at n1 n2;grind
     |inr x=>simp only[cY,Env.zK]at n1 n2;exact absurd n2 n1
  .refine .inr ⟨λeh=>?_,q⟩
   grind
  .rw[Env.iw,bO hd]
   exact dB _ (pI hf) (lY _ _ _)
end
variable {β:Type}
variable {r:Out β×St}
theorem Zt {x:Operand} {K:DV->M β} (h:dQ C E x K s=some r): ∃d,E.src C x= .v d/\K d s=some r:=by
 unfold dQ at h;cases he:E.src C x<;>rw[he]at h<;>first|exact⟨_,rfl,h⟩|cases h
theorem xY {x:Operand} {K:Int->M β} (h:vb C E x K s=some r): ∃k n,E.src C x= .v (.int k n)/\K n s=some r:=by
 have⟨d,h1,h2⟩:=Zt h;split at h2
 .grind
 .cases h2
theorem Kj {x:Operand} {K:Bool->M β} (h:Mz C E x K s=some r): ∃b,E.src C x= .v (.bool b)/\K b s=some r:=by
 have⟨d,h1,h2⟩:=Zt h;split at h2
 .exact⟨_,h1,h2⟩
 .cases h2
theorem LH {a:ah} {K:Nat->Nat->M β} (h:aF a K s=some r): ∃i o,a=some (i,o)/\K i o s=some r:=by
 unfold aF at h;split at h
 .grind
 .cases h
theorem Ay {x:Operand} {KL:Nat->Nat->Nat->M β} {KH:Nat->Nat->M β} (h:wg C E x KL KH s=some r):
  (∃t v o,E.src C x= .pl t v o/\KL t v o s=some r)\/(∃i o,E.src C x= .v (.ptr (some (i,o)))/\KH i o s=some r):=by
 unfold wg at h;cases he:E.src C x with
 |pl t v o=>rw[he]at h;grind
 |v d=>
  rw[he]at h;cases d with
  |ptr a=>
   obtain⟨i,o,rfl,h⟩:=LH h;grind
  |_=>cases h
 |_=>rw[he]at h;cases h
theorem ZU {b:Bool} {K:M β} (h:aJ b K s=some r):b=true/\K s=some r:=by
 cases b with
 |true=>exact⟨rfl,h⟩
 |false=>cases h
theorem Zq {b:Bool} {x:M β} (h:(bif b then x else fail) s=some r):b=true/\x s=some r:=by
 cases b with
 |true=>exact⟨rfl,h⟩
 |false=>cases h
theorem Az {b:Bool} {x:M β} (h:(bif b then fail else x) s=some r):b=false/\x s=some r:=by
 cases b with
 |false=>exact⟨rfl,h⟩
 |true=>cases h
theorem Z5 {K:M β} (h:mI P t K s=some r): ∃d,P.underlying t=some d/\K s=some r:=by
 unfold mI at h;cases he:P.underlying t<;>rw[he]at h<;>first|exact⟨_,rfl,h⟩|cases h
theorem Ep {cs:af} {K:DV->M β} (h:fe cs i K s=some r): ∃d,cs[i]? =some d/\K d s=some r:=by
 unfold fe at h;cases he:cs[i]? <;>rw[he]at h<;>first|exact⟨_,rfl,h⟩|cases h
theorem Lf {cs:af} {K:M β} (h:bK cs n K s=some r):cs.length=n/\K s=some r:=by
 unfold bK at h;have⟨h1,h2⟩:=Zq h;simp_all
theorem ZkW {t v:Nat} {K:Nat->af->M β} (h:ET E t v K s=some r): ∃n cs,E.get t= .loc v n cs/\K n cs s=some r:=by
 unfold ET at h;cases he:E.get t with
 |loc v' n cs=>
  rw[he]at h;have⟨h1,h2⟩:=Zq h;have:=cO h1;grind
 |_=>rw[he]at h;cases h
theorem Bc {k k':IntKind} (h:pd k k'=true):k=k':=by cases k<;>cases k'<;>first|rfl|(simp[pd]at h)
theorem EH {x:B} {d:DV} {K:DV->M β} (h:d1 x d K s=some r):
  ∃d',K d' s=some r/\(∀(C:aY) ψ v,VR C ψ d v->VR C ψ d' v)/\(one d=true->one d'=true):=by
 unfold d1 at h;split at h
 .unfold p7 at h;split at h
  .grind
  .cases h
 .unfold dj at h;split at h
  .have⟨h1,h2⟩:=Zq h
   have:=Bc h1;subst this;grind
  .cases h
 .unfold Bn at h;split at h
  .grind
  .cases h
 .unfold uI at h;split at h
  .grind
  .cases h
 .unfold bJ at h;split at h
  .rename_i z a n
   have⟨h1,h2⟩:=Zq h;refine⟨_,h2,λC ψ v hv=>?_,λ_=>rfl⟩;simp only[kb]at h1;rcases h1 with h1|h1
   .have:=cO h1;subst this;exact hv
   .cases a with
    |none=>cases hv;exact .nI _
    |some _=>cases h1
  .cases h
 .unfold Mj at h;split at h
  .grind
  .cases h
 .grind
 .cases h
theorem Ar: ∀ {l:List B} {cs:af} {K:af->M β} {s:St} {r:Out β×St},kl l cs K s=some r->
  ∃ds,K ds s=some r/\ds.length=cs.length/\(∀(C:aY) ψ vs,ba C ψ cs vs->ba C ψ ds vs)/\(cs.all one=true->ds.all one=true)
 |[],cs,K,s,r,h=>by
  simp only[kl]at h;cases cs with
  |nil=>exact⟨[],h,rfl,λ_ _ _ h=>h,λh=>h⟩
  |cons _ _=>cases h
 |x::l,cs,K,s,r,h=>by
  have gen: ∀ {x:B},(im cs λd rest=>d1 x d λd'=>kl l rest λds=>K (d'::ds)) s=some r->
    ∃ds,K ds s=some r/\ds.length=cs.length/\(∀(C:aY) ψ vs,ba C ψ cs vs->ba C ψ ds vs)/\(cs.all one=true->ds.all one=true):=by
   intro x h;cases cs with
   |nil=>cases h
   |cons d rest=>
    simp only[im]at h;have⟨d',h,hd,h1⟩:=EH h;have⟨ds,h,hl,hr,h2⟩:=Ar h;refine⟨_,h,by simp[hl],λC ψ vs hv=>?_,λho=>?_⟩
    .cases hv with
     |cons _ v _ vs a b=>exact .cons _ _ _ _ (hd C ψ v a) (hr C ψ vs b)
    grind
  have gR: ∀ {n:Nat} ,(Mi n cs λxs rest=>kl l rest λds=>K (xs++ds)) s=some r->
    ∃ds,K ds s=some r/\ds.length=cs.length/\(∀(C:aY) ψ vs,ba C ψ cs vs->ba C ψ ds vs)/\(cs.all one=true->ds.all one=true):=by
   intro n h;unfold Mi at h;have⟨h1,h⟩:=Zq h;have⟨ds,h,hl,hr,h2⟩:=Ar h;refine⟨_,h,by simp[hl];omega,λC ψ vs hv=>?_,λho=>?_⟩
   .have e:vs=vs.take n++vs.drop n:=Do
    rw[e];exact(hv.take n).append (hr C ψ _ (hv.drop n))
   grind
  cases x with
  |gR n=>
   cases l with
   |nil=>
    simp only[kl]at h;have⟨hl,h⟩:=Lf h;grind
   |cons y l=>simp only[kl]at h;exact gR h
  |bool=>simp only[kl]at h;exact gen h
  |int k=>simp only[kl]at h;exact gen h
  |str=>simp only[kl]at h;exact gen h
  |ptr=>simp only[kl]at h;exact gen h
  |slice sz=>simp only[kl]at h;exact gen h
  |func=>simp only[kl]at h;exact gen h
  |any=>simp only[kl]at h;exact gen h
theorem Ev {x:Sh} {d:DV} {K:DV->M β} (h:tj x d K s=some r):
  ∃d',K d' s=some r/\(∀(C:aY) ψ v,VR C ψ d v->VR C ψ d' v)/\(one d=true->one d'=true):=by
 cases x with
 |b x=>exact EH h
 |agg l=>
  simp only[tj,nZ]at h;split at h
  .have⟨ds,h,hl,hr,h2⟩:=Ar h
   refine⟨_,h,λC ψ v hv=>?_,λh=>by cases h⟩;cases hv with
   |agg _ vs a b=>exact .agg _ _ (hr C ψ _ a) (h2 b)
  .cases h
theorem AF: ∀ {l:List Sh} {cs:af} {K:af->M β} {s:St} {r:Out β×St},uL l cs K s=some r->
  ∃ds,K ds s=some r/\ds.length=cs.length/\ds.length=l.length/\(∀(C:aY) ψ vs,ba C ψ cs vs->ba C ψ ds vs)
 |[],cs,K,s,r,h=>by
  simp only[uL]at h;cases cs with
  |nil=>exact⟨[],h,rfl,rfl,λ_ _ _ h=>h⟩
  |cons _ _=>cases h
 |x::l,cs,K,s,r,h=>by
  simp only[uL]at h;cases cs with
  |nil=>cases h
  |cons d rest=>
   simp only[im]at h;have⟨d',h,hd,_⟩:=Ev h;have⟨ds,h,hl,qm,hr⟩:=AF h;refine⟨_,h,by simp[hl],by simp[qm],λC ψ vs hv=>?_⟩;cases hv with
   |cons _ v _ vs a b=>exact .cons _ _ _ _ (hd C ψ v a) (hr C ψ vs b)
inductive SV (C:aY) (E:Env):List Operand->List DV->Prop
 |nil:SV C E [] []
 |cons {x:Operand} {d:DV} {l:List Operand} {ds:af} :E.src C x= .v d->SV C E l ds->SV C E (x::l) (d::ds)
theorem AA {C:aY} {E:Env} : ∀ {l:List Operand} {K:af->M β} {s:St} {r:Out β×St},tZ C E l K s=some r->
  ∃ds,K ds s=some r/\SV C E l ds
 |[],K,s,r,h=>⟨[],h,.nil⟩
 |x::l,K,s,r,h=>by
  simp only[tZ]at h;have⟨d,h1,h⟩:=Zt h;have⟨ds,h,h2⟩:=AA h;exact⟨_,h,.cons h1 h2⟩
theorem AO {C:aY} {o:Oper} {D:cJ->Prop} {E:Env} {s:St} {ψ:Ps} {Q:Kn} {a:Act} {w:World} (p:ax C o D E s ψ Q a w):
  ∀ {l:List Operand} {ds:af},(∀x∈l,x∈o.op.operands)->SV C E l ds->ba C ψ ds (l.map a.eval)
 |[],_,_,.nil=> .nil
 |x::l,_,hm,.cons h1 h2=> .cons _ _ _ _ (p.val (hm x Do) h1) (AO p Fd h2)
theorem Zkh (h:P.underlying t=some d): ∃i,P.info? t=some i/\i.size=P.cellsOf t:=by
 grind[Program.underlying,Program.cellsOf]
theorem Zk (w:World) (h:P.underlying t=some d):(underlying t).run P w= .ok d w:=by
 simp[underlying,h]
theorem ZT (w:World) (h:P.underlying t=some d):(sizeOf t).run P w= .ok (P.cellsOf t) w:=by
 have⟨i,h1,h2⟩:=Zkh h;simp[sizeOf,typeInfo,h1,h2]
theorem Ax (w:World) (h:P.underlying t=some d):(isAgg t).run P w= .ok (ZW P t) w:=by
 rw[isAgg,Sem.run_bind,Zk w h,Result.andThen_ok,ZW,h];cases d<;>rfl
theorem Ki (w:World) (h:jO P t=some z): ∃v,(zeroValue t).run P w= .ok v w/\(∀(C:aY) ψ,ba C ψ z v.cells.toList)/\z.all one=true:=by
 unfold jO at h;split at h
 .rename_i i hi
  split at h
  .rename_i v hv
   refine⟨v,by simp[zeroValue,typeInfo,hi,hv],λC ψ=>(xR h).1,?_⟩;exact(xR (C:=⟨P,id,λ_=>true,id,id,λ_=>true,λ_=>[],λ_=>false⟩) (ψ:=λ_=>none) h).2
  .cases h
 .cases h
theorem Znw {b:Nat} {fr:Nat×Nat} {cells:af} (hb:w.heap[b]? =some (.cells c ty fr)) (hf:fr=(0,0)\/c.size<=fr.1)
  (hr:ba C ψ cells (c.toList.take cells.length)) (ho:cells.all one=true):Holds C ψ w ⟨b,0,c.size⟩ (.cells false cells):=by
 have hl:cells.length<=c.size:=by
  have:=hr.len;grind
 refine⟨hl,ho,λj d hd=>?_,λ_=>⟨c,ty,fr,hb,Do,λj hj=>?_⟩⟩
 .have⟨v,hv,iB⟩:=hr.get hd
  refine⟨v,?_,iB⟩;rw[ug]at hv;split at hv
  .rw[cell_of_row w b _ c ty fr hb];simpa using hv
  .cases hv
 grind
theorem ZsK (a:Act) (t:Nat):a.eval (.tmp t)=a.tmps.getD t undef:=rfl
variable {K:Env->M β}
section
variable {C:aY} {o:Oper} {D W:cJ->Prop} {E:Env} {s:St} {md:Md} {pr ms:al}
theorem bz.QM (iN:Spec pr o) (aS: ∀h,W h->D h) (t:Nat) (ht:o.dst=some t) (e:dz) (ab:AB)
  (he:(∃n cells,e= .loc E.bq n cells/\ab= .cells false cells/\cells.length=n)\/(∃l p,e= .it E.bq l p/\ab= .iter l p))
  (hk:K ⟨E.bq+1,(t,e)::E.l⟩ s=some r)
  (cm: ∀ψ Q a w,ax C o D E s ψ Q a w->∃w' cb,(execOp a.eval o).run C.P w= .ok (.value (.pointer (some ⟨cb.b,0,none⟩))) w'/\fu w w'/\w.heap.size<=cb.b/\cb.b<w'.heap.size/\
   cb.o=0/\Holds C ψ w' cb ab):bz C md pr ms o D W E s K r:=by
 have hv:e.cd=some E.bq:=by rcases he with⟨n,c,rfl,_⟩|⟨l,p,rfl,_⟩<;>rfl
 have get: ∀u,(⟨E.bq+1,(t,e)::E.l⟩:Env).get u=if t=u then e else E.get u:=λu=>Env.UN _ _ _ _ _
 have crn: ∀ca,CR ⟨E.bq+1,(t,e)::E.l⟩ s (.inr E.bq) ca->gG E->ca=ab:=by
  intro ca c hE;rcases c with⟨u,n,cs,h,fm⟩|⟨u,l,p,h,fm⟩<;>rw[get]at h<;>split at h
  .grind
  .have:=hE.lt u E.bq (by rw[h];rfl);omega
  .grind
  .have:=hE.lt u E.bq (by rw[h];rfl);omega
 have cro: ∀h ca,CR ⟨E.bq+1,(t,e)::E.l⟩ s h ca->h≠ .inr E.bq->CR E s h ca:=by
  intro h ca c cS;cases h with
  |inl i=>exact c
  |inr v=>
   rcases c with⟨u,n,cs,h,fm⟩|⟨u,l,p,h,fm⟩<;>rw[get]at h<;>split at h
   .rw[h]at hv;grind
   .exact .inl ⟨u,n,cs,h,fm⟩
   .rw[h]at hv;grind
   .exact .inr ⟨u,l,p,h,fm⟩
 have gB:qS E s ⟨E.bq+1,(t,e)::E.l⟩ s (.inr E.bq):=⟨by simp[cY],by simp[cY]⟩;refine .inl ⟨_,_,hk,⟨aW _,Do,λhE=>⟨?_,?_,?_,?_⟩,?_,(λu d _ h=>by
   rw[get]at h;grind),?_,?_,?_,?_,λ_ _ _=>rfl,.inr iN,.inl rfl⟩,?_⟩
 .intro u v h
  rw[get]at h;split at h
  .rw[hv]at h;cases h;simp
  .have:=hE.lt u v h;simp only;omega
 .intro u x v n h
  rw[get]at h;split at h
  .rw[h]at hv;cases hv
  .have:=hE.pl u x v n h;simp only;omega
 .intro u v n cs h
  rw[get]at h;split at h
  .grind
  .exact hE.len u v n cs h
 .intro u u' v h h'
  rw[get]at h h';split at h<;>split at h'
  .omega
  .rw[hv]at h;cases h;have:=hE.lt u' _ h';omega
  .rw[hv]at h';cases h';have:=hE.lt u _ h;omega
  .exact hE.uniq u u' v h h'
 .grind
 .grind
 .grind
 .grind
 .grind
 .intro ψ Q a w next QQ p room hn
  have⟨w',cb,hr,hm,h1,h2,h0,hh⟩:=cm ψ Q a w p;have hf:=room _ gB;unfold Oper.wp;rw[hr];refine hn _ _ _ w' ⟨dN.new (cb:=cb) (ab:=ab) p.dD p.eS hm hf h1 (hh.same (λ_ _ e=>pI hf _ _ e) rfl),Ext.new hm hf h1 h2,λh c e=>?_,λh ca c cr hw e=>?_,λh ca c e q _ _=>?_⟩ (λd' hd=>?_)
  .by_cases eh:h= .inr E.bq
   .grind
   .rw[kM _ _ eh]at e;exact .inl e
  .by_cases eh:h= .inr E.bq
   .subst eh;exact .inl ⟨rfl,crn _ cr p.fh⟩
   .refine .inr ⟨eh,?_⟩
    rw[kM _ _ eh]at e;rcases hw with hw|⟨n1,n2⟩
    .exact p.gV h ca c (aS h hw) (cro h ca cr eh) e
    .exact absurd ((cro h ca cr eh).mh p.fh) n1
  .refine .inr ⟨λeh=>?_,q⟩
   grind
  .rw[ht]at hd;cases hd
   rw[get,bO rfl];rcases he with⟨n',c',rfl,_,hl⟩|⟨l,p,rfl,_⟩
   .exact⟨cb,lY _ _ _,h0,rfl⟩
   .exact⟨cb,lY _ _ _,rfl⟩
theorem bz.newVar (tq:(∃t,o.op= .alloc t)\/(∃t y,o.op= .box t y)) (aS: ∀h,W h->D h) {cells:af} (hlen:cells.length=n) (h:EI pr o n cells E K s=some r)
  (cm: ∀ψ Q a w,ax C o D E s ψ Q a w->∃w' cb,(execOp a.eval o).run C.P w= .ok (.value (.pointer (some ⟨cb.b,0,none⟩))) w'/\fu w w'/\w.heap.size<=cb.b/\cb.b<w'.heap.size/\
   cb.o=0/\Holds C ψ w' cb (.cells false cells)):bz C md pr ms o D W E s K r:=by
 unfold EI at h;cases ht:o.dst with
 |none=>rw[ht]at h;cases h
 |some t=>
  rw[ht]at h;simp only at h;cases hp:has pr t with
  |true=>
   rw[hp]at h;simp only[aa]at h;exact bz.QM (by rcases tq with⟨t,ho⟩|⟨t,y,ho⟩<;>(grind[Spec])) aS t ht _ _ Fd h cm
  |false=>
   rw[hp]at h;simp only[ae]at h;refine bz.CJ (by rcases tq with⟨t,ho⟩|⟨t,y,ho⟩<;>(grind[nS])) aS (.ptr (some (s.length,0))) cells (by simpa [dx,Env.dI,ht,bH]using h) λψ Q a w p=>?_
   have⟨w',cb,hr,hm,h1,h2,h0,hh⟩:=cm ψ Q a w p;refine⟨_,w',cb,hr,hm,h1,h2,hh,λψ' _ e=>?_⟩;have:=VR.ptr (C:=C) (ψ:=ψ') s.length 0 cb e;rwa [h0]at this
theorem Kv (t:TypeId) (v:Value) (w:World):(newVar t v).run P w= .ok ⟨w.heap.size,0,none⟩ (w.alloc (.cells v.cells t)):=by
 simp[newVar,newRow]
theorem Zmm (ho:o.op= .move y\/o.op= .assign y) (aS: ∀h,W h->D h) (h:tT E o K (E.src C y) s=some r):bz C md pr ms o D W E s K r:=by
 refine bz.pure aS (E.src C y) (Env.CX C E y) (λhE r v n h=>Env.xe C hE h) h λψ Q a w p=>⟨a.eval y,w,?_,.refl w,p.src ?_⟩
 .rcases ho with ho|ho<;>simp[execOp,ho]
 .rcases ho with ho|ho<;>simp[Op.operands,ho]
theorem Zri {b z:Operand} (ho:o.op= .pick b y z) (aS: ∀h,W h->D h) (h:LZ C E o K b y z s=some r):bz C md pr ms o D W E s K r:=by
 unfold LZ at h;have⟨t,hb,h⟩:=Kj h;have BL: ∀ψ Q a w,ax C o D E s ψ Q a w->a.eval b= .bool t:=λψ Q a w p=>by
  have:=p.val (x:=b) (by simp[Op.operands,ho]) hb;generalize a.eval b=v at this;cases this;rfl
 cases t with
 |true=>
  refine bz.pure aS (E.src C y) (Env.CX C E y) (λhE r v n h=>Env.xe C hE h) h λψ Q a w p=>⟨a.eval y,w,?_,.refl w,p.src (by simp[Op.operands,ho])⟩
  simp[execOp,ho,BL ψ Q a w p,asBool]
 |false=>
  refine bz.pure aS (E.src C z) (Env.CX C E z) (λhE r v n h=>Env.xe C hE h) h λψ Q a w p=>⟨a.eval z,w,?_,.refl w,p.src (by simp[Op.operands,ho])⟩
  simp[execOp,ho,BL ψ Q a w p,asBool]
theorem xP {cells:af} (hr:ba C ψ cells (c.toList.take cells.length)) (ho:cells.all one=true):
  Holds C ψ (w.alloc (.cells c t)) ⟨w.heap.size,0,c.size⟩ (.cells false cells):=
 Znw (heap_alloc_new w _) (.inl rfl) hr ho
theorem AY {l:List α} (h:n=l.length):l.take n=l:=by subst h;simp
theorem Zp4 (ho:o.op= .alloc t) (aS: ∀h,W h->D h) (h:Lq C E o K pr t s=some r):bz C md pr ms o D W E s K r:=by
 unfold Lq at h;cases hz:jO C.P t with
 |none=>rw[hz]at h;cases h
 |some z=>
  rw[hz]at h;simp only at h;have⟨hl,h⟩:=Zq h;refine bz.newVar (.inl ⟨t,ho⟩) aS (cO hl) h λψ Q a w p=>?_
  have⟨v,hv,hr,h1⟩:=Ki w hz;refine⟨w.alloc (.cells v.cells t),⟨w.heap.size,0,v.cells.size⟩,?_,.alloc w _,aW _,Do,rfl,?_⟩
  .simp[execOp,ho,Instr.alloc,hv,Kv]
  .exact xP (by rw[AY (by simpa using (hr C ψ).len)];exact hr C ψ) h1
theorem ZkJ {d:DV} {K:af->M β} (h:EU P t d K s=some r):
  ∃ds td,P.underlying t=some td/\K ds s=some r/\ds.length=P.cellsOf t/\∀(C:aY) ψ v,VR C ψ d v->ba C ψ ds v.cells.toList/\ds.all one=true/\v.cells.size=P.cellsOf t:=by
 unfold EU at h;have⟨td,N1,h⟩:=Z5 h;cases ha:ZW P t with
 |true=>
  rw[ha]at h;simp only[aa]at h;cases d with
  |agg cs=>
   have⟨hl,h⟩:=Lf h;refine⟨cs,td,N1,h,hl,λC ψ v hv=>?_⟩;cases hv with
   |agg _ vs a b=>exact⟨a,b,by rw[<-hl,a.len];simp[Value.cells]⟩
  |_=>cases h
 |false=>
  rw[ha]at h;simp only[ae]at h;have⟨hc,h⟩:=Zq h;have⟨h1,h⟩:=ZU h;have hc:=cO hc;refine⟨[d],td,N1,h,by simp[hc],λC ψ v hv=>?_⟩;rw[hv.Pn h1];exact⟨.cons _ _ _ _ hv .nil,by simp[h1],by simp[hc]⟩
theorem Zsb (ho:o.op= .box t y) (aS: ∀h,W h->D h) (h:Ou C E o K pr t y s=some r):bz C md pr ms o D W E s K r:=by
 unfold Ou at h;have⟨d,hd,h⟩:=Zt h;have⟨ds,td,N1,h,hl,hv⟩:=ZkJ h;refine bz.newVar (.inr ⟨t,y,ho⟩) aS hl h λψ Q a w p=>?_
 have⟨h1,h2,h3⟩:=hv C ψ _ (p.val (x:=y) (by simp[Op.operands,ho]) hd);refine⟨w.alloc (.cells (a.eval y).cells t),⟨w.heap.size,0,(a.eval y).cells.size⟩,?_,.alloc w _,aW _,Do,rfl,?_⟩
 .simp[execOp,ho,Instr.box,Kv]
 .exact xP (by rw[AY (by simpa using h1.len)];exact h1) h2
theorem ZmV (ho:o.op= .nilCheck y) (aS: ∀h,W h->D h) (h:Km C E o K y s=some r):bz C md pr ms o D W E s K r:=by
 unfold Km at h;rcases Ay h with⟨t,v,n,he,h⟩|⟨i,n,he,h⟩
 .refine bz.pure aS (.pl t v n) rfl (λhE r v' n' e=>by cases e;exact Env.xe C hE he) h λψ Q a w p=>⟨a.eval y,w,?_,.refl w,?_⟩
  .have:=p.src (x:=y) (by simp[Op.operands,ho])
   rw[he]at this;have⟨cb,_,_,h3⟩:=this;simp[execOp,ho,h3]
  .have:=p.src (x:=y) (by simp[Op.operands,ho])
   rw[he]at this;exact this
 .refine bz.val aS (.ptr (some (i,n))) h λψ Q a w p=>⟨a.eval y,w,?_,.refl w,?_⟩
  .have:=p.val (x:=y) (by simp[Op.operands,ho]) he
   generalize hx:a.eval y=x at this;cases this;simp[execOp,ho,hx]
  .exact p.val (x:=y) (by simp[Op.operands,ho]) he
theorem Zs5 {op:UnOp} (ho:o.op= .unOp op t y) (aS: ∀h,W h->D h) (h:Ow C E o K op y s=some r):bz C md pr ms o D W E s K r:=by
 unfold Ow at h;have⟨d,hd,h⟩:=Zt h;unfold unK at h;split at h
 .refine bz.val aS _ h λψ Q a w p=>?_
  have:=p.val (x:=y) (by simp[Op.operands,ho]) hd;generalize hx:a.eval y=x at this;cases this;exact⟨_,w,by simp[execOp,ho,hx,Op.unary],.refl w,.bool _⟩
 .refine bz.val aS _ h λψ Q a w p=>?_
  have:=p.val (x:=y) (by simp[Op.operands,ho]) hd;generalize hx:a.eval y=x at this;cases this;exact⟨_,w,by simp[execOp,ho,hx,Op.unary,Op.intArith],.refl w,.int _ _⟩
 .cases h
theorem Zp0 (ho:o.op= .makeInterface t y) (aS: ∀h,W h->D h) (h:LV C E o K t y s=some r):bz C md pr ms o D W E s K r:=by
 unfold LV at h;cases ht:C.P.underlying t with
 |none=>rw[ht]at h;cases h
 |some td=>
  have B5: ∀m,td≠ .interface m:=by rintro m rfl;rw[ht]at h;cases h
  have h':dQ C E y (λd=>dx E o K (.iface (C.ty t) d)) s=some r:=by rw[ht]at h;cases td<;>first|exact h|grind
  have⟨d,hd,h'⟩:=Zt h';refine bz.val aS _ h' λψ Q a w p=>⟨.iface t (a.eval y),w,?_,.refl w,.iface _ _ _ (p.val (x:=y) (by simp[Op.operands,ho]) hd)⟩
  simp only[execOp,ho,Instr.makeInterface,Sem.run_bind,Zk w ht,Result.andThen_ok];cases td<;>first|rfl|exact absurd rfl (B5 _)
theorem Zq6 {f:Fn} (ho:o.op= .makeFunc f first cap) (aS: ∀h,W h->D h) (h:Mh C E o K f first cap s=some r):bz C md pr ms o D W E s K r:=by
 unfold Mh at h;cases f with
 |func f=>
  simp only at h;have⟨hc,h⟩:=Zq h;have⟨fs,h,h1⟩:=AA h;have⟨cs,h,h2⟩:=AA h;refine bz.val aS _ h λψ Q a w p=>⟨.func (.func f) (first.map a.eval) (cap.map a.eval),w,by simp[execOp,ho,Instr.makeFunc],.refl w,.func _ _ _ _ _ hc ?_ ?_⟩
  .have:=AO p (l:=first.toList) (λx hx=>by simp only[Op.operands,ho,Array.mem_append];grind) h1
   simpa using this
  .have:=AO p (l:=cap.toList) (λx hx=>by simp only[Op.operands,ho,Array.mem_append];grind) h2
   simpa using this
 |_=>cases h
theorem Zob {t:Nat} (ho:o.op= .extract (.tmp t) i) (aS: ∀h,W h->D h) (h:KZ E o K t i s=some r):bz C md pr ms o D W E s K r:=by
 unfold KZ at h;cases he:E.get t with
 |lL ds=>
  rw[he]at h;simp only at h;cases hd:ds[i]? with
  |none=>rw[hd]at h;cases h
  |some d=>
   rw[hd]at h;refine bz.val aS d h λψ Q a w p=>?_
   have:=p.args t (by simp[Op.operands,ho]);rw[he]at this;have⟨vs,kz,hr⟩:=this;have⟨v,hv,hr⟩:=hr.get hd;refine⟨v,w,?_,.refl w,hr⟩;have dB:vs[i]? =some v:=by simpa using hv
   simp[execOp,ho,ZsK,kz,Instr.extract,dB]
 |_=>rw[he]at h;cases h
end
section
variable {C:aY} {o:Oper} {D W:cJ->Prop} {E:Env} {s:St} {md:Md} {pr ms:al}
theorem Z2 (P:Program) (a:Addr) (w:World):(Instr.sureAddr (.pointer (some a))).run P w= .ok a w:=rfl
theorem Zlz {f:Nat} (ho:o.op= .fieldAddr t y f) (aS: ∀h,W h->D h) (h:DS C E o K t y f s=some r):bz C md pr ms o D W E s K r:=by
 unfold DS at h;cases ht:C.P.underlying t with
 |none=>rw[ht]at h;cases h
 |some td=>
  rw[ht]at h;cases td with
  |struct fs=>
   simp only at h;cases hf:fs[f]? with
   |none=>rw[hf]at h;cases h
   |some fd=>
    rw[hf]at h;simp only at h;have⟨hc,h⟩:=Az h;have hc:=Dg hc;have bS: ∀w,(sizeOf fd.type).run C.P w= .ok (C.P.cellsOf fd.type) w:=by
     intro w;unfold Program.cellsOf at hc⊢;cases hi:C.P.info? fd.type with
     |none=>rw[hi]at hc;simp at hc
     |some i=>simp[sizeOf,typeInfo,hi]
    have run: ∀(a:Act) (w:World) b n,a.eval y= .pointer (some ⟨b,n,none⟩)->(execOp a.eval o).run C.P w= .ok (.value (.pointer (some ⟨b,n+fd.offset,none⟩))) w:=by
     intro a w b n hy;simp[execOp,ho,hy,Instr.fieldAt,Zk w ht,hf,Z2,fieldPlace,bS,hc,uz]
    rcases Ay h with⟨x,v,n,he,h⟩|⟨i,n,he,h⟩
    .refine bz.pure aS _ rfl (λhE r v' n' e=>by cases e;exact Env.xe C hE he) h λψ Q a w p=>?_
     have:=p.src (x:=y) (by simp[Op.operands,ho]);rw[he]at this;have⟨cb,h1,h2,h3⟩:=this;exact⟨_,w,run a w _ _ h3,.refl w,cb,h1,h2,rfl⟩
    .refine bz.val aS _ h λψ Q a w p=>?_
     have:=p.val (x:=y) (by simp[Op.operands,ho]) he;generalize hy:a.eval y=v at this;cases this with
     |ptr _ _ cb e=>exact⟨_,w,run a w _ _ hy,.refl w,by rw[oy];exact .ptr _ _ cb e⟩
  |_=>cases h
theorem DN (P:Program) (k:IntKind) (n:Int) (w:World):(asIntOf (.int k n)).run P w= .ok (k,n) w:=rfl
theorem Be {n:Int} (h:bL n m=true):0<=n/\n<m:=by
 simp only[bL,aZ,vB]at h;exact h
theorem Zl4 {i:Operand} (ho:o.op= .indexAddr t y i) (aS: ∀h,W h->D h) (h:JN C E o K t y i s=some r):bz C md pr ms o D W E s K r:=by
 unfold JN at h;have⟨k,n,hi,h⟩:=xY h;have iv: ∀ψ Q a w,ax C o D E s ψ Q a w->a.eval i= .int k n:=λψ Q a w p=>by
  have:=p.val (x:=i) (by simp[Op.operands,ho]) hi;generalize a.eval i=v at this;cases this;rfl
 cases ht:C.P.underlying t with
 |none=>rw[ht]at h;cases h
 |some td=>
  rw[ht]at h;cases td with
  |slice e=>
   simp only at h;have⟨ed,he,h⟩:=Z5 h;have⟨d,hd,h⟩:=Zt h;cases d with
   |slice z a m=>
    simp only at h;have⟨hz,h⟩:=Zq h;obtain⟨j,p0,rfl,h⟩:=LH h;have⟨hb,h⟩:=ZU h;have⟨hZ,fV⟩:=Be hb;simp only[pF,xl]at hz;have hz:=cO hz;refine bz.val aS _ h λψ Q a w p=>?_
    have hv:=p.val (x:=y) (by simp[Op.operands,ho]) hd;generalize hy:a.eval y=v at hv;cases hv with
    |slice _ _ _ _ cb ad cap e1 e2 e3=>
     have⟨e4,e5⟩:=e3 AC;refine⟨.pointer (some ⟨cb.b,cb.o+(n.toNat*C.P.cellsOf e+p0),none⟩),w,?_,.refl w,.ptr _ _ cb e1⟩;rw[oz _ p0];simp[execOp,ho,hy,iv ψ Q a w p,Instr.indexAt,Zk w ht,DN,hZ,fV,ZT w he,e4,uz,oy]
   |_=>cases h
  |array m e=>
   simp only at h;have⟨ed,he,h⟩:=Z5 h;have run: ∀ψ Q (a:Act) (w:World) b p0,ax C o D E s ψ Q a w->a.eval y= .pointer (some ⟨b,p0,none⟩)->0<=n->n<m->
     (execOp a.eval o).run C.P w= .ok (.value (.pointer (some ⟨b,p0+n.toNat*C.P.cellsOf e,none⟩))) w:=by
    intro ψ Q a w b p0 p hy hZ fV;simp[execOp,ho,hy,iv ψ Q a w p,Instr.indexAt,Zk w ht,DN,hZ,fV,Z2,ZT w he,uz]
   rcases Ay h with⟨x,v,p0,hx,h⟩|⟨x,p0,hx,h⟩
   .have⟨hb,h⟩:=ZU h
    have⟨hZ,fV⟩:=Be hb;refine bz.pure aS _ rfl (λhE r v' n' e=>by cases e;exact Env.xe C hE hx) h λψ Q a w p=>?_
    have:=p.src (x:=y) (by simp[Op.operands,ho]);rw[hx]at this;have⟨cb,h1,h2,h3⟩:=this;exact⟨_,w,run ψ Q a w _ _ p h3 hZ fV,.refl w,cb,h1,h2,by rw[oz]⟩
   .have⟨hb,h⟩:=ZU h
    have⟨hZ,fV⟩:=Be hb;refine bz.val aS _ h λψ Q a w p=>?_
    have:=p.val (x:=y) (by simp[Op.operands,ho]) hx;generalize hy:a.eval y=v at this;cases this with
    |ptr _ _ cb e1=>exact⟨_,w,run ψ Q a w _ _ p hy hZ fV,.refl w,by rw[oz _ p0,oy];exact .ptr _ _ cb e1⟩
  |_=>cases h
theorem Zog (w:World) (h:P.underlying t=some d) (ha:ZW P t=true) (cs:Array Value) (off:Nat):
  (Go.part t cs off).run P w= .ok (.agg (cs.extract off (off+P.cellsOf t))) w:=by
 simp[Go.part,Ax w h,ha,ZT w h]
theorem Zo1 (w:World) (h:P.underlying t=some d) (ha:ZW P t=false) {cs:Array Value} (hv:cs[off]? =some v):
  (Go.part t cs off).run P w= .ok v w:=by
 simp[Go.part,Ax w h,ha,hv]
theorem ZpR (h:ba C ψ ds vs.toList) (off n:Nat):ba C ψ ((ds.drop off).take n) (vs.extract off (off+n)).toList:=by
 have:=(h.drop off).take n;rw[Array.toList_extract,G8];simpa using this
theorem Lt {cs:af} (h:cs.all one=true):((cs.drop off).take n).all one=true:=
 Fd
theorem Zov (ht:C.P.underlying t=some td) (aS: ∀h,W h->D h) {cs:af}
  (h:(bif ZW C.P t then dx E o K (.agg ((cs.drop off).take (C.P.cellsOf t)))else Go.Gv.fe cs off λd=>tj (jG C.P t) d (dx E o K)) s=some r)
  (cm: ∀ψ Q a w,ax C o D E s ψ Q a w->∃vs,ba C ψ cs vs.toList/\cs.all one=true/\(∀v,(Go.part t vs off).run C.P w= .ok v w->(execOp a.eval o).run C.P w= .ok (.value v) w)):bz C md pr ms o D W E s K r:=by
 cases ha:ZW C.P t with
 |true=>
  rw[ha]at h;refine bz.val aS _ h λψ Q a w p=>?_
  have⟨vs,h1,h2,h3⟩:=cm ψ Q a w p;exact⟨_,w,h3 _ (Zog w ht ha vs off),.refl w,.agg _ _ (ZpR h1 _ _) (Lt h2)⟩
 |false=>
  rw[ha]at h;simp only[ae]at h;have⟨d,hd,h⟩:=Ep h;have⟨d',h,hr,_⟩:=Ev h;refine bz.val aS _ h λψ Q a w p=>?_
  have⟨vs,h1,h2,h3⟩:=cm ψ Q a w p;have⟨v,hv,iB⟩:=h1.get hd;exact⟨v,w,h3 _ (Zo1 w ht ha (by simpa using hv)),.refl w,hr C ψ v iB⟩
theorem ZpL {f:Nat} (ho:o.op= .field t y f) (aS: ∀h,W h->D h) (h:Ly C E o K t y f s=some r):bz C md pr ms o D W E s K r:=by
 unfold Ly at h;cases ht:C.P.underlying t with
 |none=>rw[ht]at h;cases h
 |some td=>
  rw[ht]at h;cases td with
  |struct fs=>
   simp only at h;cases hf:fs[f]? with
   |none=>rw[hf]at h;cases h
   |some fd=>
    rw[hf]at h;simp only at h;have⟨ed,he,h⟩:=Z5 h;have⟨d,hd,h⟩:=Zt h;cases d with
    |agg cs=>
     refine Zov he aS h λψ Q a w p=>?_
     have hv:=p.val (x:=y) (by simp[Op.operands,ho]) hd;generalize hy:a.eval y=v at hv;cases hv with
     |agg _ vs h1 h2=>exact⟨vs,h1,h2,λv hp=>by simp[execOp,ho,hy,Instr.field,Zk w ht,hf,asAgg,hp]⟩
    |_=>cases h
  |_=>cases h
theorem ZrI (s:ByteArray) (i:Nat):s[i]? =s.data.toList[i]? :=by
 rcases jd i s.data.toList.length with h|h
 .have h':i<s.size:=by rw[kG]at h;exact h
  rw[dt h,getElem?_pos s i h',ByteArray.getElem_eq_getElem_data,Array.getElem_toList]
 simp_all
theorem ZpS {i:Operand} (ho:o.op= .index t y i) (aS: ∀h,W h->D h) (h:LS C E o K t y i s=some r):bz C md pr ms o D W E s K r:=by
 unfold LS at h;have⟨k,n,hi,h⟩:=xY h;have⟨d,hd,h⟩:=Zt h;have iv: ∀ψ Q a w,ax C o D E s ψ Q a w->a.eval i= .int k n:=λψ Q a w p=>by
  have:=p.val (x:=i) (by simp[Op.operands,ho]) hi;generalize a.eval i=v at this;cases this;rfl
 cases ht:C.P.underlying t with
 |none=>rw[ht]at h;cases h
 |some td=>
  rw[ht]at h;cases td with
  |string=>
   cases d with
   |str l=>
    simp only at h;have⟨hb,h⟩:=ZU h;have⟨hZ,fV⟩:=Be hb;refine bz.val aS _ h λψ Q a w p=>?_
    have hv:=p.val (x:=y) (by simp[Op.operands,ho]) hd;generalize hy:a.eval y=v at hv;cases hv with
    |str x=>
     have hg:x[n.toNat]? =some x.data.toList[n.toNat]:=by rw[ZrI];grind
     refine⟨.int .u8 (yy x.data.toList n),w,?_,.refl w,.int _ _⟩;simp only[execOp,ho,hy,iv ψ Q a w p,Instr.index,Sem.run_bind,DN,Zk w ht,Result.andThen_ok,hZ,ju,hg,Sem.run_pure,yy];grind
   |_=>cases h
  |array m e=>
   cases d with
   |agg cs=>
    simp only at h;have⟨ed,he,h⟩:=Z5 h;have⟨hb,h⟩:=ZU h;have⟨hZ,fV⟩:=Be hb;refine Zov he aS h λψ Q a w p=>?_
    have hv:=p.val (x:=y) (by simp[Op.operands,ho]) hd;generalize hy:a.eval y=v at hv;cases hv with
    |agg _ vs h1 h2=>exact⟨vs,h1,h2,λv hp=>by simp[execOp,ho,hy,iv ψ Q a w p,Instr.index,DN,Zk w ht,hZ,fV,ZT w he,hp]⟩
   |_=>cases h
  |_=>cases d<;>cases h
end
theorem Mb {y:B} (h:jG P t= .b y):ZW P t=false:=by
 grind[jG]
theorem Zol {l:List B} (h:jG P t= .agg l):ZW P t=true:=by
 grind[jG]
theorem Eb {cs:af} {d:DV} (h:Holds C ψ w cb (.cells f cs)) (hd:cs[p]? =some d):
  ∃v,(load ⟨cb.b,cb.o+p,none⟩).run P w= .ok v w/\VR C ψ d v/\one d=true:=by
 have⟨v,hv,hr⟩:=h.2.2.1 p d hd;exact⟨v,by rw[run_load,hv],hr,sD.1 h.2.1 _ (z7 hd)⟩
theorem Zkd {cs:af} (h:Holds C ψ w cb (.cells f cs)) (hn:p+n<=cs.length):
  ∃vs,(∀w',w'.heap=w.heap->(loadCells ⟨cb.b,cb.o+p,none⟩ n).run P w'= .ok vs w')/\vs.size=n/\ba C ψ ((cs.drop p).take n) vs.toList/\((cs.drop p).take n).all one=true:=by
 have hc: ∀j,j<n->∃v,w.cell? ⟨cb.b,cb.o+p+j,none⟩=some v/\∀d,cs[p+j]? =some d->VR C ψ d v:=by
  intro j hj;have⟨v,hv,hr⟩:=h.2.2.1 (p+j) cs[p+j] Do;grind
 let f:Nat->Value:=λj=>(w.cell? ⟨cb.b,cb.o+p+j,none⟩).getD undef
 have hf: ∀w':World,w'.heap=w.heap->∀j,j<n->w'.cell? ((⟨cb.b,cb.o+p,none⟩:Addr).add j)=some (f j):=by
  intro w' hw j hj;have⟨v,hv,_⟩:=hc j hj;have e:w'.cell? ((⟨cb.b,cb.o+p,none⟩:Addr).add j)=w.cell? ((⟨cb.b,cb.o+p,none⟩:Addr).add j):=by simp only[World.cell?,hw]
  rw[e,uz,hv];simp[f,hv]
 refine⟨_,λw' hw=>run_loadCells w' _ n f (hf w' hw),Do,ba.of _ _ ?_ ?_,Lt h.2.1⟩
 .simp;omega
 grind
theorem DO {cs:af} (h:Holds C ψ w cb (.cells f cs)) (hn:p+n<=cs.length:=by omega):
  ∃vs,(loadCells ⟨cb.b,cb.o+p,none⟩ n).run P w= .ok vs w/\vs.size=n/\ba C ψ ((cs.drop p).take n) vs.toList/\((cs.drop p).take n).all one=true:=
 let ⟨vs,a,b⟩:=Zkd (P:=P) h hn
 ⟨vs,a w rfl,b⟩
section
variable {C:aY} {o:Oper} {D W:cJ->Prop} {E:Env} {s:St} {md:Md} {pr ms:al}
theorem Dy (ht:P.underlying t=some td) (ha:ZW P t=true) (a:Addr) (w:World) (h:(loadCells a (P.cellsOf t)).run P w= .ok vs w):
  (loadVar t a).run P w= .ok (.agg vs) w:=by
 simp[loadVar,Ax w ht,ha,ZT w ht,h]
theorem Al (ht:P.underlying t=some td) (ha:ZW P t=false) (a:Addr) (w:World) (h:(load a).run P w= .ok v w):
  (loadVar t a).run P w= .ok v w:=by
 rw[loadVar,Sem.run_bind,Ax w ht,ha];simpa using h
theorem Ztl {cs:af} (hn:cs.length=n):part n cs p m=(cs.drop p).take m:=by
 unfold part;cases h:Nat.beq m n&&Nat.beq p 0 with
 |false=>rfl
 |true=>
  simp only[aZ]at h;have h1:=cO h.2;have h2:=cO h.1;grind
theorem LL {cs:af} (hn:cs.length=n) (hd:ds.length=m) (hp:p+m<=n):se n m cs p ds=cT cs p ds:=by
 unfold se;cases h:Nat.beq m n&&Nat.beq p 0 with
 |false=>rfl
 |true=>
  simp only[aZ]at h;have h1:=cO h.2;have h2:=cO h.1;subst h1;subst h2;subst hn;rw[aa];apply xo;intro j;rw[AZ cs 0 ds j AC];by_cases hj:j<ds.length
  .rw[bO AC];simp
  grind
theorem AG {K:af->M β} (h:bP i p n K s=some r): ∃f cs,cu s i=some (.cells f cs)/\p+n<=cs.length/\K ((cs.drop p).take n) s=some r:=by
 unfold bP at h;unfold St.cells at h;unfold cu;cases hs:s[i]? with
 |none=>rw[hs]at h;cases h
 |some x=>
  cases x with
  |none=>rw[hs]at h;cases h
  |some b=>
   rw[hs]at h;simp only at h;cases hb:Nat.ble (p+n) b.cells.length with
   |false=>rw[hb]at h;cases h
   |true=>rw[hb]at h;exact⟨_,_,rfl,lQ hb,h⟩
theorem Zly {K:DV->M β} (h:bc i p K s=some r): ∃f cs d,cu s i=some (.cells f cs)/\cs[p]? =some d/\K d s=some r:=by
 unfold bc at h;unfold St.cells at h;unfold cu;cases hs:s[i]? with
 |none=>rw[hs]at h;cases h
 |some x=>
  cases x with
  |none=>rw[hs]at h;cases h
  |some b=>
   rw[hs]at h;grind
theorem ax.at {a:Act} (p:ax C o D E s ψ Q a w) (hD:D (.inl i)) (h:cu s i=some ab) (e:ψ (.inl i)=some cb):Holds C ψ w cb ab:=
 p.dD.holds _ cb ab e (p.gV (.inl i) ab cb hD h e)
theorem ax.loc {a:Act} (p:ax C o D E s ψ Q a w) {t v:Nat} {cs:af} (hD:D (.inr v)) (h:E.get t= .loc v n cs) (e:ψ (.inr v)=some cb):Holds C ψ w cb (.cells false cs):=
 p.dD.holds _ cb _ e (p.gV (.inr v) _ cb hD (.inl ⟨t,n,cs,h,rfl⟩) e)
theorem Zrj {x:Operand} (ho:o.op= .load t x) (aS: ∀h,W h->D h) (hDl: ∀r v,md.loc r=true->(E.get r).cd=some v->D (.inr v)) (MU:md.Fu=true->∀i p,E.src C x= .v (.ptr (some (i,p)))->D (.inl i)) (h:EV C E o K md t x s=some r):bz C md pr ms o D W E s K r:=by
 unfold EV at h;have⟨td,ht,h⟩:=Z5 h;rcases Ay h with⟨y,v,p0,hx,h⟩|⟨i,p0,hx,h⟩
 .have⟨hm,h⟩:=Zq h
  have⟨n,cs,hl,h⟩:=ZkW h;have hD:=hDl y v hm (by rw[hl];rfl);have addr: ∀ψ Q a w,ax C o D E s ψ Q a w->∃cb,ψ (.inr v)=some cb/\cb.o=0/\a.eval x= .pointer (some ⟨cb.b,p0,none⟩):=λψ Q a w p=>by
   have:=p.src (x:=x) (by simp[Op.operands,ho]);rw[hx]at this;exact this
  cases hs:jG C.P t with
  |b y'=>
   rw[hs]at h;have⟨d,hd,h⟩:=Ep h;have⟨d',h,hr,_⟩:=EH h;refine bz.val aS _ h λψ Q a w p=>?_
   have⟨cb,e1,e2,e3⟩:=addr ψ Q a w p;have⟨v,hv,iU,_⟩:=Eb (P:=C.P) (p.loc hD hl e1) hd;rw[e2,ei]at hv;refine⟨v,w,?_,.refl w,hr C ψ v iU⟩;simp only[execOp,ho,e3,Instr.loadAt,Sem.run_bind,Z2,Result.andThen_ok,Al ht (Mb hs) _ w hv,Sem.run_pure]
  |agg l=>
   rw[hs]at h;simp only at h;have⟨hb,h⟩:=ZU h;have hb:=lQ hb;refine bz.val aS _ h λψ Q a w p=>?_
   have hlen:=p.fh.len y v n cs hl;have⟨cb,e1,e2,e3⟩:=addr ψ Q a w p;have⟨vs,hv,_,iU,h1⟩:=DO (P:=C.P) (p.loc hD hl e1) (p:=p0) (n:=C.P.cellsOf t);rw[e2,ei]at hv;refine⟨_,w,?_,.refl w,by rw[Ztl hlen];exact .agg _ vs iU h1⟩;simp only[execOp,ho,e3,Instr.loadAt,Sem.run_bind,Z2,Result.andThen_ok,Dy ht (Zol hs) _ w hv,Sem.run_pure]
 .have⟨hm,h⟩:=Zq h
  have hD:=MU hm i p0 hx;have addr: ∀ψ Q a w,ax C o D E s ψ Q a w->∃cb,ψ (.inl i)=some cb/\a.eval x= .pointer (some ⟨cb.b,cb.o+p0,none⟩):=λψ Q a w p=>by
   have:=p.val (x:=x) (by simp[Op.operands,ho]) hx;generalize a.eval x=y at this;cases this with
   |ptr _ _ cb e=>exact⟨cb,e,rfl⟩
  cases hs:jG C.P t with
  |b y'=>
   rw[hs]at h;have⟨f,cs,d,bx,hd,h⟩:=Zly h;have⟨d',h,hr,_⟩:=EH h;refine bz.val aS _ h λψ Q a w p=>?_
   have⟨cb,e1,e3⟩:=addr ψ Q a w p;have⟨v,hv,iU,_⟩:=Eb (P:=C.P) (p.at hD bx e1) hd;refine⟨v,w,?_,.refl w,hr C ψ v iU⟩;simp only[execOp,ho,e3,Instr.loadAt,Sem.run_bind,Z2,Result.andThen_ok,Al ht (Mb hs) _ w hv,Sem.run_pure]
  |agg l=>
   rw[hs]at h;have⟨f,cs,bx,hb,h⟩:=AG h;have⟨ds,h,_,hr,h1⟩:=Ar h;refine bz.val aS _ h λψ Q a w p=>?_
   have⟨cb,e1,e3⟩:=addr ψ Q a w p;have⟨vs,hv,_,iU,h2⟩:=DO (P:=C.P) (p.at hD bx e1) hb;refine⟨_,w,?_,.refl w,.agg _ vs (hr C ψ _ iU) (h1 h2)⟩;simp only[execOp,ho,e3,Instr.loadAt,Sem.run_bind,Z2,Result.andThen_ok,Dy ht (Zol hs) _ w hv,Sem.run_pure]
structure uo (w w':World) (b:Nat):Prop where
 other: ∀k,k≠b->w'.heap[k]? =w.heap[k]?
 size:w'.heap.size=w.heap.size
 tape:w'.tape=w.tape
 os:w'.os=w.os
 output:oE w w'
theorem uo.ja (w:World) (b:Nat) (ob:Obj):uo w (ja w b ob) b:=
 ⟨λ_ h=>Zrk h ob,GQ w b ob,rfl,rfl,rfl,aW _⟩
theorem Zk1 {cs:af} {vs:List Value} (h:Holds C ψ w cb (.cells false cs)) (hr:ba C ψ ds vs) (h1:ds.all one=true)
  (hp:p+ds.length<=cb.m) (ho:o'+cs'.length<=cb.m) (fW:cs'.all one=true)
  (hc: ∀j d,cs'[j]? =some d->(p<=o'+j/\o'+j<p+ds.length/\ds[o'+j-p]? =some d)\/((o'+j<p\/p+ds.length<=o'+j)/\cs[o'+j]? =some d)):
  ∃w',(storeCells ⟨cb.b,cb.o+p,none⟩ vs).run P w= .ok () w'/\uo w w' cb.b/\Holds C ψ w' ⟨cb.b,cb.o+o',cb.m-o'⟩ (.cells false cs'):=by
 have⟨c,ty,fr,hb,bS,nn⟩:=h.2.2.2 rfl;have hl:=hr.len;have cm:=Ja P cb.b (cb.o+p) ty fr vs 0 w c hb (hr.QS h1) AC Fd;simp only[dK]at cm;refine⟨_,cm,uo.ja w _ _,by simp only;omega,fW,λj d hd=>?_,λ_=>⟨_,ty,fr,Ea (AK hb) _,by simp;omega,λj hj=>?_⟩⟩
 .dsimp only
  rw[cell_of_row _ _ _ _ ty fr (Ea (AK hb) _),EF _ _ _ _ AC];rcases hc j d hd with⟨a1,a2,a3⟩|⟨a1,a2⟩
  .rw[bO ⟨AC,AC⟩]
   have⟨v,hv,iU⟩:=hr.get a3;grind
  .rw[cG AC]
   have⟨v,hv,iU⟩:=h.2.2.1 _ _ a2;rw[cell_of_row _ _ _ _ ty fr hb]at hv;grind
 .have:=nn (o'+j) (by simp only at hj;omega)
  rw[<-oy]at this;exact this
theorem Zqq {cs:af} (h:cs.all one=true) (h':ds.all one=true) (hp:p+ds.length<=cs.length):(cT cs p ds).all one=true:=by
 refine sD.2 λx hx=>?_
 have⟨j,hj⟩:=xr hx;rw[AZ cs p ds j hp]at hj;grind
theorem En {cs:af} {vs:List Value} (h:Holds C ψ w cb (.cells false cs)) (hr:ba C ψ ds vs) (h1:ds.all one=true)
  (hp:p+ds.length<=cs.length):
  ∃w',(storeCells ⟨cb.b,cb.o+p,none⟩ vs).run P w= .ok () w'/\uo w w' cb.b/\Holds C ψ w' cb (.cells false (cT cs p ds)):=by
 have hm:=h.1;have e1:p+ds.length<=cb.m:=AC
 have e2:0+(cT cs p ds).length<=cb.m:=by rw[AE];omega
 have⟨w',a,b,c⟩:=Zk1 (P:=P) (cs':=cT cs p ds) (o':=0) h hr h1 e1 e2 (Zqq h.2.1 h1 hp) (λj d hd=>by
  rw[AZ cs p ds j hp]at hd;grind)
 simp_all
theorem KG {cs:af} (h:s.fJ i=some cs):cu s i=some (.cells false cs)/\i<s.length:=by
 grind[St.fJ,cu]
theorem Zjr (h:i<s.length) (b:aH):cu (s.set i (some b)) i=some (.cells b.jS b.cells):=by simp[cu,h]
theorem DP (h:i≠j) (b:Option aH):cu (s.set i b) j=cu s j:=by grind[cu]
theorem bz.OC (aS: ∀h,W h->D h) (hW:W (.inl i)) (e:dz) (hv:e.cd=none) (hp:gG E->∀r v n,e= .pl r v n->v<E.bq) {cs:af}
  (hi:s.fJ i=some cs) (hk:K (E.dI o.dst e) (s.set i (some ⟨false,cs'⟩))=some r)
  (cm: ∀ψ Q a w,ax C o D E s ψ Q a w->∃cb,ψ (.inl i)=some cb/\(Holds C ψ w cb (.cells false cs)->∃v w',((execOp a.eval o).run C.P w= .ok (.value v) w'\/(execOp a.eval o).run C.P w= .ok .skip w'/\v=undef)/\
   uo w w' cb.b/\Holds C ψ w' cb (.cells false cs')/\eV C ψ e v)):bz C md pr ms o D W E s K r:=by
 have⟨bx,aw⟩:=KG hi;refine .inl ⟨_,_,hk,jw.put pr ms e hv hp Do (λj ab h=>?_) (λj h _=>?_) (.inl Do),?_⟩
 .by_cases e:j=i
  .subst e;exact .inl hW
  .rw[DP (λe'=>e e'.symm)]at h;exact .inr (.inr h)
 .grind
 intro ψ Q a w next QQ p room hn;have⟨cb,eM,hh⟩:=cm ψ Q a w p;have hq:Q (.inl i) (.cells false cs):=p.gV (.inl i) _ cb (aS _ hW) bx eM;have⟨v,w',hr,bN,BV,dB⟩:=hh (p.dD.holds _ cb _ eM hq);have post:Dp C D W E s (E.dI o.dst e) (s.set i (some ⟨false,cs'⟩)) ψ Q w ψ (sj Q (.inl i) (.cells false cs')) w':=by
  refine⟨dN.set p.dD eM hq rfl bN.other BV,Ext.set eM hq rfl bN.other bN.size bN.tape bN.os bN.output,λ_ _ e=> .inl e,λh ab c cr hw e'=>?_,λh ab c e' q nw _=>?_⟩
  .by_cases eh:h= .inl i
   .subst eh
    have kU:cu (s.set i (some ⟨false,cs'⟩)) i=some ab:=cr;rw[Zjr aw]at kU;cases kU;exact .inl ⟨rfl,rfl⟩
   .refine .inr ⟨eh,?_⟩
    have dV:CR E s h ab:=by
     cases h with
     |inl j=>
      have kU:cu (s.set i (some ⟨false,cs'⟩)) j=some ab:=cr;rw[DP (λe=>eh (by rw[e]))]at kU;exact kU
     |inr x=>exact CR.dI (t:=o.dst) (e:=e) (s:=s) hv cr
    rcases hw with hw|⟨n1,n2⟩
    .exact p.gV h ab c (aS h hw) dV e'
    .exact absurd (dV.mh p.fh) n1
  .exact .inr Fd
 have du: ∀d,o.dst=some d->eV C ψ ((E.dI o.dst e).get d) v:=λd hd=>by rw[Env.iw,bO hd];exact dB
 unfold Oper.wp;rcases hr with hr|⟨hr,rfl⟩
 .rw[hr];exact hn ψ _ v w' post du
 .rw[hr];exact hn ψ _ _ w' post du
theorem ZlW {K:M β} (h:bB i p ds K s=some r):
  ∃cs,s.fJ i=some cs/\p+ds.length<=cs.length/\K (s.set i (some ⟨false,cT cs p ds⟩))=some r:=by
 unfold bB at h;cases hs:s.fJ i with
 |none=>rw[hs]at h;cases h
 |some cs=>
  rw[hs]at h;simp only at h;cases hb:Nat.ble (p+ds.length) cs.length with
  |false=>rw[hb]at h;cases h
  |true=>rw[hb]at h;simp_all
theorem Zj0 (ht:P.underlying t=some td) (a:Addr) (v:Value) (w:World) (hs:v.cells.size=P.cellsOf t):
  (storeVar t a v).run P w=(storeCells a v.cells.toList).run P w:=by
 simp[storeVar,ZT w ht,hs]
theorem Zp8 {x:Operand} (ho:o.op= .store t x y) (qk:o.dst=none) (aS: ∀h,W h->D h) (qg: ∀r v,md.loc r=true->(E.get r).cd=some v->W (.inr v)) (hWh:md.Fu=true->∀i p,E.src C x= .v (.ptr (some (i,p)))->W (.inl i)) (h:Lx C E K md ms t x y s=some r):bz C md pr ms o D W E s K r:=by
 unfold Lx at h;have⟨d,hd,h⟩:=Zt h;have⟨ds,td,ht,h,iy,hv⟩:=ZkJ h;rcases Ay h with⟨u,v,p0,hx,h⟩|⟨i,p0,hx,h⟩
 .have⟨hm,h⟩:=Zq h
  rw[aZ]at hm;have⟨n,cs,hl,h⟩:=ZkW h;have⟨hb,h⟩:=ZU h;have hb:=lQ hb;have hW:=qg u v hm.2 (by rw[hl];rfl);have get: ∀k,(E.put u (.loc v n (se n (C.P.cellsOf t) cs p0 ds))).get k=if u=k then .loc v n (se n (C.P.cellsOf t) cs p0 ds)else E.get k:=λk=>Env.nk _ _ _ _
  have cd: ∀k,((E.put u (.loc v n (se n (C.P.cellsOf t) cs p0 ds))).get k).cd=(E.get k).cd:=λk=>by
   rw[get];split
   .rename_i e;subst e;rw[hl];rfl
   .rfl
  have crb: ∀h ab,gG E->CR (E.put u (.loc v n (se n (C.P.cellsOf t) cs p0 ds))) s h ab->(h= .inr v/\ab= .cells false (se n (C.P.cellsOf t) cs p0 ds))\/(h≠ .inr v/\CR E s h ab):=by
   intro h ab hE c;cases h with
   |inl i=>exact .inr ⟨Do,c⟩
   |inr k=>
    rcases c with⟨q,n',cs',hq,fm⟩|⟨q,l,p,hq,fm⟩
    .rw[get]at hq
     split at hq
     .grind
     .rename_i cS
      refine .inr ⟨λe=>?_,.inl ⟨q,n',cs',hq,fm⟩⟩;cases e;exact cS (hE.uniq u q v (by rw[hl];rfl) (by rw[hq];rfl))
    .rw[get]at hq
     split at hq
     .cases hq
     .rename_i cS
      refine .inr ⟨λe=>?_,.inr ⟨q,l,p,hq,fm⟩⟩;cases e;exact cS (hE.uniq u q v (by rw[hl];rfl) (by rw[hq];rfl))
  refine .inl ⟨_,_,h,⟨aW _,aW _,λhE=>⟨?_,?_,?_,?_⟩,?_,(λk d _ h'=>by
   rw[get]at h';grind),?_,?_,?_,?_,λ_ _ _=>rfl,.inr (by unfold Spec;rw[ho];trivial),.inl rfl⟩,?_⟩
  .intro k v' h';rw[cd]at h';exact hE.lt k v' h'
  .intro k a b c h'
   rw[get]at h';split at h'
   .cases h'
   .exact hE.pl k a b c h'
  .intro k a b c h'
   rw[get]at h';split at h'
   .cases h'
    have:=hE.len u v n cs hl;rw[LL this iy hb,AE];exact this
   .exact hE.len k a b c h'
  .intro k k' v' h' tm;rw[cd]at h' tm;exact hE.uniq k k' v' h' tm
  .grind
  .intro k _ C' ψ x' hr
   rw[get];split
   .rename_i e;subst e;rw[hl]at hr;exact hr
   .exact hr
  .intro h' ab c
   cases h' with
   |inl i=>exact .inr (.inr c)
   |inr k=>
    rcases c with⟨q,n',cs',hq,fm⟩|⟨q,l,p,hq,fm⟩
    .rw[get]at hq
     split at hq
     .cases hq;exact .inl hW
     .exact .inr (.inr (.inl ⟨q,n',cs',hq,fm⟩))
    .rw[get]at hq
     split at hq
     .cases hq
     .exact .inr (.inr (.inr ⟨q,l,p,hq,fm⟩))
  .grind
  .grind
  .intro ψ Q a w next QQ p room hn
   have:=p.src (x:=x) (by simp[Op.operands,ho]);rw[hx]at this;have⟨cb,e1,e2,e3⟩:=this;have⟨h1,h2,h3⟩:=hv C ψ _ (p.val (x:=y) (by simp[Op.operands,ho]) hd);have hq:Q (.inr v) (.cells false cs):=p.gV (.inr v) _ cb (aS _ hW) (.inl ⟨u,n,cs,hl,rfl⟩) e1;have hlen:=p.fh.len u v n cs hl;have⟨w',hr,bN,hh⟩:=En (P:=C.P) (p:=p0) (p.dD.holds _ cb _ e1 hq) h1 h2 AC;rw[e2,ei]at hr;have hex:(execOp a.eval o).run C.P w= .ok .skip w':=by
    simp only[execOp,ho,e3,Instr.storeAt,Sem.run_bind,Z2,Result.andThen_ok,Zj0 ht _ _ w h3,hr,Sem.run_pure]
   unfold Oper.wp;rw[hex];refine hn ψ (sj Q (.inr v) (.cells false (se n (C.P.cellsOf t) cs p0 ds))) _ w' ⟨dN.set p.dD e1 hq rfl bN.other (by rw[LL hlen iy hb];exact hh),Ext.set e1 hq rfl bN.other bN.size bN.tape bN.os bN.output,
    λ_ _ e=> .inl e,λh' ab c cr hw e'=>?_,λh' ab c e' q nw _=>?_⟩ Fd
   .rcases crb h' ab p.fh cr with⟨rfl,rfl⟩|⟨cS,cr⟩
    .exact .inl ⟨rfl,rfl⟩
    .refine .inr ⟨cS,?_⟩
     rcases hw with hw|⟨n1,n2⟩
     .exact p.gV h' ab c (aS h' hw) cr e'
     .exact absurd (cr.mh p.fh) n1
   .exact .inr Fd
 .have⟨hm,h⟩:=Zq h
  have⟨cs,hi,hb,h⟩:=ZlW h;refine bz.OC aS (hWh hm i p0 hx) .u rfl (λ_ _ _ _ e=>by cases e) hi (by rw[qk];exact h) λψ Q a w p=>?_
  have:=p.val (x:=x) (by simp[Op.operands,ho]) hx;generalize N8:a.eval x=xv at this;cases this with
  |ptr _ _ cb e=>
   refine⟨cb,e,λhh=>?_⟩;have⟨h1,h2,h3⟩:=hv C ψ _ (p.val (x:=y) (by simp[Op.operands,ho]) hd);have⟨w',hr,bN,BV⟩:=En (P:=C.P) (p:=p0) hh h1 h2 hb;refine⟨undef,w',.inr ⟨?_,rfl⟩,bN,BV,trivial⟩;simp only[execOp,ho,N8,Instr.storeAt,Sem.run_bind,Z2,Result.andThen_ok,Zj0 ht _ _ w h3,hr,Sem.run_pure]
end
structure kI (C:aY):Prop where
 ty: ∀t t',C.ty t=C.ty t'->t=t'
 eqg: ∀t,C.wq t≠[]->C.P.eqGuardType C.P.depth t=false
 eq: ∀t,C.wq t≠[]->∀ψ xs ys (vs us:Array Value) b w,ba C ψ xs vs.toList->ba C ψ ys us.toList->jR (C.wq t) xs ys=some b->(Op.equal t (.agg vs) (.agg us)).run C.P w= .ok b w
 tae: ∃e d,C.P.underlying C.P.rt.typeAssertionError=some (.pointer e)/\C.P.underlying e=some d
section
variable {C:aY} {o:Oper} {D W:cJ->Prop} {E:Env} {s:St} {md:Md} {pr ms:al}
theorem Zpi (d:Nat) (ht:P.underlying t=some .bool) (x y:Bool) (w:World):(Op.equalIn (d+1) t (.bool x) (.bool y)).run P w= .ok (x==y) w:=by
 simp[Op.equalIn,Zk w ht]
theorem Zrb (ht:P.underlying t=some .bool) (x y:Bool) (w:World):(Op.equal t (.bool x) (.bool y)).run P w= .ok (x==y) w:=Zpi 9999 ht x y w
theorem Zqc (d:Nat) (ht:P.underlying t=some (.pointer e)) (a:Option Addr) (w:World):
  (Op.equalIn (d+1) t (.pointer a) (.pointer none)).run P w= .ok a.isNone w/\(Op.equalIn (d+1) t (.pointer none) (.pointer a)).run P w= .ok a.isNone w:=by
 cases a<;>constructor<;>simp[Op.equalIn,Zk w ht]
theorem El (ht:P.underlying t=some (.pointer e)) (a:Option Addr) (w:World):
  (Op.equal t (.pointer a) (.pointer none)).run P w= .ok a.isNone w/\(Op.equal t (.pointer none) (.pointer a)).run P w= .ok a.isNone w:=Zqc 9999 ht a w
theorem Zn1 (d:Nat) (ht:P.underlying t=some (.slice e)) (a:Option Addr) (n m n' m':Nat) (w:World):
  (Op.equalIn (d+1) t (.slice a n m) (.slice none n' m')).run P w= .ok a.isNone w/\(Op.equalIn (d+1) t (.slice none n' m') (.slice a n m)).run P w= .ok a.isNone w:=by
 cases a<;>constructor<;>simp[Op.equalIn,Zk w ht]
theorem DQ (ht:P.underlying t=some (.slice e)) (a:Option Addr) (n m n' m':Nat) (w:World):
  (Op.equal t (.slice a n m) (.slice none n' m')).run P w= .ok a.isNone w/\(Op.equal t (.slice none n' m') (.slice a n m)).run P w= .ok a.isNone w:=Zn1 9999 ht a n m n' m' w
theorem ZrD (x y:ByteArray):(x.toList==y.toList)=(x.data.toList==y.data.toList):=by rw[ByteArray.toList_eq,ByteArray.toList_eq]
theorem Zoo {x y:DV} {K:Bool->M β} (hc:kI C) (h:Ft (C.P.underlying t) (C.wq t) x y K s=some r):
  ∃b,K b s=some r/\∀ψ w (x' y':Value) (p q:Operand),VR C ψ x x'->VR C ψ y y'->
   (do eqGuard .eql t p q x' y';Go.binOp .eql t x' y':Sem Value).run C.P w= .ok (.bool b) w/\(do eqGuard .neq t p q x' y';Go.binOp .neq t x' y':Sem Value).run C.P w= .ok (.bool !b) w:=by
 generalize hu:C.P.underlying t=u at h;unfold Ft at h;split at h
 ·
  split at h
  ·
   refine⟨_,h,λψ w x' y' p q hx hy=>?_⟩;cases hx;cases hy;constructor<;>simp[eqGuard,Go.binOp,Zrb hu]
  .cases h
 .have⟨h1,h2⟩:=Zq h
  clear h;have:=Bc h1;subst this;refine⟨_,h2,λψ w x' y' p q hx hy=>?_⟩;cases hx;cases hy;constructor<;>simp[eqGuard,Go.binOp,Op.intCmp,bne]
 .refine⟨_,h,λψ w x' y' p q hx hy=>?_⟩
  cases hx;cases hy;constructor<;>simp[eqGuard,Go.binOp,Op.stringOp,ZrD]
 .split at h
  .refine⟨_,h,λψ w x' y' p q hx hy=>?_⟩
   cases hy;cases hx with
   |CP=>constructor<;>simp[eqGuard,Go.binOp,(El hu none w).1]
   |ptr i n cb e=>constructor<;>simp[eqGuard,Go.binOp,(El hu _ w).1]
  .cases h
 .split at h
  .refine⟨_,h,λψ w x' y' p q hx hy=>?_⟩
   cases hx;cases hy with
   |CP=>constructor<;>simp[eqGuard,Go.binOp,(El hu none w).1]
   |ptr i n cb e=>constructor<;>simp[eqGuard,Go.binOp,(El hu _ w).2]
  .cases h
 .split at h
  .refine⟨_,h,λψ w x' y' p q hx hy=>?_⟩
   cases hy;cases hx with
   |nI=>constructor<;>simp[eqGuard,Go.binOp,(DQ hu none 0 0 0 0 w).1]
   |slice _ i n m cb a cap e=>constructor<;>simp[eqGuard,Go.binOp,(DQ hu _ _ _ 0 0 w).1]
  .cases h
 .split at h
  .refine⟨_,h,λψ w x' y' p q hx hy=>?_⟩
   cases hx;cases hy with
   |nI=>constructor<;>simp[eqGuard,Go.binOp,(DQ hu none 0 0 0 0 w).1]
   |slice _ i n m cb a cap e=>constructor<;>simp[eqGuard,Go.binOp,(DQ hu _ _ _ 0 0 w).2]
  .cases h
 .rename_i xs ys
  cases gp:C.wq t with
  |nil=>rw[gp]at h;cases h
  |cons k ks=>
   rw[gp]at h;simp only at h;cases hb:jR (k::ks) xs ys with
   |none=>rw[hb]at h;cases h
   |some b=>
    rw[hb]at h;refine⟨_,h,λψ w x' y' p q hx hy=>?_⟩;have PC:C.wq t≠[]:=by rw[gp];grind
    cases hx with
    |agg _ vs h1 _=>
     cases hy with
     |agg _ us h2 _=>
      have he:=hc.eq t PC ψ _ _ vs us b w h1 h2 (by rw[gp];exact hb);constructor<;>simp[eqGuard,Go.binOp,hc.eqg t PC,he]
 .cases h
theorem ZsC {op:BinOp} (h:op= .and\/op= .or\/op= .xor\/op= .andNot) (t:TypeId) (p q:Operand) (k:IntKind) (x y:Int) (w:World):
  (do eqGuard op t p q (.int k x) (.int k y);Go.binOp op t (.int k x) (.int k y):Sem Value).run P w= .ok (.int k (bits op k x y)) w:=by
 have e:Go.binOp op t (.int k x) (.int k y)=Op.intBits op k x y:=by rcases h with rfl|rfl|rfl|rfl<;>simp[Go.binOp]
 rw[e];rcases h with rfl|rfl|rfl|rfl<;>rfl
theorem Zrq {op:BinOp} {x:Operand} (hc:kI C) (ho:o.op= .binOp op t x y yt) (aS: ∀h,W h->D h) (h:Ot C E o K op t x y s=some r):bz C md pr ms o D W E s K r:=by
 unfold Ot at h;have⟨a,ha,h⟩:=Zt h;have⟨b,hb,h⟩:=Zt h;have key: ∀d,dx E o K d s=some r->(∀ψ w x' y',VR C ψ a x'->VR C ψ b y'->∃v,(do eqGuard op t x y x' y';Go.binOp op t x' y':Sem Value).run C.P w= .ok v w/\VR C ψ d v)->bz C md pr ms o D W E s K r:=by
  intro d h hr;refine bz.val aS d h λψ Q A w p=>?_
  have⟨v,hv,iU⟩:=hr ψ w _ _ (p.val (x:=x) (by simp[Op.operands,ho]) ha) (p.val (x:=y) (by simp[Op.operands,ho]) hb);refine⟨v,w,?_,.refl w,iU⟩;simp only[execOp,ho,Sem.run_bind]at hv⊢;rw[hv];rfl
 unfold Pg at h;split at h
 .have⟨b',h,hr⟩:=Zoo hc h
  exact key _ h λψ w x' y' hx hy=>⟨_,(hr ψ w x' y' x y hx hy).1,.bool _⟩
 .have⟨b',h,hr⟩:=Zoo hc h
  exact key _ h λψ w x' y' hx hy=>⟨_,(hr ψ w x' y' x y hx hy).2,.bool _⟩
 .split at h
  .rename_i k n k' m
   have h0:=h;clear h;have⟨hm,h⟩:=ZU h0;clear h0;have hm:=Int.not_lt.2 (oA hm);refine key _ h λψ w x' y' hx hy=>?_
   cases hx;cases hy;exact⟨_,by simp[eqGuard,Go.binOp,Op.shift,hm],.int _ _⟩
  .cases h
 .split at h
  .rename_i k n k' m
   have h0:=h;clear h;have⟨hm,h⟩:=ZU h0;clear h0;have hm:=Int.not_lt.2 (oA hm);refine key _ h λψ w x' y' hx hy=>?_
   cases hx;cases hy;exact⟨_,by simp[eqGuard,Go.binOp,Op.shift,hm],.int _ _⟩
  .cases h
 .rename_i n1 n2 n3 n4
  split at h
  .have h0:=h
   clear h;have⟨hk,h⟩:=Zq h0;clear h0;have:=Bc hk;subst this;cases op with
   |eql=>exact absurd rfl n1
   |neq=>exact absurd rfl n2
   |shl=>exact absurd rfl n3
   |shr=>exact absurd rfl n4
   |quo=>
    have⟨hm,h⟩:=ZU h;simp only[nN,iG]at hm;refine key _ h λψ w x' y' hx hy=>?_
    cases hx;cases hy;exact⟨_,by simp[eqGuard,Go.binOp,Op.intDiv,hm],.int _ _⟩
   |rem=>
    have⟨hm,h⟩:=ZU h;simp only[nN,iG]at hm;refine key _ h λψ w x' y' hx hy=>?_
    cases hx;cases hy;exact⟨_,by simp[eqGuard,Go.binOp,Op.intDiv,hm],.int _ _⟩
   |and|or|xor|andNot=>
    refine key _ h λψ w x' y' hx hy=>?_
    cases hx;cases hy;exact⟨_,ZsC Do t x y _ _ _ w,.int _ _⟩
   |_=>
    refine key _ h λψ w x' y' hx hy=>?_
    cases hx;cases hy;exact⟨_,by simp[eqGuard,Go.binOp,Op.intArith,Op.intCmp]<;>rfl,by constructor⟩
  .rename_i l l'
   cases op with
   |eql=>exact absurd rfl n1
   |neq=>exact absurd rfl n2
   |shl=>exact absurd rfl n3
   |shr=>exact absurd rfl n4
   |add=>
    have⟨hm,h⟩:=ZU h;have hm:=lQ hm;refine key _ h λψ w x' y' hx hy=>?_
    cases hx with
    |str p=>
     cases hy with
     |str q=>
      have e:p.data.toList++q.data.toList=(p++q).data.toList:=by simp[ByteArray.data_append]
      rw[e];rw[kG,kG]at hm;have lC:p.size+q.size<=4611686018427387904:=hm;refine⟨.string (p++q),?_,.str _⟩;have:=run_string_add_sum (P:=C.P) (w:=w) p q AC;simp[eqGuard,Go.binOp,this]
   |lss|leq|gtr|geq=>
    refine key _ h λψ w x' y' hx hy=>?_
    cases hx;cases hy;refine⟨_,by simp only[eqGuard,Go.binOp,Op.stringOp,ByteArray.toList_eq];rfl,.bool _⟩
   |_=>cases h
  .cases h
end
def xd (P:Program) (t:TypeId) (b:B):Bool:=match P.underlying t,b with
 |some .bool,.bool=>true
 |some (.int _),.int _=>true
 |some .string,.str=>true
 |_,_=>false
def Fs (P:Program):List Field->List B->Nat->Bool
 |[],[],_=>true
 |f::r,b::bs,o=>f.name != "_" &&Nat.beq f.offset o&&xd P f.type b&&Fs P r bs (o+1)
 |_,_,_=>false
def yN (P:Program):List Field->List B->Nat->Bool
 |[],[],_=>true
 |[],_::_,_=>false
 |f::r,bs,o=>f.name != "_" &&Nat.beq f.offset o&&(match P.underlying f.type with
  |some (.struct fs)=>Nat.beq (P.cellsOf f.type) fs.size&&Nat.ble fs.size bs.length&& !(P.stoodInHeld f.type)&&Fs P fs.toList (bs.take fs.size) 0&&yN P r (bs.drop fs.size) (o+fs.size)
  |_=>match bs with
   |b::wi=>xd P f.type b&&yN P r wi (o+1)
   |[]=>false)
def yO (P:Program) (t:TypeId) (bs:List B):Bool:=match P.underlying t with
 |some (.struct fs)=>yN P fs.toList bs 0&& !(P.stoodInHeld t)&& !(P.eqGuardType P.depth t)
 |_=>false
section
variable {C:aY} {ψ:Ps}
theorem ZpE {d:Nat} {b:B} {x y:DV} {u:Value} {r:Bool} (w:World) (hs:xd C.P t b=true) (hx:VR C ψ x v) (hy:VR C ψ y u) (he:uM b x y=some r):
  (Op.equalIn (d+1) t v u).run C.P w= .ok r w:=by
 unfold xd at hs;split at hs
 .rename_i hu
  unfold uM at he;split at he<;>first|(rename_i h1;cases h1;done)|skip
  .cases hx;cases hy;cases he
   simp[Op.equalIn,Zk w hu]
  grind
 .rename_i hu
  unfold uM at he;split at he
  .rename_i h1;cases h1
  .rename_i k0 k a k' b' _
   cases hk:pd k0 k&&pd k k' with
   |false=>rw[hk]at he;cases he
   |true=>
    rw[hk]at he;rw[aZ]at hk;have:=Bc hk.2;subst this;cases hx;cases hy;cases he;simp[Op.equalIn,Zk w hu]
  .rename_i h1;cases h1
  .cases he
 .rename_i hu
  unfold uM at he;split at he
  .rename_i h1;cases h1
  .rename_i h1;cases h1
  .cases hx;cases hy;cases he
   have e: ∀a b:ByteArray,(a==b)=(a.data.toList==b.data.toList):=by
    intro a b;have e1:(a==b)=(a.data==b.data):=by cases a;cases b;rfl
    rw[e1,zX];simp only[beq_iff_eq];exact⟨λh=>by rw[h],λh=>Array.toList_inj.1 h⟩
   rw[Op.equalIn,Sem.run_bind,Zk w hu,Result.andThen_ok,Sem.run_pure,e]
  .cases he
 .cases hs
theorem Ed {b:B} {cs:Array Value} (w:World) (hs:xd C.P e b=true) (hx:cs[off]? =some v):(Go.part e cs off).run C.P w= .ok v w:=by
 refine run_part_plain w ?_ hx;unfold xd at hs;grind[Program.plainKey]
theorem Zph {d:Nat} (xs ys:Array Value) (w:World): ∀(fs:List Field) (bs:List B) (ds es:af) (o:Nat) (r:Bool),Fs C.P fs bs o=true->
  ba C ψ ds (xs.toList.drop o)->ba C ψ es (ys.toList.drop o)->jR bs ds es=some r->(Op.eqFields (d+1) xs ys fs).run C.P w= .ok r w
 |[],[],[],[],o,r,_,_,_,he=>by
  cases he;simp[Op.eqFields]
 |[],[],_::_,_,_,_,_,_,_,he=>by cases he
 |[],[],[],_::_,_,_,_,_,_,he=>by cases he
 |[],_::_,_,_,_,_,h,_,_,_=>by cases h
 |_::_,[],_,_,_,_,h,_,_,_=>by cases h
 |f::fs,b::bs,[],_,_,_,_,_,_,he=>by cases he
 |f::fs,b::bs,_::_,[],_,_,_,_,_,he=>by cases he
 |f::fs,b::bs,x::ds,y::es,o,r,h,hx,hy,he=>by
  simp only[Fs,aZ]at h;have⟨⟨⟨hn,ho⟩,hs⟩,hr⟩:=h;have ho:=cO ho;have hn:f.name≠ "_" :=by simpa using hn
  simp only[jR]at he;cases h1:uM b x y with
  |none=>rw[h1]at he;cases he
  |some r1=>
   cases h2:jR bs ds es with
   |none=>rw[h1,h2]at he;cases he
   |some r2=>
    rw[h1,h2]at he;cases he;have C0: ∀ {z:Array Value} {q:DV} {qs:af},ba C ψ (q::qs) (z.toList.drop o)->∃v,z[o]? =some v/\VR C ψ q v/\ba C ψ qs (z.toList.drop (o+1)):=by
     intro z q qs hq;generalize hz:z.toList.drop o=l at hq;cases hq with
     |cons _ v _ vs a b=>
      have e:z.toList[o]? =some v:=by
       have:=congrArg (λl:List Value=>l[0]?) hz;simpa using this
      refine⟨v,by rw[<-iE];exact e,a,?_⟩;have:=congrArg (List.drop 1) hz;rw[kd]at this;rw[this];exact b
    have⟨v,hv,rv,tv⟩:=C0 hx;have⟨u,hu,ru,tu⟩:=C0 hy;have p1:=Ed (C:=C) w hs hv;have p2:=Ed (C:=C) w hs hu;have p3:=ZpE (d:=d) w hs rv ru h1;have p4:=Zph (d:=d) xs ys w fs bs ds es (o+1) r2 hr tv tu h2;rw[<-ho]at p1 p2;simp only[Op.eqFields,hn,ne_eq,not_false_eq_true,ju,Sem.run_bind,p1,p2,p3,Result.andThen_ok];cases r1
    .simp
    .simpa using p4
theorem ZnG: ∀(n:Nat) (bs:List B) (ds es:af) (r:Bool),jR bs ds es=some r->n<=bs.length->∃r1 r2,jR (bs.take n) (ds.take n) (es.take n)=some r1/\jR (bs.drop n) (ds.drop n) (es.drop n)=some r2/\r=(r1&&r2)
 |0,bs,ds,es,r,h,_=>⟨true,r,by simp[jR],by simpa using h,Do⟩
 |n+1,[],ds,es,r,h,hn=>by simp at hn
 |n+1,b::bs,[],es,r,h,hn=>by cases h
 |n+1,b::bs,_::_,[],r,h,hn=>by cases h
 |n+1,b::bs,x::ds,y::es,r,h,hn=>by
  simp only[jR]at h;cases h1:uM b x y with
  |none=>rw[h1]at h;cases h
  |some a=>
   cases h2:jR bs ds es with
   |none=>rw[h1,h2]at h;cases h
   |some c=>
    rw[h1,h2]at h;cases h;have⟨r1,r2,g1,g2,g3⟩:=ZnG n bs ds es c h2 (by simpa using hn);refine⟨a&&r1,r2,?_,by simpa using g2,by rw[g3,Bool.and_assoc]⟩;simp[List.take_succ_cons,jR,h1,g1]
theorem K7 {d:Nat} (xs ys:Array Value) (w:World): ∀(fs:List Field) (bs:List B) (ds es:af) (o:Nat) (r:Bool),yN C.P fs bs o=true->
  ba C ψ ds (xs.toList.drop o)->ba C ψ es (ys.toList.drop o)->jR bs ds es=some r->(Op.eqFields (d+2) xs ys fs).run C.P w= .ok r w
 |[],[],ds,es,o,r,_,_,_,he=>by
  cases ds<;>cases es<;>cases he
  simp[Op.eqFields]
 |[],_::_,_,_,_,_,h,_,_,_=>by cases h
 |f::fs,bs,ds,es,o,r,h,hx,hy,he=>by
  unfold yN at h;rw[aZ,aZ]at h;have⟨⟨hn,ho⟩,h⟩:=h;have ho:=cO ho;have hn:f.name≠ "_" :=by simpa using hn
  have Xs: ∀b wi,bs=b::wi->(xd C.P f.type b&&yN C.P fs wi (o+1))=true->(Op.eqFields (d+2) xs ys (f::fs)).run C.P w= .ok r w:=by
   rintro b wi rfl h;rw[aZ]at h;have⟨hs,hr⟩:=h
   match ds,es,hx,hy,he with
   |[],_,_,_,he=>cases he
   |_::_,[],_,_,he=>cases he
   |x::ds,y::es,hx,hy,he=>
   simp only[jR]at he;cases h1:uM b x y with
   |none=>rw[h1]at he;cases he
   |some r1=>
    cases h2:jR wi ds es with
    |none=>rw[h1,h2]at he;cases he
    |some r2=>
     rw[h1,h2]at he;cases he;have C0: ∀ {z:Array Value} {q:DV} {qs:af},ba C ψ (q::qs) (z.toList.drop o)->∃v,z[o]? =some v/\VR C ψ q v/\ba C ψ qs (z.toList.drop (o+1)):=by
      intro z q qs hq;generalize hz:z.toList.drop o=l at hq;cases hq with
      |cons _ v _ vs a b=>
       have e:z.toList[o]? =some v:=by
        have:=congrArg (λl:List Value=>l[0]?) hz;simpa using this
       refine⟨v,by rw[<-iE];exact e,a,?_⟩;have:=congrArg (List.drop 1) hz;rw[kd]at this;rw[this];exact b
     have⟨v,hv,rv,tv⟩:=C0 hx;have⟨u,hu,ru,tu⟩:=C0 hy;have p1:=Ed (C:=C) w hs hv;have p2:=Ed (C:=C) w hs hu;have p3:=ZpE (d:=d+1) w hs rv ru h1;have p4:=K7 (d:=d) xs ys w fs wi ds es (o+1) r2 hr tv tu h2;rw[<-ho]at p1 p2;simp only[Op.eqFields,hn,ne_eq,not_false_eq_true,ju,Sem.run_bind,p1,p2,p3,Result.andThen_ok];cases r1
     .simp
     .simpa using p4
  split at h
  .rename_i gs hu
   simp only[aZ]at h;have⟨⟨⟨⟨hc,hle⟩,bx⟩,hg⟩,hr⟩:=h;have hc:=cO hc;have hle:=lQ hle;have bx:C.P.stoodInHeld f.type=false:=by simpa using bx
   have⟨r1,r2,e1,e2,e3⟩:=ZnG gs.size bs ds es r he hle;have gp:ZW C.P f.type=true:=by unfold ZW;rw[hu]
   have prt: ∀z:Array Value,(Go.part f.type z o).run C.P w= .ok (.agg (z.extract o (o+gs.size))) w:=λz=>by
    unfold Go.part;simp only[Sem.run_bind,Ax w hu,Result.andThen_ok,gp,ju,ZT w hu,hc,Sem.run_pure]
   have sub: ∀ {z:Array Value} {qs:af},ba C ψ qs (z.toList.drop o)->ba C ψ (qs.take gs.size) ((z.extract o (o+gs.size)).toList.drop 0):=by
    intro z qs hq;have:=hq.take gs.size;rw[eG,Array.toList_extract,G8,show o+gs.size-o=gs.size by omega];exact this
   have rst: ∀ {z:Array Value} {qs:af},ba C ψ qs (z.toList.drop o)->ba C ψ (qs.drop gs.size) (z.toList.drop (o+gs.size)):=by
    intro z qs hq;have:=hq.drop gs.size;rw[kd]at this;exact this
   have mo:C.P.fieldsOf f.type=gs:=by unfold Program.fieldsOf;rw[hu]
   have p3:(Op.equalIn (d+2) f.type (.agg (xs.extract o (o+gs.size))) (.agg (ys.extract o (o+gs.size)))).run C.P w= .ok r1 w:=by
    rw[run_equalIn_struct w (d+1) f.type _ _ (by rw[mo];exact hu) bx,mo];exact Zph (d:=d) _ _ w gs.toList (bs.take gs.size) _ _ 0 r1 hg (sub hx) (sub hy) e1
   have p4:=K7 (d:=d) xs ys w fs (bs.drop gs.size) _ _ (o+gs.size) r2 hr (rst hx) (rst hy) e2;have p1:=prt xs;have p2:=prt ys;rw[<-ho]at p1 p2 p3;simp only[Op.eqFields,hn,ne_eq,not_false_eq_true,ju,Sem.run_bind,p1,p2,p3,Result.andThen_ok];rw[e3];cases r1
   .simp
   .simpa using p4
  grind
theorem ZqU {bs:List B} (h:yO P t bs=true):P.eqGuardType P.depth t=false:=by
 grind[yO]
theorem ZsB {bs:List B} (h:yO C.P t bs=true) {us:Array Value} {b:Bool} (w:World) (hx:ba C ψ xs vs.toList) (hy:ba C ψ ys us.toList) (he:jR bs xs ys=some b):
  (Op.equal t (.agg vs) (.agg us)).run C.P w= .ok b w:=by
 unfold yO at h;split at h
 .rename_i fs hu
  simp only[aZ]at h;have bx:C.P.stoodInHeld t=false:=by simpa using h.1.2
  unfold Op.equal;have mo:C.P.fieldsOf t=fs:=by grind[Program.fieldsOf]
  rw[show Op.maxDepth=9999+1 from rfl,run_equalIn_struct w 9999 t vs us (by rw[mo];exact hu) bx,mo];exact K7 (d:=9997) vs us w fs.toList bs xs ys 0 b h.1.1 (by rw[eG];exact hx) (by rw[eG];exact hy) he
 .cases h
def CG:List (Nat×List B)->Nat->List B
 |[],_=>[]
 |(k,v)::r,x=>bif Nat.beq k x then v else CG r x
theorem Mg {P:Program} : ∀ {l:List (Nat×List B)},(l.all λx=>yO P x.1 x.2)=true->∀t,CG l t≠[]->yO P t (CG l t)=true
 |[],_,t,h=>absurd rfl h
 |(k,v)::r,hl,t,h=>by
  rw[vu,aZ]at hl;simp only[CG]at h⊢;cases hk:Nat.beq k t with
  |true=>rw[hk]at h;rw[<-cO hk];exact hl.1
  |false=>rw[hk]at h;exact Mg hl.2 t h
end
section
variable {C:aY} {o:Oper} {D W:cJ->Prop} {E:Env} {s:St} {md:Md} {pr ms:al}
theorem ax.int {ψ:Ps} {Q:Kn} {a:Act} {w:World} (p:ax C o D E s ψ Q a w) {x:Operand} (hx:x∈o.op.operands) {k:IntKind} {n:Int} (h:E.src C x= .v (.int k n)):a.eval x= .int k n:=by
 have:=p.val hx h;generalize a.eval x=v at this;cases this;rfl
theorem Ju {len:Nat} {K:Nat->Nat->M β} (h:A8 C E len lo hi K s=some r):
  ∃l u,K l u s=some r/\l<=u/\u<=len/\(lo=none->l=0)/\(hi=none->u=len)/\
   ∀ψ Q a w,ax C o D E s ψ Q a w->(∀x,lo=some x->x∈o.op.operands)->(∀x,hi=some x->x∈o.op.operands)->∀(b:Bool) (cap:Nat),len<=cap->(b=false->len=cap)->
    (Instr.sliceBounds b len cap (lo.map a.eval) (hi.map a.eval) none).run C.P w= .ok (l,u,cap) w:=by
 unfold A8 at h;have low: ∀u,(match lo with|none=>K 0 u|some x=>vb C E x λl=>aJ (decide (0<=l)&&decide (l<=u)) (K l.toNat u)) s=some r->
   ∃l,K l u s=some r/\l<=u/\(lo=none->l=0)/\∀ψ Q a w,ax C o D E s ψ Q a w->(∀x,lo=some x->x∈o.op.operands)->
    (match lo.map a.eval with|some v=>Instr.sliceBound v u .sliceB|none=>pure 0:Sem Nat).run C.P w= .ok l w:=by
  intro u h;cases lo with
  |none=>exact⟨0,h,eB _,λ_=>rfl,λψ Q a w p _=>rfl⟩
  |some x=>
   have⟨k,n,hx,h⟩:=xY h;have⟨hc,h⟩:=ZU h;simp only[aZ,vB]at hc;refine⟨n.toNat,h,AC,λh=>(nomatch h),λψ Q a w p hm=>?_⟩;rw[sG,p.int (hm x rfl) hx];exact run_sliceBound _ k n u _ hc.1 hc.2
 cases hi with
 |none=>
  have⟨l,h,h1,h2,h3⟩:=low len h;refine⟨l,len,h,h1,aW _,h2,λ_=>rfl,λψ Q a w p hl _ b cap mm hb=>?_⟩;have:=h3 ψ Q a w p hl;unfold Instr.sliceBounds;simp only[Option.map_none,Sem.run_bind,Sem.run_pure,Result.andThen_ok,Di,pB,ke];cases tF:lo.map a.eval with
  |none=>rw[tF]at this;simp only[Sem.run_pure,Result.ok.injEq]at this⊢;simp[this.1]
  |some v=>rw[tF]at this;simp only at this⊢;rw[Sem.run_bind,this];rfl
 |some y=>
  have⟨k,n,hy,h⟩:=xY h;have⟨hc,h⟩:=ZU h;simp only[aZ,vB]at hc;have⟨l,h,h1,h2,h3⟩:=low n.toNat h;refine⟨l,n.toNat,h,h1,AC,h2,λh=>(nomatch h),λψ Q a w p hl hh b cap mm hb=>?_⟩;have:=h3 ψ Q a w p hl;have hs: ∀code,(Instr.sliceBound (.int k n) cap code).run C.P w= .ok n.toNat w:=λcode=>run_sliceBound _ k n cap code hc.1 AC
  unfold Instr.sliceBounds;simp only[sG,p.int (hh y rfl) hy,Sem.run_bind,Sem.run_pure,Result.andThen_ok,Di,pB,ke,hs];cases tF:lo.map a.eval with
  |none=>rw[tF]at this;simp only[Sem.run_pure,Result.ok.injEq]at this⊢;simp[this.1]
  |some v=>rw[tF]at this;simp only at this⊢;rw[Sem.run_bind,this];rfl
theorem Zqb (ho:o.op= .slice t y lo hi none):y∈o.op.operands/\(∀x,lo=some x->x∈o.op.operands)/\(∀x,hi=some x->x∈o.op.operands):=by
 rw[ho];grind[Op.operands]
theorem Zqi {cap l u:Nat} {lo:Bool} (eM:ψ (.inl i)=some cb) (hb:0<cap->base=⟨cb.b,cb.o+off,none⟩/\off+cap*sz<=cb.m)
  (h1:l<=u) (h2:u<=n) (h3:n<=cap) (tF:lo=false->l=0):
  VR C ψ (.slice sz (cR lo (some (i,off)) (l*sz)) (Bw lo l u)) (.slice (some (if cap=l then base else base.add (l*sz))) (u-l) (cap-l)):=by
 have e:cR lo (some (i,off)) (l*sz)=some (i,off+l*sz):=by
  grind[cR,oz]
 have e2:Bw lo l u=u-l:=by
  grind[Bw]
 rw[e,e2];refine .slice sz i _ _ cb _ _ eM AC (λhc=>?_);have⟨h4,h5⟩:=hb AC;rw[cG AC,h4,uz];refine⟨by rw[oy],?_⟩;have:off+l*sz+(cap-l)*sz=off+cap*sz:=by rw[oy,<-uh];congr 2;omega
 omega
theorem Zp3 (ho:o.op= .slice t y lo hi none) (aS: ∀h,W h->D h) (MU:(∃m e,C.P.underlying t=some (.array m e))->∀i,D (.inl i)) (h:LA C E o K t y lo hi s=some r):bz C md pr ms o D W E s K r:=by
 have⟨my,GG,GF⟩:=Zqb ho;unfold LA at h;cases ht:C.P.underlying t with
 |none=>rw[ht]at h;cases h
 |some td=>
  rw[ht]at h;cases td with
  |string=>
   simp only at h;have⟨d,hd,h⟩:=Zt h;cases d with
   |str x=>
    simp only at h;have⟨l,u,h,h1,h2,h3,h4,hr⟩:=Ju (o:=o) (D:=D) h;refine bz.val aS _ h λψ Q a w p=>?_
    have hv:=p.val my hd;generalize hy:a.eval y=v at hv;cases hv with
    |str x=>
     have hlen:x.data.toList.length=x.size:=by rw[kG];rfl
     have iB:=hr ψ Q a w p GG GF false x.size AC (λ_=>hlen);rw[hlen]at iB;refine⟨.string (x.extract l u),w,?_,.refl w,?_⟩
     .simp only[execOp,ho,hy,Instr.sliceAt,Sem.run_bind,Zk w ht,Result.andThen_ok,Instr.slice,Option.map_none,Di,pB,ke,Sem.run_pure,iB]
     .have e:yI lo.isSome hi.isSome x.data.toList l u=(x.extract l u).data.toList:=by
       rw[ByteArray.data_extract,Array.toList_extract,G8];have e2:(x.data.toList.take u).drop l=(x.data.toList.drop l).take (u-l):=by rw[xm]
       cases lo with
       |none=>
        have:=h3 rfl;subst this;cases hi with
        |none=>
         have:=h4 rfl;subst this;simp only[yI,Di,ae];rw[eG,Nat.sub_zero,dJ (aW _)]
        |some _=>simp[yI]
       |some _=>
        cases hi with
        |none=>
         have:=h4 rfl;subst this;simp only[yI,Option.isSome_some,Di,aa,ae];rw[dJ Do]
        |some _=>rw[yI,Option.isSome_some,aa];exact e2
      rw[e];exact .str _
   |_=>cases h
  |slice e=>
   simp only at h;have⟨ed,he,h⟩:=Z5 h;have⟨d,hd,h⟩:=Zt h;cases d with
   |slice z a n=>
    simp only at h;have⟨hz,h⟩:=Zq h;have⟨l,u,h,h1,h2,h3,h4,hr⟩:=Ju (o:=o) (D:=D) h;refine bz.val aS _ h λψ Q A w p=>?_
    have hv:=p.val my hd;generalize hy:A.eval y=v at hv;cases hv with
    |nI=>
     have iB:=hr ψ Q A w p GG GF true 0 (aW _) (λh=>nomatch h);have:l=0:=AC
     subst this;have:u=0:=AC
     subst this;refine⟨.slice none 0 0,w,?_,.refl w,?_⟩
     .simp[execOp,ho,hy,Instr.sliceAt,Instr.slice,Zk w ht,iB,ZT w he]
     .cases lo<;>exact .nI _
    |slice _ i off _ cb base cap eM mm hb=>
     simp only[pF,xl]at hz;have hz:=cO hz;subst hz;have iB:=hr ψ Q A w p GG GF true cap mm (λh=>nomatch h);refine⟨_,w,?_,.refl w,Zqi eM hb h1 h2 mm (λhl=>h3 (by cases lo<;>first|rfl|cases hl))⟩;simp only[execOp,ho,hy,Instr.sliceAt,Instr.slice,Sem.run_bind,Zk w ht,Result.andThen_ok,Option.map_none,iB,ZT w he,Sem.run_pure,sG];by_cases eu:cap=l<;>simp[eu]
   |_=>cases h
  |array m e=>
   simp only at h;have⟨ed,he,h⟩:=Z5 h;have⟨d,hd,h⟩:=Zt h;cases d with
   |ptr a=>
    simp only at h;have⟨i,off,ha,h'⟩:=LH h;clear h;subst ha;have⟨f,cs,bx,hle,h⟩:=AG h';have⟨l,u,h,h1,h2,h3,h4,hr⟩:=Ju (o:=o) (D:=D) h;refine bz.val aS _ h λψ Q A w p=>?_
    have hv:=p.val my hd;generalize hy:A.eval y=v at hv;cases hv with
    |ptr _ _ cb eM=>
     have hh:=(p.at (MU ⟨m,e,ht⟩ i) bx eM).1;have iB:=hr ψ Q A w p GG GF false m (aW _) (λ_=>rfl);refine⟨_,w,?_,.refl w,Zqi (cap:=m) (base:=⟨cb.b,cb.o+off,none⟩) eM Fd h1 h2 (aW _) (λhl=>h3 (by cases lo<;>first|rfl|cases hl))⟩;simp only[execOp,ho,hy,Instr.sliceAt,Sem.run_bind,Zk w ht,Result.andThen_ok,Z2,Option.map_none,iB,ZT w he,Sem.run_pure]
   |_=>cases h
  |_=>cases h
theorem ZpM (ho:o.op= .range t y) (aS: ∀h,W h->D h) (h:LB C E o K t y s=some r):bz C md pr ms o D W E s K r:=by
 unfold LB at h;cases ht:C.P.underlying t with
 |none=>rw[ht]at h;cases h
 |some td=>
  rw[ht]at h;cases td with
  |string=>
   simp only at h;have⟨d,hd,h⟩:=Zt h;cases qk:o.dst with
   |none=>rw[qk]at h;cases d<;>cases h
   |some u=>
    rw[qk]at h;cases d with
    |str l=>
     simp only at h;refine bz.QM (by grind[Spec]) aS u qk _ _ (.inr ⟨l,0,rfl,rfl⟩) h λψ Q a w p=>?_
     have hv:=p.val (x:=y) (by simp[Op.operands,ho]) hd;generalize hy:a.eval y=v at hv;cases hv with
     |str x=>
      refine⟨w.alloc (.stringIter x 0),⟨w.heap.size,0,0⟩,?_,.alloc w _,aW _,Do,rfl,x,heap_alloc_new w _,rfl⟩;simp[execOp,ho,hy,Instr.range,Zk w ht]
    |_=>cases h
  |_=>cases h
theorem ZsY (s:ByteArray) (i:Nat):s.get! i=s.data.toList.getD i 0:=by
 show s.data[i]! =_;rw[Array.getElem!_eq_getD,gF,mM];simp;rfl
theorem Zip (s:ByteArray) (i:Nat):dec s.data.toList i=Utf8.decode s i:=by
 have hl:s.data.toList.length=s.size:=by rw[kG];rfl
 simp[dec,Utf8.decode,ZsY,hl]
theorem Zk0 {b:Nat} {x:ByteArray} (h:w.heap[b]? =some (.stringIter x p)):(getObj b).run P w= .ok (.stringIter x p) w:=by
 simp[getObj,Sem.run,h]
theorem ZpY {b:Nat} {x y:ByteArray} {q:Nat} (h:w.heap[b]? =some (.stringIter x p)):(setObj b (.stringIter y q)).run P w= .ok () (ja w b (.stringIter y q)):=by
 rw[setObj,Sem.run,h];rfl
theorem ZqX {t:Nat} (ho:o.op= .next (.tmp t) true) (aS: ∀h,W h->D h) (hW: ∀v,(E.get t).cd=some v->W (.inr v)) (h:Me E o K ms t s=some r):bz C md pr ms o D W E s K r:=by
 unfold Me at h;cases hl:E.get t with
 |it v l pos=>
  rw[hl]at h;cases qk:o.dst with
  |none=>rw[qk]at h;cases h
  |some d=>
   rw[qk]at h;simp only at h;have⟨hc,h⟩:=Az h;rw[xk]at hc;have hWv:=hW v (by rw[hl];rfl);have at_: ∀ψ Q a w,ax C o D E s ψ Q a w->∃cb x,ψ (.inr v)=some cb/\a.eval (.tmp t)= .pointer (some ⟨cb.b,0,none⟩)/\Q (.inr v) (.iter l pos)/\w.heap[cb.b]? =some (.stringIter x pos)/\x.data.toList=l:=by
    intro ψ Q a w p;have:=p.args t (by simp[Op.operands,ho]);rw[hl]at this;have⟨cb,e1,e2⟩:=this;have hq:=p.gV (.inr v) (.iter l pos) cb (aS _ hWv) (.inr ⟨t,l,pos,hl,rfl⟩) e1;have⟨x,h1,h2⟩:=p.dD.holds _ cb _ e1 hq;exact⟨cb,x,e1,e2,hq,h1,h2⟩
   cases hb:Nat.blt pos l.length with
   |false=>
    rw[hb]at h;simp only[ae]at h;refine bz.pure aS (.lL [.bool false]) rfl (λ_ _ _ _ e=>nomatch e) (by rw[qk];exact h) λψ Q a w p=>?_
    have⟨cb,x,e1,e2,hq,h1,h2⟩:=at_ ψ Q a w p;have hlen: ¬pos<x.size:=by
     have:x.data.toList.length=x.size:=by rw[kG];rfl
     rw[<-this,h2];intro aw;have:Nat.blt pos l.length=true:=by rw[lP];exact aw
     rw[hb]at this;cases this
    refine⟨.tuple #[.bool false],w,?_,.refl w,_,rfl,.cons _ _ _ _ (.bool _) .nil⟩;simp only[execOp,ho,e2,Instr.next,Sem.run_bind,Zk0 h1,Result.andThen_ok,hlen,ke,Sem.run_pure]
   |true=>
    rw[hb]at h;simp only[aa]at h;have aw:pos<l.length:=by rw[lP]at hb;exact hb
    have get: ∀k,((E.put t (.it v l (pos+pg l pos))).put d (.lL [.bool true,.int .i64 pos,.int .i32 (wb l pos)])).get k=
      if d=k then .lL [.bool true,.int .i64 pos,.int .i32 (wb l pos)]else if t=k then .it v l (pos+pg l pos)else E.get k:=λk=>by rw[Env.nk,Env.nk]
    have uniq:gG E->∀q,(E.get q).cd=some v->q=t:=λhE q hq=>hE.uniq q t v hq (by rw[hl];rfl)
    refine .inl ⟨_,_,h,⟨aW _,aW _,λhE=>⟨?_,?_,?_,?_⟩,?_,(λk d' _ h'=>by
     rw[get]at h';grind),?_,?_,?_,?_,λ_ _ _=>rfl,.inr (by unfold Spec;rw[ho];trivial),.inl rfl⟩,?_⟩
    .intro k v' h'
     rw[get]at h';split at h'
     .cases h'
     .split at h'
      .cases h';exact hE.lt t v (by rw[hl];rfl)
      .exact hE.lt k v' h'
    .intro k a b c h'
     rw[get]at h';split at h'
     .cases h'
     .split at h'
      .cases h'
      .exact hE.pl k a b c h'
    .intro k a b c h'
     rw[get]at h';split at h'
     .cases h'
     .split at h'
      .cases h'
      .exact hE.len k a b c h'
    .intro k k' v' h' tm
     rw[get]at h' tm;split at h'
     .cases h'
     .split at tm
      .cases tm
      .split at h'<;>split at tm
       .omega
       .cases h';grind
       .cases tm;grind
       .exact hE.uniq k k' v' h' tm
    .grind
    .intro k hk C' ψ x hr
     rw[get,cG (λe=>hk (by rw[qk,e]))];split
     .rename_i e;subst e;rw[hl]at hr;exact hr
     .exact hr
    .intro h' ab c
     cases h' with
     |inl i=>exact .inr (.inr c)
     |inr k=>
      rcases c with⟨q,n',cs',hq,fm⟩|⟨q,l',p,hq,fm⟩
      .rw[get]at hq
       split at hq
       .cases hq
       .split at hq
        .cases hq
        .exact .inr (.inr (.inl ⟨q,n',cs',hq,fm⟩))
      .rw[get]at hq
       split at hq
       .cases hq
       .split at hq
        .grind
        .exact .inr (.inr (.inr ⟨q,l',p,hq,fm⟩))
    .grind
    .grind
    .intro ψ Q a w next QQ p room hn
     have⟨cb,x,e1,e2,hq,h1,h2⟩:=at_ ψ Q a w p;have hx:x.data.toList.length=x.size:=by rw[kG];rfl
     have zk:pos<x.size:=by rw[<-hx,h2];exact aw
     have bN:=uo.ja w cb.b (.stringIter x (pos+pg l pos));have hr:(execOp a.eval o).run C.P w= .ok (.value (.tuple #[.bool true,.int .i64 pos,.int .i32 (wb l pos)])) (ja w cb.b (.stringIter x (pos+pg l pos))):=by
      have hd:=Zip x pos;rw[h2]at hd;simp only[execOp,ho,e2,Instr.next,Sem.run_bind,Zk0 h1,Result.andThen_ok,zk,ju,<-hd,ZpY h1,Sem.run_pure];rfl
     unfold Oper.wp;rw[hr];refine hn ψ (sj Q (.inr v) (.iter l (pos+pg l pos))) _ _ ⟨dN.set p.dD e1 hq rfl bN.other ⟨x,Ea (AK h1) _,h2⟩,Ext.set e1 hq rfl bN.other bN.size bN.tape bN.os bN.output,
      λ_ _ e=> .inl e,λh' ab c cr hw e'=>?_,λh' ab c e' q nw _=>?_⟩ (λd' dO=>?_)
     .have dV:(h'= .inr v/\ab= .iter l (pos+pg l pos))\/(h'≠ .inr v/\CR E s h' ab):=by
       cases h' with
       |inl i=>exact .inr ⟨Do,cr⟩
       |inr k=>
        rcases cr with⟨q,n',cs',hq,fm⟩|⟨q,l',p',hq,fm⟩
        .rw[get]at hq
         split at hq
         .cases hq
         .split at hq
          .cases hq
          .rename_i Cc
           refine .inr ⟨λe=>?_,.inl ⟨q,n',cs',hq,fm⟩⟩;cases e;exact Cc (uniq p.fh q (by rw[hq];rfl)).symm
        .rw[get]at hq
         split at hq
         .cases hq
         .split at hq
          .grind
          .rename_i Cc
           refine .inr ⟨λe=>?_,.inr ⟨q,l',p',hq,fm⟩⟩;cases e;exact Cc (uniq p.fh q (by rw[hq];rfl)).symm
      rcases dV with⟨rfl,rfl⟩|⟨Vi,cr⟩
      .exact .inl ⟨rfl,rfl⟩
      .refine .inr ⟨Vi,?_⟩
       rcases hw with hw|⟨n1,n2⟩
       .exact p.gV h' ab c (aS h' hw) cr e'
       .exact absurd (cr.mh p.fh) n1
     .exact .inr Fd
     .rw[qk]at dO;cases dO
      rw[get,bO rfl];exact⟨_,rfl,.cons _ _ _ _ (.bool _) (.cons _ _ _ _ (.int _ _) (.cons _ _ _ _ (.int _ _) .nil))⟩
 |_=>rw[hl]at h;cases h
theorem ZjL (h1:P.underlying P.rt.typeAssertionError=some (.pointer e)) (_h2:P.underlying e=some d) (i c:Option TypeId) (a:TypeId) (m:String) (w:World):
  ∃t v o,(runtimePanic (.typeAssertion i c a m):Sem Value).run P w= .halt (.panic (.iface t v)) (w.alloc o):=by
 simp only[runtimePanic,Sem.run_bind,run_program,Result.andThen_ok,elemOf,Zk w h1,Sem.run_pure,Kv,run_goPanic];grind
theorem qT.more (cm: ∀ψ Q a w,ax C o D E s ψ Q a w->∃t v w',(execOp a.eval o).run C.P w= .halt (.panic (.iface t v)) w'/\fu w w') (hD: ∀i,D (.inl i)):qT C o D E s s:=by
 refine⟨aW _,λψ Q a w next QQ p _ hn=>?_⟩;have⟨t,v,w',hr,hm⟩:=cm ψ Q a w p;unfold Oper.wp;rw[hr];exact hn ψ Q _ w' ⟨t,v,rfl⟩ (p.dD.more p.eS hm) (Ext.more hm) (λ_ _ e=> .inl e) λi ab cb h e=>p.gV (.inl i) ab cb (hD i) h e
theorem Ld (h:CN md s=some r):md.x=0/\r=(.dM,s):=by
 unfold CN at h;have⟨h1,h⟩:=Zq h;refine⟨cO h1,?_⟩;grind[ta,eO]
theorem ZoN (hc:kI C) (ho:o.op= .typeAssert y xt t false) (aS: ∀h,W h->D h) (hD: ∀i,D (.inl i)) (h:Lh C E o K md t y s=some r):bz C md pr ms o D W E s K r:=by
 unfold Lh at h;cases ht:C.P.underlying t with
 |none=>rw[ht]at h;cases h
 |some td=>
  have B5: ∀m,td≠ .interface m:=by rintro m rfl;rw[ht]at h;cases h
  have h':dQ C E y (λd=>Go.Gv.oK (CN md) d (C.ty t) λd=>tj (jG C.P t) d (dx E o K)) s=some r:=by rw[ht]at h;cases td<;>first|exact h|grind
  have⟨d,hd,h'⟩:=Zt h';have Pw: ∀(a:Act) (w:World),(a.eval y= .nilIface\/∃t' v,a.eval y= .iface t' v/\t'≠t)->∃t v w',(execOp a.eval o).run C.P w= .halt (.panic (.iface t v)) w'/\fu w w':=by
   intro a w hy;have⟨e,ed,e1,e2⟩:=hc.tae;rcases hy with hy|⟨t',v,hy,cS⟩
   .have⟨tv,v,ob,hv⟩:=ZjL e1 e2 (some xt) none t "" w
    refine⟨tv,v,_,?_,.alloc w ob⟩;simp only[execOp,ho,hy,Instr.typeAssert,Sem.run_bind,Zk w ht,Result.andThen_ok];cases td<;>first|(simp only[pB,ke,hv,Result.andThen_halt];done)|exact absurd rfl (B5 _)
   .have⟨tv,v,ob,hv⟩:=ZjL e1 e2 (some xt) (some t') t "" w
    refine⟨tv,v,_,?_,.alloc w ob⟩;simp only[execOp,ho,hy,Instr.typeAssert,Sem.run_bind,Zk w ht,Result.andThen_ok];cases td<;>first|(simp only[cG cS,pB,ke,hv,Result.andThen_halt];done)|exact absurd rfl (B5 _)
  cases d with
  |iface t' d=>
   simp only[Go.Gv.oK]at h';cases hb:Nat.beq t' (C.ty t)with
   |true=>
    rw[hb]at h';simp only[aa]at h';have⟨d',h',hr,_⟩:=Ev h';refine bz.val aS _ h' λψ Q a w p=>?_
    have hv:=p.val (x:=y) (by simp[Op.operands,ho]) hd;generalize hy:a.eval y=v at hv;cases hv with
    |iface t0 _ v hv=>
     have:=hc.ty _ _ (cO hb);subst this;refine⟨v,w,?_,.refl w,hr C ψ v hv⟩;simp only[execOp,ho,hy,Instr.typeAssert,Sem.run_bind,Zk w ht,Result.andThen_ok];cases td<;>first|(simp;done)|exact absurd rfl (B5 _)
   |false=>
    rw[hb]at h';obtain⟨hx,rfl⟩:=Ld h';refine .inr ⟨hx,s,rfl,qT.more (λψ Q a w p=>Pw a w (.inr ?_)) hD⟩;have hv:=p.val (x:=y) (by simp[Op.operands,ho]) hd;generalize hy:a.eval y=v at hv;cases hv with
    |iface t0 _ v hv=>exact⟨t0,v,rfl,λe=>by subst e;rw[xA]at hb;cases hb⟩
  |nilIface=>
   obtain⟨hx,rfl⟩:=Ld h';refine .inr ⟨hx,s,rfl,qT.more (λψ Q a w p=>Pw a w (.inl ?_)) hD⟩;have hv:=p.val (x:=y) (by simp[Op.operands,ho]) hd;generalize hy:a.eval y=v at hv;cases hv;rfl
  |_=>cases h'
theorem Zqe (ho:o.op= .panic y) (hD: ∀i,D (.inl i)) (h:LD C E md y s=some r):bz C md pr ms o D W E s K r:=by
 unfold LD at h;have⟨d,hd,h⟩:=Zt h;cases d with
 |iface t d=>
  obtain⟨hx,rfl⟩:=Ld h;refine .inr ⟨hx,s,rfl,qT.more (λψ Q a w p=>?_) hD⟩;have hv:=p.val (x:=y) (by simp[Op.operands,ho]) hd;generalize hy:a.eval y=v at hv;cases hv with
  |iface t0 _ v hv=>exact⟨t0,v,w,by simp only[execOp,ho,hy,Instr.panic,Sem.run_bind,run_goPanic,Result.andThen_halt],.refl w⟩
 |_=>cases h
end
section
variable {C:aY} {o:Oper} {D W:cJ->Prop} {E:Env} {s:St} {md:Md} {pr ms:al}
theorem Zqy: ∀(l:List Value) (k off:Nat) (c:Array Value),(l.zipIdx k).foldl (λcs (x:Value×Nat)=>cs.setIfInBounds (off+x.2) x.1) c=lI c (off+k) l
 |[],_,_,_=>rfl
 |v::l,k,off,c=>by
  rw[List.zipIdx_cons,List.foldl_cons,lI,Zqy l (k+1) off];rfl
theorem Zr3 (place:Nat->ah) (cells:Array Value) (i:Nat) (v:Value) (rest:List (Nat×Value)) {size:Nat} (hp:place i=some (off,size)) (h1:v.cells.size=size) (h2:off+size<=cells.size):
  Instr.fill place cells ((i,v)::rest)=Instr.fill place (lI cells off v.cells.toList) rest:=by
 subst h1;have e:v.cells.zipIdx.foldl (λcs (x:Value×Nat)=>cs.setIfInBounds (off+x.2) x.1) cells=lI cells off v.cells.toList:=by
  rw[<-Array.foldl_toList,Array.toList_zipIdx];exact Zqy v.cells.toList 0 off cells
 have hn: ¬(off+v.cells.size>cells.size):=AC
 simp only[Instr.fill,hp,ne_eq,not_true_eq_false,decide_false,ue,hn,pB,ke];grind
theorem ba.rX (h:ba C ψ ds vs.toList):ds.length=vs.size:=by have:=h.len;simpa using this
theorem ZtV {cs:af} {us:List Value} (h:ba C ψ cs vs.toList) (h':ba C ψ ds us) (hl:off+ds.length<=cs.length):ba C ψ (cT cs off ds) (lI vs off us).toList:=by
 have e1:=h.rX;have e2:=h'.len;refine ba.of _ _ (by simp[AE,e1]) λj d v hd hv=>?_
 rw[AZ cs off ds j hl]at hd;rw[iE,EF _ _ _ _ AC]at hv;split at hd
 .rw[bO AC]at hv
  have⟨v',dB,hr⟩:=h'.get hd;rw[hv]at dB;cases dB;exact hr
 .rw[cG AC]at hv
  have⟨v',dB,hr⟩:=h.get hd;rw[iE,hv]at dB;cases dB;exact hr
theorem KU {N:Nat} {place:Nat->ah} {r:Out β×St} : ∀ {l:List (Nat×Operand)} {cs:af} {K:af->M β},vd E C N place l cs K s=some r->cs.length=N->
  ∃cs',K cs' s=some r/\cs'.length=N/\∀ψ Q a w,ax C o D E s ψ Q a w->(∀x∈l,x.2∈o.op.operands)->∀vs:Array Value,ba C ψ cs vs.toList->cs.all one=true->
   ∃gx,Instr.fill place vs (l.map λx=>(x.1,a.eval x.2))=some gx/\ba C ψ cs' gx.toList/\cs'.all one=true
 |[],cs,K,h,hl=>⟨cs,h,hl,λψ Q a w _ _ vs hr h1=>⟨vs,rfl,hr,h1⟩⟩
 |(i,x)::l,cs,K,h,hl=>by
  simp only[vd]at h;cases hp:place i with
  |none=>rw[hp]at h;cases h
  |some on=>
   have⟨off,n⟩:=on;rw[hp]at h;simp only at h;have⟨hb,h⟩:=Zq h;have hb:=lQ hb;have⟨d,hd,h⟩:=Zt h;have go: ∀ds,vd E C N place l (cT cs off ds) K s=some r->ds.length=n->(∀(ψ:Ps) v,VR C ψ d v->ba C ψ ds v.cells.toList/\ds.all one=true)->
     ∃cs',K cs' s=some r/\cs'.length=N/\∀ψ Q a w,ax C o D E s ψ Q a w->(∀y∈(i,x)::l,y.2∈o.op.operands)->∀vs:Array Value,ba C ψ cs vs.toList->cs.all one=true->
      ∃gx,Instr.fill place vs (((i,x)::l).map λx=>(x.1,a.eval x.2))=some gx/\ba C ψ cs' gx.toList/\cs'.all one=true:=by
    intro ds h iy hr;have⟨cs',h,fy,NS⟩:=KU h (by rw[AE];exact hl);refine⟨cs',h,fy,λψ Q a w p hm vs hv h1=>?_⟩;have⟨h3,h4⟩:=hr ψ _ (p.val (hm (i,x) Do) hd);have bS:(a.eval x).cells.size=n:=by rw[<-iy,h3.rX]
    have u7:=hv.rX;have⟨gx,e1,e2,e3⟩:=NS ψ Q a w p Fd _ (ZtV (off:=off) hv h3 AC) (Zqq h1 h4 AC);refine⟨gx,?_,e2,e3⟩;rw[pC,Zr3 place vs i _ _ hp bS AC];exact e1
   have plain:(∀cs,d≠ .agg cs)->(bif Nat.beq n 1 then aJ (one d) (vd E C N place l (cT cs off [d]) K)else fail) s=some r->_:=λhna h=>by
    have⟨h1,h⟩:=Zq h;have⟨h2,h⟩:=ZU h;exact go [d] h (by simpa using (cO h1).symm) (λψ v hv=>by rw[hv.Pn h2];exact⟨.cons _ _ _ _ hv .nil,by simp[h2]⟩)
   cases d with
   |agg ds=>
    simp only at h;have⟨h1,h⟩:=Lf h;rw[LL hl h1 hb]at h;exact go ds h h1 (λψ v hv=>by cases hv with|agg _ vs a b=>exact⟨a,b⟩)
   |_=>exact plain Do h
theorem Zjp {P:Program} : ∀(fs:List Field),(fs.all λf=>(P.info? f.type).isSome)=true->fs.mapM (λf=>(P.info? f.type).map λi=>(f.offset,i.size))=some (fs.map λf=>(f.offset,P.cellsOf f.type))
 |[],_=>rfl
 |f::fs,h=>by
  simp only[vu,aZ]at h;have⟨i,hi⟩:=Option.isSome_iff_exists.1 h.1;simp[List.mapM_cons,hi,Zjp fs h.2,Program.cellsOf]
theorem Zqd (ho:o.op= .build t ps) (aS: ∀h,W h->D h) (h:LF C E o K t ps s=some r):bz C md pr ms o D W E s K r:=by
 unfold LF at h;cases hz:jO C.P t with
 |none=>rw[hz]at h;cases h
 |some z=>
  rw[hz]at h;simp only at h;have⟨fY,h⟩:=Zq h;have⟨cs',h,hl,hr⟩:=KU (o:=o) (D:=D) h rfl;refine bz.val aS _ h λψ Q a w p=>?_
  unfold jO at hz;cases hi:C.P.info? t with
  |none=>rw[hi]at hz;cases hz
  |some it=>
   rw[hi]at hz;simp only at hz;cases nA:it.zero with
   |none=>rw[nA]at hz;cases hz
   |some zv=>
    rw[nA]at hz;have⟨iV,mD⟩:=xR (C:=C) (ψ:=ψ) hz;have⟨gx,e1,e2,e3⟩:=hr ψ Q a w p (λx hx=>by simp only[Op.operands,ho,List.mem_toArray,ox];exact⟨x,hx,rfl⟩) _ iV mD;refine⟨.agg gx,w,?_,.refl w,.agg _ _ e2 e3⟩;have hb:C.P.built t (ps.map λ(i,x)=>(i,a.eval x)).toList=some gx:=by
     have rz:Instr.fill (LN C.P t) zv.cells (ps.map λ(i,x)=>(i,a.eval x)).toList=some gx:=by rw[Array.toList_map];exact e1
     unfold Program.built ZoH at*
     unfold LN at rz;cases hu:C.P.underlying t with
     |none=>rw[hu]at fY;cases fY
     |some td=>
      rw[hu]at fY rz;rw[hi];cases td with
      |struct fs=>
       simp only at fY⊢;rw[nA,Zjp _ fY];grind
      |array m e=>
       simp only at fY⊢;have⟨ie,rO⟩:=Option.isSome_iff_exists.1 fY;rw[nA,rO];simp only at rz⊢;rw[<-rz];simp[Program.cellsOf,rO]
      |_=>cases fY
    rw[execOp,ho,Sem.run_bind,run_build w t _ _ hb,Result.andThen_ok,Sem.run_pure]
theorem xV (n:Nat) (z:af):(fp n z).length=n*z.length:=by
 induction n with
 |zero=>simp[fp]
 |succ n ih=>
  have:fp (n+1) z=z++fp n z:=FS
  rw[this,cq,ih,xD,oz]
theorem qZ (h:z.all one=true):(fp n z).all one=true:=by
 induction n with
 |zero=>rfl
 |succ n ih=>
  have:fp (n+1) z=z++fp n z:=FS
  rw[this,uf,h,ih];rfl
theorem Ztq (n:Nat) (z:af) (j:Nat) (h:j<n*z.length):(fp n z)[j]? =z[j%z.length]? :=by
 induction n generalizing j with
 |zero=>simp at h
 |succ n ih=>
  have e:fp (n+1) z=z++fp n z:=FS
  rw[e];by_cases hj:j<z.length
  .rw[lj hj,Nat.mod_eq_of_lt hj]
  .rw[iO AC,ih (j-z.length) (by rw[xD]at h;omega)]
   rw[show j%z.length=(j-z.length)%z.length from by rw[Nat.mod_eq_sub_mod AC]]
theorem K6 (h:ba C ψ z zv.toList) (n m:Nat) (hm:n*z.length<=m):ba C ψ (fp n z) ((madeCells zv m).toList.take (fp n z).length):=by
 have hl:=h.rX;refine ba.of _ _ (by grind[size_madeCells,xV]) λj d v hd hv=>?_
 rw[xV,ug]at hv;split at hv
 .rename_i hj
  rw[Ztq n z j hj]at hd;have⟨v',dB,hr⟩:=h.get hd;rw[iE]at hv dB;grind[madeCells]
 .cases hv
theorem Zlm {len:Nat} (ho:o.op= .buildSlice t len ps) (aS: ∀h,W h->D h) (h:Kb C E o K t len ps s=some r):bz C md pr ms o D W E s K r:=by
 unfold Kb at h;unfold q9 at h;cases ht:C.P.underlying t with
 |none=>rw[ht]at h;cases h
 |some td=>
  rw[ht]at h;cases td with
  |slice e=>
   simp only at h;cases hz:jO C.P e with
   |none=>rw[hz]at h;cases h
   |some z=>
    rw[hz]at h;simp only at h;have⟨hb,h⟩:=Zq h;rw[aZ]at hb;have hZ:=lQ hb.1;have fV:=cO hb.2;have⟨cs',h,hl,hr⟩:=KU (o:=o) (D:=D) h (by rw[xV,fV]);refine bz.CJ (by unfold nS;rw[ho];trivial) aS (.slice (C.P.cellsOf e) (some (s.length,0)) len) cs' h λψ Q a w p=>?_
    have⟨zv,Oa,zF,iV⟩:=Ki (P:=C.P) w hz;have zF:=zF C ψ;have rO: ∃ie,C.P.info? e=some ie/\ie.size=C.P.cellsOf e:=by
     unfold jO at hz;cases hi:C.P.info? e with
     |none=>rw[hi]at hz;cases hz
     |some ie=>exact⟨ie,rfl,by simp[Program.cellsOf,hi]⟩
    have⟨ie,rO,P0⟩:=rO;have B2:=K6 zF len (len*C.P.cellsOf e) (by rw[fV];exact aW _);rw[xV,fV,AY (by simp[size_madeCells])]at B2;have⟨gx,e1,e2,e3⟩:=hr ψ Q a w p (λx hx=>by simp only[Op.operands,ho,List.mem_toArray,ox];exact⟨x,hx,rfl⟩) _ B2 (qZ iV);have u7:=e2.rX;rw[hl]at u7;refine⟨.slice (some ⟨w.heap.size,0,none⟩) len len,w.alloc (.cells gx e),⟨w.heap.size,0,gx.size⟩,?_,.alloc w _,aW _,Do,xP (by rw[AY (by simp[hl,u7])];exact e2) e3,λψ' _ qy=>?_⟩
    .have hn: ¬(len*C.P.cellsOf e>2^24):=AC
     by_cases h0:len*C.P.cellsOf e=0
     .have e0:madeCells zv.cells (len*C.P.cellsOf e)= #[]:=by rw[h0];simp[madeCells,Array.range_zero']
      rw[e0]at e1;simp only[execOp,ho,Instr.buildSlice,Sem.run_bind,Zk w ht,Result.andThen_ok,sizeOf,typeInfo,run_program,rO,Sem.run_pure,P0,h0,ju,Array.range_zero',Array.map_empty];simp[e1,newRow]
     .simp only[execOp,ho,Instr.buildSlice,Sem.run_bind,Zk w ht,Result.andThen_ok,sizeOf,typeInfo,run_program,rO,Sem.run_pure,P0,hn,ke,h0,Oa]
      unfold madeCells at e1;simp[e1,newRow]
    .have:=VR.slice (C:=C) (ψ:=ψ') (C.P.cellsOf e) s.length 0 len ⟨w.heap.size,0,gx.size⟩ ⟨w.heap.size,0,none⟩ len qy (aW _) Fd
     exact this
  |_=>cases h
theorem Zml {l c:Operand} (ho:o.op= .makeSlice t l c) (aS: ∀h,W h->D h) (h:J6 C E o K t l c s=some r):bz C md pr ms o D W E s K r:=by
 unfold J6 q9 at h;cases ht:C.P.underlying t with
 |none=>rw[ht]at h;cases h
 |some td=>
  rw[ht]at h;cases td with
  |slice e=>
   simp only at h;cases hz:jO C.P e with
   |none=>rw[hz]at h;cases h
   |some z=>
    rw[hz]at h;simp only at h;have⟨fV,h⟩:=Zq h;have fV:=cO fV;have⟨k1,n,hn,h⟩:=xY h;have⟨k2,m,hm,h⟩:=xY h;have⟨hb,h⟩:=ZU h;simp only[aZ,vB]at hb;have⟨⟨h0,h1⟩,h2⟩:=hb;refine bz.CJ (by unfold nS;rw[ho];trivial) aS (.slice (C.P.cellsOf e) (some (s.length,0)) n.toNat) (fp n.toNat z) h λψ Q a w p=>?_
    unfold jO at hz;cases hi:C.P.info? e with
    |none=>rw[hi]at hz;cases hz
    |some ie=>
     rw[hi]at hz;simp only at hz;cases nA:ie.zero with
     |none=>rw[nA]at hz;cases hz
     |some zv=>
      rw[nA]at hz;have⟨iV,mD⟩:=xR (C:=C) (ψ:=ψ) hz;have bS:ie.size=C.P.cellsOf e:=by simp[Program.cellsOf,hi]
      have UY:(ie.bytes:Int)*m<=281474976710656:=by
       unfold ve EB at h2;rw[hi]at h2;simp only at h2;have h3:m.toNat<=70368744177664/ie.bytes:=AC
       rcases z8 ie.bytes with hz|hp
       .rw[hz];simp
       .have:=(Nat.le_div_iff_mul_le hp).1 h3
        have e:m=(m.toNat:Int):=AC
        rw[e,<-Int.natCast_mul,Nat.mul_comm];omega
      have FG:m<=9223372036854775807:=by
       unfold ve at h2;have:=Nat.div_le_self 70368744177664 (EB C.P e);omega
      have hr:=run_make (P:=C.P) w t e ie zv ht hi nA k1 k2 n m h0 h1 UY FG;have hle:n.toNat*C.P.cellsOf e<=m.toNat*ie.size:=by rw[bS];exact xB _ AC
      refine⟨.slice (some ⟨w.heap.size,0,none⟩) n.toNat m.toNat,w.alloc (.cells (madeCells zv.cells (m.toNat*ie.size)) e),⟨w.heap.size,0,(madeCells zv.cells (m.toNat*ie.size)).size⟩,?_,.alloc w _,aW _,Do,xP (K6 iV n.toNat (m.toNat*ie.size) (by rw[fV];exact hle)) (qZ mD),λψ' _ qy=>?_⟩
      .have e1:=p.int (x:=l) (by simp[Op.operands,ho]) hn
       have e2:=p.int (x:=c) (by simp[Op.operands,ho]) hm;simp only[execOp,ho,e1,e2,Sem.run_bind,hr,Result.andThen_ok,Sem.run_pure]
      .exact VR.slice _ _ 0 _ _ _ _ qy AC (λ_=>⟨rfl,by simp only[size_madeCells,bS];omega⟩)
  |_=>cases h
theorem Zsh {b:Builtin} (hq:q.callee= .builtin b) (hb:b= .len) (ho:o.op= .call q) (aS: ∀h,W h->D h) (h:Ov C E o K q.argTypes q.args s=some r):bz C md pr ms o D W E s K r:=by
 subst hb;unfold Ov at h;cases ha:q.args.toList with
 |nil=>rw[ha]at h;cases h
 |cons y rest=>
  cases rest with
  |cons _ _=>rw[ha]at h;cases h
  |nil=>
   cases ht:q.argTypes[0]? with
   |none=>rw[ha,ht]at h;cases h
   |some t=>
    rw[ha,ht]at h;simp only at h;have ix:q.args= #[y]:=by rw[<-Array.toArray_toList (xs:=q.args),ha]
    have mem:y∈o.op.operands:=by rw[ho];simp[Op.operands,Call.operands,hq,ix]
    have run: ∀(a:Act) (w:World) v,(Builtin.len_ q.argTypes o.type #[a.eval y]).run C.P w= .ok v w->(execOp a.eval o).run C.P w= .ok (.value v) w:=by
     intro a w v hv;simp[execOp,ho,resolve,hq,invoke,builtin,ix,hv]
    cases hu:C.P.underlying t with
    |none=>rw[hu]at h;cases h
    |some td=>
     rw[hu]at h;cases td with
     |array m e=>
      refine bz.val aS _ h λψ Q a w p=>⟨.int .i64 m,w,run a w _ ?_,.refl w,.int _ _⟩
      simp[Builtin.len_,ht,Zk w hu,goInt]
     |string=>
      simp only at h;have⟨d,hd,h⟩:=Zt h;cases d with
      |str l=>
       refine bz.val aS _ h λψ Q a w p=>?_
       have hv:=p.val mem hd;generalize hy:a.eval y=v at hv;cases hv with
       |str x=>
        refine⟨.int .i64 x.size,w,run a w _ ?_,.refl w,?_⟩
        .simp[Builtin.len_,ht,Zk w hu,goInt,hy]
        .have:x.data.toList.length=x.size:=by rw[kG];rfl
         rw[this];exact .int _ _
      |_=>cases h
     |slice e=>
      simp only at h;have⟨d,hd,h⟩:=Zt h;cases d with
      |slice z a' n=>
       refine bz.val aS _ h λψ Q a w p=>?_
       have hv:=p.val mem hd;generalize hy:a.eval y=v at hv;cases hv with
       |nI=>exact⟨.int .i64 (0:Nat),w,run a w _ (by simp[Builtin.len_,ht,Zk w hu,goInt,hy]),.refl w,.int _ _⟩
       |slice _ i off _ cb base cap=>exact⟨.int .i64 n,w,run a w _ (by simp[Builtin.len_,ht,Zk w hu,goInt,hy]),.refl w,.int _ _⟩
      |_=>cases h
     |_=>cases h
theorem Znr {b:Builtin} (hq:q.callee= .builtin b) (hb:b=if mx then .max else .min) (ho:o.op= .call q) (aS: ∀h,W h->D h) (h:GI C E o K mx q.args s=some r):bz C md pr ms o D W E s K r:=by
 unfold GI at h;cases ha:q.args.toList with
 |nil=>rw[ha]at h;cases h
 |cons y rest=>
  cases rest with
  |nil=>rw[ha]at h;cases h
  |cons z rest=>
   cases rest with
   |cons _ _=>rw[ha]at h;cases h
   |nil=>
    rw[ha]at h;simp only at h;have ix:q.args= #[y,z]:=by rw[<-Array.toArray_toList (xs:=q.args),ha]
    have my:y∈o.op.operands:=by rw[ho];simp[Op.operands,Call.operands,hq,ix]
    have mz:z∈o.op.operands:=by rw[ho];simp[Op.operands,Call.operands,hq,ix]
    have⟨d,hd,h⟩:=Zt h;have⟨e,he,h⟩:=Zt h;cases d with
    |int k n=>
     cases e with
     |int k' m=>
      simp only at h;have⟨hk,h⟩:=Zq h;refine bz.val aS _ h λψ Q a w p=>?_
      have e1:=p.int my hd;have e2:=p.int mz he;cases mx with
      |true=>
       simp only[ju]at hb;subst hb;exact⟨.int k (if n<m then m else n),w,by simp[execOp,ho,resolve,hq,invoke,builtin,ix,e1,e2,Builtin.max_,Builtin.max2],.refl w,.int _ _⟩
      |false=>
       simp only[pB,ke]at hb;subst hb;exact⟨.int k (if m<n then m else n),w,by simp[execOp,ho,resolve,hq,invoke,builtin,ix,e1,e2,Builtin.min_,Builtin.min2],.refl w,.int _ _⟩
     |_=>cases h
    |_=>cases h
end
section
variable {C:aY} {o:Oper} {D W:cJ->Prop} {E:Env} {s:St} {md:Md} {pr ms:al}
theorem LW {a:ah} {K:af->M β} (h:gJ a n K s=some r):
  ∃ds,K ds s=some r/\ds.length=n/\((a=none/\n=0/\ds=[])\/∃i q f cs,a=some (i,q)/\cu s i=some (.cells f cs)/\q+n<=cs.length/\ds=(cs.drop q).take n):=by
 cases a with
 |none=>
  simp only[gJ]at h;have⟨h1,h⟩:=Zq h;have:=cO h1;grind
 |some iq=>
  have⟨i,q⟩:=iq;simp only[gJ]at h;have⟨f,cs,h1,h2,h⟩:=AG h;grind
theorem ES {A:Act} (p:ax C o D E s ψ Q A w) (hD: ∀i,D (.inl i)) {z k:Nat} {a:ah} (hv:VR C ψ (.slice z a m) v)
  (hz:z=sz\/a=none) (hn:n=k*sz) (hk:k<=m)
  (mn:(a=none/\n=0/\ds=[])\/∃i q f cs,a=some (i,q)/\cu s i=some (.cells f cs)/\q+n<=cs.length/\ds=(cs.drop q).take n):
  ∃base cap vs,v= .slice base m cap/\(∀w',w'.heap=w.heap->(Builtin.firstCells sz k v).run C.P w'= .ok vs w')/\ba C ψ ds vs.toList/\ds.all one=true:=by
 subst hn;cases hv with
 |nI=>
  rcases mn with⟨_,_,rfl⟩|⟨i,q,f,cs,h,_⟩
  .exact⟨none,0, #[],rfl,λw' _=>FS,.nil,rfl⟩
  .cases h
 |slice _ i q _ cb ad cap eM mm hb=>
  rcases mn with⟨h,_⟩|⟨i',q',f,cs,h,h1,h2,rfl⟩
  .cases h
  .cases h
   have hz:z=sz:=Fd
   subst hz;have hh:=p.at (hD i) h1 eM;by_cases h0:k*z=0
   .refine⟨some ad,cap, #[],rfl,λw' _=>?_,?_,?_⟩
    .simp[Builtin.firstCells,h0,loadCells,loadCellsFrom]
    .rw[h0];rw[List.take_zero];exact .nil
    .rw[h0];simp
   .have hc:0<cap:=by
     grind
    have⟨e1,e2⟩:=hb hc;have⟨vs,e3,e4,e5,e6⟩:=Zkd (P:=C.P) hh h2;exact⟨some ad,cap,vs,rfl,λw' hw=>by rw[Builtin.firstCells,e1,e3 w' hw],e5,e6⟩
theorem Zmk {ψ:Ps} : ∀ {ds:af} {l:aj} {vs:List Value},na ds=some l->ba C ψ ds vs->∃ns:ak,vs=ns.map (Value.int .u8)/\ns.map (λn=>UInt8.ofNat n.toNat)=l
 |[],l,vs,h,hv=>by
  simp only[na,eO]at h;cases hv;exact⟨[],rfl,h⟩
 |d::ds,l,vs,h,hv=>by
  cases hv with
  |cons _ v _ vs h1 h2=>
   cases h1 with
   |int k n=>
    cases k with
    |u8=>
     simp only[na,Option.map_eq_some_iff]at h;have⟨l',h3,h4⟩:=h;have⟨ns,e1,e2⟩:=Zmk h3 h2;exact⟨n::ns,by simp[e1],by simp[e2,h4]⟩
    |_=>simp[na]at h
   |_=>simp[na]at h
theorem Zs1 {cs:af} {K:aj->M β} (h:Go.Gv.gI cs K s=some r): ∃l,na cs=some l/\K l s=some r:=by
 unfold Go.Gv.gI at h;cases he:na cs with
 |none=>rw[he]at h;cases h
 |some l=>rw[he]at h;exact⟨l,rfl,h⟩
end
section
variable {C:aY} {o:Oper} {D W:cJ->Prop} {E:Env} {s:St} {md:Md} {pr ms:al}
theorem Zjo (l:aj):ba C ψ (ZR l) (l.map λb=>Value.int .u8 b.toNat):=by
 induction l with
 |nil=>exact .nil
 |cons b l ih=>exact .cons _ _ _ _ (.int _ _) ih
theorem JA (l:aj):(ZR l).all one=true:=by simp[ZR,one]
@[simp] theorem RM (l : aj) : (ZR l).length = l.length := by simp [ZR]
def Et (w:World) (c:Array Value) (e:TypeId):World:= { w with heap:=w.heap.push (.cells c e (c.size,c.size+1)) }
theorem Zod (w:World) (c:Array Value) (e:TypeId):fu w (Et w c e):=fu.alloc w (.cells c e (c.size,c.size+1))
theorem Zp6 (w:World) (c:Array Value) (e:TypeId):(markStringish ⟨w.heap.size,0,none⟩).run P (w.alloc (.cells c e))= .ok () (Et w c e):=by
 have h1:(w.alloc (.cells c e)).shape? w.heap.size=some (e,c.size):=by rw[World.shape?,heap_alloc_new]
 unfold markStringish;rw[Sem.run_bind,run_shape,h1,Result.andThen_ok,run_freeze];congr 1;unfold World.freeze Et World.alloc;simp only[Nat.one_ne_zero,ke];congr 1;grind
theorem ZqA (h:Gx P e=true):P.underlying e=some (.int .u8):=by
 grind[Gx]
theorem ZnU (ho:o.op= .convert t u y) (aS: ∀h,W h->D h) (hD: ∀i,D (.inl i)) (h:KX C E o K t u y s=some r):bz C md pr ms o D W E s K r:=by
 have my:y∈o.op.operands:=by rw[ho];simp[Op.operands]
 unfold KX at h;have⟨td,ht,h⟩:=Z5 h;have run: ∀(a:Act) (w w':World) v,(convert t u (a.eval y)).run C.P w= .ok v w'->(execOp a.eval o).run C.P w= .ok (.value v) w':=by
  intro a w w' v hv;simp[execOp,ho,hv]
 cases hu:C.P.underlying u with
 |none=>rw[hu]at h;cases h
 |some ud=>
  rw[hu]at h;cases ud with
  |int k=>
   simp only at h;have⟨d,hd,h⟩:=Zt h;cases d with
   |int k' n=>
    refine bz.val aS _ h λψ Q a w p=>⟨.int k (k.wrap n),w,run a w w _ ?_,.refl w,.int _ _⟩
    rw[p.int my hd];simp[convert,Zk w ht,Zk w hu,Conv.intToInt]
   |_=>cases h
  |string=>
   simp only at h;rw[ht]at h;cases td with
   |int k0=>
    simp only at h;have⟨d,hd,h⟩:=Zt h;cases d with
    |int k' n=>
     refine bz.val aS _ h λψ Q a w p=>⟨.string (Utf8.encode n),w,run a w w _ ?_,.refl w,.str _⟩
     rw[p.int my hd];simp[convert,Zk w ht,Zk w hu,Conv.intToString]
    |_=>cases h
   |string=>
    simp only at h;have⟨d,hd,h⟩:=Zt h;cases d with
    |str l=>
     refine bz.val aS _ h λψ Q a w p=>?_
     have hv:=p.val my hd;generalize hy:a.eval y=v at hv;cases hv with
     |str x=>exact⟨.string x,w,run a w w _ (by rw[hy];simp[convert,Zk w ht,Zk w hu]),.refl w,.str _⟩
    |_=>cases h
   |slice e=>
    simp only at h;have⟨h8,h⟩:=Zq h;have he:=ZqA h8;have⟨d,hd,h⟩:=Zt h;cases d with
    |slice z a' n=>
     simp only at h;have⟨hz,h⟩:=Zq h;have⟨ds,h,_,mn⟩:=LW h;have⟨l,hl,h⟩:=Zs1 h;refine bz.val aS _ h λψ Q A w p=>?_
     have u9:z=1\/a'=none:=by
      rw[kb]at hz;rcases hz with h|h
      .exact .inl (cO h)
      grind
     have⟨base,cap,vs,hv,cm,hr,_⟩:=ES p hD (p.val my hd) u9 (k:=n) Do (aW _) mn;have⟨ns,e1,e2⟩:=Zmk hl hr;cases base with
     |none=>
      have:ds=[]:=by
       have dB:=p.val my hd;rw[hv]at dB;cases dB;grind
      subst this;simp only[na,eO]at hl;subst hl;refine⟨.string .empty,w,run A w w _ ?_,.refl w,.str .empty⟩;rw[hv];simp[convert,Zk w ht,Zk w hu,Zk w he,Conv.bytesToString]
     |some b=>
      have VH:(loadCells b n).run C.P w= .ok (ns.map (Value.int .u8)).toArray w:=by
       have cm:=cm w rfl;rw[hv]at cm;simp only[Builtin.firstCells,cL]at cm;rw[cm,<-e1]
      refine⟨.string (ns.foldl (λr n=>r.push (UInt8.ofNat n.toNat)) ByteArray.empty),w,run A w w _ ?_,.refl w,?_⟩
      .rw[hv,run_convert_bytes_string w t u e (some b) n cap ht he hu]
       exact run_bytesToString w b n cap ns VH
      .have:(ns.foldl (λr n=>r.push (UInt8.ofNat n.toNat)) ByteArray.empty).data.toList=l:=by
        rw[foldl_push_bytes,<-e2];simp
       rw[<-this];exact .str _
    |_=>cases h
   |_=>cases h
  |slice e=>
   simp only at h;have⟨h8,h⟩:=Zq h;have he:=ZqA h8;have⟨d,hd,h⟩:=Zt h;cases d with
   |str l=>
    simp only at h;refine bz.CJ (by unfold nS;rw[ho];trivial) aS _ _ h λψ Q a w p=>?_
    have hv:=p.val my hd;generalize hy:a.eval y=v at hv;cases hv with
    |str x=>
     have hx:x.data.toList.length=x.size:=by rw[kG];rfl
     let cap:=(Question.appendCap x.size 0 e).cut (w.tape w.drawn (.appendCap x.size 0 e))
     have mm:x.size<=cap:=by simp only[cap,Question.cut];omega
     let c:Array Value:=(x.data.map λb=>Value.int .u8 b.toNat)++Array.replicate (cap-x.size) (.int .u8 0)
     refine⟨.slice (some ⟨w.heap.size,0,none⟩) x.size cap,Et w.drew c e,⟨w.heap.size,0,c.size⟩,run a w _ _ ?_,(fu.drew w).trans (Zod w.drew c e),aW _,(by show w.heap.size<(w.heap.push _).size;simp),?_,λψ' _ qy=>?_⟩
     .rw[hy]
      have hm:=Zp6 (P:=C.P) w.drew c e;simp only[convert,Sem.run_bind,Zk w ht,Zk w hu,Result.andThen_ok,Zk w he];have hq:(Question.appendCap x.size 0 e).forced=false:=rfl;simp only[Conv.stringToBytes,Sem.run_bind,run_choose,hq,pB,ke,Result.andThen_ok,newRow,run_newObj,Sem.run_pure];exact(congrArg (λr=>Result.andThen r λ_ w'=>Result.ok (Value.slice (some ⟨w.heap.size,0,none⟩) x.size cap) w') hm)
     .refine Znw (ty:=e) (fr:=(c.size,c.size+1)) (by show(w.heap.push _)[w.heap.size]? =_;simp) (.inr (aW _)) ?_ (JA _)
      have:c.toList.take (ZR x.data.toList).length=x.data.toList.map λb=>Value.int .u8 b.toNat:=by
       rw[RM];simp only[c,Array.toList_append,Array.toList_map];rw[List.take_append_of_le_length Do,dJ Do]
      rw[this];exact Zjo _
     .rw[hx]
      have:=VR.slice (C:=C) (ψ:=ψ') 1 s.length 0 x.size ⟨w.heap.size,0,c.size⟩ ⟨w.heap.size,0,none⟩ cap qy mm Fd;exact this
   |_=>cases h
  |_=>cases h
end
section
variable {C:aY} {o:Oper} {D W:cJ->Prop} {E:Env} {s:St} {md:Md} {pr ms:al}
theorem Zsz {a:ah} {len:Nat} {K:ah->M β} (h:cB sz a len ds m lim K s=some r):
  (m=0/\K a s=some r)\/(0<m/\len+m<=lim/\((a=none/\len=0/\K (some (s.length,0)) (s++[some ⟨false,ds⟩])=some r)\/
   ∃i q cs,a=some (i,q)/\s.fJ i=some cs/\q+len*sz<=cs.length/\K (some (s.length,0)) (s.set i none++[some ⟨false,(cs.drop q).take (len*sz)++ds⟩])=some r)):=by
 unfold cB at h;cases h0:Nat.beq m 0 with
 |true=>rw[h0]at h;simp_all
 |false=>
  rw[h0]at h;simp only[ae]at h;have hm:=Dg h0;cases h1:Nat.ble (len+m) lim with
  |false=>rw[h1]at h;cases h
  |true=>
   rw[h1]at h;simp only[aa]at h;refine .inr ⟨AC,lQ h1,?_⟩;cases a with
   |none=>
    simp only at h;cases h2:Nat.beq len 0 with
    |false=>rw[h2]at h;cases h
    |true=>rw[h2]at h;simp_all
   |some iq=>
    have⟨i,q⟩:=iq;simp only at h;cases h3:s.fJ i with
    |none=>rw[h3]at h;cases h
    |some cs=>
     rw[h3]at h;simp only at h;cases h4:Nat.ble (q+len*sz) cs.length with
     |false=>rw[h4]at h;cases h
     |true=>rw[h4]at h;exact .inr ⟨i,q,cs,rfl,h3,lQ h4,h⟩
def vH (P:Program) (ts:Array TypeId):Prop:=match ts[1]? with|none=>True|some t=>∃d,P.underlying t=some d/\∀k,d≠ .int k
theorem ZqR {K:M β} (h:Om C.P ts K s=some r):vH C.P ts/\K s=some r:=by
 unfold Om at h;unfold vH;cases ht:ts[1]? with
 |none=>rw[ht]at h;exact⟨trivial,h⟩
 |some t=>
  rw[ht]at h;simp only at h⊢;cases hu:C.P.underlying t with
  |none=>rw[hu]at h;cases h
  |some d=>
   rw[hu]at h;cases d with
   |int k=>cases h
   |_=>exact Fd
theorem ZiF (h0:ts[0]? =some t) (ht:P.underlying t=some (.slice e)) (he:P.underlying e=some ed) (hn:vH P ts) (ty:TypeId)
  (base:Option Addr) (n m cap:Nat) (X:Value) (w w':World) (new:Array Value) (hX:(Builtin.lenOf X).run P w= .ok m w) (hc:n+m<=cap)
  (hf:(Builtin.firstCells (P.cellsOf e) m X).run P w= .ok new w) (hs: ∀a,base=some a->(storeCells (a.add (n*P.cellsOf e)) new.toList).run P w= .ok () w') (hb:base=none->w'=w):
  (Builtin.append_ ts ty #[.slice base n cap,X]).run P w= .ok (.slice base (n+m) cap) w':=by
 have key:(P.underlying t=some (.slice e))->(do
   let n' <-Builtin.lenOf X
   let QL:=n+n'
   if QL<=cap then
    let new <-Builtin.firstCells (P.cellsOf e) n' X
    if let some a:=base then storeCells (a.add (n*P.cellsOf e)) new.toList
    pure (.slice base QL cap)
   else stuck "" :Sem Value).run P w= .ok (.slice base (n+m) cap) w':=by
  intro _;simp only[Sem.run_bind,hX,Result.andThen_ok,hc,ju,hf];cases base with
  |none=>have:=hb rfl;subst this;simp
  |some a=>simp[hs a rfl]
 have key:=key ht;simp only[Sem.run_bind,hX,Result.andThen_ok,hc,ju,hf]at key;unfold Builtin.append_;unfold vH at hn;cases h1:ts[1]? with
 |none=>
  simp only[h0,Dd,jI,nO,Sem.run_bind,Zk w ht,Result.andThen_ok,ZT w he,Sem.run_pure,pB,ke,hX,cy,ju,hc,hf];exact key
 |some t1=>
  rw[h1]at hn;have⟨d,hd,jC⟩:=hn;simp only[h0,Dd,jI,nO,Sem.run_bind,Zk w ht,Result.andThen_ok,ZT w he,Zk w hd];cases d<;>first|exact absurd rfl (jC _)|(simp only[Sem.run_pure,Result.andThen_ok,Sem.run_bind,pB,ke,hX,cy,ju,hc,hf];exact key)
theorem Zm9 (z:Array Value) (n:Nat):(Builtin.zeroCells z n).size=n*z.size:=by simp[Builtin.zeroCells]
theorem ZlQ {ie:TypeInfo} {z:Value} (h0:ts[0]? =some t) (ht:P.underlying t=some (.slice e)) (he:P.underlying e=some ed) (rO:P.info? e=some ie)
  (zD:ie.zero=some z) (hn:vH P ts) (ty:TypeId) (base:Option Addr) (n m cap:Nat) (X:Value) (w:World) (dV new:Array Value) (hX: ∀w,(Builtin.lenOf X).run P w= .ok m w) (hc:cap<n+m)
  (hb:(n+m)*ie.bytes<=70368744177664) (FG:n+m<=70368744177664) (ho:(Builtin.firstCells (P.cellsOf e) n (.slice base n cap)).run P w.drew= .ok dV w.drew) (hf:(Builtin.firstCells (P.cellsOf e) m X).run P w.drew= .ok new w.drew):
  ∃k,n+m<=k/\(Builtin.append_ ts ty #[.slice base n cap,X]).run P w= .ok (.slice (some ⟨w.heap.size,0,none⟩) (n+m) k) (w.drew.alloc (.cells (dV++new++Builtin.zeroCells z.cells (k-(n+m))) e)):=by
 refine⟨(Question.appendCap (n+m) cap e).cut (w.tape w.drawn (.appendCap (n+m) cap e)),by simp[Question.cut],?_⟩;have hq:(Question.appendCap (n+m) cap e).forced=false:=rfl;have g1: ¬(n+m<=cap):=AC
 have g2: ¬(Builtin.nextslicecap (n+m) cap*ie.bytes>2^48):=by
  have:=growslice_fits (bytes:=ie.bytes) hc AC;omega
 have g3: ¬(((n+m:Nat):Int)>IntKind.i64.max):=by
  have:IntKind.i64.max=9223372036854775807:=EQ
  rw[this];omega
 have g4: ¬(((n+m:Nat):Int)>IntKind.i64.max/\(False\/ie.bytes=0)):=λh=>g3 h.1
 have PZ: ∀w,(typeInfo e).run P w= .ok ie w:=λw=>by simp[typeInfo,rO]
 have u9: ∀w,(zeroValue e).run P w= .ok z w:=λw=>by simp[zeroValue,typeInfo,rO,zD]
 unfold Builtin.append_;unfold vH at hn;cases h1:ts[1]? with
 |none=>
  simp only[h0,Dd,jI,nO,Sem.run_bind,Zk w ht,Result.andThen_ok,ZT w he,Sem.run_pure,pB,ke,hX,cy,ju,g1,PZ,g4,
   g2,run_choose,hq,run_askRoom,World.drew_eq,ho,hf,u9,newRow,run_newObj,World.alloc_eq]
  rfl
 |some t1=>
  rw[h1]at hn;have⟨d,hd,jC⟩:=hn;simp only[h0,Dd,jI,nO,Sem.run_bind,Zk w ht,Result.andThen_ok,ZT w he,Zk w hd];cases d<;>first|exact absurd rfl (jC _)|(simp only[Sem.run_pure,Result.andThen_ok,Sem.run_bind,pB,ke,hX,cy,ju,g1,PZ,g4,g2,run_choose,hq,run_askRoom,World.drew_eq,ho,hf,u9,newRow,run_newObj,World.alloc_eq];rfl)
theorem Ext.Wt (h:Ext ψ Q1 w ψ' Q' w') (hq: ∀k ab,Q1 k ab->Q k ab):Ext ψ Q w ψ' Q' w':=
 have so: ∀b,oF ψ Q1 b->oF ψ Q b:=λ_b ⟨k,cb,ab,e,q,hs,hb⟩=>⟨k,cb,ab,e,hq _ _ q,hs,hb⟩
 { h with
  nF:=λk cb e=>(h.nF k cb e).imp id λ⟨x,y⟩=>⟨x.imp id (so _),y⟩
  gU:=λb hb hn=>h.gU b hb λe=>hn (so b e)
  fq:=λb e=>(h.fq b e).imp (so b) id
  live:=λk cb x e q=>let ⟨y,hy⟩:=h.live k cb x e q;⟨y,hq _ _ hy⟩ }
theorem Zoa :cu (s.set i none) i=none:=by
 grind[cu]
theorem ZqC (hq:q.callee= .builtin .append) (ho:o.op= .call q) {z:Operand} (ha:q.args= #[y,z]) {zv:af} (h0:q.argTypes[0]? =some t)
  (ht:C.P.underlying t=some (.slice e)) (he:C.P.underlying e=some ed) (hz:jO C.P e=some zv) (va:zv.length=C.P.cellsOf e) (hn:vH C.P q.argTypes) (aS: ∀h,W h->D h) (hD: ∀i,D (.inl i)) {a:ah} (hW: ∀i q,a=some (i,q)->W (.inl i)) (hd:E.src C y= .v (.slice z0 a n)) (zD:z0=C.P.cellsOf e\/a=none) (iy:ds.length=m*C.P.cellsOf e)
  (hX: ∀ψ Q A w,ax C o D E s ψ Q A w->(∀w,(Builtin.lenOf (A.eval z)).run C.P w= .ok m w)/\∃vs,ba C ψ ds vs.toList/\ds.all one=true/\∀w',w'.heap=w.heap->(Builtin.firstCells (C.P.cellsOf e) m (A.eval z)).run C.P w'= .ok vs w') (h:cB (C.P.cellsOf e) a n ds m (ve C.P e) (λp=>dx E o K (.slice (C.P.cellsOf e) p (n+m))) s=some r):bz C md pr ms o D W E s K r:=by
 have my:y∈o.op.operands:=by rw[ho];simp[Op.operands,Call.operands,hq,ha]
 have hex: ∀(A:Act) (w w':World) v,(Builtin.append_ q.argTypes o.type #[A.eval y,A.eval z]).run C.P w= .ok v w'->(execOp A.eval o).run C.P w= .ok (.value v) w':=by
  intro A w w' v hv;simp[execOp,ho,resolve,hq,invoke,builtin,ha,hv]
 have Wd: ∀vs:Array Value,∀ψ,m=0->ba C ψ ds vs.toList->vs.toList=[]:=by
  intro vs ψ hm hr;have:=hr.len;rw[iy,hm,vA]at this;grind
 have grow: ∀ψ Q A w,ax C o D E s ψ Q A w->∀base cap dV,A.eval y= .slice base n cap->cap<n+m->n+m<=ve C.P e->(Builtin.firstCells (C.P.cellsOf e) n (.slice base n cap)).run C.P w.drew= .ok dV w.drew->
   ∃k new rest,n+m<=k/\ba C ψ ds new.toList/\ds.all one=true/\rest.size=(k-(n+m))*C.P.cellsOf e/\
    (execOp A.eval o).run C.P w= .ok (.value (.slice (some ⟨w.heap.size,0,none⟩) (n+m) k)) (w.drew.alloc (.cells (dV++new++rest) e)):=by
  intro ψ Q A w p base cap dV hy hc u3 hold;have⟨hl,new,h1,h2,h3⟩:=hX ψ Q A w p;unfold jO at hz;cases hi:C.P.info? e with
  |none=>rw[hi]at hz;cases hz
  |some ie=>
   rw[hi]at hz;simp only at hz;cases nA:ie.zero with
   |none=>rw[nA]at hz;cases hz
   |some Xu=>
    rw[nA]at hz;have Gt:=(xR (C:=C) (ψ:=ψ) hz).1.rX;have hb:(n+m)*ie.bytes<=70368744177664:=by
     unfold ve EB at u3;rw[hi]at u3;simp only at u3;rcases z8 ie.bytes with hz|hp
     .rw[hz];simp
     .exact(Nat.le_div_iff_mul_le hp).1 u3
    have FG:n+m<=70368744177664:=fF u3 (Nat.div_le_self _ _);have⟨k,hk,cm⟩:=ZlQ (P:=C.P) h0 ht he hi nA hn o.type base n m cap (A.eval z) w dV new hl hc hb FG hold (h3 _ rfl);exact⟨k,new,_,hk,h1,h2,by rw[Zm9,<-Gt,va],Fd⟩
 rcases Zsz h with⟨hm,h⟩|⟨hm,u3,h⟩
 ·
  refine bz.val aS _ h λψ Q A w p=>?_
  have⟨hl,new,h1,h2,h3⟩:=hX ψ Q A w p;have gB:=Wd new ψ hm h1;subst hm;have hv:=p.val my hd;generalize hy:A.eval y=v at hv;have BQ: ∀base cap,v= .slice base n cap->n<=cap->(execOp A.eval o).run C.P w= .ok (.value (.slice base n cap)) w:=by
   intro base cap hv hc;refine hex A w w _ ?_;rw[hy,hv];have:=ZiF (P:=C.P) h0 ht he hn o.type base n 0 cap (A.eval z) w w new (hl w) hc (h3 w rfl) (λa _=>by rw[gB];rfl) (λ_=>rfl);exact this
  cases hv with
  |nI=>exact⟨_,w,Fd,.refl w,.nI _⟩
  |slice _ i q0 _ cb ad cap eM mm hb=>
   have:z0=C.P.cellsOf e:=Fd
   subst this;exact⟨_,w,BQ _ cap rfl mm,.refl w,.slice _ _ _ _ cb ad cap eM mm hb⟩
 .rcases h with⟨rfl,rfl,h⟩|⟨i,q0,cs,rfl,hi,hle,h⟩
  ·
   refine bz.CJ (by unfold nS;rw[ho];simp only[hq]) aS _ ds h λψ Q A w p=>?_
   have hv:=p.val my hd;generalize hy:A.eval y=v at hv;cases hv;have⟨k,new,rest,hk,h1,h2,h3,cm⟩:=grow ψ Q A w p none 0 #[] hy AC u3 (by simp[Builtin.firstCells]);have bS:=h1.rX;refine⟨_,_,⟨w.heap.size,0,(#[]++new++rest).size⟩,cm,(fu.drew w).trans (fu.alloc w.drew _),aW _,Do,?_,λψ' _ qy=>?_⟩
   .refine xP (w:=w.drew) ?_ h2
    grind
   .refine VR.slice _ _ 0 _ _ _ _ qy hk (λ_=>⟨rfl,?_⟩)
    have:(#[]++new++rest).size=new.size+rest.size:=Do
    rw[this,<-bS,iy,h3,ei,ei,<-uh];grind
  ·
   have zD:z0=C.P.cellsOf e:=Fd
   subst zD;have⟨bx,aw⟩:=KG hi;have fm: ∀ab,cu (s.set i none++[some ⟨false,(cs.drop q0).take (n*C.P.cellsOf e)++ds⟩]) s.length=some ab->ab= .cells false ((cs.drop q0).take (n*C.P.cellsOf e)++ds):=by
    intro ab fm;have:=Ie (s.set i none) ⟨false,(cs.drop q0).take (n*C.P.cellsOf e)++ds⟩;rw[kH]at this;rw[this]at fm;cases fm;rfl
   have hold: ∀j ab,cu (s.set i none++[some ⟨false,(cs.drop q0).take (n*C.P.cellsOf e)++ds⟩]) j=some ab->j≠s.length->j≠i/\cu s j=some ab:=by
    intro j ab hj cS;have BW:=vW hj;simp only[cq,kH,xu]at BW;rw[DG (by rw[kH];omega)]at hj;by_cases tD:j=i
    .subst tD;rw[Zoa]at hj;cases hj
    .rw[DP (Ne.symm tD)]at hj;exact⟨tD,hj⟩
   refine .inl ⟨_,_,h,jw.put pr ms _ rfl (λ_ _ _ _ h=>by cases h) Do (λj ab hj=>by
    by_cases e:j=s.length
    .omega
    grind) (λj h hj=>by
    have cS:i≠j:=Fd
    rw[lj (by rw[kH];exact hj),cz cS]) (.inr (by unfold nS;rw[ho];simp only[hq])),?_⟩
   intro ψ Q A w next QQ p room hn';have gB:qS E s (E.dI o.dst (.v (.slice (C.P.cellsOf e) (some (s.length,0)) (n+m)))) (s.set i none++[some ⟨false,(cs.drop q0).take (n*C.P.cellsOf e)++ds⟩]) (.inl s.length):=⟨by simp[cY],by simp[cY]⟩;have hf:=room _ gB;have hv:=p.val my hd;generalize hy:A.eval y=v at hv;cases hv with
   |slice _ _ _ _ cb ad cap eM mm hb=>
    have u5:Q (.inl i) (.cells false cs):=p.gV (.inl i) _ cb (hD i) bx eM;have hh:=p.dD.holds _ cb _ eM u5;have⟨hl,new,h1,h2,h3⟩:=hX ψ Q A w p;have hlen:((cs.drop q0).take (n*C.P.cellsOf e)).length=n*C.P.cellsOf e:=by simp;omega
    have Ve:((cs.drop q0).take (n*C.P.cellsOf e)++ds).length=(n+m)*C.P.cellsOf e:=by rw[cq,hlen,iy,uh]
    have gq:((cs.drop q0).take (n*C.P.cellsOf e)++ds).all one=true:=by rw[uf,Lt hh.2.1,h2];rfl
    have fin: ∀v' w' eI,(execOp A.eval o).run C.P w= .ok (.value v') w'->dN C (kD ψ (.inl s.length) eI) (CH Q (.inl i) (.inl s.length) (.cells false ((cs.drop q0).take (n*C.P.cellsOf e)++ds))) w'->
      Ext ψ Q w (kD ψ (.inl s.length) eI) (CH Q (.inl i) (.inl s.length) (.cells false ((cs.drop q0).take (n*C.P.cellsOf e)++ds))) w'->
      VR C (kD ψ (.inl s.length) eI) (.slice (C.P.cellsOf e) (some (s.length,0)) (n+m)) v'->o.wp C.P A w next QQ:=by
     intro v' w' eI cm tK oV iU;unfold Oper.wp;rw[cm];refine hn' _ _ v' w' ⟨tK,oV,λh c e'=>?_,λh ab c cr hw e'=>?_,λh ab c e' q' nw _=>?_⟩ (λd' dO=>?_)
     .by_cases eh:h= .inl s.length
      .grind
      .rw[kM _ _ eh]at e';exact .inl e'
     .by_cases eh:h= .inl s.length
      .subst eh;exact .inl ⟨rfl,fm ab cr⟩
      .rw[kM _ _ eh]at e'
       have dV:h≠ .inl i/\CR E s h ab:=by
        cases h with
        |inl j=>
         have⟨a1,a2⟩:=hold j ab cr (λe=>eh (by rw[e]));exact⟨λe=>a1 (by cases e;rfl),a2⟩
        |inr x=>
         have kU:CR (E.dI o.dst (.v (.slice (C.P.cellsOf e) (some (s.length,0)) (n+m)))) s (.inr x) ab:=cr;exact⟨Do,kU.dI rfl⟩
       refine .inr ⟨eh,dV.1,?_⟩;rcases hw with hw|⟨n1,n2⟩
       .exact p.gV h ab c (aS h hw) dV.2 e'
       .exact absurd (dV.2.mh p.fh) n1
     .cases h with
      |inl j=>exact .inr ⟨Fd,Fd,q'⟩
      |inr x=>exact .inr ⟨Do,Do,q'⟩
     .rw[Env.iw,bO dO];exact iU
    by_cases BQ:n+m<=cap
    .have⟨e1,e2⟩:=hb AC
     have PK:(n+m)*C.P.cellsOf e<=cap*C.P.cellsOf e:=xB _ BQ;rw[uh]at PK;have⟨w',hw,bN,BV⟩:=Zk1 (P:=C.P) (p:=q0+n*C.P.cellsOf e) (o':=q0) (cs':=(cs.drop q0).take (n*C.P.cellsOf e)++ds) hh h1 h2 (by rw[iy];omega) (by rw[Ve,uh];omega) gq (λj d dO=>by
      by_cases hj:j<n*C.P.cellsOf e
      .rw[lj AC,ug,bO hj,xq]at dO
       grind
      .rw[iO AC,hlen]at dO
       have BW:j-n*C.P.cellsOf e<ds.length:=by
        grind
       exact .inl ⟨AC,AC,by rw[show q0+j-(q0+n*C.P.cellsOf e)=j-n*C.P.cellsOf e by omega];exact dO⟩)
     have cm:=ZiF (P:=C.P) h0 ht he hn o.type (some ad) n m cap (A.eval z) w w' new (hl w) BQ (h3 w rfl) (λa' M3=>by
      cases M3;rw[e1,uz,oy];exact hw) (λe=>by cases e)
     refine fin _ w' ⟨cb.b,cb.o+q0,cb.m-q0⟩ (hex A w _ _ (by rw[hy];exact cm)) (dN.move p.dD eM u5 rfl hf rfl bN.other (BV.same (λ_ _ e=>pI hf _ _ e) rfl))
      (Ext.move eM u5 rfl hf rfl (p.eS _ _ eM) bN.other bN.size bN.tape bN.os bN.output) ?_
     exact VR.slice _ _ 0 _ _ _ _ (lY _ _ _) BQ (λ_=>⟨by rw[e1];rfl,by simp only;omega⟩)
    .have⟨base,WU,dV,BL,Ge,Gg,hra⟩:=ES p hD (p.val my hd) (.inl rfl) (k:=n) (n:=n*C.P.cellsOf e) rfl (aW _) (.inr ⟨i,q0,false,cs,rfl,bx,hle,rfl⟩)
     rw[hy]at BL;cases BL;have Ge:=Ge w.drew rfl;rw[hy]at Ge;have⟨k,new,rest,hk,h1,h2,h3,cm⟩:=grow ψ Q A w p (some ad) cap dV hy AC u3 Ge;have bS:=h1.rX;have NW:=Gg.rX;rw[hlen]at NW;have lC:fu w (w.drew.alloc (.cells (dV++new++rest) e)):=(fu.drew w).trans (fu.alloc w.drew _);refine fin _ _ ⟨w.heap.size,0,(dV++new++rest).size⟩ cm ?_ ?_ ?_
     .refine dN.new (Q:=λk x=>k≠ .inl i/\Q k x) (p.dD.weaken λ_ _ _ _ q=>q.2) p.eS lC hf (aW _) ?_
      refine xP (w:=w.drew) ?_ gq;have:(dV++new++rest).toList.take ((cs.drop q0).take (n*C.P.cellsOf e)++ds).length=dV.toList++new.toList:=by
       rw[cq,hlen,bS,NW];simp only[Array.toList_append];rw[List.take_append_of_le_length Do,dJ Do]
      rw[this];exact ba.append (Gg.mono λ_ _ e=>pI hf _ _ e) (h1.mono λ_ _ e=>pI hf _ _ e)
     .exact(Ext.new (Q:=λk x=>k≠ .inl i/\Q k x) lC hf (aW _) Do).Wt λ_ _ q=>q.2
     .refine VR.slice _ _ 0 _ _ _ _ (lY _ _ _) hk (λ_=>⟨rfl,?_⟩)
      have:(dV++new++rest).size=dV.size+new.size+rest.size:=by simp[oy]
      rw[this,<-bS,<-NW,iy,h3,ei,<-uh,<-uh];exact xB _ AC
end
section
variable {C:aY} {o:Oper} {D W:cJ->Prop} {E:Env} {s:St} {md:Md} {pr ms:al}
theorem O6 {z:Operand} (h:q.args.toList=[y,z]):q.args= #[y,z]:=by rw[<-Array.toArray_toList (xs:=q.args),h]
theorem wc {x y:Nat} {a:ah} (h:(Nat.beq x y||a.isNone)=true):x=y\/a=none:=by
 rw[kb]at h;simp_all
theorem Zni (x:ByteArray) (n:Nat) (w:World):
  ∃vs,(Builtin.firstCells 1 n (.string x)).run P w= .ok vs w/\ba C ψ (ZR (x.data.toList.take n)) vs.toList:=by
 refine⟨_,rfl,?_⟩;have:((x.extract 0 n).data.map λb=>Value.int .u8 b.toNat).toList=(x.data.toList.take n).map λb=>Value.int .u8 b.toNat:=by
  rw[Array.toList_map,ByteArray.data_extract,Array.toList_extract,G8];simp
 rw[this];exact Zjo _
theorem ZoX (hq:q.callee= .builtin .append) (ho:o.op= .call q) (aS: ∀h,W h->D h) (hD: ∀i,D (.inl i)) (hW: ∀y z i p n,q.args.toList.head?=some y->E.src C y= .v (.slice z (some (i,p)) n)->W (.inl i)) (h:K4 C E o K q.argTypes q.args s=some r):bz C md pr ms o D W E s K r:=by
 unfold K4 at h;generalize ha:q.args.toList=l at h;generalize h0:q.argTypes[0]? =t0 at h;split at h
 .rename_i y z t
  unfold q9 at h;cases ht:C.P.underlying t with
  |none=>rw[ht]at h;cases h
  |some td=>
   rw[ht]at h;cases td with
   |slice e=>
    simp only at h;have⟨ed,he,h⟩:=Z5 h;have⟨hn,h⟩:=ZqR h;cases hz:jO C.P e with
    |none=>rw[hz]at h;cases h
    |some zv=>
     rw[hz]at h;simp only at h;have⟨va,h⟩:=Az h;have va:zv.length=C.P.cellsOf e:=cO (by simpa using va);have⟨a,uV,h⟩:=Zt h;have⟨b,oj,h⟩:=Zt h;have ix:=O6 ha;have mz:z∈o.op.operands:=by rw[ho];simp[Op.operands,Call.operands,hq,ix]
     cases a with
     |slice w1 p1 n=>
      cases b with
      |slice w2 p2 m=>
       simp only at h;have⟨hw,h⟩:=Zq h;rw[aZ]at hw;have⟨ds,h,iy,mn⟩:=LW h;refine ZqC hq ho ix h0 ht he hz va hn aS hD Fd uV (wc hw.1) iy (λψ Q A w p=>?_) h;have⟨base,cap,vs,e1,e2,e3,e4⟩:=ES p hD (p.val mz oj) (wc hw.2) (k:=m) rfl (aW _) mn;exact⟨λw=>by rw[e1];rfl,vs,e3,e4,e2⟩
      |str l=>
       simp only at h;have⟨hw,h⟩:=Zq h;rw[aZ]at hw;have bS:=cO hw.2;rw[<-bS]at h;refine ZqC hq ho ix h0 ht he hz va hn aS hD Fd uV (by rw[bS];exact wc hw.1) (by rw[bS];simp) (λψ Q A w p=>?_) h;have hv:=p.val mz oj;generalize A.eval z=v at hv;cases hv with
       |str x=>
        have hx:x.data.toList.length=x.size:=by rw[kG];rfl
        have⟨vs,e1,e2⟩:=Zni (C:=C) (ψ:=ψ) (P:=C.P) x x.size w;rw[<-hx,dJ (aW _)]at e2;refine⟨λw=>by rw[hx];rfl,vs,e2,JA _,λw' eZ=>?_⟩;rw[bS,hx];cases e1;rfl
      |_=>cases h
     |_=>cases b<;>cases h
   |_=>cases h
 .cases h
theorem Zqt (cs:af) (p:Nat):cT cs p []=cs:=by
 induction cs generalizing p with
 |nil=>cases p<;>rfl
 |cons c cs ih=>cases p with
  |zero=>rfl
  |succ p=>simp[cT,ih]
theorem Zqk {p:ah} {K:M β} (h:we p ds K s=some r):
  (p=none/\ds=[]/\K s=some r)\/∃i q cs,p=some (i,q)/\s.fJ i=some cs/\q+ds.length<=cs.length/\K (s.set i (some ⟨false,cT cs q ds⟩))=some r:=by
 cases p with
 |none=>
  simp only[we]at h;have⟨h1,h⟩:=Zq h;simp_all
 |some iq=>
  have⟨i,q⟩:=iq;simp only[we]at h;have⟨cs,h1,h2,h3⟩:=ZlW h;grind
theorem Zjn {q cap k:Nat} {cs:af} {vs:List Value} (hb:0<cap->ad=⟨cb.b,cb.o+q,none⟩/\q+cap*sz<=cb.m) (hc:n<=cap) (hk:k<=n)
  (h:Holds C ψ w cb (.cells false cs)) (hr:ba C ψ ds vs) (h1:ds.all one=true) (hl:ds.length=k*sz) (hle:q+ds.length<=cs.length):
  ∃w',(storeCells ad vs).run C.P w= .ok () w'/\uo w w' cb.b/\Holds C ψ w' cb (.cells false (cT cs q ds)):=by
 by_cases h0:ds.length=0
 .have hd:=List.length_eq_zero_iff.1 h0
  subst hd;cases hr;exact⟨w,rfl,⟨λ_ _=>rfl,rfl,rfl,rfl,.refl _⟩,by rw[Zqt];exact h⟩
 .have hk0:0<k:=by
   grind
  have⟨e1,_⟩:=hb AC;rw[e1];exact En h hr h1 hle
theorem Zof (h0:ts[0]? =some t) (ht:P.underlying t=some (.slice e)) (he:P.underlying e=some ed) (ty:TypeId)
  (base:Option Addr) (n m cap:Nat) (X:Value) (w w':World) (new:Array Value) (hX:(Builtin.lenOf X).run P w= .ok m w)
  (hf:(Builtin.firstCells (P.cellsOf e) (min m n) X).run P w= .ok new w) (hs: ∀a,base=some a->(storeCells a new.toList).run P w= .ok () w') (hb:base=none->w'=w):
  (Builtin.copy_ ts ty #[.slice base n cap,X]).run P w= .ok (.int .i64 (min (m:Int) n)) w':=by
 have P9:(Nat.min m n:Int)=min (m:Int) n:=Fd
 have uW:(Builtin.firstCells (P.cellsOf e) (Nat.min m n) X).run P w= .ok new w:=hf;unfold Builtin.copy_;simp only[h0,Dd,jI,nO,Sem.run_bind,Zk w ht,Result.andThen_ok,ZT w he,hX,uW];cases base with
 |none=>have:=hb rfl;subst this;simp[goInt];exact P9
 |some a=>simp[hs a rfl,goInt];exact P9
theorem Zq0 (hq:q.callee= .builtin .copy) (ho:o.op= .call q) (aS: ∀h,W h->D h) (hW: ∀i,W (.inl i)) (h:L9 C E o K q.argTypes q.args s=some r):bz C md pr ms o D W E s K r:=by
 unfold L9 at h;generalize ha:q.args.toList=l at h;generalize h0:q.argTypes[0]? =t0 at h;split at h
 .rename_i y z t
  unfold q9 at h;cases ht:C.P.underlying t with
  |none=>rw[ht]at h;cases h
  |some td=>
   rw[ht]at h;cases td with
   |slice e=>
    simp only at h;have⟨ed,he,h⟩:=Z5 h;have⟨a,uV,h⟩:=Zt h;have⟨b,oj,h⟩:=Zt h;have ix:=O6 ha;have my:y∈o.op.operands:=by rw[ho];simp[Op.operands,Call.operands,hq,ix]
    have mz:z∈o.op.operands:=by rw[ho];simp[Op.operands,Call.operands,hq,ix]
    have hex: ∀(A:Act) (w w':World) v,(Builtin.copy_ q.argTypes o.type #[A.eval y,A.eval z]).run C.P w= .ok v w'->(execOp A.eval o).run C.P w= .ok (.value v) w':=by
     intro A w w' v hv;simp[execOp,ho,resolve,hq,invoke,builtin,ix,hv]
    cases a with
    |slice w1 p1 n=>
     have core: ∀(m:Nat) (ds:af),(w1=C.P.cellsOf e\/p1=none)->ds.length=min m n*C.P.cellsOf e->we p1 ds (dx E o K (.int .i64 (min (m:Int) n))) s=some r->
       (∀ψ Q A w,ax C o D E s ψ Q A w->(Builtin.lenOf (A.eval z)).run C.P w= .ok m w/\∃vs,ba C ψ ds vs.toList/\ds.all one=true/\(Builtin.firstCells (C.P.cellsOf e) (min m n) (A.eval z)).run C.P w= .ok vs w)->
       bz C md pr ms o D W E s K r:=by
      intro m ds cD iy h hX;rcases Zqk h with⟨rfl,rfl,h⟩|⟨i,q0,cs,rfl,hi,hle,h'⟩
      .refine bz.val aS _ h λψ Q A w p=>?_
       have⟨hl,vs,h1,h2,h3⟩:=hX ψ Q A w p;have hv:=p.val my uV;generalize hy:A.eval y=v at hv;cases hv;exact⟨_,w,hex A w w _ (by rw[hy];exact Zof h0 ht he o.type none 0 m 0 (A.eval z) w w vs hl h3 (λ_ h=>by cases h) (λ_=>rfl)),.refl w,.int _ _⟩
      .have cD:w1=C.P.cellsOf e:=Fd
       subst cD;refine bz.OC aS (hW _) (.v (.int .i64 (min (m:Int) n))) rfl (λ_ _ _ _ h=>by cases h) hi h' λψ Q A w p=>?_
       have hv:=p.val my uV;generalize hy:A.eval y=v at hv;cases hv with
       |slice _ _ _ _ cb ad cap eM mm hb=>
        refine⟨cb,eM,λhh=>?_⟩;have⟨hl,vs,h1,h2,h3⟩:=hX ψ Q A w p;have⟨w',e1,e2,e3⟩:=Zjn hb mm (Nat.min_le_right m n) hh h1 h2 iy hle;exact⟨_,w',.inl (hex A w w' _ (by rw[hy];exact Zof h0 ht he o.type (some ad) n m cap (A.eval z) w w' vs hl h3 Fd (λh=>by cases h))),e2,e3,.int _ _⟩
     cases b with
     |slice w2 p2 m=>
      simp only at h;have⟨hw,h⟩:=Zq h;rw[aZ]at hw;have⟨ds,h,iy,mn⟩:=LW h;refine core m ds (wc hw.1) iy h λψ Q A w p=>?_
      have⟨base,cap,vs,e1,e2,e3,e4⟩:=ES p (λi=>aS _ (hW i)) (p.val mz oj) (wc hw.2) (k:=min m n) rfl (Nat.min_le_left _ _) mn;exact⟨by rw[e1];rfl,vs,e3,e4,e2 w rfl⟩
     |str l=>
      simp only at h;have⟨hw,h⟩:=Zq h;rw[aZ]at hw;have bS:=cO hw.2;refine core l.length (ZR (l.take n)) (by rw[bS];exact wc hw.1) (by rw[bS];simp[Nat.min_comm]) h λψ Q A w p=>?_
      have hv:=p.val mz oj;generalize A.eval z=v at hv;cases hv with
      |str x=>
       have hx:x.data.toList.length=x.size:=by rw[kG];rfl
       have⟨vs,e1,e2⟩:=Zni (C:=C) (ψ:=ψ) (P:=C.P) x (min x.data.toList.length n) w;refine⟨by rw[hx];rfl,vs,?_,JA _,by rw[bS];exact e1⟩;grind
     |_=>cases h
    |_=>cases b<;>cases h
   |_=>cases h
 .cases h
theorem ZpP (hq:q.callee= .builtin .clear) (ho:o.op= .call q) (aS: ∀h,W h->D h) (hW: ∀i,W (.inl i)) (h:Lz C E o K q.argTypes q.args s=some r):bz C md pr ms o D W E s K r:=by
 unfold Lz at h;generalize ha:q.args.toList=l at h;generalize h0:q.argTypes[0]? =t0 at h;split at h
 .rename_i y t
  unfold q9 at h;cases ht:C.P.underlying t with
  |none=>rw[ht]at h;cases h
  |some td=>
   rw[ht]at h;cases td with
   |slice e=>
    simp only at h;have⟨a,uV,h⟩:=Zt h;have ix:q.args= #[y]:=by rw[<-Array.toArray_toList (xs:=q.args),ha]
    have my:y∈o.op.operands:=by rw[ho];simp[Op.operands,Call.operands,hq,ix]
    have hex: ∀(A:Act) (w w':World),(Builtin.clear_ q.argTypes o.type #[A.eval y]).run C.P w= .ok (.tuple #[]) w'->(execOp A.eval o).run C.P w= .ok (.value (.tuple #[])) w':=by
     intro A w w' hv;simp[execOp,ho,resolve,hq,invoke,builtin,ix,hv]
    cases a with
    |slice w1 p1 n=>
     cases hz:jO C.P e with
     |none=>rw[hz]at h;cases h
     |some z=>
      rw[hz]at h;simp only at h;have⟨hw,h⟩:=Zq h;rw[aZ]at hw;have va:=cO hw.2;rcases Zqk h with⟨rfl,Qc,h⟩|⟨i,q0,cs,rfl,hi,hle,h'⟩
      .refine bz.pure aS (.lL []) rfl (λ_ _ _ _ h=>by cases h) h λψ Q A w p=>?_
       have hv:=p.val my uV;generalize hy:A.eval y=v at hv;cases hv;exact⟨.tuple #[],w,hex A w w (by rw[hy];simp[Builtin.clear_,h0,Zk w ht]),.refl w,_,rfl,.nil⟩
      .have cD:w1=C.P.cellsOf e:=by rcases wc hw.1 with h|h;exact h;cases h
       subst cD;refine bz.OC aS (hW _) (.lL []) rfl (λ_ _ _ _ h=>by cases h) hi h' λψ Q A w p=>?_
       have hv:=p.val my uV;generalize hy:A.eval y=v at hv;cases hv with
       |slice _ _ _ _ cb ad cap eM mm hb=>
        refine⟨cb,eM,λhh=>?_⟩;have⟨zv,Oa,zF,iV⟩:=Ki (P:=C.P) w hz;have Gt:=(zF C ψ).rX;have B2:=K6 (zF C ψ) n (n*zv.cells.size) (by rw[Gt];exact aW _);rw[AY (by simp[size_madeCells,xV,Gt])]at B2;have⟨w',e1,e2,e3⟩:=Zjn hb mm (aW n) hh B2 (qZ iV) (by rw[xV,va]) hle;refine⟨.tuple #[],w',.inl (hex A w w' ?_),e2,e3,_,rfl,.nil⟩;rw[hy];have rz:(storeCells ad (Builtin.zeroCells zv.cells n).toList).run C.P w= .ok () w':=e1;cases n with
        |zero=>
         have:w'=w:=by
          have e4:(madeCells zv.cells (0*zv.cells.size)).toList=[]:=by simp[madeCells,Array.range_zero']
          rw[e4]at e1;cases e1;rfl
         subst this;simp[Builtin.clear_,h0,Zk _ ht]
        |succ n=>
         simp[Builtin.clear_,h0,Zk _ ht,Oa,rz]
    |_=>cases h
   |_=>cases h
 .cases h
end
def CS (s:St):Kn:=λh ab=>∃i,h= .inl i/\cu s i=some ab
def um (C:aY) (ψ:Ps) (ds:af) (v:Value):Prop:=(∃d,ds=[d]/\VR C ψ d v)\/(ds.length≠1/\∃vs,v= .tuple vs/\ba C ψ ds vs.toList)
structure gO (C:aY) (ψ:Ps) (s:St) (w:World) (ψ':Ps) (s':St) (w':World):Prop where
 dD:dN C ψ' (CS s') w'
 ext:Ext ψ (CS s) w ψ' (CS s') w'
 news: ∀h cb,ψ' h=some cb->ψ h=some cb\/∃i,h= .inl i/\s.length<=i/\i<s'.length
def sR (P:Program) (f:FuncId) (vs:Array Value) (w:World) (R:Ending->World->Prop):Prop:=
 match (callFunc f vs).run P w with
 | .ok (.enter f' as) w'=>Calls P f' as w' R
 | .ok (.value v) w'=>R (.returned v) w'
 |_=>False
def ZtY (C:aY) (g:Nat) (args:af) (s:St) (out:Out af×St):Prop:=
 s.length<=out.2.length/\
 ∀f,C.cov f=true->C.fn f=g->∀ψ w vs,dN C ψ (CS s) w->mP ψ w->Glob C ψ->ba C ψ args vs->(∀v,ψ (.inr v)=none)->(∀i,s.length<=i->i<out.2.length->ψ (.inl i)=none)->
  sR C.P f vs.toArray w λ
   | .returned v,w'=>∃ds,out.1= .val ds/\∃ψ',gO C ψ s w ψ' out.2 w'/\um C ψ' ds v
   | .panicked ch,w'=>kK ch/\out.1= .dM/\∃ψ',gO C ψ s w ψ' out.2 w'
   | .outgrown,_=>False
def ZI (C:aY) (c:Zd):Prop:=∀g args s out,c g args s=some out->ZtY C g args s out
def j4 (ψ:Ps):Ps
 | .inl i=>ψ (.inl i)
 | .inr _=>none
def sb (ψ ik:Ps):Ps
 | .inl i=>ik (.inl i)
 | .inr v=>ψ (.inr v)
def GL (s':St) (Q:Kn):Kn:=λh ab=>CS s' h ab\/(Q h ab/\∀i,h= .inl i->s'.length<=i)
section
variable {C:aY} {ψ ik:Ps} {Q:Kn} {s s':St} {w w':World}
theorem xZ (e:j4 ψ h=some cb):ψ h=some cb/\∃i,h= .inl i:=by
 cases h with
 |inl i=>exact⟨e,i,rfl⟩
 |inr v=>cases e
theorem Zop {vs:List Value} (h:ba C ψ ds vs):ba C (j4 ψ) ds vs:=h.mono (ψ:=ψ) (ψ':=j4 ψ) λ_ _ e=>e
theorem Zoz (h:dN C ψ Q w) (hk: ∀i ab cb,cu s i=some ab->ψ (.inl i)=some cb->Q (.inl i) ab):dN C (j4 ψ) (CS s) w:=by
 constructor
 .intro k cb ab e q
  obtain⟨e,i,rfl⟩:=xZ e;have⟨_,hi,q⟩:=q;cases hi;exact(h.holds _ cb ab e (hk i ab cb q e)).same (ψ:=ψ) (ψ':=j4 ψ) (λ_ _ e=>e) rfl
 .intro k cb ab k' eI ca e q hs e' q' hn
  obtain⟨e,i,rfl⟩:=xZ e;obtain⟨e',i',rfl⟩:=xZ e';have⟨_,hi,q⟩:=q;cases hi;have⟨_,hi,q'⟩:=q';cases hi;exact h.oh _ cb ab _ eI ca e (hk i ab cb q e) hs e' (hk i' ca eI q' e') hn
theorem frame (h:dN C ψ Q w) (hb:mP ψ w) (hk: ∀i ab cb,cu s i=some ab->ψ (.inl i)=some cb->Q (.inl i) ab) (hlen:s.length<=s'.length)
  (hc:gO C (j4 ψ) s w ik s' w'):dN C (sb ψ ik) (GL s' Q) w'/\Ext ψ Q w (sb ψ ik) (GL s' Q) w':=by
 have mono: ∀k cb,ψ k=some cb->sb ψ ik k=some cb:=by
  intro k cb e;cases k with
  |inl i=>exact hc.ext.mono (.inl i) cb e
  |inr v=>exact e
 have GR: ∀b,oF (j4 ψ) (CS s) b->∃i cb ab,ψ (.inl i)=some cb/\cu s i=some ab/\Q (.inl i) ab/\ab.fq=true/\cb.b=b:=by
  rintro b ⟨k,cb,ab,e,⟨i,rfl,q⟩,hs,hb⟩;exact⟨i,cb,ab,e,q,hk i ab cb q e,hs,hb⟩
 have Q4: ∀b,oF (j4 ψ) (CS s) b->oF ψ Q b:=by
  intro b hs;have⟨i,cb,ab,e,_,q,hs,hb⟩:=GR b hs;exact⟨_,cb,ab,e,q,hs,hb⟩
 have yR: ∀k cb ab,sb ψ ik k=some cb->Q k ab->(∀i,k= .inl i->s'.length<=i)->ψ k=some cb/\¬oF (j4 ψ) (CS s) cb.b/\cb.b<w.heap.size:=by
  intro k cb ab e q hf;have e':ψ k=some cb:=by
   cases k with
   |inr v=>exact e
   |inl i=>
    rcases hc.news _ _ e with e|⟨j,hj,_,aw⟩
    .exact e
    grind
  refine⟨e',λhs=>?_,hb _ _ e'⟩;have⟨i,cb0,ab0,e0,q0,qq,Gj,wx⟩:=GR _ hs;have cS:(Sum.inl i:cJ)≠k:=by
   rintro rfl;have h1:=hf i rfl;have h2:=vW q0;omega
  exact h.oh _ cb0 ab0 _ cb ab e0 qq Gj e' q cS wx.symm
 refine⟨⟨?_,?_⟩,⟨mono,?_,hc.ext.size,?_,?_,?_,hc.ext.tape,hc.ext.os,hc.ext.output⟩⟩
 .intro k cb ab e q
  rcases q with⟨i,rfl,q⟩|⟨q,hf⟩
  .exact(hc.dD.holds (.inl i) cb ab e ⟨i,rfl,q⟩).same (ψ:=ik) (ψ':=sb ψ ik) (λ_ _ e=>e) rfl
  .have⟨e1,e2,e3⟩:=yR k cb ab e q hf
   exact(h.holds k cb ab e1 q).same (λi cb e=>mono _ _ e) (hc.ext.gU _ e3 e2)
 .intro k cb ab k' eI ca e q hs e' q' hn
  rcases q with⟨i,rfl,q⟩|⟨q,hf⟩<;>rcases q' with⟨i',rfl,q'⟩|⟨q',uW⟩
  .exact hc.dD.oh (.inl i) cb ab (.inl i') eI ca e ⟨i,rfl,q⟩ hs e' ⟨i',rfl,q'⟩ hn
  .have⟨e1,e2,e3⟩:=yR k' eI ca e' q' uW
   rcases hc.ext.fq cb.b ⟨.inl i,cb,ab,e,⟨i,rfl,q⟩,hs,rfl⟩with h1|h1
   .grind
   .omega
  .have⟨e1,e2,e3⟩:=yR k cb ab e q hf
   rcases hc.ext.nF (.inl i') eI e' with h1|⟨h1,_⟩
   .have⟨y,i2,Np,hy⟩:=hc.ext.live (.inl i') eI ca h1 ⟨i',rfl,q'⟩
    cases Np;exact h.oh k cb ab (.inl i') eI y e1 q hs h1 (hk i' y eI hy h1) hn
   grind
  .have⟨e1,_,_⟩:=yR k cb ab e q hf
   have⟨rz,_,_⟩:=yR k' eI ca e' q' uW;exact h.oh k cb ab k' eI ca e1 q hs rz q' hn
 .intro k cb e
  cases k with
  |inr v=>exact .inl e
  |inl i=>
   rcases hc.ext.nF (.inl i) cb e with h1|⟨h1,h2⟩
   .exact .inl h1
   grind
 .intro b dH hn
  exact hc.ext.gU b dH λhs=>hn (Q4 b hs)
 .rintro b ⟨k,cb,ab,e,q,hs,dH⟩
  rcases q with⟨i,rfl,q⟩|⟨q,hf⟩
  .exact(hc.ext.fq b ⟨.inl i,cb,ab,e,⟨i,rfl,q⟩,hs,dH⟩).imp (Q4 b) id
  .have⟨e1,_,_⟩:=yR k cb ab e q hf
   exact .inl ⟨k,cb,ab,e1,q,hs,dH⟩
 .intro k cb x e q
  rcases q with⟨i,rfl,q⟩|⟨q,_⟩
  .have⟨y,i2,Np,hy⟩:=hc.ext.live (.inl i) cb x e ⟨i,rfl,q⟩
   grind
  .exact⟨x,q⟩
end
section
variable {C:aY} {o:Oper} {D W:cJ->Prop} {E:Env} {s:St} {md:Md} {pr ms:al}
theorem ZlF {m:M af} {K:af->M β} (h:Fo md m K s=some r):
  (∃ds s1,m s=some (.val ds,s1)/\K ds s1=some r/\(2<=md.x->St.Mt s s1))\/(md.x=0/\∃s1,m s=some (.dM,s1)/\r=(.dM,s1)):=by
 unfold Fo at h;cases hx:md.x with
 |zero=>
  rw[hx]at h;simp only[cK]at h;grind
 |succ n=>
  cases n with
  |zero=>
   rw[hx]at h;simp only[p8]at h;grind
  |succ n=>
   rw[hx]at h;simp only[nf]at h;grind
theorem yc {m:M af} : ∀ {bs:al} {o:Out af} {s1:St},yG E bs m s=some (o,s1)->
  m s=some (o,s1)/\∀ds,o= .val ds->∀b∈bs,∃j p,E.get b= .v (.ptr (some (j,p)))/\s1[j]? =s[j]?
 |[],_,_,h=>⟨h,λ_ _ b hb=>by cases hb⟩
 |b::bs,o,s1,h=>by
  unfold yG at h;cases he:E.get b with
  |v d=>
   rw[he]at h;cases d with
   |ptr a=>
    cases a with
    |none=>cases h
    |some jq=>
     have⟨j,q'⟩:=jq;simp only[Bp]at h;cases hm:yG E bs m s with
     |none=>rw[hm]at h;cases h
     |some p=>
      have⟨o1,s2⟩:=p;rw[hm]at h;cases o1 with
      |val ds=>
       simp only at h;split at h
       .rename_i hk
        cases h;have⟨h1,h2⟩:=yc hm;grind
       .cases h
      |dM=>
       simp only at h;cases h;exact⟨(yc hm).1,λji e=>by cases e⟩
   |_=>cases h
  |_=>rw[he]at h;cases h
theorem Em {f:Operand} (hq:q.callee= .value f) (ho:o.op= .call q) (aS: ∀h,W h->D h) (hD: ∀i,D (.inl i))
  {c:Zd} (hc:ZI C c) {cs as:af} (hf:E.src C f= .v (.func g fs cs)) (has:SV C E q.args.toList as)
  {out:Out af} (wA:c g (fs++as++cs) s=some (out,s1)) (hW: ∀ds,out= .val ds->∀i,W (.inl i)\/(i<s.length->s1[i]? =s[i]?)):
  (out= .dM->qT C o D E s s1)/\
  (∀ds e,out= .val ds->e.cd=none->(∀r v n,e≠ .pl r v n)->(∀ψ v,um C ψ ds v->eV C ψ e v)->jw W pr ms o E s (E.dI o.dst e) s1/\vI C o D W E s (E.dI o.dst e) s1):=by
 have ok:=hc g _ s _ wA;have hlen:s.length<=s1.length:=ok.1;have mf:f∈o.op.operands:=by rw[ho];simp[Op.operands,Call.operands,hq]
 have ma: ∀x∈q.args.toList,x∈o.op.operands:=by intro x hx;rw[ho,Op.operands,Call.operands,hq];grind
 have sem: ∀ψ Q (A:Act) (w:World) (next:Act->World->Prop) (QQ:Exit->Act->World->Prop),ax C o D E s ψ Q A w->(∀i,s.length<=i->i<s1.length->ψ (.inl i)=none)->
   (∀ds v w' ik,out= .val ds->gO C (j4 ψ) s w ik s1 w'->um C ik ds v->next (A.put o.dst v) w')->(∀ch w' ik,kK ch->out= .dM->gO C (j4 ψ) s w ik s1 w'->QQ (.panic ch) A w')->o.wp C.P A w next QQ:=by
  intro ψ Q A w next QQ p room hv hp;have hfv:=p.val mf hf;generalize tw:A.eval f=v at hfv;cases hfv with
  |func k _ _ vf vc qi h1 h2=>
   have h3:=AO p ma has;have ix:ba C (j4 ψ) (fs++as++cs) (vf.toList++q.args.toList.map A.eval++vc.toList):=Zop (ba.append (ba.append h1 h3) h2);have:=ok.2 k qi rfl (j4 ψ) w _ (Zoz p.dD λi ab cb h e=>p.gV (.inl i) ab cb (hD i) h e) (λh cb e=>p.eS h cb (xZ e).1)
    (λg hg=>let ⟨cb,e1,e2⟩:=p.iK g hg;⟨cb,e1,e2⟩) ix (λ_=>rfl) (λi h1 h2=>room i h1 h2)
   have kz:(vf.toList++q.args.toList.map A.eval++vc.toList).toArray=vf++q.args.map A.eval++vc:=by
    apply Array.ext';simp
   rw[kz]at this;have hex:(execOp A.eval o).run C.P w=(callFunc k (vf++q.args.map A.eval++vc)).run C.P w:=by
    simp[execOp,ho,resolve,hq,tw,Deferred.ofValue,invoke]
   unfold Oper.wp;rw[hex];unfold sR at this;split at this
   .rename_i f' as' w' hr
    rw[hr];refine Calls.mono this λe qK he=>?_
    grind
   .rename_i v w' hr
    rw[hr];have⟨ds,e1,ik,e2,e3⟩:=this;exact hv ds v w' ik e1 e2 e3
   .exact this.elim
 refine⟨λNL=>⟨hlen,λψ Q A w next QQ p room hn=>?_⟩,λds e NL rU fY Qp=>⟨jw.put pr ms e rU Fd hlen (λi ab h=>?_) (λi h hi=>?_) (.inr (by grind[nS])),λψ Q A w next QQ p room hn=>?_⟩⟩
 .have GO: ∀i,s.length<=i->i<s1.length->ψ (.inl i)=none:=λi h1 h2=>room (.inl i) ⟨ui.2 h1,h2⟩
  have hk: ∀i ab cb,cu s i=some ab->ψ (.inl i)=some cb->Q (.inl i) ab:=λi ab cb h e=>p.gV (.inl i) ab cb (hD i) h e
  refine sem ψ Q A w next QQ p GO Fd λch w' ik oU _ Cl=>?_
  have⟨f1,f2⟩:=frame p.dD p.eS hk hlen Cl;refine hn (sb ψ ik) (GL s1 Q) ch w' oU f1 f2 (λh cb e=>?_) λi ab cb h e=> .inl ⟨i,rfl,h⟩
  cases h with
  |inr v=>exact .inl e
  |inl i=>
   rcases Cl.news _ _ e with e|⟨j,hj,h1,h2⟩
   .exact .inl e
   .cases hj;exact .inr ⟨ui.2 h1,h2⟩
 .grind[cu]
 .grind
 .have GO: ∀i,s.length<=i->i<s1.length->ψ (.inl i)=none:=λi h1 h2=>room (.inl i) ⟨ui.2 h1,h2⟩
  have hk: ∀i ab cb,cu s i=some ab->ψ (.inl i)=some cb->Q (.inl i) ab:=λi ab cb h e=>p.gV (.inl i) ab cb (hD i) h e
  refine sem ψ Q A w next QQ p GO (λji v w' ik h Cl hr=>?_) Fd;rw[NL]at h;cases h;have⟨f1,f2⟩:=frame p.dD p.eS hk hlen Cl;have iB:um C (sb ψ ik) ds v:=by
   rcases hr with⟨d,e1,e2⟩|⟨e1,vs,e2,e3⟩
   .exact .inl ⟨d,e1,e2.mono (ψ:=ik) (ψ':=sb ψ ik) λ_ _ e=>e⟩
   .exact .inr ⟨e1,vs,e2,e3.mono (ψ:=ik) (ψ':=sb ψ ik) λ_ _ e=>e⟩
  refine hn (sb ψ ik) (GL s1 Q) v w' ⟨f1,f2,λh cb e=>?_,λh ab cb cr hw e'=>?_,λh ab cb e' q' nw dm=>?_⟩ (λd' dO=>?_)
  .cases h with
   |inr v=>exact .inl e
   |inl i=>
    rcases Cl.news _ _ e with e|⟨j,hj,h1,h2⟩
    .exact .inl e
    .cases hj;exact .inr ⟨ui.2 h1,h2⟩
  .cases h with
   |inl i=>exact .inl ⟨i,rfl,cr⟩
   |inr x=>
    rcases hw with hw|⟨n1,n2⟩
    .have kU:CR (E.dI o.dst e) s (.inr x) ab:=cr
     exact .inr ⟨p.gV (.inr x) ab cb (aS _ hw) (kU.dI rU) e',λi hi=>by cases hi⟩
    grind[cY,Env.zK]
  .cases h with
   |inr x=>exact .inr Fd
   |inl i=>
    rcases jd i s.length with hi|hi
    .rcases hW ds NL i with h'|h'
     .exact absurd h' nw
     .have h1:cu s i=some ab:=dm (hD i) hi
      exact .inl ⟨i,rfl,by grind[cu]⟩
    .rcases jd i s1.length with Nn|Nn
     .rw[GO i hi Nn]at e';cases e'
     .exact .inr Fd
  grind[Env.iw]
theorem Zra {f:Operand} (hq:q.callee= .value f) (ho:o.op= .call q) (aS: ∀h,W h->D h) (hD: ∀i,D (.inl i)) (hW: ∀i,W (.inl i)\/2<=md.x\/∃b∈md.bs,∀j p,E.get b= .v (.ptr (some (j,p)))->j=i)
  {c:Zd} (hc:ZI C c) (h:Ma C E o K md c f q.args s=some r):bz C md pr ms o D W E s K r:=by
 unfold Ma at h;have⟨fv,hf,h⟩:=Zt h;have⟨as,h,has⟩:=AA h;have hW': ∀(s1:St),(2<=md.x->St.Mt s s1)->(∀b∈md.bs,∃j p,E.get b= .v (.ptr (some (j,p)))/\s1[j]? =s[j]?)->∀i,W (.inl i)\/(i<s.length->s1[i]? =s[i]?):=λs1 hb hk i=>by
  rcases hW i with h|h|⟨b,hZ,fV⟩
  .exact .inl h
  .obtain⟨x,rfl⟩:=hb h
   grind
  grind
 cases fv with
 |func g fs cs=>
  simp only at h;generalize Q2 C.P o.type=ro at h;have⟨many,CV⟩:=ro;cases many with
  |true=>
   simp only at h;have⟨h1,h⟩:=Az h;have h1:=Dg h1;rcases ZlF h with⟨ds,s1,hm,h,hb⟩|⟨hx,s1,hm,rfl⟩
   .have⟨ji,h,hl,qm,hr⟩:=AF h
    have⟨hm,hk⟩:=yc hm;have⟨e1,e2⟩:=(Em (pr:=pr) (ms:=ms) hq ho aS hD hc hf has hm Fd).2 ds (.lL ji) rfl rfl (λ_ _ _ h=>by cases h) (λψ v hv=>by
     rcases hv with⟨d,e,_⟩|⟨_,vs,e,e'⟩
     .rw[e]at hl;simp at hl;omega
     .exact⟨vs,e,hr C ψ _ e'⟩)
    exact .inl ⟨_,s1,h,e1,e2⟩
   .exact .inr ⟨hx,s1,rfl,(Em (pr:=pr) (ms:=ms) hq ho aS hD hc hf has (yc hm).1 (λds e=>by cases e)).1 rfl⟩
  |false=>
   simp only at h;rcases ZlF h with⟨ds,s1,hm,h,hb⟩|⟨hx,s1,hm,rfl⟩
   .have⟨ji,h,hl,qm,hr⟩:=AF h
    cases ji with
    |nil=>cases h
    |cons d rest=>
     cases rest with
     |cons _ _=>cases h
     |nil=>
      simp only at h;have⟨hm,hk⟩:=yc hm;have⟨e1,e2⟩:=(Em (pr:=pr) (ms:=ms) hq ho aS hD hc hf has hm Fd).2 ds (.v d) rfl rfl (λ_ _ _ h=>by cases h) (λψ v hv=>by
       rcases hv with⟨d0,e,rI⟩|⟨e,_⟩
       .subst e
        have:=hr C ψ [v] (.cons _ _ _ _ rI .nil);cases this with
        |cons _ _ _ _ a _=>exact a
       grind)
      exact .inl ⟨_,s1,h,e1,e2⟩
   .exact .inr ⟨hx,s1,rfl,(Em (pr:=pr) (ms:=ms) hq ho aS hD hc hf has (yc hm).1 (λds e=>by cases e)).1 rfl⟩
 |_=>cases h
end
def Hc (h:cJ):Prop:=∃i,h= .inl i
def Hd (E:Env) (r:Nat) (h:cJ):Prop:=∃v,h= .inr v/\(E.get r).cd=some v
def ls:Md->Env->cJ->Prop
 | .s,_,_=>True
 | .d .pure _,_,_=>False
 | .d (.qE r) _,E,h=>Hd E r h
 | .d (.lb r) _,E,h=>Hd E r h
 | .d (.lp a) _,E,h=>∃i p,E.get a= .v (.ptr (some (i,p)))/\h= .inl i
 | .d _ _,_,h=>Hc h
def jN:Md->Env->cJ->Prop
 | .s,_,_=>True
 | .d .wr _,_,h=>Hc h
 | .d .call x,_,h=>x<2/\Hc h
 | .d (.lb r) _,E,h=>Hd E r h
 | .d (.ap bs) _,E,h=>∃i,h= .inl i/\∀b∈bs,∃j p,E.get b= .v (.ptr (some (j,p)))/\j≠i
 | .d _ _,_,_=>False
theorem EG (md:Md) (E:Env) (h:cJ) (w:jN md E h):ls md E h:=by
 cases md with
 |s=>trivial
 |d k x=>cases k<;>first|exact w|exact w.2|exact w.elim|(have⟨i,e,_⟩:=w;exact⟨i,e⟩)
variable {X:M β}
section
variable {C:aY} {o:Oper} {E:Env} {s:St} {md:Md} {pr ms:al}
theorem Zok {a:Operand} (ho:o.op= .load t a):cls P pr ops o= .hp\/(∃b,a= .tmp b/\cls P pr ops o= .lp b)\/∃r,cls P pr ops o= .qE r:=by
 grind[cls]
theorem Znn {a:Operand} (ho:o.op= .store t a y):cls P pr ops o= .wr\/cls P pr ops o= .ap []\/∃r,cls P pr ops o= .lb r:=by
 grind[cls]
theorem KS {E:Env} {p:ah} {X:M β} {r:Out β×St} : ∀ {bs:al},Bv E p bs X s=some r->X s=some r/\∀b∈bs,∀i q,p=some (i,q)->∃j q',E.get b= .v (.ptr (some (j,q')))/\j≠i
 |[],h=>⟨h,λb hb=>by cases hb⟩
 |b::bs,h=>by
  unfold Bv at h;cases he:E.get b with
  |v d=>
   rw[he]at h;cases d with
   |ptr a=>
    cases a with
    |none=>cases h
    |some jq=>
     have⟨j,q'⟩:=jq;simp only at h;have⟨h1,h⟩:=ZU h;have⟨h,h2⟩:=KS h;refine⟨h,λb' dH i q hp=>?_⟩;rcases dR.1 dH with rfl|dH
     .refine⟨j,q',he,?_⟩
      rw[hp]at h1;unfold apart at h1;rintro rfl;simp at h1
     grind
   |_=>cases h
  |_=>rw[he]at h;cases h
theorem ZsM {bs:al} (h:Mp C E bs as X s=some r):
  X s=some r/\∀y z i q n,as.toList.head?=some y->E.src C y= .v (.slice z (some (i,q)) n)->∀b∈bs,∃j q',E.get b= .v (.ptr (some (j,q')))/\j≠i:=by
 unfold Mp at h;cases bs with
 |nil=>grind
 |cons b r=>
  simp only at h;cases hy:as.toList with
  |nil=>rw[hy]at h;cases h
  |cons y ys=>
   rw[hy]at h;simp only at h;have⟨d,hd,h⟩:=Zt h;cases d with
   |slice z p n=>
    have⟨h1,h2⟩:=KS h;grind
   |_=>cases h
theorem Zs8 {bs:al} {a:Operand} (h:OF C E bs a X s=some r):
  X s=some r/\∀i q,E.src C a= .v (.ptr (some (i,q)))->∀b∈bs,∃j q',E.get b= .v (.ptr (some (j,q')))/\j≠i:=by
 unfold OF at h;cases bs with
 |nil=>grind
 |cons b r=>
  simp only at h;cases he:E.src C a with
  |v d=>
   rw[he]at h;cases d with
   |ptr p=>
    have⟨h1,h2⟩:=KS h;grind
   |_=>cases h
  |_=>rw[he]at h;cases h
theorem LU (hC:kI C) {c:Zd} (hc:ZI C c) (iM:md= .s\/∃x k m,md= .d (ph pr ops k m (cls C.P pr ops o)) x) (h:dW C pr ms md c o E K s=some r):
  bz C md pr ms o (ls md E) (jN md E) E s K r:=by
 have aS: ∀h,jN md E h->ls md E h:=EG md E;unfold dW at h;cases ho:o.op with
 |move y=>rw[ho]at h;exact Zmm (.inl ho) aS h
 |assign y=>rw[ho]at h;exact Zmm (.inr ho) aS h
 |pick b y z=>rw[ho]at h;exact Zri ho aS h
 |alloc t=>rw[ho]at h;exact Zp4 ho aS h
 |box t y=>rw[ho]at h;exact Zsb ho aS h
 |build t ps=>rw[ho]at h;exact Zqd ho aS h
 |buildSlice t n ps=>rw[ho]at h;exact Zlm ho aS h
 |load t a=>
  rw[ho]at h;refine Zrj ho aS ?_ ?_ h
  .intro r v hm hv
   rcases iM with rfl|⟨x,k,m,rfl⟩
   .trivial
   .rcases Zok (P:=C.P) (pr:=pr) (ops:=ops) ho with e|⟨b,_,e⟩|⟨q,e⟩<;>rw[e]at hm⊢
    .cases hm
    .cases hm
    .have:q=r:=cO hm
     subst this;exact⟨v,rfl,hv⟩
  .intro hm i p0 hx
   rcases iM with rfl|⟨x,k,m,rfl⟩
   .trivial
   .rcases Zok (P:=C.P) (pr:=pr) (ops:=ops) ho with e|⟨b,hb,e⟩|⟨q,e⟩<;>rw[e]at hm⊢
    .exact⟨i,rfl⟩
    .rw[hb]at hx
     have hx:E.get b= .v (.ptr (some (i,p0))):=by
      grind[Env.src]
     exact⟨i,p0,hx,rfl⟩
    .cases hm
 |store t a y=>
  rw[ho]at h;simp only at h;have⟨hd,h⟩:=Zq h;have⟨h,bx⟩:=Zs8 h;refine Zp8 ho (by simpa using hd) aS ?_ ?_ h
  .intro r v hm hv
   rcases iM with rfl|⟨x,k,m,rfl⟩
   .trivial
   .rcases Znn (P:=C.P) (pr:=pr) (ops:=ops) ho with e|e|⟨q,e⟩<;>rw[e]at hm⊢
    .cases hm
    .cases hm
    .have:q=r:=cO hm
     subst this;exact⟨v,rfl,hv⟩
  .intro hm i p hx
   rcases iM with rfl|⟨x,k,m,rfl⟩
   .trivial
   .rcases Znn (P:=C.P) (pr:=pr) (ops:=ops) ho with e|e|⟨q,e⟩<;>rw[e]at hm bx⊢
    .exact⟨i,rfl⟩
    .exact⟨i,rfl,bx i p hx⟩
    .cases hm
 |nilCheck y=>rw[ho]at h;exact ZmV ho aS h
 |binOp op t y z u=>rw[ho]at h;exact Zrq hC ho aS h
 |unOp op t y=>rw[ho]at h;exact Zs5 ho aS h
 |convert t u y=>
  rw[ho]at h;refine ZnU ho aS (λi=>?_) h;rcases iM with rfl|⟨x,k,m,rfl⟩
  .trivial
  .have:cls C.P pr ops o= .hp:=by unfold cls;rw[ho]
   rw[this];exact⟨i,rfl⟩
 |makeInterface t y=>rw[ho]at h;exact Zp0 ho aS h
 |makeFunc f x y=>rw[ho]at h;exact Zq6 ho aS h
 |makeSlice t x y=>rw[ho]at h;exact Zml ho aS h
 |slice t y lo hi mx=>
  rw[ho]at h;cases mx with
  |some _=>cases h
  |none=>
   refine Zp3 ho aS (λ⟨m,e,ht⟩ i=>?_) h;rcases iM with rfl|⟨x,k,m,rfl⟩
   .trivial
   .have:cls C.P pr ops o= .hp:=by grind[cls]
    rw[this];exact⟨i,rfl⟩
 |fieldAddr t y f=>rw[ho]at h;exact Zlz ho aS h
 |field t y f=>rw[ho]at h;exact ZpL ho aS h
 |indexAddr t y i=>rw[ho]at h;exact Zl4 ho aS h
 |index t y i=>rw[ho]at h;exact ZpS ho aS h
 |range t y=>rw[ho]at h;exact ZpM ho aS h
 |next it b=>
  rw[ho]at h;cases it with
  |tmp t=>
   cases b with
   |true=>
    refine ZqX ho aS (λv hv=>?_) h;rcases iM with rfl|⟨x,k,m,rfl⟩
    .trivial
    .have:cls C.P pr ops o= .lb t:=by unfold cls;rw[ho]
     rw[this];exact⟨v,rfl,hv⟩
   |false=>cases h
  |_=>cases b<;>cases h
 |typeAssert y t u ok=>
  rw[ho]at h;cases ok with
  |true=>cases h
  |false=>
   refine ZoN hC ho aS (λi=>?_) h;rcases iM with rfl|⟨x,k,m,rfl⟩
   .trivial
   .have:cls C.P pr ops o= .wr:=by unfold cls;rw[ho]
    rw[this];exact⟨i,rfl⟩
 |extract t i=>
  rw[ho]at h;cases t with
  |tmp t=>exact Zob ho aS h
  |_=>cases h
 |panic y=>
  rw[ho]at h;refine Zqe ho (λi=>?_) h;rcases iM with rfl|⟨x,k,m,rfl⟩
  .trivial
  .have:cls C.P pr ops o= .wr:=by unfold cls;rw[ho]
   rw[this];exact⟨i,rfl⟩
 |call q=>
  rw[ho]at h;simp only at h;have wr: ∀b,q.callee= .builtin b->b≠ .len->b≠ .min->b≠ .max->b≠ .append->∀i,jN md E (.inl i):=by
   intro b hq h1 h2 h3 h4 i;rcases iM with rfl|⟨x,k,m,rfl⟩
   .trivial
   .have:cls C.P pr ops o= .wr:=by
     grind[cls]
    rw[this];exact⟨i,rfl⟩
  cases hq:q.callee with
  |value f=>
   rw[hq]at h;have eu:cls C.P pr ops o= .ap []\/cls C.P pr ops o= .call:=by
    grind[cls]
   refine Zra hq ho aS (λi=>?_) (λi=>?_) hc h
   .rcases iM with rfl|⟨x,k,m,rfl⟩
    .trivial
    .rcases eu with this|this<;>rw[this]<;>exact⟨i,rfl⟩
   .rcases iM with rfl|⟨x,k,m,rfl⟩
    .exact .inl trivial
    .rcases eu with this|this<;>rw[this]
     .by_cases hb: ∀b∈(Md.d (ph pr ops k m (.ap [])) x).bs,∃j p,E.get b= .v (.ptr (some (j,p)))/\j≠i
      .exact .inl ⟨i,rfl,hb⟩
      grind
     .rcases jd x 2 with hx|hx
      .exact .inl ⟨hx,i,rfl⟩
      .exact .inr (.inl hx)
  |invoke f m=>rw[hq]at h;cases h
  |builtin b=>
   rw[hq]at h;cases b with
   |len=>exact Zsh hq rfl ho aS h
   |append=>
    have⟨h,uQ⟩:=ZsM h;have hc:cls C.P pr ops o= .ap []:=by grind[cls]
    refine ZoX hq ho aS (λi=>?_) (λy z i p n hy he=>?_) h
    .rcases iM with rfl|⟨x,k,m,rfl⟩
     .trivial
     .rw[hc];exact⟨i,rfl⟩
    .rcases iM with rfl|⟨x,k,m,rfl⟩
     .trivial
     .rw[hc]at uQ⊢
      exact⟨i,rfl,uQ y z i p n hy he⟩
   |copy=>exact Zq0 hq ho aS Fd h
   |min=>exact Znr (mx:=false) hq rfl ho aS h
   |max=>exact Znr (mx:=true) hq rfl ho aS h
   |clear=>exact ZpP hq ho aS Fd h
   |_=>cases h
 |_=>rw[ho]at h;cases h
end
end Go.Gv
