/- What an operation does, said of the machine and of the model: the frame of the proofs for the single operations. -/
import Derived.Test.YtegglibipjjblaaGreatDoorGvRel
import Derived.Laws.Strings
import Derived.Laws.Concat
import Derived.DeepKeys
import Derived.Laws.Slices
import Derived.Laws.BytesArg
import Derived.Laws.Tables
import Derived.Laws.MakeOwn
import Derived.Laws.Append
set_option linter.all false
namespace Go.Gv
theorem Je (k:Nat) (e:eZ) (l:List (Nat×eZ)) (t:Nat):look ((k,e)::l) t=if k=t then e else look l t:=by
 simp[look]
theorem Env.tp (E:Env) (t:Nat) (e:eZ) (u:Nat):(E.put t e).get u=if t=u then e else E.get u:=Je t e E.l u
theorem Env.ahG (n:Nat) (t:Nat) (e:eZ) (l:List (Nat×eZ)) (u:Nat):(⟨n,(t,e)::l⟩:Env).get u=if t=u then e else look l u:=Je t e l u
@[simp] theorem Env.adm (E : Env) (t : Nat) (e : eZ) : (E.put t e).bW = E.bW := rfl
@[simp] theorem Env.HO (E : Env) (t : Option Nat) (e : eZ) : (E.fu t e).bW = E.bW := by cases t <;> rfl
theorem Env.kR (E:Env) (t:Option Nat) (e:eZ) (u:Nat):(E.fu t e).get u=if t=some u then e else E.get u:=by
 cases t with
 |none=>simp[Env.fu]
 |some t=>simp[Env.fu,Env.tp,fZ]
theorem Jx: ∀(l:al) (t:Nat),has l t=true↔t∈l
 |[],t=>by simp[has]
 |k::r,t=>by
  rw[has,mm,eM,Jx r t];constructor
  .rintro(h|h)
   .simp_all
   .exact .inr h
  .rintro(h|h)
   .simp_all
   .exact .inr h
theorem Aq (E:Env) (ts:al) (t:Nat):(E.del ts).get t=if has ts t then .u else E.get t:=by
 have key: ∀l:List (Nat×eZ),look (GS l ts) t=if has ts t then .u else look l t:=by
  intro l;induction l with
  |nil=>simp[GS,look]
  |cons x r ih=>
   have⟨k,e⟩:=x;rw[GS];cases hk:has ts k with
   |true=>
    rw[ae,ih,Je];by_cases h:k=t
    .subst h;simp[hk]
    .simp[h]
   |false=>
    simp only[af,Je,ih];by_cases h:k=t
    .subst h;simp[hk]
    .simp[h]
 exact key E.l
@[simp] theorem alL (E : Env) (ts : al) : (E.del ts).bW = E.bW := rfl
def eC (E:Env) (s:St):dN->Prop
 | .inl i=>i<s.length
 | .inr v=>v<E.bW
def xY (E:Env) (s:St) (E':Env) (s':St) (h:dN):Prop:=¬eC E s h/\eC E' s' h
variable {ab:AB} {ad base:Addr} {ps:Array (Nat×Operand)} {as cap first:Array Operand} {ts:Array TypeId} {c vs zv:Array Value} {op:BinOp} {f mx:Bool} {cb:CB} {q:Call} {Q Q' Q1:Kn} {ops:List Oper} {md:Md} {g i j lim m n o' off p z0:Nat} {y:Operand} {hi lo:Option Operand} {P:Program} {ψ ψ':Ps} {s s' s1:St} {α β:Type} {d ed td:TypeDesc} {e t ty u xt yt:TypeId} {v:Value} {w w':World} {cs cs' ds fs xs ys z:ah} {ms pr:al} {C:bE} {h:dN}
theorem Ee (h:dD s i=some ab):i<s.length:=by
 grind[dD]
variable {E:Env}
theorem CR.rQ (hE:jJ E) (c:CR E s h ab):eC E s h:=by
 cases h with
 |inl i=>exact Ee c
 |inr v=>
  rcases c with⟨t,n,cs,e,_⟩|⟨t,l,p,e,_⟩
  .exact hE.lt t v (by rw[e];rfl)
  .exact hE.lt t v (by rw[e];rfl)
theorem MB {x:St} (h:i<s.length):dD (s++x) i=dD s i:=by
 grind[dD]
theorem Si (s:St) (b:bO):dD (s++[some b]) s.length=some (.cells b.dU b.cells):=by
 simp[dD]
def Spec (pr:al) (o:Oper):Prop:=
 match o.op with
 | .store .. | .next .. | .range .. =>True
 | .alloc _| .box _ _=>∃d,o.dst=some d/\has pr d=true
 |_=>False
def tZ (o:Oper):Prop:=
 match o.op with
 | .alloc _| .box .. | .buildSlice .. | .makeSlice .. | .convert .. =>True
 | .call q=>match q.callee with
  | .value _| .builtin .append=>True
  |_=>False
 |_=>False
structure mY (W:dN->Prop) (pr ms:List Nat) (o:Oper) (E:Env) (s:St) (E':Env) (s':St):Prop where
 len:s.length<=s'.length
 bW:E.bW<=E'.bW
 gX:jJ E->jJ E'
 other: ∀t,o.dst≠some t->has ms t=false->E'.get t=E.get t
 val: ∀t d,o.dst≠some t->E'.get t= .v d->E.get t= .v d
 bL: ∀t,o.dst≠some t->∀(C:bE) ψ x,fV C ψ (E.get t) x->fV C ψ (E'.get t) x
 back: ∀h ab,CR E' s' h ab->W h\/xY E s E' s' h\/CR E s h ab
 xO: ∀t v n cs,E'.get t= .loc v n cs->(∃ng,E.get t= .loc v n ng)\/(E.bW<=v/\o.dst=some t)
 zO: ∀t v l p,E'.get t= .it v l p->(∃p0,E.get t= .it v l p0)\/(E.bW<=v/\o.dst=some t)
 adx: ∀i,¬W (.inl i)->i<s.length->s'[i]? =s[i]?
 plain:(∃e:eZ,e.dr=none/\E'=E.fu o.dst e)\/Spec pr o
 grow:s'.length=s.length\/tZ o
structure aA (C:bE) (o:Oper) (D:dN->Prop) (E:Env) (s:St) (ψ:Ps) (Q:Kn) (a:Act) (w:World):Prop where
 fh:fC C ψ Q w
 gO:sF ψ w
 lK:Glob C ψ
 gX:jJ E
 ko: ∀h ab cb,D h->CR E s h ab->ψ h=some cb->Q h ab
 args: ∀t,.tmp t∈o.op.operands->fV C ψ (E.get t) (a.tmps.getD t undef)
def Mt (E:Env) (s:St) (E':Env) (s':St) (ψ:Ps):Prop:=∀h,xY E s E' s' h->ψ h=none
structure Mq (C:bE) (D W:dN->Prop) (E:Env) (s:St) (E':Env) (s':St) (ψ:Ps) (Q:Kn) (w:World) (ψ':Ps) (Q':Kn) (w':World):Prop where
 fh:fC C ψ' Q' w'
 ext:Ext ψ Q w ψ' Q' w'
 news: ∀h cb,ψ' h=some cb->ψ h=some cb\/xY E s E' s' h
 p1: ∀h ab cb,CR E' s' h ab->(W h\/xY E s E' s' h)->ψ' h=some cb->Q' h ab
 p2: ∀h ab cb,ψ h=some cb->Q h ab->¬W h->(D h->eC E s h->CR E s h ab)->Q' h ab
def DO (C:bE) (o:Oper) (D W:dN->Prop) (E:Env) (s:St) (E':Env) (s':St):Prop:=
 ∀(ψ:Ps) (Q:Kn) (a:Act) (w:World) (next:Act->World->Prop) (QQ:Exit->Act->World->Prop),aA C o D E s ψ Q a w->Mt E s E' s' ψ->
  (∀ψ' Q' v w',Mq C D W E s E' s' ψ Q w ψ' Q' w'->(∀d,o.dst=some d->fV C ψ' (E'.get d) v)->next (a.put o.dst v) w')->o.wp C.P a w next QQ
def pz (ch:List PanicEntry):Prop:=∃t v,ch=[{ v:= .iface t v,recovered:=false }]
def xZ (C:bE) (o:Oper) (D:dN->Prop) (E:Env) (s s':St):Prop:=
 s.length<=s'.length/\
 ∀(ψ:Ps) (Q:Kn) (a:Act) (w:World) (next:Act->World->Prop) (QQ:Exit->Act->World->Prop),aA C o D E s ψ Q a w->Mt E s E s' ψ->
  (∀ψ' Q' ch w',pz ch->fC C ψ' Q' w'->Ext ψ Q w ψ' Q' w'->(∀h cb,ψ' h=some cb->ψ h=some cb\/xY E s E s' h)->
   (∀i ab cb,dD s' i=some ab->ψ' (.inl i)=some cb->Q' (.inl i) ab)->QQ (.panic ch) a w')->o.wp C.P a w next QQ
def cj (C:bE) (md:Md) (pr ms:al) (o:Oper) (D W:dN->Prop) (E:Env) (s:St) (K:Env->M β) (r:Out β×St):Prop:=
 (∃E' s',K E' s'=some r/\mY W pr ms o E s E' s'/\DO C o D W E s E' s')\/(md.x=0/\∃s',r=(.fy,s')/\xZ C o D E s s')
theorem Zrr {d:DV} (h:Dn v=some d):VR C ψ d v:=by
 unfold Dn at h;split at h<;>first|(cases h;done)|(injection h with h;subst h)
 .exact .bool _
 .exact .int _ _
 .exact .str _
 .exact .LI
 .exact .tP _
 .exact .nilFunc
 .exact .nilIface
theorem ZwU {d:DV} (h:Dn v=some d):one d=true:=by
 unfold Dn at h;split at h<;>first|(cases h;done)|(injection h with h;subst h;rfl)
theorem F9 {C:bE} {ψ:Ps} : ∀ {vs:List Value} {ds:ah},JH vs=some ds->bH C ψ ds vs/\ds.all one=true
 |[],ds,h=>by simp only[JH,fZ]at h;subst h;exact⟨.nil,rfl⟩
 |v::vs,ds,h=>by
  simp only[JH]at h;split at h
  .rename_i d mD h1 h2
   injection h with h;subst h
   have⟨a,b⟩:=F9 (C:=C) (ψ:=ψ) h2;exact⟨.cons _ _ _ _ (Zrr h1) a,by simp[ZwU h1,b]⟩
  .cases h
section
variable {C:bE} {o:Oper} {D:dN->Prop} {E:Env} {s:St} {ψ:Ps} {Q:Kn} {a:Act} {w:World}
theorem aA.src (p:aA C o D E s ψ Q a w) {x:Operand} (hx:x∈o.op.operands):fV C ψ (E.src C x) (a.eval x):=by
 cases x with
 |tmp t=>
  have h:=p.args t hx;rw[Env.src,Act.eval];cases he:E.get t with
  |loc v n cs=>
   rw[he]at h;have⟨cb,h1,h2,h3⟩:=h;exact⟨cb,h1,h2,h3⟩
  |it v l q=>exact trivial
  |u=>exact trivial
  |un=>rw[he]at h;exact h
  |v d=>rw[he]at h;exact h
  |qR ds=>rw[he]at h;exact h
  |pl r v n=>rw[he]at h;exact h
 |const v=>
  rw[Env.src,Act.eval];split
  .exact Zrr (by assumption)
  .exact trivial
 |global g=>
  rw[Env.src,Act.eval];cases hg:C.CM g with
  |false=>exact trivial
  |true=>
   have⟨cb,h1,h2,h3⟩:=p.lK g hg;have:=VR.ptr (C:=C) (ψ:=ψ) (C.gl g) 0 cb h1;rw[h2,h3]at this;exact this
 |func f=>
  rw[Env.src,Act.eval];cases hg:C.cov f with
  |false=>exact trivial
  |true=>exact VR.func f [] [] #[] #[] hg .nil .nil
theorem aA.val (p:aA C o D E s ψ Q a w) {x:Operand} (hx:x∈o.op.operands) {d:DV} (h:E.src C x= .v d):VR C ψ d (a.eval x):=by
 have:=p.src hx;rw[h]at this;exact this
theorem Env.LO (C:bE) (E:Env) (x:Operand):(E.src C x).dr=none:=by
 cases x with
 |tmp t=>rw[Env.src];cases E.get t<;>rfl
 |const v=>rw[Env.src];cases Dn v<;>rfl
 |global g=>rw[Env.src];cases C.CM g<;>rfl
 |func f=>rw[Env.src];cases C.cov f<;>rfl
theorem Env.FE (C:bE) (hE:jJ E) {x:Operand} {r v:Nat} (h:E.src C x= .pl r v n):v<E.bW:=by
 cases x with
 |tmp t=>
  simp only[Env.src]at h;cases he:E.get t with
  |loc v' m cs=>
   rw[he]at h;simp only[eZ.pl.injEq]at h;obtain⟨_,rfl,_⟩:=h;exact hE.lt t v' (by rw[he];rfl)
  |pl r' v' n'=>
   rw[he]at h;simp only[eZ.pl.injEq]at h;obtain⟨_,rfl,_⟩:=h;exact hE.pl t _ _ _ he
  |_=>rw[he]at h;cases h
 |const v=>simp only[Env.src]at h;cases hv:Dn v<;>rw[hv]at h<;>cases h
 |global g=>simp only[Env.src]at h;cases hv:C.CM g<;>rw[hv]at h<;>cases h
 |func f=>simp only[Env.src]at h;cases hv:C.cov f<;>rw[hv]at h<;>cases h
end
theorem jJ.fu {E:Env} (hE:jJ E) {t:Option Nat} {e:eZ} (hv:e.dr=none) (hp: ∀r v n,e= .pl r v n->v<E.bW):jJ (E.fu t e):=by
 constructor
 .intro u v h
  rw[Env.kR]at h;rw[Env.HO];split at h
  .rw[hv]at h;cases h
  .exact hE.lt u v h
 .intro u r v n h
  rw[Env.kR]at h;rw[Env.HO];split at h
  .exact hp r v n h
  .exact hE.pl u r v n h
 .intro u v n cs h
  rw[Env.kR]at h;split at h
  .rw[h]at hv;cases hv
  .exact hE.len u v n cs h
 .intro u u' v h h'
  rw[Env.kR]at h h';split at h
  .rw[hv]at h;cases h
  .split at h'
   .rw[hv]at h';cases h'
   .exact hE.uniq u u' v h h'
theorem CR.fu {t:Option Nat} {e:eZ} (hv:e.dr=none) (c:CR (E.fu t e) s h ab):CR E s h ab:=by
 cases h with
 |inl i=>exact c
 |inr v=>
  rcases c with⟨u,n,cs,h,gf⟩|⟨u,l,p,h,gf⟩
  .rw[Env.kR]at h
   split at h
   .rw[h]at hv;cases hv
   .exact .inl ⟨u,n,cs,h,gf⟩
  .rw[Env.kR]at h
   split at h
   .rw[h]at hv;cases hv
   .exact .inr ⟨u,l,p,h,gf⟩
section
variable {C:bE} {o:Oper} {D W:dN->Prop} {E:Env} {s:St}
theorem mY.put (pr ms:al) (e:eZ) (hv:e.dr=none) (hp:jJ E->∀r v n,e= .pl r v n->v<E.bW) (hl:s.length<=s'.length)
  (hs: ∀i ab,dD s' i=some ab->W (.inl i)\/s.length<=i\/dD s i=some ab) (hf: ∀i,¬W (.inl i)->i<s.length->s'[i]? =s[i]?) (hg:s'.length=s.length\/tZ o):mY W pr ms o E s (E.fu o.dst e) s' where
 len:=hl
 bW:=Do
 gX:=λhE=>hE.fu hv (hp hE)
 other:=λt h _=>by rw[Env.kR,bq h]
 val:=λt d h e=>by rw[Env.kR,bq h]at e;exact e
 bL:=λt h C ψ x r=>by rw[Env.kR,bq h];exact r
 back:=λh ab c=>by
  cases h with
  |inl i=>
   have c':dD s' i=some ab:=c;rcases hs i ab c' with h|h|h
   .exact .inl h
   .exact .inr (.inl ⟨BJ.2 h,Ee c'⟩)
   .exact .inr (.inr h)
  |inr v=>
   have c':CR (E.fu o.dst e) s (.inr v) ab:=c;exact .inr (.inr (c'.fu hv))
 xO:=λt v n cs h=>by
  rw[Env.kR]at h;split at h
  .rw[h]at hv;cases hv
  grind
 zO:=λt v l p h=>by
  rw[Env.kR]at h;split at h
  .rw[h]at hv;cases hv
  grind
 adx:=hf
 plain:= .inl ⟨e,hv,rfl⟩
 grow:=hg
theorem mY.aaJ (pr ms:al) (e:eZ) (hv:e.dr=none) (hp:jJ E->∀r v n,e= .pl r v n->v<E.bW):mY W pr ms o E s (E.fu o.dst e) s:=
 mY.put pr ms e hv hp (aM _) (λ_ _ h=> .inr (.inr h)) (λ_ _ _=>rfl) (.inl rfl)
theorem DO.pure (bx: ∀h,W h->D h) (e:eZ) (hv:e.dr=none)
  (ec: ∀ψ Q a w,aA C o D E s ψ Q a w->∃v w',(execOp a.eval o).run C.P w= .ok (.value v) w'/\hY w w'/\fV C ψ e v):DO C o D W E s (E.fu o.dst e) s:=by
 intro ψ Q a w next QQ p _ hn;have⟨v,w',hr,hm,fg⟩:=ec ψ Q a w p;unfold Oper.wp;rw[hr];refine hn ψ Q v w' ⟨p.fh.more p.gO hm,Ext.more hm,λh cb e=> .inl e,λh ab cb c hw e=>?_,λh ab cb e q _ _=>q⟩ (λd hd=>?_)
 .rcases hw with hw|⟨h1,h2⟩
  .exact p.ko h ab cb (bx h hw) (c.fu hv) e
  .exact absurd (by cases h<;>simpa [eC]using h2) h1
 grind[Env.kR]
theorem cj.pure {β:Type} {md:Md} {pr ms:al} (bx: ∀h,W h->D h) {K:Env->M β} {r:Out β×St} (e:eZ) (hv:e.dr=none) (hp:jJ E->∀r v n,e= .pl r v n->v<E.bW)
  (hk:K (E.fu o.dst e) s=some r)
  (ec: ∀ψ Q a w,aA C o D E s ψ Q a w->∃v w',(execOp a.eval o).run C.P w= .ok (.value v) w'/\hY w w'/\fV C ψ e v):cj C md pr ms o D W E s K r:=
 .inl ⟨_,_,hk,mY.aaJ pr ms e hv hp,DO.pure bx e hv ec⟩
theorem cj.val (bx: ∀h,W h->D h) {K:Env->M β} {r:Out β×St} (d:DV)
  (hk:cJ E o K d s=some r)
  (ec: ∀ψ Q a w,aA C o D E s ψ Q a w->∃v w',(execOp a.eval o).run C.P w= .ok (.value v) w'/\hY w w'/\VR C ψ d v):cj C md pr ms o D W E s K r:=
 cj.pure bx (.v d) rfl (λ_ _ _ _ h=>by cases h) hk ec
theorem cj.Ly (cD:tZ o) (bx: ∀h,W h->D h) {K:Env->M β} {r:Out β×St} (d:DV) (cells:ah)
  (hk:cJ E o K d (s++[some ⟨false,cells⟩])=some r)
  (ec: ∀ψ Q a w,aA C o D E s ψ Q a w->∃v w' cb,(execOp a.eval o).run C.P w= .ok (.value v) w'/\hY w w'/\w.heap.size<=cb.b/\cb.b<w'.heap.size/\
   Holds C ψ w' cb (.cells false cells)/\(∀ψ',(∀h c,ψ h=some c->ψ' h=some c)->ψ' (.inl s.length)=some cb->VR C ψ' d v)):cj C md pr ms o D W E s K r:=by
 refine .inl ⟨_,_,hk,mY.put pr ms (.v d) rfl (λ_ _ _ _ h=>by cases h) Do (λi ab h=>?_) Fd (.inr cD),?_⟩
 .rcases kz i s.length with hi|hi
  .rw[MB hi]at h;exact .inr (.inr h)
  .exact .inr (.inl hi)
 .intro ψ Q a w next QQ p room hn
  have⟨v,w',cb,hr,hm,h1,h2,hh,fg⟩:=ec ψ Q a w p;have iL:xY E s (E.fu o.dst (.v d)) (s++[some ⟨false,cells⟩]) (.inl s.length):=⟨by simp[eC],by simp[eC]⟩;have hf:=room _ iL;unfold Oper.wp;rw[hr];refine hn _ _ v w' ⟨fC.new (cb:=cb) (ab:= .cells false cells) p.fh p.gO hm hf h1 (hh.same (λ_ _ e=>wR hf _ _ e) rfl),Ext.new hm hf h1 h2,λh c e=>?_,λh ab c cr hw e=>?_,λh ab c e q _ _=>?_⟩ (λd' hd=>?_)
  .by_cases eh:h= .inl s.length
   .grind
   .rw[pK _ _ eh]at e;exact .inl e
  .by_cases eh:h= .inl s.length
   .subst eh
    have pM:dD (s++[some ⟨false,cells⟩]) s.length=some ab:=cr;rw[Si]at pM;cases pM;exact .inl ⟨rfl,rfl⟩
   .refine .inr ⟨eh,?_⟩
    rw[pK _ _ eh]at e;rcases hw with hw|⟨n1,n2⟩
    .refine p.ko h ab c (bx h hw) ?_ e
     cases h with
     |inl i=>
      have pM:dD (s++[some ⟨false,cells⟩]) i=some ab:=cr;have:=Ee pM;simp only[bz,iS]at this;rwa [MB (by have:i≠s.length:=λe=>eh (by rw[e]);omega)]at pM
     |inr x=>
      have pM:CR (E.fu o.dst (.v d)) s (.inr x) ab:=cr;exact pM.fu rfl
    .cases h with
     |inl i=>
      simp only[eC,bz,iS]at n1 n2;grind
     |inr x=>simp only[eC,Env.HO]at n1 n2;exact absurd n2 n1
  .refine .inr ⟨λeh=>?_,q⟩
   grind
  .rw[Env.kR,bG hd]
   exact fg _ (wR hf) (ri _ _ _)
end
variable {β:Type}
variable {r:Out β×St}
theorem Zw {x:Operand} {K:DV->M β} (h:fH C E x K s=some r): ∃d,E.src C x= .v d/\K d s=some r:=by
 unfold fH at h;cases he:E.src C x<;>rw[he]at h<;>first|exact⟨_,rfl,h⟩|cases h
theorem Gq {x:Operand} {K:Int->M β} (h:Dh C E x K s=some r): ∃k n,E.src C x= .v (.int k n)/\K n s=some r:=by
 have⟨d,h1,h2⟩:=Zw h;split at h2
 .grind
 .cases h2
theorem UL {x:Operand} {K:Bool->M β} (h:Xi C E x K s=some r): ∃b,E.src C x= .v (.bool b)/\K b s=some r:=by
 have⟨d,h1,h2⟩:=Zw h;split at h2
 .exact⟨_,h1,h2⟩
 .cases h2
theorem WI {a:ai} {K:Nat->Nat->M β} (h:bJ a K s=some r): ∃i o,a=some (i,o)/\K i o s=some r:=by
 unfold bJ at h;split at h
 .grind
 .cases h
theorem IX {x:Operand} {KL:Nat->Nat->Nat->M β} {KH:Nat->Nat->M β} (h:Eu C E x KL KH s=some r):
  (∃t v o,E.src C x= .pl t v o/\KL t v o s=some r)\/(∃i o,E.src C x= .v (.ptr (some (i,o)))/\KH i o s=some r):=by
 unfold Eu at h;cases he:E.src C x with
 |pl t v o=>rw[he]at h;grind
 |v d=>
  rw[he]at h;cases d with
  |ptr a=>
   obtain⟨i,o,rfl,h⟩:=WI h;grind
  |_=>cases h
 |_=>rw[he]at h;cases h
theorem mC {b:Bool} {K:M β} (h:aB b K s=some r):b=true/\K s=some r:=by
 cases b with
 |true=>exact⟨rfl,h⟩
 |false=>cases h
theorem Zt {b:Bool} {x:M β} (h:(bif b then x else fail) s=some r):b=true/\x s=some r:=by
 cases b with
 |true=>exact⟨rfl,h⟩
 |false=>cases h
theorem IE {b:Bool} {x:M β} (h:(bif b then fail else x) s=some r):b=false/\x s=some r:=by
 cases b with
 |false=>exact⟨rfl,h⟩
 |true=>cases h
theorem qu {K:M β} (h:sv P t K s=some r): ∃d,P.underlying t=some d/\K s=some r:=by
 unfold sv at h;cases he:P.underlying t<;>rw[he]at h<;>first|exact⟨_,rfl,h⟩|cases h
theorem NQ {K:DV->M β} (h:eS cs i K s=some r): ∃d,cs[i]? =some d/\K d s=some r:=by
 unfold eS at h;cases he:cs[i]? <;>rw[he]at h<;>first|exact⟨_,rfl,h⟩|cases h
theorem VK {K:M β} (h:bC cs n K s=some r):cs.length=n/\K s=some r:=by
 unfold bC at h;have⟨h1,h2⟩:=Zt h;simp_all
theorem ZnI {t v:Nat} {K:Nat->ah->M β} (h:Od E t v K s=some r): ∃n cs,E.get t= .loc v n cs/\K n cs s=some r:=by
 unfold Od at h;cases he:E.get t with
 |loc v' n cs=>
  rw[he]at h;have⟨h1,h2⟩:=Zt h;have:=dP h1;grind
 |_=>rw[he]at h;cases h
theorem JA {k k':IntKind} (h:wg k k'=true):k=k':=by cases k<;>cases k'<;>first|rfl|(simp[wg]at h)
theorem N2 {x:B} {d:DV} {K:DV->M β} (h:d1 x d K s=some r):
  ∃d',K d' s=some r/\(∀(C:bE) ψ v,VR C ψ d v->VR C ψ d' v)/\(one d=true->one d'=true):=by
 unfold d1 at h;split at h
 .unfold uu at h;split at h
  .grind
  .cases h
 .unfold de at h;split at h
  .have⟨h1,h2⟩:=Zt h
   have:=JA h1;subst this;grind
  .cases h
 .unfold Cw at h;split at h
  .grind
  .cases h
 .unfold Cv at h;split at h
  .grind
  .cases h
 .unfold dz at h;split at h
  .rename_i z a n
   have⟨h1,h2⟩:=Zt h;refine⟨_,h2,λC ψ v hv=>?_,λ_=>rfl⟩;simp only[mm]at h1;rcases h1 with h1|h1
   .have:=dP h1;subst this;exact hv
   .cases a with
    |none=>cases hv;exact .tP _
    |some _=>cases h1
  .cases h
 .unfold Wi at h;split at h
  .grind
  .cases h
 .grind
 .cases h
theorem IN: ∀ {l:List B} {cs:ah} {K:ah->M β} {s:St} {r:Out β×St},ox l cs K s=some r->
  ∃ds,K ds s=some r/\ds.length=cs.length/\(∀(C:bE) ψ vs,bH C ψ cs vs->bH C ψ ds vs)/\(cs.all one=true->ds.all one=true)
 |[],cs,K,s,r,h=>by
  simp only[ox]at h;cases cs with
  |nil=>exact⟨[],h,rfl,λ_ _ _ h=>h,λh=>h⟩
  |cons _ _=>cases h
 |x::l,cs,K,s,r,h=>by
  have gen: ∀ {x:B},(kP cs λd rest=>d1 x d λd'=>ox l rest λds=>K (d'::ds)) s=some r->
    ∃ds,K ds s=some r/\ds.length=cs.length/\(∀(C:bE) ψ vs,bH C ψ cs vs->bH C ψ ds vs)/\(cs.all one=true->ds.all one=true):=by
   intro x h;cases cs with
   |nil=>cases h
   |cons d rest=>
    simp only[kP]at h;have⟨d',h,hd,h1⟩:=N2 h;have⟨ds,h,hl,hr,h2⟩:=IN h;refine⟨_,h,by simp[hl],λC ψ vs hv=>?_,λho=>?_⟩
    .cases hv with
     |cons _ v _ vs a b=>exact .cons _ _ _ _ (hd C ψ v a) (hr C ψ vs b)
    grind
  have fp: ∀ {n:Nat} ,(Wh n cs λxs rest=>ox l rest λds=>K (xs++ds)) s=some r->
    ∃ds,K ds s=some r/\ds.length=cs.length/\(∀(C:bE) ψ vs,bH C ψ cs vs->bH C ψ ds vs)/\(cs.all one=true->ds.all one=true):=by
   intro n h;unfold Wh at h;have⟨h1,h⟩:=Zt h;have⟨ds,h,hl,hr,h2⟩:=IN h;refine⟨_,h,by simp[hl];omega,λC ψ vs hv=>?_,λho=>?_⟩
   .have e:vs=vs.take n++vs.drop n:=Do
    rw[e];exact(hv.take n).append (hr C ψ _ (hv.drop n))
   grind
  cases x with
  |fp n=>
   cases l with
   |nil=>
    simp only[ox]at h;have⟨hl,h⟩:=VK h;grind
   |cons y l=>simp only[ox]at h;exact fp h
  |bool=>simp only[ox]at h;exact gen h
  |int k=>simp only[ox]at h;exact gen h
  |str=>simp only[ox]at h;exact gen h
  |ptr=>simp only[ox]at h;exact gen h
  |slice sz=>simp only[ox]at h;exact gen h
  |func=>simp only[ox]at h;exact gen h
  |any=>simp only[ox]at h;exact gen h
theorem NP {x:Sh} {d:DV} {K:DV->M β} (h:AM x d K s=some r):
  ∃d',K d' s=some r/\(∀(C:bE) ψ v,VR C ψ d v->VR C ψ d' v)/\(one d=true->one d'=true):=by
 cases x with
 |b x=>exact N2 h
 |agg l=>
  simp only[AM,ur]at h;split at h
  .have⟨ds,h,hl,hr,h2⟩:=IN h
   refine⟨_,h,λC ψ v hv=>?_,λh=>by cases h⟩;cases hv with
   |agg _ vs a b=>exact .agg _ _ (hr C ψ _ a) (h2 b)
  .cases h
theorem IV: ∀ {l:List Sh} {cs:ah} {K:ah->M β} {s:St} {r:Out β×St},CG l cs K s=some r->
  ∃ds,K ds s=some r/\ds.length=cs.length/\ds.length=l.length/\(∀(C:bE) ψ vs,bH C ψ cs vs->bH C ψ ds vs)
 |[],cs,K,s,r,h=>by
  simp only[CG]at h;cases cs with
  |nil=>exact⟨[],h,rfl,rfl,λ_ _ _ h=>h⟩
  |cons _ _=>cases h
 |x::l,cs,K,s,r,h=>by
  simp only[CG]at h;cases cs with
  |nil=>cases h
  |cons d rest=>
   simp only[kP]at h;have⟨d',h,hd,_⟩:=NP h;have⟨ds,h,hl,nN,hr⟩:=IV h;refine⟨_,h,by simp[hl],by simp[nN],λC ψ vs hv=>?_⟩;cases hv with
   |cons _ v _ vs a b=>exact .cons _ _ _ _ (hd C ψ v a) (hr C ψ vs b)
inductive SV (C:bE) (E:Env):List Operand->List DV->Prop
 |nil:SV C E [] []
 |cons {x:Operand} {d:DV} {l:List Operand} {ds:ah} :E.src C x= .v d->SV C E l ds->SV C E (x::l) (d::ds)
theorem IF {C:bE} {E:Env} : ∀ {l:List Operand} {K:ah->M β} {s:St} {r:Out β×St},Bx C E l K s=some r->
  ∃ds,K ds s=some r/\SV C E l ds
 |[],K,s,r,h=>⟨[],h,.nil⟩
 |x::l,K,s,r,h=>by
  simp only[Bx]at h;have⟨d,h1,h⟩:=Zw h;have⟨ds,h,h2⟩:=IF h;exact⟨_,h,.cons h1 h2⟩
theorem Jj {C:bE} {o:Oper} {D:dN->Prop} {E:Env} {s:St} {ψ:Ps} {Q:Kn} {a:Act} {w:World} (p:aA C o D E s ψ Q a w):
  ∀ {l:List Operand} {ds:ah},(∀x∈l,x∈o.op.operands)->SV C E l ds->bH C ψ ds (l.map a.eval)
 |[],_,_,.nil=> .nil
 |x::l,_,hm,.cons h1 h2=> .cons _ _ _ _ (p.val (hm x Do) h1) (Jj p Fd h2)
theorem Zmj (h:P.underlying t=some d): ∃i,P.info? t=some i/\i.size=P.cellsOf t:=by
 grind[Program.underlying,Program.cellsOf]
theorem Zl (w:World) (h:P.underlying t=some d):(underlying t).run P w= .ok d w:=by
 simp[underlying,h]
theorem rq (w:World) (h:P.underlying t=some d):(sizeOf t).run P w= .ok (P.cellsOf t) w:=by
 have⟨i,h1,h2⟩:=Zmj h;simp[sizeOf,typeInfo,h1,h2]
theorem IG (w:World) (h:P.underlying t=some d):(isAgg t).run P w= .ok (jv P t) w:=by
 rw[isAgg,Sem.run_bind,Zl w h,Result.andThen_ok,jv,h];cases d<;>rfl
theorem UC (w:World) (h:nD P t=some z): ∃v,(zeroValue t).run P w= .ok v w/\(∀(C:bE) ψ,bH C ψ z v.cells.toList)/\z.all one=true:=by
 unfold nD at h;split at h
 .rename_i i hi
  split at h
  .rename_i v hv
   refine⟨v,by simp[zeroValue,typeInfo,hi,hv],λC ψ=>(F9 h).1,?_⟩;exact(F9 (C:=⟨P,id,λ_=>true,id,id,λ_=>true,λ_=>[],λ_=>false⟩) (ψ:=λ_=>none) h).2
  .cases h
 .cases h
theorem Zrh {b:Nat} {fr:Nat×Nat} {cells:ah} (hb:w.heap[b]? =some (.cells c ty fr)) (hf:fr=(0,0)\/c.size<=fr.1)
  (hr:bH C ψ cells (c.toList.take cells.length)) (ho:cells.all one=true):Holds C ψ w ⟨b,0,c.size⟩ (.cells false cells):=by
 have hl:cells.length<=c.size:=by
  have:=hr.len;grind
 refine⟨hl,ho,λj d hd=>?_,λ_=>⟨c,ty,fr,hb,Do,λj hj=>?_⟩⟩
 .have⟨v,hv,kZ⟩:=hr.get hd
  refine⟨v,?_,kZ⟩;rw[xR]at hv;split at hv
  .rw[cell_of_row w b _ c ty fr hb];simpa using hv
  .cases hv
 grind
theorem Zyv (a:Act) (t:Nat):a.eval (.tmp t)=a.tmps.getD t undef:=rfl
variable {K:Env->M β}
section
variable {C:bE} {o:Oper} {D W:dN->Prop} {E:Env} {s:St} {md:Md} {pr ms:al}
theorem cj.adk (iZ:Spec pr o) (bx: ∀h,W h->D h) (t:Nat) (ht:o.dst=some t) (e:eZ) (ab:AB)
  (he:(∃n cells,e= .loc E.bW n cells/\ab= .cells false cells/\cells.length=n)\/(∃l p,e= .it E.bW l p/\ab= .iter l p))
  (hk:K ⟨E.bW+1,(t,e)::E.l⟩ s=some r)
  (ec: ∀ψ Q a w,aA C o D E s ψ Q a w->∃w' cb,(execOp a.eval o).run C.P w= .ok (.value (.pointer (some ⟨cb.b,0,none⟩))) w'/\hY w w'/\w.heap.size<=cb.b/\cb.b<w'.heap.size/\
   cb.o=0/\Holds C ψ w' cb ab):cj C md pr ms o D W E s K r:=by
 have hv:e.dr=some E.bW:=by rcases he with⟨n,c,rfl,_⟩|⟨l,p,rfl,_⟩<;>rfl
 have get: ∀u,(⟨E.bW+1,(t,e)::E.l⟩:Env).get u=if t=u then e else E.get u:=λu=>Env.ahG _ _ _ _ _
 have crn: ∀df,CR ⟨E.bW+1,(t,e)::E.l⟩ s (.inr E.bW) df->jJ E->df=ab:=by
  intro df c hE;rcases c with⟨u,n,cs,h,gf⟩|⟨u,l,p,h,gf⟩<;>rw[get]at h<;>split at h
  .grind
  .have:=hE.lt u E.bW (by rw[h];rfl);omega
  .grind
  .have:=hE.lt u E.bW (by rw[h];rfl);omega
 have cro: ∀h df,CR ⟨E.bW+1,(t,e)::E.l⟩ s h df->h≠ .inr E.bW->CR E s h df:=by
  intro h df c dQ;cases h with
  |inl i=>exact c
  |inr v=>
   rcases c with⟨u,n,cs,h,gf⟩|⟨u,l,p,h,gf⟩<;>rw[get]at h<;>split at h
   .rw[h]at hv;grind
   .exact .inl ⟨u,n,cs,h,gf⟩
   .rw[h]at hv;grind
   .exact .inr ⟨u,l,p,h,gf⟩
 have iL:xY E s ⟨E.bW+1,(t,e)::E.l⟩ s (.inr E.bW):=⟨by simp[eC],by simp[eC]⟩;refine .inl ⟨_,_,hk,⟨aM _,Do,λhE=>⟨?_,?_,?_,?_⟩,?_,(λu d _ h=>by
   rw[get]at h;grind),?_,?_,?_,?_,λ_ _ _=>rfl,.inr iZ,.inl rfl⟩,?_⟩
 .intro u v h
  rw[get]at h;split at h
  .rw[hv]at h;cases h;simp
  .have:=hE.lt u v h;simp only;omega
 .intro u x v n h
  rw[get]at h;split at h
  .rw[h]at hv;cases hv
  .have:=hE.pl u x v n h;simp only;omega
 .intro u v n cs h
  rw[get]at h;split at h
  .grind
  .exact hE.len u v n cs h
 .intro u u' v h h'
  rw[get]at h h';split at h<;>split at h'
  .omega
  .rw[hv]at h;cases h;have:=hE.lt u' _ h';omega
  .rw[hv]at h';cases h';have:=hE.lt u _ h;omega
  .exact hE.uniq u u' v h h'
 .grind
 .grind
 .grind
 .grind
 .grind
 .intro ψ Q a w next QQ p room hn
  have⟨w',cb,hr,hm,h1,h2,h0,hh⟩:=ec ψ Q a w p;have hf:=room _ iL;unfold Oper.wp;rw[hr];refine hn _ _ _ w' ⟨fC.new (cb:=cb) (ab:=ab) p.fh p.gO hm hf h1 (hh.same (λ_ _ e=>wR hf _ _ e) rfl),Ext.new hm hf h1 h2,λh c e=>?_,λh df c cr hw e=>?_,λh df c e q _ _=>?_⟩ (λd' hd=>?_)
  .by_cases eh:h= .inr E.bW
   .grind
   .rw[pK _ _ eh]at e;exact .inl e
  .by_cases eh:h= .inr E.bW
   .subst eh;exact .inl ⟨rfl,crn _ cr p.gX⟩
   .refine .inr ⟨eh,?_⟩
    rw[pK _ _ eh]at e;rcases hw with hw|⟨n1,n2⟩
    .exact p.ko h df c (bx h hw) (cro h df cr eh) e
    .exact absurd ((cro h df cr eh).rQ p.gX) n1
  .refine .inr ⟨λeh=>?_,q⟩
   grind
  .rw[ht]at hd;cases hd
   rw[get,bG rfl];rcases he with⟨n',c',rfl,_,hl⟩|⟨l,p,rfl,_⟩
   .exact⟨cb,ri _ _ _,h0,rfl⟩
   .exact⟨cb,ri _ _ _,rfl⟩
theorem cj.newVar (xc:(∃t,o.op= .alloc t)\/(∃t y,o.op= .box t y)) (bx: ∀h,W h->D h) {cells:ah} (hlen:cells.length=n) (h:NW pr o n cells E K s=some r)
  (ec: ∀ψ Q a w,aA C o D E s ψ Q a w->∃w' cb,(execOp a.eval o).run C.P w= .ok (.value (.pointer (some ⟨cb.b,0,none⟩))) w'/\hY w w'/\w.heap.size<=cb.b/\cb.b<w'.heap.size/\
   cb.o=0/\Holds C ψ w' cb (.cells false cells)):cj C md pr ms o D W E s K r:=by
 unfold NW at h;cases ht:o.dst with
 |none=>rw[ht]at h;cases h
 |some t=>
  rw[ht]at h;simp only at h;cases hp:has pr t with
  |true=>
   rw[hp]at h;simp only[ae]at h;exact cj.adk (by rcases xc with⟨t,ho⟩|⟨t,y,ho⟩<;>(grind[Spec])) bx t ht _ _ Fd h ec
  |false=>
   rw[hp]at h;simp only[af]at h;refine cj.Ly (by rcases xc with⟨t,ho⟩|⟨t,y,ho⟩<;>(grind[tZ])) bx (.ptr (some (s.length,0))) cells (by simpa [cJ,Env.fu,ht,ck]using h) λψ Q a w p=>?_
   have⟨w',cb,hr,hm,h1,h2,h0,hh⟩:=ec ψ Q a w p;refine⟨_,w',cb,hr,hm,h1,h2,hh,λψ' _ e=>?_⟩;have:=VR.ptr (C:=C) (ψ:=ψ') s.length 0 cb e;rwa [h0]at this
theorem UX (t:TypeId) (v:Value) (w:World):(newVar t v).run P w= .ok ⟨w.heap.size,0,none⟩ (w.alloc (.cells v.cells t)):=by
 simp[newVar,newRow]
theorem ZoL (ho:o.op= .move y\/o.op= .assign y) (bx: ∀h,W h->D h) (h:Bs E o K (E.src C y) s=some r):cj C md pr ms o D W E s K r:=by
 refine cj.pure bx (E.src C y) (Env.LO C E y) (λhE r v n h=>Env.FE C hE h) h λψ Q a w p=>⟨a.eval y,w,?_,.refl w,p.src ?_⟩
 .rcases ho with ho|ho<;>simp[execOp,ho]
 .rcases ho with ho|ho<;>simp[Op.operands,ho]
theorem Zwf {b z:Operand} (ho:o.op= .pick b y z) (bx: ∀h,W h->D h) (h:WZ C E o K b y z s=some r):cj C md pr ms o D W E s K r:=by
 unfold WZ at h;have⟨t,hb,h⟩:=UL h;have Kh: ∀ψ Q a w,aA C o D E s ψ Q a w->a.eval b= .bool t:=λψ Q a w p=>by
  have:=p.val (x:=b) (by simp[Op.operands,ho]) hb;generalize a.eval b=v at this;cases this;rfl
 cases t with
 |true=>
  refine cj.pure bx (E.src C y) (Env.LO C E y) (λhE r v n h=>Env.FE C hE h) h λψ Q a w p=>⟨a.eval y,w,?_,.refl w,p.src (by simp[Op.operands,ho])⟩
  simp[execOp,ho,Kh ψ Q a w p,asBool]
 |false=>
  refine cj.pure bx (E.src C z) (Env.LO C E z) (λhE r v n h=>Env.FE C hE h) h λψ Q a w p=>⟨a.eval z,w,?_,.refl w,p.src (by simp[Op.operands,ho])⟩
  simp[execOp,ho,Kh ψ Q a w p,asBool]
theorem Gg {cells:ah} (hr:bH C ψ cells (c.toList.take cells.length)) (ho:cells.all one=true):
  Holds C ψ (w.alloc (.cells c t)) ⟨w.heap.size,0,c.size⟩ (.cells false cells):=
 Zrh (heap_alloc_new w _) (.inl rfl) hr ho
theorem Jk {l:List α} (h:n=l.length):l.take n=l:=by subst h;simp
theorem ZuP (ho:o.op= .alloc t) (bx: ∀h,W h->D h) (h:Wd C E o K pr t s=some r):cj C md pr ms o D W E s K r:=by
 unfold Wd at h;cases hz:nD C.P t with
 |none=>rw[hz]at h;cases h
 |some z=>
  rw[hz]at h;simp only at h;have⟨hl,h⟩:=Zt h;refine cj.newVar (.inl ⟨t,ho⟩) bx (dP hl) h λψ Q a w p=>?_
  have⟨v,hv,hr,h1⟩:=UC w hz;refine⟨w.alloc (.cells v.cells t),⟨w.heap.size,0,v.cells.size⟩,?_,.alloc w _,aM _,Do,rfl,?_⟩
  .simp[execOp,ho,Instr.alloc,hv,UX]
  .exact Gg (by rw[Jk (by simpa using (hr C ψ).len)];exact hr C ψ) h1
theorem ZnP {d:DV} {K:ah->M β} (h:N4 P t d K s=some r):
  ∃ds td,P.underlying t=some td/\K ds s=some r/\ds.length=P.cellsOf t/\∀(C:bE) ψ v,VR C ψ d v->bH C ψ ds v.cells.toList/\ds.all one=true/\v.cells.size=P.cellsOf t:=by
 unfold N4 at h;have⟨td,Y2,h⟩:=qu h;cases ha:jv P t with
 |true=>
  rw[ha]at h;simp only[ae]at h;cases d with
  |agg cs=>
   have⟨hl,h⟩:=VK h;refine⟨cs,td,Y2,h,hl,λC ψ v hv=>?_⟩;cases hv with
   |agg _ vs a b=>exact⟨a,b,by rw[<-hl,a.len];simp[Value.cells]⟩
  |_=>cases h
 |false=>
  rw[ha]at h;simp only[af]at h;have⟨hc,h⟩:=Zt h;have⟨h1,h⟩:=mC h;have hc:=dP hc;refine⟨[d],td,Y2,h,by simp[hc],λC ψ v hv=>?_⟩;rw[hv.abM h1];exact⟨.cons _ _ _ _ hv .nil,by simp[h1],by simp[hc]⟩
theorem ZxP (ho:o.op= .box t y) (bx: ∀h,W h->D h) (h:aaB C E o K pr t y s=some r):cj C md pr ms o D W E s K r:=by
 unfold aaB at h;have⟨d,hd,h⟩:=Zw h;have⟨ds,td,Y2,h,hl,hv⟩:=ZnP h;refine cj.newVar (.inr ⟨t,y,ho⟩) bx hl h λψ Q a w p=>?_
 have⟨h1,h2,h3⟩:=hv C ψ _ (p.val (x:=y) (by simp[Op.operands,ho]) hd);refine⟨w.alloc (.cells (a.eval y).cells t),⟨w.heap.size,0,(a.eval y).cells.size⟩,?_,.alloc w _,aM _,Do,rfl,?_⟩
 .simp[execOp,ho,Instr.box,UX]
 .exact Gg (by rw[Jk (by simpa using h1.len)];exact h1) h2
theorem Zqf (ho:o.op= .nilCheck y) (bx: ∀h,W h->D h) (h:UT C E o K y s=some r):cj C md pr ms o D W E s K r:=by
 unfold UT at h;rcases IX h with⟨t,v,n,he,h⟩|⟨i,n,he,h⟩
 .refine cj.pure bx (.pl t v n) rfl (λhE r v' n' e=>by cases e;exact Env.FE C hE he) h λψ Q a w p=>⟨a.eval y,w,?_,.refl w,?_⟩
  .have:=p.src (x:=y) (by simp[Op.operands,ho])
   rw[he]at this;have⟨cb,_,_,h3⟩:=this;simp[execOp,ho,h3]
  .have:=p.src (x:=y) (by simp[Op.operands,ho])
   rw[he]at this;exact this
 .refine cj.val bx (.ptr (some (i,n))) h λψ Q a w p=>⟨a.eval y,w,?_,.refl w,?_⟩
  .have:=p.val (x:=y) (by simp[Op.operands,ho]) he
   generalize hx:a.eval y=x at this;cases this;simp[execOp,ho,hx]
  .exact p.val (x:=y) (by simp[Op.operands,ho]) he
theorem Zy1 {op:UnOp} (ho:o.op= .unOp op t y) (bx: ∀h,W h->D h) (h:aaD C E o K op y s=some r):cj C md pr ms o D W E s K r:=by
 unfold aaD at h;have⟨d,hd,h⟩:=Zw h;unfold unK at h;split at h
 .refine cj.val bx _ h λψ Q a w p=>?_
  have:=p.val (x:=y) (by simp[Op.operands,ho]) hd;generalize hx:a.eval y=x at this;cases this;exact⟨_,w,by simp[execOp,ho,hx,Op.unary],.refl w,.bool _⟩
 .refine cj.val bx _ h λψ Q a w p=>?_
  have:=p.val (x:=y) (by simp[Op.operands,ho]) hd;generalize hx:a.eval y=x at this;cases this;exact⟨_,w,by simp[execOp,ho,hx,Op.unary,Op.intArith],.refl w,.int _ _⟩
 .cases h
theorem Zuw (ho:o.op= .makeInterface t y) (bx: ∀h,W h->D h) (h:Wz C E o K t y s=some r):cj C md pr ms o D W E s K r:=by
 unfold Wz at h;cases ht:C.P.underlying t with
 |none=>rw[ht]at h;cases h
 |some td=>
  have KJ: ∀m,td≠ .interface m:=by rintro m rfl;rw[ht]at h;cases h
  have h':fH C E y (λd=>cJ E o K (.iface (C.ty t) d)) s=some r:=by rw[ht]at h;cases td<;>first|exact h|grind
  have⟨d,hd,h'⟩:=Zw h';refine cj.val bx _ h' λψ Q a w p=>⟨.iface t (a.eval y),w,?_,.refl w,.iface _ _ _ (p.val (x:=y) (by simp[Op.operands,ho]) hd)⟩
  simp only[execOp,ho,Instr.makeInterface,Sem.run_bind,Zl w ht,Result.andThen_ok];cases td<;>first|rfl|exact absurd rfl (KJ _)
theorem Zv0 {f:Fn} (ho:o.op= .makeFunc f first cap) (bx: ∀h,W h->D h) (h:WW C E o K f first cap s=some r):cj C md pr ms o D W E s K r:=by
 unfold WW at h;cases f with
 |func f=>
  simp only at h;have⟨hc,h⟩:=Zt h;have⟨fs,h,h1⟩:=IF h;have⟨cs,h,h2⟩:=IF h;refine cj.val bx _ h λψ Q a w p=>⟨.func (.func f) (first.map a.eval) (cap.map a.eval),w,by simp[execOp,ho,Instr.makeFunc],.refl w,.func _ _ _ _ _ hc ?_ ?_⟩
  .have:=Jj p (l:=first.toList) (λx hx=>by simp only[Op.operands,ho,Array.mem_append];grind) h1
   simpa using this
  .have:=Jj p (l:=cap.toList) (λx hx=>by simp only[Op.operands,ho,Array.mem_append];grind) h2
   simpa using this
 |_=>cases h
theorem Zr8 {t:Nat} (ho:o.op= .extract (.tmp t) i) (bx: ∀h,W h->D h) (h:Vy E o K t i s=some r):cj C md pr ms o D W E s K r:=by
 unfold Vy at h;cases he:E.get t with
 |qR ds=>
  rw[he]at h;simp only at h;cases hd:ds[i]? with
  |none=>rw[hd]at h;cases h
  |some d=>
   rw[hd]at h;refine cj.val bx d h λψ Q a w p=>?_
   have:=p.args t (by simp[Op.operands,ho]);rw[he]at this;have⟨vs,oL,hr⟩:=this;have⟨v,hv,hr⟩:=hr.get hd;refine⟨v,w,?_,.refl w,hr⟩;have fg:vs[i]? =some v:=by simpa using hv
   simp[execOp,ho,Zyv,oL,Instr.extract,fg]
 |_=>rw[he]at h;cases h
end
section
variable {C:bE} {o:Oper} {D W:dN->Prop} {E:Env} {s:St} {md:Md} {pr ms:al}
theorem wK (P:Program) (a:Addr) (w:World):(Instr.sureAddr (.pointer (some a))).run P w= .ok a w:=rfl
theorem Zpu {f:Nat} (ho:o.op= .fieldAddr t y f) (bx: ∀h,W h->D h) (h:MK C E o K t y f s=some r):cj C md pr ms o D W E s K r:=by
 unfold MK at h;cases ht:C.P.underlying t with
 |none=>rw[ht]at h;cases h
 |some td=>
  rw[ht]at h;cases td with
  |struct fs=>
   simp only at h;cases hf:fs[f]? with
   |none=>rw[hf]at h;cases h
   |some fd=>
    rw[hf]at h;simp only at h;have⟨hc,h⟩:=IE h;have hc:=Mg hc;have cL: ∀w,(sizeOf fd.type).run C.P w= .ok (C.P.cellsOf fd.type) w:=by
     intro w;unfold Program.cellsOf at hc⊢;cases hi:C.P.info? fd.type with
     |none=>rw[hi]at hc;simp at hc
     |some i=>simp[sizeOf,typeInfo,hi]
    have run: ∀(a:Act) (w:World) b n,a.eval y= .pointer (some ⟨b,n,none⟩)->(execOp a.eval o).run C.P w= .ok (.value (.pointer (some ⟨b,n+fd.offset,none⟩))) w:=by
     intro a w b n hy;simp[execOp,ho,hy,Instr.fieldAt,Zl w ht,hf,wK,fieldPlace,cL,hc,Cb]
    rcases IX h with⟨x,v,n,he,h⟩|⟨i,n,he,h⟩
    .refine cj.pure bx _ rfl (λhE r v' n' e=>by cases e;exact Env.FE C hE he) h λψ Q a w p=>?_
     have:=p.src (x:=y) (by simp[Op.operands,ho]);rw[he]at this;have⟨cb,h1,h2,h3⟩:=this;exact⟨_,w,run a w _ _ h3,.refl w,cb,h1,h2,rfl⟩
    .refine cj.val bx _ h λψ Q a w p=>?_
     have:=p.val (x:=y) (by simp[Op.operands,ho]) he;generalize hy:a.eval y=v at this;cases this with
     |ptr _ _ cb e=>exact⟨_,w,run a w _ _ hy,.refl w,by rw[uZ];exact .ptr _ _ cb e⟩
  |_=>cases h
theorem MJ (P:Program) (k:IntKind) (n:Int) (w:World):(asIntOf (.int k n)).run P w= .ok (k,n) w:=rfl
theorem Jt {n:Int} (h:aP n m=true):0<=n/\n<m:=by
 simp only[aP,aY,z8]at h;exact h
theorem ZpV {i:Operand} (ho:o.op= .indexAddr t y i) (bx: ∀h,W h->D h) (h:TQ C E o K t y i s=some r):cj C md pr ms o D W E s K r:=by
 unfold TQ at h;have⟨k,n,hi,h⟩:=Gq h;have iv: ∀ψ Q a w,aA C o D E s ψ Q a w->a.eval i= .int k n:=λψ Q a w p=>by
  have:=p.val (x:=i) (by simp[Op.operands,ho]) hi;generalize a.eval i=v at this;cases this;rfl
 cases ht:C.P.underlying t with
 |none=>rw[ht]at h;cases h
 |some td=>
  rw[ht]at h;cases td with
  |slice e=>
   simp only at h;have⟨ed,he,h⟩:=qu h;have⟨d,hd,h⟩:=Zw h;cases d with
   |slice z a m=>
    simp only at h;have⟨hz,h⟩:=Zt h;obtain⟨j,p0,rfl,h⟩:=WI h;have⟨hb,h⟩:=mC h;have⟨kT,dh⟩:=Jt hb;simp only[Option.isNone_some,Bool.or_false]at hz;have hz:=dP hz;refine cj.val bx _ h λψ Q a w p=>?_
    have hv:=p.val (x:=y) (by simp[Op.operands,ho]) hd;generalize hy:a.eval y=v at hv;cases hv with
    |slice _ _ _ _ cb ad cap e1 e2 e3=>
     have⟨e4,e5⟩:=e3 AC;refine⟨.pointer (some ⟨cb.b,cb.o+(n.toNat*C.P.cellsOf e+p0),none⟩),w,?_,.refl w,.ptr _ _ cb e1⟩;rw[tX _ p0];simp[execOp,ho,hy,iv ψ Q a w p,Instr.indexAt,Zl w ht,MJ,kT,dh,rq w he,e4,Cb,uZ]
   |_=>cases h
  |array m e=>
   simp only at h;have⟨ed,he,h⟩:=qu h;have run: ∀ψ Q (a:Act) (w:World) b p0,aA C o D E s ψ Q a w->a.eval y= .pointer (some ⟨b,p0,none⟩)->0<=n->n<m->
     (execOp a.eval o).run C.P w= .ok (.value (.pointer (some ⟨b,p0+n.toNat*C.P.cellsOf e,none⟩))) w:=by
    intro ψ Q a w b p0 p hy kT dh;simp[execOp,ho,hy,iv ψ Q a w p,Instr.indexAt,Zl w ht,MJ,kT,dh,wK,rq w he,Cb]
   rcases IX h with⟨x,v,p0,hx,h⟩|⟨x,p0,hx,h⟩
   .have⟨hb,h⟩:=mC h
    have⟨kT,dh⟩:=Jt hb;refine cj.pure bx _ rfl (λhE r v' n' e=>by cases e;exact Env.FE C hE hx) h λψ Q a w p=>?_
    have:=p.src (x:=y) (by simp[Op.operands,ho]);rw[hx]at this;have⟨cb,h1,h2,h3⟩:=this;exact⟨_,w,run ψ Q a w _ _ p h3 kT dh,.refl w,cb,h1,h2,by rw[tX]⟩
   .have⟨hb,h⟩:=mC h
    have⟨kT,dh⟩:=Jt hb;refine cj.val bx _ h λψ Q a w p=>?_
    have:=p.val (x:=y) (by simp[Op.operands,ho]) hx;generalize hy:a.eval y=v at this;cases this with
    |ptr _ _ cb e1=>exact⟨_,w,run ψ Q a w _ _ p hy kT dh,.refl w,by rw[tX _ p0,uZ];exact .ptr _ _ cb e1⟩
  |_=>cases h
theorem ZtN (w:World) (h:P.underlying t=some d) (ha:jv P t=true) (cs:Array Value) (off:Nat):
  (Go.part t cs off).run P w= .ok (.agg (cs.extract off (off+P.cellsOf t))) w:=by
 simp[Go.part,IG w h,ha,rq w h]
theorem ZsP (w:World) (h:P.underlying t=some d) (ha:jv P t=false) {cs:Array Value} (hv:cs[off]? =some v):
  (Go.part t cs off).run P w= .ok v w:=by
 simp[Go.part,IG w h,ha,hv]
theorem Zun (h:bH C ψ ds vs.toList) (off n:Nat):bH C ψ ((ds.drop off).take n) (vs.extract off (off+n)).toList:=by
 have:=(h.drop off).take n;rw[Array.toList_extract,QF];simpa using this
theorem Wu (h:cs.all one=true):((cs.drop off).take n).all one=true:=
 Fd
theorem ZsX (ht:C.P.underlying t=some td) (bx: ∀h,W h->D h)
  (h:(bif jv C.P t then cJ E o K (.agg ((cs.drop off).take (C.P.cellsOf t)))else Go.Gv.eS cs off λd=>AM (nv C.P t) d (cJ E o K)) s=some r)
  (ec: ∀ψ Q a w,aA C o D E s ψ Q a w->∃vs,bH C ψ cs vs.toList/\cs.all one=true/\(∀v,(Go.part t vs off).run C.P w= .ok v w->(execOp a.eval o).run C.P w= .ok (.value v) w)):cj C md pr ms o D W E s K r:=by
 cases ha:jv C.P t with
 |true=>
  rw[ha]at h;refine cj.val bx _ h λψ Q a w p=>?_
  have⟨vs,h1,h2,h3⟩:=ec ψ Q a w p;exact⟨_,w,h3 _ (ZtN w ht ha vs off),.refl w,.agg _ _ (Zun h1 _ _) (Wu h2)⟩
 |false=>
  rw[ha]at h;simp only[af]at h;have⟨d,hd,h⟩:=NQ h;have⟨d',h,hr,_⟩:=NP h;refine cj.val bx _ h λψ Q a w p=>?_
  have⟨vs,h1,h2,h3⟩:=ec ψ Q a w p;have⟨v,hv,kZ⟩:=h1.get hd;exact⟨v,w,h3 _ (ZsP w ht ha (by simpa using hv)),.refl w,hr C ψ v kZ⟩
theorem ZuI {f:Nat} (ho:o.op= .field t y f) (bx: ∀h,W h->D h) (h:V8 C E o K t y f s=some r):cj C md pr ms o D W E s K r:=by
 unfold V8 at h;cases ht:C.P.underlying t with
 |none=>rw[ht]at h;cases h
 |some td=>
  rw[ht]at h;cases td with
  |struct fs=>
   simp only at h;cases hf:fs[f]? with
   |none=>rw[hf]at h;cases h
   |some fd=>
    rw[hf]at h;simp only at h;have⟨ed,he,h⟩:=qu h;have⟨d,hd,h⟩:=Zw h;cases d with
    |agg cs=>
     refine ZsX he bx h λψ Q a w p=>?_
     have hv:=p.val (x:=y) (by simp[Op.operands,ho]) hd;generalize hy:a.eval y=v at hv;cases hv with
     |agg _ vs h1 h2=>exact⟨vs,h1,h2,λv hp=>by simp[execOp,ho,hy,Instr.field,Zl w ht,hf,asAgg,hp]⟩
    |_=>cases h
  |_=>cases h
theorem Zx4 (s:ByteArray) (i:Nat):s[i]? =s.data.toList[i]? :=by
 rcases kz i s.data.toList.length with h|h
 .have h':i<s.size:=by rw[oU]at h;exact h
  rw[cu h,getElem?_pos s i h',ByteArray.getElem_eq_getElem_data,Array.getElem_toList]
 simp_all
theorem Zux {i:Operand} (ho:o.op= .index t y i) (bx: ∀h,W h->D h) (h:V7 C E o K t y i s=some r):cj C md pr ms o D W E s K r:=by
 unfold V7 at h;have⟨k,n,hi,h⟩:=Gq h;have⟨d,hd,h⟩:=Zw h;have iv: ∀ψ Q a w,aA C o D E s ψ Q a w->a.eval i= .int k n:=λψ Q a w p=>by
  have:=p.val (x:=i) (by simp[Op.operands,ho]) hi;generalize a.eval i=v at this;cases this;rfl
 cases ht:C.P.underlying t with
 |none=>rw[ht]at h;cases h
 |some td=>
  rw[ht]at h;cases td with
  |string=>
   cases d with
   |str l=>
    simp only at h;have⟨hb,h⟩:=mC h;have⟨kT,dh⟩:=Jt hb;refine cj.val bx _ h λψ Q a w p=>?_
    have hv:=p.val (x:=y) (by simp[Op.operands,ho]) hd;generalize hy:a.eval y=v at hv;cases hv with
    |str x=>
     have hg:x[n.toNat]? =some x.data.toList[n.toNat]:=by rw[Zx4];grind
     refine⟨.int .u8 (ZV x.data.toList n),w,?_,.refl w,.int _ _⟩;simp only[execOp,ho,hy,iv ψ Q a w p,Instr.index,Sem.run_bind,MJ,Zl w ht,Result.andThen_ok,kT,mV,hg,Sem.run_pure,ZV];grind
   |_=>cases h
  |array m e=>
   cases d with
   |agg cs=>
    simp only at h;have⟨ed,he,h⟩:=qu h;have⟨hb,h⟩:=mC h;have⟨kT,dh⟩:=Jt hb;refine ZsX he bx h λψ Q a w p=>?_
    have hv:=p.val (x:=y) (by simp[Op.operands,ho]) hd;generalize hy:a.eval y=v at hv;cases hv with
    |agg _ vs h1 h2=>exact⟨vs,h1,h2,λv hp=>by simp[execOp,ho,hy,iv ψ Q a w p,Instr.index,MJ,Zl w ht,kT,dh,rq w he,hp]⟩
   |_=>cases h
  |_=>cases d<;>cases h
end
theorem W3 {y:B} (h:nv P t= .b y):jv P t=false:=by
 grind[nv]
theorem Zs0 {l:List B} (h:nv P t= .agg l):jv P t=true:=by
 grind[nv]
theorem Nj {d:DV} (h:Holds C ψ w cb (.cells f cs)) (hd:cs[p]? =some d):
  ∃v,(load ⟨cb.b,cb.o+p,none⟩).run P w= .ok v w/\VR C ψ d v/\one d=true:=by
 have⟨v,hv,hr⟩:=h.2.2.1 p d hd;exact⟨v,by rw[run_load,hv],hr,wF.1 h.2.1 _ (sD hd)⟩
theorem Zm1 (h:Holds C ψ w cb (.cells f cs)) (hn:p+n<=cs.length):
  ∃vs,(∀w',w'.heap=w.heap->(loadCells ⟨cb.b,cb.o+p,none⟩ n).run P w'= .ok vs w')/\vs.size=n/\bH C ψ ((cs.drop p).take n) vs.toList/\((cs.drop p).take n).all one=true:=by
 have hc: ∀j,j<n->∃v,w.cell? ⟨cb.b,cb.o+p+j,none⟩=some v/\∀d,cs[p+j]? =some d->VR C ψ d v:=by
  intro j hj;have⟨v,hv,hr⟩:=h.2.2.1 (p+j) cs[p+j] Do;grind
 let f:Nat->Value:=λj=>(w.cell? ⟨cb.b,cb.o+p+j,none⟩).getD undef
 have hf: ∀w':World,w'.heap=w.heap->∀j,j<n->w'.cell? ((⟨cb.b,cb.o+p,none⟩:Addr).add j)=some (f j):=by
  intro w' hw j hj;have⟨v,hv,_⟩:=hc j hj;have e:w'.cell? ((⟨cb.b,cb.o+p,none⟩:Addr).add j)=w.cell? ((⟨cb.b,cb.o+p,none⟩:Addr).add j):=by simp only[World.cell?,hw]
  rw[e,Cb,hv];simp[f,hv]
 refine⟨_,λw' hw=>run_loadCells w' _ n f (hf w' hw),Do,bH.of _ _ ?_ ?_,Wu h.2.1⟩
 .simp;omega
 grind
theorem MN (h:Holds C ψ w cb (.cells f cs)) (hn:p+n<=cs.length:=by omega):
  ∃vs,(loadCells ⟨cb.b,cb.o+p,none⟩ n).run P w= .ok vs w/\vs.size=n/\bH C ψ ((cs.drop p).take n) vs.toList/\((cs.drop p).take n).all one=true:=
 let ⟨vs,a,b⟩:=Zm1 (P:=P) h hn
 ⟨vs,a w rfl,b⟩
section
variable {C:bE} {o:Oper} {D W:dN->Prop} {E:Env} {s:St} {md:Md} {pr ms:al}
theorem MC (ht:P.underlying t=some td) (ha:jv P t=true) (a:Addr) (w:World) (h:(loadCells a (P.cellsOf t)).run P w= .ok vs w):
  (loadVar t a).run P w= .ok (.agg vs) w:=by
 simp[loadVar,IG w ht,ha,rq w ht,h]
theorem IA (ht:P.underlying t=some td) (ha:jv P t=false) (a:Addr) (w:World) (h:(load a).run P w= .ok v w):
  (loadVar t a).run P w= .ok v w:=by
 rw[loadVar,Sem.run_bind,IG w ht,ha];simpa using h
theorem ZzI (hn:cs.length=n):part n cs p m=(cs.drop p).take m:=by
 unfold part;cases h:Nat.beq m n&&Nat.beq p 0 with
 |false=>rfl
 |true=>
  simp only[aY]at h;have h1:=dP h.2;have h2:=dP h.1;grind
theorem Ws (hn:cs.length=n) (hd:ds.length=m) (hp:p+m<=n):zK n m cs p ds=cG cs p ds:=by
 unfold zK;cases h:Nat.beq m n&&Nat.beq p 0 with
 |false=>rfl
 |true=>
  simp only[aY]at h;have h1:=dP h.2;have h2:=dP h.1;subst h1;subst h2;subst hn;rw[ae];apply tU;intro j;rw[Ju cs 0 ds j AC];by_cases hj:j<ds.length
  .rw[bG AC];simp
  grind
theorem I6 {K:ah->M β} (h:bX i p n K s=some r): ∃f cs,dD s i=some (.cells f cs)/\p+n<=cs.length/\K ((cs.drop p).take n) s=some r:=by
 unfold bX at h;unfold St.cells at h;unfold dD;cases hs:s[i]? with
 |none=>rw[hs]at h;cases h
 |some x=>
  cases x with
  |none=>rw[hs]at h;cases h
  |some b=>
   rw[hs]at h;simp only at h;cases hb:Nat.ble (p+n) b.cells.length with
   |false=>rw[hb]at h;cases h
   |true=>rw[hb]at h;exact⟨_,_,rfl,qY hb,h⟩
theorem ZoO {K:DV->M β} (h:bD i p K s=some r): ∃f cs d,dD s i=some (.cells f cs)/\cs[p]? =some d/\K d s=some r:=by
 unfold bD at h;unfold St.cells at h;unfold dD;cases hs:s[i]? with
 |none=>rw[hs]at h;cases h
 |some x=>
  cases x with
  |none=>rw[hs]at h;cases h
  |some b=>
   rw[hs]at h;grind
theorem aA.at {a:Act} (p:aA C o D E s ψ Q a w) (hD:D (.inl i)) (h:dD s i=some ab) (e:ψ (.inl i)=some cb):Holds C ψ w cb ab:=
 p.fh.holds _ cb ab e (p.ko (.inl i) ab cb hD h e)
theorem aA.loc {a:Act} (p:aA C o D E s ψ Q a w) {t v:Nat} (hD:D (.inr v)) (h:E.get t= .loc v n cs) (e:ψ (.inr v)=some cb):Holds C ψ w cb (.cells false cs):=
 p.fh.holds _ cb _ e (p.ko (.inr v) _ cb hD (.inl ⟨t,n,cs,h,rfl⟩) e)
theorem Zwu {x:Operand} (ho:o.op= .load t x) (bx: ∀h,W h->D h) (hDl: ∀r v,md.loc r=true->(E.get r).dr=some v->D (.inr v)) (XB:md.OD=true->∀i p,E.src C x= .v (.ptr (some (i,p)))->D (.inl i)) (h:N6 C E o K md t x s=some r):cj C md pr ms o D W E s K r:=by
 unfold N6 at h;have⟨td,ht,h⟩:=qu h;rcases IX h with⟨y,v,p0,hx,h⟩|⟨i,p0,hx,h⟩
 .have⟨hm,h⟩:=Zt h
  have⟨n,cs,hl,h⟩:=ZnI h;have hD:=hDl y v hm (by rw[hl];rfl);have addr: ∀ψ Q a w,aA C o D E s ψ Q a w->∃cb,ψ (.inr v)=some cb/\cb.o=0/\a.eval x= .pointer (some ⟨cb.b,p0,none⟩):=λψ Q a w p=>by
   have:=p.src (x:=x) (by simp[Op.operands,ho]);rw[hx]at this;exact this
  cases hs:nv C.P t with
  |b y'=>
   rw[hs]at h;have⟨d,hd,h⟩:=NQ h;have⟨d',h,hr,_⟩:=N2 h;refine cj.val bx _ h λψ Q a w p=>?_
   have⟨cb,e1,e2,e3⟩:=addr ψ Q a w p;have⟨v,hv,mh,_⟩:=Nj (P:=C.P) (p.loc hD hl e1) hd;rw[e2,eJ]at hv;refine⟨v,w,?_,.refl w,hr C ψ v mh⟩;simp only[execOp,ho,e3,Instr.loadAt,Sem.run_bind,wK,Result.andThen_ok,IA ht (W3 hs) _ w hv,Sem.run_pure]
  |agg l=>
   rw[hs]at h;simp only at h;have⟨hb,h⟩:=mC h;have hb:=qY hb;refine cj.val bx _ h λψ Q a w p=>?_
   have hlen:=p.gX.len y v n cs hl;have⟨cb,e1,e2,e3⟩:=addr ψ Q a w p;have⟨vs,hv,_,mh,h1⟩:=MN (P:=C.P) (p.loc hD hl e1) (p:=p0) (n:=C.P.cellsOf t);rw[e2,eJ]at hv;refine⟨_,w,?_,.refl w,by rw[ZzI hlen];exact .agg _ vs mh h1⟩;simp only[execOp,ho,e3,Instr.loadAt,Sem.run_bind,wK,Result.andThen_ok,MC ht (Zs0 hs) _ w hv,Sem.run_pure]
 .have⟨hm,h⟩:=Zt h
  have hD:=XB hm i p0 hx;have addr: ∀ψ Q a w,aA C o D E s ψ Q a w->∃cb,ψ (.inl i)=some cb/\a.eval x= .pointer (some ⟨cb.b,cb.o+p0,none⟩):=λψ Q a w p=>by
   have:=p.val (x:=x) (by simp[Op.operands,ho]) hx;generalize a.eval x=y at this;cases this with
   |ptr _ _ cb e=>exact⟨cb,e,rfl⟩
  cases hs:nv C.P t with
  |b y'=>
   rw[hs]at h;have⟨f,cs,d,cd,hd,h⟩:=ZoO h;have⟨d',h,hr,_⟩:=N2 h;refine cj.val bx _ h λψ Q a w p=>?_
   have⟨cb,e1,e3⟩:=addr ψ Q a w p;have⟨v,hv,mh,_⟩:=Nj (P:=C.P) (p.at hD cd e1) hd;refine⟨v,w,?_,.refl w,hr C ψ v mh⟩;simp only[execOp,ho,e3,Instr.loadAt,Sem.run_bind,wK,Result.andThen_ok,IA ht (W3 hs) _ w hv,Sem.run_pure]
  |agg l=>
   rw[hs]at h;have⟨f,cs,cd,hb,h⟩:=I6 h;have⟨ds,h,_,hr,h1⟩:=IN h;refine cj.val bx _ h λψ Q a w p=>?_
   have⟨cb,e1,e3⟩:=addr ψ Q a w p;have⟨vs,hv,_,mh,h2⟩:=MN (P:=C.P) (p.at hD cd e1) hb;refine⟨_,w,?_,.refl w,.agg _ vs (hr C ψ _ mh) (h1 h2)⟩;simp only[execOp,ho,e3,Instr.loadAt,Sem.run_bind,wK,Result.andThen_ok,MC ht (Zs0 hs) _ w hv,Sem.run_pure]
structure BO (w w':World) (b:Nat):Prop where
 other: ∀k,k≠b->w'.heap[k]? =w.heap[k]?
 size:w'.heap.size=w.heap.size
 tape:w'.tape=w.tape
 os:w'.os=w.os
 output:vj w w'
theorem BO.ml (w:World) (b:Nat) (ob:Obj):BO w (ml w b ob) b:=
 ⟨λ_ h=>ZvY h ob,Qo w b ob,rfl,rfl,rfl,aM _⟩
theorem ZnO {vs:List Value} (h:Holds C ψ w cb (.cells false cs)) (hr:bH C ψ ds vs) (h1:ds.all one=true)
  (hp:p+ds.length<=cb.m) (ho:o'+cs'.length<=cb.m) (jg:cs'.all one=true)
  (hc: ∀j d,cs'[j]? =some d->(p<=o'+j/\o'+j<p+ds.length/\ds[o'+j-p]? =some d)\/((o'+j<p\/p+ds.length<=o'+j)/\cs[o'+j]? =some d)):
  ∃w',(storeCells ⟨cb.b,cb.o+p,none⟩ vs).run P w= .ok () w'/\BO w w' cb.b/\Holds C ψ w' ⟨cb.b,cb.o+o',cb.m-o'⟩ (.cells false cs'):=by
 have⟨c,ty,fr,hb,cL,dW⟩:=h.2.2.2 rfl;have hl:=hr.len;have ec:=RN P cb.b (cb.o+p) ty fr vs 0 w c hb (hr.adp h1) AC Fd;simp only[gQ]at ec;refine⟨_,ec,BO.ml w _ _,by simp only;omega,jg,λj d hd=>?_,λ_=>⟨_,ty,fr,Nk (Ja hb) _,by simp;omega,λj hj=>?_⟩⟩
 .dsimp only
  rw[cell_of_row _ _ _ _ ty fr (Nk (Ja hb) _),NS _ _ _ _ AC];rcases hc j d hd with⟨a1,a2,a3⟩|⟨a1,a2⟩
  .rw[bG ⟨AC,AC⟩]
   have⟨v,hv,mh⟩:=hr.get a3;grind
  .rw[bq AC]
   have⟨v,hv,mh⟩:=h.2.2.1 _ _ a2;rw[cell_of_row _ _ _ _ ty fr hb]at hv;grind
 .have:=dW (o'+j) (by simp only at hj;omega)
  rw[<-uZ]at this;exact this
theorem Zvk (h:cs.all one=true) (h':ds.all one=true) (hp:p+ds.length<=cs.length):(cG cs p ds).all one=true:=by
 refine wF.2 λx hx=>?_
 have⟨j,hj⟩:=FM hx;rw[Ju cs p ds j hp]at hj;grind
theorem Nd {vs:List Value} (h:Holds C ψ w cb (.cells false cs)) (hr:bH C ψ ds vs) (h1:ds.all one=true)
  (hp:p+ds.length<=cs.length):
  ∃w',(storeCells ⟨cb.b,cb.o+p,none⟩ vs).run P w= .ok () w'/\BO w w' cb.b/\Holds C ψ w' cb (.cells false (cG cs p ds)):=by
 have hm:=h.1;have e1:p+ds.length<=cb.m:=AC
 have e2:0+(cG cs p ds).length<=cb.m:=by rw[IZ];omega
 have⟨w',a,b,c⟩:=ZnO (P:=P) (cs':=cG cs p ds) (o':=0) h hr h1 e1 e2 (Zvk h.2.1 h1 hp) (λj d hd=>by
  rw[Ju cs p ds j hp]at hd;grind)
 simp_all
theorem U5 (h:s.gP i=some cs):dD s i=some (.cells false cs)/\i<s.length:=by
 grind[St.gP,dD]
theorem ZlU (h:i<s.length) (b:bO):dD (s.set i (some b)) i=some (.cells b.dU b.cells):=by simp[dD,h]
theorem ML (h:i≠j) (b:Option bO):dD (s.set i b) j=dD s j:=by grind[dD]
theorem cj.aaQ (bx: ∀h,W h->D h) (hW:W (.inl i)) (e:eZ) (hv:e.dr=none) (hp:jJ E->∀r v n,e= .pl r v n->v<E.bW)
  (hi:s.gP i=some cs) (hk:K (E.fu o.dst e) (s.set i (some ⟨false,cs'⟩))=some r)
  (ec: ∀ψ Q a w,aA C o D E s ψ Q a w->∃cb,ψ (.inl i)=some cb/\(Holds C ψ w cb (.cells false cs)->∃v w',((execOp a.eval o).run C.P w= .ok (.value v) w'\/(execOp a.eval o).run C.P w= .ok .skip w'/\v=undef)/\
   BO w w' cb.b/\Holds C ψ w' cb (.cells false cs')/\fV C ψ e v)):cj C md pr ms o D W E s K r:=by
 have⟨cd,aw⟩:=U5 hi;refine .inl ⟨_,_,hk,mY.put pr ms e hv hp Do (λj ab h=>?_) (λj h _=>?_) (.inl Do),?_⟩
 .by_cases e:j=i
  .subst e;exact .inl hW
  .rw[ML (λe'=>e e'.symm)]at h;exact .inr (.inr h)
 .grind
 intro ψ Q a w next QQ p room hn;have⟨cb,jh,hh⟩:=ec ψ Q a w p;have hq:Q (.inl i) (.cells false cs):=p.ko (.inl i) _ cb (bx _ hW) cd jh;have⟨v,w',hr,dp,C4,fg⟩:=hh (p.fh.holds _ cb _ jh hq);have post:Mq C D W E s (E.fu o.dst e) (s.set i (some ⟨false,cs'⟩)) ψ Q w ψ (zN Q (.inl i) (.cells false cs')) w':=by
  refine⟨fC.set p.fh jh hq rfl dp.other C4,Ext.set jh hq rfl dp.other dp.size dp.tape dp.os dp.output,λ_ _ e=> .inl e,λh ab c cr hw e'=>?_,λh ab c e' q nw _=>?_⟩
  .by_cases eh:h= .inl i
   .subst eh
    have pM:dD (s.set i (some ⟨false,cs'⟩)) i=some ab:=cr;rw[ZlU aw]at pM;cases pM;exact .inl ⟨rfl,rfl⟩
   .refine .inr ⟨eh,?_⟩
    have fO:CR E s h ab:=by
     cases h with
     |inl j=>
      have pM:dD (s.set i (some ⟨false,cs'⟩)) j=some ab:=cr;rw[ML (λe=>eh (by rw[e]))]at pM;exact pM
     |inr x=>exact CR.fu (t:=o.dst) (e:=e) (s:=s) hv cr
    rcases hw with hw|⟨n1,n2⟩
    .exact p.ko h ab c (bx h hw) fO e'
    .exact absurd (fO.rQ p.gX) n1
  .exact .inr Fd
 have bL: ∀d,o.dst=some d->fV C ψ ((E.fu o.dst e).get d) v:=λd hd=>by rw[Env.kR,bG hd];exact fg
 unfold Oper.wp;rcases hr with hr|⟨hr,rfl⟩
 .rw[hr];exact hn ψ _ v w' post bL
 .rw[hr];exact hn ψ _ _ w' post bL
theorem ZpG {K:M β} (h:dG i p ds K s=some r):
  ∃cs,s.gP i=some cs/\p+ds.length<=cs.length/\K (s.set i (some ⟨false,cG cs p ds⟩))=some r:=by
 unfold dG at h;cases hs:s.gP i with
 |none=>rw[hs]at h;cases h
 |some cs=>
  rw[hs]at h;simp only at h;cases hb:Nat.ble (p+ds.length) cs.length with
  |false=>rw[hb]at h;cases h
  |true=>rw[hb]at h;simp_all
theorem ZmJ (ht:P.underlying t=some td) (a:Addr) (v:Value) (w:World) (hs:v.cells.size=P.cellsOf t):
  (storeVar t a v).run P w=(storeCells a v.cells.toList).run P w:=by
 simp[storeVar,rq w ht,hs]
theorem Zuj {x:Operand} (ho:o.op= .store t x y) (xe:o.dst=none) (bx: ∀h,W h->D h) (Hb: ∀r v,md.loc r=true->(E.get r).dr=some v->W (.inr v)) (hWh:md.OD=true->∀i p,E.src C x= .v (.ptr (some (i,p)))->W (.inl i)) (h:WJ C E K md ms t x y s=some r):cj C md pr ms o D W E s K r:=by
 unfold WJ at h;have⟨d,hd,h⟩:=Zw h;have⟨ds,td,ht,h,jM,hv⟩:=ZnP h;rcases IX h with⟨u,v,p0,hx,h⟩|⟨i,p0,hx,h⟩
 .have⟨hm,h⟩:=Zt h
  rw[aY]at hm;have⟨n,cs,hl,h⟩:=ZnI h;have⟨hb,h⟩:=mC h;have hb:=qY hb;have hW:=Hb u v hm.2 (by rw[hl];rfl);have get: ∀k,(E.put u (.loc v n (zK n (C.P.cellsOf t) cs p0 ds))).get k=if u=k then .loc v n (zK n (C.P.cellsOf t) cs p0 ds)else E.get k:=λk=>Env.tp _ _ _ _
  have dr: ∀k,((E.put u (.loc v n (zK n (C.P.cellsOf t) cs p0 ds))).get k).dr=(E.get k).dr:=λk=>by
   rw[get];split
   .rename_i e;subst e;rw[hl];rfl
   .rfl
  have crb: ∀h ab,jJ E->CR (E.put u (.loc v n (zK n (C.P.cellsOf t) cs p0 ds))) s h ab->(h= .inr v/\ab= .cells false (zK n (C.P.cellsOf t) cs p0 ds))\/(h≠ .inr v/\CR E s h ab):=by
   intro h ab hE c;cases h with
   |inl i=>exact .inr ⟨Do,c⟩
   |inr k=>
    rcases c with⟨q,n',cs',hq,gf⟩|⟨q,l,p,hq,gf⟩
    .rw[get]at hq
     split at hq
     .grind
     .rename_i dQ
      refine .inr ⟨λe=>?_,.inl ⟨q,n',cs',hq,gf⟩⟩;cases e;exact dQ (hE.uniq u q v (by rw[hl];rfl) (by rw[hq];rfl))
    .rw[get]at hq
     split at hq
     .cases hq
     .rename_i dQ
      refine .inr ⟨λe=>?_,.inr ⟨q,l,p,hq,gf⟩⟩;cases e;exact dQ (hE.uniq u q v (by rw[hl];rfl) (by rw[hq];rfl))
  refine .inl ⟨_,_,h,⟨aM _,aM _,λhE=>⟨?_,?_,?_,?_⟩,?_,(λk d _ h'=>by
   rw[get]at h';grind),?_,?_,?_,?_,λ_ _ _=>rfl,.inr (by unfold Spec;rw[ho];trivial),.inl rfl⟩,?_⟩
  .intro k v' h';rw[dr]at h';exact hE.lt k v' h'
  .intro k a b c h'
   rw[get]at h';split at h'
   .cases h'
   .exact hE.pl k a b c h'
  .intro k a b c h'
   rw[get]at h';split at h'
   .cases h'
    have:=hE.len u v n cs hl;rw[Ws this jM hb,IZ];exact this
   .exact hE.len k a b c h'
  .intro k k' v' h' AQ;rw[dr]at h' AQ;exact hE.uniq k k' v' h' AQ
  .grind
  .intro k _ C' ψ x' hr
   rw[get];split
   .rename_i e;subst e;rw[hl]at hr;exact hr
   .exact hr
  .intro h' ab c
   cases h' with
   |inl i=>exact .inr (.inr c)
   |inr k=>
    rcases c with⟨q,n',cs',hq,gf⟩|⟨q,l,p,hq,gf⟩
    .rw[get]at hq
     split at hq
     .cases hq;exact .inl hW
     .exact .inr (.inr (.inl ⟨q,n',cs',hq,gf⟩))
    .rw[get]at hq
     split at hq
     .cases hq
     .exact .inr (.inr (.inr ⟨q,l,p,hq,gf⟩))
  .grind
  .grind
  .intro ψ Q a w next QQ p room hn
   have:=p.src (x:=x) (by simp[Op.operands,ho]);rw[hx]at this;have⟨cb,e1,e2,e3⟩:=this;have⟨h1,h2,h3⟩:=hv C ψ _ (p.val (x:=y) (by simp[Op.operands,ho]) hd);have hq:Q (.inr v) (.cells false cs):=p.ko (.inr v) _ cb (bx _ hW) (.inl ⟨u,n,cs,hl,rfl⟩) e1;have hlen:=p.gX.len u v n cs hl;have⟨w',hr,dp,hh⟩:=Nd (P:=C.P) (p:=p0) (p.fh.holds _ cb _ e1 hq) h1 h2 AC;rw[e2,eJ]at hr;have hex:(execOp a.eval o).run C.P w= .ok .skip w':=by
    simp only[execOp,ho,e3,Instr.storeAt,Sem.run_bind,wK,Result.andThen_ok,ZmJ ht _ _ w h3,hr,Sem.run_pure]
   unfold Oper.wp;rw[hex];refine hn ψ (zN Q (.inr v) (.cells false (zK n (C.P.cellsOf t) cs p0 ds))) _ w' ⟨fC.set p.fh e1 hq rfl dp.other (by rw[Ws hlen jM hb];exact hh),Ext.set e1 hq rfl dp.other dp.size dp.tape dp.os dp.output,
    λ_ _ e=> .inl e,λh' ab c cr hw e'=>?_,λh' ab c e' q nw _=>?_⟩ Fd
   .rcases crb h' ab p.gX cr with⟨rfl,rfl⟩|⟨dQ,cr⟩
    .exact .inl ⟨rfl,rfl⟩
    .refine .inr ⟨dQ,?_⟩
     rcases hw with hw|⟨n1,n2⟩
     .exact p.ko h' ab c (bx h' hw) cr e'
     .exact absurd (cr.rQ p.gX) n1
   .exact .inr Fd
 .have⟨hm,h⟩:=Zt h
  have⟨cs,hi,hb,h⟩:=ZpG h;refine cj.aaQ bx (hWh hm i p0 hx) .u rfl (λ_ _ _ _ e=>by cases e) hi (by rw[xe];exact h) λψ Q a w p=>?_
  have:=p.val (x:=x) (by simp[Op.operands,ho]) hx;generalize PR:a.eval x=xv at this;cases this with
  |ptr _ _ cb e=>
   refine⟨cb,e,λhh=>?_⟩;have⟨h1,h2,h3⟩:=hv C ψ _ (p.val (x:=y) (by simp[Op.operands,ho]) hd);have⟨w',hr,dp,C4⟩:=Nd (P:=C.P) (p:=p0) hh h1 h2 hb;refine⟨undef,w',.inr ⟨?_,rfl⟩,dp,C4,trivial⟩;simp only[execOp,ho,PR,Instr.storeAt,Sem.run_bind,wK,Result.andThen_ok,ZmJ ht _ _ w h3,hr,Sem.run_pure]
end
structure pw (C:bE):Prop where
 ty: ∀t t',C.ty t=C.ty t'->t=t'
 eqg: ∀t,C.Ey t≠[]->C.P.eqGuardType C.P.depth t=false
 eq: ∀t,C.Ey t≠[]->∀ψ xs ys (vs us:Array Value) b w,bH C ψ xs vs.toList->bH C ψ ys us.toList->nJ (C.Ey t) xs ys=some b->(Op.equal t (.agg vs) (.agg us)).run C.P w= .ok b w
 tae: ∃e d,C.P.underlying C.P.rt.typeAssertionError=some (.pointer e)/\C.P.underlying e=some d
section
variable {C:bE} {o:Oper} {D W:dN->Prop} {E:Env} {s:St} {md:Md} {pr ms:al}
theorem Zt4 (d:Nat) (ht:P.underlying t=some .bool) (x y:Bool) (w:World):(Op.equalIn (d+1) t (.bool x) (.bool y)).run P w= .ok (x==y) w:=by
 simp[Op.equalIn,Zl w ht]
theorem ZvQ (ht:P.underlying t=some .bool) (x y:Bool) (w:World):(Op.equal t (.bool x) (.bool y)).run P w= .ok (x==y) w:=Zt4 9999 ht x y w
theorem Zut (d:Nat) (ht:P.underlying t=some (.pointer e)) (a:Option Addr) (w:World):
  (Op.equalIn (d+1) t (.pointer a) (.pointer none)).run P w= .ok a.isNone w/\(Op.equalIn (d+1) t (.pointer none) (.pointer a)).run P w= .ok a.isNone w:=by
 cases a<;>constructor<;>simp[Op.equalIn,Zl w ht]
theorem M9 (ht:P.underlying t=some (.pointer e)) (a:Option Addr) (w:World):
  (Op.equal t (.pointer a) (.pointer none)).run P w= .ok a.isNone w/\(Op.equal t (.pointer none) (.pointer a)).run P w= .ok a.isNone w:=Zut 9999 ht a w
theorem Zsn (d:Nat) (ht:P.underlying t=some (.slice e)) (a:Option Addr) (n m n' m':Nat) (w:World):
  (Op.equalIn (d+1) t (.slice a n m) (.slice none n' m')).run P w= .ok a.isNone w/\(Op.equalIn (d+1) t (.slice none n' m') (.slice a n m)).run P w= .ok a.isNone w:=by
 cases a<;>constructor<;>simp[Op.equalIn,Zl w ht]
theorem MS (ht:P.underlying t=some (.slice e)) (a:Option Addr) (n m n' m':Nat) (w:World):
  (Op.equal t (.slice a n m) (.slice none n' m')).run P w= .ok a.isNone w/\(Op.equal t (.slice none n' m') (.slice a n m)).run P w= .ok a.isNone w:=Zsn 9999 ht a n m n' m' w
theorem Zww (x y:ByteArray):(x.toList==y.toList)=(x.data.toList==y.data.toList):=by rw[ByteArray.toList_eq,ByteArray.toList_eq]
theorem Ztd {x y:DV} {K:Bool->M β} (hc:pw C) (h:OC (C.P.underlying t) (C.Ey t) x y K s=some r):
  ∃b,K b s=some r/\∀ψ w (x' y':Value) (p q:Operand),VR C ψ x x'->VR C ψ y y'->
   (do eqGuard .eql t p q x' y';Go.binOp .eql t x' y':Sem Value).run C.P w= .ok (.bool b) w/\(do eqGuard .neq t p q x' y';Go.binOp .neq t x' y':Sem Value).run C.P w= .ok (.bool !b) w:=by
 generalize hu:C.P.underlying t=u at h;unfold OC at h;split at h
 ·
  split at h
  ·
   refine⟨_,h,λψ w x' y' p q hx hy=>?_⟩;cases hx;cases hy;constructor<;>simp[eqGuard,Go.binOp,ZvQ hu]
  .cases h
 .have⟨h1,h2⟩:=Zt h
  clear h;have:=JA h1;subst this;refine⟨_,h2,λψ w x' y' p q hx hy=>?_⟩;cases hx;cases hy;constructor<;>simp[eqGuard,Go.binOp,Op.intCmp,bne]
 .refine⟨_,h,λψ w x' y' p q hx hy=>?_⟩
  cases hx;cases hy;constructor<;>simp[eqGuard,Go.binOp,Op.stringOp,Zww]
 .split at h
  .refine⟨_,h,λψ w x' y' p q hx hy=>?_⟩
   cases hy;cases hx with
   |LI=>constructor<;>simp[eqGuard,Go.binOp,(M9 hu none w).1]
   |ptr i n cb e=>constructor<;>simp[eqGuard,Go.binOp,(M9 hu _ w).1]
  .cases h
 .split at h
  .refine⟨_,h,λψ w x' y' p q hx hy=>?_⟩
   cases hx;cases hy with
   |LI=>constructor<;>simp[eqGuard,Go.binOp,(M9 hu none w).1]
   |ptr i n cb e=>constructor<;>simp[eqGuard,Go.binOp,(M9 hu _ w).2]
  .cases h
 .split at h
  .refine⟨_,h,λψ w x' y' p q hx hy=>?_⟩
   cases hy;cases hx with
   |tP=>constructor<;>simp[eqGuard,Go.binOp,(MS hu none 0 0 0 0 w).1]
   |slice _ i n m cb a cap e=>constructor<;>simp[eqGuard,Go.binOp,(MS hu _ _ _ 0 0 w).1]
  .cases h
 .split at h
  .refine⟨_,h,λψ w x' y' p q hx hy=>?_⟩
   cases hx;cases hy with
   |tP=>constructor<;>simp[eqGuard,Go.binOp,(MS hu none 0 0 0 0 w).1]
   |slice _ i n m cb a cap e=>constructor<;>simp[eqGuard,Go.binOp,(MS hu _ _ _ 0 0 w).2]
  .cases h
 .rename_i xs ys
  cases cC:C.Ey t with
  |nil=>rw[cC]at h;cases h
  |cons k ks=>
   rw[cC]at h;simp only at h;cases hb:nJ (k::ks) xs ys with
   |none=>rw[hb]at h;cases h
   |some b=>
    rw[hb]at h;refine⟨_,h,λψ w x' y' p q hx hy=>?_⟩;have ab2:C.Ey t≠[]:=by rw[cC];grind
    cases hx with
    |agg _ vs h1 _=>
     cases hy with
     |agg _ us h2 _=>
      have he:=hc.eq t ab2 ψ _ _ vs us b w h1 h2 (by rw[cC];exact hb);constructor<;>simp[eqGuard,Go.binOp,hc.eqg t ab2,he]
 .cases h
theorem ZyD (h:op= .and\/op= .or\/op= .xor\/op= .andNot) (t:TypeId) (p q:Operand) (k:IntKind) (x y:Int) (w:World):
  (do eqGuard op t p q (.int k x) (.int k y);Go.binOp op t (.int k x) (.int k y):Sem Value).run P w= .ok (.int k (bits op k x y)) w:=by
 have e:Go.binOp op t (.int k x) (.int k y)=Op.intBits op k x y:=by rcases h with rfl|rfl|rfl|rfl<;>simp[Go.binOp]
 rw[e];rcases h with rfl|rfl|rfl|rfl<;>rfl
theorem ZxS {x:Operand} (hc:pw C) (ho:o.op= .binOp op t x y yt) (bx: ∀h,W h->D h) (h:aaA C E o K op t x y s=some r):cj C md pr ms o D W E s K r:=by
 unfold aaA at h;have⟨a,ha,h⟩:=Zw h;have⟨b,hb,h⟩:=Zw h;have key: ∀d,cJ E o K d s=some r->(∀ψ w x' y',VR C ψ a x'->VR C ψ b y'->∃v,(do eqGuard op t x y x' y';Go.binOp op t x' y':Sem Value).run C.P w= .ok v w/\VR C ψ d v)->cj C md pr ms o D W E s K r:=by
  intro d h hr;refine cj.val bx d h λψ Q A w p=>?_
  have⟨v,hv,mh⟩:=hr ψ w _ _ (p.val (x:=x) (by simp[Op.operands,ho]) ha) (p.val (x:=y) (by simp[Op.operands,ho]) hb);refine⟨v,w,?_,.refl w,mh⟩;simp only[execOp,ho,Sem.run_bind]at hv⊢;rw[hv];rfl
 unfold abG at h;split at h
 .have⟨b',h,hr⟩:=Ztd hc h
  exact key _ h λψ w x' y' hx hy=>⟨_,(hr ψ w x' y' x y hx hy).1,.bool _⟩
 .have⟨b',h,hr⟩:=Ztd hc h
  exact key _ h λψ w x' y' hx hy=>⟨_,(hr ψ w x' y' x y hx hy).2,.bool _⟩
 .split at h
  .rename_i k n k' m
   have h0:=h;clear h;have⟨hm,h⟩:=mC h0;clear h0;have hm:=Int.not_lt.2 (mW hm);refine key _ h λψ w x' y' hx hy=>?_
   cases hx;cases hy;exact⟨_,by simp[eqGuard,Go.binOp,Op.shift,hm],.int _ _⟩
  .cases h
 .split at h
  .rename_i k n k' m
   have h0:=h;clear h;have⟨hm,h⟩:=mC h0;clear h0;have hm:=Int.not_lt.2 (mW hm);refine key _ h λψ w x' y' hx hy=>?_
   cases hx;cases hy;exact⟨_,by simp[eqGuard,Go.binOp,Op.shift,hm],.int _ _⟩
  .cases h
 .rename_i n1 n2 n3 n4
  split at h
  .have h0:=h
   clear h;have⟨hk,h⟩:=Zt h0;clear h0;have:=JA hk;subst this;cases op with
   |eql=>exact absurd rfl n1
   |neq=>exact absurd rfl n2
   |shl=>exact absurd rfl n3
   |shr=>exact absurd rfl n4
   |quo=>
    have⟨hm,h⟩:=mC h;simp only[lT,eN]at hm;refine key _ h λψ w x' y' hx hy=>?_
    cases hx;cases hy;exact⟨_,by simp[eqGuard,Go.binOp,Op.intDiv,hm],.int _ _⟩
   |rem=>
    have⟨hm,h⟩:=mC h;simp only[lT,eN]at hm;refine key _ h λψ w x' y' hx hy=>?_
    cases hx;cases hy;exact⟨_,by simp[eqGuard,Go.binOp,Op.intDiv,hm],.int _ _⟩
   |and|or|xor|andNot=>
    refine key _ h λψ w x' y' hx hy=>?_
    cases hx;cases hy;exact⟨_,ZyD Do t x y _ _ _ w,.int _ _⟩
   |_=>
    refine key _ h λψ w x' y' hx hy=>?_
    cases hx;cases hy;exact⟨_,by simp[eqGuard,Go.binOp,Op.intArith,Op.intCmp]<;>rfl,by constructor⟩
  .rename_i l l'
   cases op with
   |eql=>exact absurd rfl n1
   |neq=>exact absurd rfl n2
   |shl=>exact absurd rfl n3
   |shr=>exact absurd rfl n4
   |add=>
    have⟨hm,h⟩:=mC h;have hm:=qY hm;refine key _ h λψ w x' y' hx hy=>?_
    cases hx with
    |str p=>
     cases hy with
     |str q=>
      have e:p.data.toList++q.data.toList=(p++q).data.toList:=by simp[ByteArray.data_append]
      rw[e];rw[oU,oU]at hm;have qJ:p.size+q.size<=4611686018427387904:=hm;refine⟨.string (p++q),?_,.str _⟩;have:=run_string_add_sum (P:=C.P) (w:=w) p q AC;simp[eqGuard,Go.binOp,this]
   |lss|leq|gtr|geq=>
    refine key _ h λψ w x' y' hx hy=>?_
    cases hx;cases hy;refine⟨_,by simp only[eqGuard,Go.binOp,Op.stringOp,ByteArray.toList_eq];rfl,.bool _⟩
   |_=>cases h
  .cases h
end
def FD (P:Program) (t:TypeId) (b:B):Bool:=match P.underlying t,b with
 |some .bool,.bool=>true
 |some (.int _),.int _=>true
 |some .string,.str=>true
 |_,_=>false
def OB (P:Program):List Field->List B->Nat->Bool
 |[],[],_=>true
 |f::r,b::bs,o=>f.name != "_" &&Nat.beq f.offset o&&FD P f.type b&&OB P r bs (o+1)
 |_,_,_=>false
def GY (P:Program):List Field->List B->Nat->Bool
 |[],[],_=>true
 |[],_::_,_=>false
 |f::r,bs,o=>f.name != "_" &&Nat.beq f.offset o&&(match P.underlying f.type with
  |some (.struct fs)=>Nat.beq (P.cellsOf f.type) fs.size&&Nat.ble fs.size bs.length&& !(P.stoodInHeld f.type)&&OB P fs.toList (bs.take fs.size) 0&&GY P r (bs.drop fs.size) (o+fs.size)
  |_=>match bs with
   |b::gV=>FD P f.type b&&GY P r gV (o+1)
   |[]=>false)
def GZ (P:Program) (t:TypeId) (bs:List B):Bool:=match P.underlying t with
 |some (.struct fs)=>GY P fs.toList bs 0&& !(P.stoodInHeld t)&& !(P.eqGuardType P.depth t)
 |_=>false
section
variable {C:bE} {ψ:Ps}
theorem Zs3 {d:Nat} {b:B} {x y:DV} {u:Value} {r:Bool} (w:World) (hs:FD C.P t b=true) (hx:VR C ψ x v) (hy:VR C ψ y u) (he:CH b x y=some r):
  (Op.equalIn (d+1) t v u).run C.P w= .ok r w:=by
 unfold FD at hs;split at hs
 .rename_i hu
  unfold CH at he;split at he<;>first|(rename_i h1;cases h1;done)|skip
  .cases hx;cases hy;cases he
   simp[Op.equalIn,Zl w hu]
  grind
 .rename_i hu
  unfold CH at he;split at he
  .rename_i h1;cases h1
  .rename_i k0 k a k' b' _
   cases hk:wg k0 k&&wg k k' with
   |false=>rw[hk]at he;cases he
   |true=>
    rw[hk]at he;rw[aY]at hk;have:=JA hk.2;subst this;cases hx;cases hy;cases he;simp[Op.equalIn,Zl w hu]
  .rename_i h1;cases h1
  .cases he
 .rename_i hu
  unfold CH at he;split at he
  .rename_i h1;cases h1
  .rename_i h1;cases h1
  .cases hx;cases hy;cases he
   have e: ∀a b:ByteArray,(a==b)=(a.data.toList==b.data.toList):=by
    intro a b;have e1:(a==b)=(a.data==b.data):=by cases a;cases b;rfl
    rw[e1,lS];simp only[va];exact⟨λh=>by rw[h],λh=>Array.toList_inj.1 h⟩
   rw[Op.equalIn,Sem.run_bind,Zl w hu,Result.andThen_ok,Sem.run_pure,e]
  .cases he
 .cases hs
theorem Ng {b:B} {cs:Array Value} (w:World) (hs:FD C.P e b=true) (hx:cs[off]? =some v):(Go.part e cs off).run C.P w= .ok v w:=by
 refine run_part_plain w ?_ hx;unfold FD at hs;grind[Program.plainKey]
theorem ZtR {d:Nat} (xs ys:Array Value) (w:World): ∀(fs:List Field) (bs:List B) (ds es:ah) (o:Nat) (r:Bool),OB C.P fs bs o=true->
  bH C ψ ds (xs.toList.drop o)->bH C ψ es (ys.toList.drop o)->nJ bs ds es=some r->(Op.eqFields (d+1) xs ys fs).run C.P w= .ok r w
 |[],[],[],[],o,r,_,_,_,he=>by
  cases he;simp[Op.eqFields]
 |[],[],_::_,_,_,_,_,_,_,he=>by cases he
 |[],[],[],_::_,_,_,_,_,_,he=>by cases he
 |[],_::_,_,_,_,_,h,_,_,_=>by cases h
 |_::_,[],_,_,_,_,h,_,_,_=>by cases h
 |f::fs,b::bs,[],_,_,_,_,_,_,he=>by cases he
 |f::fs,b::bs,_::_,[],_,_,_,_,_,he=>by cases he
 |f::fs,b::bs,x::ds,y::es,o,r,h,hx,hy,he=>by
  simp only[OB,aY]at h;have⟨⟨⟨hn,ho⟩,hs⟩,hr⟩:=h;have ho:=dP ho;have hn:f.name≠ "_" :=by simpa using hn
  simp only[nJ]at he;cases h1:CH b x y with
  |none=>rw[h1]at he;cases he
  |some r1=>
   cases h2:nJ bs ds es with
   |none=>rw[h1,h2]at he;cases he
   |some r2=>
    rw[h1,h2]at he;cases he;have LQ: ∀ {z:Array Value} {q:DV} {qs:ah},bH C ψ (q::qs) (z.toList.drop o)->∃v,z[o]? =some v/\VR C ψ q v/\bH C ψ qs (z.toList.drop (o+1)):=by
     intro z q qs hq;generalize hz:z.toList.drop o=l at hq;cases hq with
     |cons _ v _ vs a b=>
      have e:z.toList[o]? =some v:=by
       have:=congrArg (λl:List Value=>l[0]?) hz;simpa using this
      refine⟨v,by rw[<-lx];exact e,a,?_⟩;have:=congrArg (List.drop 1) hz;rw[jG]at this;rw[this];exact b
    have⟨v,hv,rv,tv⟩:=LQ hx;have⟨u,hu,ru,tu⟩:=LQ hy;have p1:=Ng (C:=C) w hs hv;have p2:=Ng (C:=C) w hs hu;have p3:=Zs3 (d:=d) w hs rv ru h1;have p4:=ZtR (d:=d) xs ys w fs bs ds es (o+1) r2 hr tv tu h2;rw[<-ho]at p1 p2;simp only[Op.eqFields,hn,ne_eq,not_false_eq_true,mV,Sem.run_bind,p1,p2,p3,Result.andThen_ok];cases r1
    .simp
    .simpa using p4
theorem ZrB: ∀(n:Nat) (bs:List B) (ds es:ah) (r:Bool),nJ bs ds es=some r->n<=bs.length->∃r1 r2,nJ (bs.take n) (ds.take n) (es.take n)=some r1/\nJ (bs.drop n) (ds.drop n) (es.drop n)=some r2/\r=(r1&&r2)
 |0,bs,ds,es,r,h,_=>⟨true,r,by simp[nJ],by simpa using h,Do⟩
 |n+1,[],ds,es,r,h,hn=>by simp at hn
 |n+1,b::bs,[],es,r,h,hn=>by cases h
 |n+1,b::bs,_::_,[],r,h,hn=>by cases h
 |n+1,b::bs,x::ds,y::es,r,h,hn=>by
  simp only[nJ]at h;cases h1:CH b x y with
  |none=>rw[h1]at h;cases h
  |some a=>
   cases h2:nJ bs ds es with
   |none=>rw[h1,h2]at h;cases h
   |some c=>
    rw[h1,h2]at h;cases h;have⟨r1,r2,g1,g2,g3⟩:=ZrB n bs ds es c h2 (by simpa using hn);refine⟨a&&r1,r2,?_,by simpa using g2,by rw[g3,Bool.and_assoc]⟩;simp[List.take_succ_cons,nJ,h1,g1]
theorem VL {d:Nat} (xs ys:Array Value) (w:World): ∀(fs:List Field) (bs:List B) (ds es:ah) (o:Nat) (r:Bool),GY C.P fs bs o=true->
  bH C ψ ds (xs.toList.drop o)->bH C ψ es (ys.toList.drop o)->nJ bs ds es=some r->(Op.eqFields (d+2) xs ys fs).run C.P w= .ok r w
 |[],[],ds,es,o,r,_,_,_,he=>by
  cases ds<;>cases es<;>cases he
  simp[Op.eqFields]
 |[],_::_,_,_,_,_,h,_,_,_=>by cases h
 |f::fs,bs,ds,es,o,r,h,hx,hy,he=>by
  unfold GY at h;rw[aY,aY]at h;have⟨⟨hn,ho⟩,h⟩:=h;have ho:=dP ho;have hn:f.name≠ "_" :=by simpa using hn
  have alN: ∀b gV,bs=b::gV->(FD C.P f.type b&&GY C.P fs gV (o+1))=true->(Op.eqFields (d+2) xs ys (f::fs)).run C.P w= .ok r w:=by
   rintro b gV rfl h;rw[aY]at h;have⟨hs,hr⟩:=h
   match ds,es,hx,hy,he with
   |[],_,_,_,he=>cases he
   |_::_,[],_,_,he=>cases he
   |x::ds,y::es,hx,hy,he=>
   simp only[nJ]at he;cases h1:CH b x y with
   |none=>rw[h1]at he;cases he
   |some r1=>
    cases h2:nJ gV ds es with
    |none=>rw[h1,h2]at he;cases he
    |some r2=>
     rw[h1,h2]at he;cases he;have LQ: ∀ {z:Array Value} {q:DV} {qs:ah},bH C ψ (q::qs) (z.toList.drop o)->∃v,z[o]? =some v/\VR C ψ q v/\bH C ψ qs (z.toList.drop (o+1)):=by
      intro z q qs hq;generalize hz:z.toList.drop o=l at hq;cases hq with
      |cons _ v _ vs a b=>
       have e:z.toList[o]? =some v:=by
        have:=congrArg (λl:List Value=>l[0]?) hz;simpa using this
       refine⟨v,by rw[<-lx];exact e,a,?_⟩;have:=congrArg (List.drop 1) hz;rw[jG]at this;rw[this];exact b
     have⟨v,hv,rv,tv⟩:=LQ hx;have⟨u,hu,ru,tu⟩:=LQ hy;have p1:=Ng (C:=C) w hs hv;have p2:=Ng (C:=C) w hs hu;have p3:=Zs3 (d:=d+1) w hs rv ru h1;have p4:=VL (d:=d) xs ys w fs gV ds es (o+1) r2 hr tv tu h2;rw[<-ho]at p1 p2;simp only[Op.eqFields,hn,ne_eq,not_false_eq_true,mV,Sem.run_bind,p1,p2,p3,Result.andThen_ok];cases r1
     .simp
     .simpa using p4
  split at h
  .rename_i gs hu
   simp only[aY]at h;have⟨⟨⟨⟨hc,hle⟩,cd⟩,hg⟩,hr⟩:=h;have hc:=dP hc;have hle:=qY hle;have cd:C.P.stoodInHeld f.type=false:=by simpa using cd
   have⟨r1,r2,e1,e2,e3⟩:=ZrB gs.size bs ds es r he hle;have cC:jv C.P f.type=true:=by unfold jv;rw[hu]
   have prt: ∀z:Array Value,(Go.part f.type z o).run C.P w= .ok (.agg (z.extract o (o+gs.size))) w:=λz=>by
    unfold Go.part;simp only[Sem.run_bind,IG w hu,Result.andThen_ok,cC,mV,rq w hu,hc,Sem.run_pure]
   have sub: ∀ {z:Array Value} {qs:ah},bH C ψ qs (z.toList.drop o)->bH C ψ (qs.take gs.size) ((z.extract o (o+gs.size)).toList.drop 0):=by
    intro z qs hq;have:=hq.take gs.size;rw[dE,Array.toList_extract,QF,show o+gs.size-o=gs.size by omega];exact this
   have rst: ∀ {z:Array Value} {qs:ah},bH C ψ qs (z.toList.drop o)->bH C ψ (qs.drop gs.size) (z.toList.drop (o+gs.size)):=by
    intro z qs hq;have:=hq.drop gs.size;rw[jG]at this;exact this
   have nl:C.P.fieldsOf f.type=gs:=by unfold Program.fieldsOf;rw[hu]
   have p3:(Op.equalIn (d+2) f.type (.agg (xs.extract o (o+gs.size))) (.agg (ys.extract o (o+gs.size)))).run C.P w= .ok r1 w:=by
    rw[run_equalIn_struct w (d+1) f.type _ _ (by rw[nl];exact hu) cd,nl];exact ZtR (d:=d) _ _ w gs.toList (bs.take gs.size) _ _ 0 r1 hg (sub hx) (sub hy) e1
   have p4:=VL (d:=d) xs ys w fs (bs.drop gs.size) _ _ (o+gs.size) r2 hr (rst hx) (rst hy) e2;have p1:=prt xs;have p2:=prt ys;rw[<-ho]at p1 p2 p3;simp only[Op.eqFields,hn,ne_eq,not_false_eq_true,mV,Sem.run_bind,p1,p2,p3,Result.andThen_ok];rw[e3];cases r1
   .simp
   .simpa using p4
  grind
theorem Zvv {bs:List B} (h:GZ P t bs=true):P.eqGuardType P.depth t=false:=by
 grind[GZ]
theorem ZyO {bs:List B} (h:GZ C.P t bs=true) {us:Array Value} {b:Bool} (w:World) (hx:bH C ψ xs vs.toList) (hy:bH C ψ ys us.toList) (he:nJ bs xs ys=some b):
  (Op.equal t (.agg vs) (.agg us)).run C.P w= .ok b w:=by
 unfold GZ at h;split at h
 .rename_i fs hu
  simp only[aY]at h;have cd:C.P.stoodInHeld t=false:=by simpa using h.1.2
  unfold Op.equal;have nl:C.P.fieldsOf t=fs:=by grind[Program.fieldsOf]
  rw[show Op.maxDepth=9999+1 from rfl,run_equalIn_struct w 9999 t vs us (by rw[nl];exact hu) cd,nl];exact VL (d:=9997) vs us w fs.toList bs xs ys 0 b h.1.1 (by rw[dE];exact hx) (by rw[dE];exact hy) he
 .cases h
def Lt:List (Nat×List B)->Nat->List B
 |[],_=>[]
 |(k,v)::r,x=>bif Nat.beq k x then v else Lt r x
theorem W6 {P:Program} : ∀ {l:List (Nat×List B)},(l.all λx=>GZ P x.1 x.2)=true->∀t,Lt l t≠[]->GZ P t (Lt l t)=true
 |[],_,t,h=>absurd rfl h
 |(k,v)::r,hl,t,h=>by
  rw[wE,aY]at hl;simp only[Lt]at h⊢;cases hk:Nat.beq k t with
  |true=>rw[hk]at h;rw[<-dP hk];exact hl.1
  |false=>rw[hk]at h;exact W6 hl.2 t h
end
section
variable {C:bE} {o:Oper} {D W:dN->Prop} {E:Env} {s:St} {md:Md} {pr ms:al}
theorem aA.int {ψ:Ps} {Q:Kn} {a:Act} {w:World} (p:aA C o D E s ψ Q a w) {x:Operand} (hx:x∈o.op.operands) {k:IntKind} {n:Int} (h:E.src C x= .v (.int k n)):a.eval x= .int k n:=by
 have:=p.val hx h;generalize a.eval x=v at this;cases this;rfl
theorem Tg {len:Nat} {K:Nat->Nat->M β} (h:Jr C E len lo hi K s=some r):
  ∃l u,K l u s=some r/\l<=u/\u<=len/\(lo=none->l=0)/\(hi=none->u=len)/\
   ∀ψ Q a w,aA C o D E s ψ Q a w->(∀x,lo=some x->x∈o.op.operands)->(∀x,hi=some x->x∈o.op.operands)->∀(b:Bool) (cap:Nat),len<=cap->(b=false->len=cap)->
    (Instr.sliceBounds b len cap (lo.map a.eval) (hi.map a.eval) none).run C.P w= .ok (l,u,cap) w:=by
 unfold Jr at h;have low: ∀u,(match lo with|none=>K 0 u|some x=>Dh C E x λl=>aB (decide (0<=l)&&decide (l<=u)) (K l.toNat u)) s=some r->
   ∃l,K l u s=some r/\l<=u/\(lo=none->l=0)/\∀ψ Q a w,aA C o D E s ψ Q a w->(∀x,lo=some x->x∈o.op.operands)->
    (match lo.map a.eval with|some v=>Instr.sliceBound v u .sliceB|none=>pure 0:Sem Nat).run C.P w= .ok l w:=by
  intro u h;cases lo with
  |none=>exact⟨0,h,cB _,λ_=>rfl,λψ Q a w p _=>rfl⟩
  |some x=>
   have⟨k,n,hx,h⟩:=Gq h;have⟨hc,h⟩:=mC h;simp only[aY,z8]at hc;refine⟨n.toNat,h,AC,λh=>(nomatch h),λψ Q a w p hm=>?_⟩;rw[ny,p.int (hm x rfl) hx];exact run_sliceBound _ k n u _ hc.1 hc.2
 cases hi with
 |none=>
  have⟨l,h,h1,h2,h3⟩:=low len h;refine⟨l,len,h,h1,aM _,h2,λ_=>rfl,λψ Q a w p hl _ b cap rV hb=>?_⟩;have:=h3 ψ Q a w p hl;unfold Instr.sliceBounds;simp only[Option.map_none,Sem.run_bind,Sem.run_pure,Result.andThen_ok,Mi,uX,nz];cases pX:lo.map a.eval with
  |none=>rw[pX]at this;simp only[Sem.run_pure,Result.ok.injEq]at this⊢;simp[this.1]
  |some v=>rw[pX]at this;simp only at this⊢;rw[Sem.run_bind,this];rfl
 |some y=>
  have⟨k,n,hy,h⟩:=Gq h;have⟨hc,h⟩:=mC h;simp only[aY,z8]at hc;have⟨l,h,h1,h2,h3⟩:=low n.toNat h;refine⟨l,n.toNat,h,h1,AC,h2,λh=>(nomatch h),λψ Q a w p hl hh b cap rV hb=>?_⟩;have:=h3 ψ Q a w p hl;have hs: ∀code,(Instr.sliceBound (.int k n) cap code).run C.P w= .ok n.toNat w:=λcode=>run_sliceBound _ k n cap code hc.1 AC
  unfold Instr.sliceBounds;simp only[ny,p.int (hh y rfl) hy,Sem.run_bind,Sem.run_pure,Result.andThen_ok,Mi,uX,nz,hs];cases pX:lo.map a.eval with
  |none=>rw[pX]at this;simp only[Sem.run_pure,Result.ok.injEq]at this⊢;simp[this.1]
  |some v=>rw[pX]at this;simp only at this⊢;rw[Sem.run_bind,this];rfl
theorem ZuO (ho:o.op= .slice t y lo hi none):y∈o.op.operands/\(∀x,lo=some x->x∈o.op.operands)/\(∀x,hi=some x->x∈o.op.operands):=by
 rw[ho];grind[Op.operands]
theorem Zu7 {sz:Nat} {cap l u:Nat} {lo:Bool} (jh:ψ (.inl i)=some cb) (hb:0<cap->base=⟨cb.b,cb.o+off,none⟩/\off+cap*sz<=cb.m)
  (h1:l<=u) (h2:u<=n) (h3:n<=cap) (pX:lo=false->l=0):
  VR C ψ (.slice sz (cK lo (some (i,off)) (l*sz)) (JW lo l u)) (.slice (some (if cap=l then base else base.add (l*sz))) (u-l) (cap-l)):=by
 have e:cK lo (some (i,off)) (l*sz)=some (i,off+l*sz):=by
  grind[cK,tX]
 have e2:JW lo l u=u-l:=by
  grind[JW]
 rw[e,e2];refine .slice sz i _ _ cb _ _ jh AC (λhc=>?_);have⟨h4,h5⟩:=hb AC;rw[bq AC,h4,Cb];refine⟨by rw[uZ],?_⟩;have:off+l*sz+(cap-l)*sz=off+cap*sz:=by rw[uZ,<-wG];congr 2;omega
 omega
theorem Zue (ho:o.op= .slice t y lo hi none) (bx: ∀h,W h->D h) (XB:(∃m e,C.P.underlying t=some (.array m e))->∀i,D (.inl i)) (h:WO C E o K t y lo hi s=some r):cj C md pr ms o D W E s K r:=by
 have⟨my,P7,P5⟩:=ZuO ho;unfold WO at h;cases ht:C.P.underlying t with
 |none=>rw[ht]at h;cases h
 |some td=>
  rw[ht]at h;cases td with
  |string=>
   simp only at h;have⟨d,hd,h⟩:=Zw h;cases d with
   |str x=>
    simp only at h;have⟨l,u,h,h1,h2,h3,h4,hr⟩:=Tg (o:=o) (D:=D) h;refine cj.val bx _ h λψ Q a w p=>?_
    have hv:=p.val my hd;generalize hy:a.eval y=v at hv;cases hv with
    |str x=>
     have hlen:x.data.toList.length=x.size:=by rw[oU];rfl
     have kZ:=hr ψ Q a w p P7 P5 false x.size AC (λ_=>hlen);rw[hlen]at kZ;refine⟨.string (x.extract l u),w,?_,.refl w,?_⟩
     .simp only[execOp,ho,hy,Instr.sliceAt,Sem.run_bind,Zl w ht,Result.andThen_ok,Instr.slice,Option.map_none,Mi,uX,nz,Sem.run_pure,kZ]
     .have e:GQ lo.isSome hi.isSome x.data.toList l u=(x.extract l u).data.toList:=by
       rw[ByteArray.data_extract,Array.toList_extract,QF];have e2:(x.data.toList.take u).drop l=(x.data.toList.drop l).take (u-l):=by rw[BD]
       cases lo with
       |none=>
        have:=h3 rfl;subst this;cases hi with
        |none=>
         have:=h4 rfl;subst this;simp only[GQ,Mi,af];rw[dE,BL,dF (aM _)]
        |some _=>simp[GQ]
       |some _=>
        cases hi with
        |none=>
         have:=h4 rfl;subst this;simp only[GQ,Option.isSome_some,Mi,ae,af];rw[dF Do]
        |some _=>rw[GQ,Option.isSome_some,ae];exact e2
      rw[e];exact .str _
   |_=>cases h
  |slice e=>
   simp only at h;have⟨ed,he,h⟩:=qu h;have⟨d,hd,h⟩:=Zw h;cases d with
   |slice z a n=>
    simp only at h;have⟨hz,h⟩:=Zt h;have⟨l,u,h,h1,h2,h3,h4,hr⟩:=Tg (o:=o) (D:=D) h;refine cj.val bx _ h λψ Q A w p=>?_
    have hv:=p.val my hd;generalize hy:A.eval y=v at hv;cases hv with
    |tP=>
     have kZ:=hr ψ Q A w p P7 P5 true 0 (aM _) (λh=>nomatch h);have:l=0:=AC
     subst this;have:u=0:=AC
     subst this;refine⟨.slice none 0 0,w,?_,.refl w,?_⟩
     .simp[execOp,ho,hy,Instr.sliceAt,Instr.slice,Zl w ht,kZ,rq w he]
     .cases lo<;>exact .tP _
    |slice _ i off _ cb base cap jh rV hb=>
     simp only[Option.isNone_some,Bool.or_false]at hz;have hz:=dP hz;subst hz;have kZ:=hr ψ Q A w p P7 P5 true cap rV (λh=>nomatch h);refine⟨_,w,?_,.refl w,Zu7 jh hb h1 h2 rV (λhl=>h3 (by cases lo<;>first|rfl|cases hl))⟩;simp only[execOp,ho,hy,Instr.sliceAt,Instr.slice,Sem.run_bind,Zl w ht,Result.andThen_ok,Option.map_none,kZ,rq w he,Sem.run_pure,ny];by_cases cO:cap=l<;>simp[cO]
   |_=>cases h
  |array m e=>
   simp only at h;have⟨ed,he,h⟩:=qu h;have⟨d,hd,h⟩:=Zw h;cases d with
   |ptr a=>
    simp only at h;have⟨i,off,ha,h'⟩:=WI h;clear h;subst ha;have⟨f,cs,cd,hle,h⟩:=I6 h';have⟨l,u,h,h1,h2,h3,h4,hr⟩:=Tg (o:=o) (D:=D) h;refine cj.val bx _ h λψ Q A w p=>?_
    have hv:=p.val my hd;generalize hy:A.eval y=v at hv;cases hv with
    |ptr _ _ cb jh=>
     have hh:=(p.at (XB ⟨m,e,ht⟩ i) cd jh).1;have kZ:=hr ψ Q A w p P7 P5 false m (aM _) (λ_=>rfl);refine⟨_,w,?_,.refl w,Zu7 (cap:=m) (base:=⟨cb.b,cb.o+off,none⟩) jh Fd h1 h2 (aM _) (λhl=>h3 (by cases lo<;>first|rfl|cases hl))⟩;simp only[execOp,ho,hy,Instr.sliceAt,Sem.run_bind,Zl w ht,Result.andThen_ok,wK,Option.map_none,kZ,rq w he,Sem.run_pure]
   |_=>cases h
  |_=>cases h
theorem Zuh (ho:o.op= .range t y) (bx: ∀h,W h->D h) (h:Wv C E o K t y s=some r):cj C md pr ms o D W E s K r:=by
 unfold Wv at h;cases ht:C.P.underlying t with
 |none=>rw[ht]at h;cases h
 |some td=>
  rw[ht]at h;cases td with
  |string=>
   simp only at h;have⟨d,hd,h⟩:=Zw h;cases xe:o.dst with
   |none=>rw[xe]at h;cases d<;>cases h
   |some u=>
    rw[xe]at h;cases d with
    |str l=>
     simp only at h;refine cj.adk (by grind[Spec]) bx u xe _ _ (.inr ⟨l,0,rfl,rfl⟩) h λψ Q a w p=>?_
     have hv:=p.val (x:=y) (by simp[Op.operands,ho]) hd;generalize hy:a.eval y=v at hv;cases hv with
     |str x=>
      refine⟨w.alloc (.stringIter x 0),⟨w.heap.size,0,0⟩,?_,.alloc w _,aM _,Do,rfl,x,heap_alloc_new w _,rfl⟩;simp[execOp,ho,hy,Instr.range,Zl w ht]
    |_=>cases h
  |_=>cases h
theorem Zyf (s:ByteArray) (i:Nat):s.get! i=s.data.toList.getD i 0:=by
 show s.data[i]! =_;rw[Array.getElem!_eq_getD,ef,sB];simp;rfl
theorem Cu (s:ByteArray) (i:Nat):dec s.data.toList i=Utf8.decode s i:=by
 have hl:s.data.toList.length=s.size:=by rw[oU];rfl
 simp[dec,Utf8.decode,Zyf,hl]
theorem ZnT {b:Nat} {x:ByteArray} (h:w.heap[b]? =some (.stringIter x p)):(getObj b).run P w= .ok (.stringIter x p) w:=by
 simp[getObj,Sem.run,h]
theorem ZuJ {b:Nat} {x y:ByteArray} {q:Nat} (h:w.heap[b]? =some (.stringIter x p)):(setObj b (.stringIter y q)).run P w= .ok () (ml w b (.stringIter y q)):=by
 rw[setObj,Sem.run,h];rfl
theorem ZvL {t:Nat} (ho:o.op= .next (.tmp t) true) (bx: ∀h,W h->D h) (hW: ∀v,(E.get t).dr=some v->W (.inr v)) (h:W5 E o K ms t s=some r):cj C md pr ms o D W E s K r:=by
 unfold W5 at h;cases hl:E.get t with
 |it v l pos=>
  rw[hl]at h;cases xe:o.dst with
  |none=>rw[xe]at h;cases h
  |some d=>
   rw[xe]at h;simp only at h;have⟨hc,h⟩:=IE h;rw[BB]at hc;have hWv:=hW v (by rw[hl];rfl);have at_: ∀ψ Q a w,aA C o D E s ψ Q a w->∃cb x,ψ (.inr v)=some cb/\a.eval (.tmp t)= .pointer (some ⟨cb.b,0,none⟩)/\Q (.inr v) (.iter l pos)/\w.heap[cb.b]? =some (.stringIter x pos)/\x.data.toList=l:=by
    intro ψ Q a w p;have:=p.args t (by simp[Op.operands,ho]);rw[hl]at this;have⟨cb,e1,e2⟩:=this;have hq:=p.ko (.inr v) (.iter l pos) cb (bx _ hWv) (.inr ⟨t,l,pos,hl,rfl⟩) e1;have⟨x,h1,h2⟩:=p.fh.holds _ cb _ e1 hq;exact⟨cb,x,e1,e2,hq,h1,h2⟩
   cases hb:Nat.blt pos l.length with
   |false=>
    rw[hb]at h;simp only[af]at h;refine cj.pure bx (.qR [.bool false]) rfl (λ_ _ _ _ e=>nomatch e) (by rw[xe];exact h) λψ Q a w p=>?_
    have⟨cb,x,e1,e2,hq,h1,h2⟩:=at_ ψ Q a w p;have hlen: ¬pos<x.size:=by
     have:x.data.toList.length=x.size:=by rw[oU];rfl
     rw[<-this,h2];intro aw;have:Nat.blt pos l.length=true:=by rw[qX];exact aw
     rw[hb]at this;cases this
    refine⟨.tuple #[.bool false],w,?_,.refl w,_,rfl,.cons _ _ _ _ (.bool _) .nil⟩;simp only[execOp,ho,e2,Instr.next,Sem.run_bind,ZnT h1,Result.andThen_ok,hlen,nz,Sem.run_pure]
   |true=>
    rw[hb]at h;simp only[ae]at h;have aw:pos<l.length:=by rw[qX]at hb;exact hb
    have get: ∀k,((E.put t (.it v l (pos+wv l pos))).put d (.qR [.bool true,.int .i64 pos,.int .i32 (Eo l pos)])).get k=
      if d=k then .qR [.bool true,.int .i64 pos,.int .i32 (Eo l pos)]else if t=k then .it v l (pos+wv l pos)else E.get k:=λk=>by rw[Env.tp,Env.tp]
    have uniq:jJ E->∀q,(E.get q).dr=some v->q=t:=λhE q hq=>hE.uniq q t v hq (by rw[hl];rfl)
    refine .inl ⟨_,_,h,⟨aM _,aM _,λhE=>⟨?_,?_,?_,?_⟩,?_,(λk d' _ h'=>by
     rw[get]at h';grind),?_,?_,?_,?_,λ_ _ _=>rfl,.inr (by unfold Spec;rw[ho];trivial),.inl rfl⟩,?_⟩
    .intro k v' h'
     rw[get]at h';split at h'
     .cases h'
     .split at h'
      .cases h';exact hE.lt t v (by rw[hl];rfl)
      .exact hE.lt k v' h'
    .intro k a b c h'
     rw[get]at h';split at h'
     .cases h'
     .split at h'
      .cases h'
      .exact hE.pl k a b c h'
    .intro k a b c h'
     rw[get]at h';split at h'
     .cases h'
     .split at h'
      .cases h'
      .exact hE.len k a b c h'
    .intro k k' v' h' AQ
     rw[get]at h' AQ;split at h'
     .cases h'
     .split at AQ
      .cases AQ
      .split at h'<;>split at AQ
       .omega
       .cases h';grind
       .cases AQ;grind
       .exact hE.uniq k k' v' h' AQ
    .grind
    .intro k hk C' ψ x hr
     rw[get,bq (λe=>hk (by rw[xe,e]))];split
     .rename_i e;subst e;rw[hl]at hr;exact hr
     .exact hr
    .intro h' ab c
     cases h' with
     |inl i=>exact .inr (.inr c)
     |inr k=>
      rcases c with⟨q,n',cs',hq,gf⟩|⟨q,l',p,hq,gf⟩
      .rw[get]at hq
       split at hq
       .cases hq
       .split at hq
        .cases hq
        .exact .inr (.inr (.inl ⟨q,n',cs',hq,gf⟩))
      .rw[get]at hq
       split at hq
       .cases hq
       .split at hq
        .grind
        .exact .inr (.inr (.inr ⟨q,l',p,hq,gf⟩))
    .grind
    .grind
    .intro ψ Q a w next QQ p room hn
     have⟨cb,x,e1,e2,hq,h1,h2⟩:=at_ ψ Q a w p;have hx:x.data.toList.length=x.size:=by rw[oU];rfl
     have uM:pos<x.size:=by rw[<-hx,h2];exact aw
     have dp:=BO.ml w cb.b (.stringIter x (pos+wv l pos));have hr:(execOp a.eval o).run C.P w= .ok (.value (.tuple #[.bool true,.int .i64 pos,.int .i32 (Eo l pos)])) (ml w cb.b (.stringIter x (pos+wv l pos))):=by
      have hd:=Cu x pos;rw[h2]at hd;simp only[execOp,ho,e2,Instr.next,Sem.run_bind,ZnT h1,Result.andThen_ok,uM,mV,<-hd,ZuJ h1,Sem.run_pure];rfl
     unfold Oper.wp;rw[hr];refine hn ψ (zN Q (.inr v) (.iter l (pos+wv l pos))) _ _ ⟨fC.set p.fh e1 hq rfl dp.other ⟨x,Nk (Ja h1) _,h2⟩,Ext.set e1 hq rfl dp.other dp.size dp.tape dp.os dp.output,
      λ_ _ e=> .inl e,λh' ab c cr hw e'=>?_,λh' ab c e' q nw _=>?_⟩ (λd' kV=>?_)
     .have fO:(h'= .inr v/\ab= .iter l (pos+wv l pos))\/(h'≠ .inr v/\CR E s h' ab):=by
       cases h' with
       |inl i=>exact .inr ⟨Do,cr⟩
       |inr k=>
        rcases cr with⟨q,n',cs',hq,gf⟩|⟨q,l',p',hq,gf⟩
        .rw[get]at hq
         split at hq
         .cases hq
         .split at hq
          .cases hq
          .rename_i KO
           refine .inr ⟨λe=>?_,.inl ⟨q,n',cs',hq,gf⟩⟩;cases e;exact KO (uniq p.gX q (by rw[hq];rfl)).symm
        .rw[get]at hq
         split at hq
         .cases hq
         .split at hq
          .grind
          .rename_i KO
           refine .inr ⟨λe=>?_,.inr ⟨q,l',p',hq,gf⟩⟩;cases e;exact KO (uniq p.gX q (by rw[hq];rfl)).symm
      rcases fO with⟨rfl,rfl⟩|⟨aiD,cr⟩
      .exact .inl ⟨rfl,rfl⟩
      .refine .inr ⟨aiD,?_⟩
       rcases hw with hw|⟨n1,n2⟩
       .exact p.ko h' ab c (bx h' hw) cr e'
       .exact absurd (cr.rQ p.gX) n1
     .exact .inr Fd
     .rw[xe]at kV;cases kV
      rw[get,bG rfl];exact⟨_,rfl,.cons _ _ _ _ (.bool _) (.cons _ _ _ _ (.int _ _) (.cons _ _ _ _ (.int _ _) .nil))⟩
 |_=>rw[hl]at h;cases h
theorem ZmL (h1:P.underlying P.rt.typeAssertionError=some (.pointer e)) (_h2:P.underlying e=some d) (i c:Option TypeId) (a:TypeId) (m:String) (w:World):
  ∃t v o,(runtimePanic (.typeAssertion i c a m):Sem Value).run P w= .halt (.panic (.iface t v)) (w.alloc o):=by
 simp only[runtimePanic,Sem.run_bind,run_program,Result.andThen_ok,elemOf,Zl w h1,Sem.run_pure,UX,run_goPanic];grind
theorem xZ.more (ec: ∀ψ Q a w,aA C o D E s ψ Q a w->∃t v w',(execOp a.eval o).run C.P w= .halt (.panic (.iface t v)) w'/\hY w w') (hD: ∀i,D (.inl i)):xZ C o D E s s:=by
 refine⟨aM _,λψ Q a w next QQ p _ hn=>?_⟩;have⟨t,v,w',hr,hm⟩:=ec ψ Q a w p;unfold Oper.wp;rw[hr];exact hn ψ Q _ w' ⟨t,v,rfl⟩ (p.fh.more p.gO hm) (Ext.more hm) (λ_ _ e=> .inl e) λi ab cb h e=>p.ko (.inl i) ab cb (hD i) h e
theorem Vd (h:LF md s=some r):md.x=0/\r=(.fy,s):=by
 unfold LF at h;have⟨h1,h⟩:=Zt h;refine⟨dP h1,?_⟩;grind[AH,fZ]
theorem Ztv (hc:pw C) (ho:o.op= .typeAssert y xt t false) (bx: ∀h,W h->D h) (hD: ∀i,D (.inl i)) (h:VW C E o K md t y s=some r):cj C md pr ms o D W E s K r:=by
 unfold VW at h;cases ht:C.P.underlying t with
 |none=>rw[ht]at h;cases h
 |some td=>
  have KJ: ∀m,td≠ .interface m:=by rintro m rfl;rw[ht]at h;cases h
  have h':fH C E y (λd=>Go.Gv.vC (LF md) d (C.ty t) λd=>AM (nv C.P t) d (cJ E o K)) s=some r:=by rw[ht]at h;cases td<;>first|exact h|grind
  have⟨d,hd,h'⟩:=Zw h';have abV: ∀(a:Act) (w:World),(a.eval y= .nilIface\/∃t' v,a.eval y= .iface t' v/\t'≠t)->∃t v w',(execOp a.eval o).run C.P w= .halt (.panic (.iface t v)) w'/\hY w w':=by
   intro a w hy;have⟨e,ed,e1,e2⟩:=hc.tae;rcases hy with hy|⟨t',v,hy,dQ⟩
   .have⟨tv,v,ob,hv⟩:=ZmL e1 e2 (some xt) none t "" w
    refine⟨tv,v,_,?_,.alloc w ob⟩;simp only[execOp,ho,hy,Instr.typeAssert,Sem.run_bind,Zl w ht,Result.andThen_ok];cases td<;>first|(simp only[uX,nz,hv,Result.andThen_halt];done)|exact absurd rfl (KJ _)
   .have⟨tv,v,ob,hv⟩:=ZmL e1 e2 (some xt) (some t') t "" w
    refine⟨tv,v,_,?_,.alloc w ob⟩;simp only[execOp,ho,hy,Instr.typeAssert,Sem.run_bind,Zl w ht,Result.andThen_ok];cases td<;>first|(simp only[bq dQ,uX,nz,hv,Result.andThen_halt];done)|exact absurd rfl (KJ _)
  cases d with
  |iface t' d=>
   simp only[Go.Gv.vC]at h';cases hb:Nat.beq t' (C.ty t)with
   |true=>
    rw[hb]at h';simp only[ae]at h';have⟨d',h',hr,_⟩:=NP h';refine cj.val bx _ h' λψ Q a w p=>?_
    have hv:=p.val (x:=y) (by simp[Op.operands,ho]) hd;generalize hy:a.eval y=v at hv;cases hv with
    |iface t0 _ v hv=>
     have:=hc.ty _ _ (dP hb);subst this;refine⟨v,w,?_,.refl w,hr C ψ v hv⟩;simp only[execOp,ho,hy,Instr.typeAssert,Sem.run_bind,Zl w ht,Result.andThen_ok];cases td<;>first|(simp;done)|exact absurd rfl (KJ _)
   |false=>
    rw[hb]at h';obtain⟨hx,rfl⟩:=Vd h';refine .inr ⟨hx,s,rfl,xZ.more (λψ Q a w p=>abV a w (.inr ?_)) hD⟩;have hv:=p.val (x:=y) (by simp[Op.operands,ho]) hd;generalize hy:a.eval y=v at hv;cases hv with
    |iface t0 _ v hv=>exact⟨t0,v,rfl,λe=>by subst e;rw[FP]at hb;cases hb⟩
  |nilIface=>
   obtain⟨hx,rfl⟩:=Vd h';refine .inr ⟨hx,s,rfl,xZ.more (λψ Q a w p=>abV a w (.inl ?_)) hD⟩;have hv:=p.val (x:=y) (by simp[Op.operands,ho]) hd;generalize hy:a.eval y=v at hv;cases hv;rfl
  |_=>cases h'
theorem ZuD (ho:o.op= .panic y) (hD: ∀i,D (.inl i)) (h:Wb C E md y s=some r):cj C md pr ms o D W E s K r:=by
 unfold Wb at h;have⟨d,hd,h⟩:=Zw h;cases d with
 |iface t d=>
  obtain⟨hx,rfl⟩:=Vd h;refine .inr ⟨hx,s,rfl,xZ.more (λψ Q a w p=>?_) hD⟩;have hv:=p.val (x:=y) (by simp[Op.operands,ho]) hd;generalize hy:a.eval y=v at hv;cases hv with
  |iface t0 _ v hv=>exact⟨t0,v,w,by simp only[execOp,ho,hy,Instr.panic,Sem.run_bind,run_goPanic,Result.andThen_halt],.refl w⟩
 |_=>cases h
end
section
variable {C:bE} {o:Oper} {D W:dN->Prop} {E:Env} {s:St} {md:Md} {pr ms:al}
theorem Zu6: ∀(l:List Value) (k off:Nat) (c:Array Value),(l.zipIdx k).foldl (λcs (x:Value×Nat)=>cs.setIfInBounds (off+x.2) x.1) c=qN c (off+k) l
 |[],_,_,_=>rfl
 |v::l,k,off,c=>by
  rw[List.zipIdx_cons,BF,qN,Zu6 l (k+1) off];rfl
theorem Zw2 (place:Nat->ai) (cells:Array Value) (i:Nat) (v:Value) (rest:List (Nat×Value)) {size:Nat} (hp:place i=some (off,size)) (h1:v.cells.size=size) (h2:off+size<=cells.size):
  Instr.fill place cells ((i,v)::rest)=Instr.fill place (qN cells off v.cells.toList) rest:=by
 subst h1;have e:v.cells.zipIdx.foldl (λcs (x:Value×Nat)=>cs.setIfInBounds (off+x.2) x.1) cells=qN cells off v.cells.toList:=by
  rw[<-Array.foldl_toList,Array.toList_zipIdx];exact Zu6 v.cells.toList 0 off cells
 have hn: ¬(off+v.cells.size>cells.size):=AC
 simp only[Instr.fill,hp,ne_eq,not_true_eq_false,decide_false,wD,hn,uX,nz];grind
theorem bH.zw (h:bH C ψ ds vs.toList):ds.length=vs.size:=by have:=h.len;simpa using this
theorem ZzG {us:List Value} (h:bH C ψ cs vs.toList) (h':bH C ψ ds us) (hl:off+ds.length<=cs.length):bH C ψ (cG cs off ds) (qN vs off us).toList:=by
 have e1:=h.zw;have e2:=h'.len;refine bH.of _ _ (by simp[IZ,e1]) λj d v hd hv=>?_
 rw[Ju cs off ds j hl]at hd;rw[lx,NS _ _ _ _ AC]at hv;split at hd
 .rw[bG AC]at hv
  have⟨v',fg,hr⟩:=h'.get hd;rw[hv]at fg;cases fg;exact hr
 .rw[bq AC]at hv
  have⟨v',fg,hr⟩:=h.get hd;rw[lx,hv]at fg;cases fg;exact hr
theorem VC {N:Nat} {place:Nat->ai} {r:Out β×St} : ∀ {l:List (Nat×Operand)} {cs:ah} {K:ah->M β},Di E C N place l cs K s=some r->cs.length=N->
  ∃cs',K cs' s=some r/\cs'.length=N/\∀ψ Q a w,aA C o D E s ψ Q a w->(∀x∈l,x.2∈o.op.operands)->∀vs:Array Value,bH C ψ cs vs.toList->cs.all one=true->
   ∃jm,Instr.fill place vs (l.map λx=>(x.1,a.eval x.2))=some jm/\bH C ψ cs' jm.toList/\cs'.all one=true
 |[],cs,K,h,hl=>⟨cs,h,hl,λψ Q a w _ _ vs hr h1=>⟨vs,rfl,hr,h1⟩⟩
 |(i,x)::l,cs,K,h,hl=>by
  simp only[Di]at h;cases hp:place i with
  |none=>rw[hp]at h;cases h
  |some on=>
   have⟨off,n⟩:=on;rw[hp]at h;simp only at h;have⟨hb,h⟩:=Zt h;have hb:=qY hb;have⟨d,hd,h⟩:=Zw h;have go: ∀ds,Di E C N place l (cG cs off ds) K s=some r->ds.length=n->(∀(ψ:Ps) v,VR C ψ d v->bH C ψ ds v.cells.toList/\ds.all one=true)->
     ∃cs',K cs' s=some r/\cs'.length=N/\∀ψ Q a w,aA C o D E s ψ Q a w->(∀y∈(i,x)::l,y.2∈o.op.operands)->∀vs:Array Value,bH C ψ cs vs.toList->cs.all one=true->
      ∃jm,Instr.fill place vs (((i,x)::l).map λx=>(x.1,a.eval x.2))=some jm/\bH C ψ cs' jm.toList/\cs'.all one=true:=by
    intro ds h jM hr;have⟨cs',h,Ky,wa⟩:=VC h (by rw[IZ];exact hl);refine⟨cs',h,Ky,λψ Q a w p hm vs hv h1=>?_⟩;have⟨h3,h4⟩:=hr ψ _ (p.val (hm (i,x) Do) hd);have cL:(a.eval x).cells.size=n:=by rw[<-jM,h3.zw]
    have Df:=hv.zw;have⟨jm,e1,e2,e3⟩:=wa ψ Q a w p Fd _ (ZzG (off:=off) hv h3 AC) (Zvk h1 h4 AC);refine⟨jm,?_,e2,e3⟩;rw[oe,Zw2 place vs i _ _ hp cL AC];exact e1
   have plain:(∀cs,d≠ .agg cs)->(bif Nat.beq n 1 then aB (one d) (Di E C N place l (cG cs off [d]) K)else fail) s=some r->_:=λhna h=>by
    have⟨h1,h⟩:=Zt h;have⟨h2,h⟩:=mC h;exact go [d] h (by simpa using (dP h1).symm) (λψ v hv=>by rw[hv.abM h2];exact⟨.cons _ _ _ _ hv .nil,by simp[h2]⟩)
   cases d with
   |agg ds=>
    simp only at h;have⟨h1,h⟩:=VK h;rw[Ws hl h1 hb]at h;exact go ds h h1 (λψ v hv=>by cases hv with|agg _ vs a b=>exact⟨a,b⟩)
   |_=>exact plain Do h
theorem ZlZ {P:Program} : ∀(fs:List Field),(fs.all λf=>(P.info? f.type).isSome)=true->fs.mapM (λf=>(P.info? f.type).map λi=>(f.offset,i.size))=some (fs.map λf=>(f.offset,P.cellsOf f.type))
 |[],_=>rfl
 |f::fs,h=>by
  simp only[wE,aY]at h;have⟨i,hi⟩:=Option.isSome_iff_exists.1 h.1;simp[List.mapM_cons,hi,ZlZ fs h.2,Program.cellsOf]
theorem Zus (ho:o.op= .build t ps) (bx: ∀h,W h->D h) (h:Wa C E o K t ps s=some r):cj C md pr ms o D W E s K r:=by
 unfold Wa at h;cases hz:nD C.P t with
 |none=>rw[hz]at h;cases h
 |some z=>
  rw[hz]at h;simp only at h;have⟨lN,h⟩:=Zt h;have⟨cs',h,hl,hr⟩:=VC (o:=o) (D:=D) h rfl;refine cj.val bx _ h λψ Q a w p=>?_
  unfold nD at hz;cases hi:C.P.info? t with
  |none=>rw[hi]at hz;cases hz
  |some it=>
   rw[hi]at hz;simp only at hz;cases we:it.zero with
   |none=>rw[we]at hz;cases hz
   |some zv=>
    rw[we]at hz;have⟨jA,gp⟩:=F9 (C:=C) (ψ:=ψ) hz;have⟨jm,e1,e2,e3⟩:=hr ψ Q a w p (λx hx=>by simp only[Op.operands,ho,List.mem_toArray,oW];exact⟨x,hx,rfl⟩) _ jA gp;refine⟨.agg jm,w,?_,.refl w,.agg _ _ e2 e3⟩;have hb:C.P.built t (ps.map λ(i,x)=>(i,a.eval x)).toList=some jm:=by
     have yG:Instr.fill (WN C.P t) zv.cells (ps.map λ(i,x)=>(i,a.eval x)).toList=some jm:=by rw[Array.toList_map];exact e1
     unfold Program.built Zsz at*
     unfold WN at yG;cases hu:C.P.underlying t with
     |none=>rw[hu]at lN;cases lN
     |some td=>
      rw[hu]at lN yG;rw[hi];cases td with
      |struct fs=>
       simp only at lN⊢;rw[we,ZlZ _ lN];grind
      |array m e=>
       simp only at lN⊢;have⟨ie,vT⟩:=Option.isSome_iff_exists.1 lN;rw[we,vT];simp only at yG⊢;rw[<-yG];simp[Program.cellsOf,vT]
      |_=>cases lN
    rw[execOp,ho,Sem.run_bind,run_build w t _ _ hb,Result.andThen_ok,Sem.run_pure]
theorem F8 (n:Nat) (z:ah):(iD n z).length=n*z.length:=by
 induction n with
 |zero=>simp[iD]
 |succ n ih=>
  have:iD (n+1) z=z++iD n z:=FS
  rw[this,bz,ih,FU,tX]
theorem Ec (h:z.all one=true):(iD n z).all one=true:=by
 induction n with
 |zero=>rfl
 |succ n ih=>
  have:iD (n+1) z=z++iD n z:=FS
  rw[this,tT,h,ih];rfl
theorem ZzR (n:Nat) (z:ah) (j:Nat) (h:j<n*z.length):(iD n z)[j]? =z[j%z.length]? :=by
 induction n generalizing j with
 |zero=>simp at h
 |succ n ih=>
  have e:iD (n+1) z=z++iD n z:=FS
  rw[e];by_cases hj:j<z.length
  .rw[mn hj,Nat.mod_eq_of_lt hj]
  .rw[kL AC,ih (j-z.length) (by rw[FU]at h;omega)]
   rw[show j%z.length=(j-z.length)%z.length from by rw[Nat.mod_eq_sub_mod AC]]
theorem V2 (h:bH C ψ z zv.toList) (n m:Nat) (hm:n*z.length<=m):bH C ψ (iD n z) ((madeCells zv m).toList.take (iD n z).length):=by
 have hl:=h.zw;refine bH.of _ _ (by grind[size_madeCells,F8]) λj d v hd hv=>?_
 rw[F8,xR]at hv;split at hv
 .rename_i hj
  rw[ZzR n z j hj]at hd;have⟨v',fg,hr⟩:=h.get hd;rw[lx]at hv fg;grind[madeCells]
 .cases hv
theorem ZoC {len:Nat} (ho:o.op= .buildSlice t len ps) (bx: ∀h,W h->D h) (h:TZ C E o K t len ps s=some r):cj C md pr ms o D W E s K r:=by
 unfold TZ at h;unfold yu at h;cases ht:C.P.underlying t with
 |none=>rw[ht]at h;cases h
 |some td=>
  rw[ht]at h;cases td with
  |slice e=>
   simp only at h;cases hz:nD C.P e with
   |none=>rw[hz]at h;cases h
   |some z=>
    rw[hz]at h;simp only at h;have⟨hb,h⟩:=Zt h;rw[aY]at hb;have kT:=qY hb.1;have dh:=dP hb.2;have⟨cs',h,hl,hr⟩:=VC (o:=o) (D:=D) h (by rw[F8,dh]);refine cj.Ly (by unfold tZ;rw[ho];trivial) bx (.slice (C.P.cellsOf e) (some (s.length,0)) len) cs' h λψ Q a w p=>?_
    have⟨zv,Lj,HL,jA⟩:=UC (P:=C.P) w hz;have HL:=HL C ψ;have vT: ∃ie,C.P.info? e=some ie/\ie.size=C.P.cellsOf e:=by
     unfold nD at hz;cases hi:C.P.info? e with
     |none=>rw[hi]at hz;cases hz
     |some ie=>exact⟨ie,rfl,by simp[Program.cellsOf,hi]⟩
    have⟨ie,vT,acv⟩:=vT;have KE:=V2 HL len (len*C.P.cellsOf e) (by rw[dh];exact aM _);rw[F8,dh,Jk (by simp[size_madeCells])]at KE;have⟨jm,e1,e2,e3⟩:=hr ψ Q a w p (λx hx=>by simp only[Op.operands,ho,List.mem_toArray,oW];exact⟨x,hx,rfl⟩) _ KE (Ec jA);have Df:=e2.zw;rw[hl]at Df;refine⟨.slice (some ⟨w.heap.size,0,none⟩) len len,w.alloc (.cells jm e),⟨w.heap.size,0,jm.size⟩,?_,.alloc w _,aM _,Do,Gg (by rw[Jk (by simp[hl,Df])];exact e2) e3,λψ' _ xy=>?_⟩
    .have hn: ¬(len*C.P.cellsOf e>2^24):=AC
     by_cases h0:len*C.P.cellsOf e=0
     .have e0:madeCells zv.cells (len*C.P.cellsOf e)= #[]:=by rw[h0];simp[madeCells,Array.range_zero']
      rw[e0]at e1;simp only[execOp,ho,Instr.buildSlice,Sem.run_bind,Zl w ht,Result.andThen_ok,sizeOf,typeInfo,run_program,vT,Sem.run_pure,acv,h0,mV,Array.range_zero',Array.map_empty];simp[e1,newRow]
     .simp only[execOp,ho,Instr.buildSlice,Sem.run_bind,Zl w ht,Result.andThen_ok,sizeOf,typeInfo,run_program,vT,Sem.run_pure,acv,hn,nz,h0,Lj]
      unfold madeCells at e1;simp[e1,newRow]
    .have:=VR.slice (C:=C) (ψ:=ψ') (C.P.cellsOf e) s.length 0 len ⟨w.heap.size,0,jm.size⟩ ⟨w.heap.size,0,none⟩ len xy (aM _) Fd
     exact this
  |_=>cases h
theorem ZpE {l c:Operand} (ho:o.op= .makeSlice t l c) (bx: ∀h,W h->D h) (h:Uq C E o K t l c s=some r):cj C md pr ms o D W E s K r:=by
 unfold Uq yu at h;cases ht:C.P.underlying t with
 |none=>rw[ht]at h;cases h
 |some td=>
  rw[ht]at h;cases td with
  |slice e=>
   simp only at h;cases hz:nD C.P e with
   |none=>rw[hz]at h;cases h
   |some z=>
    rw[hz]at h;simp only at h;have⟨dh,h⟩:=Zt h;have dh:=dP dh;have⟨k1,n,hn,h⟩:=Gq h;have⟨k2,m,hm,h⟩:=Gq h;have⟨hb,h⟩:=mC h;simp only[aY,z8]at hb;have⟨⟨h0,h1⟩,h2⟩:=hb;refine cj.Ly (by unfold tZ;rw[ho];trivial) bx (.slice (C.P.cellsOf e) (some (s.length,0)) n.toNat) (iD n.toNat z) h λψ Q a w p=>?_
    unfold nD at hz;cases hi:C.P.info? e with
    |none=>rw[hi]at hz;cases hz
    |some ie=>
     rw[hi]at hz;simp only at hz;cases we:ie.zero with
     |none=>rw[we]at hz;cases hz
     |some zv=>
      rw[we]at hz;have⟨jA,gp⟩:=F9 (C:=C) (ψ:=ψ) hz;have cL:ie.size=C.P.cellsOf e:=by simp[Program.cellsOf,hi]
      have ahY:(ie.bytes:Int)*m<=281474976710656:=by
       unfold Dj NA at h2;rw[hi]at h2;simp only at h2;have h3:m.toNat<=70368744177664/ie.bytes:=AC
       rcases BI ie.bytes with hz|hp
       .rw[hz];simp
       .have:=(Nat.le_div_iff_mul_le hp).1 h3
        have e:m=(m.toNat:Int):=AC
        rw[e,<-Int.natCast_mul,DJ];omega
      have OM:m<=9223372036854775807:=by
       unfold Dj at h2;have:=FR 70368744177664 (NA C.P e);omega
      have hr:=run_make (P:=C.P) w t e ie zv ht hi we k1 k2 n m h0 h1 ahY OM;have hle:n.toNat*C.P.cellsOf e<=m.toNat*ie.size:=by rw[cL];exact FT _ AC
      refine⟨.slice (some ⟨w.heap.size,0,none⟩) n.toNat m.toNat,w.alloc (.cells (madeCells zv.cells (m.toNat*ie.size)) e),⟨w.heap.size,0,(madeCells zv.cells (m.toNat*ie.size)).size⟩,?_,.alloc w _,aM _,Do,Gg (V2 jA n.toNat (m.toNat*ie.size) (by rw[dh];exact hle)) (Ec gp),λψ' _ xy=>?_⟩
      .have e1:=p.int (x:=l) (by simp[Op.operands,ho]) hn
       have e2:=p.int (x:=c) (by simp[Op.operands,ho]) hm;simp only[execOp,ho,e1,e2,Sem.run_bind,hr,Result.andThen_ok,Sem.run_pure]
      .exact VR.slice _ _ 0 _ _ _ _ xy AC (λ_=>⟨rfl,by simp only[size_madeCells,cL];omega⟩)
  |_=>cases h
theorem Zx7 {b:Builtin} (hq:q.callee= .builtin b) (hb:b= .len) (ho:o.op= .call q) (bx: ∀h,W h->D h) (h:aaC C E o K q.argTypes q.args s=some r):cj C md pr ms o D W E s K r:=by
 subst hb;unfold aaC at h;cases ha:q.args.toList with
 |nil=>rw[ha]at h;cases h
 |cons y rest=>
  cases rest with
  |cons _ _=>rw[ha]at h;cases h
  |nil=>
   cases ht:q.argTypes[0]? with
   |none=>rw[ha,ht]at h;cases h
   |some t=>
    rw[ha,ht]at h;simp only at h;have kS:q.args= #[y]:=by rw[<-Array.toArray_toList (xs:=q.args),ha]
    have mem:y∈o.op.operands:=by rw[ho];simp[Op.operands,Call.operands,hq,kS]
    have run: ∀(a:Act) (w:World) v,(Builtin.len_ q.argTypes o.type #[a.eval y]).run C.P w= .ok v w->(execOp a.eval o).run C.P w= .ok (.value v) w:=by
     intro a w v hv;simp[execOp,ho,resolve,hq,invoke,builtin,kS,hv]
    cases hu:C.P.underlying t with
    |none=>rw[hu]at h;cases h
    |some td=>
     rw[hu]at h;cases td with
     |array m e=>
      refine cj.val bx _ h λψ Q a w p=>⟨.int .i64 m,w,run a w _ ?_,.refl w,.int _ _⟩
      simp[Builtin.len_,ht,Zl w hu,goInt]
     |string=>
      simp only at h;have⟨d,hd,h⟩:=Zw h;cases d with
      |str l=>
       refine cj.val bx _ h λψ Q a w p=>?_
       have hv:=p.val mem hd;generalize hy:a.eval y=v at hv;cases hv with
       |str x=>
        refine⟨.int .i64 x.size,w,run a w _ ?_,.refl w,?_⟩
        .simp[Builtin.len_,ht,Zl w hu,goInt,hy]
        .have:x.data.toList.length=x.size:=by rw[oU];rfl
         rw[this];exact .int _ _
      |_=>cases h
     |slice e=>
      simp only at h;have⟨d,hd,h⟩:=Zw h;cases d with
      |slice z a' n=>
       refine cj.val bx _ h λψ Q a w p=>?_
       have hv:=p.val mem hd;generalize hy:a.eval y=v at hv;cases hv with
       |tP=>exact⟨.int .i64 (0:Nat),w,run a w _ (by simp[Builtin.len_,ht,Zl w hu,goInt,hy]),.refl w,.int _ _⟩
       |slice _ i off _ cb base cap=>exact⟨.int .i64 n,w,run a w _ (by simp[Builtin.len_,ht,Zl w hu,goInt,hy]),.refl w,.int _ _⟩
      |_=>cases h
     |_=>cases h
theorem ZrL {b:Builtin} (hq:q.callee= .builtin b) (hb:b=if mx then .max else .min) (ho:o.op= .call q) (bx: ∀h,W h->D h) (h:Qa C E o K mx q.args s=some r):cj C md pr ms o D W E s K r:=by
 unfold Qa at h;cases ha:q.args.toList with
 |nil=>rw[ha]at h;cases h
 |cons y rest=>
  cases rest with
  |nil=>rw[ha]at h;cases h
  |cons z rest=>
   cases rest with
   |cons _ _=>rw[ha]at h;cases h
   |nil=>
    rw[ha]at h;simp only at h;have kS:q.args= #[y,z]:=by rw[<-Array.toArray_toList (xs:=q.args),ha]
    have my:y∈o.op.operands:=by rw[ho];simp[Op.operands,Call.operands,hq,kS]
    have mz:z∈o.op.operands:=by rw[ho];simp[Op.operands,Call.operands,hq,kS]
    have⟨d,hd,h⟩:=Zw h;have⟨e,he,h⟩:=Zw h;cases d with
    |int k n=>
     cases e with
     |int k' m=>
      simp only at h;have⟨hk,h⟩:=Zt h;refine cj.val bx _ h λψ Q a w p=>?_
      have e1:=p.int my hd;have e2:=p.int mz he;cases mx with
      |true=>
       simp only[mV]at hb;subst hb;exact⟨.int k (if n<m then m else n),w,by simp[execOp,ho,resolve,hq,invoke,builtin,kS,e1,e2,Builtin.max_,Builtin.max2],.refl w,.int _ _⟩
      |false=>
       simp only[uX,nz]at hb;subst hb;exact⟨.int k (if m<n then m else n),w,by simp[execOp,ho,resolve,hq,invoke,builtin,kS,e1,e2,Builtin.min_,Builtin.min2],.refl w,.int _ _⟩
     |_=>cases h
    |_=>cases h
end
section
variable {C:bE} {o:Oper} {D W:dN->Prop} {E:Env} {s:St} {md:Md} {pr ms:al}
theorem WC {a:ai} {K:ah->M β} (h:dx a n K s=some r):
  ∃ds,K ds s=some r/\ds.length=n/\((a=none/\n=0/\ds=[])\/∃i q f cs,a=some (i,q)/\dD s i=some (.cells f cs)/\q+n<=cs.length/\ds=(cs.drop q).take n):=by
 cases a with
 |none=>
  simp only[dx]at h;have⟨h1,h⟩:=Zt h;have:=dP h1;grind
 |some iq=>
  have⟨i,q⟩:=iq;simp only[dx]at h;have⟨f,cs,h1,h2,h⟩:=I6 h;grind
theorem Ob {A:Act} (p:aA C o D E s ψ Q A w) (hD: ∀i,D (.inl i)) {z sz k:Nat} {a:ai} (hv:VR C ψ (.slice z a m) v)
  (hz:z=sz\/a=none) (hn:n=k*sz) (hk:k<=m)
  (pU:(a=none/\n=0/\ds=[])\/∃i q f cs,a=some (i,q)/\dD s i=some (.cells f cs)/\q+n<=cs.length/\ds=(cs.drop q).take n):
  ∃base cap vs,v= .slice base m cap/\(∀w',w'.heap=w.heap->(Builtin.firstCells sz k v).run C.P w'= .ok vs w')/\bH C ψ ds vs.toList/\ds.all one=true:=by
 subst hn;cases hv with
 |tP=>
  rcases pU with⟨_,_,rfl⟩|⟨i,q,f,cs,h,_⟩
  .exact⟨none,0, #[],rfl,λw' _=>FS,.nil,rfl⟩
  .cases h
 |slice _ i q _ cb ad cap jh rV hb=>
  rcases pU with⟨h,_⟩|⟨i',q',f,cs,h,h1,h2,rfl⟩
  .cases h
  .cases h
   have hz:z=sz:=Fd
   subst hz;have hh:=p.at (hD i) h1 jh;by_cases h0:k*z=0
   .refine⟨some ad,cap, #[],rfl,λw' _=>?_,?_,?_⟩
    .simp[Builtin.firstCells,h0,loadCells,loadCellsFrom]
    .rw[h0];rw[Ib];exact .nil
    .rw[h0];simp
   .have hc:0<cap:=by
     grind
    have⟨e1,e2⟩:=hb hc;have⟨vs,e3,e4,e5,e6⟩:=Zm1 (P:=C.P) hh h2;exact⟨some ad,cap,vs,rfl,λw' hw=>by rw[Builtin.firstCells,e1,e3 w' hw],e5,e6⟩
theorem Zps {ψ:Ps} : ∀ {ds:ah} {l:aj} {vs:List Value},uq ds=some l->bH C ψ ds vs->∃ns:ak,vs=ns.map (Value.int .u8)/\ns.map (λn=>UInt8.ofNat n.toNat)=l
 |[],l,vs,h,hv=>by
  simp only[uq,fZ]at h;cases hv;exact⟨[],rfl,h⟩
 |d::ds,l,vs,h,hv=>by
  cases hv with
  |cons _ v _ vs h1 h2=>
   cases h1 with
   |int k n=>
    cases k with
    |u8=>
     simp only[uq,Option.map_eq_some_iff]at h;have⟨l',h3,h4⟩:=h;have⟨ns,e1,e2⟩:=Zps h3 h2;exact⟨n::ns,by simp[e1],by simp[e2,h4]⟩
    |_=>simp[uq]at h
   |_=>simp[uq]at h
theorem Zyq {K:aj->M β} (h:Go.Gv.lJ cs K s=some r): ∃l,uq cs=some l/\K l s=some r:=by
 unfold Go.Gv.lJ at h;cases he:uq cs with
 |none=>rw[he]at h;cases h
 |some l=>rw[he]at h;exact⟨l,rfl,h⟩
end
section
variable {C:bE} {o:Oper} {D W:dN->Prop} {E:Env} {s:St} {md:Md} {pr ms:al}
theorem Zl0 (l:aj):bH C ψ (ZM l) (l.map λb=>Value.int .u8 b.toNat):=by
 induction l with
 |nil=>exact .nil
 |cons b l ih=>exact .cons _ _ _ _ (.int _ _) ih
theorem SE (l:aj):(ZM l).all one=true:=by simp[ZM,one]
@[simp] theorem aeM (l : aj) : (ZM l).length = l.length := by simp [ZM]
def ND (w:World) (c:Array Value) (e:TypeId):World:= { w with heap:=w.heap.push (.cells c e (c.size,c.size+1)) }
theorem Zr5 (w:World) (c:Array Value) (e:TypeId):hY w (ND w c e):=hY.alloc w (.cells c e (c.size,c.size+1))
theorem ZuS (w:World) (c:Array Value) (e:TypeId):(markStringish ⟨w.heap.size,0,none⟩).run P (w.alloc (.cells c e))= .ok () (ND w c e):=by
 have h1:(w.alloc (.cells c e)).shape? w.heap.size=some (e,c.size):=by rw[World.shape?,heap_alloc_new]
 unfold markStringish;rw[Sem.run_bind,run_shape,h1,Result.andThen_ok,run_freeze];congr 1;unfold World.freeze ND World.alloc;simp only[Nat.one_ne_zero,nz];congr 1;grind
theorem Zvc (h:PV P e=true):P.underlying e=some (.int .u8):=by
 grind[PV]
theorem Zse (ho:o.op= .convert t u y) (bx: ∀h,W h->D h) (hD: ∀i,D (.inl i)) (h:VJ C E o K t u y s=some r):cj C md pr ms o D W E s K r:=by
 have my:y∈o.op.operands:=by rw[ho];simp[Op.operands]
 unfold VJ at h;have⟨td,ht,h⟩:=qu h;have run: ∀(a:Act) (w w':World) v,(convert t u (a.eval y)).run C.P w= .ok v w'->(execOp a.eval o).run C.P w= .ok (.value v) w':=by
  intro a w w' v hv;simp[execOp,ho,hv]
 cases hu:C.P.underlying u with
 |none=>rw[hu]at h;cases h
 |some ud=>
  rw[hu]at h;cases ud with
  |int k=>
   simp only at h;have⟨d,hd,h⟩:=Zw h;cases d with
   |int k' n=>
    refine cj.val bx _ h λψ Q a w p=>⟨.int k (k.wrap n),w,run a w w _ ?_,.refl w,.int _ _⟩
    rw[p.int my hd];simp[convert,Zl w ht,Zl w hu,Conv.intToInt]
   |_=>cases h
  |string=>
   simp only at h;rw[ht]at h;cases td with
   |int k0=>
    simp only at h;have⟨d,hd,h⟩:=Zw h;cases d with
    |int k' n=>
     refine cj.val bx _ h λψ Q a w p=>⟨.string (Utf8.encode n),w,run a w w _ ?_,.refl w,.str _⟩
     rw[p.int my hd];simp[convert,Zl w ht,Zl w hu,Conv.intToString]
    |_=>cases h
   |string=>
    simp only at h;have⟨d,hd,h⟩:=Zw h;cases d with
    |str l=>
     refine cj.val bx _ h λψ Q a w p=>?_
     have hv:=p.val my hd;generalize hy:a.eval y=v at hv;cases hv with
     |str x=>exact⟨.string x,w,run a w w _ (by rw[hy];simp[convert,Zl w ht,Zl w hu]),.refl w,.str _⟩
    |_=>cases h
   |slice e=>
    simp only at h;have⟨h8,h⟩:=Zt h;have he:=Zvc h8;have⟨d,hd,h⟩:=Zw h;cases d with
    |slice z a' n=>
     simp only at h;have⟨hz,h⟩:=Zt h;have⟨ds,h,_,pU⟩:=WC h;have⟨l,hl,h⟩:=Zyq h;refine cj.val bx _ h λψ Q A w p=>?_
     have Dg:z=1\/a'=none:=by
      rw[mm]at hz;rcases hz with h|h
      .exact .inl (dP h)
      grind
     have⟨base,cap,vs,hv,ec,hr,_⟩:=Ob p hD (p.val my hd) Dg (k:=n) Do (aM _) pU;have⟨ns,e1,e2⟩:=Zps hl hr;cases base with
     |none=>
      have:ds=[]:=by
       have fg:=p.val my hd;rw[hv]at fg;cases fg;grind
      subst this;simp only[uq,fZ]at hl;subst hl;refine⟨.string .empty,w,run A w w _ ?_,.refl w,.str .empty⟩;rw[hv];simp[convert,Zl w ht,Zl w hu,Zl w he,Conv.bytesToString]
     |some b=>
      have ajp:(loadCells b n).run C.P w= .ok (ns.map (Value.int .u8)).toArray w:=by
       have ec:=ec w rfl;rw[hv]at ec;simp only[Builtin.firstCells,cS]at ec;rw[ec,<-e1]
      refine⟨.string (ns.foldl (λr n=>r.push (UInt8.ofNat n.toNat)) ByteArray.empty),w,run A w w _ ?_,.refl w,?_⟩
      .rw[hv,run_convert_bytes_string w t u e (some b) n cap ht he hu]
       exact run_bytesToString w b n cap ns ajp
      .have:(ns.foldl (λr n=>r.push (UInt8.ofNat n.toNat)) ByteArray.empty).data.toList=l:=by
        rw[foldl_push_bytes,<-e2];simp
       rw[<-this];exact .str _
    |_=>cases h
   |_=>cases h
  |slice e=>
   simp only at h;have⟨h8,h⟩:=Zt h;have he:=Zvc h8;have⟨d,hd,h⟩:=Zw h;cases d with
   |str l=>
    simp only at h;refine cj.Ly (by unfold tZ;rw[ho];trivial) bx _ _ h λψ Q a w p=>?_
    have hv:=p.val my hd;generalize hy:a.eval y=v at hv;cases hv with
    |str x=>
     have hx:x.data.toList.length=x.size:=by rw[oU];rfl
     let cap:=(Question.appendCap x.size 0 e).cut (w.tape w.drawn (.appendCap x.size 0 e))
     have rV:x.size<=cap:=by simp only[cap,Question.cut];omega
     let c:Array Value:=(x.data.map λb=>Value.int .u8 b.toNat)++Array.replicate (cap-x.size) (.int .u8 0)
     refine⟨.slice (some ⟨w.heap.size,0,none⟩) x.size cap,ND w.drew c e,⟨w.heap.size,0,c.size⟩,run a w _ _ ?_,(hY.drew w).trans (Zr5 w.drew c e),aM _,(by show w.heap.size<(w.heap.push _).size;simp),?_,λψ' _ xy=>?_⟩
     .rw[hy]
      have hm:=ZuS (P:=C.P) w.drew c e;simp only[convert,Sem.run_bind,Zl w ht,Zl w hu,Result.andThen_ok,Zl w he];have hq:(Question.appendCap x.size 0 e).forced=false:=rfl;simp only[Conv.stringToBytes,Sem.run_bind,run_choose,hq,uX,nz,Result.andThen_ok,newRow,run_newObj,Sem.run_pure];exact(congrArg (λr=>Result.andThen r λ_ w'=>Result.ok (Value.slice (some ⟨w.heap.size,0,none⟩) x.size cap) w') hm)
     .refine Zrh (ty:=e) (fr:=(c.size,c.size+1)) (by show(w.heap.push _)[w.heap.size]? =_;simp) (.inr (aM _)) ?_ (SE _)
      have:c.toList.take (ZM x.data.toList).length=x.data.toList.map λb=>Value.int .u8 b.toNat:=by
       rw[aeM];simp only[c,Array.toList_append,Array.toList_map];rw[List.take_append_of_le_length Do,dF Do]
      rw[this];exact Zl0 _
     .rw[hx]
      have:=VR.slice (C:=C) (ψ:=ψ') 1 s.length 0 x.size ⟨w.heap.size,0,c.size⟩ ⟨w.heap.size,0,none⟩ cap xy rV Fd;exact this
   |_=>cases h
  |_=>cases h
end
section
variable {C:bE} {o:Oper} {D W:dN->Prop} {E:Env} {s:St} {md:Md} {pr ms:al}
theorem Zyr {sz:Nat} {a:ai} {len:Nat} {K:ai->M β} (h:cw sz a len ds m lim K s=some r):
  (m=0/\K a s=some r)\/(0<m/\len+m<=lim/\((a=none/\len=0/\K (some (s.length,0)) (s++[some ⟨false,ds⟩])=some r)\/
   ∃i q cs,a=some (i,q)/\s.gP i=some cs/\q+len*sz<=cs.length/\K (some (s.length,0)) (s.set i none++[some ⟨false,(cs.drop q).take (len*sz)++ds⟩])=some r)):=by
 unfold cw at h;cases h0:Nat.beq m 0 with
 |true=>rw[h0]at h;simp_all
 |false=>
  rw[h0]at h;simp only[af]at h;have hm:=Mg h0;cases h1:Nat.ble (len+m) lim with
  |false=>rw[h1]at h;cases h
  |true=>
   rw[h1]at h;simp only[ae]at h;refine .inr ⟨AC,qY h1,?_⟩;cases a with
   |none=>
    simp only at h;cases h2:Nat.beq len 0 with
    |false=>rw[h2]at h;cases h
    |true=>rw[h2]at h;simp_all
   |some iq=>
    have⟨i,q⟩:=iq;simp only at h;cases h3:s.gP i with
    |none=>rw[h3]at h;cases h
    |some cs=>
     rw[h3]at h;simp only at h;cases h4:Nat.ble (q+len*sz) cs.length with
     |false=>rw[h4]at h;cases h
     |true=>rw[h4]at h;exact .inr ⟨i,q,cs,rfl,h3,qY h4,h⟩
def DN (P:Program) (ts:Array TypeId):Prop:=match ts[1]? with|none=>True|some t=>∃d,P.underlying t=some d/\∀k,d≠ .int k
theorem Zvz {K:M β} (h:aax C.P ts K s=some r):DN C.P ts/\K s=some r:=by
 unfold aax at h;unfold DN;cases ht:ts[1]? with
 |none=>rw[ht]at h;exact⟨trivial,h⟩
 |some t=>
  rw[ht]at h;simp only at h⊢;cases hu:C.P.underlying t with
  |none=>rw[hu]at h;cases h
  |some d=>
   rw[hu]at h;cases d with
   |int k=>cases h
   |_=>exact Fd
theorem ZkO (h0:ts[0]? =some t) (ht:P.underlying t=some (.slice e)) (he:P.underlying e=some ed) (hn:DN P ts) (ty:TypeId)
  (base:Option Addr) (n m cap:Nat) (X:Value) (w w':World) (new:Array Value) (hX:(Builtin.lenOf X).run P w= .ok m w) (hc:n+m<=cap)
  (hf:(Builtin.firstCells (P.cellsOf e) m X).run P w= .ok new w) (hs: ∀a,base=some a->(storeCells (a.add (n*P.cellsOf e)) new.toList).run P w= .ok () w') (hb:base=none->w'=w):
  (Builtin.append_ ts ty #[.slice base n cap,X]).run P w= .ok (.slice base (n+m) cap) w':=by
 have key:(P.underlying t=some (.slice e))->(do
   let n' <-Builtin.lenOf X
   let Lx:=n+n'
   if Lx<=cap then
    let new <-Builtin.firstCells (P.cellsOf e) n' X
    if let some a:=base then storeCells (a.add (n*P.cellsOf e)) new.toList
    pure (.slice base Lx cap)
   else stuck "" :Sem Value).run P w= .ok (.slice base (n+m) cap) w':=by
  intro _;simp only[Sem.run_bind,hX,Result.andThen_ok,hc,mV,hf];cases base with
  |none=>have:=hb rfl;subst this;simp
  |some a=>simp[hs a rfl]
 have key:=key ht;simp only[Sem.run_bind,hX,Result.andThen_ok,hc,mV,hf]at key;unfold Builtin.append_;unfold DN at hn;cases h1:ts[1]? with
 |none=>
  simp only[h0,L8,lz,qV,Sem.run_bind,Zl w ht,Result.andThen_ok,rq w he,Sem.run_pure,uX,nz,hX,bp,mV,hc,hf];exact key
 |some t1=>
  rw[h1]at hn;have⟨d,hd,jz⟩:=hn;simp only[h0,L8,lz,qV,Sem.run_bind,Zl w ht,Result.andThen_ok,rq w he,Zl w hd];cases d<;>first|exact absurd rfl (jz _)|(simp only[Sem.run_pure,Result.andThen_ok,Sem.run_bind,uX,nz,hX,bp,mV,hc,hf];exact key)
theorem ZqG (z:Array Value) (n:Nat):(Builtin.zeroCells z n).size=n*z.size:=by simp[Builtin.zeroCells]
theorem ZoI {ie:TypeInfo} {z:Value} (h0:ts[0]? =some t) (ht:P.underlying t=some (.slice e)) (he:P.underlying e=some ed) (vT:P.info? e=some ie)
  (xw:ie.zero=some z) (hn:DN P ts) (ty:TypeId) (base:Option Addr) (n m cap:Nat) (X:Value) (w:World) (fO new:Array Value) (hX: ∀w,(Builtin.lenOf X).run P w= .ok m w) (hc:cap<n+m)
  (hb:(n+m)*ie.bytes<=70368744177664) (OM:n+m<=70368744177664) (ho:(Builtin.firstCells (P.cellsOf e) n (.slice base n cap)).run P w.drew= .ok fO w.drew) (hf:(Builtin.firstCells (P.cellsOf e) m X).run P w.drew= .ok new w.drew):
  ∃k,n+m<=k/\(Builtin.append_ ts ty #[.slice base n cap,X]).run P w= .ok (.slice (some ⟨w.heap.size,0,none⟩) (n+m) k) (w.drew.alloc (.cells (fO++new++Builtin.zeroCells z.cells (k-(n+m))) e)):=by
 refine⟨(Question.appendCap (n+m) cap e).cut (w.tape w.drawn (.appendCap (n+m) cap e)),by simp[Question.cut],?_⟩;have hq:(Question.appendCap (n+m) cap e).forced=false:=rfl;have g1: ¬(n+m<=cap):=AC
 have g2: ¬(Builtin.nextslicecap (n+m) cap*ie.bytes>2^48):=by
  have:=growslice_fits (bytes:=ie.bytes) hc AC;omega
 have g3: ¬(((n+m:Nat):Int)>IntKind.i64.max):=by
  have:IntKind.i64.max=9223372036854775807:=EQ
  rw[this];omega
 have g4: ¬(((n+m:Nat):Int)>IntKind.i64.max/\(False\/ie.bytes=0)):=λh=>g3 h.1
 have acu: ∀w,(typeInfo e).run P w= .ok ie w:=λw=>by simp[typeInfo,vT]
 have Dg: ∀w,(zeroValue e).run P w= .ok z w:=λw=>by simp[zeroValue,typeInfo,vT,xw]
 unfold Builtin.append_;unfold DN at hn;cases h1:ts[1]? with
 |none=>
  simp only[h0,L8,lz,qV,Sem.run_bind,Zl w ht,Result.andThen_ok,rq w he,Sem.run_pure,uX,nz,hX,bp,mV,g1,acu,g4,
   g2,run_choose,hq,run_askRoom,World.drew_eq,ho,hf,Dg,newRow,run_newObj,World.alloc_eq]
  rfl
 |some t1=>
  rw[h1]at hn;have⟨d,hd,jz⟩:=hn;simp only[h0,L8,lz,qV,Sem.run_bind,Zl w ht,Result.andThen_ok,rq w he,Zl w hd];cases d<;>first|exact absurd rfl (jz _)|(simp only[Sem.run_pure,Result.andThen_ok,Sem.run_bind,uX,nz,hX,bp,mV,g1,acu,g4,g2,run_choose,hq,run_askRoom,World.drew_eq,ho,hf,Dg,newRow,run_newObj,World.alloc_eq];rfl)
theorem Ext.akx (h:Ext ψ Q1 w ψ' Q' w') (hq: ∀k ab,Q1 k ab->Q k ab):Ext ψ Q w ψ' Q' w':=
 have so: ∀b,vk ψ Q1 b->vk ψ Q b:=λ_b ⟨k,cb,ab,e,q,hs,hb⟩=>⟨k,cb,ab,e,hq _ _ q,hs,hb⟩
 { h with
  tN:=λk cb e=>(h.tN k cb e).imp id λ⟨x,y⟩=>⟨x.imp id (so _),y⟩
  kl:=λb hb hn=>h.kl b hb λe=>hn (so b e)
  hJ:=λb e=>(h.hJ b e).imp (so b) id
  live:=λk cb x e q=>let ⟨y,hy⟩:=h.live k cb x e q;⟨y,hq _ _ hy⟩ }
theorem Zsl :dD (s.set i none) i=none:=by
 grind[dD]
theorem Zvl (hq:q.callee= .builtin .append) (ho:o.op= .call q) {z:Operand} (ha:q.args= #[y,z]) {zv:ah} (h0:q.argTypes[0]? =some t)
  (ht:C.P.underlying t=some (.slice e)) (he:C.P.underlying e=some ed) (hz:nD C.P e=some zv) (sf:zv.length=C.P.cellsOf e) (hn:DN C.P q.argTypes) (bx: ∀h,W h->D h) (hD: ∀i,D (.inl i)) {a:ai} (hW: ∀i q,a=some (i,q)->W (.inl i)) (hd:E.src C y= .v (.slice z0 a n)) (xw:z0=C.P.cellsOf e\/a=none) (jM:ds.length=m*C.P.cellsOf e)
  (hX: ∀ψ Q A w,aA C o D E s ψ Q A w->(∀w,(Builtin.lenOf (A.eval z)).run C.P w= .ok m w)/\∃vs,bH C ψ ds vs.toList/\ds.all one=true/\∀w',w'.heap=w.heap->(Builtin.firstCells (C.P.cellsOf e) m (A.eval z)).run C.P w'= .ok vs w') (h:cw (C.P.cellsOf e) a n ds m (Dj C.P e) (λp=>cJ E o K (.slice (C.P.cellsOf e) p (n+m))) s=some r):cj C md pr ms o D W E s K r:=by
 have my:y∈o.op.operands:=by rw[ho];simp[Op.operands,Call.operands,hq,ha]
 have hex: ∀(A:Act) (w w':World) v,(Builtin.append_ q.argTypes o.type #[A.eval y,A.eval z]).run C.P w= .ok v w'->(execOp A.eval o).run C.P w= .ok (.value v) w':=by
  intro A w w' v hv;simp[execOp,ho,resolve,hq,invoke,builtin,ha,hv]
 have akd: ∀vs:Array Value,∀ψ,m=0->bH C ψ ds vs.toList->vs.toList=[]:=by
  intro vs ψ hm hr;have:=hr.len;rw[jM,hm,oZ]at this;grind
 have grow: ∀ψ Q A w,aA C o D E s ψ Q A w->∀base cap fO,A.eval y= .slice base n cap->cap<n+m->n+m<=Dj C.P e->(Builtin.firstCells (C.P.cellsOf e) n (.slice base n cap)).run C.P w.drew= .ok fO w.drew->
   ∃k new rest,n+m<=k/\bH C ψ ds new.toList/\ds.all one=true/\rest.size=(k-(n+m))*C.P.cellsOf e/\
    (execOp A.eval o).run C.P w= .ok (.value (.slice (some ⟨w.heap.size,0,none⟩) (n+m) k)) (w.drew.alloc (.cells (fO++new++rest) e)):=by
  intro ψ Q A w p base cap fO hy hc Db hold;have⟨hl,new,h1,h2,h3⟩:=hX ψ Q A w p;unfold nD at hz;cases hi:C.P.info? e with
  |none=>rw[hi]at hz;cases hz
  |some ie=>
   rw[hi]at hz;simp only at hz;cases we:ie.zero with
   |none=>rw[we]at hz;cases hz
   |some alO=>
    rw[we]at hz;have PS:=(F9 (C:=C) (ψ:=ψ) hz).1.zw;have hb:(n+m)*ie.bytes<=70368744177664:=by
     unfold Dj NA at Db;rw[hi]at Db;simp only at Db;rcases BI ie.bytes with hz|hp
     .rw[hz];simp
     .exact(Nat.le_div_iff_mul_le hp).1 Db
    have OM:n+m<=70368744177664:=hU Db (FR _ _);have⟨k,hk,ec⟩:=ZoI (P:=C.P) h0 ht he hi we hn o.type base n m cap (A.eval z) w fO new hl hc hb OM hold (h3 _ rfl);exact⟨k,new,_,hk,h1,h2,by rw[ZqG,<-PS,sf],Fd⟩
 rcases Zyr h with⟨hm,h⟩|⟨hm,Db,h⟩
 ·
  refine cj.val bx _ h λψ Q A w p=>?_
  have⟨hl,new,h1,h2,h3⟩:=hX ψ Q A w p;have iL:=akd new ψ hm h1;subst hm;have hv:=p.val my hd;generalize hy:A.eval y=v at hv;have pW: ∀base cap,v= .slice base n cap->n<=cap->(execOp A.eval o).run C.P w= .ok (.value (.slice base n cap)) w:=by
   intro base cap hv hc;refine hex A w w _ ?_;rw[hy,hv];have:=ZkO (P:=C.P) h0 ht he hn o.type base n 0 cap (A.eval z) w w new (hl w) hc (h3 w rfl) (λa _=>by rw[iL];rfl) (λ_=>rfl);exact this
  cases hv with
  |tP=>exact⟨_,w,Fd,.refl w,.tP _⟩
  |slice _ i q0 _ cb ad cap jh rV hb=>
   have:z0=C.P.cellsOf e:=Fd
   subst this;exact⟨_,w,pW _ cap rfl rV,.refl w,.slice _ _ _ _ cb ad cap jh rV hb⟩
 .rcases h with⟨rfl,rfl,h⟩|⟨i,q0,cs,rfl,hi,hle,h⟩
  ·
   refine cj.Ly (by unfold tZ;rw[ho];simp only[hq]) bx _ ds h λψ Q A w p=>?_
   have hv:=p.val my hd;generalize hy:A.eval y=v at hv;cases hv;have⟨k,new,rest,hk,h1,h2,h3,ec⟩:=grow ψ Q A w p none 0 #[] hy AC Db (by simp[Builtin.firstCells]);have cL:=h1.zw;refine⟨_,_,⟨w.heap.size,0,(#[]++new++rest).size⟩,ec,(hY.drew w).trans (hY.alloc w.drew _),aM _,Do,?_,λψ' _ xy=>?_⟩
   .refine Gg (w:=w.drew) ?_ h2
    grind
   .refine VR.slice _ _ 0 _ _ _ _ xy hk (λ_=>⟨rfl,?_⟩)
    have:(#[]++new++rest).size=new.size+rest.size:=Do
    rw[this,<-cL,jM,h3,eJ,eJ,<-wG];grind
  ·
   have xw:z0=C.P.cellsOf e:=Fd
   subst xw;have⟨cd,aw⟩:=U5 hi;have gf: ∀ab,dD (s.set i none++[some ⟨false,(cs.drop q0).take (n*C.P.cellsOf e)++ds⟩]) s.length=some ab->ab= .cells false ((cs.drop q0).take (n*C.P.cellsOf e)++ds):=by
    intro ab gf;have:=Si (s.set i none) ⟨false,(cs.drop q0).take (n*C.P.cellsOf e)++ds⟩;rw[lU]at this;rw[this]at gf;cases gf;rfl
   have hold: ∀j ab,dD (s.set i none++[some ⟨false,(cs.drop q0).take (n*C.P.cellsOf e)++ds⟩]) j=some ab->j≠s.length->j≠i/\dD s j=some ab:=by
    intro j ab hj dQ;have uL:=Ee hj;simp only[bz,lU,iS]at uL;rw[MB (by rw[lU];omega)]at hj;by_cases mJ:j=i
    .subst mJ;rw[Zsl]at hj;cases hj
    .rw[ML (Ne.symm mJ)]at hj;exact⟨mJ,hj⟩
   refine .inl ⟨_,_,h,mY.put pr ms _ rfl (λ_ _ _ _ h=>by cases h) Do (λj ab hj=>by
    by_cases e:j=s.length
    .omega
    grind) (λj h hj=>by
    have dQ:i≠j:=Fd
    rw[mn (by rw[lU];exact hj),jH dQ]) (.inr (by unfold tZ;rw[ho];simp only[hq])),?_⟩
   intro ψ Q A w next QQ p room KI;have iL:xY E s (E.fu o.dst (.v (.slice (C.P.cellsOf e) (some (s.length,0)) (n+m)))) (s.set i none++[some ⟨false,(cs.drop q0).take (n*C.P.cellsOf e)++ds⟩]) (.inl s.length):=⟨by simp[eC],by simp[eC]⟩;have hf:=room _ iL;have hv:=p.val my hd;generalize hy:A.eval y=v at hv;cases hv with
   |slice _ _ _ _ cb ad cap jh rV hb=>
    have tC:Q (.inl i) (.cells false cs):=p.ko (.inl i) _ cb (hD i) cd jh;have hh:=p.fh.holds _ cb _ jh tC;have⟨hl,new,h1,h2,h3⟩:=hX ψ Q A w p;have hlen:((cs.drop q0).take (n*C.P.cellsOf e)).length=n*C.P.cellsOf e:=by simp;omega
    have aix:((cs.drop q0).take (n*C.P.cellsOf e)++ds).length=(n+m)*C.P.cellsOf e:=by rw[bz,hlen,jM,wG]
    have dt:((cs.drop q0).take (n*C.P.cellsOf e)++ds).all one=true:=by rw[tT,Wu hh.2.1,h2];rfl
    have fin: ∀v' w' gC,(execOp A.eval o).run C.P w= .ok (.value v') w'->fC C (oT ψ (.inl s.length) gC) (Lv Q (.inl i) (.inl s.length) (.cells false ((cs.drop q0).take (n*C.P.cellsOf e)++ds))) w'->
      Ext ψ Q w (oT ψ (.inl s.length) gC) (Lv Q (.inl i) (.inl s.length) (.cells false ((cs.drop q0).take (n*C.P.cellsOf e)++ds))) w'->
      VR C (oT ψ (.inl s.length) gC) (.slice (C.P.cellsOf e) (some (s.length,0)) (n+m)) v'->o.wp C.P A w next QQ:=by
     intro v' w' gC ec Bh vP mh;unfold Oper.wp;rw[ec];refine KI _ _ v' w' ⟨Bh,vP,λh c e'=>?_,λh ab c cr hw e'=>?_,λh ab c e' q' nw _=>?_⟩ (λd' kV=>?_)
     .by_cases eh:h= .inl s.length
      .grind
      .rw[pK _ _ eh]at e';exact .inl e'
     .by_cases eh:h= .inl s.length
      .subst eh;exact .inl ⟨rfl,gf ab cr⟩
      .rw[pK _ _ eh]at e'
       have fO:h≠ .inl i/\CR E s h ab:=by
        cases h with
        |inl j=>
         have⟨a1,a2⟩:=hold j ab cr (λe=>eh (by rw[e]));exact⟨λe=>a1 (by cases e;rfl),a2⟩
        |inr x=>
         have pM:CR (E.fu o.dst (.v (.slice (C.P.cellsOf e) (some (s.length,0)) (n+m)))) s (.inr x) ab:=cr;exact⟨Do,pM.fu rfl⟩
       refine .inr ⟨eh,fO.1,?_⟩;rcases hw with hw|⟨n1,n2⟩
       .exact p.ko h ab c (bx h hw) fO.2 e'
       .exact absurd (fO.2.rQ p.gX) n1
     .cases h with
      |inl j=>exact .inr ⟨Fd,Fd,q'⟩
      |inr x=>exact .inr ⟨Do,Do,q'⟩
     .rw[Env.kR,bG kV];exact mh
    by_cases pW:n+m<=cap
    .have⟨e1,e2⟩:=hb AC
     have ab9:(n+m)*C.P.cellsOf e<=cap*C.P.cellsOf e:=FT _ pW;rw[wG]at ab9;have⟨w',hw,dp,C4⟩:=ZnO (P:=C.P) (p:=q0+n*C.P.cellsOf e) (o':=q0) (cs':=(cs.drop q0).take (n*C.P.cellsOf e)++ds) hh h1 h2 (by rw[jM];omega) (by rw[aix,wG];omega) dt (λj d kV=>by
      by_cases hj:j<n*C.P.cellsOf e
      .rw[mn AC,xR,bG hj,BG]at kV
       grind
      .rw[kL AC,hlen]at kV
       have uL:j-n*C.P.cellsOf e<ds.length:=by
        grind
       exact .inl ⟨AC,AC,by rw[show q0+j-(q0+n*C.P.cellsOf e)=j-n*C.P.cellsOf e by omega];exact kV⟩)
     have ec:=ZkO (P:=C.P) h0 ht he hn o.type (some ad) n m cap (A.eval z) w w' new (hl w) pW (h3 w rfl) (λa' uB=>by
      cases uB;rw[e1,Cb,uZ];exact hw) (λe=>by cases e)
     refine fin _ w' ⟨cb.b,cb.o+q0,cb.m-q0⟩ (hex A w _ _ (by rw[hy];exact ec)) (fC.move p.fh jh tC rfl hf rfl dp.other (C4.same (λ_ _ e=>wR hf _ _ e) rfl))
      (Ext.move jh tC rfl hf rfl (p.gO _ _ jh) dp.other dp.size dp.tape dp.os dp.output) ?_
     exact VR.slice _ _ 0 _ _ _ _ (ri _ _ _) pW (λ_=>⟨by rw[e1];rfl,by simp only;omega⟩)
    .have⟨base,ak3,fO,Kh,HC,K3,hra⟩:=Ob p hD (p.val my hd) (.inl rfl) (k:=n) (n:=n*C.P.cellsOf e) rfl (aM _) (.inr ⟨i,q0,false,cs,rfl,cd,hle,rfl⟩)
     rw[hy]at Kh;cases Kh;have HC:=HC w.drew rfl;rw[hy]at HC;have⟨k,new,rest,hk,h1,h2,h3,ec⟩:=grow ψ Q A w p (some ad) cap fO hy AC Db HC;have cL:=h1.zw;have wb:=K3.zw;rw[hlen]at wb;have qJ:hY w (w.drew.alloc (.cells (fO++new++rest) e)):=(hY.drew w).trans (hY.alloc w.drew _);refine fin _ _ ⟨w.heap.size,0,(fO++new++rest).size⟩ ec ?_ ?_ ?_
     .refine fC.new (Q:=λk x=>k≠ .inl i/\Q k x) (p.fh.weaken λ_ _ _ _ q=>q.2) p.gO qJ hf (aM _) ?_
      refine Gg (w:=w.drew) ?_ dt;have:(fO++new++rest).toList.take ((cs.drop q0).take (n*C.P.cellsOf e)++ds).length=fO.toList++new.toList:=by
       rw[bz,hlen,cL,wb];simp only[Array.toList_append];rw[List.take_append_of_le_length Do,dF Do]
      rw[this];exact bH.append (K3.mono λ_ _ e=>wR hf _ _ e) (h1.mono λ_ _ e=>wR hf _ _ e)
     .exact(Ext.new (Q:=λk x=>k≠ .inl i/\Q k x) qJ hf (aM _) Do).akx λ_ _ q=>q.2
     .refine VR.slice _ _ 0 _ _ _ _ (ri _ _ _) hk (λ_=>⟨rfl,?_⟩)
      have:(fO++new++rest).size=fO.size+new.size+rest.size:=by simp[uZ]
      rw[this,<-cL,<-wb,jM,h3,eJ,<-wG,<-wG];exact FT _ AC
end
section
variable {C:bE} {o:Oper} {D W:dN->Prop} {E:Env} {s:St} {md:Md} {pr ms:al}
theorem abu {z:Operand} (h:q.args.toList=[y,z]):q.args= #[y,z]:=by rw[<-Array.toArray_toList (xs:=q.args),h]
theorem Ei {x y:Nat} {a:ai} (h:(Nat.beq x y||a.isNone)=true):x=y\/a=none:=by
 rw[mm]at h;simp_all
theorem ZrK (x:ByteArray) (n:Nat) (w:World):
  ∃vs,(Builtin.firstCells 1 n (.string x)).run P w= .ok vs w/\bH C ψ (ZM (x.data.toList.take n)) vs.toList:=by
 refine⟨_,rfl,?_⟩;have:((x.extract 0 n).data.map λb=>Value.int .u8 b.toNat).toList=(x.data.toList.take n).map λb=>Value.int .u8 b.toNat:=by
  rw[Array.toList_map,ByteArray.data_extract,Array.toList_extract,QF];simp
 rw[this];exact Zl0 _
theorem Ztm (hq:q.callee= .builtin .append) (ho:o.op= .call q) (bx: ∀h,W h->D h) (hD: ∀i,D (.inl i)) (hW: ∀y z i p n,q.args.toList.head?=some y->E.src C y= .v (.slice z (some (i,p)) n)->W (.inl i)) (h:VM C E o K q.argTypes q.args s=some r):cj C md pr ms o D W E s K r:=by
 unfold VM at h;generalize ha:q.args.toList=l at h;generalize h0:q.argTypes[0]? =t0 at h;split at h
 .rename_i y z t
  unfold yu at h;cases ht:C.P.underlying t with
  |none=>rw[ht]at h;cases h
  |some td=>
   rw[ht]at h;cases td with
   |slice e=>
    simp only at h;have⟨ed,he,h⟩:=qu h;have⟨hn,h⟩:=Zvz h;cases hz:nD C.P e with
    |none=>rw[hz]at h;cases h
    |some zv=>
     rw[hz]at h;simp only at h;have⟨sf,h⟩:=IE h;have sf:zv.length=C.P.cellsOf e:=dP (by simpa using sf);have⟨a,CW,h⟩:=Zw h;have⟨b,Km,h⟩:=Zw h;have kS:=abu ha;have mz:z∈o.op.operands:=by rw[ho];simp[Op.operands,Call.operands,hq,kS]
     cases a with
     |slice w1 p1 n=>
      cases b with
      |slice w2 p2 m=>
       simp only at h;have⟨hw,h⟩:=Zt h;rw[aY]at hw;have⟨ds,h,jM,pU⟩:=WC h;refine Zvl hq ho kS h0 ht he hz sf hn bx hD Fd CW (Ei hw.1) jM (λψ Q A w p=>?_) h;have⟨base,cap,vs,e1,e2,e3,e4⟩:=Ob p hD (p.val mz Km) (Ei hw.2) (k:=m) rfl (aM _) pU;exact⟨λw=>by rw[e1];rfl,vs,e3,e4,e2⟩
      |str l=>
       simp only at h;have⟨hw,h⟩:=Zt h;rw[aY]at hw;have cL:=dP hw.2;rw[<-cL]at h;refine Zvl hq ho kS h0 ht he hz sf hn bx hD Fd CW (by rw[cL];exact Ei hw.1) (by rw[cL];simp) (λψ Q A w p=>?_) h;have hv:=p.val mz Km;generalize A.eval z=v at hv;cases hv with
       |str x=>
        have hx:x.data.toList.length=x.size:=by rw[oU];rfl
        have⟨vs,e1,e2⟩:=ZrK (C:=C) (ψ:=ψ) (P:=C.P) x x.size w;rw[<-hx,dF (aM _)]at e2;refine⟨λw=>by rw[hx];rfl,vs,e2,SE _,λw' tF=>?_⟩;rw[cL,hx];cases e1;rfl
      |_=>cases h
     |_=>cases b<;>cases h
   |_=>cases h
 .cases h
theorem ZuV (cs:ah) (p:Nat):cG cs p []=cs:=by
 induction cs generalizing p with
 |nil=>cases p<;>rfl
 |cons c cs ih=>cases p with
  |zero=>rfl
  |succ p=>simp[cG,ih]
theorem Zvp {p:ai} {K:M β} (h:rK p ds K s=some r):
  (p=none/\ds=[]/\K s=some r)\/∃i q cs,p=some (i,q)/\s.gP i=some cs/\q+ds.length<=cs.length/\K (s.set i (some ⟨false,cG cs q ds⟩))=some r:=by
 cases p with
 |none=>
  simp only[rK]at h;have⟨h1,h⟩:=Zt h;simp_all
 |some iq=>
  have⟨i,q⟩:=iq;simp only[rK]at h;have⟨cs,h1,h2,h3⟩:=ZpG h;grind
theorem Zl5 {q cap k sz:Nat} {vs:List Value} (hb:0<cap->ad=⟨cb.b,cb.o+q,none⟩/\q+cap*sz<=cb.m) (hc:n<=cap) (hk:k<=n)
  (h:Holds C ψ w cb (.cells false cs)) (hr:bH C ψ ds vs) (h1:ds.all one=true) (hl:ds.length=k*sz) (hle:q+ds.length<=cs.length):
  ∃w',(storeCells ad vs).run C.P w= .ok () w'/\BO w w' cb.b/\Holds C ψ w' cb (.cells false (cG cs q ds)):=by
 by_cases h0:ds.length=0
 .have hd:=zW.1 h0
  subst hd;cases hr;exact⟨w,rfl,⟨λ_ _=>rfl,rfl,rfl,rfl,.refl _⟩,by rw[ZuV];exact h⟩
 .have mg:0<k:=by
   grind
  have⟨e1,_⟩:=hb AC;rw[e1];exact Nd h hr h1 hle
theorem ZsH (h0:ts[0]? =some t) (ht:P.underlying t=some (.slice e)) (he:P.underlying e=some ed) (ty:TypeId)
  (base:Option Addr) (n m cap:Nat) (X:Value) (w w':World) (new:Array Value) (hX:(Builtin.lenOf X).run P w= .ok m w)
  (hf:(Builtin.firstCells (P.cellsOf e) (min m n) X).run P w= .ok new w) (hs: ∀a,base=some a->(storeCells a new.toList).run P w= .ok () w') (hb:base=none->w'=w):
  (Builtin.copy_ ts ty #[.slice base n cap,X]).run P w= .ok (.int .i64 (min (m:Int) n)) w':=by
 have acC:(Nat.min m n:Int)=min (m:Int) n:=Fd
 have CZ:(Builtin.firstCells (P.cellsOf e) (Nat.min m n) X).run P w= .ok new w:=hf;unfold Builtin.copy_;simp only[h0,L8,lz,qV,Sem.run_bind,Zl w ht,Result.andThen_ok,rq w he,hX,CZ];cases base with
 |none=>have:=hb rfl;subst this;simp[goInt];exact acC
 |some a=>simp[hs a rfl,goInt];exact acC
theorem ZvO (hq:q.callee= .builtin .copy) (ho:o.op= .call q) (bx: ∀h,W h->D h) (hW: ∀i,W (.inl i)) (h:WV C E o K q.argTypes q.args s=some r):cj C md pr ms o D W E s K r:=by
 unfold WV at h;generalize ha:q.args.toList=l at h;generalize h0:q.argTypes[0]? =t0 at h;split at h
 .rename_i y z t
  unfold yu at h;cases ht:C.P.underlying t with
  |none=>rw[ht]at h;cases h
  |some td=>
   rw[ht]at h;cases td with
   |slice e=>
    simp only at h;have⟨ed,he,h⟩:=qu h;have⟨a,CW,h⟩:=Zw h;have⟨b,Km,h⟩:=Zw h;have kS:=abu ha;have my:y∈o.op.operands:=by rw[ho];simp[Op.operands,Call.operands,hq,kS]
    have mz:z∈o.op.operands:=by rw[ho];simp[Op.operands,Call.operands,hq,kS]
    have hex: ∀(A:Act) (w w':World) v,(Builtin.copy_ q.argTypes o.type #[A.eval y,A.eval z]).run C.P w= .ok v w'->(execOp A.eval o).run C.P w= .ok (.value v) w':=by
     intro A w w' v hv;simp[execOp,ho,resolve,hq,invoke,builtin,kS,hv]
    cases a with
    |slice w1 p1 n=>
     have core: ∀(m:Nat) (ds:ah),(w1=C.P.cellsOf e\/p1=none)->ds.length=min m n*C.P.cellsOf e->rK p1 ds (cJ E o K (.int .i64 (min (m:Int) n))) s=some r->
       (∀ψ Q A w,aA C o D E s ψ Q A w->(Builtin.lenOf (A.eval z)).run C.P w= .ok m w/\∃vs,bH C ψ ds vs.toList/\ds.all one=true/\(Builtin.firstCells (C.P.cellsOf e) (min m n) (A.eval z)).run C.P w= .ok vs w)->
       cj C md pr ms o D W E s K r:=by
      intro m ds cM jM h hX;rcases Zvp h with⟨rfl,rfl,h⟩|⟨i,q0,cs,rfl,hi,hle,h'⟩
      .refine cj.val bx _ h λψ Q A w p=>?_
       have⟨hl,vs,h1,h2,h3⟩:=hX ψ Q A w p;have hv:=p.val my CW;generalize hy:A.eval y=v at hv;cases hv;exact⟨_,w,hex A w w _ (by rw[hy];exact ZsH h0 ht he o.type none 0 m 0 (A.eval z) w w vs hl h3 (λ_ h=>by cases h) (λ_=>rfl)),.refl w,.int _ _⟩
      .have cM:w1=C.P.cellsOf e:=Fd
       subst cM;refine cj.aaQ bx (hW _) (.v (.int .i64 (min (m:Int) n))) rfl (λ_ _ _ _ h=>by cases h) hi h' λψ Q A w p=>?_
       have hv:=p.val my CW;generalize hy:A.eval y=v at hv;cases hv with
       |slice _ _ _ _ cb ad cap jh rV hb=>
        refine⟨cb,jh,λhh=>?_⟩;have⟨hl,vs,h1,h2,h3⟩:=hX ψ Q A w p;have⟨w',e1,e2,e3⟩:=Zl5 hb rV (Nat.min_le_right m n) hh h1 h2 jM hle;exact⟨_,w',.inl (hex A w w' _ (by rw[hy];exact ZsH h0 ht he o.type (some ad) n m cap (A.eval z) w w' vs hl h3 Fd (λh=>by cases h))),e2,e3,.int _ _⟩
     cases b with
     |slice w2 p2 m=>
      simp only at h;have⟨hw,h⟩:=Zt h;rw[aY]at hw;have⟨ds,h,jM,pU⟩:=WC h;refine core m ds (Ei hw.1) jM h λψ Q A w p=>?_
      have⟨base,cap,vs,e1,e2,e3,e4⟩:=Ob p (λi=>bx _ (hW i)) (p.val mz Km) (Ei hw.2) (k:=min m n) rfl (Nat.min_le_left _ _) pU;exact⟨by rw[e1];rfl,vs,e3,e4,e2 w rfl⟩
     |str l=>
      simp only at h;have⟨hw,h⟩:=Zt h;rw[aY]at hw;have cL:=dP hw.2;refine core l.length (ZM (l.take n)) (by rw[cL];exact Ei hw.1) (by rw[cL];simp[Nat.min_comm]) h λψ Q A w p=>?_
      have hv:=p.val mz Km;generalize A.eval z=v at hv;cases hv with
      |str x=>
       have hx:x.data.toList.length=x.size:=by rw[oU];rfl
       have⟨vs,e1,e2⟩:=ZrK (C:=C) (ψ:=ψ) (P:=C.P) x (min x.data.toList.length n) w;refine⟨by rw[hx];rfl,vs,?_,SE _,by rw[cL];exact e1⟩;grind
     |_=>cases h
    |_=>cases b<;>cases h
   |_=>cases h
 .cases h
theorem ZuH (hq:q.callee= .builtin .clear) (ho:o.op= .call q) (bx: ∀h,W h->D h) (hW: ∀i,W (.inl i)) (h:Wt C E o K q.argTypes q.args s=some r):cj C md pr ms o D W E s K r:=by
 unfold Wt at h;generalize ha:q.args.toList=l at h;generalize h0:q.argTypes[0]? =t0 at h;split at h
 .rename_i y t
  unfold yu at h;cases ht:C.P.underlying t with
  |none=>rw[ht]at h;cases h
  |some td=>
   rw[ht]at h;cases td with
   |slice e=>
    simp only at h;have⟨a,CW,h⟩:=Zw h;have kS:q.args= #[y]:=by rw[<-Array.toArray_toList (xs:=q.args),ha]
    have my:y∈o.op.operands:=by rw[ho];simp[Op.operands,Call.operands,hq,kS]
    have hex: ∀(A:Act) (w w':World),(Builtin.clear_ q.argTypes o.type #[A.eval y]).run C.P w= .ok (.tuple #[]) w'->(execOp A.eval o).run C.P w= .ok (.value (.tuple #[])) w':=by
     intro A w w' hv;simp[execOp,ho,resolve,hq,invoke,builtin,kS,hv]
    cases a with
    |slice w1 p1 n=>
     cases hz:nD C.P e with
     |none=>rw[hz]at h;cases h
     |some z=>
      rw[hz]at h;simp only at h;have⟨hw,h⟩:=Zt h;rw[aY]at hw;have sf:=dP hw.2;rcases Zvp h with⟨rfl,Pj,h⟩|⟨i,q0,cs,rfl,hi,hle,h'⟩
      .refine cj.pure bx (.qR []) rfl (λ_ _ _ _ h=>by cases h) h λψ Q A w p=>?_
       have hv:=p.val my CW;generalize hy:A.eval y=v at hv;cases hv;exact⟨.tuple #[],w,hex A w w (by rw[hy];simp[Builtin.clear_,h0,Zl w ht]),.refl w,_,rfl,.nil⟩
      .have cM:w1=C.P.cellsOf e:=by rcases Ei hw.1 with h|h;exact h;cases h
       subst cM;refine cj.aaQ bx (hW _) (.qR []) rfl (λ_ _ _ _ h=>by cases h) hi h' λψ Q A w p=>?_
       have hv:=p.val my CW;generalize hy:A.eval y=v at hv;cases hv with
       |slice _ _ _ _ cb ad cap jh rV hb=>
        refine⟨cb,jh,λhh=>?_⟩;have⟨zv,Lj,HL,jA⟩:=UC (P:=C.P) w hz;have PS:=(HL C ψ).zw;have KE:=V2 (HL C ψ) n (n*zv.cells.size) (by rw[PS];exact aM _);rw[Jk (by simp[size_madeCells,F8,PS])]at KE;have⟨w',e1,e2,e3⟩:=Zl5 hb rV (aM n) hh KE (Ec jA) (by rw[F8,sf]) hle;refine⟨.tuple #[],w',.inl (hex A w w' ?_),e2,e3,_,rfl,.nil⟩;rw[hy];have yG:(storeCells ad (Builtin.zeroCells zv.cells n).toList).run C.P w= .ok () w':=e1;cases n with
        |zero=>
         have:w'=w:=by
          have e4:(madeCells zv.cells (0*zv.cells.size)).toList=[]:=by simp[madeCells,Array.range_zero']
          rw[e4]at e1;cases e1;rfl
         subst this;simp[Builtin.clear_,h0,Zl _ ht]
        |succ n=>
         simp[Builtin.clear_,h0,Zl _ ht,Lj,yG]
    |_=>cases h
   |_=>cases h
 .cases h
end
def CS (s:St):Kn:=λh ab=>∃i,h= .inl i/\dD s i=some ab
def BN (C:bE) (ψ:Ps) (ds:ah) (v:Value):Prop:=(∃d,ds=[d]/\VR C ψ d v)\/(ds.length≠1/\∃vs,v= .tuple vs/\bH C ψ ds vs.toList)
structure jT (C:bE) (ψ:Ps) (s:St) (w:World) (ψ':Ps) (s':St) (w':World):Prop where
 fh:fC C ψ' (CS s') w'
 ext:Ext ψ (CS s) w ψ' (CS s') w'
 news: ∀h cb,ψ' h=some cb->ψ h=some cb\/∃i,h= .inl i/\s.length<=i/\i<s'.length
def As (P:Program) (f:FuncId) (vs:Array Value) (w:World) (R:Ending->World->Prop):Prop:=
 match (callFunc f vs).run P w with
 | .ok (.enter f' as) w'=>Calls P f' as w' R
 | .ok (.value v) w'=>R (.returned v) w'
 |_=>False
def ZAZ (C:bE) (g:Nat) (args:ah) (s:St) (out:Out ah×St):Prop:=
 s.length<=out.2.length/\
 ∀f,C.cov f=true->C.fn f=g->∀ψ w vs,fC C ψ (CS s) w->sF ψ w->Glob C ψ->bH C ψ args vs->(∀v,ψ (.inr v)=none)->(∀i,s.length<=i->i<out.2.length->ψ (.inl i)=none)->
  As C.P f vs.toArray w λ
   | .returned v,w'=>∃ds,out.1= .val ds/\∃ψ',jT C ψ s w ψ' out.2 w'/\BN C ψ' ds v
   | .panicked ch,w'=>pz ch/\out.1= .fy/\∃ψ',jT C ψ s w ψ' out.2 w'
   | .outgrown,_=>False
def ZW (C:bE) (c:Zg):Prop:=∀g args s out,c g args s=some out->ZAZ C g args s out
def nQ (ψ:Ps):Ps
 | .inl i=>ψ (.inl i)
 | .inr _=>none
def zG (ψ kK:Ps):Ps
 | .inl i=>kK (.inl i)
 | .inr v=>ψ (.inr v)
def Qe (s':St) (Q:Kn):Kn:=λh ab=>CS s' h ab\/(Q h ab/\∀i,h= .inl i->s'.length<=i)
section
variable {C:bE} {ψ kK:Ps} {Q:Kn} {s s':St} {w w':World}
theorem Gj (e:nQ ψ h=some cb):ψ h=some cb/\∃i,h= .inl i:=by
 cases h with
 |inl i=>exact⟨e,i,rfl⟩
 |inr v=>cases e
theorem ZtK {vs:List Value} (h:bH C ψ ds vs):bH C (nQ ψ) ds vs:=h.mono (ψ:=ψ) (ψ':=nQ ψ) λ_ _ e=>e
theorem ZsA (h:fC C ψ Q w) (hk: ∀i ab cb,dD s i=some ab->ψ (.inl i)=some cb->Q (.inl i) ab):fC C (nQ ψ) (CS s) w:=by
 constructor
 .intro k cb ab e q
  obtain⟨e,i,rfl⟩:=Gj e;have⟨_,hi,q⟩:=q;cases hi;exact(h.holds _ cb ab e (hk i ab cb q e)).same (ψ:=ψ) (ψ':=nQ ψ) (λ_ _ e=>e) rfl
 .intro k cb ab k' gC df e q hs e' q' hn
  obtain⟨e,i,rfl⟩:=Gj e;obtain⟨e',i',rfl⟩:=Gj e';have⟨_,hi,q⟩:=q;cases hi;have⟨_,hi,q'⟩:=q';cases hi;exact h.uA _ cb ab _ gC df e (hk i ab cb q e) hs e' (hk i' df gC q' e') hn
theorem frame (h:fC C ψ Q w) (hb:sF ψ w) (hk: ∀i ab cb,dD s i=some ab->ψ (.inl i)=some cb->Q (.inl i) ab) (hlen:s.length<=s'.length)
  (hc:jT C (nQ ψ) s w kK s' w'):fC C (zG ψ kK) (Qe s' Q) w'/\Ext ψ Q w (zG ψ kK) (Qe s' Q) w':=by
 have mono: ∀k cb,ψ k=some cb->zG ψ kK k=some cb:=by
  intro k cb e;cases k with
  |inl i=>exact hc.ext.mono (.inl i) cb e
  |inr v=>exact e
 have Qp: ∀b,vk (nQ ψ) (CS s) b->∃i cb ab,ψ (.inl i)=some cb/\dD s i=some ab/\Q (.inl i) ab/\ab.hJ=true/\cb.b=b:=by
  rintro b ⟨k,cb,ab,e,⟨i,rfl,q⟩,hs,hb⟩;exact⟨i,cb,ab,e,q,hk i ab cb q e,hs,hb⟩
 have ady: ∀b,vk (nQ ψ) (CS s) b->vk ψ Q b:=by
  intro b hs;have⟨i,cb,ab,e,_,q,hs,hb⟩:=Qp b hs;exact⟨_,cb,ab,e,q,hs,hb⟩
 have G3: ∀k cb ab,zG ψ kK k=some cb->Q k ab->(∀i,k= .inl i->s'.length<=i)->ψ k=some cb/\¬vk (nQ ψ) (CS s) cb.b/\cb.b<w.heap.size:=by
  intro k cb ab e q hf;have e':ψ k=some cb:=by
   cases k with
   |inr v=>exact e
   |inl i=>
    rcases hc.news _ _ e with e|⟨j,hj,_,aw⟩
    .exact e
    grind
  refine⟨e',λhs=>?_,hb _ _ e'⟩;have⟨i,cb0,ab0,e0,q0,qq,K4,yR⟩:=Qp _ hs;have dQ:(Sum.inl i:dN)≠k:=by
   rintro rfl;have h1:=hf i rfl;have h2:=Ee q0;omega
  exact h.uA _ cb0 ab0 _ cb ab e0 qq K4 e' q dQ yR.symm
 refine⟨⟨?_,?_⟩,⟨mono,?_,hc.ext.size,?_,?_,?_,hc.ext.tape,hc.ext.os,hc.ext.output⟩⟩
 .intro k cb ab e q
  rcases q with⟨i,rfl,q⟩|⟨q,hf⟩
  .exact(hc.fh.holds (.inl i) cb ab e ⟨i,rfl,q⟩).same (ψ:=kK) (ψ':=zG ψ kK) (λ_ _ e=>e) rfl
  .have⟨e1,e2,e3⟩:=G3 k cb ab e q hf
   exact(h.holds k cb ab e1 q).same (λi cb e=>mono _ _ e) (hc.ext.kl _ e3 e2)
 .intro k cb ab k' gC df e q hs e' q' hn
  rcases q with⟨i,rfl,q⟩|⟨q,hf⟩<;>rcases q' with⟨i',rfl,q'⟩|⟨q',CZ⟩
  .exact hc.fh.uA (.inl i) cb ab (.inl i') gC df e ⟨i,rfl,q⟩ hs e' ⟨i',rfl,q'⟩ hn
  .have⟨e1,e2,e3⟩:=G3 k' gC df e' q' CZ
   rcases hc.ext.hJ cb.b ⟨.inl i,cb,ab,e,⟨i,rfl,q⟩,hs,rfl⟩with h1|h1
   .grind
   .omega
  .have⟨e1,e2,e3⟩:=G3 k cb ab e q hf
   rcases hc.ext.tN (.inl i') gC e' with h1|⟨h1,_⟩
   .have⟨y,i2,Ku,hy⟩:=hc.ext.live (.inl i') gC df h1 ⟨i',rfl,q'⟩
    cases Ku;exact h.uA k cb ab (.inl i') gC y e1 q hs h1 (hk i' y gC hy h1) hn
   grind
  .have⟨e1,_,_⟩:=G3 k cb ab e q hf
   have⟨yG,_,_⟩:=G3 k' gC df e' q' CZ;exact h.uA k cb ab k' gC df e1 q hs yG q' hn
 .intro k cb e
  cases k with
  |inr v=>exact .inl e
  |inl i=>
   rcases hc.ext.tN (.inl i) cb e with h1|⟨h1,h2⟩
   .exact .inl h1
   grind
 .intro b dV hn
  exact hc.ext.kl b dV λhs=>hn (ady b hs)
 .rintro b ⟨k,cb,ab,e,q,hs,dV⟩
  rcases q with⟨i,rfl,q⟩|⟨q,hf⟩
  .exact(hc.ext.hJ b ⟨.inl i,cb,ab,e,⟨i,rfl,q⟩,hs,dV⟩).imp (ady b) id
  .have⟨e1,_,_⟩:=G3 k cb ab e q hf
   exact .inl ⟨k,cb,ab,e1,q,hs,dV⟩
 .intro k cb x e q
  rcases q with⟨i,rfl,q⟩|⟨q,_⟩
  .have⟨y,i2,Ku,hy⟩:=hc.ext.live (.inl i) cb x e ⟨i,rfl,q⟩
   grind
  .exact⟨x,q⟩
end
section
variable {C:bE} {o:Oper} {D W:dN->Prop} {E:Env} {s:St} {md:Md} {pr ms:al}
theorem Zpb {m:M ah} {K:ah->M β} (h:Ov md m K s=some r):
  (∃ds s1,m s=some (.val ds,s1)/\K ds s1=some r/\(2<=md.x->St.Xf s s1))\/(md.x=0/\∃s1,m s=some (.fy,s1)/\r=(.fy,s1)):=by
 unfold Ov at h;cases hx:md.x with
 |zero=>
  rw[hx]at h;simp only[cV]at h;grind
 |succ n=>
  cases n with
  |zero=>
   rw[hx]at h;simp only[uv]at h;grind
  |succ n=>
   rw[hx]at h;simp only[tc]at h;grind
theorem Gn {m:M ah} : ∀ {bs:al} {o:Out ah} {s1:St},GP E bs m s=some (o,s1)->
  m s=some (o,s1)/\∀ds,o= .val ds->∀b∈bs,∃j p,E.get b= .v (.ptr (some (j,p)))/\s1[j]? =s[j]?
 |[],_,_,h=>⟨h,λ_ _ b hb=>by cases hb⟩
 |b::bs,o,s1,h=>by
  unfold GP at h;cases he:E.get b with
  |v d=>
   rw[he]at h;cases d with
   |ptr a=>
    cases a with
    |none=>cases h
    |some jq=>
     have⟨j,q'⟩:=jq;simp only[JI]at h;cases hm:GP E bs m s with
     |none=>rw[hm]at h;cases h
     |some p=>
      have⟨o1,s2⟩:=p;rw[hm]at h;cases o1 with
      |val ds=>
       simp only at h;split at h
       .rename_i hk
        cases h;have⟨h1,h2⟩:=Gn hm;grind
       .cases h
      |fy=>
       simp only at h;cases h;exact⟨(Gn hm).1,λmD e=>by cases e⟩
   |_=>cases h
  |_=>rw[he]at h;cases h
theorem Nu {f:Operand} (hq:q.callee= .value f) (ho:o.op= .call q) (bx: ∀h,W h->D h) (hD: ∀i,D (.inl i))
  {c:Zg} (hc:ZW C c) {as:ah} (hf:E.src C f= .v (.func g fs cs)) (has:SV C E q.args.toList as)
  {out:Out ah} (uE:c g (fs++as++cs) s=some (out,s1)) (hW: ∀ds,out= .val ds->∀i,W (.inl i)\/(i<s.length->s1[i]? =s[i]?)):
  (out= .fy->xZ C o D E s s1)/\
  (∀ds e,out= .val ds->e.dr=none->(∀r v n,e≠ .pl r v n)->(∀ψ v,BN C ψ ds v->fV C ψ e v)->mY W pr ms o E s (E.fu o.dst e) s1/\DO C o D W E s (E.fu o.dst e) s1):=by
 have ok:=hc g _ s _ uE;have hlen:s.length<=s1.length:=ok.1;have mf:f∈o.op.operands:=by rw[ho];simp[Op.operands,Call.operands,hq]
 have ma: ∀x∈q.args.toList,x∈o.op.operands:=by intro x hx;rw[ho,Op.operands,Call.operands,hq];grind
 have sem: ∀ψ Q (A:Act) (w:World) (next:Act->World->Prop) (QQ:Exit->Act->World->Prop),aA C o D E s ψ Q A w->(∀i,s.length<=i->i<s1.length->ψ (.inl i)=none)->
   (∀ds v w' kK,out= .val ds->jT C (nQ ψ) s w kK s1 w'->BN C kK ds v->next (A.put o.dst v) w')->(∀ch w' kK,pz ch->out= .fy->jT C (nQ ψ) s w kK s1 w'->QQ (.panic ch) A w')->o.wp C.P A w next QQ:=by
  intro ψ Q A w next QQ p room hv hp;have hfv:=p.val mf hf;generalize pV:A.eval f=v at hfv;cases hfv with
  |func k _ _ vf vc xd h1 h2=>
   have h3:=Jj p ma has;have kS:bH C (nQ ψ) (fs++as++cs) (vf.toList++q.args.toList.map A.eval++vc.toList):=ZtK (bH.append (bH.append h1 h3) h2);have:=ok.2 k xd rfl (nQ ψ) w _ (ZsA p.fh λi ab cb h e=>p.ko (.inl i) ab cb (hD i) h e) (λh cb e=>p.gO h cb (Gj e).1)
    (λg hg=>let ⟨cb,e1,e2⟩:=p.lK g hg;⟨cb,e1,e2⟩) kS (λ_=>rfl) (λi h1 h2=>room i h1 h2)
   have oL:(vf.toList++q.args.toList.map A.eval++vc.toList).toArray=vf++q.args.map A.eval++vc:=by
    apply Array.ext';simp
   rw[oL]at this;have hex:(execOp A.eval o).run C.P w=(callFunc k (vf++q.args.map A.eval++vc)).run C.P w:=by
    simp[execOp,ho,resolve,hq,pV,Deferred.ofValue,invoke]
   unfold Oper.wp;rw[hex];unfold As at this;split at this
   .rename_i f' as' w' hr
    rw[hr];refine Calls.mono this λe xP he=>?_
    grind
   .rename_i v w' hr
    rw[hr];have⟨ds,e1,kK,e2,e3⟩:=this;exact hv ds v w' kK e1 e2 e3
   .exact this.elim
 refine⟨λEY=>⟨hlen,λψ Q A w next QQ p room hn=>?_⟩,λds e EY zj lN acT=>⟨mY.put pr ms e zj Fd hlen (λi ab h=>?_) (λi h hi=>?_) (.inr (by grind[tZ])),λψ Q A w next QQ p room hn=>?_⟩⟩
 .have Qm: ∀i,s.length<=i->i<s1.length->ψ (.inl i)=none:=λi h1 h2=>room (.inl i) ⟨BJ.2 h1,h2⟩
  have hk: ∀i ab cb,dD s i=some ab->ψ (.inl i)=some cb->Q (.inl i) ab:=λi ab cb h e=>p.ko (.inl i) ab cb (hD i) h e
  refine sem ψ Q A w next QQ p Qm Fd λch w' kK uG _ KT=>?_
  have⟨f1,f2⟩:=frame p.fh p.gO hk hlen KT;refine hn (zG ψ kK) (Qe s1 Q) ch w' uG f1 f2 (λh cb e=>?_) λi ab cb h e=> .inl ⟨i,rfl,h⟩
  cases h with
  |inr v=>exact .inl e
  |inl i=>
   rcases KT.news _ _ e with e|⟨j,hj,h1,h2⟩
   .exact .inl e
   .cases hj;exact .inr ⟨BJ.2 h1,h2⟩
 .grind[dD]
 .grind
 .have Qm: ∀i,s.length<=i->i<s1.length->ψ (.inl i)=none:=λi h1 h2=>room (.inl i) ⟨BJ.2 h1,h2⟩
  have hk: ∀i ab cb,dD s i=some ab->ψ (.inl i)=some cb->Q (.inl i) ab:=λi ab cb h e=>p.ko (.inl i) ab cb (hD i) h e
  refine sem ψ Q A w next QQ p Qm (λmD v w' kK h KT hr=>?_) Fd;rw[EY]at h;cases h;have⟨f1,f2⟩:=frame p.fh p.gO hk hlen KT;have kZ:BN C (zG ψ kK) ds v:=by
   rcases hr with⟨d,e1,e2⟩|⟨e1,vs,e2,e3⟩
   .exact .inl ⟨d,e1,e2.mono (ψ:=kK) (ψ':=zG ψ kK) λ_ _ e=>e⟩
   .exact .inr ⟨e1,vs,e2,e3.mono (ψ:=kK) (ψ':=zG ψ kK) λ_ _ e=>e⟩
  refine hn (zG ψ kK) (Qe s1 Q) v w' ⟨f1,f2,λh cb e=>?_,λh ab cb cr hw e'=>?_,λh ab cb e' q' nw dm=>?_⟩ (λd' kV=>?_)
  .cases h with
   |inr v=>exact .inl e
   |inl i=>
    rcases KT.news _ _ e with e|⟨j,hj,h1,h2⟩
    .exact .inl e
    .cases hj;exact .inr ⟨BJ.2 h1,h2⟩
  .cases h with
   |inl i=>exact .inl ⟨i,rfl,cr⟩
   |inr x=>
    rcases hw with hw|⟨n1,n2⟩
    .have pM:CR (E.fu o.dst e) s (.inr x) ab:=cr
     exact .inr ⟨p.ko (.inr x) ab cb (bx _ hw) (pM.fu zj) e',λi hi=>by cases hi⟩
    grind[eC,Env.HO]
  .cases h with
   |inr x=>exact .inr Fd
   |inl i=>
    rcases kz i s.length with hi|hi
    .rcases hW ds EY i with h'|h'
     .exact absurd h' nw
     .have h1:dD s i=some ab:=dm (hD i) hi
      exact .inl ⟨i,rfl,by grind[dD]⟩
    .rcases kz i s1.length with Hm|Hm
     .rw[Qm i hi Hm]at e';cases e'
     .exact .inr Fd
  grind[Env.kR]
theorem Zws {f:Operand} (hq:q.callee= .value f) (ho:o.op= .call q) (bx: ∀h,W h->D h) (hD: ∀i,D (.inl i)) (hW: ∀i,W (.inl i)\/2<=md.x\/∃b∈md.bs,∀j p,E.get b= .v (.ptr (some (j,p)))->j=i)
  {c:Zg} (hc:ZW C c) (h:W2 C E o K md c f q.args s=some r):cj C md pr ms o D W E s K r:=by
 unfold W2 at h;have⟨fv,hf,h⟩:=Zw h;have⟨as,h,has⟩:=IF h;have hW': ∀(s1:St),(2<=md.x->St.Xf s s1)->(∀b∈md.bs,∃j p,E.get b= .v (.ptr (some (j,p)))/\s1[j]? =s[j]?)->∀i,W (.inl i)\/(i<s.length->s1[i]? =s[i]?):=λs1 hb hk i=>by
  rcases hW i with h|h|⟨b,kT,dh⟩
  .exact .inl h
  .obtain⟨x,rfl⟩:=hb h
   grind
  grind
 cases fv with
 |func g fs cs=>
  simp only at h;generalize adv C.P o.type=ro at h;have⟨many,LM⟩:=ro;cases many with
  |true=>
   simp only at h;have⟨h1,h⟩:=IE h;have h1:=Mg h1;rcases Zpb h with⟨ds,s1,hm,h,hb⟩|⟨hx,s1,hm,rfl⟩
   .have⟨mD,h,hl,nN,hr⟩:=IV h
    have⟨hm,hk⟩:=Gn hm;have⟨e1,e2⟩:=(Nu (pr:=pr) (ms:=ms) hq ho bx hD hc hf has hm Fd).2 ds (.qR mD) rfl rfl (λ_ _ _ h=>by cases h) (λψ v hv=>by
     rcases hv with⟨d,e,_⟩|⟨_,vs,e,e'⟩
     .rw[e]at hl;simp at hl;omega
     .exact⟨vs,e,hr C ψ _ e'⟩)
    exact .inl ⟨_,s1,h,e1,e2⟩
   .exact .inr ⟨hx,s1,rfl,(Nu (pr:=pr) (ms:=ms) hq ho bx hD hc hf has (Gn hm).1 (λds e=>by cases e)).1 rfl⟩
  |false=>
   simp only at h;rcases Zpb h with⟨ds,s1,hm,h,hb⟩|⟨hx,s1,hm,rfl⟩
   .have⟨mD,h,hl,nN,hr⟩:=IV h
    cases mD with
    |nil=>cases h
    |cons d rest=>
     cases rest with
     |cons _ _=>cases h
     |nil=>
      simp only at h;have⟨hm,hk⟩:=Gn hm;have⟨e1,e2⟩:=(Nu (pr:=pr) (ms:=ms) hq ho bx hD hc hf has hm Fd).2 ds (.v d) rfl rfl (λ_ _ _ h=>by cases h) (λψ v hv=>by
       rcases hv with⟨d0,e,yU⟩|⟨e,_⟩
       .subst e
        have:=hr C ψ [v] (.cons _ _ _ _ yU .nil);cases this with
        |cons _ _ _ _ a _=>exact a
       grind)
      exact .inl ⟨_,s1,h,e1,e2⟩
   .exact .inr ⟨hx,s1,rfl,(Nu (pr:=pr) (ms:=ms) hq ho bx hD hc hf has (Gn hm).1 (λds e=>by cases e)).1 rfl⟩
 |_=>cases h
end
def QP (h:dN):Prop:=∃i,h= .inl i
def QV (E:Env) (r:Nat) (h:dN):Prop:=∃v,h= .inr v/\(E.get r).dr=some v
def qk:Md->Env->dN->Prop
 | .s,_,_=>True
 | .d .pure _,_,_=>False
 | .d (.xK r) _,E,h=>QV E r h
 | .d (.qd r) _,E,h=>QV E r h
 | .d (.lp a) _,E,h=>∃i p,E.get a= .v (.ptr (some (i,p)))/\h= .inl i
 | .d _ _,_,h=>QP h
def nC:Md->Env->dN->Prop
 | .s,_,_=>True
 | .d .wr _,_,h=>QP h
 | .d .call x,_,h=>x<2/\QP h
 | .d (.qd r) _,E,h=>QV E r h
 | .d (.ap bs) _,E,h=>∃i,h= .inl i/\∀b∈bs,∃j p,E.get b= .v (.ptr (some (j,p)))/\j≠i
 | .d _ _,_,_=>False
theorem NY (md:Md) (E:Env) (h:dN) (w:nC md E h):qk md E h:=by
 cases md with
 |s=>trivial
 |d k x=>cases k<;>first|exact w|exact w.2|exact w.elim|(have⟨i,e,_⟩:=w;exact⟨i,e⟩)
variable {X:M β}
section
variable {C:bE} {o:Oper} {E:Env} {s:St} {md:Md} {pr ms:al}
theorem Zua {a:Operand} (ho:o.op= .load t a):cls P pr ops o= .hp\/(∃b,a= .tmp b/\cls P pr ops o= .lp b)\/∃r,cls P pr ops o= .xK r:=by
 grind[cls]
theorem ZrO {a:Operand} (ho:o.op= .store t a y):cls P pr ops o= .wr\/cls P pr ops o= .ap []\/∃r,cls P pr ops o= .qd r:=by
 grind[cls]
theorem Vn {E:Env} {p:ai} {X:M β} {r:Out β×St} : ∀ {bs:al},JT E p bs X s=some r->X s=some r/\∀b∈bs,∀i q,p=some (i,q)->∃j q',E.get b= .v (.ptr (some (j,q')))/\j≠i
 |[],h=>⟨h,λb hb=>by cases hb⟩
 |b::bs,h=>by
  unfold JT at h;cases he:E.get b with
  |v d=>
   rw[he]at h;cases d with
   |ptr a=>
    cases a with
    |none=>cases h
    |some jq=>
     have⟨j,q'⟩:=jq;simp only at h;have⟨h1,h⟩:=mC h;have⟨h,h2⟩:=Vn h;refine⟨h,λb' dV i q hp=>?_⟩;rcases eM.1 dV with rfl|dV
     .refine⟨j,q',he,?_⟩
      rw[hp]at h1;unfold apart at h1;rintro rfl;simp at h1
     grind
   |_=>cases h
  |_=>rw[he]at h;cases h
theorem Zyi {bs:al} (h:W8 C E bs as X s=some r):
  X s=some r/\∀y z i q n,as.toList.head?=some y->E.src C y= .v (.slice z (some (i,q)) n)->∀b∈bs,∃j q',E.get b= .v (.ptr (some (j,q')))/\j≠i:=by
 unfold W8 at h;cases bs with
 |nil=>grind
 |cons b r=>
  simp only at h;cases hy:as.toList with
  |nil=>rw[hy]at h;cases h
  |cons y ys=>
   rw[hy]at h;simp only at h;have⟨d,hd,h⟩:=Zw h;cases d with
   |slice z p n=>
    have⟨h1,h2⟩:=Vn h;grind
   |_=>cases h
theorem Zyp {bs:al} {a:Operand} (h:stK C E bs a X s=some r):
  X s=some r/\∀i q,E.src C a= .v (.ptr (some (i,q)))->∀b∈bs,∃j q',E.get b= .v (.ptr (some (j,q')))/\j≠i:=by
 unfold stK at h;cases bs with
 |nil=>grind
 |cons b r=>
  simp only at h;cases he:E.src C a with
  |v d=>
   rw[he]at h;cases d with
   |ptr p=>
    have⟨h1,h2⟩:=Vn h;grind
   |_=>cases h
  |_=>rw[he]at h;cases h
theorem Wp (hC:pw C) {c:Zg} (hc:ZW C c) (lL:md= .s\/∃x k m,md= .d (wx pr ops k m (cls C.P pr ops o)) x) (h:fP C pr ms md c o E K s=some r):
  cj C md pr ms o (qk md E) (nC md E) E s K r:=by
 have bx: ∀h,nC md E h->qk md E h:=NY md E;unfold fP at h;cases ho:o.op with
 |move y=>rw[ho]at h;exact ZoL (.inl ho) bx h
 |assign y=>rw[ho]at h;exact ZoL (.inr ho) bx h
 |pick b y z=>rw[ho]at h;exact Zwf ho bx h
 |alloc t=>rw[ho]at h;exact ZuP ho bx h
 |box t y=>rw[ho]at h;exact ZxP ho bx h
 |build t ps=>rw[ho]at h;exact Zus ho bx h
 |buildSlice t n ps=>rw[ho]at h;exact ZoC ho bx h
 |load t a=>
  rw[ho]at h;refine Zwu ho bx ?_ ?_ h
  .intro r v hm hv
   rcases lL with rfl|⟨x,k,m,rfl⟩
   .trivial
   .rcases Zua (P:=C.P) (pr:=pr) (ops:=ops) ho with e|⟨b,_,e⟩|⟨q,e⟩<;>rw[e]at hm⊢
    .cases hm
    .cases hm
    .have:q=r:=dP hm
     subst this;exact⟨v,rfl,hv⟩
  .intro hm i p0 hx
   rcases lL with rfl|⟨x,k,m,rfl⟩
   .trivial
   .rcases Zua (P:=C.P) (pr:=pr) (ops:=ops) ho with e|⟨b,hb,e⟩|⟨q,e⟩<;>rw[e]at hm⊢
    .exact⟨i,rfl⟩
    .rw[hb]at hx
     have hx:E.get b= .v (.ptr (some (i,p0))):=by
      grind[Env.src]
     exact⟨i,p0,hx,rfl⟩
    .cases hm
 |store t a y=>
  rw[ho]at h;simp only at h;have⟨hd,h⟩:=Zt h;have⟨h,cd⟩:=Zyp h;refine Zuj ho (by simpa using hd) bx ?_ ?_ h
  .intro r v hm hv
   rcases lL with rfl|⟨x,k,m,rfl⟩
   .trivial
   .rcases ZrO (P:=C.P) (pr:=pr) (ops:=ops) ho with e|e|⟨q,e⟩<;>rw[e]at hm⊢
    .cases hm
    .cases hm
    .have:q=r:=dP hm
     subst this;exact⟨v,rfl,hv⟩
  .intro hm i p hx
   rcases lL with rfl|⟨x,k,m,rfl⟩
   .trivial
   .rcases ZrO (P:=C.P) (pr:=pr) (ops:=ops) ho with e|e|⟨q,e⟩<;>rw[e]at hm cd⊢
    .exact⟨i,rfl⟩
    .exact⟨i,rfl,cd i p hx⟩
    .cases hm
 |nilCheck y=>rw[ho]at h;exact Zqf ho bx h
 |binOp op t y z u=>rw[ho]at h;exact ZxS hC ho bx h
 |unOp op t y=>rw[ho]at h;exact Zy1 ho bx h
 |convert t u y=>
  rw[ho]at h;refine Zse ho bx (λi=>?_) h;rcases lL with rfl|⟨x,k,m,rfl⟩
  .trivial
  .have:cls C.P pr ops o= .hp:=by unfold cls;rw[ho]
   rw[this];exact⟨i,rfl⟩
 |makeInterface t y=>rw[ho]at h;exact Zuw ho bx h
 |makeFunc f x y=>rw[ho]at h;exact Zv0 ho bx h
 |makeSlice t x y=>rw[ho]at h;exact ZpE ho bx h
 |slice t y lo hi mx=>
  rw[ho]at h;cases mx with
  |some _=>cases h
  |none=>
   refine Zue ho bx (λ⟨m,e,ht⟩ i=>?_) h;rcases lL with rfl|⟨x,k,m,rfl⟩
   .trivial
   .have:cls C.P pr ops o= .hp:=by grind[cls]
    rw[this];exact⟨i,rfl⟩
 |fieldAddr t y f=>rw[ho]at h;exact Zpu ho bx h
 |field t y f=>rw[ho]at h;exact ZuI ho bx h
 |indexAddr t y i=>rw[ho]at h;exact ZpV ho bx h
 |index t y i=>rw[ho]at h;exact Zux ho bx h
 |range t y=>rw[ho]at h;exact Zuh ho bx h
 |next it b=>
  rw[ho]at h;cases it with
  |tmp t=>
   cases b with
   |true=>
    refine ZvL ho bx (λv hv=>?_) h;rcases lL with rfl|⟨x,k,m,rfl⟩
    .trivial
    .have:cls C.P pr ops o= .qd t:=by unfold cls;rw[ho]
     rw[this];exact⟨v,rfl,hv⟩
   |false=>cases h
  |_=>cases b<;>cases h
 |typeAssert y t u ok=>
  rw[ho]at h;cases ok with
  |true=>cases h
  |false=>
   refine Ztv hC ho bx (λi=>?_) h;rcases lL with rfl|⟨x,k,m,rfl⟩
   .trivial
   .have:cls C.P pr ops o= .wr:=by unfold cls;rw[ho]
    rw[this];exact⟨i,rfl⟩
 |extract t i=>
  rw[ho]at h;cases t with
  |tmp t=>exact Zr8 ho bx h
  |_=>cases h
 |panic y=>
  rw[ho]at h;refine ZuD ho (λi=>?_) h;rcases lL with rfl|⟨x,k,m,rfl⟩
  .trivial
  .have:cls C.P pr ops o= .wr:=by unfold cls;rw[ho]
   rw[this];exact⟨i,rfl⟩
 |call q=>
  rw[ho]at h;simp only at h;have wr: ∀b,q.callee= .builtin b->b≠ .len->b≠ .min->b≠ .max->b≠ .append->∀i,nC md E (.inl i):=by
   intro b hq h1 h2 h3 h4 i;rcases lL with rfl|⟨x,k,m,rfl⟩
   .trivial
   .have:cls C.P pr ops o= .wr:=by
     grind[cls]
    rw[this];exact⟨i,rfl⟩
  cases hq:q.callee with
  |value f=>
   rw[hq]at h;have cO:cls C.P pr ops o= .ap []\/cls C.P pr ops o= .call:=by
    grind[cls]
   refine Zws hq ho bx (λi=>?_) (λi=>?_) hc h
   .rcases lL with rfl|⟨x,k,m,rfl⟩
    .trivial
    .rcases cO with this|this<;>rw[this]<;>exact⟨i,rfl⟩
   .rcases lL with rfl|⟨x,k,m,rfl⟩
    .exact .inl trivial
    .rcases cO with this|this<;>rw[this]
     .by_cases hb: ∀b∈(Md.d (wx pr ops k m (.ap [])) x).bs,∃j p,E.get b= .v (.ptr (some (j,p)))/\j≠i
      .exact .inl ⟨i,rfl,hb⟩
      grind
     .rcases kz x 2 with hx|hx
      .exact .inl ⟨hx,i,rfl⟩
      .exact .inr (.inl hx)
  |invoke f m=>rw[hq]at h;cases h
  |builtin b=>
   rw[hq]at h;cases b with
   |len=>exact Zx7 hq rfl ho bx h
   |append=>
    have⟨h,yP⟩:=Zyi h;have hc:cls C.P pr ops o= .ap []:=by grind[cls]
    refine Ztm hq ho bx (λi=>?_) (λy z i p n hy he=>?_) h
    .rcases lL with rfl|⟨x,k,m,rfl⟩
     .trivial
     .rw[hc];exact⟨i,rfl⟩
    .rcases lL with rfl|⟨x,k,m,rfl⟩
     .trivial
     .rw[hc]at yP⊢
      exact⟨i,rfl,yP y z i p n hy he⟩
   |copy=>exact ZvO hq ho bx Fd h
   |min=>exact ZrL (mx:=false) hq rfl ho bx h
   |max=>exact ZrL (mx:=true) hq rfl ho bx h
   |clear=>exact ZuH hq ho bx Fd h
   |_=>cases h
 |_=>rw[ho]at h;cases h
end
end Go.Gv
