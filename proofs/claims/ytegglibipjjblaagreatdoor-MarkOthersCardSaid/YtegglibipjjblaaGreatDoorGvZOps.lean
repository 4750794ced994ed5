/- What an operation does, said of the machine and of the model: the frame of the proofs for the single operations. -/
import Derived.Test.YtegglibipjjblaaGreatDoorGvRel
import Derived.Laws.Strings
import Derived.Laws.Concat
import Derived.DeepKeys
import Derived.Laws.Slices
import Derived.Laws.BytesArg
import Derived.Laws.Tables
import Derived.Laws.MakeOwn
import Derived.Laws.Append
set_option linter.all false
namespace Go.Gv
theorem GF (k:Nat) (e:ez) (l:List (Nat×ez)) (t:Nat):look ((k,e)::l) t=if k=t then e else look l t:=by
 simp[look]
theorem Env.rj (E:Env) (t:Nat) (e:ez) (u:Nat):(E.put t e).get u=if t=u then e else E.get u:=GF t e E.l u
theorem Env.adf (n:Nat) (t:Nat) (e:ez) (l:List (Nat×ez)) (u:Nat):(⟨n,(t,e)::l⟩:Env).get u=if t=u then e else look l u:=GF t e l u
@[simp] theorem Env.YB (E : Env) (t : Nat) (e : ez) : (E.put t e).bL = E.bL := rfl
@[simp] theorem Env.Fv (E : Env) (t : Option Nat) (e : ez) : (E.eR t e).bL = E.bL := by cases t <;> rfl
theorem Env.jU (E:Env) (t:Option Nat) (e:ez) (u:Nat):(E.eR t e).get u=if t=some u then e else E.get u:=by
 cases t with
 |none=>simp[Env.eR]
 |some t=>simp[Env.eR,Env.rj,fQ]
theorem G9: ∀(l:al) (t:Nat),has l t=true↔t∈l
 |[],t=>by simp[has]
 |k::r,t=>by
  simp only[has,l9,dW,G9 r t];constructor
  .rintro(h|h)
   .simp_all
   .exact .inr h
  .rintro(h|h)
   .simp_all
   .exact .inr h
theorem yb (E:Env) (ts:al) (t:Nat):(E.del ts).get t=if has ts t then .u else E.get t:=by
 have key: ∀l:List (Nat×ez),look (Er l ts) t=if has ts t then .u else look l t:=by
  intro l;induction l with
  |nil=>simp[Er,look]
  |cons x r ih=>
   obtain⟨k,e⟩:=x;simp only[Er];cases hk:has ts k with
   |true=>
    simp only[ae,ih,GF];by_cases h:k=t
    .subst h;simp[hk]
    .simp[h]
   |false=>
    simp only[af,GF,ih];by_cases h:k=t
    .subst h;simp[hk]
    .simp[h]
 exact key E.l
@[simp] theorem ag9 (E : Env) (ts : al) : (E.del ts).bL = E.bL := rfl
def dQ (E:Env) (s:St):du->Prop
 | .inl i=>i<s.length
 | .inr v=>v<E.bL
def wj (E:Env) (s:St) (E':Env) (s':St) (h:du):Prop:=¬dQ E s h/\dQ E' s' h
variable {ab:AB} {ad base:Addr} {ps:Array (Nat×Operand)} {as cap first:Array Operand} {ts:Array TypeId} {c vs zv:Array Value} {op:BinOp} {f mx:Bool} {cb:CB} {q:Call} {Q Q' Q1:Kn} {ops:List Oper} {md:Md} {g i j lim m n o' off p z0:Nat} {y:Operand} {hi lo:Option Operand} {P:Program} {ψ ψ':Ps} {s s' s1:St} {α β:Type} {d ed td:TypeDesc} {e t ty u xt yt:TypeId} {v:Value} {w w':World} {cs cs' ds fs xs ys z:ah} {ms pr:al} {C:bx} {h:du}
theorem BR (h:c8 s i=some ab):i<s.length:=by
 grind[c8]
variable {E:Env}
theorem CR.pX (hE:iY E) (c:CR E s h ab):dQ E s h:=by
 cases h with
 |inl i=>exact BR c
 |inr v=>
  rcases c with⟨t,n,cs,e,_⟩|⟨t,l,p,e,_⟩
  .exact hE.lt t v (by rw[e];rfl)
  .exact hE.lt t v (by rw[e];rfl)
theorem JJ {x:St} (h:i<s.length):c8 (s++x) i=c8 s i:=by
 grind[c8]
theorem Ot (s:St) (b:bT):c8 (s++[some b]) s.length=some (.cells b.fK b.cells):=by
 simp[c8]
def Spec (pr:al) (o:Oper):Prop:=
 match o.op with
 | .store .. | .next .. | .range .. =>True
 | .alloc _| .box _ _=>∃d,o.dst=some d/\has pr d=true
 |_=>False
def sf (o:Oper):Prop:=
 match o.op with
 | .alloc _| .box .. | .buildSlice .. | .makeSlice .. | .convert .. =>True
 | .call q=>match q.callee with
  | .value _| .builtin .append=>True
  |_=>False
 |_=>False
structure lO (W:du->Prop) (pr ms:List Nat) (o:Oper) (E:Env) (s:St) (E':Env) (s':St):Prop where
 len:s.length<=s'.length
 bL:E.bL<=E'.bL
 gD:iY E->iY E'
 other: ∀t,o.dst≠some t->has ms t=false->E'.get t=E.get t
 val: ∀t d,o.dst≠some t->E'.get t= .v d->E.get t= .v d
 bI: ∀t,o.dst≠some t->∀(C:bx) ψ x,fp C ψ (E.get t) x->fp C ψ (E'.get t) x
 back: ∀h ab,CR E' s' h ab->W h\/wj E s E' s' h\/CR E s h ab
 vX: ∀t v n cs,E'.get t= .loc v n cs->(∃lU,E.get t= .loc v n lU)\/(E.bL<=v/\o.dst=some t)
 xL: ∀t v l p,E'.get t= .it v l p->(∃p0,E.get t= .it v l p0)\/(E.bL<=v/\o.dst=some t)
 YO: ∀i,¬W (.inl i)->i<s.length->s'[i]? =s[i]?
 plain:(∃e:ez,e.cS=none/\E'=E.eR o.dst e)\/Spec pr o
 grow:s'.length=s.length\/sf o
structure aC (C:bx) (o:Oper) (D:du->Prop) (E:Env) (s:St) (ψ:Ps) (Q:Kn) (a:Act) (w:World):Prop where
 eG:eX C ψ Q w
 gm:qM ψ w
 ku:Glob C ψ
 gD:iY E
 jz: ∀h ab cb,D h->CR E s h ab->ψ h=some cb->Q h ab
 args: ∀t,.tmp t∈o.op.operands->fp C ψ (E.get t) (a.tmps.getD t undef)
def Jz (E:Env) (s:St) (E':Env) (s':St) (ψ:Ps):Prop:=∀h,wj E s E' s' h->ψ h=none
structure Jw (C:bx) (D W:du->Prop) (E:Env) (s:St) (E':Env) (s':St) (ψ:Ps) (Q:Kn) (w:World) (ψ':Ps) (Q':Kn) (w':World):Prop where
 eG:eX C ψ' Q' w'
 ext:Ext ψ Q w ψ' Q' w'
 news: ∀h cb,ψ' h=some cb->ψ h=some cb\/wj E s E' s' h
 p1: ∀h ab cb,CR E' s' h ab->(W h\/wj E s E' s' h)->ψ' h=some cb->Q' h ab
 p2: ∀h ab cb,ψ h=some cb->Q h ab->¬W h->(D h->dQ E s h->CR E s h ab)->Q' h ab
def Bw (C:bx) (o:Oper) (D W:du->Prop) (E:Env) (s:St) (E':Env) (s':St):Prop:=
 ∀(ψ:Ps) (Q:Kn) (a:Act) (w:World) (next:Act->World->Prop) (QQ:Exit->Act->World->Prop),aC C o D E s ψ Q a w->Jz E s E' s' ψ->
  (∀ψ' Q' v w',Jw C D W E s E' s' ψ Q w ψ' Q' w'->(∀d,o.dst=some d->fp C ψ' (E'.get d) v)->next (a.put o.dst v) w')->o.wp C.P a w next QQ
def nL (ch:List PanicEntry):Prop:=∃t v,ch=[{ v:= .iface t v,recovered:=false }]
def wm (C:bx) (o:Oper) (D:du->Prop) (E:Env) (s s':St):Prop:=
 s.length<=s'.length/\
 ∀(ψ:Ps) (Q:Kn) (a:Act) (w:World) (next:Act->World->Prop) (QQ:Exit->Act->World->Prop),aC C o D E s ψ Q a w->Jz E s E s' ψ->
  (∀ψ' Q' ch w',nL ch->eX C ψ' Q' w'->Ext ψ Q w ψ' Q' w'->(∀h cb,ψ' h=some cb->ψ h=some cb\/wj E s E s' h)->
   (∀i ab cb,c8 s' i=some ab->ψ' (.inl i)=some cb->Q' (.inl i) ab)->QQ (.panic ch) a w')->o.wp C.P a w next QQ
def bV (C:bx) (md:Md) (pr ms:al) (o:Oper) (D W:du->Prop) (E:Env) (s:St) (K:Env->M β) (r:Out β×St):Prop:=
 (∃E' s',K E' s'=some r/\lO W pr ms o E s E' s'/\Bw C o D W E s E' s')\/(md.x=0/\∃s',r=(.eV,s')/\wm C o D E s s')
theorem Zpm {d:DV} (h:AZ v=some d):VR C ψ d v:=by
 unfold AZ at h;split at h<;>first|(cases h;done)|(injection h with h;subst h)
 .exact .bool _
 .exact .int _ _
 .exact .str _
 .exact .IY
 .exact .rV _
 .exact .nilFunc
 .exact .nilIface
theorem Zvn {d:DV} (h:AZ v=some d):one d=true:=by
 unfold AZ at h;split at h<;>first|(cases h;done)|(injection h with h;subst h;rfl)
theorem DU {C:bx} {ψ:Ps} : ∀ {vs:List Value} {ds:ah},Hd vs=some ds->bB C ψ ds vs/\ds.all one=true
 |[],ds,h=>by simp only[Hd,fQ]at h;subst h;exact⟨.nil,rfl⟩
 |v::vs,ds,h=>by
  simp only[Hd]at h;split at h
  .rename_i d lz h1 h2
   injection h with h;subst h
   obtain⟨a,b⟩:=DU (C:=C) (ψ:=ψ) h2;exact⟨.cons _ _ _ _ (Zpm h1) a,by simp[Zvn h1,b]⟩
  .cases h
section
variable {C:bx} {o:Oper} {D:du->Prop} {E:Env} {s:St} {ψ:Ps} {Q:Kn} {a:Act} {w:World}
theorem aC.src (p:aC C o D E s ψ Q a w) {x:Operand} (hx:x∈o.op.operands):fp C ψ (E.src C x) (a.eval x):=by
 cases x with
 |tmp t=>
  have h:=p.args t hx;simp only[Env.src,Act.eval];cases he:E.get t with
  |loc v n cs=>
   rw[he]at h;obtain⟨cb,h1,h2,h3⟩:=h;exact⟨cb,h1,h2,h3⟩
  |it v l q=>exact trivial
  |u=>exact trivial
  |un=>rw[he]at h;exact h
  |v d=>rw[he]at h;exact h
  |pC ds=>rw[he]at h;exact h
  |pl r v n=>rw[he]at h;exact h
 |const v=>
  simp only[Env.src,Act.eval];split
  .exact Zpm (by assumption)
  .exact trivial
 |global g=>
  simp only[Env.src,Act.eval];cases hg:C.An g with
  |false=>exact trivial
  |true=>
   obtain⟨cb,h1,h2,h3⟩:=p.ku g hg;have:=VR.ptr (C:=C) (ψ:=ψ) (C.gl g) 0 cb h1;rw[h2,h3]at this;exact this
 |func f=>
  simp only[Env.src,Act.eval];cases hg:C.cov f with
  |false=>exact trivial
  |true=>exact VR.func f [] [] #[] #[] hg .nil .nil
theorem aC.val (p:aC C o D E s ψ Q a w) {x:Operand} (hx:x∈o.op.operands) {d:DV} (h:E.src C x= .v d):VR C ψ d (a.eval x):=by
 have:=p.src hx;rw[h]at this;exact this
theorem Env.I9 (C:bx) (E:Env) (x:Operand):(E.src C x).cS=none:=by
 cases x with
 |tmp t=>simp only[Env.src];cases E.get t<;>rfl
 |const v=>simp only[Env.src];cases AZ v<;>rfl
 |global g=>simp only[Env.src];cases C.An g<;>rfl
 |func f=>simp only[Env.src];cases C.cov f<;>rfl
theorem Env.C2 (C:bx) (hE:iY E) {x:Operand} {r v:Nat} (h:E.src C x= .pl r v n):v<E.bL:=by
 cases x with
 |tmp t=>
  simp only[Env.src]at h;cases he:E.get t with
  |loc v' m cs=>
   rw[he]at h;simp only[ez.pl.injEq]at h;obtain⟨_,rfl,_⟩:=h;exact hE.lt t v' (by rw[he];rfl)
  |pl r' v' n'=>
   rw[he]at h;simp only[ez.pl.injEq]at h;obtain⟨_,rfl,_⟩:=h;exact hE.pl t _ _ _ he
  |_=>rw[he]at h;cases h
 |const v=>simp only[Env.src]at h;cases hv:AZ v<;>rw[hv]at h<;>cases h
 |global g=>simp only[Env.src]at h;cases hv:C.An g<;>rw[hv]at h<;>cases h
 |func f=>simp only[Env.src]at h;cases hv:C.cov f<;>rw[hv]at h<;>cases h
end
theorem iY.eR {E:Env} (hE:iY E) {t:Option Nat} {e:ez} (hv:e.cS=none) (hp: ∀r v n,e= .pl r v n->v<E.bL):iY (E.eR t e):=by
 constructor
 .intro u v h
  rw[Env.jU]at h;rw[Env.Fv];split at h
  .rw[hv]at h;cases h
  .exact hE.lt u v h
 .intro u r v n h
  rw[Env.jU]at h;rw[Env.Fv];split at h
  .exact hp r v n h
  .exact hE.pl u r v n h
 .intro u v n cs h
  rw[Env.jU]at h;split at h
  .rw[h]at hv;cases hv
  .exact hE.len u v n cs h
 .intro u u' v h h'
  rw[Env.jU]at h h';split at h
  .rw[hv]at h;cases h
  .split at h'
   .rw[hv]at h';cases h'
   .exact hE.uniq u u' v h h'
theorem CR.eR {t:Option Nat} {e:ez} (hv:e.cS=none) (c:CR (E.eR t e) s h ab):CR E s h ab:=by
 cases h with
 |inl i=>exact c
 |inr v=>
  rcases c with⟨u,n,cs,h,fL⟩|⟨u,l,p,h,fL⟩
  .rw[Env.jU]at h
   split at h
   .rw[h]at hv;cases hv
   .exact .inl ⟨u,n,cs,h,fL⟩
  .rw[Env.jU]at h
   split at h
   .rw[h]at hv;cases hv
   .exact .inr ⟨u,l,p,h,fL⟩
section
variable {C:bx} {o:Oper} {D W:du->Prop} {E:Env} {s:St}
theorem lO.put (pr ms:al) (e:ez) (hv:e.cS=none) (hp:iY E->∀r v n,e= .pl r v n->v<E.bL) (hl:s.length<=s'.length)
  (hs: ∀i ab,c8 s' i=some ab->W (.inl i)\/s.length<=i\/c8 s i=some ab) (hf: ∀i,¬W (.inl i)->i<s.length->s'[i]? =s[i]?) (hg:s'.length=s.length\/sf o):lO W pr ms o E s (E.eR o.dst e) s' where
 len:=hl
 bL:=by simp
 gD:=λhE=>hE.eR hv (hp hE)
 other:=λt h _=>by rw[Env.jU,ba h]
 val:=λt d h e=>by rw[Env.jU,ba h]at e;exact e
 bI:=λt h C ψ x r=>by rw[Env.jU,ba h];exact r
 back:=λh ab c=>by
  cases h with
  |inl i=>
   have c':c8 s' i=some ab:=c;rcases hs i ab c' with h|h|h
   .exact .inl h
   .exact .inr (.inl ⟨zj.2 h,BR c'⟩)
   .exact .inr (.inr h)
  |inr v=>
   have c':CR (E.eR o.dst e) s (.inr v) ab:=c;exact .inr (.inr (c'.eR hv))
 vX:=λt v n cs h=>by
  rw[Env.jU]at h;split at h
  .rw[h]at hv;cases hv
  grind
 xL:=λt v l p h=>by
  rw[Env.jU]at h;split at h
  .rw[h]at hv;cases hv
  grind
 YO:=hf
 plain:= .inl ⟨e,hv,rfl⟩
 grow:=hg
theorem lO.V5 (pr ms:al) (e:ez) (hv:e.cS=none) (hp:iY E->∀r v n,e= .pl r v n->v<E.bL):lO W pr ms o E s (E.eR o.dst e) s:=
 lO.put pr ms e hv hp (aO _) (λ_ _ h=> .inr (.inr h)) (λ_ _ _=>rfl) (.inl rfl)
theorem Bw.pure (bq: ∀h,W h->D h) (e:ez) (hv:e.cS=none)
  (dJ: ∀ψ Q a w,aC C o D E s ψ Q a w->∃v w',(execOp a.eval o).run C.P w= .ok (.value v) w'/\gL w w'/\fp C ψ e v):Bw C o D W E s (E.eR o.dst e) s:=by
 intro ψ Q a w next QQ p _ hn;obtain⟨v,w',hr,hm,eD⟩:=dJ ψ Q a w p;unfold Oper.wp;rw[hr];refine hn ψ Q v w' ⟨p.eG.more p.gm hm,Ext.more hm,λh cb e=> .inl e,λh ab cb c hw e=>?_,λh ab cb e q _ _=>q⟩ (λd hd=>?_)
 .rcases hw with hw|⟨h1,h2⟩
  .exact p.jz h ab cb (bq h hw) (c.eR hv) e
  .exact absurd (by cases h<;>simpa [dQ]using h2) h1
 grind[Env.jU]
theorem bV.pure {β:Type} {md:Md} {pr ms:al} (bq: ∀h,W h->D h) {K:Env->M β} {r:Out β×St} (e:ez) (hv:e.cS=none) (hp:iY E->∀r v n,e= .pl r v n->v<E.bL)
  (hk:K (E.eR o.dst e) s=some r)
  (dJ: ∀ψ Q a w,aC C o D E s ψ Q a w->∃v w',(execOp a.eval o).run C.P w= .ok (.value v) w'/\gL w w'/\fp C ψ e v):bV C md pr ms o D W E s K r:=
 .inl ⟨_,_,hk,lO.V5 pr ms e hv hp,Bw.pure bq e hv dJ⟩
theorem bV.val (bq: ∀h,W h->D h) {K:Env->M β} {r:Out β×St} (d:DV)
  (hk:cn E o K d s=some r)
  (dJ: ∀ψ Q a w,aC C o D E s ψ Q a w->∃v w',(execOp a.eval o).run C.P w= .ok (.value v) w'/\gL w w'/\VR C ψ d v):bV C md pr ms o D W E s K r:=
 bV.pure bq (.v d) rfl (λ_ _ _ _ h=>by cases h) hk dJ
theorem bV.IM (cA:sf o) (bq: ∀h,W h->D h) {K:Env->M β} {r:Out β×St} (d:DV) (cells:ah)
  (hk:cn E o K d (s++[some ⟨false,cells⟩])=some r)
  (dJ: ∀ψ Q a w,aC C o D E s ψ Q a w->∃v w' cb,(execOp a.eval o).run C.P w= .ok (.value v) w'/\gL w w'/\w.heap.size<=cb.b/\cb.b<w'.heap.size/\
   Holds C ψ w' cb (.cells false cells)/\(∀ψ',(∀h c,ψ h=some c->ψ' h=some c)->ψ' (.inl s.length)=some cb->VR C ψ' d v)):bV C md pr ms o D W E s K r:=by
 refine .inl ⟨_,_,hk,lO.put pr ms (.v d) rfl (λ_ _ _ _ h=>by cases h) (by simp) (λi ab h=>?_) (by grind) (.inr cA),?_⟩
 .rcases jC i s.length with hi|hi
  .rw[JJ hi]at h;exact .inr (.inr h)
  .exact .inr (.inl hi)
 .intro ψ Q a w next QQ p room hn
  obtain⟨v,w',cb,hr,hm,h1,h2,hh,eD⟩:=dJ ψ Q a w p;have iS:wj E s (E.eR o.dst (.v d)) (s++[some ⟨false,cells⟩]) (.inl s.length):=⟨by simp[dQ],by simp[dQ]⟩;have hf:=room _ iS;unfold Oper.wp;rw[hr];refine hn _ _ v w' ⟨eX.new (cb:=cb) (ab:= .cells false cells) p.eG p.gm hm hf h1 (hh.same (λ_ _ e=>uQ hf _ _ e) rfl),Ext.new hm hf h1 h2,λh c e=>?_,λh ab c cr hw e=>?_,λh ab c e q _ _=>?_⟩ (λd' hd=>?_)
  .by_cases eh:h= .inl s.length
   .grind
   .rw[nP _ _ eh]at e;exact .inl e
  .by_cases eh:h= .inl s.length
   .subst eh
    have nV:c8 (s++[some ⟨false,cells⟩]) s.length=some ab:=cr;rw[Ot]at nV;cases nV;exact .inl ⟨rfl,rfl⟩
   .refine .inr ⟨eh,?_⟩
    rw[nP _ _ eh]at e;rcases hw with hw|⟨n1,n2⟩
    .refine p.jz h ab c (bq h hw) ?_ e
     cases h with
     |inl i=>
      have nV:c8 (s++[some ⟨false,cells⟩]) i=some ab:=cr;have:=BR nV;simp only[bA,iK]at this;rwa [JJ (by have:i≠s.length:=λe=>eh (by rw[e]);omega)]at nV
     |inr x=>
      have nV:CR (E.eR o.dst (.v d)) s (.inr x) ab:=cr;exact nV.eR rfl
    .cases h with
     |inl i=>
      simp only[dQ,bA,iK]at n1 n2;grind
     |inr x=>simp only[dQ,Env.Fv]at n1 n2;exact absurd n2 n1
  .refine .inr ⟨λeh=>?_,q⟩
   grind
  .rw[Env.jU,bG hd]
   exact eD _ (uQ hf) (pM _ _ _)
end
variable {β:Type}
variable {r:Out β×St}
theorem Zs {x:Operand} {K:DV->M β} (h:fa C E x K s=some r): ∃d,E.src C x= .v d/\K d s=some r:=by
 unfold fa at h;cases he:E.src C x<;>rw[he]at h<;>first|exact⟨_,rfl,h⟩|cases h
theorem DQ {x:Operand} {K:Int->M β} (h:AU C E x K s=some r): ∃k n,E.src C x= .v (.int k n)/\K n s=some r:=by
 obtain⟨d,h1,h2⟩:=Zs h;split at h2
 .grind
 .cases h2
theorem Q8 {x:Operand} {K:Bool->M β} (h:TB C E x K s=some r): ∃b,E.src C x= .v (.bool b)/\K b s=some r:=by
 obtain⟨d,h1,h2⟩:=Zs h;split at h2
 .exact⟨_,h1,h2⟩
 .cases h2
theorem SC {a:ai} {K:Nat->Nat->M β} (h:bJ a K s=some r): ∃i o,a=some (i,o)/\K i o s=some r:=by
 unfold bJ at h;split at h
 .grind
 .cases h
theorem Gw {x:Operand} {KL:Nat->Nat->Nat->M β} {KH:Nat->Nat->M β} (h:Cb C E x KL KH s=some r):
  (∃t v o,E.src C x= .pl t v o/\KL t v o s=some r)\/(∃i o,E.src C x= .v (.ptr (some (i,o)))/\KH i o s=some r):=by
 unfold Cb at h;cases he:E.src C x with
 |pl t v o=>rw[he]at h;grind
 |v d=>
  rw[he]at h;cases d with
  |ptr a=>
   obtain⟨i,o,rfl,h⟩:=SC h;grind
  |_=>cases h
 |_=>rw[he]at h;cases h
theorem Z8 {b:Bool} {K:M β} (h:aB b K s=some r):b=true/\K s=some r:=by
 cases b with
 |true=>exact⟨rfl,h⟩
 |false=>cases h
theorem Zp {b:Bool} {x:M β} (h:(bif b then x else fail) s=some r):b=true/\x s=some r:=by
 cases b with
 |true=>exact⟨rfl,h⟩
 |false=>cases h
theorem Gi {b:Bool} {x:M β} (h:(bif b then fail else x) s=some r):b=false/\x s=some r:=by
 cases b with
 |false=>exact⟨rfl,h⟩
 |true=>cases h
theorem oI {K:M β} (h:qC P t K s=some r): ∃d,P.underlying t=some d/\K s=some r:=by
 unfold qC at h;cases he:P.underlying t<;>rw[he]at h<;>first|exact⟨_,rfl,h⟩|cases h
theorem KE {K:DV->M β} (h:ej cs i K s=some r): ∃d,cs[i]? =some d/\K d s=some r:=by
 unfold ej at h;cases he:cs[i]? <;>rw[he]at h<;>first|exact⟨_,rfl,h⟩|cases h
theorem RP {K:M β} (h:bu cs n K s=some r):cs.length=n/\K s=some r:=by
 unfold bu at h;obtain⟨h1,h2⟩:=Zp h;simp_all
theorem Zmo {t v:Nat} {K:Nat->ah->M β} (h:K9 E t v K s=some r): ∃n cs,E.get t= .loc v n cs/\K n cs s=some r:=by
 unfold K9 at h;cases he:E.get t with
 |loc v' n cs=>
  rw[he]at h;obtain⟨h1,h2⟩:=Zp h;have:=dy h1;grind
 |_=>rw[he]at h;cases h
theorem G8 {k k':IntKind} (h:ur k k'=true):k=k':=by cases k<;>cases k'<;>first|rfl|(simp[ur]at h)
theorem KX {x:B} {d:DV} {K:DV->M β} (h:d1 x d K s=some r):
  ∃d',K d' s=some r/\(∀(C:bx) ψ v,VR C ψ d v->VR C ψ d' v)/\(one d=true->one d'=true):=by
 unfold d1 at h;split at h
 .unfold sJ at h;split at h
  .grind
  .cases h
 .unfold cP at h;split at h
  .obtain⟨h1,h2⟩:=Zp h
   have:=G8 h1;subst this;grind
  .cases h
 .unfold Aa at h;split at h
  .grind
  .cases h
 .unfold B6 at h;split at h
  .grind
  .cases h
 .unfold dB at h;split at h
  .rename_i z a n
   obtain⟨h1,h2⟩:=Zp h;refine⟨_,h2,λC ψ v hv=>?_,λ_=>rfl⟩;simp only[l9]at h1;rcases h1 with h1|h1
   .have:=dy h1;subst this;exact hv
   .cases a with
    |none=>cases hv;exact .rV _
    |some _=>cases h1
  .cases h
 .unfold SY at h;split at h
  .grind
  .cases h
 .grind
 .cases h
theorem Gj: ∀ {l:List B} {cs:ah} {K:ah->M β} {s:St} {r:Out β×St},ng l cs K s=some r->
  ∃ds,K ds s=some r/\ds.length=cs.length/\(∀(C:bx) ψ vs,bB C ψ cs vs->bB C ψ ds vs)/\(cs.all one=true->ds.all one=true)
 |[],cs,K,s,r,h=>by
  simp only[ng]at h;cases cs with
  |nil=>exact⟨[],h,rfl,λ_ _ _ h=>h,λh=>h⟩
  |cons _ _=>cases h
 |x::l,cs,K,s,r,h=>by
  have gen: ∀ {x:B},(jS cs λd rest=>d1 x d λd'=>ng l rest λds=>K (d'::ds)) s=some r->
    ∃ds,K ds s=some r/\ds.length=cs.length/\(∀(C:bx) ψ vs,bB C ψ cs vs->bB C ψ ds vs)/\(cs.all one=true->ds.all one=true):=by
   intro x h;cases cs with
   |nil=>cases h
   |cons d rest=>
    simp only[jS]at h;obtain⟨d',h,hd,h1⟩:=KX h;obtain⟨ds,h,hl,hr,h2⟩:=Gj h;refine⟨_,h,by simp[hl],λC ψ vs hv=>?_,λho=>?_⟩
    .cases hv with
     |cons _ v _ vs a b=>exact .cons _ _ _ _ (hd C ψ v a) (hr C ψ vs b)
    grind
  have eM: ∀ {n:Nat} ,(SX n cs λxs rest=>ng l rest λds=>K (xs++ds)) s=some r->
    ∃ds,K ds s=some r/\ds.length=cs.length/\(∀(C:bx) ψ vs,bB C ψ cs vs->bB C ψ ds vs)/\(cs.all one=true->ds.all one=true):=by
   intro n h;unfold SX at h;obtain⟨h1,h⟩:=Zp h;obtain⟨ds,h,hl,hr,h2⟩:=Gj h;refine⟨_,h,by simp[hl];omega,λC ψ vs hv=>?_,λho=>?_⟩
   .have e:vs=vs.take n++vs.drop n:=by simp
    rw[e];exact(hv.take n).append (hr C ψ _ (hv.drop n))
   grind
  cases x with
  |eM n=>
   cases l with
   |nil=>
    simp only[ng]at h;obtain⟨hl,h⟩:=RP h;grind
   |cons y l=>simp only[ng]at h;exact eM h
  |bool=>simp only[ng]at h;exact gen h
  |int k=>simp only[ng]at h;exact gen h
  |str=>simp only[ng]at h;exact gen h
  |ptr=>simp only[ng]at h;exact gen h
  |slice sz=>simp only[ng]at h;exact gen h
  |func=>simp only[ng]at h;exact gen h
  |any=>simp only[ng]at h;exact gen h
theorem KT {x:Sh} {d:DV} {K:DV->M β} (h:ym x d K s=some r):
  ∃d',K d' s=some r/\(∀(C:bx) ψ v,VR C ψ d v->VR C ψ d' v)/\(one d=true->one d'=true):=by
 cases x with
 |b x=>exact KX h
 |agg l=>
  simp only[ym,sI]at h;split at h
  .obtain⟨ds,h,hl,hr,h2⟩:=Gj h
   refine⟨_,h,λC ψ v hv=>?_,λh=>by cases h⟩;cases hv with
   |agg _ vs a b=>exact .agg _ _ (hr C ψ _ a) (h2 b)
  .cases h
theorem Gy: ∀ {l:List Sh} {cs:ah} {K:ah->M β} {s:St} {r:Out β×St},Ai l cs K s=some r->
  ∃ds,K ds s=some r/\ds.length=cs.length/\ds.length=l.length/\(∀(C:bx) ψ vs,bB C ψ cs vs->bB C ψ ds vs)
 |[],cs,K,s,r,h=>by
  simp only[Ai]at h;cases cs with
  |nil=>exact⟨[],h,rfl,rfl,λ_ _ _ h=>h⟩
  |cons _ _=>cases h
 |x::l,cs,K,s,r,h=>by
  simp only[Ai]at h;cases cs with
  |nil=>cases h
  |cons d rest=>
   simp only[jS]at h;obtain⟨d',h,hd,_⟩:=KT h;obtain⟨ds,h,hl,nu,hr⟩:=Gy h;refine⟨_,h,by simp[hl],by simp[nu],λC ψ vs hv=>?_⟩;cases hv with
   |cons _ v _ vs a b=>exact .cons _ _ _ _ (hd C ψ v a) (hr C ψ vs b)
inductive SV (C:bx) (E:Env):List Operand->List DV->Prop
 |nil:SV C E [] []
 |cons {x:Operand} {d:DV} {l:List Operand} {ds:ah} :E.src C x= .v d->SV C E l ds->SV C E (x::l) (d::ds)
theorem Gr {C:bx} {E:Env} : ∀ {l:List Operand} {K:ah->M β} {s:St} {r:Out β×St},y6 C E l K s=some r->
  ∃ds,K ds s=some r/\SV C E l ds
 |[],K,s,r,h=>⟨[],h,.nil⟩
 |x::l,K,s,r,h=>by
  simp only[y6]at h;obtain⟨d,h1,h⟩:=Zs h;obtain⟨ds,h,h2⟩:=Gr h;exact⟨_,h,.cons h1 h2⟩
theorem GI {C:bx} {o:Oper} {D:du->Prop} {E:Env} {s:St} {ψ:Ps} {Q:Kn} {a:Act} {w:World} (p:aC C o D E s ψ Q a w):
  ∀ {l:List Operand} {ds:ah},(∀x∈l,x∈o.op.operands)->SV C E l ds->bB C ψ ds (l.map a.eval)
 |[],_,_,.nil=> .nil
 |x::l,_,hm,.cons h1 h2=> .cons _ _ _ _ (p.val (hm x (by simp)) h1) (GI p (by grind) h2)
theorem ZkV (h:P.underlying t=some d): ∃i,P.info? t=some i/\i.size=P.cellsOf t:=by
 grind[Program.underlying,Program.cellsOf]
theorem Zl (w:World) (h:P.underlying t=some d):(underlying t).run P w= .ok d w:=by
 simp[underlying,h]
theorem Z6 (w:World) (h:P.underlying t=some d):(sizeOf t).run P w= .ok (P.cellsOf t) w:=by
 obtain⟨i,h1,h2⟩:=ZkV h;simp[sizeOf,typeInfo,h1,h2]
theorem Gs (w:World) (h:P.underlying t=some d):(isAgg t).run P w= .ok (Z9 P t) w:=by
 simp only[isAgg,Sem.run_bind,Zl w h,Result.andThen_ok,Z9,h];cases d<;>rfl
theorem Rc (w:World) (h:mn P t=some z): ∃v,(zeroValue t).run P w= .ok v w/\(∀(C:bx) ψ,bB C ψ z v.cells.toList)/\z.all one=true:=by
 unfold mn at h;split at h
 .rename_i i hi
  split at h
  .rename_i v hv
   refine⟨v,by simp[zeroValue,typeInfo,hi,hv],λC ψ=>(DU h).1,?_⟩;exact(DU (C:=⟨P,id,λ_=>true,id,id,λ_=>true,λ_=>[],λ_=>false⟩) (ψ:=λ_=>none) h).2
  .cases h
 .cases h
theorem Zpz {b:Nat} {fr:Nat×Nat} {cells:ah} (hb:w.heap[b]? =some (.cells c ty fr)) (hf:fr=(0,0)\/c.size<=fr.1)
  (hr:bB C ψ cells (c.toList.take cells.length)) (ho:cells.all one=true):Holds C ψ w ⟨b,0,c.size⟩ (.cells false cells):=by
 have hl:cells.length<=c.size:=by
  have:=hr.len;grind
 refine⟨hl,ho,λj d hd=>?_,λ_=>⟨c,ty,fr,hb,by simp,λj hj=>?_⟩⟩
 .obtain⟨v,hv,lX⟩:=hr.get hd
  refine⟨v,?_,lX⟩;rw[wa]at hv;split at hv
  .rw[cell_of_row w b _ c ty fr hb];simpa using hv
  .cases hv
 grind
theorem Zws (a:Act) (t:Nat):a.eval (.tmp t)=a.tmps.getD t undef:=rfl
variable {K:Env->M β}
section
variable {C:bx} {o:Oper} {D W:du->Prop} {E:Env} {s:St} {md:Md} {pr ms:al}
theorem bV.Yz (kX:Spec pr o) (bq: ∀h,W h->D h) (t:Nat) (ht:o.dst=some t) (e:ez) (ab:AB)
  (he:(∃n cells,e= .loc E.bL n cells/\ab= .cells false cells/\cells.length=n)\/(∃l p,e= .it E.bL l p/\ab= .iter l p))
  (hk:K ⟨E.bL+1,(t,e)::E.l⟩ s=some r)
  (dJ: ∀ψ Q a w,aC C o D E s ψ Q a w->∃w' cb,(execOp a.eval o).run C.P w= .ok (.value (.pointer (some ⟨cb.b,0,none⟩))) w'/\gL w w'/\w.heap.size<=cb.b/\cb.b<w'.heap.size/\
   cb.o=0/\Holds C ψ w' cb ab):bV C md pr ms o D W E s K r:=by
 have hv:e.cS=some E.bL:=by rcases he with⟨n,c,rfl,_⟩|⟨l,p,rfl,_⟩<;>rfl
 have get: ∀u,(⟨E.bL+1,(t,e)::E.l⟩:Env).get u=if t=u then e else E.get u:=λu=>Env.adf _ _ _ _ _
 have crn: ∀cN,CR ⟨E.bL+1,(t,e)::E.l⟩ s (.inr E.bL) cN->iY E->cN=ab:=by
  intro cN c hE;rcases c with⟨u,n,cs,h,fL⟩|⟨u,l,p,h,fL⟩<;>rw[get]at h<;>split at h
  .grind
  .have:=hE.lt u E.bL (by rw[h];rfl);omega
  .grind
  .have:=hE.lt u E.bL (by rw[h];rfl);omega
 have cro: ∀h cN,CR ⟨E.bL+1,(t,e)::E.l⟩ s h cN->h≠ .inr E.bL->CR E s h cN:=by
  intro h cN c dI;cases h with
  |inl i=>exact c
  |inr v=>
   rcases c with⟨u,n,cs,h,fL⟩|⟨u,l,p,h,fL⟩<;>rw[get]at h<;>split at h
   .rw[h]at hv;grind
   .exact .inl ⟨u,n,cs,h,fL⟩
   .rw[h]at hv;grind
   .exact .inr ⟨u,l,p,h,fL⟩
 have iS:wj E s ⟨E.bL+1,(t,e)::E.l⟩ s (.inr E.bL):=⟨by simp[dQ],by simp[dQ]⟩;refine .inl ⟨_,_,hk,⟨aO _,by simp,λhE=>⟨?_,?_,?_,?_⟩,?_,(λu d _ h=>by
   rw[get]at h;grind),?_,?_,?_,?_,λ_ _ _=>rfl,.inr kX,.inl rfl⟩,?_⟩
 .intro u v h
  rw[get]at h;split at h
  .rw[hv]at h;cases h;simp
  .have:=hE.lt u v h;simp only;omega
 .intro u x v n h
  rw[get]at h;split at h
  .rw[h]at hv;cases hv
  .have:=hE.pl u x v n h;simp only;omega
 .intro u v n cs h
  rw[get]at h;split at h
  .grind
  .exact hE.len u v n cs h
 .intro u u' v h h'
  rw[get]at h h';split at h<;>split at h'
  .omega
  .rw[hv]at h;cases h;have:=hE.lt u' _ h';omega
  .rw[hv]at h';cases h';have:=hE.lt u _ h;omega
  .exact hE.uniq u u' v h h'
 .grind
 .grind
 .grind
 .grind
 .grind
 .intro ψ Q a w next QQ p room hn
  obtain⟨w',cb,hr,hm,h1,h2,h0,hh⟩:=dJ ψ Q a w p;have hf:=room _ iS;unfold Oper.wp;rw[hr];refine hn _ _ _ w' ⟨eX.new (cb:=cb) (ab:=ab) p.eG p.gm hm hf h1 (hh.same (λ_ _ e=>uQ hf _ _ e) rfl),Ext.new hm hf h1 h2,λh c e=>?_,λh cN c cr hw e=>?_,λh cN c e q _ _=>?_⟩ (λd' hd=>?_)
  .by_cases eh:h= .inr E.bL
   .grind
   .rw[nP _ _ eh]at e;exact .inl e
  .by_cases eh:h= .inr E.bL
   .subst eh;exact .inl ⟨rfl,crn _ cr p.gD⟩
   .refine .inr ⟨eh,?_⟩
    rw[nP _ _ eh]at e;rcases hw with hw|⟨n1,n2⟩
    .exact p.jz h cN c (bq h hw) (cro h cN cr eh) e
    .exact absurd ((cro h cN cr eh).pX p.gD) n1
  .refine .inr ⟨λeh=>?_,q⟩
   grind
  .rw[ht]at hd;cases hd
   rw[get,bG rfl];rcases he with⟨n',c',rfl,_,hl⟩|⟨l,p,rfl,_⟩
   .exact⟨cb,pM _ _ _,h0,rfl⟩
   .exact⟨cb,pM _ _ _,rfl⟩
theorem bV.newVar (yx:(∃t,o.op= .alloc t)\/(∃t y,o.op= .box t y)) (bq: ∀h,W h->D h) {cells:ah} (hlen:cells.length=n) (h:K5 pr o n cells E K s=some r)
  (dJ: ∀ψ Q a w,aC C o D E s ψ Q a w->∃w' cb,(execOp a.eval o).run C.P w= .ok (.value (.pointer (some ⟨cb.b,0,none⟩))) w'/\gL w w'/\w.heap.size<=cb.b/\cb.b<w'.heap.size/\
   cb.o=0/\Holds C ψ w' cb (.cells false cells)):bV C md pr ms o D W E s K r:=by
 unfold K5 at h;cases ht:o.dst with
 |none=>rw[ht]at h;cases h
 |some t=>
  rw[ht]at h;simp only at h;cases hp:has pr t with
  |true=>
   rw[hp]at h;simp only[ae]at h;exact bV.Yz (by rcases yx with⟨t,ho⟩|⟨t,y,ho⟩<;>(grind[Spec])) bq t ht _ _ (by grind) h dJ
  |false=>
   rw[hp]at h;simp only[af]at h;refine bV.IM (by rcases yx with⟨t,ho⟩|⟨t,y,ho⟩<;>(grind[sf])) bq (.ptr (some (s.length,0))) cells (by simpa [cn,Env.eR,ht,cd]using h) λψ Q a w p=>?_
   obtain⟨w',cb,hr,hm,h1,h2,h0,hh⟩:=dJ ψ Q a w p;refine⟨_,w',cb,hr,hm,h1,h2,hh,λψ' _ e=>?_⟩;have:=VR.ptr (C:=C) (ψ:=ψ') s.length 0 cb e;rwa [h0]at this
theorem Q9 (t:TypeId) (v:Value) (w:World):(newVar t v).run P w= .ok ⟨w.heap.size,0,none⟩ (w.alloc (.cells v.cells t)):=by
 simp[newVar,newRow]
theorem Znx (ho:o.op= .move y\/o.op= .assign y) (bq: ∀h,W h->D h) (h:yX E o K (E.src C y) s=some r):bV C md pr ms o D W E s K r:=by
 refine bV.pure bq (E.src C y) (Env.I9 C E y) (λhE r v n h=>Env.C2 C hE h) h λψ Q a w p=>⟨a.eval y,w,?_,.refl w,p.src ?_⟩
 .rcases ho with ho|ho<;>simp[execOp,ho]
 .rcases ho with ho|ho<;>simp[Op.operands,ho]
theorem ZtC {b z:Operand} (ho:o.op= .pick b y z) (bq: ∀h,W h->D h) (h:Ta C E o K b y z s=some r):bV C md pr ms o D W E s K r:=by
 unfold Ta at h;obtain⟨t,hb,h⟩:=Q8 h;have HH: ∀ψ Q a w,aC C o D E s ψ Q a w->a.eval b= .bool t:=λψ Q a w p=>by
  have:=p.val (x:=b) (by simp[Op.operands,ho]) hb;generalize a.eval b=v at this;cases this;rfl
 cases t with
 |true=>
  refine bV.pure bq (E.src C y) (Env.I9 C E y) (λhE r v n h=>Env.C2 C hE h) h λψ Q a w p=>⟨a.eval y,w,?_,.refl w,p.src (by simp[Op.operands,ho])⟩
  simp[execOp,ho,HH ψ Q a w p,asBool]
 |false=>
  refine bV.pure bq (E.src C z) (Env.I9 C E z) (λhE r v n h=>Env.C2 C hE h) h λψ Q a w p=>⟨a.eval z,w,?_,.refl w,p.src (by simp[Op.operands,ho])⟩
  simp[execOp,ho,HH ψ Q a w p,asBool]
theorem DI {cells:ah} (hr:bB C ψ cells (c.toList.take cells.length)) (ho:cells.all one=true):
  Holds C ψ (w.alloc (.cells c t)) ⟨w.heap.size,0,c.size⟩ (.cells false cells):=
 Zpz (heap_alloc_new w _) (.inl rfl) hr ho
theorem GM {l:List α} (h:n=l.length):l.take n=l:=by subst h;simp
theorem Zss (ho:o.op= .alloc t) (bq: ∀h,W h->D h) (h:SA C E o K pr t s=some r):bV C md pr ms o D W E s K r:=by
 unfold SA at h;cases hz:mn C.P t with
 |none=>rw[hz]at h;cases h
 |some z=>
  rw[hz]at h;simp only at h;obtain⟨hl,h⟩:=Zp h;refine bV.newVar (.inl ⟨t,ho⟩) bq (dy hl) h λψ Q a w p=>?_
  obtain⟨v,hv,hr,h1⟩:=Rc w hz;refine⟨w.alloc (.cells v.cells t),⟨w.heap.size,0,v.cells.size⟩,?_,.alloc w _,aO _,by simp,rfl,?_⟩
  .simp[execOp,ho,Instr.alloc,hv,Q9]
  .exact DI (by rw[GM (by simpa using (hr C ψ).len)];exact hr C ψ) h1
theorem Zmq {d:DV} {K:ah->M β} (h:K7 P t d K s=some r):
  ∃ds td,P.underlying t=some td/\K ds s=some r/\ds.length=P.cellsOf t/\∀(C:bx) ψ v,VR C ψ d v->bB C ψ ds v.cells.toList/\ds.all one=true/\v.cells.size=P.cellsOf t:=by
 unfold K7 at h;obtain⟨td,Vp,h⟩:=oI h;cases ha:Z9 P t with
 |true=>
  rw[ha]at h;simp only[ae]at h;cases d with
  |agg cs=>
   obtain⟨hl,h⟩:=RP h;refine⟨cs,td,Vp,h,hl,λC ψ v hv=>?_⟩;cases hv with
   |agg _ vs a b=>exact⟨a,b,by rw[<-hl,a.len];simp[Value.cells]⟩
  |_=>cases h
 |false=>
  rw[ha]at h;simp only[af]at h;obtain⟨hc,h⟩:=Zp h;obtain⟨h1,h⟩:=Z8 h;have hc:=dy hc;refine⟨[d],td,Vp,h,by simp[hc],λC ψ v hv=>?_⟩;rw[hv.W7 h1];exact⟨.cons _ _ _ _ hv .nil,by simp[h1],by simp[hc]⟩
theorem Zvb (ho:o.op= .box t y) (bq: ∀h,W h->D h) (h:VY C E o K pr t y s=some r):bV C md pr ms o D W E s K r:=by
 unfold VY at h;obtain⟨d,hd,h⟩:=Zs h;obtain⟨ds,td,Vp,h,hl,hv⟩:=Zmq h;refine bV.newVar (.inr ⟨t,y,ho⟩) bq hl h λψ Q a w p=>?_
 obtain⟨h1,h2,h3⟩:=hv C ψ _ (p.val (x:=y) (by simp[Op.operands,ho]) hd);refine⟨w.alloc (.cells (a.eval y).cells t),⟨w.heap.size,0,(a.eval y).cells.size⟩,?_,.alloc w _,aO _,by simp,rfl,?_⟩
 .simp[execOp,ho,Instr.box,Q9]
 .exact DI (by rw[GM (by simpa using h1.len)];exact h1) h2
theorem Zol (ho:o.op= .nilCheck y) (bq: ∀h,W h->D h) (h:Ra C E o K y s=some r):bV C md pr ms o D W E s K r:=by
 unfold Ra at h;rcases Gw h with⟨t,v,n,he,h⟩|⟨i,n,he,h⟩
 .refine bV.pure bq (.pl t v n) rfl (λhE r v' n' e=>by cases e;exact Env.C2 C hE he) h λψ Q a w p=>⟨a.eval y,w,?_,.refl w,?_⟩
  .have:=p.src (x:=y) (by simp[Op.operands,ho])
   rw[he]at this;obtain⟨cb,_,_,h3⟩:=this;simp[execOp,ho,h3]
  .have:=p.src (x:=y) (by simp[Op.operands,ho])
   rw[he]at this;exact this
 .refine bV.val bq (.ptr (some (i,n))) h λψ Q a w p=>⟨a.eval y,w,?_,.refl w,?_⟩
  .have:=p.val (x:=y) (by simp[Op.operands,ho]) he
   generalize hx:a.eval y=x at this;cases this;simp[execOp,ho,hx]
  .exact p.val (x:=y) (by simp[Op.operands,ho]) he
theorem Zww {op:UnOp} (ho:o.op= .unOp op t y) (bq: ∀h,W h->D h) (h:V0 C E o K op y s=some r):bV C md pr ms o D W E s K r:=by
 unfold V0 at h;obtain⟨d,hd,h⟩:=Zs h;unfold unK at h;split at h
 .refine bV.val bq _ h λψ Q a w p=>?_
  have:=p.val (x:=y) (by simp[Op.operands,ho]) hd;generalize hx:a.eval y=x at this;cases this;exact⟨_,w,by simp[execOp,ho,hx,Op.unary],.refl w,.bool _⟩
 .refine bV.val bq _ h λψ Q a w p=>?_
  have:=p.val (x:=y) (by simp[Op.operands,ho]) hd;generalize hx:a.eval y=x at this;cases this;exact⟨_,w,by simp[execOp,ho,hx,Op.unary,Op.intArith],.refl w,.int _ _⟩
 .cases h
theorem ZsI (ho:o.op= .makeInterface t y) (bq: ∀h,W h->D h) (h:SD C E o K t y s=some r):bV C md pr ms o D W E s K r:=by
 unfold SD at h;cases ht:C.P.underlying t with
 |none=>rw[ht]at h;cases h
 |some td=>
  have H5: ∀m,td≠ .interface m:=by rintro m rfl;rw[ht]at h;cases h
  have h':fa C E y (λd=>cn E o K (.iface (C.ty t) d)) s=some r:=by rw[ht]at h;cases td<;>first|exact h|grind
  obtain⟨d,hd,h'⟩:=Zs h';refine bV.val bq _ h' λψ Q a w p=>⟨.iface t (a.eval y),w,?_,.refl w,.iface _ _ _ (p.val (x:=y) (by simp[Op.operands,ho]) hd)⟩
  simp only[execOp,ho,Instr.makeInterface,Sem.run_bind,Zl w ht,Result.andThen_ok];cases td<;>first|rfl|exact absurd rfl (H5 _)
theorem Zt7 {f:Fn} (ho:o.op= .makeFunc f first cap) (bq: ∀h,W h->D h) (h:Tc C E o K f first cap s=some r):bV C md pr ms o D W E s K r:=by
 unfold Tc at h;cases f with
 |func f=>
  simp only at h;obtain⟨hc,h⟩:=Zp h;obtain⟨fs,h,h1⟩:=Gr h;obtain⟨cs,h,h2⟩:=Gr h;refine bV.val bq _ h λψ Q a w p=>⟨.func (.func f) (first.map a.eval) (cap.map a.eval),w,by simp[execOp,ho,Instr.makeFunc],.refl w,.func _ _ _ _ _ hc ?_ ?_⟩
  .have:=GI p (l:=first.toList) (λx hx=>by simp only[Op.operands,ho,Array.mem_append];grind) h1
   simpa using this
  .have:=GI p (l:=cap.toList) (λx hx=>by simp only[Op.operands,ho,Array.mem_append];grind) h2
   simpa using this
 |_=>cases h
theorem Zqf {t:Nat} (ho:o.op= .extract (.tmp t) i) (bq: ∀h,W h->D h) (h:RB E o K t i s=some r):bV C md pr ms o D W E s K r:=by
 unfold RB at h;cases he:E.get t with
 |pC ds=>
  rw[he]at h;simp only at h;cases hd:ds[i]? with
  |none=>rw[hd]at h;cases h
  |some d=>
   rw[hd]at h;refine bV.val bq d h λψ Q a w p=>?_
   have:=p.args t (by simp[Op.operands,ho]);rw[he]at this;obtain⟨vs,nv,hr⟩:=this;obtain⟨v,hv,hr⟩:=hr.get hd;refine⟨v,w,?_,.refl w,hr⟩;have eD:vs[i]? =some v:=by simpa using hv
   simp[execOp,ho,Zws,nv,Instr.extract,eD]
 |_=>rw[he]at h;cases h
end
section
variable {C:bx} {o:Oper} {D W:du->Prop} {E:Env} {s:St} {md:Md} {pr ms:al}
theorem uP (P:Program) (a:Addr) (w:World):(Instr.sureAddr (.pointer (some a))).run P w= .ok a w:=rfl
theorem ZnN {f:Nat} (ho:o.op= .fieldAddr t y f) (bq: ∀h,W h->D h) (h:JT C E o K t y f s=some r):bV C md pr ms o D W E s K r:=by
 unfold JT at h;cases ht:C.P.underlying t with
 |none=>rw[ht]at h;cases h
 |some td=>
  rw[ht]at h;cases td with
  |struct fs=>
   simp only at h;cases hf:fs[f]? with
   |none=>rw[hf]at h;cases h
   |some fd=>
    rw[hf]at h;simp only at h;obtain⟨hc,h⟩:=Gi h;have hc:=Jo hc;have cw: ∀w,(sizeOf fd.type).run C.P w= .ok (C.P.cellsOf fd.type) w:=by
     intro w;unfold Program.cellsOf at hc⊢;cases hi:C.P.info? fd.type with
     |none=>rw[hi]at hc;simp at hc
     |some i=>simp[sizeOf,typeInfo,hi]
    have run: ∀(a:Act) (w:World) b n,a.eval y= .pointer (some ⟨b,n,none⟩)->(execOp a.eval o).run C.P w= .ok (.value (.pointer (some ⟨b,n+fd.offset,none⟩))) w:=by
     intro a w b n hy;simp[execOp,ho,hy,Instr.fieldAt,Zl w ht,hf,uP,fieldPlace,cw,hc,zK]
    rcases Gw h with⟨x,v,n,he,h⟩|⟨i,n,he,h⟩
    .refine bV.pure bq _ rfl (λhE r v' n' e=>by cases e;exact Env.C2 C hE he) h λψ Q a w p=>?_
     have:=p.src (x:=y) (by simp[Op.operands,ho]);rw[he]at this;obtain⟨cb,h1,h2,h3⟩:=this;exact⟨_,w,run a w _ _ h3,.refl w,cb,h1,h2,rfl⟩
    .refine bV.val bq _ h λψ Q a w p=>?_
     have:=p.val (x:=y) (by simp[Op.operands,ho]) he;generalize hy:a.eval y=v at this;cases this with
     |ptr _ _ cb e=>exact⟨_,w,run a w _ _ hy,.refl w,by rw[tj];exact .ptr _ _ cb e⟩
  |_=>cases h
theorem JW (P:Program) (k:IntKind) (n:Int) (w:World):(asIntOf (.int k n)).run P w= .ok (k,n) w:=rfl
theorem G6 {n:Int} (h:aP n m=true):0<=n/\n<m:=by
 simp only[aP,aW,xP]at h;exact h
theorem ZnZ {i:Operand} (ho:o.op= .indexAddr t y i) (bq: ∀h,W h->D h) (h:Qw C E o K t y i s=some r):bV C md pr ms o D W E s K r:=by
 unfold Qw at h;obtain⟨k,n,hi,h⟩:=DQ h;have iv: ∀ψ Q a w,aC C o D E s ψ Q a w->a.eval i= .int k n:=λψ Q a w p=>by
  have:=p.val (x:=i) (by simp[Op.operands,ho]) hi;generalize a.eval i=v at this;cases this;rfl
 cases ht:C.P.underlying t with
 |none=>rw[ht]at h;cases h
 |some td=>
  rw[ht]at h;cases td with
  |slice e=>
   simp only at h;obtain⟨ed,he,h⟩:=oI h;obtain⟨d,hd,h⟩:=Zs h;cases d with
   |slice z a m=>
    simp only at h;obtain⟨hz,h⟩:=Zp h;obtain⟨j,p0,rfl,h⟩:=SC h;obtain⟨hb,h⟩:=Z8 h;obtain⟨mD,cU⟩:=G6 hb;simp only[Option.isNone_some,Bool.or_false]at hz;have hz:=dy hz;refine bV.val bq _ h λψ Q a w p=>?_
    have hv:=p.val (x:=y) (by simp[Op.operands,ho]) hd;generalize hy:a.eval y=v at hv;cases hv with
    |slice _ _ _ _ cb ad cap e1 e2 e3=>
     obtain⟨e4,e5⟩:=e3 (by omega);refine⟨.pointer (some ⟨cb.b,cb.o+(n.toNat*C.P.cellsOf e+p0),none⟩),w,?_,.refl w,.ptr _ _ cb e1⟩;rw[tk _ p0];simp[execOp,ho,hy,iv ψ Q a w p,Instr.indexAt,Zl w ht,JW,mD,cU,Z6 w he,e4,zK,tj]
   |_=>cases h
  |array m e=>
   simp only at h;obtain⟨ed,he,h⟩:=oI h;have run: ∀ψ Q (a:Act) (w:World) b p0,aC C o D E s ψ Q a w->a.eval y= .pointer (some ⟨b,p0,none⟩)->0<=n->n<m->
     (execOp a.eval o).run C.P w= .ok (.value (.pointer (some ⟨b,p0+n.toNat*C.P.cellsOf e,none⟩))) w:=by
    intro ψ Q a w b p0 p hy mD cU;simp[execOp,ho,hy,iv ψ Q a w p,Instr.indexAt,Zl w ht,JW,mD,cU,uP,Z6 w he,zK]
   rcases Gw h with⟨x,v,p0,hx,h⟩|⟨x,p0,hx,h⟩
   .obtain⟨hb,h⟩:=Z8 h
    obtain⟨mD,cU⟩:=G6 hb;refine bV.pure bq _ rfl (λhE r v' n' e=>by cases e;exact Env.C2 C hE hx) h λψ Q a w p=>?_
    have:=p.src (x:=y) (by simp[Op.operands,ho]);rw[hx]at this;obtain⟨cb,h1,h2,h3⟩:=this;exact⟨_,w,run ψ Q a w _ _ p h3 mD cU,.refl w,cb,h1,h2,by rw[tk]⟩
   .obtain⟨hb,h⟩:=Z8 h
    obtain⟨mD,cU⟩:=G6 hb;refine bV.val bq _ h λψ Q a w p=>?_
    have:=p.val (x:=y) (by simp[Op.operands,ho]) hx;generalize hy:a.eval y=v at this;cases this with
    |ptr _ _ cb e1=>exact⟨_,w,run ψ Q a w _ _ p hy mD cU,.refl w,by rw[tk _ p0,tj];exact .ptr _ _ cb e1⟩
  |_=>cases h
theorem Zrg (w:World) (h:P.underlying t=some d) (ha:Z9 P t=true) (cs:Array Value) (off:Nat):
  (Go.part t cs off).run P w= .ok (.agg (cs.extract off (off+P.cellsOf t))) w:=by
 simp[Go.part,Gs w h,ha,Z6 w h]
theorem Zrm (w:World) (h:P.underlying t=some d) (ha:Z9 P t=false) {cs:Array Value} (hv:cs[off]? =some v):
  (Go.part t cs off).run P w= .ok v w:=by
 simp[Go.part,Gs w h,ha,hv]
theorem Zsc (h:bB C ψ ds vs.toList) (off n:Nat):bB C ψ ((ds.drop off).take n) (vs.extract off (off+n)).toList:=by
 have:=(h.drop off).take n;rw[Array.toList_extract,Nu];simpa using this
theorem Se (h:cs.all one=true):((cs.drop off).take n).all one=true:=
 (by grind)
theorem ZqE (ht:C.P.underlying t=some td) (bq: ∀h,W h->D h)
  (h:(bif Z9 C.P t then cn E o K (.agg ((cs.drop off).take (C.P.cellsOf t)))else Go.Gv.ej cs off λd=>ym (l8 C.P t) d (cn E o K)) s=some r)
  (dJ: ∀ψ Q a w,aC C o D E s ψ Q a w->∃vs,bB C ψ cs vs.toList/\cs.all one=true/\(∀v,(Go.part t vs off).run C.P w= .ok v w->(execOp a.eval o).run C.P w= .ok (.value v) w)):bV C md pr ms o D W E s K r:=by
 cases ha:Z9 C.P t with
 |true=>
  rw[ha]at h;refine bV.val bq _ h λψ Q a w p=>?_
  obtain⟨vs,h1,h2,h3⟩:=dJ ψ Q a w p;exact⟨_,w,h3 _ (Zrg w ht ha vs off),.refl w,.agg _ _ (Zsc h1 _ _) (Se h2)⟩
 |false=>
  rw[ha]at h;simp only[af]at h;obtain⟨d,hd,h⟩:=KE h;obtain⟨d',h,hr,_⟩:=KT h;refine bV.val bq _ h λψ Q a w p=>?_
  obtain⟨vs,h1,h2,h3⟩:=dJ ψ Q a w p;obtain⟨v,hv,lX⟩:=h1.get hd;exact⟨v,w,h3 _ (Zrm w ht ha (by simpa using hv)),.refl w,hr C ψ v lX⟩
theorem ZsG {f:Nat} (ho:o.op= .field t y f) (bq: ∀h,W h->D h) (h:Sq C E o K t y f s=some r):bV C md pr ms o D W E s K r:=by
 unfold Sq at h;cases ht:C.P.underlying t with
 |none=>rw[ht]at h;cases h
 |some td=>
  rw[ht]at h;cases td with
  |struct fs=>
   simp only at h;cases hf:fs[f]? with
   |none=>rw[hf]at h;cases h
   |some fd=>
    rw[hf]at h;simp only at h;obtain⟨ed,he,h⟩:=oI h;obtain⟨d,hd,h⟩:=Zs h;cases d with
    |agg cs=>
     refine ZqE he bq h λψ Q a w p=>?_
     have hv:=p.val (x:=y) (by simp[Op.operands,ho]) hd;generalize hy:a.eval y=v at hv;cases hv with
     |agg _ vs h1 h2=>exact⟨vs,h1,h2,λv hp=>by simp[execOp,ho,hy,Instr.field,Zl w ht,hf,asAgg,hp]⟩
    |_=>cases h
  |_=>cases h
theorem ZuF (s:ByteArray) (i:Nat):s[i]? =s.data.toList[i]? :=by
 rcases jC i s.data.toList.length with h|h
 .have h':i<s.size:=by rw[nI]at h;exact h
  rw[cg h,getElem?_pos s i h',ByteArray.getElem_eq_getElem_data,Array.getElem_toList]
 simp_all
theorem Zso {i:Operand} (ho:o.op= .index t y i) (bq: ∀h,W h->D h) (h:Sn C E o K t y i s=some r):bV C md pr ms o D W E s K r:=by
 unfold Sn at h;obtain⟨k,n,hi,h⟩:=DQ h;obtain⟨d,hd,h⟩:=Zs h;have iv: ∀ψ Q a w,aC C o D E s ψ Q a w->a.eval i= .int k n:=λψ Q a w p=>by
  have:=p.val (x:=i) (by simp[Op.operands,ho]) hi;generalize a.eval i=v at this;cases this;rfl
 cases ht:C.P.underlying t with
 |none=>rw[ht]at h;cases h
 |some td=>
  rw[ht]at h;cases td with
  |string=>
   cases d with
   |str l=>
    simp only at h;obtain⟨hb,h⟩:=Z8 h;obtain⟨mD,cU⟩:=G6 hb;refine bV.val bq _ h λψ Q a w p=>?_
    have hv:=p.val (x:=y) (by simp[Op.operands,ho]) hd;generalize hy:a.eval y=v at hv;cases hv with
    |str x=>
     have hg:x[n.toNat]? =some x.data.toList[n.toNat]:=by rw[ZuF];grind
     refine⟨.int .u8 (ZQ x.data.toList n),w,?_,.refl w,.int _ _⟩;simp only[execOp,ho,hy,iv ψ Q a w p,Instr.index,Sem.run_bind,JW,Zl w ht,Result.andThen_ok,mD,lM,hg,Sem.run_pure,ZQ];grind
   |_=>cases h
  |array m e=>
   cases d with
   |agg cs=>
    simp only at h;obtain⟨ed,he,h⟩:=oI h;obtain⟨hb,h⟩:=Z8 h;obtain⟨mD,cU⟩:=G6 hb;refine ZqE he bq h λψ Q a w p=>?_
    have hv:=p.val (x:=y) (by simp[Op.operands,ho]) hd;generalize hy:a.eval y=v at hv;cases hv with
    |agg _ vs h1 h2=>exact⟨vs,h1,h2,λv hp=>by simp[execOp,ho,hy,iv ψ Q a w p,Instr.index,JW,Zl w ht,mD,cU,Z6 w he,hp]⟩
   |_=>cases h
  |_=>cases d<;>cases h
end
theorem S6 {y:B} (h:l8 P t= .b y):Z9 P t=false:=by
 grind[l8]
theorem ZrB {l:List B} (h:l8 P t= .agg l):Z9 P t=true:=by
 grind[l8]
theorem Km {d:DV} (h:Holds C ψ w cb (.cells f cs)) (hd:cs[p]? =some d):
  ∃v,(load ⟨cb.b,cb.o+p,none⟩).run P w= .ok v w/\VR C ψ d v/\one d=true:=by
 obtain⟨v,hv,hr⟩:=h.2.2.1 p d hd;exact⟨v,by rw[run_load,hv],hr,uF.1 h.2.1 _ (qJ hd)⟩
theorem Zla (h:Holds C ψ w cb (.cells f cs)) (hn:p+n<=cs.length):
  ∃vs,(∀w',w'.heap=w.heap->(loadCells ⟨cb.b,cb.o+p,none⟩ n).run P w'= .ok vs w')/\vs.size=n/\bB C ψ ((cs.drop p).take n) vs.toList/\((cs.drop p).take n).all one=true:=by
 have hc: ∀j,j<n->∃v,w.cell? ⟨cb.b,cb.o+p+j,none⟩=some v/\∀d,cs[p+j]? =some d->VR C ψ d v:=by
  intro j hj;obtain⟨v,hv,hr⟩:=h.2.2.1 (p+j) cs[p+j] (by simp);grind
 let f:Nat->Value:=λj=>(w.cell? ⟨cb.b,cb.o+p+j,none⟩).getD undef
 have hf: ∀w':World,w'.heap=w.heap->∀j,j<n->w'.cell? ((⟨cb.b,cb.o+p,none⟩:Addr).add j)=some (f j):=by
  intro w' hw j hj;obtain⟨v,hv,_⟩:=hc j hj;have e:w'.cell? ((⟨cb.b,cb.o+p,none⟩:Addr).add j)=w.cell? ((⟨cb.b,cb.o+p,none⟩:Addr).add j):=by simp only[World.cell?,hw]
  rw[e,zK,hv];simp[f,hv]
 refine⟨_,λw' hw=>run_loadCells w' _ n f (hf w' hw),by simp,bB.of _ _ ?_ ?_,Se h.2.1⟩
 .simp;omega
 grind
theorem JV (h:Holds C ψ w cb (.cells f cs)) (hn:p+n<=cs.length:=by omega):
  ∃vs,(loadCells ⟨cb.b,cb.o+p,none⟩ n).run P w= .ok vs w/\vs.size=n/\bB C ψ ((cs.drop p).take n) vs.toList/\((cs.drop p).take n).all one=true:=
 let ⟨vs,a,b⟩:=Zla (P:=P) h hn
 ⟨vs,a w rfl,b⟩
section
variable {C:bx} {o:Oper} {D W:du->Prop} {E:Env} {s:St} {md:Md} {pr ms:al}
theorem JC (ht:P.underlying t=some td) (ha:Z9 P t=true) (a:Addr) (w:World) (h:(loadCells a (P.cellsOf t)).run P w= .ok vs w):
  (loadVar t a).run P w= .ok (.agg vs) w:=by
 simp[loadVar,Gs w ht,ha,Z6 w ht,h]
theorem F7 (ht:P.underlying t=some td) (ha:Z9 P t=false) (a:Addr) (w:World) (h:(load a).run P w= .ok v w):
  (loadVar t a).run P w= .ok v w:=by
 rw[loadVar,Sem.run_bind,Gs w ht,ha];simpa using h
theorem Zw5 (hn:cs.length=n):part n cs p m=(cs.drop p).take m:=by
 unfold part;cases h:Nat.beq m n&&Nat.beq p 0 with
 |false=>rfl
 |true=>
  simp only[aW]at h;have h1:=dy h.2;have h2:=dy h.1;grind
theorem Sw (hn:cs.length=n) (hd:ds.length=m) (hp:p+m<=n):xH n m cs p ds=cq cs p ds:=by
 unfold xH;cases h:Nat.beq m n&&Nat.beq p 0 with
 |false=>rfl
 |true=>
  simp only[aW]at h;have h1:=dy h.2;have h2:=dy h.1;subst h1;subst h2;subst hn;simp only[ae];apply qH;intro j;rw[G5 cs 0 ds j (by omega)];by_cases hj:j<ds.length
  .rw[bG (by omega)];simp
  grind
theorem GA {K:ah->M β} (h:bQ i p n K s=some r): ∃f cs,c8 s i=some (.cells f cs)/\p+n<=cs.length/\K ((cs.drop p).take n) s=some r:=by
 unfold bQ at h;unfold St.cells at h;unfold c8;cases hs:s[i]? with
 |none=>rw[hs]at h;cases h
 |some x=>
  cases x with
  |none=>rw[hs]at h;cases h
  |some b=>
   rw[hs]at h;simp only at h;cases hb:Nat.ble (p+n) b.cells.length with
   |false=>rw[hb]at h;cases h
   |true=>rw[hb]at h;exact⟨_,_,rfl,pH hb,h⟩
theorem ZnY {K:DV->M β} (h:bF i p K s=some r): ∃f cs d,c8 s i=some (.cells f cs)/\cs[p]? =some d/\K d s=some r:=by
 unfold bF at h;unfold St.cells at h;unfold c8;cases hs:s[i]? with
 |none=>rw[hs]at h;cases h
 |some x=>
  cases x with
  |none=>rw[hs]at h;cases h
  |some b=>
   rw[hs]at h;grind
theorem aC.at {a:Act} (p:aC C o D E s ψ Q a w) (hD:D (.inl i)) (h:c8 s i=some ab) (e:ψ (.inl i)=some cb):Holds C ψ w cb ab:=
 p.eG.holds _ cb ab e (p.jz (.inl i) ab cb hD h e)
theorem aC.loc {a:Act} (p:aC C o D E s ψ Q a w) {t v:Nat} (hD:D (.inr v)) (h:E.get t= .loc v n cs) (e:ψ (.inr v)=some cb):Holds C ψ w cb (.cells false cs):=
 p.eG.holds _ cb _ e (p.jz (.inr v) _ cb hD (.inl ⟨t,n,cs,h,rfl⟩) e)
theorem Ztu {x:Operand} (ho:o.op= .load t x) (bq: ∀h,W h->D h) (hDl: ∀r v,md.loc r=true->(E.get r).cS=some v->D (.inr v)) (TW:md.LG=true->∀i p,E.src C x= .v (.ptr (some (i,p)))->D (.inl i)) (h:Lh C E o K md t x s=some r):bV C md pr ms o D W E s K r:=by
 unfold Lh at h;obtain⟨td,ht,h⟩:=oI h;rcases Gw h with⟨y,v,p0,hx,h⟩|⟨i,p0,hx,h⟩
 .obtain⟨hm,h⟩:=Zp h
  obtain⟨n,cs,hl,h⟩:=Zmo h;have hD:=hDl y v hm (by rw[hl];rfl);have addr: ∀ψ Q a w,aC C o D E s ψ Q a w->∃cb,ψ (.inr v)=some cb/\cb.o=0/\a.eval x= .pointer (some ⟨cb.b,p0,none⟩):=λψ Q a w p=>by
   have:=p.src (x:=x) (by simp[Op.operands,ho]);rw[hx]at this;exact this
  cases hs:l8 C.P t with
  |b y'=>
   rw[hs]at h;obtain⟨d,hd,h⟩:=KE h;obtain⟨d',h,hr,_⟩:=KX h;refine bV.val bq _ h λψ Q a w p=>?_
   obtain⟨cb,e1,e2,e3⟩:=addr ψ Q a w p;obtain⟨v,hv,kZ,_⟩:=Km (P:=C.P) (p.loc hD hl e1) hd;rw[e2,eW]at hv;refine⟨v,w,?_,.refl w,hr C ψ v kZ⟩;simp only[execOp,ho,e3,Instr.loadAt,Sem.run_bind,uP,Result.andThen_ok,F7 ht (S6 hs) _ w hv,Sem.run_pure]
  |agg l=>
   rw[hs]at h;simp only at h;obtain⟨hb,h⟩:=Z8 h;have hb:=pH hb;refine bV.val bq _ h λψ Q a w p=>?_
   have hlen:=p.gD.len y v n cs hl;obtain⟨cb,e1,e2,e3⟩:=addr ψ Q a w p;obtain⟨vs,hv,_,kZ,h1⟩:=JV (P:=C.P) (p.loc hD hl e1) (p:=p0) (n:=C.P.cellsOf t);rw[e2,eW]at hv;refine⟨_,w,?_,.refl w,by rw[Zw5 hlen];exact .agg _ vs kZ h1⟩;simp only[execOp,ho,e3,Instr.loadAt,Sem.run_bind,uP,Result.andThen_ok,JC ht (ZrB hs) _ w hv,Sem.run_pure]
 .obtain⟨hm,h⟩:=Zp h
  have hD:=TW hm i p0 hx;have addr: ∀ψ Q a w,aC C o D E s ψ Q a w->∃cb,ψ (.inl i)=some cb/\a.eval x= .pointer (some ⟨cb.b,cb.o+p0,none⟩):=λψ Q a w p=>by
   have:=p.val (x:=x) (by simp[Op.operands,ho]) hx;generalize a.eval x=y at this;cases this with
   |ptr _ _ cb e=>exact⟨cb,e,rfl⟩
  cases hs:l8 C.P t with
  |b y'=>
   rw[hs]at h;obtain⟨f,cs,d,cc,hd,h⟩:=ZnY h;obtain⟨d',h,hr,_⟩:=KX h;refine bV.val bq _ h λψ Q a w p=>?_
   obtain⟨cb,e1,e3⟩:=addr ψ Q a w p;obtain⟨v,hv,kZ,_⟩:=Km (P:=C.P) (p.at hD cc e1) hd;refine⟨v,w,?_,.refl w,hr C ψ v kZ⟩;simp only[execOp,ho,e3,Instr.loadAt,Sem.run_bind,uP,Result.andThen_ok,F7 ht (S6 hs) _ w hv,Sem.run_pure]
  |agg l=>
   rw[hs]at h;obtain⟨f,cs,cc,hb,h⟩:=GA h;obtain⟨ds,h,_,hr,h1⟩:=Gj h;refine bV.val bq _ h λψ Q a w p=>?_
   obtain⟨cb,e1,e3⟩:=addr ψ Q a w p;obtain⟨vs,hv,_,kZ,h2⟩:=JV (P:=C.P) (p.at hD cc e1) hb;refine⟨_,w,?_,.refl w,.agg _ vs (hr C ψ _ kZ) (h1 h2)⟩;simp only[execOp,ho,e3,Instr.loadAt,Sem.run_bind,uP,Result.andThen_ok,JC ht (ZrB hs) _ w hv,Sem.run_pure]
structure zp (w w':World) (b:Nat):Prop where
 other: ∀k,k≠b->w'.heap[k]? =w.heap[k]?
 size:w'.heap.size=w.heap.size
 tape:w'.tape=w.tape
 os:w'.os=w.os
 output:tz w w'
theorem zp.lf (w:World) (b:Nat) (ob:Obj):zp w (lf w b ob) b:=
 ⟨λ_ h=>ZtQ h ob,Na w b ob,rfl,rfl,rfl,aO _⟩
theorem Zmy {vs:List Value} (h:Holds C ψ w cb (.cells false cs)) (hr:bB C ψ ds vs) (h1:ds.all one=true)
  (hp:p+ds.length<=cb.m) (ho:o'+cs'.length<=cb.m) (gY:cs'.all one=true)
  (hc: ∀j d,cs'[j]? =some d->(p<=o'+j/\o'+j<p+ds.length/\ds[o'+j-p]? =some d)\/((o'+j<p\/p+ds.length<=o'+j)/\cs[o'+j]? =some d)):
  ∃w',(storeCells ⟨cb.b,cb.o+p,none⟩ vs).run P w= .ok () w'/\zp w w' cb.b/\Holds C ψ w' ⟨cb.b,cb.o+o',cb.m-o'⟩ (.cells false cs'):=by
 obtain⟨c,ty,fr,hb,cw,eO⟩:=h.2.2.2 rfl;have hl:=hr.len;have dJ:=OE P cb.b (cb.o+p) ty fr vs 0 w c hb (hr.YE h1) (by omega) (by grind);simp only[gV]at dJ;refine⟨_,dJ,zp.lf w _ _,by simp only;omega,gY,λj d hd=>?_,λ_=>⟨_,ty,fr,Kb (GC hb) _,by simp;omega,λj hj=>?_⟩⟩
 .dsimp only
  rw[cell_of_row _ _ _ _ ty fr (Kb (GC hb) _),KW _ _ _ _ (by omega)];rcases hc j d hd with⟨a1,a2,a3⟩|⟨a1,a2⟩
  .rw[bG ⟨by omega,by omega⟩]
   obtain⟨v,hv,kZ⟩:=hr.get a3;grind
  .rw[ba (by omega)]
   obtain⟨v,hv,kZ⟩:=h.2.2.1 _ _ a2;rw[cell_of_row _ _ _ _ ty fr hb]at hv;grind
 .have:=eO (o'+j) (by simp only at hj;omega)
  rw[<-tj]at this;exact this
theorem ZsR (h:cs.all one=true) (h':ds.all one=true) (hp:p+ds.length<=cs.length):(cq cs p ds).all one=true:=by
 refine uF.2 λx hx=>?_
 obtain⟨j,hj⟩:=Dg hx;rw[G5 cs p ds j hp]at hj;grind
theorem Kv {vs:List Value} (h:Holds C ψ w cb (.cells false cs)) (hr:bB C ψ ds vs) (h1:ds.all one=true)
  (hp:p+ds.length<=cs.length):
  ∃w',(storeCells ⟨cb.b,cb.o+p,none⟩ vs).run P w= .ok () w'/\zp w w' cb.b/\Holds C ψ w' cb (.cells false (cq cs p ds)):=by
 have hm:=h.1;have e1:p+ds.length<=cb.m:=by omega
 have e2:0+(cq cs p ds).length<=cb.m:=by rw[Gx];omega
 obtain⟨w',a,b,c⟩:=Zmy (P:=P) (cs':=cq cs p ds) (o':=0) h hr h1 e1 e2 (ZsR h.2.1 h1 hp) (λj d hd=>by
  rw[G5 cs p ds j hp]at hd;grind)
 simp_all
theorem Rm (h:s.hY i=some cs):c8 s i=some (.cells false cs)/\i<s.length:=by
 grind[St.hY,c8]
theorem ZkG (h:i<s.length) (b:bT):c8 (s.set i (some b)) i=some (.cells b.fK b.cells):=by simp[c8,h]
theorem JU (h:i≠j) (b:Option bT):c8 (s.set i b) j=c8 s j:=by grind[c8]
theorem bV.Wl (bq: ∀h,W h->D h) (hW:W (.inl i)) (e:ez) (hv:e.cS=none) (hp:iY E->∀r v n,e= .pl r v n->v<E.bL)
  (hi:s.hY i=some cs) (hk:K (E.eR o.dst e) (s.set i (some ⟨false,cs'⟩))=some r)
  (dJ: ∀ψ Q a w,aC C o D E s ψ Q a w->∃cb,ψ (.inl i)=some cb/\(Holds C ψ w cb (.cells false cs)->∃v w',((execOp a.eval o).run C.P w= .ok (.value v) w'\/(execOp a.eval o).run C.P w= .ok .skip w'/\v=undef)/\
   zp w w' cb.b/\Holds C ψ w' cb (.cells false cs')/\fp C ψ e v)):bV C md pr ms o D W E s K r:=by
 obtain⟨cc,ax⟩:=Rm hi;refine .inl ⟨_,_,hk,lO.put pr ms e hv hp (by simp) (λj ab h=>?_) (λj h _=>?_) (.inl (by simp)),?_⟩
 .by_cases e:j=i
  .subst e;exact .inl hW
  .rw[JU (λe'=>e e'.symm)]at h;exact .inr (.inr h)
 .grind
 intro ψ Q a w next QQ p room hn;obtain⟨cb,iE,hh⟩:=dJ ψ Q a w p;have hq:Q (.inl i) (.cells false cs):=p.jz (.inl i) _ cb (bq _ hW) cc iE;obtain⟨v,w',hr,db,HQ,eD⟩:=hh (p.eG.holds _ cb _ iE hq);have post:Jw C D W E s (E.eR o.dst e) (s.set i (some ⟨false,cs'⟩)) ψ Q w ψ (xK Q (.inl i) (.cells false cs')) w':=by
  refine⟨eX.set p.eG iE hq rfl db.other HQ,Ext.set iE hq rfl db.other db.size db.tape db.os db.output,λ_ _ e=> .inl e,λh ab c cr hw e'=>?_,λh ab c e' q nw _=>?_⟩
  .by_cases eh:h= .inl i
   .subst eh
    have nV:c8 (s.set i (some ⟨false,cs'⟩)) i=some ab:=cr;rw[ZkG ax]at nV;cases nV;exact .inl ⟨rfl,rfl⟩
   .refine .inr ⟨eh,?_⟩
    have fh:CR E s h ab:=by
     cases h with
     |inl j=>
      have nV:c8 (s.set i (some ⟨false,cs'⟩)) j=some ab:=cr;rw[JU (λe=>eh (by rw[e]))]at nV;exact nV
     |inr x=>exact CR.eR (t:=o.dst) (e:=e) (s:=s) hv cr
    rcases hw with hw|⟨n1,n2⟩
    .exact p.jz h ab c (bq h hw) fh e'
    .exact absurd (fh.pX p.gD) n1
  .exact .inr (by grind)
 have bI: ∀d,o.dst=some d->fp C ψ ((E.eR o.dst e).get d) v:=λd hd=>by rw[Env.jU,bG hd];exact eD
 unfold Oper.wp;rcases hr with hr|⟨hr,rfl⟩
 .rw[hr];exact hn ψ _ v w' post bI
 .rw[hr];exact hn ψ _ _ w' post bI
theorem ZnC {K:M β} (h:eI i p ds K s=some r):
  ∃cs,s.hY i=some cs/\p+ds.length<=cs.length/\K (s.set i (some ⟨false,cq cs p ds⟩))=some r:=by
 unfold eI at h;cases hs:s.hY i with
 |none=>rw[hs]at h;cases h
 |some cs=>
  rw[hs]at h;simp only at h;cases hb:Nat.ble (p+ds.length) cs.length with
  |false=>rw[hb]at h;cases h
  |true=>rw[hb]at h;simp_all
theorem Zld (ht:P.underlying t=some td) (a:Addr) (v:Value) (w:World) (hs:v.cells.size=P.cellsOf t):
  (storeVar t a v).run P w=(storeCells a v.cells.toList).run P w:=by
 simp[storeVar,Z6 w ht,hs]
theorem ZsA {x:Operand} (ho:o.op= .store t x y) (vo:o.dst=none) (bq: ∀h,W h->D h) (Ua: ∀r v,md.loc r=true->(E.get r).cS=some v->W (.inr v)) (hWh:md.LG=true->∀i p,E.src C x= .v (.ptr (some (i,p)))->W (.inl i)) (h:Sv C E K md ms t x y s=some r):bV C md pr ms o D W E s K r:=by
 unfold Sv at h;obtain⟨d,hd,h⟩:=Zs h;obtain⟨ds,td,ht,h,kV,hv⟩:=Zmq h;rcases Gw h with⟨u,v,p0,hx,h⟩|⟨i,p0,hx,h⟩
 .obtain⟨hm,h⟩:=Zp h
  rw[aW]at hm;obtain⟨n,cs,hl,h⟩:=Zmo h;obtain⟨hb,h⟩:=Z8 h;have hb:=pH hb;have hW:=Ua u v hm.2 (by rw[hl];rfl);have get: ∀k,(E.put u (.loc v n (xH n (C.P.cellsOf t) cs p0 ds))).get k=if u=k then .loc v n (xH n (C.P.cellsOf t) cs p0 ds)else E.get k:=λk=>Env.rj _ _ _ _
  have cS: ∀k,((E.put u (.loc v n (xH n (C.P.cellsOf t) cs p0 ds))).get k).cS=(E.get k).cS:=λk=>by
   rw[get];split
   .rename_i e;subst e;rw[hl];rfl
   .rfl
  have crb: ∀h ab,iY E->CR (E.put u (.loc v n (xH n (C.P.cellsOf t) cs p0 ds))) s h ab->(h= .inr v/\ab= .cells false (xH n (C.P.cellsOf t) cs p0 ds))\/(h≠ .inr v/\CR E s h ab):=by
   intro h ab hE c;cases h with
   |inl i=>exact .inr ⟨by simp,c⟩
   |inr k=>
    rcases c with⟨q,n',cs',hq,fL⟩|⟨q,l,p,hq,fL⟩
    .rw[get]at hq
     split at hq
     .grind
     .rename_i dI
      refine .inr ⟨λe=>?_,.inl ⟨q,n',cs',hq,fL⟩⟩;cases e;exact dI (hE.uniq u q v (by rw[hl];rfl) (by rw[hq];rfl))
    .rw[get]at hq
     split at hq
     .cases hq
     .rename_i dI
      refine .inr ⟨λe=>?_,.inr ⟨q,l,p,hq,fL⟩⟩;cases e;exact dI (hE.uniq u q v (by rw[hl];rfl) (by rw[hq];rfl))
  refine .inl ⟨_,_,h,⟨aO _,aO _,λhE=>⟨?_,?_,?_,?_⟩,?_,(λk d _ h'=>by
   rw[get]at h';grind),?_,?_,?_,?_,λ_ _ _=>rfl,.inr (by unfold Spec;rw[ho];trivial),.inl rfl⟩,?_⟩
  .intro k v' h';rw[cS]at h';exact hE.lt k v' h'
  .intro k a b c h'
   rw[get]at h';split at h'
   .cases h'
   .exact hE.pl k a b c h'
  .intro k a b c h'
   rw[get]at h';split at h'
   .cases h'
    have:=hE.len u v n cs hl;rw[Sw this kV hb,Gx];exact this
   .exact hE.len k a b c h'
  .intro k k' v' h' yr;rw[cS]at h' yr;exact hE.uniq k k' v' h' yr
  .grind
  .intro k _ C' ψ x' hr
   rw[get];split
   .rename_i e;subst e;rw[hl]at hr;exact hr
   .exact hr
  .intro h' ab c
   cases h' with
   |inl i=>exact .inr (.inr c)
   |inr k=>
    rcases c with⟨q,n',cs',hq,fL⟩|⟨q,l,p,hq,fL⟩
    .rw[get]at hq
     split at hq
     .cases hq;exact .inl hW
     .exact .inr (.inr (.inl ⟨q,n',cs',hq,fL⟩))
    .rw[get]at hq
     split at hq
     .cases hq
     .exact .inr (.inr (.inr ⟨q,l,p,hq,fL⟩))
  .grind
  .grind
  .intro ψ Q a w next QQ p room hn
   have:=p.src (x:=x) (by simp[Op.operands,ho]);rw[hx]at this;obtain⟨cb,e1,e2,e3⟩:=this;obtain⟨h1,h2,h3⟩:=hv C ψ _ (p.val (x:=y) (by simp[Op.operands,ho]) hd);have hq:Q (.inr v) (.cells false cs):=p.jz (.inr v) _ cb (bq _ hW) (.inl ⟨u,n,cs,hl,rfl⟩) e1;have hlen:=p.gD.len u v n cs hl;obtain⟨w',hr,db,hh⟩:=Kv (P:=C.P) (p:=p0) (p.eG.holds _ cb _ e1 hq) h1 h2 (by omega);rw[e2,eW]at hr;have hex:(execOp a.eval o).run C.P w= .ok .skip w':=by
    simp only[execOp,ho,e3,Instr.storeAt,Sem.run_bind,uP,Result.andThen_ok,Zld ht _ _ w h3,hr,Sem.run_pure]
   unfold Oper.wp;rw[hex];refine hn ψ (xK Q (.inr v) (.cells false (xH n (C.P.cellsOf t) cs p0 ds))) _ w' ⟨eX.set p.eG e1 hq rfl db.other (by rw[Sw hlen kV hb];exact hh),Ext.set e1 hq rfl db.other db.size db.tape db.os db.output,
    λ_ _ e=> .inl e,λh' ab c cr hw e'=>?_,λh' ab c e' q nw _=>?_⟩ (by grind)
   .rcases crb h' ab p.gD cr with⟨rfl,rfl⟩|⟨dI,cr⟩
    .exact .inl ⟨rfl,rfl⟩
    .refine .inr ⟨dI,?_⟩
     rcases hw with hw|⟨n1,n2⟩
     .exact p.jz h' ab c (bq h' hw) cr e'
     .exact absurd (cr.pX p.gD) n1
   .exact .inr (by grind)
 .obtain⟨hm,h⟩:=Zp h
  obtain⟨cs,hi,hb,h⟩:=ZnC h;refine bV.Wl bq (hWh hm i p0 hx) .u rfl (λ_ _ _ _ e=>by cases e) hi (by rw[vo];exact h) λψ Q a w p=>?_
  have:=p.val (x:=x) (by simp[Op.operands,ho]) hx;generalize ML:a.eval x=xv at this;cases this with
  |ptr _ _ cb e=>
   refine⟨cb,e,λhh=>?_⟩;obtain⟨h1,h2,h3⟩:=hv C ψ _ (p.val (x:=y) (by simp[Op.operands,ho]) hd);obtain⟨w',hr,db,HQ⟩:=Kv (P:=C.P) (p:=p0) hh h1 h2 hb;refine⟨undef,w',.inr ⟨?_,rfl⟩,db,HQ,trivial⟩;simp only[execOp,ho,ML,Instr.storeAt,Sem.run_bind,uP,Result.andThen_ok,Zld ht _ _ w h3,hr,Sem.run_pure]
end
structure nJ (C:bx):Prop where
 ty: ∀t t',C.ty t=C.ty t'->t=t'
 eqg: ∀t,C.Cd t≠[]->C.P.eqGuardType C.P.depth t=false
 eq: ∀t,C.Cd t≠[]->∀ψ xs ys (vs us:Array Value) b w,bB C ψ xs vs.toList->bB C ψ ys us.toList->mA (C.Cd t) xs ys=some b->(Op.equal t (.agg vs) (.agg us)).run C.P w= .ok b w
 tae: ∃e d,C.P.underlying C.P.rt.typeAssertionError=some (.pointer e)/\C.P.underlying e=some d
section
variable {C:bx} {o:Oper} {D W:du->Prop} {E:Env} {s:St} {md:Md} {pr ms:al}
theorem Zqz (d:Nat) (ht:P.underlying t=some .bool) (x y:Bool) (w:World):(Op.equalIn (d+1) t (.bool x) (.bool y)).run P w= .ok (x==y) w:=by
 simp[Op.equalIn,Zl w ht]
theorem Zuc (ht:P.underlying t=some .bool) (x y:Bool) (w:World):(Op.equal t (.bool x) (.bool y)).run P w= .ok (x==y) w:=Zqz 9999 ht x y w
theorem Zsh (d:Nat) (ht:P.underlying t=some (.pointer e)) (a:Option Addr) (w:World):
  (Op.equalIn (d+1) t (.pointer a) (.pointer none)).run P w= .ok a.isNone w/\(Op.equalIn (d+1) t (.pointer none) (.pointer a)).run P w= .ok a.isNone w:=by
 cases a<;>constructor<;>simp[Op.equalIn,Zl w ht]
theorem Kj (ht:P.underlying t=some (.pointer e)) (a:Option Addr) (w:World):
  (Op.equal t (.pointer a) (.pointer none)).run P w= .ok a.isNone w/\(Op.equal t (.pointer none) (.pointer a)).run P w= .ok a.isNone w:=Zsh 9999 ht a w
theorem Zql (d:Nat) (ht:P.underlying t=some (.slice e)) (a:Option Addr) (n m n' m':Nat) (w:World):
  (Op.equalIn (d+1) t (.slice a n m) (.slice none n' m')).run P w= .ok a.isNone w/\(Op.equalIn (d+1) t (.slice none n' m') (.slice a n m)).run P w= .ok a.isNone w:=by
 cases a<;>constructor<;>simp[Op.equalIn,Zl w ht]
theorem JO (ht:P.underlying t=some (.slice e)) (a:Option Addr) (n m n' m':Nat) (w:World):
  (Op.equal t (.slice a n m) (.slice none n' m')).run P w= .ok a.isNone w/\(Op.equal t (.slice none n' m') (.slice a n m)).run P w= .ok a.isNone w:=Zql 9999 ht a n m n' m' w
theorem Zu6 (x y:ByteArray):(x.toList==y.toList)=(x.data.toList==y.data.toList):=by rw[ByteArray.toList_eq,ByteArray.toList_eq]
theorem Zro {x y:DV} {K:Bool->M β} (hc:nJ C) (h:LF (C.P.underlying t) (C.Cd t) x y K s=some r):
  ∃b,K b s=some r/\∀ψ w (x' y':Value) (p q:Operand),VR C ψ x x'->VR C ψ y y'->
   (do eqGuard .eql t p q x' y';Go.binOp .eql t x' y':Sem Value).run C.P w= .ok (.bool b) w/\(do eqGuard .neq t p q x' y';Go.binOp .neq t x' y':Sem Value).run C.P w= .ok (.bool !b) w:=by
 generalize hu:C.P.underlying t=u at h;unfold LF at h;split at h
 ·
  split at h
  ·
   refine⟨_,h,λψ w x' y' p q hx hy=>?_⟩;cases hx;cases hy;constructor<;>simp[eqGuard,Go.binOp,Zuc hu]
  .cases h
 .obtain⟨h1,h2⟩:=Zp h
  clear h;have:=G8 h1;subst this;refine⟨_,h2,λψ w x' y' p q hx hy=>?_⟩;cases hx;cases hy;constructor<;>simp[eqGuard,Go.binOp,Op.intCmp,bne]
 .refine⟨_,h,λψ w x' y' p q hx hy=>?_⟩
  cases hx;cases hy;constructor<;>simp[eqGuard,Go.binOp,Op.stringOp,Zu6]
 .split at h
  .refine⟨_,h,λψ w x' y' p q hx hy=>?_⟩
   cases hy;cases hx with
   |IY=>constructor<;>simp[eqGuard,Go.binOp,(Kj hu none w).1]
   |ptr i n cb e=>constructor<;>simp[eqGuard,Go.binOp,(Kj hu _ w).1]
  .cases h
 .split at h
  .refine⟨_,h,λψ w x' y' p q hx hy=>?_⟩
   cases hx;cases hy with
   |IY=>constructor<;>simp[eqGuard,Go.binOp,(Kj hu none w).1]
   |ptr i n cb e=>constructor<;>simp[eqGuard,Go.binOp,(Kj hu _ w).2]
  .cases h
 .split at h
  .refine⟨_,h,λψ w x' y' p q hx hy=>?_⟩
   cases hy;cases hx with
   |rV=>constructor<;>simp[eqGuard,Go.binOp,(JO hu none 0 0 0 0 w).1]
   |slice _ i n m cb a cap e=>constructor<;>simp[eqGuard,Go.binOp,(JO hu _ _ _ 0 0 w).1]
  .cases h
 .split at h
  .refine⟨_,h,λψ w x' y' p q hx hy=>?_⟩
   cases hx;cases hy with
   |rV=>constructor<;>simp[eqGuard,Go.binOp,(JO hu none 0 0 0 0 w).1]
   |slice _ i n m cb a cap e=>constructor<;>simp[eqGuard,Go.binOp,(JO hu _ _ _ 0 0 w).2]
  .cases h
 .rename_i xs ys
  cases cX:C.Cd t with
  |nil=>rw[cX]at h;cases h
  |cons k ks=>
   rw[cX]at h;simp only at h;cases hb:mA (k::ks) xs ys with
   |none=>rw[hb]at h;cases h
   |some b=>
    rw[hb]at h;refine⟨_,h,λψ w x' y' p q hx hy=>?_⟩;have Xj:C.Cd t≠[]:=by rw[cX];grind
    cases hx with
    |agg _ vs h1 _=>
     cases hy with
     |agg _ us h2 _=>
      have he:=hc.eq t Xj ψ _ _ vs us b w h1 h2 (by rw[cX];exact hb);constructor<;>simp[eqGuard,Go.binOp,hc.eqg t Xj,he]
 .cases h
theorem Zwe (h:op= .and\/op= .or\/op= .xor\/op= .andNot) (t:TypeId) (p q:Operand) (k:IntKind) (x y:Int) (w:World):
  (do eqGuard op t p q (.int k x) (.int k y);Go.binOp op t (.int k x) (.int k y):Sem Value).run P w= .ok (.int k (bits op k x y)) w:=by
 have e:Go.binOp op t (.int k x) (.int k y)=Op.intBits op k x y:=by rcases h with rfl|rfl|rfl|rfl<;>simp[Go.binOp]
 rw[e];rcases h with rfl|rfl|rfl|rfl<;>rfl
theorem ZuK {x:Operand} (hc:nJ C) (ho:o.op= .binOp op t x y yt) (bq: ∀h,W h->D h) (h:VX C E o K op t x y s=some r):bV C md pr ms o D W E s K r:=by
 unfold VX at h;obtain⟨a,ha,h⟩:=Zs h;obtain⟨b,hb,h⟩:=Zs h;have key: ∀d,cn E o K d s=some r->(∀ψ w x' y',VR C ψ a x'->VR C ψ b y'->∃v,(do eqGuard op t x y x' y';Go.binOp op t x' y':Sem Value).run C.P w= .ok v w/\VR C ψ d v)->bV C md pr ms o D W E s K r:=by
  intro d h hr;refine bV.val bq d h λψ Q A w p=>?_
  obtain⟨v,hv,kZ⟩:=hr ψ w _ _ (p.val (x:=x) (by simp[Op.operands,ho]) ha) (p.val (x:=y) (by simp[Op.operands,ho]) hb);refine⟨v,w,?_,.refl w,kZ⟩;simp only[execOp,ho,Sem.run_bind]at hv⊢;rw[hv];rfl
 unfold WZ at h;split at h
 .obtain⟨b',h,hr⟩:=Zro hc h
  exact key _ h λψ w x' y' hx hy=>⟨_,(hr ψ w x' y' x y hx hy).1,.bool _⟩
 .obtain⟨b',h,hr⟩:=Zro hc h
  exact key _ h λψ w x' y' hx hy=>⟨_,(hr ψ w x' y' x y hx hy).2,.bool _⟩
 .split at h
  .rename_i k n k' m
   have h0:=h;clear h;obtain⟨hm,h⟩:=Z8 h0;clear h0;have hm:=Int.not_lt.2 (qL hm);refine key _ h λψ w x' y' hx hy=>?_
   cases hx;cases hy;exact⟨_,by simp[eqGuard,Go.binOp,Op.shift,hm],.int _ _⟩
  .cases h
 .split at h
  .rename_i k n k' m
   have h0:=h;clear h;obtain⟨hm,h⟩:=Z8 h0;clear h0;have hm:=Int.not_lt.2 (qL hm);refine key _ h λψ w x' y' hx hy=>?_
   cases hx;cases hy;exact⟨_,by simp[eqGuard,Go.binOp,Op.shift,hm],.int _ _⟩
  .cases h
 .rename_i n1 n2 n3 n4
  split at h
  .have h0:=h
   clear h;obtain⟨hk,h⟩:=Zp h0;clear h0;have:=G8 hk;subst this;cases op with
   |eql=>exact absurd rfl n1
   |neq=>exact absurd rfl n2
   |shl=>exact absurd rfl n3
   |shr=>exact absurd rfl n4
   |quo=>
    obtain⟨hm,h⟩:=Z8 h;simp only[lL,dX]at hm;refine key _ h λψ w x' y' hx hy=>?_
    cases hx;cases hy;exact⟨_,by simp[eqGuard,Go.binOp,Op.intDiv,hm],.int _ _⟩
   |rem=>
    obtain⟨hm,h⟩:=Z8 h;simp only[lL,dX]at hm;refine key _ h λψ w x' y' hx hy=>?_
    cases hx;cases hy;exact⟨_,by simp[eqGuard,Go.binOp,Op.intDiv,hm],.int _ _⟩
   |and|or|xor|andNot=>
    refine key _ h λψ w x' y' hx hy=>?_
    cases hx;cases hy;exact⟨_,Zwe (by simp) t x y _ _ _ w,.int _ _⟩
   |_=>
    refine key _ h λψ w x' y' hx hy=>?_
    cases hx;cases hy;exact⟨_,by simp[eqGuard,Go.binOp,Op.intArith,Op.intCmp]<;>rfl,by constructor⟩
  .rename_i l l'
   cases op with
   |eql=>exact absurd rfl n1
   |neq=>exact absurd rfl n2
   |shl=>exact absurd rfl n3
   |shr=>exact absurd rfl n4
   |add=>
    obtain⟨hm,h⟩:=Z8 h;have hm:=pH hm;refine key _ h λψ w x' y' hx hy=>?_
    cases hx with
    |str p=>
     cases hy with
     |str q=>
      have e:p.data.toList++q.data.toList=(p++q).data.toList:=by simp[ByteArray.data_append]
      rw[e];rw[nI,nI]at hm;have oW:p.size+q.size<=4611686018427387904:=hm;refine⟨.string (p++q),?_,.str _⟩;have:=run_string_add_sum (P:=C.P) (w:=w) p q (by omega);simp[eqGuard,Go.binOp,this]
   |lss|leq|gtr|geq=>
    refine key _ h λψ w x' y' hx hy=>?_
    cases hx;cases hy;refine⟨_,by simp only[eqGuard,Go.binOp,Op.stringOp,ByteArray.toList_eq];rfl,.bool _⟩
   |_=>cases h
  .cases h
end
def C1 (P:Program) (t:TypeId) (b:B):Bool:=match P.underlying t,b with
 |some .bool,.bool=>true
 |some (.int _),.int _=>true
 |some .string,.str=>true
 |_,_=>false
def LD (P:Program):List Field->List B->Nat->Bool
 |[],[],_=>true
 |f::r,b::bs,o=>f.name != "_" &&Nat.beq f.offset o&&C1 P f.type b&&LD P r bs (o+1)
 |_,_,_=>false
def Eu (P:Program):List Field->List B->Nat->Bool
 |[],[],_=>true
 |[],_::_,_=>false
 |f::r,bs,o=>f.name != "_" &&Nat.beq f.offset o&&(match P.underlying f.type with
  |some (.struct fs)=>Nat.beq (P.cellsOf f.type) fs.size&&Nat.ble fs.size bs.length&& !(P.stoodInHeld f.type)&&LD P fs.toList (bs.take fs.size) 0&&Eu P r (bs.drop fs.size) (o+fs.size)
  |_=>match bs with
   |b::gB=>C1 P f.type b&&Eu P r gB (o+1)
   |[]=>false)
def Ev (P:Program) (t:TypeId) (bs:List B):Bool:=match P.underlying t with
 |some (.struct fs)=>Eu P fs.toList bs 0&& !(P.stoodInHeld t)&& !(P.eqGuardType P.depth t)
 |_=>false
section
variable {C:bx} {ψ:Ps}
theorem Zq6 {d:Nat} {b:B} {x y:DV} {u:Value} {r:Bool} (w:World) (hs:C1 C.P t b=true) (hx:VR C ψ x v) (hy:VR C ψ y u) (he:Aj b x y=some r):
  (Op.equalIn (d+1) t v u).run C.P w= .ok r w:=by
 unfold C1 at hs;split at hs
 .rename_i hu
  unfold Aj at he;split at he<;>first|(rename_i h1;cases h1;done)|skip
  .cases hx;cases hy;cases he
   simp[Op.equalIn,Zl w hu]
  grind
 .rename_i hu
  unfold Aj at he;split at he
  .rename_i h1;cases h1
  .rename_i k0 k a k' b' _
   cases hk:ur k0 k&&ur k k' with
   |false=>rw[hk]at he;cases he
   |true=>
    rw[hk]at he;rw[aW]at hk;have:=G8 hk.2;subst this;cases hx;cases hy;cases he;simp[Op.equalIn,Zl w hu]
  .rename_i h1;cases h1
  .cases he
 .rename_i hu
  unfold Aj at he;split at he
  .rename_i h1;cases h1
  .rename_i h1;cases h1
  .cases hx;cases hy;cases he
   have e: ∀a b:ByteArray,(a==b)=(a.data.toList==b.data.toList):=by
    intro a b;have e1:(a==b)=(a.data==b.data):=by cases a;cases b;rfl
    rw[e1,lg];simp only[sd];exact⟨λh=>by rw[h],λh=>Array.toList_inj.1 h⟩
   simp only[Op.equalIn,Sem.run_bind,Zl w hu,Result.andThen_ok,Sem.run_pure,e]
  .cases he
 .cases hs
theorem KA {b:B} {cs:Array Value} (w:World) (hs:C1 C.P e b=true) (hx:cs[off]? =some v):(Go.part e cs off).run C.P w= .ok v w:=by
 refine run_part_plain w ?_ hx;unfold C1 at hs;grind[Program.plainKey]
theorem ZqW {d:Nat} (xs ys:Array Value) (w:World): ∀(fs:List Field) (bs:List B) (ds es:ah) (o:Nat) (r:Bool),LD C.P fs bs o=true->
  bB C ψ ds (xs.toList.drop o)->bB C ψ es (ys.toList.drop o)->mA bs ds es=some r->(Op.eqFields (d+1) xs ys fs).run C.P w= .ok r w
 |[],[],[],[],o,r,_,_,_,he=>by
  cases he;simp[Op.eqFields]
 |[],[],_::_,_,_,_,_,_,_,he=>by cases he
 |[],[],[],_::_,_,_,_,_,_,he=>by cases he
 |[],_::_,_,_,_,_,h,_,_,_=>by cases h
 |_::_,[],_,_,_,_,h,_,_,_=>by cases h
 |f::fs,b::bs,[],_,_,_,_,_,_,he=>by cases he
 |f::fs,b::bs,_::_,[],_,_,_,_,_,he=>by cases he
 |f::fs,b::bs,x::ds,y::es,o,r,h,hx,hy,he=>by
  simp only[LD,aW]at h;obtain⟨⟨⟨hn,ho⟩,hs⟩,hr⟩:=h;have ho:=dy ho;have hn:f.name≠ "_" :=by simpa using hn
  simp only[mA]at he;cases h1:Aj b x y with
  |none=>rw[h1]at he;cases he
  |some r1=>
   cases h2:mA bs ds es with
   |none=>rw[h1,h2]at he;cases he
   |some r2=>
    rw[h1,h2]at he;cases he;have Ja: ∀ {z:Array Value} {q:DV} {qs:ah},bB C ψ (q::qs) (z.toList.drop o)->∃v,z[o]? =some v/\VR C ψ q v/\bB C ψ qs (z.toList.drop (o+1)):=by
     intro z q qs hq;generalize hz:z.toList.drop o=l at hq;cases hq with
     |cons _ v _ vs a b=>
      have e:z.toList[o]? =some v:=by
       have:=congrArg (λl:List Value=>l[0]?) hz;simpa using this
      refine⟨v,by rw[<-kb];exact e,a,?_⟩;have:=congrArg (List.drop 1) hz;rw[kd]at this;rw[this];exact b
    obtain⟨v,hv,rv,tv⟩:=Ja hx;obtain⟨u,hu,ru,tu⟩:=Ja hy;have p1:=KA (C:=C) w hs hv;have p2:=KA (C:=C) w hs hu;have p3:=Zq6 (d:=d) w hs rv ru h1;have p4:=ZqW (d:=d) xs ys w fs bs ds es (o+1) r2 hr tv tu h2;rw[<-ho]at p1 p2;simp only[Op.eqFields,hn,ne_eq,not_false_eq_true,lM,Sem.run_bind,p1,p2,p3,Result.andThen_ok];cases r1
    .simp
    .simpa using p4
theorem Zpt: ∀(n:Nat) (bs:List B) (ds es:ah) (r:Bool),mA bs ds es=some r->n<=bs.length->∃r1 r2,mA (bs.take n) (ds.take n) (es.take n)=some r1/\mA (bs.drop n) (ds.drop n) (es.drop n)=some r2/\r=(r1&&r2)
 |0,bs,ds,es,r,h,_=>⟨true,r,by simp[mA],by simpa using h,by simp⟩
 |n+1,[],ds,es,r,h,hn=>by simp at hn
 |n+1,b::bs,[],es,r,h,hn=>by cases h
 |n+1,b::bs,_::_,[],r,h,hn=>by cases h
 |n+1,b::bs,x::ds,y::es,r,h,hn=>by
  simp only[mA]at h;cases h1:Aj b x y with
  |none=>rw[h1]at h;cases h
  |some a=>
   cases h2:mA bs ds es with
   |none=>rw[h1,h2]at h;cases h
   |some c=>
    rw[h1,h2]at h;cases h;obtain⟨r1,r2,g1,g2,g3⟩:=Zpt n bs ds es c h2 (by simpa using hn);refine⟨a&&r1,r2,?_,by simpa using g2,by rw[g3,Bool.and_assoc]⟩;simp[List.take_succ_cons,mA,h1,g1]
theorem RX {d:Nat} (xs ys:Array Value) (w:World): ∀(fs:List Field) (bs:List B) (ds es:ah) (o:Nat) (r:Bool),Eu C.P fs bs o=true->
  bB C ψ ds (xs.toList.drop o)->bB C ψ es (ys.toList.drop o)->mA bs ds es=some r->(Op.eqFields (d+2) xs ys fs).run C.P w= .ok r w
 |[],[],ds,es,o,r,_,_,_,he=>by
  cases ds<;>cases es<;>cases he
  simp[Op.eqFields]
 |[],_::_,_,_,_,_,h,_,_,_=>by cases h
 |f::fs,bs,ds,es,o,r,h,hx,hy,he=>by
  unfold Eu at h;rw[aW,aW]at h;obtain⟨⟨hn,ho⟩,h⟩:=h;have ho:=dy ho;have hn:f.name≠ "_" :=by simpa using hn
  have ahb: ∀b gB,bs=b::gB->(C1 C.P f.type b&&Eu C.P fs gB (o+1))=true->(Op.eqFields (d+2) xs ys (f::fs)).run C.P w= .ok r w:=by
   rintro b gB rfl h;rw[aW]at h;obtain⟨hs,hr⟩:=h
   match ds,es,hx,hy,he with
   |[],_,_,_,he=>cases he
   |_::_,[],_,_,he=>cases he
   |x::ds,y::es,hx,hy,he=>
   simp only[mA]at he;cases h1:Aj b x y with
   |none=>rw[h1]at he;cases he
   |some r1=>
    cases h2:mA gB ds es with
    |none=>rw[h1,h2]at he;cases he
    |some r2=>
     rw[h1,h2]at he;cases he;have Ja: ∀ {z:Array Value} {q:DV} {qs:ah},bB C ψ (q::qs) (z.toList.drop o)->∃v,z[o]? =some v/\VR C ψ q v/\bB C ψ qs (z.toList.drop (o+1)):=by
      intro z q qs hq;generalize hz:z.toList.drop o=l at hq;cases hq with
      |cons _ v _ vs a b=>
       have e:z.toList[o]? =some v:=by
        have:=congrArg (λl:List Value=>l[0]?) hz;simpa using this
       refine⟨v,by rw[<-kb];exact e,a,?_⟩;have:=congrArg (List.drop 1) hz;rw[kd]at this;rw[this];exact b
     obtain⟨v,hv,rv,tv⟩:=Ja hx;obtain⟨u,hu,ru,tu⟩:=Ja hy;have p1:=KA (C:=C) w hs hv;have p2:=KA (C:=C) w hs hu;have p3:=Zq6 (d:=d+1) w hs rv ru h1;have p4:=RX (d:=d) xs ys w fs gB ds es (o+1) r2 hr tv tu h2;rw[<-ho]at p1 p2;simp only[Op.eqFields,hn,ne_eq,not_false_eq_true,lM,Sem.run_bind,p1,p2,p3,Result.andThen_ok];cases r1
     .simp
     .simpa using p4
  split at h
  .rename_i gs hu
   simp only[aW]at h;obtain⟨⟨⟨⟨hc,hle⟩,cc⟩,hg⟩,hr⟩:=h;have hc:=dy hc;have hle:=pH hle;have cc:C.P.stoodInHeld f.type=false:=by simpa using cc
   obtain⟨r1,r2,e1,e2,e3⟩:=Zpt gs.size bs ds es r he hle;have cX:Z9 C.P f.type=true:=by unfold Z9;rw[hu]
   have prt: ∀z:Array Value,(Go.part f.type z o).run C.P w= .ok (.agg (z.extract o (o+gs.size))) w:=λz=>by
    unfold Go.part;simp only[Sem.run_bind,Gs w hu,Result.andThen_ok,cX,lM,Z6 w hu,hc,Sem.run_pure]
   have sub: ∀ {z:Array Value} {qs:ah},bB C ψ qs (z.toList.drop o)->bB C ψ (qs.take gs.size) ((z.extract o (o+gs.size)).toList.drop 0):=by
    intro z qs hq;have:=hq.take gs.size;rw[dA,Array.toList_extract,Nu,show o+gs.size-o=gs.size by omega];exact this
   have rst: ∀ {z:Array Value} {qs:ah},bB C ψ qs (z.toList.drop o)->bB C ψ (qs.drop gs.size) (z.toList.drop (o+gs.size)):=by
    intro z qs hq;have:=hq.drop gs.size;rw[kd]at this;exact this
   have oi:C.P.fieldsOf f.type=gs:=by unfold Program.fieldsOf;rw[hu]
   have p3:(Op.equalIn (d+2) f.type (.agg (xs.extract o (o+gs.size))) (.agg (ys.extract o (o+gs.size)))).run C.P w= .ok r1 w:=by
    rw[run_equalIn_struct w (d+1) f.type _ _ (by rw[oi];exact hu) cc,oi];exact ZqW (d:=d) _ _ w gs.toList (bs.take gs.size) _ _ 0 r1 hg (sub hx) (sub hy) e1
   have p4:=RX (d:=d) xs ys w fs (bs.drop gs.size) _ _ (o+gs.size) r2 hr (rst hx) (rst hy) e2;have p1:=prt xs;have p2:=prt ys;rw[<-ho]at p1 p2 p3;simp only[Op.eqFields,hn,ne_eq,not_false_eq_true,lM,Sem.run_bind,p1,p2,p3,Result.andThen_ok];rw[e3];cases r1
   .simp
   .simpa using p4
  grind
theorem ZtI {bs:List B} (h:Ev P t bs=true):P.eqGuardType P.depth t=false:=by
 grind[Ev]
theorem ZvS {bs:List B} (h:Ev C.P t bs=true) {us:Array Value} {b:Bool} (w:World) (hx:bB C ψ xs vs.toList) (hy:bB C ψ ys us.toList) (he:mA bs xs ys=some b):
  (Op.equal t (.agg vs) (.agg us)).run C.P w= .ok b w:=by
 unfold Ev at h;split at h
 .rename_i fs hu
  simp only[aW]at h;have cc:C.P.stoodInHeld t=false:=by simpa using h.1.2
  unfold Op.equal;have oi:C.P.fieldsOf t=fs:=by grind[Program.fieldsOf]
  rw[show Op.maxDepth=9999+1 from rfl,run_equalIn_struct w 9999 t vs us (by rw[oi];exact hu) cc,oi];exact RX (d:=9997) vs us w fs.toList bs xs ys 0 b h.1.1 (by rw[dA];exact hx) (by rw[dA];exact hy) he
 .cases h
def IJ:List (Nat×List B)->Nat->List B
 |[],_=>[]
 |(k,v)::r,x=>bif Nat.beq k x then v else IJ r x
theorem Tb {P:Program} : ∀ {l:List (Nat×List B)},(l.all λx=>Ev P x.1 x.2)=true->∀t,IJ l t≠[]->Ev P t (IJ l t)=true
 |[],_,t,h=>absurd rfl h
 |(k,v)::r,hl,t,h=>by
  rw[uE,aW]at hl;simp only[IJ]at h⊢;cases hk:Nat.beq k t with
  |true=>rw[hk]at h;rw[<-dy hk];exact hl.1
  |false=>rw[hk]at h;exact Tb hl.2 t h
end
section
variable {C:bx} {o:Oper} {D W:du->Prop} {E:Env} {s:St} {md:Md} {pr ms:al}
theorem aC.int {ψ:Ps} {Q:Kn} {a:Act} {w:World} (p:aC C o D E s ψ Q a w) {x:Operand} (hx:x∈o.op.operands) {k:IntKind} {n:Int} (h:E.src C x= .v (.int k n)):a.eval x= .int k n:=by
 have:=p.val hx h;generalize a.eval x=v at this;cases this;rfl
theorem Qh {len:Nat} {K:Nat->Nat->M β} (h:GZ C E len lo hi K s=some r):
  ∃l u,K l u s=some r/\l<=u/\u<=len/\(lo=none->l=0)/\(hi=none->u=len)/\
   ∀ψ Q a w,aC C o D E s ψ Q a w->(∀x,lo=some x->x∈o.op.operands)->(∀x,hi=some x->x∈o.op.operands)->∀(b:Bool) (cap:Nat),len<=cap->(b=false->len=cap)->
    (Instr.sliceBounds b len cap (lo.map a.eval) (hi.map a.eval) none).run C.P w= .ok (l,u,cap) w:=by
 unfold GZ at h;have low: ∀u,(match lo with|none=>K 0 u|some x=>AU C E x λl=>aB (decide (0<=l)&&decide (l<=u)) (K l.toNat u)) s=some r->
   ∃l,K l u s=some r/\l<=u/\(lo=none->l=0)/\∀ψ Q a w,aC C o D E s ψ Q a w->(∀x,lo=some x->x∈o.op.operands)->
    (match lo.map a.eval with|some v=>Instr.sliceBound v u .sliceB|none=>pure 0:Sem Nat).run C.P w= .ok l w:=by
  intro u h;cases lo with
  |none=>exact⟨0,h,cE _,λ_=>rfl,λψ Q a w p _=>rfl⟩
  |some x=>
   obtain⟨k,n,hx,h⟩:=DQ h;obtain⟨hc,h⟩:=Z8 h;simp only[aW,xP]at hc;refine⟨n.toNat,h,by omega,λh=>(nomatch h),λψ Q a w p hm=>?_⟩;simp only[me,p.int (hm x rfl) hx];exact run_sliceBound _ k n u _ hc.1 hc.2
 cases hi with
 |none=>
  obtain⟨l,h,h1,h2,h3⟩:=low len h;refine⟨l,len,h,h1,aO _,h2,λ_=>rfl,λψ Q a w p hl _ b cap p8 hb=>?_⟩;have:=h3 ψ Q a w p hl;unfold Instr.sliceBounds;simp only[Option.map_none,Sem.run_bind,Sem.run_pure,Result.andThen_ok,Jq,tg,mg];cases om:lo.map a.eval with
  |none=>rw[om]at this;simp only[Sem.run_pure,Result.ok.injEq]at this⊢;simp[this.1]
  |some v=>rw[om]at this;simp only at this⊢;rw[Sem.run_bind,this];rfl
 |some y=>
  obtain⟨k,n,hy,h⟩:=DQ h;obtain⟨hc,h⟩:=Z8 h;simp only[aW,xP]at hc;obtain⟨l,h,h1,h2,h3⟩:=low n.toNat h;refine⟨l,n.toNat,h,h1,by omega,h2,λh=>(nomatch h),λψ Q a w p hl hh b cap p8 hb=>?_⟩;have:=h3 ψ Q a w p hl;have hs: ∀code,(Instr.sliceBound (.int k n) cap code).run C.P w= .ok n.toNat w:=λcode=>run_sliceBound _ k n cap code hc.1 (by omega)
  unfold Instr.sliceBounds;simp only[me,p.int (hh y rfl) hy,Sem.run_bind,Sem.run_pure,Result.andThen_ok,Jq,tg,mg,hs];cases om:lo.map a.eval with
  |none=>rw[om]at this;simp only[Sem.run_pure,Result.ok.injEq]at this⊢;simp[this.1]
  |some v=>rw[om]at this;simp only at this⊢;rw[Sem.run_bind,this];rfl
theorem Zsp (ho:o.op= .slice t y lo hi none):y∈o.op.operands/\(∀x,lo=some x->x∈o.op.operands)/\(∀x,hi=some x->x∈o.op.operands):=by
 rw[ho];grind[Op.operands]
theorem Zs1 {sz:Nat} {cap l u:Nat} {lo:Bool} (iE:ψ (.inl i)=some cb) (hb:0<cap->base=⟨cb.b,cb.o+off,none⟩/\off+cap*sz<=cb.m)
  (h1:l<=u) (h2:u<=n) (h3:n<=cap) (om:lo=false->l=0):
  VR C ψ (.slice sz (dj lo (some (i,off)) (l*sz)) (Hp lo l u)) (.slice (some (if cap=l then base else base.add (l*sz))) (u-l) (cap-l)):=by
 have e:dj lo (some (i,off)) (l*sz)=some (i,off+l*sz):=by
  grind[dj,tk]
 have e2:Hp lo l u=u-l:=by
  grind[Hp]
 rw[e,e2];refine .slice sz i _ _ cb _ _ iE (by omega) (λhc=>?_);obtain⟨h4,h5⟩:=hb (by omega);rw[ba (by omega),h4,zK];refine⟨by rw[tj],?_⟩;have:off+l*sz+(cap-l)*sz=off+cap*sz:=by rw[tj,<-uK];congr 2;omega
 omega
theorem Zsy (ho:o.op= .slice t y lo hi none) (bq: ∀h,W h->D h) (TW:(∃m e,C.P.underlying t=some (.array m e))->∀i,D (.inl i)) (h:SE C E o K t y lo hi s=some r):bV C md pr ms o D W E s K r:=by
 obtain⟨my,MX,MW⟩:=Zsp ho;unfold SE at h;cases ht:C.P.underlying t with
 |none=>rw[ht]at h;cases h
 |some td=>
  rw[ht]at h;cases td with
  |string=>
   simp only at h;obtain⟨d,hd,h⟩:=Zs h;cases d with
   |str x=>
    simp only at h;obtain⟨l,u,h,h1,h2,h3,h4,hr⟩:=Qh (o:=o) (D:=D) h;refine bV.val bq _ h λψ Q a w p=>?_
    have hv:=p.val my hd;generalize hy:a.eval y=v at hv;cases hv with
    |str x=>
     have hlen:x.data.toList.length=x.size:=by rw[nI];rfl
     have lX:=hr ψ Q a w p MX MW false x.size (by omega) (λ_=>hlen);rw[hlen]at lX;refine⟨.string (x.extract l u),w,?_,.refl w,?_⟩
     .simp only[execOp,ho,hy,Instr.sliceAt,Sem.run_bind,Zl w ht,Result.andThen_ok,Instr.slice,Option.map_none,Jq,tg,mg,Sem.run_pure,lX]
     .have e:Eo lo.isSome hi.isSome x.data.toList l u=(x.extract l u).data.toList:=by
       rw[ByteArray.data_extract,Array.toList_extract,Nu];have e2:(x.data.toList.take u).drop l=(x.data.toList.drop l).take (u-l):=by rw[Dd]
       cases lo with
       |none=>
        have:=h3 rfl;subst this;cases hi with
        |none=>
         have:=h4 rfl;subst this;simp only[Eo,Jq,af];rw[dA,Nat.sub_zero,dH (aO _)]
        |some _=>simp[Eo]
       |some _=>
        cases hi with
        |none=>
         have:=h4 rfl;subst this;simp only[Eo,Option.isSome_some,Jq,ae,af];rw[dH (by simp)]
        |some _=>simp only[Eo,Option.isSome_some,ae];exact e2
      rw[e];exact .str _
   |_=>cases h
  |slice e=>
   simp only at h;obtain⟨ed,he,h⟩:=oI h;obtain⟨d,hd,h⟩:=Zs h;cases d with
   |slice z a n=>
    simp only at h;obtain⟨hz,h⟩:=Zp h;obtain⟨l,u,h,h1,h2,h3,h4,hr⟩:=Qh (o:=o) (D:=D) h;refine bV.val bq _ h λψ Q A w p=>?_
    have hv:=p.val my hd;generalize hy:A.eval y=v at hv;cases hv with
    |rV=>
     have lX:=hr ψ Q A w p MX MW true 0 (aO _) (λh=>nomatch h);have:l=0:=by omega
     subst this;have:u=0:=by omega
     subst this;refine⟨.slice none 0 0,w,?_,.refl w,?_⟩
     .simp[execOp,ho,hy,Instr.sliceAt,Instr.slice,Zl w ht,lX,Z6 w he]
     .cases lo<;>exact .rV _
    |slice _ i off _ cb base cap iE p8 hb=>
     simp only[Option.isNone_some,Bool.or_false]at hz;have hz:=dy hz;subst hz;have lX:=hr ψ Q A w p MX MW true cap p8 (λh=>nomatch h);refine⟨_,w,?_,.refl w,Zs1 iE hb h1 h2 p8 (λhl=>h3 (by cases lo<;>first|rfl|cases hl))⟩;simp only[execOp,ho,hy,Instr.sliceAt,Instr.slice,Sem.run_bind,Zl w ht,Result.andThen_ok,Option.map_none,lX,Z6 w he,Sem.run_pure,me];by_cases cL:cap=l<;>simp[cL]
   |_=>cases h
  |array m e=>
   simp only at h;obtain⟨ed,he,h⟩:=oI h;obtain⟨d,hd,h⟩:=Zs h;cases d with
   |ptr a=>
    simp only at h;obtain⟨i,off,ha,h'⟩:=SC h;clear h;subst ha;obtain⟨f,cs,cc,hle,h⟩:=GA h';obtain⟨l,u,h,h1,h2,h3,h4,hr⟩:=Qh (o:=o) (D:=D) h;refine bV.val bq _ h λψ Q A w p=>?_
    have hv:=p.val my hd;generalize hy:A.eval y=v at hv;cases hv with
    |ptr _ _ cb iE=>
     have hh:=(p.at (TW ⟨m,e,ht⟩ i) cc iE).1;have lX:=hr ψ Q A w p MX MW false m (aO _) (λ_=>rfl);refine⟨_,w,?_,.refl w,Zs1 (cap:=m) (base:=⟨cb.b,cb.o+off,none⟩) iE (by grind) h1 h2 (aO _) (λhl=>h3 (by cases lo<;>first|rfl|cases hl))⟩;simp only[execOp,ho,hy,Instr.sliceAt,Sem.run_bind,Zl w ht,Result.andThen_ok,uP,Option.map_none,lX,Z6 w he,Sem.run_pure]
   |_=>cases h
  |_=>cases h
theorem ZsC (ho:o.op= .range t y) (bq: ∀h,W h->D h) (h:SI C E o K t y s=some r):bV C md pr ms o D W E s K r:=by
 unfold SI at h;cases ht:C.P.underlying t with
 |none=>rw[ht]at h;cases h
 |some td=>
  rw[ht]at h;cases td with
  |string=>
   simp only at h;obtain⟨d,hd,h⟩:=Zs h;cases vo:o.dst with
   |none=>rw[vo]at h;cases d<;>cases h
   |some u=>
    rw[vo]at h;cases d with
    |str l=>
     simp only at h;refine bV.Yz (by grind[Spec]) bq u vo _ _ (.inr ⟨l,0,rfl,rfl⟩) h λψ Q a w p=>?_
     have hv:=p.val (x:=y) (by simp[Op.operands,ho]) hd;generalize hy:a.eval y=v at hv;cases hv with
     |str x=>
      refine⟨w.alloc (.stringIter x 0),⟨w.heap.size,0,0⟩,?_,.alloc w _,aO _,by simp,rfl,x,heap_alloc_new w _,rfl⟩;simp[execOp,ho,hy,Instr.range,Zl w ht]
    |_=>cases h
  |_=>cases h
theorem Zwx (s:ByteArray) (i:Nat):s.get! i=s.data.toList.getD i 0:=by
 show s.data[i]! =_;rw[Array.getElem!_eq_getD,dZ,qG];simp;rfl
theorem zW (s:ByteArray) (i:Nat):dec s.data.toList i=Utf8.decode s i:=by
 have hl:s.data.toList.length=s.size:=by rw[nI];rfl
 simp[dec,Utf8.decode,Zwx,hl]
theorem Zmj {b:Nat} {x:ByteArray} (h:w.heap[b]? =some (.stringIter x p)):(getObj b).run P w= .ok (.stringIter x p) w:=by
 simp[getObj,Sem.run,h]
theorem Zsd {b:Nat} {x y:ByteArray} {q:Nat} (h:w.heap[b]? =some (.stringIter x p)):(setObj b (.stringIter y q)).run P w= .ok () (lf w b (.stringIter y q)):=by
 simp only[setObj,Sem.run,h];rfl
theorem ZtS {t:Nat} (ho:o.op= .next (.tmp t) true) (bq: ∀h,W h->D h) (hW: ∀v,(E.get t).cS=some v->W (.inr v)) (h:Te E o K ms t s=some r):bV C md pr ms o D W E s K r:=by
 unfold Te at h;cases hl:E.get t with
 |it v l pos=>
  rw[hl]at h;cases vo:o.dst with
  |none=>rw[vo]at h;cases h
  |some d=>
   rw[vo]at h;simp only at h;obtain⟨hc,h⟩:=Gi h;rw[Bh]at hc;have hWv:=hW v (by rw[hl];rfl);have at_: ∀ψ Q a w,aC C o D E s ψ Q a w->∃cb x,ψ (.inr v)=some cb/\a.eval (.tmp t)= .pointer (some ⟨cb.b,0,none⟩)/\Q (.inr v) (.iter l pos)/\w.heap[cb.b]? =some (.stringIter x pos)/\x.data.toList=l:=by
    intro ψ Q a w p;have:=p.args t (by simp[Op.operands,ho]);rw[hl]at this;obtain⟨cb,e1,e2⟩:=this;have hq:=p.jz (.inr v) (.iter l pos) cb (bq _ hWv) (.inr ⟨t,l,pos,hl,rfl⟩) e1;obtain⟨x,h1,h2⟩:=p.eG.holds _ cb _ e1 hq;exact⟨cb,x,e1,e2,hq,h1,h2⟩
   cases hb:Nat.blt pos l.length with
   |false=>
    rw[hb]at h;simp only[af]at h;refine bV.pure bq (.pC [.bool false]) rfl (λ_ _ _ _ e=>nomatch e) (by rw[vo];exact h) λψ Q a w p=>?_
    obtain⟨cb,x,e1,e2,hq,h1,h2⟩:=at_ ψ Q a w p;have hlen: ¬pos<x.size:=by
     have:x.data.toList.length=x.size:=by rw[nI];rfl
     rw[<-this,h2];intro ax;have:Nat.blt pos l.length=true:=by rw[pG];exact ax
     rw[hb]at this;cases this
    refine⟨.tuple #[.bool false],w,?_,.refl w,_,rfl,.cons _ _ _ _ (.bool _) .nil⟩;simp only[execOp,ho,e2,Instr.next,Sem.run_bind,Zmj h1,Result.andThen_ok,hlen,mg,Sem.run_pure]
   |true=>
    rw[hb]at h;simp only[ae]at h;have ax:pos<l.length:=by rw[pG]at hb;exact hb
    have get: ∀k,((E.put t (.it v l (pos+uy l pos))).put d (.pC [.bool true,.int .i64 pos,.int .i32 (BX l pos)])).get k=
      if d=k then .pC [.bool true,.int .i64 pos,.int .i32 (BX l pos)]else if t=k then .it v l (pos+uy l pos)else E.get k:=λk=>by rw[Env.rj,Env.rj]
    have uniq:iY E->∀q,(E.get q).cS=some v->q=t:=λhE q hq=>hE.uniq q t v hq (by rw[hl];rfl)
    refine .inl ⟨_,_,h,⟨aO _,aO _,λhE=>⟨?_,?_,?_,?_⟩,?_,(λk d' _ h'=>by
     rw[get]at h';grind),?_,?_,?_,?_,λ_ _ _=>rfl,.inr (by unfold Spec;rw[ho];trivial),.inl rfl⟩,?_⟩
    .intro k v' h'
     rw[get]at h';split at h'
     .cases h'
     .split at h'
      .cases h';exact hE.lt t v (by rw[hl];rfl)
      .exact hE.lt k v' h'
    .intro k a b c h'
     rw[get]at h';split at h'
     .cases h'
     .split at h'
      .cases h'
      .exact hE.pl k a b c h'
    .intro k a b c h'
     rw[get]at h';split at h'
     .cases h'
     .split at h'
      .cases h'
      .exact hE.len k a b c h'
    .intro k k' v' h' yr
     rw[get]at h' yr;split at h'
     .cases h'
     .split at yr
      .cases yr
      .split at h'<;>split at yr
       .omega
       .cases h';grind
       .cases yr;grind
       .exact hE.uniq k k' v' h' yr
    .grind
    .intro k hk C' ψ x hr
     rw[get,ba (λe=>hk (by rw[vo,e]))];split
     .rename_i e;subst e;rw[hl]at hr;exact hr
     .exact hr
    .intro h' ab c
     cases h' with
     |inl i=>exact .inr (.inr c)
     |inr k=>
      rcases c with⟨q,n',cs',hq,fL⟩|⟨q,l',p,hq,fL⟩
      .rw[get]at hq
       split at hq
       .cases hq
       .split at hq
        .cases hq
        .exact .inr (.inr (.inl ⟨q,n',cs',hq,fL⟩))
      .rw[get]at hq
       split at hq
       .cases hq
       .split at hq
        .grind
        .exact .inr (.inr (.inr ⟨q,l',p,hq,fL⟩))
    .grind
    .grind
    .intro ψ Q a w next QQ p room hn
     obtain⟨cb,x,e1,e2,hq,h1,h2⟩:=at_ ψ Q a w p;have hx:x.data.toList.length=x.size:=by rw[nI];rfl
     have uj:pos<x.size:=by rw[<-hx,h2];exact ax
     have db:=zp.lf w cb.b (.stringIter x (pos+uy l pos));have hr:(execOp a.eval o).run C.P w= .ok (.value (.tuple #[.bool true,.int .i64 pos,.int .i32 (BX l pos)])) (lf w cb.b (.stringIter x (pos+uy l pos))):=by
      have hd:=zW x pos;rw[h2]at hd;simp only[execOp,ho,e2,Instr.next,Sem.run_bind,Zmj h1,Result.andThen_ok,uj,lM,<-hd,Zsd h1,Sem.run_pure];rfl
     unfold Oper.wp;rw[hr];refine hn ψ (xK Q (.inr v) (.iter l (pos+uy l pos))) _ _ ⟨eX.set p.eG e1 hq rfl db.other ⟨x,Kb (GC h1) _,h2⟩,Ext.set e1 hq rfl db.other db.size db.tape db.os db.output,
      λ_ _ e=> .inl e,λh' ab c cr hw e'=>?_,λh' ab c e' q nw _=>?_⟩ (λd' oe=>?_)
     .have fh:(h'= .inr v/\ab= .iter l (pos+uy l pos))\/(h'≠ .inr v/\CR E s h' ab):=by
       cases h' with
       |inl i=>exact .inr ⟨by simp,cr⟩
       |inr k=>
        rcases cr with⟨q,n',cs',hq,fL⟩|⟨q,l',p',hq,fL⟩
        .rw[get]at hq
         split at hq
         .cases hq
         .split at hq
          .cases hq
          .rename_i H9
           refine .inr ⟨λe=>?_,.inl ⟨q,n',cs',hq,fL⟩⟩;cases e;exact H9 (uniq p.gD q (by rw[hq];rfl)).symm
        .rw[get]at hq
         split at hq
         .cases hq
         .split at hq
          .grind
          .rename_i H9
           refine .inr ⟨λe=>?_,.inr ⟨q,l',p',hq,fL⟩⟩;cases e;exact H9 (uniq p.gD q (by rw[hq];rfl)).symm
      rcases fh with⟨rfl,rfl⟩|⟨ad6,cr⟩
      .exact .inl ⟨rfl,rfl⟩
      .refine .inr ⟨ad6,?_⟩
       rcases hw with hw|⟨n1,n2⟩
       .exact p.jz h' ab c (bq h' hw) cr e'
       .exact absurd (cr.pX p.gD) n1
     .exact .inr (by grind)
     .rw[vo]at oe;cases oe
      rw[get,bG rfl];exact⟨_,rfl,.cons _ _ _ _ (.bool _) (.cons _ _ _ _ (.int _ _) (.cons _ _ _ _ (.int _ _) .nil))⟩
 |_=>rw[hl]at h;cases h
theorem ZkU (h1:P.underlying P.rt.typeAssertionError=some (.pointer e)) (_h2:P.underlying e=some d) (i c:Option TypeId) (a:TypeId) (m:String) (w:World):
  ∃t v o,(runtimePanic (.typeAssertion i c a m):Sem Value).run P w= .halt (.panic (.iface t v)) (w.alloc o):=by
 simp only[runtimePanic,Sem.run_bind,run_program,Result.andThen_ok,elemOf,Zl w h1,Sem.run_pure,Q9,run_goPanic];grind
theorem wm.more (dJ: ∀ψ Q a w,aC C o D E s ψ Q a w->∃t v w',(execOp a.eval o).run C.P w= .halt (.panic (.iface t v)) w'/\gL w w') (hD: ∀i,D (.inl i)):wm C o D E s s:=by
 refine⟨aO _,λψ Q a w next QQ p _ hn=>?_⟩;obtain⟨t,v,w',hr,hm⟩:=dJ ψ Q a w p;unfold Oper.wp;rw[hr];exact hn ψ Q _ w' ⟨t,v,rfl⟩ (p.eG.more p.gm hm) (Ext.more hm) (λ_ _ e=> .inl e) λi ab cb h e=>p.jz (.inl i) ab cb (hD i) h e
theorem Rk (h:IV md s=some r):md.x=0/\r=(.eV,s):=by
 unfold IV at h;obtain⟨h1,h⟩:=Zp h;refine⟨dy h1,?_⟩;grind[yg,fQ]
theorem ZqS (hc:nJ C) (ho:o.op= .typeAssert y xt t false) (bq: ∀h,W h->D h) (hD: ∀i,D (.inl i)) (h:RU C E o K md t y s=some r):bV C md pr ms o D W E s K r:=by
 unfold RU at h;cases ht:C.P.underlying t with
 |none=>rw[ht]at h;cases h
 |some td=>
  have H5: ∀m,td≠ .interface m:=by rintro m rfl;rw[ht]at h;cases h
  have h':fa C E y (λd=>Go.Gv.tQ (IV md) d (C.ty t) λd=>ym (l8 C.P t) d (cn E o K)) s=some r:=by rw[ht]at h;cases td<;>first|exact h|grind
  obtain⟨d,hd,h'⟩:=Zs h';have Xe: ∀(a:Act) (w:World),(a.eval y= .nilIface\/∃t' v,a.eval y= .iface t' v/\t'≠t)->∃t v w',(execOp a.eval o).run C.P w= .halt (.panic (.iface t v)) w'/\gL w w':=by
   intro a w hy;obtain⟨e,ed,e1,e2⟩:=hc.tae;rcases hy with hy|⟨t',v,hy,dI⟩
   .obtain⟨tv,v,ob,hv⟩:=ZkU e1 e2 (some xt) none t "" w
    refine⟨tv,v,_,?_,.alloc w ob⟩;simp only[execOp,ho,hy,Instr.typeAssert,Sem.run_bind,Zl w ht,Result.andThen_ok];cases td<;>first|(simp only[tg,mg,hv,Result.andThen_halt];done)|exact absurd rfl (H5 _)
   .obtain⟨tv,v,ob,hv⟩:=ZkU e1 e2 (some xt) (some t') t "" w
    refine⟨tv,v,_,?_,.alloc w ob⟩;simp only[execOp,ho,hy,Instr.typeAssert,Sem.run_bind,Zl w ht,Result.andThen_ok];cases td<;>first|(simp only[ba dI,tg,mg,hv,Result.andThen_halt];done)|exact absurd rfl (H5 _)
  cases d with
  |iface t' d=>
   simp only[Go.Gv.tQ]at h';cases hb:Nat.beq t' (C.ty t)with
   |true=>
    rw[hb]at h';simp only[ae]at h';obtain⟨d',h',hr,_⟩:=KT h';refine bV.val bq _ h' λψ Q a w p=>?_
    have hv:=p.val (x:=y) (by simp[Op.operands,ho]) hd;generalize hy:a.eval y=v at hv;cases hv with
    |iface t0 _ v hv=>
     have:=hc.ty _ _ (dy hb);subst this;refine⟨v,w,?_,.refl w,hr C ψ v hv⟩;simp only[execOp,ho,hy,Instr.typeAssert,Sem.run_bind,Zl w ht,Result.andThen_ok];cases td<;>first|(simp;done)|exact absurd rfl (H5 _)
   |false=>
    rw[hb]at h';obtain⟨hx,rfl⟩:=Rk h';refine .inr ⟨hx,s,rfl,wm.more (λψ Q a w p=>Xe a w (.inr ?_)) hD⟩;have hv:=p.val (x:=y) (by simp[Op.operands,ho]) hd;generalize hy:a.eval y=v at hv;cases hv with
    |iface t0 _ v hv=>exact⟨t0,v,rfl,λe=>by subst e;rw[Dl]at hb;cases hb⟩
  |nilIface=>
   obtain⟨hx,rfl⟩:=Rk h';refine .inr ⟨hx,s,rfl,wm.more (λψ Q a w p=>Xe a w (.inl ?_)) hD⟩;have hv:=p.val (x:=y) (by simp[Op.operands,ho]) hd;generalize hy:a.eval y=v at hv;cases hv;rfl
  |_=>cases h'
theorem Zsj (ho:o.op= .panic y) (hD: ∀i,D (.inl i)) (h:SR C E md y s=some r):bV C md pr ms o D W E s K r:=by
 unfold SR at h;obtain⟨d,hd,h⟩:=Zs h;cases d with
 |iface t d=>
  obtain⟨hx,rfl⟩:=Rk h;refine .inr ⟨hx,s,rfl,wm.more (λψ Q a w p=>?_) hD⟩;have hv:=p.val (x:=y) (by simp[Op.operands,ho]) hd;generalize hy:a.eval y=v at hv;cases hv with
  |iface t0 _ v hv=>exact⟨t0,v,w,by simp only[execOp,ho,hy,Instr.panic,Sem.run_bind,run_goPanic,Result.andThen_halt],.refl w⟩
 |_=>cases h
end
section
variable {C:bx} {o:Oper} {D W:du->Prop} {E:Env} {s:St} {md:Md} {pr ms:al}
theorem ZsZ: ∀(l:List Value) (k off:Nat) (c:Array Value),(l.zipIdx k).foldl (λcs (x:Value×Nat)=>cs.setIfInBounds (off+x.2) x.1) c=pw c (off+k) l
 |[],_,_,_=>rfl
 |v::l,k,off,c=>by
  simp only[List.zipIdx_cons,Df,pw];rw[ZsZ l (k+1) off];rfl
theorem ZvB (place:Nat->ai) (cells:Array Value) (i:Nat) (v:Value) (rest:List (Nat×Value)) {size:Nat} (hp:place i=some (off,size)) (h1:v.cells.size=size) (h2:off+size<=cells.size):
  Instr.fill place cells ((i,v)::rest)=Instr.fill place (pw cells off v.cells.toList) rest:=by
 subst h1;have e:v.cells.zipIdx.foldl (λcs (x:Value×Nat)=>cs.setIfInBounds (off+x.2) x.1) cells=pw cells off v.cells.toList:=by
  rw[<-Array.foldl_toList,Array.toList_zipIdx];exact ZsZ v.cells.toList 0 off cells
 have hn: ¬(off+v.cells.size>cells.size):=by omega
 simp only[Instr.fill,hp,ne_eq,not_true_eq_false,decide_false,zd,hn,tg,mg];grind
theorem bB.xy (h:bB C ψ ds vs.toList):ds.length=vs.size:=by have:=h.len;simpa using this
theorem Zxl {us:List Value} (h:bB C ψ cs vs.toList) (h':bB C ψ ds us) (hl:off+ds.length<=cs.length):bB C ψ (cq cs off ds) (pw vs off us).toList:=by
 have e1:=h.xy;have e2:=h'.len;refine bB.of _ _ (by simp[Gx,e1]) λj d v hd hv=>?_
 rw[G5 cs off ds j hl]at hd;rw[kb,KW _ _ _ _ (by omega)]at hv;split at hd
 .rw[bG (by omega)]at hv
  obtain⟨v',eD,hr⟩:=h'.get hd;rw[hv]at eD;cases eD;exact hr
 .rw[ba (by omega)]at hv
  obtain⟨v',eD,hr⟩:=h.get hd;rw[kb,hv]at eD;cases eD;exact hr
theorem QP {N:Nat} {place:Nat->ai} {r:Out β×St} : ∀ {l:List (Nat×Operand)} {cs:ah} {K:ah->M β},AV E C N place l cs K s=some r->cs.length=N->
  ∃cs',K cs' s=some r/\cs'.length=N/\∀ψ Q a w,aC C o D E s ψ Q a w->(∀x∈l,x.2∈o.op.operands)->∀vs:Array Value,bB C ψ cs vs.toList->cs.all one=true->
   ∃iI,Instr.fill place vs (l.map λx=>(x.1,a.eval x.2))=some iI/\bB C ψ cs' iI.toList/\cs'.all one=true
 |[],cs,K,h,hl=>⟨cs,h,hl,λψ Q a w _ _ vs hr h1=>⟨vs,rfl,hr,h1⟩⟩
 |(i,x)::l,cs,K,h,hl=>by
  simp only[AV]at h;cases hp:place i with
  |none=>rw[hp]at h;cases h
  |some on=>
   obtain⟨off,n⟩:=on;rw[hp]at h;simp only at h;obtain⟨hb,h⟩:=Zp h;have hb:=pH hb;obtain⟨d,hd,h⟩:=Zs h;have go: ∀ds,AV E C N place l (cq cs off ds) K s=some r->ds.length=n->(∀(ψ:Ps) v,VR C ψ d v->bB C ψ ds v.cells.toList/\ds.all one=true)->
     ∃cs',K cs' s=some r/\cs'.length=N/\∀ψ Q a w,aC C o D E s ψ Q a w->(∀y∈(i,x)::l,y.2∈o.op.operands)->∀vs:Array Value,bB C ψ cs vs.toList->cs.all one=true->
      ∃iI,Instr.fill place vs (((i,x)::l).map λx=>(x.1,a.eval x.2))=some iI/\bB C ψ cs' iI.toList/\cs'.all one=true:=by
    intro ds h kV hr;obtain⟨cs',h,hl',xk⟩:=QP h (by rw[Gx];exact hl);refine⟨cs',h,hl',λψ Q a w p hm vs hv h1=>?_⟩;obtain⟨h3,h4⟩:=hr ψ _ (p.val (hm (i,x) (by simp)) hd);have cw:(a.eval x).cells.size=n:=by rw[<-kV,h3.xy]
    have xr:=hv.xy;obtain⟨iI,e1,e2,e3⟩:=xk ψ Q a w p (by grind) _ (Zxl (off:=off) hv h3 (by omega)) (ZsR h1 h4 (by omega));refine⟨iI,?_,e2,e3⟩;rw[pF,ZvB place vs i _ _ hp cw (by omega)];exact e1
   have plain:(∀cs,d≠ .agg cs)->(bif Nat.beq n 1 then aB (one d) (AV E C N place l (cq cs off [d]) K)else fail) s=some r->_:=λhna h=>by
    obtain⟨h1,h⟩:=Zp h;obtain⟨h2,h⟩:=Z8 h;exact go [d] h (by simpa using (dy h1).symm) (λψ v hv=>by rw[hv.W7 h2];exact⟨.cons _ _ _ _ hv .nil,by simp[h2]⟩)
   cases d with
   |agg ds=>
    simp only at h;obtain⟨h1,h⟩:=RP h;rw[Sw hl h1 hb]at h;exact go ds h h1 (λψ v hv=>by cases hv with|agg _ vs a b=>exact⟨a,b⟩)
   |_=>exact plain (by simp) h
theorem ZkH {P:Program} : ∀(fs:List Field),(fs.all λf=>(P.info? f.type).isSome)=true->fs.mapM (λf=>(P.info? f.type).map λi=>(f.offset,i.size))=some (fs.map λf=>(f.offset,P.cellsOf f.type))
 |[],_=>rfl
 |f::fs,h=>by
  simp only[uE,aW]at h;obtain⟨i,hi⟩:=Option.isSome_iff_exists.1 h.1;simp[List.mapM_cons,hi,ZkH fs h.2,Program.cellsOf]
theorem ZsL (ho:o.op= .build t ps) (bq: ∀h,W h->D h) (h:Sx C E o K t ps s=some r):bV C md pr ms o D W E s K r:=by
 unfold Sx at h;cases hz:mn C.P t with
 |none=>rw[hz]at h;cases h
 |some z=>
  rw[hz]at h;simp only at h;obtain⟨kW,h⟩:=Zp h;obtain⟨cs',h,hl,hr⟩:=QP (o:=o) (D:=D) h rfl;refine bV.val bq _ h λψ Q a w p=>?_
  unfold mn at hz;cases hi:C.P.info? t with
  |none=>rw[hi]at hz;cases hz
  |some it=>
   rw[hi]at hz;simp only at hz;cases uq:it.zero with
   |none=>rw[uq]at hz;cases hz
   |some zv=>
    rw[uq]at hz;obtain⟨hU,gy⟩:=DU (C:=C) (ψ:=ψ) hz;obtain⟨iI,e1,e2,e3⟩:=hr ψ Q a w p (λx hx=>by simp only[Op.operands,ho,List.mem_toArray,xO];exact⟨x,hx,rfl⟩) _ hU gy;refine⟨.agg iI,w,?_,.refl w,.agg _ _ e2 e3⟩;have hb:C.P.built t (ps.map λ(i,x)=>(i,a.eval x)).toList=some iI:=by
     have wR:Instr.fill (Sr C.P t) zv.cells (ps.map λ(i,x)=>(i,a.eval x)).toList=some iI:=by rw[Array.toList_map];exact e1
     unfold Program.built Zqx at*
     unfold Sr at wR;cases hu:C.P.underlying t with
     |none=>rw[hu]at kW;cases kW
     |some td=>
      rw[hu]at kW wR;rw[hi];cases td with
      |struct fs=>
       simp only at kW⊢;rw[uq,ZkH _ kW];grind
      |array m e=>
       simp only at kW⊢;obtain⟨ie,xe⟩:=Option.isSome_iff_exists.1 kW;rw[uq,xe];simp only at wR⊢;rw[<-wR];simp[Program.cellsOf,xe]
      |_=>cases kW
    simp only[execOp,ho,Sem.run_bind,run_build w t _ _ hb,Result.andThen_ok,Sem.run_pure]
theorem DY (n:Nat) (z:ah):(hZ n z).length=n*z.length:=by
 induction n with
 |zero=>simp[hZ]
 |succ n ih=>
  have:hZ (n+1) z=z++hZ n z:=by rfl
  rw[this,bA,ih,Dp,tk]
theorem D9 (h:z.all one=true):(hZ n z).all one=true:=by
 induction n with
 |zero=>rfl
 |succ n ih=>
  have:hZ (n+1) z=z++hZ n z:=by rfl
  rw[this,sa,h,ih];rfl
theorem ZwX (n:Nat) (z:ah) (j:Nat) (h:j<n*z.length):(hZ n z)[j]? =z[j%z.length]? :=by
 induction n generalizing j with
 |zero=>simp at h
 |succ n ih=>
  have e:hZ (n+1) z=z++hZ n z:=by rfl
  rw[e];by_cases hj:j<z.length
  .rw[oz hj,Nat.mod_eq_of_lt hj]
  .rw[mb (by omega),ih (j-z.length) (by rw[Dp]at h;omega)]
   rw[show j%z.length=(j-z.length)%z.length from by rw[Nat.mod_eq_sub_mod (by omega)]]
theorem R9 (h:bB C ψ z zv.toList) (n m:Nat) (hm:n*z.length<=m):bB C ψ (hZ n z) ((madeCells zv m).toList.take (hZ n z).length):=by
 have hl:=h.xy;refine bB.of _ _ (by grind[size_madeCells,DY]) λj d v hd hv=>?_
 rw[DY]at hv;rw[wa]at hv;split at hv
 .rename_i hj
  rw[ZwX n z j hj]at hd;obtain⟨v',eD,hr⟩:=h.get hd;rw[kb]at hv eD;grind[madeCells]
 .cases hv
theorem ZmT {len:Nat} (ho:o.op= .buildSlice t len ps) (bq: ∀h,W h->D h) (h:PQ C E o K t len ps s=some r):bV C md pr ms o D W E s K r:=by
 unfold PQ at h;unfold wB at h;cases ht:C.P.underlying t with
 |none=>rw[ht]at h;cases h
 |some td=>
  rw[ht]at h;cases td with
  |slice e=>
   simp only at h;cases hz:mn C.P e with
   |none=>rw[hz]at h;cases h
   |some z=>
    rw[hz]at h;simp only at h;obtain⟨hb,h⟩:=Zp h;rw[aW]at hb;have mD:=pH hb.1;have cU:=dy hb.2;obtain⟨cs',h,hl,hr⟩:=QP (o:=o) (D:=D) h (by rw[DY,cU]);refine bV.IM (by unfold sf;rw[ho];trivial) bq (.slice (C.P.cellsOf e) (some (s.length,0)) len) cs' h λψ Q a w p=>?_
    obtain⟨zv,IC,Fs,hU⟩:=Rc (P:=C.P) w hz;have Fs:=Fs C ψ;have xe: ∃ie,C.P.info? e=some ie/\ie.size=C.P.cellsOf e:=by
     unfold mn at hz;cases hi:C.P.info? e with
     |none=>rw[hi]at hz;cases hz
     |some ie=>exact⟨ie,rfl,by simp[Program.cellsOf,hi]⟩
    obtain⟨ie,xe,XK⟩:=xe;have H2:=R9 Fs len (len*C.P.cellsOf e) (by rw[cU];exact aO _);rw[DY,cU,GM (by simp[size_madeCells])]at H2;obtain⟨iI,e1,e2,e3⟩:=hr ψ Q a w p (λx hx=>by simp only[Op.operands,ho,List.mem_toArray,xO];exact⟨x,hx,rfl⟩) _ H2 (D9 hU);have xr:=e2.xy;rw[hl]at xr;refine⟨.slice (some ⟨w.heap.size,0,none⟩) len len,w.alloc (.cells iI e),⟨w.heap.size,0,iI.size⟩,?_,.alloc w _,aO _,by simp,DI (by rw[GM (by simp[hl,xr])];exact e2) e3,λψ' _ vI=>?_⟩
    .have hn: ¬(len*C.P.cellsOf e>2^24):=by omega
     by_cases h0:len*C.P.cellsOf e=0
     .have e0:madeCells zv.cells (len*C.P.cellsOf e)= #[]:=by rw[h0];simp[madeCells,Array.range_zero']
      rw[e0]at e1;simp only[execOp,ho,Instr.buildSlice,Sem.run_bind,Zl w ht,Result.andThen_ok,sizeOf,typeInfo,run_program,xe,Sem.run_pure,XK,h0,lM,Array.range_zero',Array.map_empty];simp[e1,newRow]
     .simp only[execOp,ho,Instr.buildSlice,Sem.run_bind,Zl w ht,Result.andThen_ok,sizeOf,typeInfo,run_program,xe,Sem.run_pure,XK,hn,mg,h0,IC]
      unfold madeCells at e1;simp[e1,newRow]
    .have:=VR.slice (C:=C) (ψ:=ψ') (C.P.cellsOf e) s.length 0 len ⟨w.heap.size,0,iI.size⟩ ⟨w.heap.size,0,none⟩ len vI (aO _) (by grind)
     exact this
  |_=>cases h
theorem Zoa {l c:Operand} (ho:o.op= .makeSlice t l c) (bq: ∀h,W h->D h) (h:Qz C E o K t l c s=some r):bV C md pr ms o D W E s K r:=by
 unfold Qz wB at h;cases ht:C.P.underlying t with
 |none=>rw[ht]at h;cases h
 |some td=>
  rw[ht]at h;cases td with
  |slice e=>
   simp only at h;cases hz:mn C.P e with
   |none=>rw[hz]at h;cases h
   |some z=>
    rw[hz]at h;simp only at h;obtain⟨cU,h⟩:=Zp h;have cU:=dy cU;obtain⟨k1,n,hn,h⟩:=DQ h;obtain⟨k2,m,hm,h⟩:=DQ h;obtain⟨hb,h⟩:=Z8 h;simp only[aW,xP]at hb;obtain⟨⟨h0,h1⟩,h2⟩:=hb;refine bV.IM (by unfold sf;rw[ho];trivial) bq (.slice (C.P.cellsOf e) (some (s.length,0)) n.toNat) (hZ n.toNat z) h λψ Q a w p=>?_
    unfold mn at hz;cases hi:C.P.info? e with
    |none=>rw[hi]at hz;cases hz
    |some ie=>
     rw[hi]at hz;simp only at hz;cases uq:ie.zero with
     |none=>rw[uq]at hz;cases hz
     |some zv=>
      rw[uq]at hz;obtain⟨hU,gy⟩:=DU (C:=C) (ψ:=ψ) hz;have cw:ie.size=C.P.cellsOf e:=by simp[Program.cellsOf,hi]
      have adu:(ie.bytes:Int)*m<=281474976710656:=by
       unfold AW KR at h2;rw[hi]at h2;simp only at h2;have h3:m.toNat<=70368744177664/ie.bytes:=by omega
       rcases zi ie.bytes with hz|hp
       .rw[hz];simp
       .have:=(Nat.le_div_iff_mul_le hp).1 h3
        have e:m=(m.toNat:Int):=by omega
        rw[e,<-Int.natCast_mul,Bn];omega
      have LL:m<=9223372036854775807:=by
       unfold AW at h2;have:=Dm 70368744177664 (KR C.P e);omega
      have hr:=run_make (P:=C.P) w t e ie zv ht hi uq k1 k2 n m h0 h1 adu LL;have hle:n.toNat*C.P.cellsOf e<=m.toNat*ie.size:=by rw[cw];exact Dn _ (by omega)
      refine⟨.slice (some ⟨w.heap.size,0,none⟩) n.toNat m.toNat,w.alloc (.cells (madeCells zv.cells (m.toNat*ie.size)) e),⟨w.heap.size,0,(madeCells zv.cells (m.toNat*ie.size)).size⟩,?_,.alloc w _,aO _,by simp,DI (R9 hU n.toNat (m.toNat*ie.size) (by rw[cU];exact hle)) (D9 gy),λψ' _ vI=>?_⟩
      .have e1:=p.int (x:=l) (by simp[Op.operands,ho]) hn
       have e2:=p.int (x:=c) (by simp[Op.operands,ho]) hm;simp only[execOp,ho,e1,e2,Sem.run_bind,hr,Result.andThen_ok,Sem.run_pure]
      .exact VR.slice _ _ 0 _ _ _ _ vI (by omega) (λ_=>⟨rfl,by simp only[size_madeCells,cw];omega⟩)
  |_=>cases h
theorem ZvI {b:Builtin} (hq:q.callee= .builtin b) (hb:b= .len) (ho:o.op= .call q) (bq: ∀h,W h->D h) (h:VZ C E o K q.argTypes q.args s=some r):bV C md pr ms o D W E s K r:=by
 subst hb;unfold VZ at h;cases ha:q.args.toList with
 |nil=>rw[ha]at h;cases h
 |cons y rest=>
  cases rest with
  |cons _ _=>rw[ha]at h;cases h
  |nil=>
   cases ht:q.argTypes[0]? with
   |none=>rw[ha,ht]at h;cases h
   |some t=>
    rw[ha,ht]at h;simp only at h;have jV:q.args= #[y]:=by rw[<-Array.toArray_toList (xs:=q.args),ha]
    have mem:y∈o.op.operands:=by rw[ho];simp[Op.operands,Call.operands,hq,jV]
    have run: ∀(a:Act) (w:World) v,(Builtin.len_ q.argTypes o.type #[a.eval y]).run C.P w= .ok v w->(execOp a.eval o).run C.P w= .ok (.value v) w:=by
     intro a w v hv;simp[execOp,ho,resolve,hq,invoke,builtin,jV,hv]
    cases hu:C.P.underlying t with
    |none=>rw[hu]at h;cases h
    |some td=>
     rw[hu]at h;cases td with
     |array m e=>
      refine bV.val bq _ h λψ Q a w p=>⟨.int .i64 m,w,run a w _ ?_,.refl w,.int _ _⟩
      simp[Builtin.len_,ht,Zl w hu,goInt]
     |string=>
      simp only at h;obtain⟨d,hd,h⟩:=Zs h;cases d with
      |str l=>
       refine bV.val bq _ h λψ Q a w p=>?_
       have hv:=p.val mem hd;generalize hy:a.eval y=v at hv;cases hv with
       |str x=>
        refine⟨.int .i64 x.size,w,run a w _ ?_,.refl w,?_⟩
        .simp[Builtin.len_,ht,Zl w hu,goInt,hy]
        .have:x.data.toList.length=x.size:=by rw[nI];rfl
         rw[this];exact .int _ _
      |_=>cases h
     |slice e=>
      simp only at h;obtain⟨d,hd,h⟩:=Zs h;cases d with
      |slice z a' n=>
       refine bV.val bq _ h λψ Q a w p=>?_
       have hv:=p.val mem hd;generalize hy:a.eval y=v at hv;cases hv with
       |rV=>exact⟨.int .i64 (0:Nat),w,run a w _ (by simp[Builtin.len_,ht,Zl w hu,goInt,hy]),.refl w,.int _ _⟩
       |slice _ i off _ cb base cap=>exact⟨.int .i64 n,w,run a w _ (by simp[Builtin.len_,ht,Zl w hu,goInt,hy]),.refl w,.int _ _⟩
      |_=>cases h
     |_=>cases h
theorem ZpR {b:Builtin} (hq:q.callee= .builtin b) (hb:b=if mx then .max else .min) (ho:o.op= .call q) (bq: ∀h,W h->D h) (h:M0 C E o K mx q.args s=some r):bV C md pr ms o D W E s K r:=by
 unfold M0 at h;cases ha:q.args.toList with
 |nil=>rw[ha]at h;cases h
 |cons y rest=>
  cases rest with
  |nil=>rw[ha]at h;cases h
  |cons z rest=>
   cases rest with
   |cons _ _=>rw[ha]at h;cases h
   |nil=>
    rw[ha]at h;simp only at h;have jV:q.args= #[y,z]:=by rw[<-Array.toArray_toList (xs:=q.args),ha]
    have my:y∈o.op.operands:=by rw[ho];simp[Op.operands,Call.operands,hq,jV]
    have mz:z∈o.op.operands:=by rw[ho];simp[Op.operands,Call.operands,hq,jV]
    obtain⟨d,hd,h⟩:=Zs h;obtain⟨e,he,h⟩:=Zs h;cases d with
    |int k n=>
     cases e with
     |int k' m=>
      simp only at h;obtain⟨hk,h⟩:=Zp h;refine bV.val bq _ h λψ Q a w p=>?_
      have e1:=p.int my hd;have e2:=p.int mz he;cases mx with
      |true=>
       simp only[lM]at hb;subst hb;exact⟨.int k (if n<m then m else n),w,by simp[execOp,ho,resolve,hq,invoke,builtin,jV,e1,e2,Builtin.max_,Builtin.max2],.refl w,.int _ _⟩
      |false=>
       simp only[tg,mg]at hb;subst hb;exact⟨.int k (if m<n then m else n),w,by simp[execOp,ho,resolve,hq,invoke,builtin,jV,e1,e2,Builtin.min_,Builtin.min2],.refl w,.int _ _⟩
     |_=>cases h
    |_=>cases h
end
section
variable {C:bx} {o:Oper} {D W:du->Prop} {E:Env} {s:St} {md:Md} {pr ms:al}
theorem Sf {a:ai} {K:ah->M β} (h:dw a n K s=some r):
  ∃ds,K ds s=some r/\ds.length=n/\((a=none/\n=0/\ds=[])\/∃i q f cs,a=some (i,q)/\c8 s i=some (.cells f cs)/\q+n<=cs.length/\ds=(cs.drop q).take n):=by
 cases a with
 |none=>
  simp only[dw]at h;obtain⟨h1,h⟩:=Zp h;have:=dy h1;grind
 |some iq=>
  obtain⟨i,q⟩:=iq;simp only[dw]at h;obtain⟨f,cs,h1,h2,h⟩:=GA h;grind
theorem K8 {A:Act} (p:aC C o D E s ψ Q A w) (hD: ∀i,D (.inl i)) {z sz k:Nat} {a:ai} (hv:VR C ψ (.slice z a m) v)
  (hz:z=sz\/a=none) (hn:n=k*sz) (hk:k<=m)
  (og:(a=none/\n=0/\ds=[])\/∃i q f cs,a=some (i,q)/\c8 s i=some (.cells f cs)/\q+n<=cs.length/\ds=(cs.drop q).take n):
  ∃base cap vs,v= .slice base m cap/\(∀w',w'.heap=w.heap->(Builtin.firstCells sz k v).run C.P w'= .ok vs w')/\bB C ψ ds vs.toList/\ds.all one=true:=by
 subst hn;cases hv with
 |rV=>
  rcases og with⟨_,_,rfl⟩|⟨i,q,f,cs,h,_⟩
  .exact⟨none,0, #[],rfl,λw' _=>by rfl,.nil,rfl⟩
  .cases h
 |slice _ i q _ cb ad cap iE p8 hb=>
  rcases og with⟨h,_⟩|⟨i',q',f,cs,h,h1,h2,rfl⟩
  .cases h
  .cases h
   have hz:z=sz:=by grind
   subst hz;have hh:=p.at (hD i) h1 iE;by_cases h0:k*z=0
   .refine⟨some ad,cap, #[],rfl,λw' _=>?_,?_,?_⟩
    .simp[Builtin.firstCells,h0,loadCells,loadCellsFrom]
    .rw[h0];simp only[List.take_zero];exact .nil
    .rw[h0];simp
   .have hc:0<cap:=by
     grind
    obtain⟨e1,e2⟩:=hb hc;obtain⟨vs,e3,e4,e5,e6⟩:=Zla (P:=C.P) hh h2;exact⟨some ad,cap,vs,rfl,λw' hw=>by simp only[Builtin.firstCells,e1,e3 w' hw],e5,e6⟩
theorem Znz {ψ:Ps} : ∀ {ds:ah} {l:aj} {vs:List Value},sC ds=some l->bB C ψ ds vs->∃ns:ak,vs=ns.map (Value.int .u8)/\ns.map (λn=>UInt8.ofNat n.toNat)=l
 |[],l,vs,h,hv=>by
  simp only[sC,fQ]at h;cases hv;exact⟨[],rfl,h⟩
 |d::ds,l,vs,h,hv=>by
  cases hv with
  |cons _ v _ vs h1 h2=>
   cases h1 with
   |int k n=>
    cases k with
    |u8=>
     simp only[sC,Option.map_eq_some_iff]at h;obtain⟨l',h3,h4⟩:=h;obtain⟨ns,e1,e2⟩:=Znz h3 h2;exact⟨n::ns,by simp[e1],by simp[e2,h4]⟩
    |_=>simp[sC]at h
   |_=>simp[sC]at h
theorem ZvZ {K:aj->M β} (h:Go.Gv.kq cs K s=some r): ∃l,sC cs=some l/\K l s=some r:=by
 unfold Go.Gv.kq at h;cases he:sC cs with
 |none=>rw[he]at h;cases h
 |some l=>rw[he]at h;exact⟨l,rfl,h⟩
end
section
variable {C:bx} {o:Oper} {D W:du->Prop} {E:Env} {s:St} {md:Md} {pr ms:al}
theorem ZkO (l:aj):bB C ψ (ZW l) (l.map λb=>Value.int .u8 b.toNat):=by
 induction l with
 |nil=>exact .nil
 |cons b l ih=>exact .cons _ _ _ _ (.int _ _) ih
theorem Pe (l:aj):(ZW l).all one=true:=by simp[ZW,one]
@[simp] theorem aaz (l : aj) : (ZW l).length = l.length := by simp [ZW]
def KG (w:World) (c:Array Value) (e:TypeId):World:= { w with heap:=w.heap.push (.cells c e (c.size,c.size+1)) }
theorem Zqb (w:World) (c:Array Value) (e:TypeId):gL w (KG w c e):=gL.alloc w (.cells c e (c.size,c.size+1))
theorem Zsl (w:World) (c:Array Value) (e:TypeId):(markStringish ⟨w.heap.size,0,none⟩).run P (w.alloc (.cells c e))= .ok () (KG w c e):=by
 have h1:(w.alloc (.cells c e)).shape? w.heap.size=some (e,c.size):=by simp only[World.shape?,heap_alloc_new]
 unfold markStringish;simp only[Sem.run_bind,run_shape,h1,Result.andThen_ok,run_freeze];congr 1;unfold World.freeze KG World.alloc;simp only[Nat.one_ne_zero,mg];congr 1;grind
theorem ZsS (h:MQ P e=true):P.underlying e=some (.int .u8):=by
 grind[MQ]
theorem Zqo (ho:o.op= .convert t u y) (bq: ∀h,W h->D h) (hD: ∀i,D (.inl i)) (h:QO C E o K t u y s=some r):bV C md pr ms o D W E s K r:=by
 have my:y∈o.op.operands:=by rw[ho];simp[Op.operands]
 unfold QO at h;obtain⟨td,ht,h⟩:=oI h;have run: ∀(a:Act) (w w':World) v,(convert t u (a.eval y)).run C.P w= .ok v w'->(execOp a.eval o).run C.P w= .ok (.value v) w':=by
  intro a w w' v hv;simp[execOp,ho,hv]
 cases hu:C.P.underlying u with
 |none=>rw[hu]at h;cases h
 |some ud=>
  rw[hu]at h;cases ud with
  |int k=>
   simp only at h;obtain⟨d,hd,h⟩:=Zs h;cases d with
   |int k' n=>
    refine bV.val bq _ h λψ Q a w p=>⟨.int k (k.wrap n),w,run a w w _ ?_,.refl w,.int _ _⟩
    rw[p.int my hd];simp[convert,Zl w ht,Zl w hu,Conv.intToInt]
   |_=>cases h
  |string=>
   simp only at h;rw[ht]at h;cases td with
   |int k0=>
    simp only at h;obtain⟨d,hd,h⟩:=Zs h;cases d with
    |int k' n=>
     refine bV.val bq _ h λψ Q a w p=>⟨.string (Utf8.encode n),w,run a w w _ ?_,.refl w,.str _⟩
     rw[p.int my hd];simp[convert,Zl w ht,Zl w hu,Conv.intToString]
    |_=>cases h
   |string=>
    simp only at h;obtain⟨d,hd,h⟩:=Zs h;cases d with
    |str l=>
     refine bV.val bq _ h λψ Q a w p=>?_
     have hv:=p.val my hd;generalize hy:a.eval y=v at hv;cases hv with
     |str x=>exact⟨.string x,w,run a w w _ (by rw[hy];simp[convert,Zl w ht,Zl w hu]),.refl w,.str _⟩
    |_=>cases h
   |slice e=>
    simp only at h;obtain⟨h8,h⟩:=Zp h;have he:=ZsS h8;obtain⟨d,hd,h⟩:=Zs h;cases d with
    |slice z a' n=>
     simp only at h;obtain⟨hz,h⟩:=Zp h;obtain⟨ds,h,_,og⟩:=Sf h;obtain⟨l,hl,h⟩:=ZvZ h;refine bV.val bq _ h λψ Q A w p=>?_
     have Fq:z=1\/a'=none:=by
      rw[l9]at hz;rcases hz with h|h
      .exact .inl (dy h)
      grind
     obtain⟨base,cap,vs,hv,dJ,hr,_⟩:=K8 p hD (p.val my hd) Fq (k:=n) (by simp) (aO _) og;obtain⟨ns,e1,e2⟩:=Znz hl hr;cases base with
     |none=>
      have:ds=[]:=by
       have eD:=p.val my hd;rw[hv]at eD;cases eD;grind
      subst this;simp only[sC,fQ]at hl;subst hl;refine⟨.string .empty,w,run A w w _ ?_,.refl w,.str .empty⟩;rw[hv];simp[convert,Zl w ht,Zl w hu,Zl w he,Conv.bytesToString]
     |some b=>
      have aeR:(loadCells b n).run C.P w= .ok (ns.map (Value.int .u8)).toArray w:=by
       have dJ:=dJ w rfl;rw[hv]at dJ;simp only[Builtin.firstCells,cT]at dJ;rw[dJ,<-e1]
      refine⟨.string (ns.foldl (λr n=>r.push (UInt8.ofNat n.toNat)) ByteArray.empty),w,run A w w _ ?_,.refl w,?_⟩
      .rw[hv,run_convert_bytes_string w t u e (some b) n cap ht he hu]
       exact run_bytesToString w b n cap ns aeR
      .have:(ns.foldl (λr n=>r.push (UInt8.ofNat n.toNat)) ByteArray.empty).data.toList=l:=by
        rw[foldl_push_bytes,<-e2];simp
       rw[<-this];exact .str _
    |_=>cases h
   |_=>cases h
  |slice e=>
   simp only at h;obtain⟨h8,h⟩:=Zp h;have he:=ZsS h8;obtain⟨d,hd,h⟩:=Zs h;cases d with
   |str l=>
    simp only at h;refine bV.IM (by unfold sf;rw[ho];trivial) bq _ _ h λψ Q a w p=>?_
    have hv:=p.val my hd;generalize hy:a.eval y=v at hv;cases hv with
    |str x=>
     have hx:x.data.toList.length=x.size:=by rw[nI];rfl
     let cap:=(Question.appendCap x.size 0 e).cut (w.tape w.drawn (.appendCap x.size 0 e))
     have p8:x.size<=cap:=by simp only[cap,Question.cut];omega
     let c:Array Value:=(x.data.map λb=>Value.int .u8 b.toNat)++Array.replicate (cap-x.size) (.int .u8 0)
     refine⟨.slice (some ⟨w.heap.size,0,none⟩) x.size cap,KG w.drew c e,⟨w.heap.size,0,c.size⟩,run a w _ _ ?_,(gL.drew w).trans (Zqb w.drew c e),aO _,(by show w.heap.size<(w.heap.push _).size;simp),?_,λψ' _ vI=>?_⟩
     .rw[hy]
      have hm:=Zsl (P:=C.P) w.drew c e;simp only[convert,Sem.run_bind,Zl w ht,Zl w hu,Result.andThen_ok,Zl w he];have hq:(Question.appendCap x.size 0 e).forced=false:=rfl;simp only[Conv.stringToBytes,Sem.run_bind,run_choose,hq,tg,mg,Result.andThen_ok,newRow,run_newObj,Sem.run_pure];exact(congrArg (λr=>Result.andThen r λ_ w'=>Result.ok (Value.slice (some ⟨w.heap.size,0,none⟩) x.size cap) w') hm)
     .refine Zpz (ty:=e) (fr:=(c.size,c.size+1)) (by show(w.heap.push _)[w.heap.size]? =_;simp) (.inr (aO _)) ?_ (Pe _)
      have:c.toList.take (ZW x.data.toList).length=x.data.toList.map λb=>Value.int .u8 b.toNat:=by
       rw[aaz];simp only[c,Array.toList_append,Array.toList_map];rw[List.take_append_of_le_length (by simp),dH (by simp)]
      rw[this];exact ZkO _
     .rw[hx]
      have:=VR.slice (C:=C) (ψ:=ψ') 1 s.length 0 x.size ⟨w.heap.size,0,c.size⟩ ⟨w.heap.size,0,none⟩ cap vI p8 (by grind);exact this
   |_=>cases h
  |_=>cases h
end
section
variable {C:bx} {o:Oper} {D W:du->Prop} {E:Env} {s:St} {md:Md} {pr ms:al}
theorem ZvR {sz:Nat} {a:ai} {len:Nat} {K:ai->M β} (h:cj sz a len ds m lim K s=some r):
  (m=0/\K a s=some r)\/(0<m/\len+m<=lim/\((a=none/\len=0/\K (some (s.length,0)) (s++[some ⟨false,ds⟩])=some r)\/
   ∃i q cs,a=some (i,q)/\s.hY i=some cs/\q+len*sz<=cs.length/\K (some (s.length,0)) (s.set i none++[some ⟨false,(cs.drop q).take (len*sz)++ds⟩])=some r)):=by
 unfold cj at h;cases h0:Nat.beq m 0 with
 |true=>rw[h0]at h;simp_all
 |false=>
  rw[h0]at h;simp only[af]at h;have hm:=Jo h0;cases h1:Nat.ble (len+m) lim with
  |false=>rw[h1]at h;cases h
  |true=>
   rw[h1]at h;simp only[ae]at h;refine .inr ⟨by omega,pH h1,?_⟩;cases a with
   |none=>
    simp only at h;cases h2:Nat.beq len 0 with
    |false=>rw[h2]at h;cases h
    |true=>rw[h2]at h;simp_all
   |some iq=>
    obtain⟨i,q⟩:=iq;simp only at h;cases h3:s.hY i with
    |none=>rw[h3]at h;cases h
    |some cs=>
     rw[h3]at h;simp only at h;cases h4:Nat.ble (q+len*sz) cs.length with
     |false=>rw[h4]at h;cases h
     |true=>rw[h4]at h;exact .inr ⟨i,q,cs,rfl,h3,pH h4,h⟩
def Bv (P:Program) (ts:Array TypeId):Prop:=match ts[1]? with|none=>True|some t=>∃d,P.underlying t=some d/\∀k,d≠ .int k
theorem ZtO {K:M β} (h:VU C.P ts K s=some r):Bv C.P ts/\K s=some r:=by
 unfold VU at h;unfold Bv;cases ht:ts[1]? with
 |none=>rw[ht]at h;exact⟨trivial,h⟩
 |some t=>
  rw[ht]at h;simp only at h⊢;cases hu:C.P.underlying t with
  |none=>rw[hu]at h;cases h
  |some d=>
   rw[hu]at h;cases d with
   |int k=>cases h
   |_=>exact(by grind)
theorem ZjO (h0:ts[0]? =some t) (ht:P.underlying t=some (.slice e)) (he:P.underlying e=some ed) (hn:Bv P ts) (ty:TypeId)
  (base:Option Addr) (n m cap:Nat) (X:Value) (w w':World) (new:Array Value) (hX:(Builtin.lenOf X).run P w= .ok m w) (hc:n+m<=cap)
  (hf:(Builtin.firstCells (P.cellsOf e) m X).run P w= .ok new w) (hs: ∀a,base=some a->(storeCells (a.add (n*P.cellsOf e)) new.toList).run P w= .ok () w') (hb:base=none->w'=w):
  (Builtin.append_ ts ty #[.slice base n cap,X]).run P w= .ok (.slice base (n+m) cap) w':=by
 have key:(P.underlying t=some (.slice e))->(do
   let n' <-Builtin.lenOf X
   let IL:=n+n'
   if IL<=cap then
    let new <-Builtin.firstCells (P.cellsOf e) n' X
    if let some a:=base then storeCells (a.add (n*P.cellsOf e)) new.toList
    pure (.slice base IL cap)
   else stuck "" :Sem Value).run P w= .ok (.slice base (n+m) cap) w':=by
  intro _;simp only[Sem.run_bind,hX,Result.andThen_ok,hc,lM,hf];cases base with
  |none=>have:=hb rfl;subst this;simp
  |some a=>simp[hs a rfl]
 have key:=key ht;simp only[Sem.run_bind,hX,Result.andThen_ok,hc,lM,hf]at key;unfold Builtin.append_;unfold Bv at hn;cases h1:ts[1]? with
 |none=>
  simp only[h0,Jk,lh,pE,Sem.run_bind,Zl w ht,Result.andThen_ok,Z6 w he,Sem.run_pure,tg,mg,hX,bm,lM,hc,hf];exact key
 |some t1=>
  rw[h1]at hn;obtain⟨d,hd,jw⟩:=hn;simp only[h0,Jk,lh,pE,Sem.run_bind,Zl w ht,Result.andThen_ok,Z6 w he,Zl w hd];cases d<;>first|exact absurd rfl (jw _)|(simp only[Sem.run_pure,Result.andThen_ok,Sem.run_bind,tg,mg,hX,bm,lM,hc,hf];exact key)
theorem ZoH (z:Array Value) (n:Nat):(Builtin.zeroCells z n).size=n*z.size:=by simp[Builtin.zeroCells]
theorem ZnR {ie:TypeInfo} {z:Value} (h0:ts[0]? =some t) (ht:P.underlying t=some (.slice e)) (he:P.underlying e=some ed) (xe:P.info? e=some ie)
  (vH:ie.zero=some z) (hn:Bv P ts) (ty:TypeId) (base:Option Addr) (n m cap:Nat) (X:Value) (w:World) (fh new:Array Value) (hX: ∀w,(Builtin.lenOf X).run P w= .ok m w) (hc:cap<n+m)
  (hb:(n+m)*ie.bytes<=70368744177664) (LL:n+m<=70368744177664) (ho:(Builtin.firstCells (P.cellsOf e) n (.slice base n cap)).run P w.drew= .ok fh w.drew) (hf:(Builtin.firstCells (P.cellsOf e) m X).run P w.drew= .ok new w.drew):
  ∃k,n+m<=k/\(Builtin.append_ ts ty #[.slice base n cap,X]).run P w= .ok (.slice (some ⟨w.heap.size,0,none⟩) (n+m) k) (w.drew.alloc (.cells (fh++new++Builtin.zeroCells z.cells (k-(n+m))) e)):=by
 refine⟨(Question.appendCap (n+m) cap e).cut (w.tape w.drawn (.appendCap (n+m) cap e)),by simp[Question.cut],?_⟩;have hq:(Question.appendCap (n+m) cap e).forced=false:=rfl;have g1: ¬(n+m<=cap):=by omega
 have g2: ¬(Builtin.nextslicecap (n+m) cap*ie.bytes>2^48):=by
  have:=growslice_fits (bytes:=ie.bytes) hc (by omega);omega
 have g3: ¬(((n+m:Nat):Int)>IntKind.i64.max):=by
  have:IntKind.i64.max=9223372036854775807:=by decide
  rw[this];omega
 have g4: ¬(((n+m:Nat):Int)>IntKind.i64.max/\(False\/ie.bytes=0)):=λh=>g3 h.1
 have XJ: ∀w,(typeInfo e).run P w= .ok ie w:=λw=>by simp[typeInfo,xe]
 have Fq: ∀w,(zeroValue e).run P w= .ok z w:=λw=>by simp[zeroValue,typeInfo,xe,vH]
 unfold Builtin.append_;unfold Bv at hn;cases h1:ts[1]? with
 |none=>
  simp only[h0,Jk,lh,pE,Sem.run_bind,Zl w ht,Result.andThen_ok,Z6 w he,Sem.run_pure,tg,mg,hX,bm,lM,g1,XJ,g4,
   g2,run_choose,hq,run_askRoom,World.drew_eq,ho,hf,Fq,newRow,run_newObj,World.alloc_eq]
  rfl
 |some t1=>
  rw[h1]at hn;obtain⟨d,hd,jw⟩:=hn;simp only[h0,Jk,lh,pE,Sem.run_bind,Zl w ht,Result.andThen_ok,Z6 w he,Zl w hd];cases d<;>first|exact absurd rfl (jw _)|(simp only[Sem.run_pure,Result.andThen_ok,Sem.run_bind,tg,mg,hX,bm,lM,g1,XJ,g4,g2,run_choose,hq,run_askRoom,World.drew_eq,ho,hf,Fq,newRow,run_newObj,World.alloc_eq];rfl)
theorem Ext.afT (h:Ext ψ Q1 w ψ' Q' w') (hq: ∀k ab,Q1 k ab->Q k ab):Ext ψ Q w ψ' Q' w':=
 have so: ∀b,tA ψ Q1 b->tA ψ Q b:=λ_b ⟨k,cb,ab,e,q,hs,hb⟩=>⟨k,cb,ab,e,hq _ _ q,hs,hb⟩
 { h with
  rR:=λk cb e=>(h.rR k cb e).imp id λ⟨x,y⟩=>⟨x.imp id (so _),y⟩
  jy:=λb hb hn=>h.jy b hb λe=>hn (so b e)
  gI:=λb e=>(h.gI b e).imp (so b) id
  live:=λk cb x e q=>let ⟨y,hy⟩:=h.live k cb x e q;⟨y,hq _ _ hy⟩ }
theorem Zp7 :c8 (s.set i none) i=none:=by
 grind[c8]
theorem Ztg (hq:q.callee= .builtin .append) (ho:o.op= .call q) {z:Operand} (ha:q.args= #[y,z]) {zv:ah} (h0:q.argTypes[0]? =some t)
  (ht:C.P.underlying t=some (.slice e)) (he:C.P.underlying e=some ed) (hz:mn C.P e=some zv) (qo:zv.length=C.P.cellsOf e) (hn:Bv C.P q.argTypes) (bq: ∀h,W h->D h) (hD: ∀i,D (.inl i)) {a:ai} (hW: ∀i q,a=some (i,q)->W (.inl i)) (hd:E.src C y= .v (.slice z0 a n)) (vH:z0=C.P.cellsOf e\/a=none) (kV:ds.length=m*C.P.cellsOf e)
  (hX: ∀ψ Q A w,aC C o D E s ψ Q A w->(∀w,(Builtin.lenOf (A.eval z)).run C.P w= .ok m w)/\∃vs,bB C ψ ds vs.toList/\ds.all one=true/\∀w',w'.heap=w.heap->(Builtin.firstCells (C.P.cellsOf e) m (A.eval z)).run C.P w'= .ok vs w') (h:cj (C.P.cellsOf e) a n ds m (AW C.P e) (λp=>cn E o K (.slice (C.P.cellsOf e) p (n+m))) s=some r):bV C md pr ms o D W E s K r:=by
 have my:y∈o.op.operands:=by rw[ho];simp[Op.operands,Call.operands,hq,ha]
 have hex: ∀(A:Act) (w w':World) v,(Builtin.append_ q.argTypes o.type #[A.eval y,A.eval z]).run C.P w= .ok v w'->(execOp A.eval o).run C.P w= .ok (.value v) w':=by
  intro A w w' v hv;simp[execOp,ho,resolve,hq,invoke,builtin,ha,hv]
 have afA: ∀vs:Array Value,∀ψ,m=0->bB C ψ ds vs.toList->vs.toList=[]:=by
  intro vs ψ hm hr;have:=hr.len;rw[kV,hm,qK]at this;grind
 have grow: ∀ψ Q A w,aC C o D E s ψ Q A w->∀base cap fh,A.eval y= .slice base n cap->cap<n+m->n+m<=AW C.P e->(Builtin.firstCells (C.P.cellsOf e) n (.slice base n cap)).run C.P w.drew= .ok fh w.drew->
   ∃k new rest,n+m<=k/\bB C ψ ds new.toList/\ds.all one=true/\rest.size=(k-(n+m))*C.P.cellsOf e/\
    (execOp A.eval o).run C.P w= .ok (.value (.slice (some ⟨w.heap.size,0,none⟩) (n+m) k)) (w.drew.alloc (.cells (fh++new++rest) e)):=by
  intro ψ Q A w p base cap fh hy hc AN hold;obtain⟨hl,new,h1,h2,h3⟩:=hX ψ Q A w p;unfold mn at hz;cases hi:C.P.info? e with
  |none=>rw[hi]at hz;cases hz
  |some ie=>
   rw[hi]at hz;simp only at hz;cases uq:ie.zero with
   |none=>rw[uq]at hz;cases hz
   |some ahc=>
    rw[uq]at hz;have MN:=(DU (C:=C) (ψ:=ψ) hz).1.xy;have hb:(n+m)*ie.bytes<=70368744177664:=by
     unfold AW KR at AN;rw[hi]at AN;simp only at AN;rcases zi ie.bytes with hz|hp
     .rw[hz];simp
     .exact(Nat.le_div_iff_mul_le hp).1 AN
    have LL:n+m<=70368744177664:=gJ AN (Dm _ _);obtain⟨k,hk,dJ⟩:=ZnR (P:=C.P) h0 ht he hi uq hn o.type base n m cap (A.eval z) w fh new hl hc hb LL hold (h3 _ rfl);exact⟨k,new,_,hk,h1,h2,by rw[ZoH,<-MN,qo],(by grind)⟩
 rcases ZvR h with⟨hm,h⟩|⟨hm,AN,h⟩
 ·
  refine bV.val bq _ h λψ Q A w p=>?_
  obtain⟨hl,new,h1,h2,h3⟩:=hX ψ Q A w p;have iS:=afA new ψ hm h1;subst hm;have hv:=p.val my hd;generalize hy:A.eval y=v at hv;have oh: ∀base cap,v= .slice base n cap->n<=cap->(execOp A.eval o).run C.P w= .ok (.value (.slice base n cap)) w:=by
   intro base cap hv hc;refine hex A w w _ ?_;rw[hy,hv];have:=ZjO (P:=C.P) h0 ht he hn o.type base n 0 cap (A.eval z) w w new (hl w) hc (h3 w rfl) (λa _=>by rw[iS];rfl) (λ_=>rfl);exact this
  cases hv with
  |rV=>exact⟨_,w,(by grind),.refl w,.rV _⟩
  |slice _ i q0 _ cb ad cap iE p8 hb=>
   have:z0=C.P.cellsOf e:=by grind
   subst this;exact⟨_,w,oh _ cap rfl p8,.refl w,.slice _ _ _ _ cb ad cap iE p8 hb⟩
 .rcases h with⟨rfl,rfl,h⟩|⟨i,q0,cs,rfl,hi,hle,h⟩
  ·
   refine bV.IM (by unfold sf;rw[ho];simp only[hq]) bq _ ds h λψ Q A w p=>?_
   have hv:=p.val my hd;generalize hy:A.eval y=v at hv;cases hv;obtain⟨k,new,rest,hk,h1,h2,h3,dJ⟩:=grow ψ Q A w p none 0 #[] hy (by omega) AN (by simp[Builtin.firstCells]);have cw:=h1.xy;refine⟨_,_,⟨w.heap.size,0,(#[]++new++rest).size⟩,dJ,(gL.drew w).trans (gL.alloc w.drew _),aO _,by simp,?_,λψ' _ vI=>?_⟩
   .refine DI (w:=w.drew) ?_ h2
    grind
   .refine VR.slice _ _ 0 _ _ _ _ vI hk (λ_=>⟨rfl,?_⟩)
    have:(#[]++new++rest).size=new.size+rest.size:=by simp
    simp only[this];rw[<-cw,kV,h3,eW,eW,<-uK];grind
  ·
   have vH:z0=C.P.cellsOf e:=by grind
   subst vH;obtain⟨cc,ax⟩:=Rm hi;have fL: ∀ab,c8 (s.set i none++[some ⟨false,(cs.drop q0).take (n*C.P.cellsOf e)++ds⟩]) s.length=some ab->ab= .cells false ((cs.drop q0).take (n*C.P.cellsOf e)++ds):=by
    intro ab fL;have:=Ot (s.set i none) ⟨false,(cs.drop q0).take (n*C.P.cellsOf e)++ds⟩;rw[qI]at this;rw[this]at fL;cases fL;rfl
   have hold: ∀j ab,c8 (s.set i none++[some ⟨false,(cs.drop q0).take (n*C.P.cellsOf e)++ds⟩]) j=some ab->j≠s.length->j≠i/\c8 s j=some ab:=by
    intro j ab hj dI;have sV:=BR hj;simp only[bA,qI,iK]at sV;rw[JJ (by rw[qI];omega)]at hj;by_cases kz:j=i
    .subst kz;rw[Zp7]at hj;cases hj
    .rw[JU (Ne.symm kz)]at hj;exact⟨kz,hj⟩
   refine .inl ⟨_,_,h,lO.put pr ms _ rfl (λ_ _ _ _ h=>by cases h) (by simp) (λj ab hj=>by
    by_cases e:j=s.length
    .omega
    grind) (λj h hj=>by
    have dI:i≠j:=by grind
    rw[oz (by rw[qI];exact hj),kJ dI]) (.inr (by unfold sf;rw[ho];simp only[hq])),?_⟩
   intro ψ Q A w next QQ p room hn';have iS:wj E s (E.eR o.dst (.v (.slice (C.P.cellsOf e) (some (s.length,0)) (n+m)))) (s.set i none++[some ⟨false,(cs.drop q0).take (n*C.P.cellsOf e)++ds⟩]) (.inl s.length):=⟨by simp[dQ],by simp[dQ]⟩;have hf:=room _ iS;have hv:=p.val my hd;generalize hy:A.eval y=v at hv;cases hv with
   |slice _ _ _ _ cb ad cap iE p8 hb=>
    have yG:Q (.inl i) (.cells false cs):=p.jz (.inl i) _ cb (hD i) cc iE;have hh:=p.eG.holds _ cb _ iE yG;obtain⟨hl,new,h1,h2,h3⟩:=hX ψ Q A w p;have hlen:((cs.drop q0).take (n*C.P.cellsOf e)).length=n*C.P.cellsOf e:=by simp;omega
    have adZ:((cs.drop q0).take (n*C.P.cellsOf e)++ds).length=(n+m)*C.P.cellsOf e:=by rw[bA,hlen,kV,uK]
    have cQ:((cs.drop q0).take (n*C.P.cellsOf e)++ds).all one=true:=by rw[sa,Se hh.2.1,h2];rfl
    have fin: ∀v' w' fR,(execOp A.eval o).run C.P w= .ok (.value v') w'->eX C (nF ψ (.inl s.length) fR) (IK Q (.inl i) (.inl s.length) (.cells false ((cs.drop q0).take (n*C.P.cellsOf e)++ds))) w'->
      Ext ψ Q w (nF ψ (.inl s.length) fR) (IK Q (.inl i) (.inl s.length) (.cells false ((cs.drop q0).take (n*C.P.cellsOf e)++ds))) w'->
      VR C (nF ψ (.inl s.length) fR) (.slice (C.P.cellsOf e) (some (s.length,0)) (n+m)) v'->o.wp C.P A w next QQ:=by
     intro v' w' fR dJ yJ ue kZ;unfold Oper.wp;rw[dJ];refine hn' _ _ v' w' ⟨yJ,ue,λh c e'=>?_,λh ab c cr hw e'=>?_,λh ab c e' q' nw _=>?_⟩ (λd' oe=>?_)
     .by_cases eh:h= .inl s.length
      .grind
      .rw[nP _ _ eh]at e';exact .inl e'
     .by_cases eh:h= .inl s.length
      .subst eh;exact .inl ⟨rfl,fL ab cr⟩
      .rw[nP _ _ eh]at e'
       have fh:h≠ .inl i/\CR E s h ab:=by
        cases h with
        |inl j=>
         obtain⟨a1,a2⟩:=hold j ab cr (λe=>eh (by rw[e]));exact⟨λe=>a1 (by cases e;rfl),a2⟩
        |inr x=>
         have nV:CR (E.eR o.dst (.v (.slice (C.P.cellsOf e) (some (s.length,0)) (n+m)))) s (.inr x) ab:=cr;exact⟨by simp,nV.eR rfl⟩
       refine .inr ⟨eh,fh.1,?_⟩;rcases hw with hw|⟨n1,n2⟩
       .exact p.jz h ab c (bq h hw) fh.2 e'
       .exact absurd (fh.2.pX p.gD) n1
     .cases h with
      |inl j=>exact .inr ⟨by grind,by grind,q'⟩
      |inr x=>exact .inr ⟨by simp,by simp,q'⟩
     .rw[Env.jU,bG oe];exact kZ
    by_cases oh:n+m<=cap
    .obtain⟨e1,e2⟩:=hb (by omega)
     have Xr:(n+m)*C.P.cellsOf e<=cap*C.P.cellsOf e:=Dn _ oh;rw[uK]at Xr;obtain⟨w',hw,db,HQ⟩:=Zmy (P:=C.P) (p:=q0+n*C.P.cellsOf e) (o':=q0) (cs':=(cs.drop q0).take (n*C.P.cellsOf e)++ds) hh h1 h2 (by rw[kV];omega) (by rw[adZ,uK];omega) cQ (λj d oe=>by
      by_cases hj:j<n*C.P.cellsOf e
      .rw[oz (by omega),wa,bG hj,Bl]at oe
       grind
      .rw[mb (by omega),hlen]at oe
       have sV:j-n*C.P.cellsOf e<ds.length:=by
        grind
       exact .inl ⟨by omega,by omega,by rw[show q0+j-(q0+n*C.P.cellsOf e)=j-n*C.P.cellsOf e by omega];exact oe⟩)
     have dJ:=ZjO (P:=C.P) h0 ht he hn o.type (some ad) n m cap (A.eval z) w w' new (hl w) oh (h3 w rfl) (λa' Cj=>by
      cases Cj;rw[e1,zK,tj];exact hw) (λe=>by cases e)
     refine fin _ w' ⟨cb.b,cb.o+q0,cb.m-q0⟩ (hex A w _ _ (by rw[hy];exact dJ)) (eX.move p.eG iE yG rfl hf rfl db.other (HQ.same (λ_ _ e=>uQ hf _ _ e) rfl))
      (Ext.move iE yG rfl hf rfl (p.gm _ _ iE) db.other db.size db.tape db.os db.output) ?_
     exact VR.slice _ _ 0 _ _ _ _ (pM _ _ _) oh (λ_=>⟨by rw[e1];rfl,by simp only;omega⟩)
    .obtain⟨base,agv,fh,HH,MD,Io,hra⟩:=K8 p hD (p.val my hd) (.inl rfl) (k:=n) (n:=n*C.P.cellsOf e) rfl (aO _) (.inr ⟨i,q0,false,cs,rfl,cc,hle,rfl⟩)
     rw[hy]at HH;cases HH;have MD:=MD w.drew rfl;rw[hy]at MD;obtain⟨k,new,rest,hk,h1,h2,h3,dJ⟩:=grow ψ Q A w p (some ad) cap fh hy (by omega) AN MD;have cw:=h1.xy;have xm:=Io.xy;rw[hlen]at xm;have oW:gL w (w.drew.alloc (.cells (fh++new++rest) e)):=(gL.drew w).trans (gL.alloc w.drew _);refine fin _ _ ⟨w.heap.size,0,(fh++new++rest).size⟩ dJ ?_ ?_ ?_
     .refine eX.new (Q:=λk x=>k≠ .inl i/\Q k x) (p.eG.weaken λ_ _ _ _ q=>q.2) p.gm oW hf (aO _) ?_
      refine DI (w:=w.drew) ?_ cQ;have:(fh++new++rest).toList.take ((cs.drop q0).take (n*C.P.cellsOf e)++ds).length=fh.toList++new.toList:=by
       rw[bA,hlen,cw,xm];simp only[Array.toList_append];rw[List.take_append_of_le_length (by simp),dH (by simp)]
      rw[this];exact bB.append (Io.mono λ_ _ e=>uQ hf _ _ e) (h1.mono λ_ _ e=>uQ hf _ _ e)
     .exact(Ext.new (Q:=λk x=>k≠ .inl i/\Q k x) oW hf (aO _) (by simp)).afT λ_ _ q=>q.2
     .refine VR.slice _ _ 0 _ _ _ _ (pM _ _ _) hk (λ_=>⟨rfl,?_⟩)
      have:(fh++new++rest).size=fh.size+new.size+rest.size:=by simp[tj]
      simp only[this];rw[<-cw,<-xm,kV,h3,eW,<-uK,<-uK];exact Dn _ (by omega)
end
section
variable {C:bx} {o:Oper} {D W:du->Prop} {E:Env} {s:St} {md:Md} {pr ms:al}
theorem WX {z:Operand} (h:q.args.toList=[y,z]):q.args= #[y,z]:=by rw[<-Array.toArray_toList (xs:=q.args),h]
theorem B4 {x y:Nat} {a:ai} (h:(Nat.beq x y||a.isNone)=true):x=y\/a=none:=by
 rw[l9]at h;simp_all
theorem ZpS (x:ByteArray) (n:Nat) (w:World):
  ∃vs,(Builtin.firstCells 1 n (.string x)).run P w= .ok vs w/\bB C ψ (ZW (x.data.toList.take n)) vs.toList:=by
 refine⟨_,rfl,?_⟩;have:((x.extract 0 n).data.map λb=>Value.int .u8 b.toNat).toList=(x.data.toList.take n).map λb=>Value.int .u8 b.toNat:=by
  rw[Array.toList_map,ByteArray.data_extract,Array.toList_extract,Nu];simp
 rw[this];exact ZkO _
theorem Zqs (hq:q.callee= .builtin .append) (ho:o.op= .call q) (bq: ∀h,W h->D h) (hD: ∀i,D (.inl i)) (hW: ∀y z i p n,q.args.toList.head?=some y->E.src C y= .v (.slice z (some (i,p)) n)->W (.inl i)) (h:RY C E o K q.argTypes q.args s=some r):bV C md pr ms o D W E s K r:=by
 unfold RY at h;generalize ha:q.args.toList=l at h;generalize h0:q.argTypes[0]? =t0 at h;split at h
 .rename_i y z t
  unfold wB at h;cases ht:C.P.underlying t with
  |none=>rw[ht]at h;cases h
  |some td=>
   rw[ht]at h;cases td with
   |slice e=>
    simp only at h;obtain⟨ed,he,h⟩:=oI h;obtain⟨hn,h⟩:=ZtO h;cases hz:mn C.P e with
    |none=>rw[hz]at h;cases h
    |some zv=>
     rw[hz]at h;simp only at h;obtain⟨qo,h⟩:=Gi h;have qo:zv.length=C.P.cellsOf e:=dy (by simpa using qo);obtain⟨a,Ax,h⟩:=Zs h;obtain⟨b,HK,h⟩:=Zs h;have jV:=WX ha;have mz:z∈o.op.operands:=by rw[ho];simp[Op.operands,Call.operands,hq,jV]
     cases a with
     |slice w1 p1 n=>
      cases b with
      |slice w2 p2 m=>
       simp only at h;obtain⟨hw,h⟩:=Zp h;rw[aW]at hw;obtain⟨ds,h,kV,og⟩:=Sf h;refine Ztg hq ho jV h0 ht he hz qo hn bq hD (by grind) Ax (B4 hw.1) kV (λψ Q A w p=>?_) h;obtain⟨base,cap,vs,e1,e2,e3,e4⟩:=K8 p hD (p.val mz HK) (B4 hw.2) (k:=m) rfl (aO _) og;exact⟨λw=>by rw[e1];rfl,vs,e3,e4,e2⟩
      |str l=>
       simp only at h;obtain⟨hw,h⟩:=Zp h;rw[aW]at hw;have cw:=dy hw.2;rw[<-cw]at h;refine Ztg hq ho jV h0 ht he hz qo hn bq hD (by grind) Ax (by rw[cw];exact B4 hw.1) (by rw[cw];simp) (λψ Q A w p=>?_) h;have hv:=p.val mz HK;generalize A.eval z=v at hv;cases hv with
       |str x=>
        have hx:x.data.toList.length=x.size:=by rw[nI];rfl
        obtain⟨vs,e1,e2⟩:=ZpS (C:=C) (ψ:=ψ) (P:=C.P) x x.size w;rw[<-hx,dH (aO _)]at e2;refine⟨λw=>by rw[hx];rfl,vs,e2,Pe _,λw' vG=>?_⟩;rw[cw,hx];cases e1;rfl
      |_=>cases h
     |_=>cases b<;>cases h
   |_=>cases h
 .cases h
theorem Ztk (cs:ah) (p:Nat):cq cs p []=cs:=by
 induction cs generalizing p with
 |nil=>cases p<;>rfl
 |cons c cs ih=>cases p with
  |zero=>rfl
  |succ p=>simp[cq,ih]
theorem ZsX {p:ai} {K:M β} (h:yh p ds K s=some r):
  (p=none/\ds=[]/\K s=some r)\/∃i q cs,p=some (i,q)/\s.hY i=some cs/\q+ds.length<=cs.length/\K (s.set i (some ⟨false,cq cs q ds⟩))=some r:=by
 cases p with
 |none=>
  simp only[yh]at h;obtain⟨h1,h⟩:=Zp h;simp_all
 |some iq=>
  obtain⟨i,q⟩:=iq;simp only[yh]at h;obtain⟨cs,h1,h2,h3⟩:=ZnC h;grind
theorem ZkK {q cap k sz:Nat} {vs:List Value} (hb:0<cap->ad=⟨cb.b,cb.o+q,none⟩/\q+cap*sz<=cb.m) (hc:n<=cap) (hk:k<=n)
  (h:Holds C ψ w cb (.cells false cs)) (hr:bB C ψ ds vs) (h1:ds.all one=true) (hl:ds.length=k*sz) (hle:q+ds.length<=cs.length):
  ∃w',(storeCells ad vs).run C.P w= .ok () w'/\zp w w' cb.b/\Holds C ψ w' cb (.cells false (cq cs q ds)):=by
 by_cases h0:ds.length=0
 .have hd:=Bm.1 h0
  subst hd;cases hr;exact⟨w,rfl,⟨λ_ _=>rfl,rfl,rfl,rfl,.refl _⟩,by rw[Ztk];exact h⟩
 .have lD:0<k:=by
   grind
  obtain⟨e1,_⟩:=hb (by omega);rw[e1];exact Kv h hr h1 hle
theorem ZqY (h0:ts[0]? =some t) (ht:P.underlying t=some (.slice e)) (he:P.underlying e=some ed) (ty:TypeId)
  (base:Option Addr) (n m cap:Nat) (X:Value) (w w':World) (new:Array Value) (hX:(Builtin.lenOf X).run P w= .ok m w)
  (hf:(Builtin.firstCells (P.cellsOf e) (min m n) X).run P w= .ok new w) (hs: ∀a,base=some a->(storeCells a new.toList).run P w= .ok () w') (hb:base=none->w'=w):
  (Builtin.copy_ ts ty #[.slice base n cap,X]).run P w= .ok (.int .i64 (min (m:Int) n)) w':=by
 have XS:((Nat.min m n:Nat):Int)=min (m:Int) n:=by grind
 have Ay:(Builtin.firstCells (P.cellsOf e) (Nat.min m n) X).run P w= .ok new w:=hf;unfold Builtin.copy_;simp only[h0,Jk,lh,pE,Sem.run_bind,Zl w ht,Result.andThen_ok,Z6 w he,hX,Ay];cases base with
 |none=>have:=hb rfl;subst this;simp[goInt];exact XS
 |some a=>simp[hs a rfl,goInt];exact XS
theorem Zuj (hq:q.callee= .builtin .copy) (ho:o.op= .call q) (bq: ∀h,W h->D h) (hW: ∀i,W (.inl i)) (h:Tf C E o K q.argTypes q.args s=some r):bV C md pr ms o D W E s K r:=by
 unfold Tf at h;generalize ha:q.args.toList=l at h;generalize h0:q.argTypes[0]? =t0 at h;split at h
 .rename_i y z t
  unfold wB at h;cases ht:C.P.underlying t with
  |none=>rw[ht]at h;cases h
  |some td=>
   rw[ht]at h;cases td with
   |slice e=>
    simp only at h;obtain⟨ed,he,h⟩:=oI h;obtain⟨a,Ax,h⟩:=Zs h;obtain⟨b,HK,h⟩:=Zs h;have jV:=WX ha;have my:y∈o.op.operands:=by rw[ho];simp[Op.operands,Call.operands,hq,jV]
    have mz:z∈o.op.operands:=by rw[ho];simp[Op.operands,Call.operands,hq,jV]
    have hex: ∀(A:Act) (w w':World) v,(Builtin.copy_ q.argTypes o.type #[A.eval y,A.eval z]).run C.P w= .ok v w'->(execOp A.eval o).run C.P w= .ok (.value v) w':=by
     intro A w w' v hv;simp[execOp,ho,resolve,hq,invoke,builtin,jV,hv]
    cases a with
    |slice w1 p1 n=>
     have core: ∀(m:Nat) (ds:ah),(w1=C.P.cellsOf e\/p1=none)->ds.length=min m n*C.P.cellsOf e->yh p1 ds (cn E o K (.int .i64 (min (m:Int) n))) s=some r->
       (∀ψ Q A w,aC C o D E s ψ Q A w->(Builtin.lenOf (A.eval z)).run C.P w= .ok m w/\∃vs,bB C ψ ds vs.toList/\ds.all one=true/\(Builtin.firstCells (C.P.cellsOf e) (min m n) (A.eval z)).run C.P w= .ok vs w)->
       bV C md pr ms o D W E s K r:=by
      intro m ds cD kV h hX;rcases ZsX h with⟨rfl,rfl,h⟩|⟨i,q0,cs,rfl,hi,hle,h'⟩
      .refine bV.val bq _ h λψ Q A w p=>?_
       obtain⟨hl,vs,h1,h2,h3⟩:=hX ψ Q A w p;have hv:=p.val my Ax;generalize hy:A.eval y=v at hv;cases hv;exact⟨_,w,hex A w w _ (by rw[hy];exact ZqY h0 ht he o.type none 0 m 0 (A.eval z) w w vs hl h3 (λ_ h=>by cases h) (λ_=>rfl)),.refl w,.int _ _⟩
      .have cD:w1=C.P.cellsOf e:=by grind
       subst cD;refine bV.Wl bq (hW _) (.v (.int .i64 (min (m:Int) n))) rfl (λ_ _ _ _ h=>by cases h) hi h' λψ Q A w p=>?_
       have hv:=p.val my Ax;generalize hy:A.eval y=v at hv;cases hv with
       |slice _ _ _ _ cb ad cap iE p8 hb=>
        refine⟨cb,iE,λhh=>?_⟩;obtain⟨hl,vs,h1,h2,h3⟩:=hX ψ Q A w p;obtain⟨w',e1,e2,e3⟩:=ZkK hb p8 (Nat.min_le_right m n) hh h1 h2 kV hle;exact⟨_,w',.inl (hex A w w' _ (by rw[hy];exact ZqY h0 ht he o.type (some ad) n m cap (A.eval z) w w' vs hl h3 (by grind) (λh=>by cases h))),e2,e3,.int _ _⟩
     cases b with
     |slice w2 p2 m=>
      simp only at h;obtain⟨hw,h⟩:=Zp h;rw[aW]at hw;obtain⟨ds,h,kV,og⟩:=Sf h;refine core m ds (B4 hw.1) kV h λψ Q A w p=>?_
      obtain⟨base,cap,vs,e1,e2,e3,e4⟩:=K8 p (λi=>bq _ (hW i)) (p.val mz HK) (B4 hw.2) (k:=min m n) rfl (Nat.min_le_left _ _) og;exact⟨by rw[e1];rfl,vs,e3,e4,e2 w rfl⟩
     |str l=>
      simp only at h;obtain⟨hw,h⟩:=Zp h;rw[aW]at hw;have cw:=dy hw.2;refine core l.length (ZW (l.take n)) (by rw[cw];exact B4 hw.1) (by rw[cw];simp[Nat.min_comm]) h λψ Q A w p=>?_
      have hv:=p.val mz HK;generalize A.eval z=v at hv;cases hv with
      |str x=>
       have hx:x.data.toList.length=x.size:=by rw[nI];rfl
       obtain⟨vs,e1,e2⟩:=ZpS (C:=C) (ψ:=ψ) (P:=C.P) x (min x.data.toList.length n) w;refine⟨by rw[hx];rfl,vs,?_,Pe _,by rw[cw];exact e1⟩;grind
     |_=>cases h
    |_=>cases b<;>cases h
   |_=>cases h
 .cases h
theorem Zsk (hq:q.callee= .builtin .clear) (ho:o.op= .call q) (bq: ∀h,W h->D h) (hW: ∀i,W (.inl i)) (h:Sc C E o K q.argTypes q.args s=some r):bV C md pr ms o D W E s K r:=by
 unfold Sc at h;generalize ha:q.args.toList=l at h;generalize h0:q.argTypes[0]? =t0 at h;split at h
 .rename_i y t
  unfold wB at h;cases ht:C.P.underlying t with
  |none=>rw[ht]at h;cases h
  |some td=>
   rw[ht]at h;cases td with
   |slice e=>
    simp only at h;obtain⟨a,Ax,h⟩:=Zs h;have jV:q.args= #[y]:=by rw[<-Array.toArray_toList (xs:=q.args),ha]
    have my:y∈o.op.operands:=by rw[ho];simp[Op.operands,Call.operands,hq,jV]
    have hex: ∀(A:Act) (w w':World),(Builtin.clear_ q.argTypes o.type #[A.eval y]).run C.P w= .ok (.tuple #[]) w'->(execOp A.eval o).run C.P w= .ok (.value (.tuple #[])) w':=by
     intro A w w' hv;simp[execOp,ho,resolve,hq,invoke,builtin,jV,hv]
    cases a with
    |slice w1 p1 n=>
     cases hz:mn C.P e with
     |none=>rw[hz]at h;cases h
     |some z=>
      rw[hz]at h;simp only at h;obtain⟨hw,h⟩:=Zp h;rw[aW]at hw;have qo:=dy hw.2;rcases ZsX h with⟨rfl,XW,h⟩|⟨i,q0,cs,rfl,hi,hle,h'⟩
      .refine bV.pure bq (.pC []) rfl (λ_ _ _ _ h=>by cases h) h λψ Q A w p=>?_
       have hv:=p.val my Ax;generalize hy:A.eval y=v at hv;cases hv;exact⟨.tuple #[],w,hex A w w (by rw[hy];simp[Builtin.clear_,h0,Zl w ht]),.refl w,_,rfl,.nil⟩
      .have cD:w1=C.P.cellsOf e:=by rcases B4 hw.1 with h|h;exact h;cases h
       subst cD;refine bV.Wl bq (hW _) (.pC []) rfl (λ_ _ _ _ h=>by cases h) hi h' λψ Q A w p=>?_
       have hv:=p.val my Ax;generalize hy:A.eval y=v at hv;cases hv with
       |slice _ _ _ _ cb ad cap iE p8 hb=>
        refine⟨cb,iE,λhh=>?_⟩;obtain⟨zv,IC,Fs,hU⟩:=Rc (P:=C.P) w hz;have MN:=(Fs C ψ).xy;have H2:=R9 (Fs C ψ) n (n*zv.cells.size) (by rw[MN];exact aO _);rw[GM (by simp[size_madeCells,DY,MN])]at H2;obtain⟨w',e1,e2,e3⟩:=ZkK hb p8 (aO n) hh H2 (D9 hU) (by rw[DY,qo]) hle;refine⟨.tuple #[],w',.inl (hex A w w' ?_),e2,e3,_,rfl,.nil⟩;rw[hy];have wR:(storeCells ad (Builtin.zeroCells zv.cells n).toList).run C.P w= .ok () w':=e1;cases n with
        |zero=>
         have:w'=w:=by
          have e4:(madeCells zv.cells (0*zv.cells.size)).toList=[]:=by simp[madeCells,Array.range_zero']
          rw[e4]at e1;cases e1;rfl
         subst this;simp[Builtin.clear_,h0,Zl _ ht]
        |succ n=>
         simp[Builtin.clear_,h0,Zl _ ht,IC,wR]
    |_=>cases h
   |_=>cases h
 .cases h
end
def CS (s:St):Kn:=λh ab=>∃i,h= .inl i/\c8 s i=some ab
def zn (C:bx) (ψ:Ps) (ds:ah) (v:Value):Prop:=(∃d,ds=[d]/\VR C ψ d v)\/(ds.length≠1/\∃vs,v= .tuple vs/\bB C ψ ds vs.toList)
structure jh (C:bx) (ψ:Ps) (s:St) (w:World) (ψ':Ps) (s':St) (w':World):Prop where
 eG:eX C ψ' (CS s') w'
 ext:Ext ψ (CS s) w ψ' (CS s') w'
 news: ∀h cb,ψ' h=some cb->ψ h=some cb\/∃i,h= .inl i/\s.length<=i/\i<s'.length
def xY (P:Program) (f:FuncId) (vs:Array Value) (w:World) (R:Ending->World->Prop):Prop:=
 match (callFunc f vs).run P w with
 | .ok (.enter f' as) w'=>Calls P f' as w' R
 | .ok (.value v) w'=>R (.returned v) w'
 |_=>False
def ZxQ (C:bx) (g:Nat) (args:ah) (s:St) (out:Out ah×St):Prop:=
 s.length<=out.2.length/\
 ∀f,C.cov f=true->C.fn f=g->∀ψ w vs,eX C ψ (CS s) w->qM ψ w->Glob C ψ->bB C ψ args vs->(∀v,ψ (.inr v)=none)->(∀i,s.length<=i->i<out.2.length->ψ (.inl i)=none)->
  xY C.P f vs.toArray w λ
   | .returned v,w'=>∃ds,out.1= .val ds/\∃ψ',jh C ψ s w ψ' out.2 w'/\zn C ψ' ds v
   | .panicked ch,w'=>nL ch/\out.1= .eV/\∃ψ',jh C ψ s w ψ' out.2 w'
   | .outgrown,_=>False
def ZR (C:bx) (c:Zg):Prop:=∀g args s out,c g args s=some out->ZxQ C g args s out
def mH (ψ:Ps):Ps
 | .inl i=>ψ (.inl i)
 | .inr _=>none
def xD (ψ jO:Ps):Ps
 | .inl i=>jO (.inl i)
 | .inr v=>ψ (.inr v)
def M4 (s':St) (Q:Kn):Kn:=λh ab=>CS s' h ab\/(Q h ab/\∀i,h= .inl i->s'.length<=i)
section
variable {C:bx} {ψ jO:Ps} {Q:Kn} {s s':St} {w w':World}
theorem DR (e:mH ψ h=some cb):ψ h=some cb/\∃i,h= .inl i:=by
 cases h with
 |inl i=>exact⟨e,i,rfl⟩
 |inr v=>cases e
theorem Zq3 {vs:List Value} (h:bB C ψ ds vs):bB C (mH ψ) ds vs:=h.mono (ψ:=ψ) (ψ':=mH ψ) λ_ _ e=>e
theorem ZrJ (h:eX C ψ Q w) (hk: ∀i ab cb,c8 s i=some ab->ψ (.inl i)=some cb->Q (.inl i) ab):eX C (mH ψ) (CS s) w:=by
 constructor
 .intro k cb ab e q
  obtain⟨e,i,rfl⟩:=DR e;obtain⟨_,hi,q⟩:=q;cases hi;exact(h.holds _ cb ab e (hk i ab cb q e)).same (ψ:=ψ) (ψ':=mH ψ) (λ_ _ e=>e) rfl
 .intro k cb ab k' fR cN e q hs e' q' hn
  obtain⟨e,i,rfl⟩:=DR e;obtain⟨e',i',rfl⟩:=DR e';obtain⟨_,hi,q⟩:=q;cases hi;obtain⟨_,hi,q'⟩:=q';cases hi;exact h.sO _ cb ab _ fR cN e (hk i ab cb q e) hs e' (hk i' cN fR q' e') hn
theorem frame (h:eX C ψ Q w) (hb:qM ψ w) (hk: ∀i ab cb,c8 s i=some ab->ψ (.inl i)=some cb->Q (.inl i) ab) (hlen:s.length<=s'.length)
  (hc:jh C (mH ψ) s w jO s' w'):eX C (xD ψ jO) (M4 s' Q) w'/\Ext ψ Q w (xD ψ jO) (M4 s' Q) w':=by
 have mono: ∀k cb,ψ k=some cb->xD ψ jO k=some cb:=by
  intro k cb e;cases k with
  |inl i=>exact hc.ext.mono (.inl i) cb e
  |inr v=>exact e
 have Nb: ∀b,tA (mH ψ) (CS s) b->∃i cb ab,ψ (.inl i)=some cb/\c8 s i=some ab/\Q (.inl i) ab/\ab.gI=true/\cb.b=b:=by
  rintro b ⟨k,cb,ab,e,⟨i,rfl,q⟩,hs,hb⟩;exact⟨i,cb,ab,e,q,hk i ab cb q e,hs,hb⟩
 have YP: ∀b,tA (mH ψ) (CS s) b->tA ψ Q b:=by
  intro b hs;obtain⟨i,cb,ab,e,_,q,hs,hb⟩:=Nb b hs;exact⟨_,cb,ab,e,q,hs,hb⟩
 have Ez: ∀k cb ab,xD ψ jO k=some cb->Q k ab->(∀i,k= .inl i->s'.length<=i)->ψ k=some cb/\¬tA (mH ψ) (CS s) cb.b/\cb.b<w.heap.size:=by
  intro k cb ab e q hf;have e':ψ k=some cb:=by
   cases k with
   |inr v=>exact e
   |inl i=>
    rcases hc.news _ _ e with e|⟨j,hj,_,ax⟩
    .exact e
    grind
  refine⟨e',λhs=>?_,hb _ _ e'⟩;obtain⟨i,cb0,ab0,e0,q0,qq,Ip,Au⟩:=Nb _ hs;have dI:(Sum.inl i:du)≠k:=by
   rintro rfl;have h1:=hf i rfl;have h2:=BR q0;omega
  exact h.sO _ cb0 ab0 _ cb ab e0 qq Ip e' q dI Au.symm
 refine⟨⟨?_,?_⟩,⟨mono,?_,hc.ext.size,?_,?_,?_,hc.ext.tape,hc.ext.os,hc.ext.output⟩⟩
 .intro k cb ab e q
  rcases q with⟨i,rfl,q⟩|⟨q,hf⟩
  .exact(hc.eG.holds (.inl i) cb ab e ⟨i,rfl,q⟩).same (ψ:=jO) (ψ':=xD ψ jO) (λ_ _ e=>e) rfl
  .obtain⟨e1,e2,e3⟩:=Ez k cb ab e q hf
   exact(h.holds k cb ab e1 q).same (λi cb e=>mono _ _ e) (hc.ext.jy _ e3 e2)
 .intro k cb ab k' fR cN e q hs e' q' hn
  rcases q with⟨i,rfl,q⟩|⟨q,hf⟩<;>rcases q' with⟨i',rfl,q'⟩|⟨q',Ay⟩
  .exact hc.eG.sO (.inl i) cb ab (.inl i') fR cN e ⟨i,rfl,q⟩ hs e' ⟨i',rfl,q'⟩ hn
  .obtain⟨e1,e2,e3⟩:=Ez k' fR cN e' q' Ay
   rcases hc.ext.gI cb.b ⟨.inl i,cb,ab,e,⟨i,rfl,q⟩,hs,rfl⟩with h1|h1
   .grind
   .omega
  .obtain⟨e1,e2,e3⟩:=Ez k cb ab e q hf
   rcases hc.ext.rR (.inl i') fR e' with h1|⟨h1,_⟩
   .obtain⟨y,i2,HS,hy⟩:=hc.ext.live (.inl i') fR cN h1 ⟨i',rfl,q'⟩
    cases HS;exact h.sO k cb ab (.inl i') fR y e1 q hs h1 (hk i' y fR hy h1) hn
   grind
  .obtain⟨e1,_,_⟩:=Ez k cb ab e q hf
   obtain⟨wR,_,_⟩:=Ez k' fR cN e' q' Ay;exact h.sO k cb ab k' fR cN e1 q hs wR q' hn
 .intro k cb e
  cases k with
  |inr v=>exact .inl e
  |inl i=>
   rcases hc.ext.rR (.inl i) cb e with h1|⟨h1,h2⟩
   .exact .inl h1
   grind
 .intro b ec hn
  exact hc.ext.jy b ec λhs=>hn (YP b hs)
 .rintro b ⟨k,cb,ab,e,q,hs,ec⟩
  rcases q with⟨i,rfl,q⟩|⟨q,hf⟩
  .exact(hc.ext.gI b ⟨.inl i,cb,ab,e,⟨i,rfl,q⟩,hs,ec⟩).imp (YP b) id
  .obtain⟨e1,_,_⟩:=Ez k cb ab e q hf
   exact .inl ⟨k,cb,ab,e1,q,hs,ec⟩
 .intro k cb x e q
  rcases q with⟨i,rfl,q⟩|⟨q,_⟩
  .obtain⟨y,i2,HS,hy⟩:=hc.ext.live (.inl i) cb x e ⟨i,rfl,q⟩
   grind
  .exact⟨x,q⟩
end
section
variable {C:bx} {o:Oper} {D W:du->Prop} {E:Env} {s:St} {md:Md} {pr ms:al}
theorem ZnP {m:M ah} {K:ah->M β} (h:LA md m K s=some r):
  (∃ds s1,m s=some (.val ds,s1)/\K ds s1=some r/\(2<=md.x->St.Tz s s1))\/(md.x=0/\∃s1,m s=some (.eV,s1)/\r=(.eV,s1)):=by
 unfold LA at h;cases hx:md.x with
 |zero=>
  rw[hx]at h;simp only[cY]at h;grind
 |succ n=>
  cases n with
  |zero=>
   rw[hx]at h;simp only[uX]at h;grind
  |succ n=>
   rw[hx]at h;simp only[qZ]at h;grind
theorem DP {m:M ah} : ∀ {bs:al} {o:Out ah} {s1:St},En E bs m s=some (o,s1)->
  m s=some (o,s1)/\∀ds,o= .val ds->∀b∈bs,∃j p,E.get b= .v (.ptr (some (j,p)))/\s1[j]? =s[j]?
 |[],_,_,h=>⟨h,λ_ _ b hb=>by cases hb⟩
 |b::bs,o,s1,h=>by
  unfold En at h;cases he:E.get b with
  |v d=>
   rw[he]at h;cases d with
   |ptr a=>
    cases a with
    |none=>cases h
    |some jq=>
     obtain⟨j,q'⟩:=jq;simp only[WS]at h;cases hm:En E bs m s with
     |none=>rw[hm]at h;cases h
     |some p=>
      obtain⟨o1,s2⟩:=p;rw[hm]at h;cases o1 with
      |val ds=>
       simp only at h;split at h
       .rename_i hk
        cases h;obtain⟨h1,h2⟩:=DP hm;grind
       .cases h
      |eV=>
       simp only at h;cases h;exact⟨(DP hm).1,λlz e=>by cases e⟩
   |_=>cases h
  |_=>rw[he]at h;cases h
theorem KB {f:Operand} (hq:q.callee= .value f) (ho:o.op= .call q) (bq: ∀h,W h->D h) (hD: ∀i,D (.inl i))
  {c:Zg} (hc:ZR C c) {as:ah} (hf:E.src C f= .v (.func g fs cs)) (has:SV C E q.args.toList as)
  {out:Out ah} (sQ:c g (fs++as++cs) s=some (out,s1)) (hW: ∀ds,out= .val ds->∀i,W (.inl i)\/(i<s.length->s1[i]? =s[i]?)):
  (out= .eV->wm C o D E s s1)/\
  (∀ds e,out= .val ds->e.cS=none->(∀r v n,e≠ .pl r v n)->(∀ψ v,zn C ψ ds v->fp C ψ e v)->lO W pr ms o E s (E.eR o.dst e) s1/\Bw C o D W E s (E.eR o.dst e) s1):=by
 have ok:=hc g _ s _ sQ;have hlen:s.length<=s1.length:=ok.1;have mf:f∈o.op.operands:=by rw[ho];simp[Op.operands,Call.operands,hq]
 have ma: ∀x∈q.args.toList,x∈o.op.operands:=by intro x hx;rw[ho];simp only[Op.operands,Call.operands,hq];grind
 have sem: ∀ψ Q (A:Act) (w:World) (next:Act->World->Prop) (QQ:Exit->Act->World->Prop),aC C o D E s ψ Q A w->(∀i,s.length<=i->i<s1.length->ψ (.inl i)=none)->
   (∀ds v w' jO,out= .val ds->jh C (mH ψ) s w jO s1 w'->zn C jO ds v->next (A.put o.dst v) w')->(∀ch w' jO,nL ch->out= .eV->jh C (mH ψ) s w jO s1 w'->QQ (.panic ch) A w')->o.wp C.P A w next QQ:=by
  intro ψ Q A w next QQ p room hv hp;have hfv:=p.val mf hf;generalize rr:A.eval f=v at hfv;cases hfv with
  |func k _ _ vf vc vn h1 h2=>
   have h3:=GI p ma has;have jV:bB C (mH ψ) (fs++as++cs) (vf.toList++q.args.toList.map A.eval++vc.toList):=Zq3 (bB.append (bB.append h1 h3) h2);have:=ok.2 k vn rfl (mH ψ) w _ (ZrJ p.eG λi ab cb h e=>p.jz (.inl i) ab cb (hD i) h e) (λh cb e=>p.gm h cb (DR e).1)
    (λg hg=>let ⟨cb,e1,e2⟩:=p.ku g hg;⟨cb,e1,e2⟩) jV (λ_=>rfl) (λi h1 h2=>room i h1 h2)
   have nv:(vf.toList++q.args.toList.map A.eval++vc.toList).toArray=vf++q.args.map A.eval++vc:=by
    apply Array.ext';simp
   rw[nv]at this;have hex:(execOp A.eval o).run C.P w=(callFunc k (vf++q.args.map A.eval++vc)).run C.P w:=by
    simp[execOp,ho,resolve,hq,rr,Deferred.ofValue,invoke]
   unfold Oper.wp;rw[hex];unfold xY at this;split at this
   .rename_i f' as' w' hr
    rw[hr];refine Calls.mono this λe vY he=>?_
    grind
   .rename_i v w' hr
    rw[hr];obtain⟨ds,e1,jO,e2,e3⟩:=this;exact hv ds v w' jO e1 e2 e3
   .exact this.elim
 refine⟨λCD=>⟨hlen,λψ Q A w next QQ p room hn=>?_⟩,λds e CD xq kW Ya=>⟨lO.put pr ms e xq (by grind) hlen (λi ab h=>?_) (λi h hi=>?_) (.inr (by grind[sf])),λψ Q A w next QQ p room hn=>?_⟩⟩
 .have M9: ∀i,s.length<=i->i<s1.length->ψ (.inl i)=none:=λi h1 h2=>room (.inl i) ⟨zj.2 h1,h2⟩
  have hk: ∀i ab cb,c8 s i=some ab->ψ (.inl i)=some cb->Q (.inl i) ab:=λi ab cb h e=>p.jz (.inl i) ab cb (hD i) h e
  refine sem ψ Q A w next QQ p M9 (by grind) λch w' jO uc _ If=>?_
  obtain⟨f1,f2⟩:=frame p.eG p.gm hk hlen If;refine hn (xD ψ jO) (M4 s1 Q) ch w' uc f1 f2 (λh cb e=>?_) λi ab cb h e=> .inl ⟨i,rfl,h⟩
  cases h with
  |inr v=>exact .inl e
  |inl i=>
   rcases If.news _ _ e with e|⟨j,hj,h1,h2⟩
   .exact .inl e
   .cases hj;exact .inr ⟨zj.2 h1,h2⟩
 .grind[c8]
 .grind
 .have M9: ∀i,s.length<=i->i<s1.length->ψ (.inl i)=none:=λi h1 h2=>room (.inl i) ⟨zj.2 h1,h2⟩
  have hk: ∀i ab cb,c8 s i=some ab->ψ (.inl i)=some cb->Q (.inl i) ab:=λi ab cb h e=>p.jz (.inl i) ab cb (hD i) h e
  refine sem ψ Q A w next QQ p M9 (λlz v w' jO h If hr=>?_) (by grind);rw[CD]at h;cases h;obtain⟨f1,f2⟩:=frame p.eG p.gm hk hlen If;have lX:zn C (xD ψ jO) ds v:=by
   rcases hr with⟨d,e1,e2⟩|⟨e1,vs,e2,e3⟩
   .exact .inl ⟨d,e1,e2.mono (ψ:=jO) (ψ':=xD ψ jO) λ_ _ e=>e⟩
   .exact .inr ⟨e1,vs,e2,e3.mono (ψ:=jO) (ψ':=xD ψ jO) λ_ _ e=>e⟩
  refine hn (xD ψ jO) (M4 s1 Q) v w' ⟨f1,f2,λh cb e=>?_,λh ab cb cr hw e'=>?_,λh ab cb e' q' nw dm=>?_⟩ (λd' oe=>?_)
  .cases h with
   |inr v=>exact .inl e
   |inl i=>
    rcases If.news _ _ e with e|⟨j,hj,h1,h2⟩
    .exact .inl e
    .cases hj;exact .inr ⟨zj.2 h1,h2⟩
  .cases h with
   |inl i=>exact .inl ⟨i,rfl,cr⟩
   |inr x=>
    rcases hw with hw|⟨n1,n2⟩
    .have nV:CR (E.eR o.dst e) s (.inr x) ab:=cr
     exact .inr ⟨p.jz (.inr x) ab cb (bq _ hw) (nV.eR xq) e',λi hi=>by cases hi⟩
    grind[dQ,Env.Fv]
  .cases h with
   |inr x=>exact .inr (by grind)
   |inl i=>
    rcases jC i s.length with hi|hi
    .rcases hW ds CD i with h'|h'
     .exact absurd h' nw
     .have h1:c8 s i=some ab:=dm (hD i) hi
      exact .inl ⟨i,rfl,by grind[c8]⟩
    .rcases jC i s1.length with ET|ET
     .rw[M9 i hi ET]at e';cases e'
     .exact .inr (by grind)
  grind[Env.jU]
theorem ZtE {f:Operand} (hq:q.callee= .value f) (ho:o.op= .call q) (bq: ∀h,W h->D h) (hD: ∀i,D (.inl i)) (hW: ∀i,W (.inl i)\/2<=md.x\/∃b∈md.bs,∀j p,E.get b= .v (.ptr (some (j,p)))->j=i)
  {c:Zg} (hc:ZR C c) (h:S8 C E o K md c f q.args s=some r):bV C md pr ms o D W E s K r:=by
 unfold S8 at h;obtain⟨fv,hf,h⟩:=Zs h;obtain⟨as,h,has⟩:=Gr h;have hW': ∀(s1:St),(2<=md.x->St.Tz s s1)->(∀b∈md.bs,∃j p,E.get b= .v (.ptr (some (j,p)))/\s1[j]? =s[j]?)->∀i,W (.inl i)\/(i<s.length->s1[i]? =s[i]?):=λs1 hb hk i=>by
  rcases hW i with h|h|⟨b,mD,cU⟩
  .exact .inl h
  .obtain⟨x,rfl⟩:=hb h
   grind
  grind
 cases fv with
 |func g fs cs=>
  simp only at h;generalize YM C.P o.type=ro at h;obtain⟨many,I7⟩:=ro;cases many with
  |true=>
   simp only at h;obtain⟨h1,h⟩:=Gi h;have h1:=Jo h1;rcases ZnP h with⟨ds,s1,hm,h,hb⟩|⟨hx,s1,hm,rfl⟩
   .obtain⟨lz,h,hl,nu,hr⟩:=Gy h
    obtain⟨hm,hk⟩:=DP hm;obtain⟨e1,e2⟩:=(KB (pr:=pr) (ms:=ms) hq ho bq hD hc hf has hm (by grind)).2 ds (.pC lz) rfl rfl (λ_ _ _ h=>by cases h) (λψ v hv=>by
     rcases hv with⟨d,e,_⟩|⟨_,vs,e,e'⟩
     .rw[e]at hl;simp at hl;omega
     .exact⟨vs,e,hr C ψ _ e'⟩)
    exact .inl ⟨_,s1,h,e1,e2⟩
   .exact .inr ⟨hx,s1,rfl,(KB (pr:=pr) (ms:=ms) hq ho bq hD hc hf has (DP hm).1 (λds e=>by cases e)).1 rfl⟩
  |false=>
   simp only at h;rcases ZnP h with⟨ds,s1,hm,h,hb⟩|⟨hx,s1,hm,rfl⟩
   .obtain⟨lz,h,hl,nu,hr⟩:=Gy h
    cases lz with
    |nil=>cases h
    |cons d rest=>
     cases rest with
     |cons _ _=>cases h
     |nil=>
      simp only at h;obtain⟨hm,hk⟩:=DP hm;obtain⟨e1,e2⟩:=(KB (pr:=pr) (ms:=ms) hq ho bq hD hc hf has hm (by grind)).2 ds (.v d) rfl rfl (λ_ _ _ h=>by cases h) (λψ v hv=>by
       rcases hv with⟨d0,e,Cn⟩|⟨e,_⟩
       .subst e
        have:=hr C ψ [v] (.cons _ _ _ _ Cn .nil);cases this with
        |cons _ _ _ _ a _=>exact a
       grind)
      exact .inl ⟨_,s1,h,e1,e2⟩
   .exact .inr ⟨hx,s1,rfl,(KB (pr:=pr) (ms:=ms) hq ho bq hD hc hf has (DP hm).1 (λds e=>by cases e)).1 rfl⟩
 |_=>cases h
end
def NC (h:du):Prop:=∃i,h= .inl i
def NI (E:Env) (r:Nat) (h:du):Prop:=∃v,h= .inr v/\(E.get r).cS=some v
def oE:Md->Env->du->Prop
 | .s,_,_=>True
 | .d .pure _,_,_=>False
 | .d (.vT r) _,E,h=>NI E r h
 | .d (.oy r) _,E,h=>NI E r h
 | .d (.lp a) _,E,h=>∃i p,E.get a= .v (.ptr (some (i,p)))/\h= .inl i
 | .d _ _,_,h=>NC h
def mm:Md->Env->du->Prop
 | .s,_,_=>True
 | .d .wr _,_,h=>NC h
 | .d .call x,_,h=>x<2/\NC h
 | .d (.oy r) _,E,h=>NI E r h
 | .d (.ap bs) _,E,h=>∃i,h= .inl i/\∀b∈bs,∃j p,E.get b= .v (.ptr (some (j,p)))/\j≠i
 | .d _ _,_,_=>False
theorem K1 (md:Md) (E:Env) (h:du) (w:mm md E h):oE md E h:=by
 cases md with
 |s=>trivial
 |d k x=>cases k<;>first|exact w|exact w.2|exact w.elim|(obtain⟨i,e,_⟩:=w;exact⟨i,e⟩)
variable {X:M β}
section
variable {C:bx} {o:Oper} {E:Env} {s:St} {md:Md} {pr ms:al}
theorem Zrx {a:Operand} (ho:o.op= .load t a):cls P pr ops o= .hp\/(∃b,a= .tmp b/\cls P pr ops o= .lp b)\/∃r,cls P pr ops o= .vT r:=by
 grind[cls]
theorem ZpO {a:Operand} (ho:o.op= .store t a y):cls P pr ops o= .wr\/cls P pr ops o= .ap []\/∃r,cls P pr ops o= .oy r:=by
 grind[cls]
theorem Rj {E:Env} {p:ai} {X:M β} {r:Out β×St} : ∀ {bs:al},Hm E p bs X s=some r->X s=some r/\∀b∈bs,∀i q,p=some (i,q)->∃j q',E.get b= .v (.ptr (some (j,q')))/\j≠i
 |[],h=>⟨h,λb hb=>by cases hb⟩
 |b::bs,h=>by
  unfold Hm at h;cases he:E.get b with
  |v d=>
   rw[he]at h;cases d with
   |ptr a=>
    cases a with
    |none=>cases h
    |some jq=>
     obtain⟨j,q'⟩:=jq;simp only at h;obtain⟨h1,h⟩:=Z8 h;obtain⟨h,h2⟩:=Rj h;refine⟨h,λb' ec i q hp=>?_⟩;rcases dW.1 ec with rfl|ec
     .refine⟨j,q',he,?_⟩
      rw[hp]at h1;unfold apart at h1;rintro rfl;simp at h1
     grind
   |_=>cases h
  |_=>rw[he]at h;cases h
theorem Zv2 {bs:al} (h:Tp C E bs as X s=some r):
  X s=some r/\∀y z i q n,as.toList.head?=some y->E.src C y= .v (.slice z (some (i,q)) n)->∀b∈bs,∃j q',E.get b= .v (.ptr (some (j,q')))/\j≠i:=by
 unfold Tp at h;cases bs with
 |nil=>grind
 |cons b r=>
  simp only at h;cases hy:as.toList with
  |nil=>rw[hy]at h;cases h
  |cons y ys=>
   rw[hy]at h;simp only at h;obtain⟨d,hd,h⟩:=Zs h;cases d with
   |slice z p n=>
    obtain⟨h1,h2⟩:=Rj h;grind
   |_=>cases h
theorem Zv3 {bs:al} {a:Operand} (h:Wn C E bs a X s=some r):
  X s=some r/\∀i q,E.src C a= .v (.ptr (some (i,q)))->∀b∈bs,∃j q',E.get b= .v (.ptr (some (j,q')))/\j≠i:=by
 unfold Wn at h;cases bs with
 |nil=>grind
 |cons b r=>
  simp only at h;cases he:E.src C a with
  |v d=>
   rw[he]at h;cases d with
   |ptr p=>
    obtain⟨h1,h2⟩:=Rj h;grind
   |_=>cases h
  |_=>rw[he]at h;cases h
theorem SN (hC:nJ C) {c:Zg} (hc:ZR C c) (kA:md= .s\/∃x k m,md= .d (uz pr ops k m (cls C.P pr ops o)) x) (h:fj C pr ms md c o E K s=some r):
  bV C md pr ms o (oE md E) (mm md E) E s K r:=by
 have bq: ∀h,mm md E h->oE md E h:=K1 md E;unfold fj at h;cases ho:o.op with
 |move y=>rw[ho]at h;exact Znx (.inl ho) bq h
 |assign y=>rw[ho]at h;exact Znx (.inr ho) bq h
 |pick b y z=>rw[ho]at h;exact ZtC ho bq h
 |alloc t=>rw[ho]at h;exact Zss ho bq h
 |box t y=>rw[ho]at h;exact Zvb ho bq h
 |build t ps=>rw[ho]at h;exact ZsL ho bq h
 |buildSlice t n ps=>rw[ho]at h;exact ZmT ho bq h
 |load t a=>
  rw[ho]at h;refine Ztu ho bq ?_ ?_ h
  .intro r v hm hv
   rcases kA with rfl|⟨x,k,m,rfl⟩
   .trivial
   .rcases Zrx (P:=C.P) (pr:=pr) (ops:=ops) ho with e|⟨b,_,e⟩|⟨q,e⟩<;>rw[e]at hm⊢
    .cases hm
    .cases hm
    .have:q=r:=dy hm
     subst this;exact⟨v,rfl,hv⟩
  .intro hm i p0 hx
   rcases kA with rfl|⟨x,k,m,rfl⟩
   .trivial
   .rcases Zrx (P:=C.P) (pr:=pr) (ops:=ops) ho with e|⟨b,hb,e⟩|⟨q,e⟩<;>rw[e]at hm⊢
    .exact⟨i,rfl⟩
    .rw[hb]at hx
     have hx:E.get b= .v (.ptr (some (i,p0))):=by
      grind[Env.src]
     exact⟨i,p0,hx,rfl⟩
    .cases hm
 |store t a y=>
  rw[ho]at h;simp only at h;obtain⟨hd,h⟩:=Zp h;obtain⟨h,cc⟩:=Zv3 h;refine ZsA ho (by simpa using hd) bq ?_ ?_ h
  .intro r v hm hv
   rcases kA with rfl|⟨x,k,m,rfl⟩
   .trivial
   .rcases ZpO (P:=C.P) (pr:=pr) (ops:=ops) ho with e|e|⟨q,e⟩<;>rw[e]at hm⊢
    .cases hm
    .cases hm
    .have:q=r:=dy hm
     subst this;exact⟨v,rfl,hv⟩
  .intro hm i p hx
   rcases kA with rfl|⟨x,k,m,rfl⟩
   .trivial
   .rcases ZpO (P:=C.P) (pr:=pr) (ops:=ops) ho with e|e|⟨q,e⟩<;>rw[e]at hm cc⊢
    .exact⟨i,rfl⟩
    .exact⟨i,rfl,cc i p hx⟩
    .cases hm
 |nilCheck y=>rw[ho]at h;exact Zol ho bq h
 |binOp op t y z u=>rw[ho]at h;exact ZuK hC ho bq h
 |unOp op t y=>rw[ho]at h;exact Zww ho bq h
 |convert t u y=>
  rw[ho]at h;refine Zqo ho bq (λi=>?_) h;rcases kA with rfl|⟨x,k,m,rfl⟩
  .trivial
  .have:cls C.P pr ops o= .hp:=by unfold cls;rw[ho]
   rw[this];exact⟨i,rfl⟩
 |makeInterface t y=>rw[ho]at h;exact ZsI ho bq h
 |makeFunc f x y=>rw[ho]at h;exact Zt7 ho bq h
 |makeSlice t x y=>rw[ho]at h;exact Zoa ho bq h
 |slice t y lo hi mx=>
  rw[ho]at h;cases mx with
  |some _=>cases h
  |none=>
   refine Zsy ho bq (λ⟨m,e,ht⟩ i=>?_) h;rcases kA with rfl|⟨x,k,m,rfl⟩
   .trivial
   .have:cls C.P pr ops o= .hp:=by grind[cls]
    rw[this];exact⟨i,rfl⟩
 |fieldAddr t y f=>rw[ho]at h;exact ZnN ho bq h
 |field t y f=>rw[ho]at h;exact ZsG ho bq h
 |indexAddr t y i=>rw[ho]at h;exact ZnZ ho bq h
 |index t y i=>rw[ho]at h;exact Zso ho bq h
 |range t y=>rw[ho]at h;exact ZsC ho bq h
 |next it b=>
  rw[ho]at h;cases it with
  |tmp t=>
   cases b with
   |true=>
    refine ZtS ho bq (λv hv=>?_) h;rcases kA with rfl|⟨x,k,m,rfl⟩
    .trivial
    .have:cls C.P pr ops o= .oy t:=by unfold cls;rw[ho]
     rw[this];exact⟨v,rfl,hv⟩
   |false=>cases h
  |_=>cases b<;>cases h
 |typeAssert y t u ok=>
  rw[ho]at h;cases ok with
  |true=>cases h
  |false=>
   refine ZqS hC ho bq (λi=>?_) h;rcases kA with rfl|⟨x,k,m,rfl⟩
   .trivial
   .have:cls C.P pr ops o= .wr:=by unfold cls;rw[ho]
    rw[this];exact⟨i,rfl⟩
 |extract t i=>
  rw[ho]at h;cases t with
  |tmp t=>exact Zqf ho bq h
  |_=>cases h
 |panic y=>
  rw[ho]at h;refine Zsj ho (λi=>?_) h;rcases kA with rfl|⟨x,k,m,rfl⟩
  .trivial
  .have:cls C.P pr ops o= .wr:=by unfold cls;rw[ho]
   rw[this];exact⟨i,rfl⟩
 |call q=>
  rw[ho]at h;simp only at h;have wr: ∀b,q.callee= .builtin b->b≠ .len->b≠ .min->b≠ .max->b≠ .append->∀i,mm md E (.inl i):=by
   intro b hq h1 h2 h3 h4 i;rcases kA with rfl|⟨x,k,m,rfl⟩
   .trivial
   .have:cls C.P pr ops o= .wr:=by
     grind[cls]
    rw[this];exact⟨i,rfl⟩
  cases hq:q.callee with
  |value f=>
   rw[hq]at h;have cL:cls C.P pr ops o= .ap []\/cls C.P pr ops o= .call:=by
    grind[cls]
   refine ZtE hq ho bq (λi=>?_) (λi=>?_) hc h
   .rcases kA with rfl|⟨x,k,m,rfl⟩
    .trivial
    .rcases cL with this|this<;>rw[this]<;>exact⟨i,rfl⟩
   .rcases kA with rfl|⟨x,k,m,rfl⟩
    .exact .inl trivial
    .rcases cL with this|this<;>rw[this]
     .by_cases hb: ∀b∈(Md.d (uz pr ops k m (.ap [])) x).bs,∃j p,E.get b= .v (.ptr (some (j,p)))/\j≠i
      .exact .inl ⟨i,rfl,hb⟩
      grind
     .rcases jC x 2 with hx|hx
      .exact .inl ⟨hx,i,rfl⟩
      .exact .inr (.inl hx)
  |invoke f m=>rw[hq]at h;cases h
  |builtin b=>
   rw[hq]at h;cases b with
   |len=>exact ZvI hq rfl ho bq h
   |append=>
    obtain⟨h,w4⟩:=Zv2 h;have hc:cls C.P pr ops o= .ap []:=by grind[cls]
    refine Zqs hq ho bq (λi=>?_) (λy z i p n hy he=>?_) h
    .rcases kA with rfl|⟨x,k,m,rfl⟩
     .trivial
     .rw[hc];exact⟨i,rfl⟩
    .rcases kA with rfl|⟨x,k,m,rfl⟩
     .trivial
     .rw[hc]at w4⊢
      exact⟨i,rfl,w4 y z i p n hy he⟩
   |copy=>exact Zuj hq ho bq (by grind) h
   |min=>exact ZpR (mx:=false) hq rfl ho bq h
   |max=>exact ZpR (mx:=true) hq rfl ho bq h
   |clear=>exact Zsk hq ho bq (by grind) h
   |_=>cases h
 |_=>rw[ho]at h;cases h
end
end Go.Gv
