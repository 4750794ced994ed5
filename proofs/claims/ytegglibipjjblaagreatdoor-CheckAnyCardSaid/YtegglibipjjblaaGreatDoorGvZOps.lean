/- What an operation does, said of the machine and of the model: the frame of the proofs for the single operations. -/
import Derived.Test.YtegglibipjjblaaGreatDoorGvRel
import Derived.Laws.Strings
import Derived.Laws.Concat
import Derived.DeepKeys
import Derived.Laws.Slices
import Derived.Laws.BytesArg
import Derived.Laws.Tables
import Derived.Laws.MakeOwn
import Derived.Laws.Append
set_option linter.all false
namespace Go.Gv
theorem Ix (k:Nat) (e:eQ) (l:List (Nat×eQ)) (t:Nat):look ((k,e)::l) t=if k=t then e else look l t:=by
 simp[look]
theorem Env.sG (E:Env) (t:Nat) (e:eQ) (u:Nat):(E.put t e).get u=if t=u then e else E.get u:=Ix t e E.l u
theorem Env.agQ (n:Nat) (t:Nat) (e:eQ) (l:List (Nat×eQ)) (u:Nat):(⟨n,(t,e)::l⟩:Env).get u=if t=u then e else look l u:=Ix t e l u
@[simp] theorem Env.acD (E : Env) (t : Nat) (e : eQ) : (E.put t e).bQ = E.bQ := rfl
@[simp] theorem Env.Hk (E : Env) (t : Option Nat) (e : eQ) : (E.fg t e).bQ = E.bQ := by cases t <;> rfl
theorem Env.kG (E:Env) (t:Option Nat) (e:eQ) (u:Nat):(E.fg t e).get u=if t=some u then e else E.get u:=by
 cases t with
 |none=>simp[Env.fg]
 |some t=>simp[Env.fg,Env.sG,fT]
theorem IV: ∀(l:al) (t:Nat),has l t=true↔t∈l
 |[],t=>by simp[has]
 |k::r,t=>by
  rw[has,lV,eF,IV r t];constructor
  .rintro(h|h)
   .simp_all
   .exact .inr h
  .rintro(h|h)
   .simp_all
   .exact .inr h
theorem zV (E:Env) (ts:al) (t:Nat):(E.del ts).get t=if has ts t then .u else E.get t:=by
 have key: ∀l:List (Nat×eQ),look (Gl l ts) t=if has ts t then .u else look l t:=by
  intro l;induction l with
  |nil=>simp[Gl,look]
  |cons x r ih=>
   have⟨k,e⟩:=x;rw[Gl];cases hk:has ts k with
   |true=>
    rw[ae,ih,Ix];by_cases h:k=t
    .subst h;simp[hk]
    .simp[h]
   |false=>
    simp only[af,Ix,ih];by_cases h:k=t
    .subst h;simp[hk]
    .simp[h]
 exact key E.l
@[simp] theorem akP (E : Env) (ts : al) : (E.del ts).bQ = E.bQ := rfl
def ej (E:Env) (s:St):dH->Prop
 | .inl i=>i<s.length
 | .inr v=>v<E.bQ
def xw (E:Env) (s:St) (E':Env) (s':St) (h:dH):Prop:=¬ej E s h/\ej E' s' h
variable {ab:AB} {ad base:Addr} {ps:Array (Nat×Operand)} {as cap first:Array Operand} {ts:Array TypeId} {c vs zv:Array Value} {op:BinOp} {f mx:Bool} {cb:CB} {q:Call} {Q Q' Q1:Kn} {ops:List Oper} {md:Md} {g i j lim m n o' off p sz z0:Nat} {y:Operand} {hi lo:Option Operand} {P:Program} {ψ ψ':Ps} {s s' s1:St} {α β:Type} {d ed td:TypeDesc} {e t ty u xt yt:TypeId} {v:Value} {w w':World} {cs cs' ds fs xs ys z:ah} {ms pr:al} {C:bC} {h:dH}
theorem DL (h:dx s i=some ab):i<s.length:=by
 grind[dx]
variable {E:Env}
theorem CR.qV (hE:jx E) (c:CR E s h ab):ej E s h:=by
 cases h with
 |inl i=>exact DL c
 |inr v=>
  rcases c with⟨t,n,cs,e,_⟩|⟨t,l,p,e,_⟩
  .exact hE.lt t v (by rw[e];rfl)
  .exact hE.lt t v (by rw[e];rfl)
theorem LU {x:St} (h:i<s.length):dx (s++x) i=dx s i:=by
 grind[dx]
theorem QO (s:St) (b:bO):dx (s++[some b]) s.length=some (.cells b.dQ b.cells):=by
 simp[dx]
def Spec (pr:al) (o:Oper):Prop:=
 match o.op with
 | .store .. | .next .. | .range .. =>True
 | .alloc _| .box _ _=>∃d,o.dst=some d/\has pr d=true
 |_=>False
def tr (o:Oper):Prop:=
 match o.op with
 | .alloc _| .box .. | .buildSlice .. | .makeSlice .. | .convert .. =>True
 | .call q=>match q.callee with
  | .value _| .builtin .append=>True
  |_=>False
 |_=>False
structure mM (W:dH->Prop) (pr ms:List Nat) (o:Oper) (E:Env) (s:St) (E':Env) (s':St):Prop where
 len:s.length<=s'.length
 bQ:E.bQ<=E'.bQ
 gR:jx E->jx E'
 other: ∀t,o.dst≠some t->has ms t=false->E'.get t=E.get t
 val: ∀t d,o.dst≠some t->E'.get t= .v d->E.get t= .v d
 bJ: ∀t,o.dst≠some t->∀(C:bC) ψ x,gI C ψ (E.get t) x->gI C ψ (E'.get t) x
 back: ∀h ab,CR E' s' h ab->W h\/xw E s E' s' h\/CR E s h ab
 xl: ∀t v n cs,E'.get t= .loc v n cs->(∃mT,E.get t= .loc v n mT)\/(E.bQ<=v/\o.dst=some t)
 zd: ∀t v l p,E'.get t= .it v l p->(∃p0,E.get t= .it v l p0)\/(E.bQ<=v/\o.dst=some t)
 acO: ∀i,¬W (.inl i)->i<s.length->s'[i]? =s[i]?
 plain:(∃e:eQ,e.df=none/\E'=E.fg o.dst e)\/Spec pr o
 grow:s'.length=s.length\/tr o
structure aB (C:bC) (o:Oper) (D:dH->Prop) (E:Env) (s:St) (ψ:Ps) (Q:Kn) (a:Act) (w:World):Prop where
 eW:ft C ψ Q w
 gE:rV ψ w
 lx:Glob C ψ
 gR:jx E
 j7: ∀h ab cb,D h->CR E s h ab->ψ h=some cb->Q h ab
 args: ∀t,.tmp t∈o.op.operands->gI C ψ (E.get t) (a.tmps.getD t undef)
def LM (E:Env) (s:St) (E':Env) (s':St) (ψ:Ps):Prop:=∀h,xw E s E' s' h->ψ h=none
structure LJ (C:bC) (D W:dH->Prop) (E:Env) (s:St) (E':Env) (s':St) (ψ:Ps) (Q:Kn) (w:World) (ψ':Ps) (Q':Kn) (w':World):Prop where
 eW:ft C ψ' Q' w'
 ext:Ext ψ Q w ψ' Q' w'
 news: ∀h cb,ψ' h=some cb->ψ h=some cb\/xw E s E' s' h
 p1: ∀h ab cb,CR E' s' h ab->(W h\/xw E s E' s' h)->ψ' h=some cb->Q' h ab
 p2: ∀h ab cb,ψ h=some cb->Q h ab->¬W h->(D h->ej E s h->CR E s h ab)->Q' h ab
def Dk (C:bC) (o:Oper) (D W:dH->Prop) (E:Env) (s:St) (E':Env) (s':St):Prop:=
 ∀(ψ:Ps) (Q:Kn) (a:Act) (w:World) (next:Act->World->Prop) (QQ:Exit->Act->World->Prop),aB C o D E s ψ Q a w->LM E s E' s' ψ->
  (∀ψ' Q' v w',LJ C D W E s E' s' ψ Q w ψ' Q' w'->(∀d,o.dst=some d->gI C ψ' (E'.get d) v)->next (a.put o.dst v) w')->o.wp C.P a w next QQ
def oK (ch:List PanicEntry):Prop:=∃t v,ch=[{ v:= .iface t v,recovered:=false }]
def xx (C:bC) (o:Oper) (D:dH->Prop) (E:Env) (s s':St):Prop:=
 s.length<=s'.length/\
 ∀(ψ:Ps) (Q:Kn) (a:Act) (w:World) (next:Act->World->Prop) (QQ:Exit->Act->World->Prop),aB C o D E s ψ Q a w->LM E s E s' ψ->
  (∀ψ' Q' ch w',oK ch->ft C ψ' Q' w'->Ext ψ Q w ψ' Q' w'->(∀h cb,ψ' h=some cb->ψ h=some cb\/xw E s E s' h)->
   (∀i ab cb,dx s' i=some ab->ψ' (.inl i)=some cb->Q' (.inl i) ab)->QQ (.panic ch) a w')->o.wp C.P a w next QQ
def ca (C:bC) (md:Md) (pr ms:al) (o:Oper) (D W:dH->Prop) (E:Env) (s:St) (K:Env->M β) (r:Out β×St):Prop:=
 (∃E' s',K E' s'=some r/\mM W pr ms o E s E' s'/\Dk C o D W E s E' s')\/(md.x=0/\∃s',r=(.fp,s')/\xx C o D E s s')
theorem ZqN {d:DV} (h:CN v=some d):VR C ψ d v:=by
 unfold CN at h;split at h<;>first|(cases h;done)|(injection h with h;subst h)
 .exact .bool _
 .exact .int _ _
 .exact .str _
 .exact .K2
 .exact .tc _
 .exact .nilFunc
 .exact .nilIface
theorem Zxt {d:DV} (h:CN v=some d):one d=true:=by
 unfold CN at h;split at h<;>first|(cases h;done)|(injection h with h;subst h;rfl)
theorem FE {C:bC} {ψ:Ps} : ∀ {vs:List Value} {ds:ah},I8 vs=some ds->bG C ψ ds vs/\ds.all one=true
 |[],ds,h=>by simp only[I8,fT]at h;subst h;exact⟨.nil,rfl⟩
 |v::vs,ds,h=>by
  simp only[I8]at h;split at h
  .rename_i d mg h1 h2
   injection h with h;subst h
   have⟨a,b⟩:=FE (C:=C) (ψ:=ψ) h2;exact⟨.cons _ _ _ _ (ZqN h1) a,by simp[Zxt h1,b]⟩
  .cases h
section
variable {C:bC} {o:Oper} {D:dH->Prop} {E:Env} {s:St} {ψ:Ps} {Q:Kn} {a:Act} {w:World}
theorem aB.src (p:aB C o D E s ψ Q a w) {x:Operand} (hx:x∈o.op.operands):gI C ψ (E.src C x) (a.eval x):=by
 cases x with
 |tmp t=>
  have h:=p.args t hx;rw[Env.src,Act.eval];cases he:E.get t with
  |loc v n cs=>
   rw[he]at h;have⟨cb,h1,h2,h3⟩:=h;exact⟨cb,h1,h2,h3⟩
  |it v l q=>exact trivial
  |u=>exact trivial
  |un=>rw[he]at h;exact h
  |v d=>rw[he]at h;exact h
  |qm ds=>rw[he]at h;exact h
  |pl r v n=>rw[he]at h;exact h
 |const v=>
  rw[Env.src,Act.eval];split
  .exact ZqN (by assumption)
  .exact trivial
 |global g=>
  rw[Env.src,Act.eval];cases hg:C.Cd g with
  |false=>exact trivial
  |true=>
   have⟨cb,h1,h2,h3⟩:=p.lx g hg;have:=VR.ptr (C:=C) (ψ:=ψ) (C.gl g) 0 cb h1;rw[h2,h3]at this;exact this
 |func f=>
  rw[Env.src,Act.eval];cases hg:C.cov f with
  |false=>exact trivial
  |true=>exact VR.func f [] [] #[] #[] hg .nil .nil
theorem aB.val (p:aB C o D E s ψ Q a w) {x:Operand} (hx:x∈o.op.operands) {d:DV} (h:E.src C x= .v d):VR C ψ d (a.eval x):=by
 have:=p.src hx;rw[h]at this;exact this
theorem Env.K9 (C:bC) (E:Env) (x:Operand):(E.src C x).df=none:=by
 cases x with
 |tmp t=>rw[Env.src];cases E.get t<;>rfl
 |const v=>rw[Env.src];cases CN v<;>rfl
 |global g=>rw[Env.src];cases C.Cd g<;>rfl
 |func f=>rw[Env.src];cases C.cov f<;>rfl
theorem Env.ET (C:bC) (hE:jx E) {x:Operand} {r v:Nat} (h:E.src C x= .pl r v n):v<E.bQ:=by
 cases x with
 |tmp t=>
  simp only[Env.src]at h;cases he:E.get t with
  |loc v' m cs=>
   rw[he]at h;simp only[eQ.pl.injEq]at h;obtain⟨_,rfl,_⟩:=h;exact hE.lt t v' (by rw[he];rfl)
  |pl r' v' n'=>
   rw[he]at h;simp only[eQ.pl.injEq]at h;obtain⟨_,rfl,_⟩:=h;exact hE.pl t _ _ _ he
  |_=>rw[he]at h;cases h
 |const v=>simp only[Env.src]at h;cases hv:CN v<;>rw[hv]at h<;>cases h
 |global g=>simp only[Env.src]at h;cases hv:C.Cd g<;>rw[hv]at h<;>cases h
 |func f=>simp only[Env.src]at h;cases hv:C.cov f<;>rw[hv]at h<;>cases h
end
theorem jx.fg {E:Env} (hE:jx E) {t:Option Nat} {e:eQ} (hv:e.df=none) (hp: ∀r v n,e= .pl r v n->v<E.bQ):jx (E.fg t e):=by
 constructor
 .intro u v h
  rw[Env.kG]at h;rw[Env.Hk];split at h
  .rw[hv]at h;cases h
  .exact hE.lt u v h
 .intro u r v n h
  rw[Env.kG]at h;rw[Env.Hk];split at h
  .exact hp r v n h
  .exact hE.pl u r v n h
 .intro u v n cs h
  rw[Env.kG]at h;split at h
  .rw[h]at hv;cases hv
  .exact hE.len u v n cs h
 .intro u u' v h h'
  rw[Env.kG]at h h';split at h
  .rw[hv]at h;cases h
  .split at h'
   .rw[hv]at h';cases h'
   .exact hE.uniq u u' v h h'
theorem CR.fg {t:Option Nat} {e:eQ} (hv:e.df=none) (c:CR (E.fg t e) s h ab):CR E s h ab:=by
 cases h with
 |inl i=>exact c
 |inr v=>
  rcases c with⟨u,n,cs,h,fV⟩|⟨u,l,p,h,fV⟩
  .rw[Env.kG]at h
   split at h
   .rw[h]at hv;cases hv
   .exact .inl ⟨u,n,cs,h,fV⟩
  .rw[Env.kG]at h
   split at h
   .rw[h]at hv;cases hv
   .exact .inr ⟨u,l,p,h,fV⟩
section
variable {C:bC} {o:Oper} {D W:dH->Prop} {E:Env} {s:St}
theorem mM.put (pr ms:al) (e:eQ) (hv:e.df=none) (hp:jx E->∀r v n,e= .pl r v n->v<E.bQ) (hl:s.length<=s'.length)
  (hs: ∀i ab,dx s' i=some ab->W (.inl i)\/s.length<=i\/dx s i=some ab) (hf: ∀i,¬W (.inl i)->i<s.length->s'[i]? =s[i]?) (hg:s'.length=s.length\/tr o):mM W pr ms o E s (E.fg o.dst e) s' where
 len:=hl
 bQ:=by simp
 gR:=λhE=>hE.fg hv (hp hE)
 other:=λt h _=>by rw[Env.kG,bj h]
 val:=λt d h e=>by rw[Env.kG,bj h]at e;exact e
 bJ:=λt h C ψ x r=>by rw[Env.kG,bj h];exact r
 back:=λh ab c=>by
  cases h with
  |inl i=>
   have c':dx s' i=some ab:=c;rcases hs i ab c' with h|h|h
   .exact .inl h
   .exact .inr (.inl ⟨Bj.2 h,DL c'⟩)
   .exact .inr (.inr h)
  |inr v=>
   have c':CR (E.fg o.dst e) s (.inr v) ab:=c;exact .inr (.inr (c'.fg hv))
 xl:=λt v n cs h=>by
  rw[Env.kG]at h;split at h
  .rw[h]at hv;cases hv
  grind
 zd:=λt v l p h=>by
  rw[Env.kG]at h;split at h
  .rw[h]at hv;cases hv
  grind
 acO:=hf
 plain:= .inl ⟨e,hv,rfl⟩
 grow:=hg
theorem mM.Y2 (pr ms:al) (e:eQ) (hv:e.df=none) (hp:jx E->∀r v n,e= .pl r v n->v<E.bQ):mM W pr ms o E s (E.fg o.dst e) s:=
 mM.put pr ms e hv hp (aO _) (λ_ _ h=> .inr (.inr h)) (λ_ _ _=>rfl) (.inl rfl)
theorem Dk.pure (bx: ∀h,W h->D h) (e:eQ) (hv:e.df=none)
  (dV: ∀ψ Q a w,aB C o D E s ψ Q a w->∃v w',(execOp a.eval o).run C.P w= .ok (.value v) w'/\gW w w'/\gI C ψ e v):Dk C o D W E s (E.fg o.dst e) s:=by
 intro ψ Q a w next QQ p _ hn;have⟨v,w',hr,hm,eU⟩:=dV ψ Q a w p;unfold Oper.wp;rw[hr];refine hn ψ Q v w' ⟨p.eW.more p.gE hm,Ext.more hm,λh cb e=> .inl e,λh ab cb c hw e=>?_,λh ab cb e q _ _=>q⟩ (λd hd=>?_)
 .rcases hw with hw|⟨h1,h2⟩
  .exact p.j7 h ab cb (bx h hw) (c.fg hv) e
  .exact absurd (by cases h<;>simpa [ej]using h2) h1
 grind[Env.kG]
theorem ca.pure {β:Type} {md:Md} {pr ms:al} (bx: ∀h,W h->D h) {K:Env->M β} {r:Out β×St} (e:eQ) (hv:e.df=none) (hp:jx E->∀r v n,e= .pl r v n->v<E.bQ)
  (hk:K (E.fg o.dst e) s=some r)
  (dV: ∀ψ Q a w,aB C o D E s ψ Q a w->∃v w',(execOp a.eval o).run C.P w= .ok (.value v) w'/\gW w w'/\gI C ψ e v):ca C md pr ms o D W E s K r:=
 .inl ⟨_,_,hk,mM.Y2 pr ms e hv hp,Dk.pure bx e hv dV⟩
theorem ca.val (bx: ∀h,W h->D h) {K:Env->M β} {r:Out β×St} (d:DV)
  (hk:cD E o K d s=some r)
  (dV: ∀ψ Q a w,aB C o D E s ψ Q a w->∃v w',(execOp a.eval o).run C.P w= .ok (.value v) w'/\gW w w'/\VR C ψ d v):ca C md pr ms o D W E s K r:=
 ca.pure bx (.v d) rfl (λ_ _ _ _ h=>by cases h) hk dV
theorem ca.KT (cA:tr o) (bx: ∀h,W h->D h) {K:Env->M β} {r:Out β×St} (d:DV) (cells:ah)
  (hk:cD E o K d (s++[some ⟨false,cells⟩])=some r)
  (dV: ∀ψ Q a w,aB C o D E s ψ Q a w->∃v w' cb,(execOp a.eval o).run C.P w= .ok (.value v) w'/\gW w w'/\w.heap.size<=cb.b/\cb.b<w'.heap.size/\
   Holds C ψ w' cb (.cells false cells)/\(∀ψ',(∀h c,ψ h=some c->ψ' h=some c)->ψ' (.inl s.length)=some cb->VR C ψ' d v)):ca C md pr ms o D W E s K r:=by
 refine .inl ⟨_,_,hk,mM.put pr ms (.v d) rfl (λ_ _ _ _ h=>by cases h) (by simp) (λi ab h=>?_) (by grind) (.inr cA),?_⟩
 .rcases jI i s.length with hi|hi
  .rw[LU hi]at h;exact .inr (.inr h)
  .exact .inr (.inl hi)
 .intro ψ Q a w next QQ p room hn
  have⟨v,w',cb,hr,hm,h1,h2,hh,eU⟩:=dV ψ Q a w p;have iA:xw E s (E.fg o.dst (.v d)) (s++[some ⟨false,cells⟩]) (.inl s.length):=⟨by simp[ej],by simp[ej]⟩;have hf:=room _ iA;unfold Oper.wp;rw[hr];refine hn _ _ v w' ⟨ft.new (cb:=cb) (ab:= .cells false cells) p.eW p.gE hm hf h1 (hh.same (λ_ _ e=>wg hf _ _ e) rfl),Ext.new hm hf h1 h2,λh c e=>?_,λh ab c cr hw e=>?_,λh ab c e q _ _=>?_⟩ (λd' hd=>?_)
  .by_cases eh:h= .inl s.length
   .grind
   .rw[oT _ _ eh]at e;exact .inl e
  .by_cases eh:h= .inl s.length
   .subst eh
    have oU:dx (s++[some ⟨false,cells⟩]) s.length=some ab:=cr;rw[QO]at oU;cases oU;exact .inl ⟨rfl,rfl⟩
   .refine .inr ⟨eh,?_⟩
    rw[oT _ _ eh]at e;rcases hw with hw|⟨n1,n2⟩
    .refine p.j7 h ab c (bx h hw) ?_ e
     cases h with
     |inl i=>
      have oU:dx (s++[some ⟨false,cells⟩]) i=some ab:=cr;have:=DL oU;simp only[bB,iK]at this;rwa [LU (by have:i≠s.length:=λe=>eh (by rw[e]);omega)]at oU
     |inr x=>
      have oU:CR (E.fg o.dst (.v d)) s (.inr x) ab:=cr;exact oU.fg rfl
    .cases h with
     |inl i=>
      simp only[ej,bB,iK]at n1 n2;grind
     |inr x=>simp only[ej,Env.Hk]at n1 n2;exact absurd n2 n1
  .refine .inr ⟨λeh=>?_,q⟩
   grind
  .rw[Env.kG,bE hd]
   exact eU _ (wg hf) (qF _ _ _)
end
variable {β:Type}
variable {r:Out β×St}
theorem Zw {x:Operand} {K:DV->M β} (h:fA C E x K s=some r): ∃d,E.src C x= .v d/\K d s=some r:=by
 unfold fA at h;cases he:E.src C x<;>rw[he]at h<;>first|exact⟨_,rfl,h⟩|cases h
theorem FT {x:Operand} {K:Int->M β} (h:CG C E x K s=some r): ∃k n,E.src C x= .v (.int k n)/\K n s=some r:=by
 have⟨d,h1,h2⟩:=Zw h;split at h2
 .grind
 .cases h2
theorem Ul {x:Operand} {K:Bool->M β} (h:Wu C E x K s=some r): ∃b,E.src C x= .v (.bool b)/\K b s=some r:=by
 have⟨d,h1,h2⟩:=Zw h;split at h2
 .exact⟨_,h1,h2⟩
 .cases h2
theorem VO {a:ai} {K:Nat->Nat->M β} (h:bH a K s=some r): ∃i o,a=some (i,o)/\K i o s=some r:=by
 unfold bH at h;split at h
 .grind
 .cases h
theorem Ip {x:Operand} {KL:Nat->Nat->Nat->M β} {KH:Nat->Nat->M β} (h:D0 C E x KL KH s=some r):
  (∃t v o,E.src C x= .pl t v o/\KL t v o s=some r)\/(∃i o,E.src C x= .v (.ptr (some (i,o)))/\KH i o s=some r):=by
 unfold D0 at h;cases he:E.src C x with
 |pl t v o=>rw[he]at h;grind
 |v d=>
  rw[he]at h;cases d with
  |ptr a=>
   obtain⟨i,o,rfl,h⟩:=VO h;grind
  |_=>cases h
 |_=>rw[he]at h;cases h
theorem me {b:Bool} {K:M β} (h:aC b K s=some r):b=true/\K s=some r:=by
 cases b with
 |true=>exact⟨rfl,h⟩
 |false=>cases h
theorem Zs {b:Bool} {x:M β} (h:(bif b then x else fail) s=some r):b=true/\x s=some r:=by
 cases b with
 |true=>exact⟨rfl,h⟩
 |false=>cases h
theorem H9 {b:Bool} {x:M β} (h:(bif b then fail else x) s=some r):b=false/\x s=some r:=by
 cases b with
 |false=>exact⟨rfl,h⟩
 |true=>cases h
theorem pU {K:M β} (h:rI P t K s=some r): ∃d,P.underlying t=some d/\K s=some r:=by
 unfold rI at h;cases he:P.underlying t<;>rw[he]at h<;>first|exact⟨_,rfl,h⟩|cases h
theorem MU {K:DV->M β} (h:eJ cs i K s=some r): ∃d,cs[i]? =some d/\K d s=some r:=by
 unfold eJ at h;cases he:cs[i]? <;>rw[he]at h<;>first|exact⟨_,rfl,h⟩|cases h
theorem U2 {K:M β} (h:bA cs n K s=some r):cs.length=n/\K s=some r:=by
 unfold bA at h;have⟨h1,h2⟩:=Zs h;simp_all
theorem ZnA {t v:Nat} {K:Nat->ah->M β} (h:NC E t v K s=some r): ∃n cs,E.get t= .loc v n cs/\K n cs s=some r:=by
 unfold NC at h;cases he:E.get t with
 |loc v' n cs=>
  rw[he]at h;have⟨h1,h2⟩:=Zs h;have:=dL h1;grind
 |_=>rw[he]at h;cases h
theorem IQ {k k':IntKind} (h:vF k k'=true):k=k':=by cases k<;>cases k'<;>first|rfl|(simp[vF]at h)
theorem Nk {x:B} {d:DV} {K:DV->M β} (h:d1 x d K s=some r):
  ∃d',K d' s=some r/\(∀(C:bC) ψ v,VR C ψ d v->VR C ψ d' v)/\(one d=true->one d'=true):=by
 unfold d1 at h;split at h
 .unfold tM at h;split at h
  .grind
  .cases h
 .unfold cY at h;split at h
  .have⟨h1,h2⟩:=Zs h
   have:=IQ h1;subst this;grind
  .cases h
 .unfold BW at h;split at h
  .grind
  .cases h
 .unfold BV at h;split at h
  .grind
  .cases h
 .unfold dr at h;split at h
  .rename_i z a n
   have⟨h1,h2⟩:=Zs h;refine⟨_,h2,λC ψ v hv=>?_,λ_=>rfl⟩;simp only[lV]at h1;rcases h1 with h1|h1
   .have:=dL h1;subst this;exact hv
   .cases a with
    |none=>cases hv;exact .tc _
    |some _=>cases h1
  .cases h
 .unfold VM at h;split at h
  .grind
  .cases h
 .grind
 .cases h
theorem H4: ∀ {l:List B} {cs:ah} {K:ah->M β} {s:St} {r:Out β×St},nY l cs K s=some r->
  ∃ds,K ds s=some r/\ds.length=cs.length/\(∀(C:bC) ψ vs,bG C ψ cs vs->bG C ψ ds vs)/\(cs.all one=true->ds.all one=true)
 |[],cs,K,s,r,h=>by
  simp only[nY]at h;cases cs with
  |nil=>exact⟨[],h,rfl,λ_ _ _ h=>h,λh=>h⟩
  |cons _ _=>cases h
 |x::l,cs,K,s,r,h=>by
  have gen: ∀ {x:B},(kE cs λd rest=>d1 x d λd'=>nY l rest λds=>K (d'::ds)) s=some r->
    ∃ds,K ds s=some r/\ds.length=cs.length/\(∀(C:bC) ψ vs,bG C ψ cs vs->bG C ψ ds vs)/\(cs.all one=true->ds.all one=true):=by
   intro x h;cases cs with
   |nil=>cases h
   |cons d rest=>
    simp only[kE]at h;have⟨d',h,hd,h1⟩:=Nk h;have⟨ds,h,hl,hr,h2⟩:=H4 h;refine⟨_,h,by simp[hl],λC ψ vs hv=>?_,λho=>?_⟩
    .cases hv with
     |cons _ v _ vs a b=>exact .cons _ _ _ _ (hd C ψ v a) (hr C ψ vs b)
    grind
  have fb: ∀ {n:Nat} ,(VL n cs λxs rest=>nY l rest λds=>K (xs++ds)) s=some r->
    ∃ds,K ds s=some r/\ds.length=cs.length/\(∀(C:bC) ψ vs,bG C ψ cs vs->bG C ψ ds vs)/\(cs.all one=true->ds.all one=true):=by
   intro n h;unfold VL at h;have⟨h1,h⟩:=Zs h;have⟨ds,h,hl,hr,h2⟩:=H4 h;refine⟨_,h,by simp[hl];omega,λC ψ vs hv=>?_,λho=>?_⟩
   .have e:vs=vs.take n++vs.drop n:=by simp
    rw[e];exact(hv.take n).append (hr C ψ _ (hv.drop n))
   grind
  cases x with
  |fb n=>
   cases l with
   |nil=>
    simp only[nY]at h;have⟨hl,h⟩:=U2 h;grind
   |cons y l=>simp only[nY]at h;exact fb h
  |bool=>simp only[nY]at h;exact gen h
  |int k=>simp only[nY]at h;exact gen h
  |str=>simp only[nY]at h;exact gen h
  |ptr=>simp only[nY]at h;exact gen h
  |slice sz=>simp only[nY]at h;exact gen h
  |func=>simp only[nY]at h;exact gen h
  |any=>simp only[nY]at h;exact gen h
theorem M2 {x:Sh} {d:DV} {K:DV->M β} (h:Ak x d K s=some r):
  ∃d',K d' s=some r/\(∀(C:bC) ψ v,VR C ψ d v->VR C ψ d' v)/\(one d=true->one d'=true):=by
 cases x with
 |b x=>exact Nk h
 |agg l=>
  simp only[Ak,tL]at h;split at h
  .have⟨ds,h,hl,hr,h2⟩:=H4 h
   refine⟨_,h,λC ψ v hv=>?_,λh=>by cases h⟩;cases hv with
   |agg _ vs a b=>exact .agg _ _ (hr C ψ _ a) (h2 b)
  .cases h
theorem Iu: ∀ {l:List Sh} {cs:ah} {K:ah->M β} {s:St} {r:Out β×St},B4 l cs K s=some r->
  ∃ds,K ds s=some r/\ds.length=cs.length/\ds.length=l.length/\(∀(C:bC) ψ vs,bG C ψ cs vs->bG C ψ ds vs)
 |[],cs,K,s,r,h=>by
  simp only[B4]at h;cases cs with
  |nil=>exact⟨[],h,rfl,rfl,λ_ _ _ h=>h⟩
  |cons _ _=>cases h
 |x::l,cs,K,s,r,h=>by
  simp only[B4]at h;cases cs with
  |nil=>cases h
  |cons d rest=>
   simp only[kE]at h;have⟨d',h,hd,_⟩:=M2 h;have⟨ds,h,hl,rk,hr⟩:=Iu h;refine⟨_,h,by simp[hl],by simp[rk],λC ψ vs hv=>?_⟩;cases hv with
   |cons _ v _ vs a b=>exact .cons _ _ _ _ (hd C ψ v a) (hr C ψ vs b)
inductive SV (C:bC) (E:Env):List Operand->List DV->Prop
 |nil:SV C E [] []
 |cons {x:Operand} {d:DV} {l:List Operand} {ds:ah} :E.src C x= .v d->SV C E l ds->SV C E (x::l) (d::ds)
theorem Ic {C:bC} {E:Env} : ∀ {l:List Operand} {K:ah->M β} {s:St} {r:Out β×St},A9 C E l K s=some r->
  ∃ds,K ds s=some r/\SV C E l ds
 |[],K,s,r,h=>⟨[],h,.nil⟩
 |x::l,K,s,r,h=>by
  simp only[A9]at h;have⟨d,h1,h⟩:=Zw h;have⟨ds,h,h2⟩:=Ic h;exact⟨_,h,.cons h1 h2⟩
theorem IN {C:bC} {o:Oper} {D:dH->Prop} {E:Env} {s:St} {ψ:Ps} {Q:Kn} {a:Act} {w:World} (p:aB C o D E s ψ Q a w):
  ∀ {l:List Operand} {ds:ah},(∀x∈l,x∈o.op.operands)->SV C E l ds->bG C ψ ds (l.map a.eval)
 |[],_,_,.nil=> .nil
 |x::l,_,hm,.cons h1 h2=> .cons _ _ _ _ (p.val (hm x (by simp)) h1) (IN p (by grind) h2)
theorem ZmN (h:P.underlying t=some d): ∃i,P.info? t=some i/\i.size=P.cellsOf t:=by
 grind[Program.underlying,Program.cellsOf]
theorem Zl (w:World) (h:P.underlying t=some d):(underlying t).run P w= .ok d w:=by
 simp[underlying,h]
theorem qH (w:World) (h:P.underlying t=some d):(sizeOf t).run P w= .ok (P.cellsOf t) w:=by
 have⟨i,h1,h2⟩:=ZmN h;simp[sizeOf,typeInfo,h1,h2]
theorem Is (w:World) (h:P.underlying t=some d):(isAgg t).run P w= .ok (jj P t) w:=by
 rw[isAgg,Sem.run_bind,Zl w h,Result.andThen_ok,jj,h];cases d<;>rfl
theorem Uk (w:World) (h:np P t=some z): ∃v,(zeroValue t).run P w= .ok v w/\(∀(C:bC) ψ,bG C ψ z v.cells.toList)/\z.all one=true:=by
 unfold np at h;split at h
 .rename_i i hi
  split at h
  .rename_i v hv
   refine⟨v,by simp[zeroValue,typeInfo,hi,hv],λC ψ=>(FE h).1,?_⟩;exact(FE (C:=⟨P,id,λ_=>true,id,id,λ_=>true,λ_=>[],λ_=>false⟩) (ψ:=λ_=>none) h).2
  .cases h
 .cases h
theorem Zrz {b:Nat} {fr:Nat×Nat} {cells:ah} (hb:w.heap[b]? =some (.cells c ty fr)) (hf:fr=(0,0)\/c.size<=fr.1)
  (hr:bG C ψ cells (c.toList.take cells.length)) (ho:cells.all one=true):Holds C ψ w ⟨b,0,c.size⟩ (.cells false cells):=by
 have hl:cells.length<=c.size:=by
  have:=hr.len;grind
 refine⟨hl,ho,λj d hd=>?_,λ_=>⟨c,ty,fr,hb,by simp,λj hj=>?_⟩⟩
 .have⟨v,hv,kN⟩:=hr.get hd
  refine⟨v,?_,kN⟩;rw[xo]at hv;split at hv
  .rw[cell_of_row w b _ c ty fr hb];simpa using hv
  .cases hv
 grind
theorem ZyO (a:Act) (t:Nat):a.eval (.tmp t)=a.tmps.getD t undef:=rfl
variable {K:Env->M β}
section
variable {C:bC} {o:Oper} {D W:dH->Prop} {E:Env} {s:St} {md:Md} {pr ms:al}
theorem ca.acB (lR:Spec pr o) (bx: ∀h,W h->D h) (t:Nat) (ht:o.dst=some t) (e:eQ) (ab:AB)
  (he:(∃n cells,e= .loc E.bQ n cells/\ab= .cells false cells/\cells.length=n)\/(∃l p,e= .it E.bQ l p/\ab= .iter l p))
  (hk:K ⟨E.bQ+1,(t,e)::E.l⟩ s=some r)
  (dV: ∀ψ Q a w,aB C o D E s ψ Q a w->∃w' cb,(execOp a.eval o).run C.P w= .ok (.value (.pointer (some ⟨cb.b,0,none⟩))) w'/\gW w w'/\w.heap.size<=cb.b/\cb.b<w'.heap.size/\
   cb.o=0/\Holds C ψ w' cb ab):ca C md pr ms o D W E s K r:=by
 have hv:e.df=some E.bQ:=by rcases he with⟨n,c,rfl,_⟩|⟨l,p,rfl,_⟩<;>rfl
 have get: ∀u,(⟨E.bQ+1,(t,e)::E.l⟩:Env).get u=if t=u then e else E.get u:=λu=>Env.agQ _ _ _ _ _
 have crn: ∀cZ,CR ⟨E.bQ+1,(t,e)::E.l⟩ s (.inr E.bQ) cZ->jx E->cZ=ab:=by
  intro cZ c hE;rcases c with⟨u,n,cs,h,fV⟩|⟨u,l,p,h,fV⟩<;>rw[get]at h<;>split at h
  .grind
  .have:=hE.lt u E.bQ (by rw[h];rfl);omega
  .grind
  .have:=hE.lt u E.bQ (by rw[h];rfl);omega
 have cro: ∀h cZ,CR ⟨E.bQ+1,(t,e)::E.l⟩ s h cZ->h≠ .inr E.bQ->CR E s h cZ:=by
  intro h cZ c dM;cases h with
  |inl i=>exact c
  |inr v=>
   rcases c with⟨u,n,cs,h,fV⟩|⟨u,l,p,h,fV⟩<;>rw[get]at h<;>split at h
   .rw[h]at hv;grind
   .exact .inl ⟨u,n,cs,h,fV⟩
   .rw[h]at hv;grind
   .exact .inr ⟨u,l,p,h,fV⟩
 have iA:xw E s ⟨E.bQ+1,(t,e)::E.l⟩ s (.inr E.bQ):=⟨by simp[ej],by simp[ej]⟩;refine .inl ⟨_,_,hk,⟨aO _,by simp,λhE=>⟨?_,?_,?_,?_⟩,?_,(λu d _ h=>by
   rw[get]at h;grind),?_,?_,?_,?_,λ_ _ _=>rfl,.inr lR,.inl rfl⟩,?_⟩
 .intro u v h
  rw[get]at h;split at h
  .rw[hv]at h;cases h;simp
  .have:=hE.lt u v h;simp only;omega
 .intro u x v n h
  rw[get]at h;split at h
  .rw[h]at hv;cases hv
  .have:=hE.pl u x v n h;simp only;omega
 .intro u v n cs h
  rw[get]at h;split at h
  .grind
  .exact hE.len u v n cs h
 .intro u u' v h h'
  rw[get]at h h';split at h<;>split at h'
  .omega
  .rw[hv]at h;cases h;have:=hE.lt u' _ h';omega
  .rw[hv]at h';cases h';have:=hE.lt u _ h;omega
  .exact hE.uniq u u' v h h'
 .grind
 .grind
 .grind
 .grind
 .grind
 .intro ψ Q a w next QQ p room hn
  have⟨w',cb,hr,hm,h1,h2,h0,hh⟩:=dV ψ Q a w p;have hf:=room _ iA;unfold Oper.wp;rw[hr];refine hn _ _ _ w' ⟨ft.new (cb:=cb) (ab:=ab) p.eW p.gE hm hf h1 (hh.same (λ_ _ e=>wg hf _ _ e) rfl),Ext.new hm hf h1 h2,λh c e=>?_,λh cZ c cr hw e=>?_,λh cZ c e q _ _=>?_⟩ (λd' hd=>?_)
  .by_cases eh:h= .inr E.bQ
   .grind
   .rw[oT _ _ eh]at e;exact .inl e
  .by_cases eh:h= .inr E.bQ
   .subst eh;exact .inl ⟨rfl,crn _ cr p.gR⟩
   .refine .inr ⟨eh,?_⟩
    rw[oT _ _ eh]at e;rcases hw with hw|⟨n1,n2⟩
    .exact p.j7 h cZ c (bx h hw) (cro h cZ cr eh) e
    .exact absurd ((cro h cZ cr eh).qV p.gR) n1
  .refine .inr ⟨λeh=>?_,q⟩
   grind
  .rw[ht]at hd;cases hd
   rw[get,bE rfl];rcases he with⟨n',c',rfl,_,hl⟩|⟨l,p,rfl,_⟩
   .exact⟨cb,qF _ _ _,h0,rfl⟩
   .exact⟨cb,qF _ _ _,rfl⟩
theorem ca.newVar (Aw:(∃t,o.op= .alloc t)\/(∃t y,o.op= .box t y)) (bx: ∀h,W h->D h) {cells:ah} (hlen:cells.length=n) (h:Np pr o n cells E K s=some r)
  (dV: ∀ψ Q a w,aB C o D E s ψ Q a w->∃w' cb,(execOp a.eval o).run C.P w= .ok (.value (.pointer (some ⟨cb.b,0,none⟩))) w'/\gW w w'/\w.heap.size<=cb.b/\cb.b<w'.heap.size/\
   cb.o=0/\Holds C ψ w' cb (.cells false cells)):ca C md pr ms o D W E s K r:=by
 unfold Np at h;cases ht:o.dst with
 |none=>rw[ht]at h;cases h
 |some t=>
  rw[ht]at h;simp only at h;cases hp:has pr t with
  |true=>
   rw[hp]at h;simp only[ae]at h;exact ca.acB (by rcases Aw with⟨t,ho⟩|⟨t,y,ho⟩<;>(grind[Spec])) bx t ht _ _ (by grind) h dV
  |false=>
   rw[hp]at h;simp only[af]at h;refine ca.KT (by rcases Aw with⟨t,ho⟩|⟨t,y,ho⟩<;>(grind[tr])) bx (.ptr (some (s.length,0))) cells (by simpa [cD,Env.fg,ht,cd]using h) λψ Q a w p=>?_
   have⟨w',cb,hr,hm,h1,h2,h0,hh⟩:=dV ψ Q a w p;refine⟨_,w',cb,hr,hm,h1,h2,hh,λψ' _ e=>?_⟩;have:=VR.ptr (C:=C) (ψ:=ψ') s.length 0 cb e;rwa [h0]at this
theorem T9 (t:TypeId) (v:Value) (w:World):(newVar t v).run P w= .ok ⟨w.heap.size,0,none⟩ (w.alloc (.cells v.cells t)):=by
 simp[newVar,newRow]
theorem ZoT (ho:o.op= .move y\/o.op= .assign y) (bx: ∀h,W h->D h) (h:AW E o K (E.src C y) s=some r):ca C md pr ms o D W E s K r:=by
 refine ca.pure bx (E.src C y) (Env.K9 C E y) (λhE r v n h=>Env.ET C hE h) h λψ Q a w p=>⟨a.eval y,w,?_,.refl w,p.src ?_⟩
 .rcases ho with ho|ho<;>simp[execOp,ho]
 .rcases ho with ho|ho<;>simp[Op.operands,ho]
theorem ZvI {b z:Operand} (ho:o.op= .pick b y z) (bx: ∀h,W h->D h) (h:V4 C E o K b y z s=some r):ca C md pr ms o D W E s K r:=by
 unfold V4 at h;have⟨t,hb,h⟩:=Ul h;have JD: ∀ψ Q a w,aB C o D E s ψ Q a w->a.eval b= .bool t:=λψ Q a w p=>by
  have:=p.val (x:=b) (by simp[Op.operands,ho]) hb;generalize a.eval b=v at this;cases this;rfl
 cases t with
 |true=>
  refine ca.pure bx (E.src C y) (Env.K9 C E y) (λhE r v n h=>Env.ET C hE h) h λψ Q a w p=>⟨a.eval y,w,?_,.refl w,p.src (by simp[Op.operands,ho])⟩
  simp[execOp,ho,JD ψ Q a w p,asBool]
 |false=>
  refine ca.pure bx (E.src C z) (Env.K9 C E z) (λhE r v n h=>Env.ET C hE h) h λψ Q a w p=>⟨a.eval z,w,?_,.refl w,p.src (by simp[Op.operands,ho])⟩
  simp[execOp,ho,JD ψ Q a w p,asBool]
theorem Fw {cells:ah} (hr:bG C ψ cells (c.toList.take cells.length)) (ho:cells.all one=true):
  Holds C ψ (w.alloc (.cells c t)) ⟨w.heap.size,0,c.size⟩ (.cells false cells):=
 Zrz (heap_alloc_new w _) (.inl rfl) hr ho
theorem IF {l:List α} (h:n=l.length):l.take n=l:=by subst h;simp
theorem Zt7 (ho:o.op= .alloc t) (bx: ∀h,W h->D h) (h:Vy C E o K pr t s=some r):ca C md pr ms o D W E s K r:=by
 unfold Vy at h;cases hz:np C.P t with
 |none=>rw[hz]at h;cases h
 |some z=>
  rw[hz]at h;simp only at h;have⟨hl,h⟩:=Zs h;refine ca.newVar (.inl ⟨t,ho⟩) bx (dL hl) h λψ Q a w p=>?_
  have⟨v,hv,hr,h1⟩:=Uk w hz;refine⟨w.alloc (.cells v.cells t),⟨w.heap.size,0,v.cells.size⟩,?_,.alloc w _,aO _,by simp,rfl,?_⟩
  .simp[execOp,ho,Instr.alloc,hv,T9]
  .exact Fw (by rw[IF (by simpa using (hr C ψ).len)];exact hr C ψ) h1
theorem Znp {d:DV} {K:ah->M β} (h:Nz P t d K s=some r):
  ∃ds td,P.underlying t=some td/\K ds s=some r/\ds.length=P.cellsOf t/\∀(C:bC) ψ v,VR C ψ d v->bG C ψ ds v.cells.toList/\ds.all one=true/\v.cells.size=P.cellsOf t:=by
 unfold Nz at h;have⟨td,Yl,h⟩:=pU h;cases ha:jj P t with
 |true=>
  rw[ha]at h;simp only[ae]at h;cases d with
  |agg cs=>
   have⟨hl,h⟩:=U2 h;refine⟨cs,td,Yl,h,hl,λC ψ v hv=>?_⟩;cases hv with
   |agg _ vs a b=>exact⟨a,b,by rw[<-hl,a.len];simp[Value.cells]⟩
  |_=>cases h
 |false=>
  rw[ha]at h;simp only[af]at h;have⟨hc,h⟩:=Zs h;have⟨h1,h⟩:=me h;have hc:=dL hc;refine⟨[d],td,Yl,h,by simp[hc],λC ψ v hv=>?_⟩;rw[hv.aa5 h1];exact⟨.cons _ _ _ _ hv .nil,by simp[h1],by simp[hc]⟩
theorem Zwi (ho:o.op= .box t y) (bx: ∀h,W h->D h) (h:YU C E o K pr t y s=some r):ca C md pr ms o D W E s K r:=by
 unfold YU at h;have⟨d,hd,h⟩:=Zw h;have⟨ds,td,Yl,h,hl,hv⟩:=Znp h;refine ca.newVar (.inr ⟨t,y,ho⟩) bx hl h λψ Q a w p=>?_
 have⟨h1,h2,h3⟩:=hv C ψ _ (p.val (x:=y) (by simp[Op.operands,ho]) hd);refine⟨w.alloc (.cells (a.eval y).cells t),⟨w.heap.size,0,(a.eval y).cells.size⟩,?_,.alloc w _,aO _,by simp,rfl,?_⟩
 .simp[execOp,ho,Instr.box,T9]
 .exact Fw (by rw[IF (by simpa using h1.len)];exact h1) h2
theorem Zqr (ho:o.op= .nilCheck y) (bx: ∀h,W h->D h) (h:TB C E o K y s=some r):ca C md pr ms o D W E s K r:=by
 unfold TB at h;rcases Ip h with⟨t,v,n,he,h⟩|⟨i,n,he,h⟩
 .refine ca.pure bx (.pl t v n) rfl (λhE r v' n' e=>by cases e;exact Env.ET C hE he) h λψ Q a w p=>⟨a.eval y,w,?_,.refl w,?_⟩
  .have:=p.src (x:=y) (by simp[Op.operands,ho])
   rw[he]at this;have⟨cb,_,_,h3⟩:=this;simp[execOp,ho,h3]
  .have:=p.src (x:=y) (by simp[Op.operands,ho])
   rw[he]at this;exact this
 .refine ca.val bx (.ptr (some (i,n))) h λψ Q a w p=>⟨a.eval y,w,?_,.refl w,?_⟩
  .have:=p.val (x:=y) (by simp[Op.operands,ho]) he
   generalize hx:a.eval y=x at this;cases this;simp[execOp,ho,hx]
  .exact p.val (x:=y) (by simp[Op.operands,ho]) he
theorem Zyh {op:UnOp} (ho:o.op= .unOp op t y) (bx: ∀h,W h->D h) (h:YW C E o K op y s=some r):ca C md pr ms o D W E s K r:=by
 unfold YW at h;have⟨d,hd,h⟩:=Zw h;unfold unK at h;split at h
 .refine ca.val bx _ h λψ Q a w p=>?_
  have:=p.val (x:=y) (by simp[Op.operands,ho]) hd;generalize hx:a.eval y=x at this;cases this;exact⟨_,w,by simp[execOp,ho,hx,Op.unary],.refl w,.bool _⟩
 .refine ca.val bx _ h λψ Q a w p=>?_
  have:=p.val (x:=y) (by simp[Op.operands,ho]) hd;generalize hx:a.eval y=x at this;cases this;exact⟨_,w,by simp[execOp,ho,hx,Op.unary,Op.intArith],.refl w,.int _ _⟩
 .cases h
theorem Zt4 (ho:o.op= .makeInterface t y) (bx: ∀h,W h->D h) (h:Vn C E o K t y s=some r):ca C md pr ms o D W E s K r:=by
 unfold Vn at h;cases ht:C.P.underlying t with
 |none=>rw[ht]at h;cases h
 |some td=>
  have J4: ∀m,td≠ .interface m:=by rintro m rfl;rw[ht]at h;cases h
  have h':fA C E y (λd=>cD E o K (.iface (C.ty t) d)) s=some r:=by rw[ht]at h;cases td<;>first|exact h|grind
  have⟨d,hd,h'⟩:=Zw h';refine ca.val bx _ h' λψ Q a w p=>⟨.iface t (a.eval y),w,?_,.refl w,.iface _ _ _ (p.val (x:=y) (by simp[Op.operands,ho]) hd)⟩
  simp only[execOp,ho,Instr.makeInterface,Sem.run_bind,Zl w ht,Result.andThen_ok];cases td<;>first|rfl|exact absurd rfl (J4 _)
theorem ZvN {f:Fn} (ho:o.op= .makeFunc f first cap) (bx: ∀h,W h->D h) (h:Wc C E o K f first cap s=some r):ca C md pr ms o D W E s K r:=by
 unfold Wc at h;cases f with
 |func f=>
  simp only at h;have⟨hc,h⟩:=Zs h;have⟨fs,h,h1⟩:=Ic h;have⟨cs,h,h2⟩:=Ic h;refine ca.val bx _ h λψ Q a w p=>⟨.func (.func f) (first.map a.eval) (cap.map a.eval),w,by simp[execOp,ho,Instr.makeFunc],.refl w,.func _ _ _ _ _ hc ?_ ?_⟩
  .have:=IN p (l:=first.toList) (λx hx=>by simp only[Op.operands,ho,Array.mem_append];grind) h1
   simpa using this
  .have:=IN p (l:=cap.toList) (λx hx=>by simp only[Op.operands,ho,Array.mem_append];grind) h2
   simpa using this
 |_=>cases h
theorem ZrZ {t:Nat} (ho:o.op= .extract (.tmp t) i) (bx: ∀h,W h->D h) (h:UT E o K t i s=some r):ca C md pr ms o D W E s K r:=by
 unfold UT at h;cases he:E.get t with
 |qm ds=>
  rw[he]at h;simp only at h;cases hd:ds[i]? with
  |none=>rw[hd]at h;cases h
  |some d=>
   rw[hd]at h;refine ca.val bx d h λψ Q a w p=>?_
   have:=p.args t (by simp[Op.operands,ho]);rw[he]at this;have⟨vs,ow,hr⟩:=this;have⟨v,hv,hr⟩:=hr.get hd;refine⟨v,w,?_,.refl w,hr⟩;have eU:vs[i]? =some v:=by simpa using hv
   simp[execOp,ho,ZyO,ow,Instr.extract,eU]
 |_=>rw[he]at h;cases h
end
section
variable {C:bC} {o:Oper} {D W:dH->Prop} {E:Env} {s:St} {md:Md} {pr ms:al}
theorem vY (P:Program) (a:Addr) (w:World):(Instr.sureAddr (.pointer (some a))).run P w= .ok a w:=rfl
theorem ZoS {f:Nat} (ho:o.op= .fieldAddr t y f) (bx: ∀h,W h->D h) (h:L8 C E o K t y f s=some r):ca C md pr ms o D W E s K r:=by
 unfold L8 at h;cases ht:C.P.underlying t with
 |none=>rw[ht]at h;cases h
 |some td=>
  rw[ht]at h;cases td with
  |struct fs=>
   simp only at h;cases hf:fs[f]? with
   |none=>rw[hf]at h;cases h
   |some fd=>
    rw[hf]at h;simp only at h;have⟨hc,h⟩:=H9 h;have hc:=Ly hc;have cF: ∀w,(sizeOf fd.type).run C.P w= .ok (C.P.cellsOf fd.type) w:=by
     intro w;unfold Program.cellsOf at hc⊢;cases hi:C.P.info? fd.type with
     |none=>rw[hi]at hc;simp at hc
     |some i=>simp[sizeOf,typeInfo,hi]
    have run: ∀(a:Act) (w:World) b n,a.eval y= .pointer (some ⟨b,n,none⟩)->(execOp a.eval o).run C.P w= .ok (.value (.pointer (some ⟨b,n+fd.offset,none⟩))) w:=by
     intro a w b n hy;simp[execOp,ho,hy,Instr.fieldAt,Zl w ht,hf,vY,fieldPlace,cF,hc,BG]
    rcases Ip h with⟨x,v,n,he,h⟩|⟨i,n,he,h⟩
    .refine ca.pure bx _ rfl (λhE r v' n' e=>by cases e;exact Env.ET C hE he) h λψ Q a w p=>?_
     have:=p.src (x:=y) (by simp[Op.operands,ho]);rw[he]at this;have⟨cb,h1,h2,h3⟩:=this;exact⟨_,w,run a w _ _ h3,.refl w,cb,h1,h2,rfl⟩
    .refine ca.val bx _ h λψ Q a w p=>?_
     have:=p.val (x:=y) (by simp[Op.operands,ho]) he;generalize hy:a.eval y=v at this;cases this with
     |ptr _ _ cb e=>exact⟨_,w,run a w _ _ hy,.refl w,by rw[uy];exact .ptr _ _ cb e⟩
  |_=>cases h
theorem Ma (P:Program) (k:IntKind) (n:Int) (w:World):(asIntOf (.int k n)).run P w= .ok (k,n) w:=rfl
theorem IT {n:Int} (h:aR n m=true):0<=n/\n<m:=by
 simp only[aR,aY,zC]at h;exact h
theorem Zoj {i:Operand} (ho:o.op= .indexAddr t y i) (bx: ∀h,W h->D h) (h:Ta C E o K t y i s=some r):ca C md pr ms o D W E s K r:=by
 unfold Ta at h;have⟨k,n,hi,h⟩:=FT h;have iv: ∀ψ Q a w,aB C o D E s ψ Q a w->a.eval i= .int k n:=λψ Q a w p=>by
  have:=p.val (x:=i) (by simp[Op.operands,ho]) hi;generalize a.eval i=v at this;cases this;rfl
 cases ht:C.P.underlying t with
 |none=>rw[ht]at h;cases h
 |some td=>
  rw[ht]at h;cases td with
  |slice e=>
   simp only at h;have⟨ed,he,h⟩:=pU h;have⟨d,hd,h⟩:=Zw h;cases d with
   |slice z a m=>
    simp only at h;have⟨hz,h⟩:=Zs h;obtain⟨j,p0,rfl,h⟩:=VO h;have⟨hb,h⟩:=me h;have⟨kI,c9⟩:=IT hb;simp only[Option.isNone_some,Bool.or_false]at hz;have hz:=dL hz;refine ca.val bx _ h λψ Q a w p=>?_
    have hv:=p.val (x:=y) (by simp[Op.operands,ho]) hd;generalize hy:a.eval y=v at hv;cases hv with
    |slice _ _ _ _ cb ad cap e1 e2 e3=>
     have⟨e4,e5⟩:=e3 (by omega);refine⟨.pointer (some ⟨cb.b,cb.o+(n.toNat*C.P.cellsOf e+p0),none⟩),w,?_,.refl w,.ptr _ _ cb e1⟩;rw[tm _ p0];simp[execOp,ho,hy,iv ψ Q a w p,Instr.indexAt,Zl w ht,Ma,kI,c9,qH w he,e4,BG,uy]
   |_=>cases h
  |array m e=>
   simp only at h;have⟨ed,he,h⟩:=pU h;have run: ∀ψ Q (a:Act) (w:World) b p0,aB C o D E s ψ Q a w->a.eval y= .pointer (some ⟨b,p0,none⟩)->0<=n->n<m->
     (execOp a.eval o).run C.P w= .ok (.value (.pointer (some ⟨b,p0+n.toNat*C.P.cellsOf e,none⟩))) w:=by
    intro ψ Q a w b p0 p hy kI c9;simp[execOp,ho,hy,iv ψ Q a w p,Instr.indexAt,Zl w ht,Ma,kI,c9,vY,qH w he,BG]
   rcases Ip h with⟨x,v,p0,hx,h⟩|⟨x,p0,hx,h⟩
   .have⟨hb,h⟩:=me h
    have⟨kI,c9⟩:=IT hb;refine ca.pure bx _ rfl (λhE r v' n' e=>by cases e;exact Env.ET C hE hx) h λψ Q a w p=>?_
    have:=p.src (x:=y) (by simp[Op.operands,ho]);rw[hx]at this;have⟨cb,h1,h2,h3⟩:=this;exact⟨_,w,run ψ Q a w _ _ p h3 kI c9,.refl w,cb,h1,h2,by rw[tm]⟩
   .have⟨hb,h⟩:=me h
    have⟨kI,c9⟩:=IT hb;refine ca.val bx _ h λψ Q a w p=>?_
    have:=p.val (x:=y) (by simp[Op.operands,ho]) hx;generalize hy:a.eval y=v at this;cases this with
    |ptr _ _ cb e1=>exact⟨_,w,run ψ Q a w _ _ p hy kI c9,.refl w,by rw[tm _ p0,uy];exact .ptr _ _ cb e1⟩
  |_=>cases h
theorem Zs6 (w:World) (h:P.underlying t=some d) (ha:jj P t=true) (cs:Array Value) (off:Nat):
  (Go.part t cs off).run P w= .ok (.agg (cs.extract off (off+P.cellsOf t))) w:=by
 simp[Go.part,Is w h,ha,qH w h]
theorem ZsA (w:World) (h:P.underlying t=some d) (ha:jj P t=false) {cs:Array Value} (hv:cs[off]? =some v):
  (Go.part t cs off).run P w= .ok v w:=by
 simp[Go.part,Is w h,ha,hv]
theorem Zuu (h:bG C ψ ds vs.toList) (off n:Nat):bG C ψ ((ds.drop off).take n) (vs.extract off (off+n)).toList:=by
 have:=(h.drop off).take n;rw[Array.toList_extract,PZ];simpa using this
theorem Vq (h:cs.all one=true):((cs.drop off).take n).all one=true:=
 (by grind)
theorem ZsB (ht:C.P.underlying t=some td) (bx: ∀h,W h->D h)
  (h:(bif jj C.P t then cD E o K (.agg ((cs.drop off).take (C.P.cellsOf t)))else Go.Gv.eJ cs off λd=>Ak (nb C.P t) d (cD E o K)) s=some r)
  (dV: ∀ψ Q a w,aB C o D E s ψ Q a w->∃vs,bG C ψ cs vs.toList/\cs.all one=true/\(∀v,(Go.part t vs off).run C.P w= .ok v w->(execOp a.eval o).run C.P w= .ok (.value v) w)):ca C md pr ms o D W E s K r:=by
 cases ha:jj C.P t with
 |true=>
  rw[ha]at h;refine ca.val bx _ h λψ Q a w p=>?_
  have⟨vs,h1,h2,h3⟩:=dV ψ Q a w p;exact⟨_,w,h3 _ (Zs6 w ht ha vs off),.refl w,.agg _ _ (Zuu h1 _ _) (Vq h2)⟩
 |false=>
  rw[ha]at h;simp only[af]at h;have⟨d,hd,h⟩:=MU h;have⟨d',h,hr,_⟩:=M2 h;refine ca.val bx _ h λψ Q a w p=>?_
  have⟨vs,h1,h2,h3⟩:=dV ψ Q a w p;have⟨v,hv,kN⟩:=h1.get hd;exact⟨v,w,h3 _ (ZsA w ht ha (by simpa using hv)),.refl w,hr C ψ v kN⟩
theorem ZtY {f:Nat} (ho:o.op= .field t y f) (bx: ∀h,W h->D h) (h:Vz C E o K t y f s=some r):ca C md pr ms o D W E s K r:=by
 unfold Vz at h;cases ht:C.P.underlying t with
 |none=>rw[ht]at h;cases h
 |some td=>
  rw[ht]at h;cases td with
  |struct fs=>
   simp only at h;cases hf:fs[f]? with
   |none=>rw[hf]at h;cases h
   |some fd=>
    rw[hf]at h;simp only at h;have⟨ed,he,h⟩:=pU h;have⟨d,hd,h⟩:=Zw h;cases d with
    |agg cs=>
     refine ZsB he bx h λψ Q a w p=>?_
     have hv:=p.val (x:=y) (by simp[Op.operands,ho]) hd;generalize hy:a.eval y=v at hv;cases hv with
     |agg _ vs h1 h2=>exact⟨vs,h1,h2,λv hp=>by simp[execOp,ho,hy,Instr.field,Zl w ht,hf,asAgg,hp]⟩
    |_=>cases h
  |_=>cases h
theorem Zwn (s:ByteArray) (i:Nat):s[i]? =s.data.toList[i]? :=by
 rcases jI i s.data.toList.length with h|h
 .have h':i<s.size:=by rw[oE]at h;exact h
  rw[cq h,getElem?_pos s i h',ByteArray.getElem_eq_getElem_data,Array.getElem_toList]
 simp_all
theorem Zt6 {i:Operand} (ho:o.op= .index t y i) (bx: ∀h,W h->D h) (h:Vt C E o K t y i s=some r):ca C md pr ms o D W E s K r:=by
 unfold Vt at h;have⟨k,n,hi,h⟩:=FT h;have⟨d,hd,h⟩:=Zw h;have iv: ∀ψ Q a w,aB C o D E s ψ Q a w->a.eval i= .int k n:=λψ Q a w p=>by
  have:=p.val (x:=i) (by simp[Op.operands,ho]) hi;generalize a.eval i=v at this;cases this;rfl
 cases ht:C.P.underlying t with
 |none=>rw[ht]at h;cases h
 |some td=>
  rw[ht]at h;cases td with
  |string=>
   cases d with
   |str l=>
    simp only at h;have⟨hb,h⟩:=me h;have⟨kI,c9⟩:=IT hb;refine ca.val bx _ h λψ Q a w p=>?_
    have hv:=p.val (x:=y) (by simp[Op.operands,ho]) hd;generalize hy:a.eval y=v at hv;cases hv with
    |str x=>
     have hg:x[n.toNat]? =some x.data.toList[n.toNat]:=by rw[Zwn];grind
     refine⟨.int .u8 (ZS x.data.toList n),w,?_,.refl w,.int _ _⟩;simp only[execOp,ho,hy,iv ψ Q a w p,Instr.index,Sem.run_bind,Ma,Zl w ht,Result.andThen_ok,kI,mJ,hg,Sem.run_pure,ZS];grind
   |_=>cases h
  |array m e=>
   cases d with
   |agg cs=>
    simp only at h;have⟨ed,he,h⟩:=pU h;have⟨hb,h⟩:=me h;have⟨kI,c9⟩:=IT hb;refine ZsB he bx h λψ Q a w p=>?_
    have hv:=p.val (x:=y) (by simp[Op.operands,ho]) hd;generalize hy:a.eval y=v at hv;cases hv with
    |agg _ vs h1 h2=>exact⟨vs,h1,h2,λv hp=>by simp[execOp,ho,hy,iv ψ Q a w p,Instr.index,Ma,Zl w ht,kI,c9,qH w he,hp]⟩
   |_=>cases h
  |_=>cases d<;>cases h
end
theorem V7 {y:B} (h:nb P t= .b y):jj P t=false:=by
 grind[nb]
theorem ZsE {l:List B} (h:nb P t= .agg l):jj P t=true:=by
 grind[nb]
theorem My {d:DV} (h:Holds C ψ w cb (.cells f cs)) (hd:cs[p]? =some d):
  ∃v,(load ⟨cb.b,cb.o+p,none⟩).run P w= .ok v w/\VR C ψ d v/\one d=true:=by
 have⟨v,hv,hr⟩:=h.2.2.1 p d hd;exact⟨v,by rw[run_load,hv],hr,vT.1 h.2.1 _ (uw hd)⟩
theorem ZmS (h:Holds C ψ w cb (.cells f cs)) (hn:p+n<=cs.length):
  ∃vs,(∀w',w'.heap=w.heap->(loadCells ⟨cb.b,cb.o+p,none⟩ n).run P w'= .ok vs w')/\vs.size=n/\bG C ψ ((cs.drop p).take n) vs.toList/\((cs.drop p).take n).all one=true:=by
 have hc: ∀j,j<n->∃v,w.cell? ⟨cb.b,cb.o+p+j,none⟩=some v/\∀d,cs[p+j]? =some d->VR C ψ d v:=by
  intro j hj;have⟨v,hv,hr⟩:=h.2.2.1 (p+j) cs[p+j] (by simp);grind
 let f:Nat->Value:=λj=>(w.cell? ⟨cb.b,cb.o+p+j,none⟩).getD undef
 have hf: ∀w':World,w'.heap=w.heap->∀j,j<n->w'.cell? ((⟨cb.b,cb.o+p,none⟩:Addr).add j)=some (f j):=by
  intro w' hw j hj;have⟨v,hv,_⟩:=hc j hj;have e:w'.cell? ((⟨cb.b,cb.o+p,none⟩:Addr).add j)=w.cell? ((⟨cb.b,cb.o+p,none⟩:Addr).add j):=by simp only[World.cell?,hw]
  rw[e,BG,hv];simp[f,hv]
 refine⟨_,λw' hw=>run_loadCells w' _ n f (hf w' hw),by simp,bG.of _ _ ?_ ?_,Vq h.2.1⟩
 .simp;omega
 grind
theorem L9 (h:Holds C ψ w cb (.cells f cs)) (hn:p+n<=cs.length:=by omega):
  ∃vs,(loadCells ⟨cb.b,cb.o+p,none⟩ n).run P w= .ok vs w/\vs.size=n/\bG C ψ ((cs.drop p).take n) vs.toList/\((cs.drop p).take n).all one=true:=
 let ⟨vs,a,b⟩:=ZmS (P:=P) h hn
 ⟨vs,a w rfl,b⟩
section
variable {C:bC} {o:Oper} {D W:dH->Prop} {E:Env} {s:St} {md:Md} {pr ms:al}
theorem LW (ht:P.underlying t=some td) (ha:jj P t=true) (a:Addr) (w:World) (h:(loadCells a (P.cellsOf t)).run P w= .ok vs w):
  (loadVar t a).run P w= .ok (.agg vs) w:=by
 simp[loadVar,Is w ht,ha,qH w ht,h]
theorem H0 (ht:P.underlying t=some td) (ha:jj P t=false) (a:Addr) (w:World) (h:(load a).run P w= .ok v w):
  (loadVar t a).run P w= .ok v w:=by
 rw[loadVar,Sem.run_bind,Is w ht,ha];simpa using h
theorem ZzC (hn:cs.length=n):part n cs p m=(cs.drop p).take m:=by
 unfold part;cases h:Nat.beq m n&&Nat.beq p 0 with
 |false=>rfl
 |true=>
  simp only[aY]at h;have h1:=dL h.2;have h2:=dL h.1;grind
theorem Vs (hn:cs.length=n) (hd:ds.length=m) (hp:p+m<=n):yY n m cs p ds=cE cs p ds:=by
 unfold yY;cases h:Nat.beq m n&&Nat.beq p 0 with
 |false=>rfl
 |true=>
  simp only[aY]at h;have h1:=dL h.2;have h2:=dL h.1;subst h1;subst h2;subst hn;rw[ae];apply tk;intro j;rw[IP cs 0 ds j (by omega)];by_cases hj:j<ds.length
  .rw[bE (by omega)];simp
  grind
theorem IA {K:ah->M β} (h:bS i p n K s=some r): ∃f cs,dx s i=some (.cells f cs)/\p+n<=cs.length/\K ((cs.drop p).take n) s=some r:=by
 unfold bS at h;unfold St.cells at h;unfold dx;cases hs:s[i]? with
 |none=>rw[hs]at h;cases h
 |some x=>
  cases x with
  |none=>rw[hs]at h;cases h
  |some b=>
   rw[hs]at h;simp only at h;cases hb:Nat.ble (p+n) b.cells.length with
   |false=>rw[hb]at h;cases h
   |true=>rw[hb]at h;exact⟨_,_,rfl,qA hb,h⟩
theorem Zo0 {K:DV->M β} (h:bD i p K s=some r): ∃f cs d,dx s i=some (.cells f cs)/\cs[p]? =some d/\K d s=some r:=by
 unfold bD at h;unfold St.cells at h;unfold dx;cases hs:s[i]? with
 |none=>rw[hs]at h;cases h
 |some x=>
  cases x with
  |none=>rw[hs]at h;cases h
  |some b=>
   rw[hs]at h;grind
theorem aB.at {a:Act} (p:aB C o D E s ψ Q a w) (hD:D (.inl i)) (h:dx s i=some ab) (e:ψ (.inl i)=some cb):Holds C ψ w cb ab:=
 p.eW.holds _ cb ab e (p.j7 (.inl i) ab cb hD h e)
theorem aB.loc {a:Act} (p:aB C o D E s ψ Q a w) {t v:Nat} (hD:D (.inr v)) (h:E.get t= .loc v n cs) (e:ψ (.inr v)=some cb):Holds C ψ w cb (.cells false cs):=
 p.eW.holds _ cb _ e (p.j7 (.inr v) _ cb hD (.inl ⟨t,n,cs,h,rfl⟩) e)
theorem Zvv {x:Operand} (ho:o.op= .load t x) (bx: ∀h,W h->D h) (hDl: ∀r v,md.loc r=true->(E.get r).df=some v->D (.inr v)) (WQ:md.NW=true->∀i p,E.src C x= .v (.ptr (some (i,p)))->D (.inl i)) (h:NA C E o K md t x s=some r):ca C md pr ms o D W E s K r:=by
 unfold NA at h;have⟨td,ht,h⟩:=pU h;rcases Ip h with⟨y,v,p0,hx,h⟩|⟨i,p0,hx,h⟩
 .have⟨hm,h⟩:=Zs h
  have⟨n,cs,hl,h⟩:=ZnA h;have hD:=hDl y v hm (by rw[hl];rfl);have addr: ∀ψ Q a w,aB C o D E s ψ Q a w->∃cb,ψ (.inr v)=some cb/\cb.o=0/\a.eval x= .pointer (some ⟨cb.b,p0,none⟩):=λψ Q a w p=>by
   have:=p.src (x:=x) (by simp[Op.operands,ho]);rw[hx]at this;exact this
  cases hs:nb C.P t with
  |b y'=>
   rw[hs]at h;have⟨d,hd,h⟩:=MU h;have⟨d',h,hr,_⟩:=Nk h;refine ca.val bx _ h λψ Q a w p=>?_
   have⟨cb,e1,e2,e3⟩:=addr ψ Q a w p;have⟨v,hv,lS,_⟩:=My (P:=C.P) (p.loc hD hl e1) hd;rw[e2,eO]at hv;refine⟨v,w,?_,.refl w,hr C ψ v lS⟩;simp only[execOp,ho,e3,Instr.loadAt,Sem.run_bind,vY,Result.andThen_ok,H0 ht (V7 hs) _ w hv,Sem.run_pure]
  |agg l=>
   rw[hs]at h;simp only at h;have⟨hb,h⟩:=me h;have hb:=qA hb;refine ca.val bx _ h λψ Q a w p=>?_
   have hlen:=p.gR.len y v n cs hl;have⟨cb,e1,e2,e3⟩:=addr ψ Q a w p;have⟨vs,hv,_,lS,h1⟩:=L9 (P:=C.P) (p.loc hD hl e1) (p:=p0) (n:=C.P.cellsOf t);rw[e2,eO]at hv;refine⟨_,w,?_,.refl w,by rw[ZzC hlen];exact .agg _ vs lS h1⟩;simp only[execOp,ho,e3,Instr.loadAt,Sem.run_bind,vY,Result.andThen_ok,LW ht (ZsE hs) _ w hv,Sem.run_pure]
 .have⟨hm,h⟩:=Zs h
  have hD:=WQ hm i p0 hx;have addr: ∀ψ Q a w,aB C o D E s ψ Q a w->∃cb,ψ (.inl i)=some cb/\a.eval x= .pointer (some ⟨cb.b,cb.o+p0,none⟩):=λψ Q a w p=>by
   have:=p.val (x:=x) (by simp[Op.operands,ho]) hx;generalize a.eval x=y at this;cases this with
   |ptr _ _ cb e=>exact⟨cb,e,rfl⟩
  cases hs:nb C.P t with
  |b y'=>
   rw[hs]at h;have⟨f,cs,d,cg,hd,h⟩:=Zo0 h;have⟨d',h,hr,_⟩:=Nk h;refine ca.val bx _ h λψ Q a w p=>?_
   have⟨cb,e1,e3⟩:=addr ψ Q a w p;have⟨v,hv,lS,_⟩:=My (P:=C.P) (p.at hD cg e1) hd;refine⟨v,w,?_,.refl w,hr C ψ v lS⟩;simp only[execOp,ho,e3,Instr.loadAt,Sem.run_bind,vY,Result.andThen_ok,H0 ht (V7 hs) _ w hv,Sem.run_pure]
  |agg l=>
   rw[hs]at h;have⟨f,cs,cg,hb,h⟩:=IA h;have⟨ds,h,_,hr,h1⟩:=H4 h;refine ca.val bx _ h λψ Q a w p=>?_
   have⟨cb,e1,e3⟩:=addr ψ Q a w p;have⟨vs,hv,_,lS,h2⟩:=L9 (P:=C.P) (p.at hD cg e1) hb;refine⟨_,w,?_,.refl w,.agg _ vs (hr C ψ _ lS) (h1 h2)⟩;simp only[execOp,ho,e3,Instr.loadAt,Sem.run_bind,vY,Result.andThen_ok,LW ht (ZsE hs) _ w hv,Sem.run_pure]
structure Bn (w w':World) (b:Nat):Prop where
 other: ∀k,k≠b->w'.heap[k]? =w.heap[k]?
 size:w'.heap.size=w.heap.size
 tape:w'.tape=w.tape
 os:w'.os=w.os
 output:uH w w'
theorem Bn.lU (w:World) (b:Nat) (ob:Obj):Bn w (lU w b ob) b:=
 ⟨λ_ h=>ZvH h ob,PF w b ob,rfl,rfl,rfl,aO _⟩
theorem ZnC {vs:List Value} (h:Holds C ψ w cb (.cells false cs)) (hr:bG C ψ ds vs) (h1:ds.all one=true)
  (hp:p+ds.length<=cb.m) (ho:o'+cs'.length<=cb.m) (iZ:cs'.all one=true)
  (hc: ∀j d,cs'[j]? =some d->(p<=o'+j/\o'+j<p+ds.length/\ds[o'+j-p]? =some d)\/((o'+j<p\/p+ds.length<=o'+j)/\cs[o'+j]? =some d)):
  ∃w',(storeCells ⟨cb.b,cb.o+p,none⟩ vs).run P w= .ok () w'/\Bn w w' cb.b/\Holds C ψ w' ⟨cb.b,cb.o+o',cb.m-o'⟩ (.cells false cs'):=by
 have⟨c,ty,fr,hb,cF,dS⟩:=h.2.2.2 rfl;have hl:=hr.len;have dV:=Ru P cb.b (cb.o+p) ty fr vs 0 w c hb (hr.acG h1) (by omega) (by grind);simp only[gV]at dV;refine⟨_,dV,Bn.lU w _ _,by simp only;omega,iZ,λj d hd=>?_,λ_=>⟨_,ty,fr,MM (Iv hb) _,by simp;omega,λj hj=>?_⟩⟩
 .dsimp only
  rw[cell_of_row _ _ _ _ ty fr (MM (Iv hb) _),Nc _ _ _ _ (by omega)];rcases hc j d hd with⟨a1,a2,a3⟩|⟨a1,a2⟩
  .rw[bE ⟨by omega,by omega⟩]
   have⟨v,hv,lS⟩:=hr.get a3;grind
  .rw[bj (by omega)]
   have⟨v,hv,lS⟩:=h.2.2.1 _ _ a2;rw[cell_of_row _ _ _ _ ty fr hb]at hv;grind
 .have:=dS (o'+j) (by simp only at hj;omega)
  rw[<-uy]at this;exact this
theorem ZuB (h:cs.all one=true) (h':ds.all one=true) (hp:p+ds.length<=cs.length):(cE cs p ds).all one=true:=by
 refine vT.2 λx hx=>?_
 have⟨j,hj⟩:=Fa hx;rw[IP cs p ds j hp]at hj;grind
theorem MS {vs:List Value} (h:Holds C ψ w cb (.cells false cs)) (hr:bG C ψ ds vs) (h1:ds.all one=true)
  (hp:p+ds.length<=cs.length):
  ∃w',(storeCells ⟨cb.b,cb.o+p,none⟩ vs).run P w= .ok () w'/\Bn w w' cb.b/\Holds C ψ w' cb (.cells false (cE cs p ds)):=by
 have hm:=h.1;have e1:p+ds.length<=cb.m:=by omega
 have e2:0+(cE cs p ds).length<=cb.m:=by rw[H8];omega
 have⟨w',a,b,c⟩:=ZnC (P:=P) (cs':=cE cs p ds) (o':=0) h hr h1 e1 e2 (ZuB h.2.1 h1 hp) (λj d hd=>by
  rw[IP cs p ds j hp]at hd;grind)
 simp_all
theorem UU (h:s.ik i=some cs):dx s i=some (.cells false cs)/\i<s.length:=by
 grind[St.ik,dx]
theorem ZlP (h:i<s.length) (b:bO):dx (s.set i (some b)) i=some (.cells b.dQ b.cells):=by simp[dx,h]
theorem Mf (h:i≠j) (b:Option bO):dx (s.set i b) j=dx s j:=by grind[dx]
theorem ca.Y9 (bx: ∀h,W h->D h) (hW:W (.inl i)) (e:eQ) (hv:e.df=none) (hp:jx E->∀r v n,e= .pl r v n->v<E.bQ)
  (hi:s.ik i=some cs) (hk:K (E.fg o.dst e) (s.set i (some ⟨false,cs'⟩))=some r)
  (dV: ∀ψ Q a w,aB C o D E s ψ Q a w->∃cb,ψ (.inl i)=some cb/\(Holds C ψ w cb (.cells false cs)->∃v w',((execOp a.eval o).run C.P w= .ok (.value v) w'\/(execOp a.eval o).run C.P w= .ok .skip w'/\v=undef)/\
   Bn w w' cb.b/\Holds C ψ w' cb (.cells false cs')/\gI C ψ e v)):ca C md pr ms o D W E s K r:=by
 have⟨cg,aw⟩:=UU hi;refine .inl ⟨_,_,hk,mM.put pr ms e hv hp (by simp) (λj ab h=>?_) (λj h _=>?_) (.inl (by simp)),?_⟩
 .by_cases e:j=i
  .subst e;exact .inl hW
  .rw[Mf (λe'=>e e'.symm)]at h;exact .inr (.inr h)
 .grind
 intro ψ Q a w next QQ p room hn;have⟨cb,ja,hh⟩:=dV ψ Q a w p;have hq:Q (.inl i) (.cells false cs):=p.j7 (.inl i) _ cb (bx _ hW) cg ja;have⟨v,w',hr,dh,Cs,eU⟩:=hh (p.eW.holds _ cb _ ja hq);have post:LJ C D W E s (E.fg o.dst e) (s.set i (some ⟨false,cs'⟩)) ψ Q w ψ (y8 Q (.inl i) (.cells false cs')) w':=by
  refine⟨ft.set p.eW ja hq rfl dh.other Cs,Ext.set ja hq rfl dh.other dh.size dh.tape dh.os dh.output,λ_ _ e=> .inl e,λh ab c cr hw e'=>?_,λh ab c e' q nw _=>?_⟩
  .by_cases eh:h= .inl i
   .subst eh
    have oU:dx (s.set i (some ⟨false,cs'⟩)) i=some ab:=cr;rw[ZlP aw]at oU;cases oU;exact .inl ⟨rfl,rfl⟩
   .refine .inr ⟨eh,?_⟩
    have fF:CR E s h ab:=by
     cases h with
     |inl j=>
      have oU:dx (s.set i (some ⟨false,cs'⟩)) j=some ab:=cr;rw[Mf (λe=>eh (by rw[e]))]at oU;exact oU
     |inr x=>exact CR.fg (t:=o.dst) (e:=e) (s:=s) hv cr
    rcases hw with hw|⟨n1,n2⟩
    .exact p.j7 h ab c (bx h hw) fF e'
    .exact absurd (fF.qV p.gR) n1
  .exact .inr (by grind)
 have bJ: ∀d,o.dst=some d->gI C ψ ((E.fg o.dst e).get d) v:=λd hd=>by rw[Env.kG,bE hd];exact eU
 unfold Oper.wp;rcases hr with hr|⟨hr,rfl⟩
 .rw[hr];exact hn ψ _ v w' post bJ
 .rw[hr];exact hn ψ _ _ w' post bJ
theorem ZoK {K:M β} (h:dI i p ds K s=some r):
  ∃cs,s.ik i=some cs/\p+ds.length<=cs.length/\K (s.set i (some ⟨false,cE cs p ds⟩))=some r:=by
 unfold dI at h;cases hs:s.ik i with
 |none=>rw[hs]at h;cases h
 |some cs=>
  rw[hs]at h;simp only at h;cases hb:Nat.ble (p+ds.length) cs.length with
  |false=>rw[hb]at h;cases h
  |true=>rw[hb]at h;simp_all
theorem ZmR (ht:P.underlying t=some td) (a:Addr) (v:Value) (w:World) (hs:v.cells.size=P.cellsOf t):
  (storeVar t a v).run P w=(storeCells a v.cells.toList).run P w:=by
 simp[storeVar,qH w ht,hs]
theorem ZtZ {x:Operand} (ho:o.op= .store t x y) (wK:o.dst=none) (bx: ∀h,W h->D h) (GC: ∀r v,md.loc r=true->(E.get r).df=some v->W (.inr v)) (hWh:md.NW=true->∀i p,E.src C x= .v (.ptr (some (i,p)))->W (.inl i)) (h:VJ C E K md ms t x y s=some r):ca C md pr ms o D W E s K r:=by
 unfold VJ at h;have⟨d,hd,h⟩:=Zw h;have⟨ds,td,ht,h,jz,hv⟩:=Znp h;rcases Ip h with⟨u,v,p0,hx,h⟩|⟨i,p0,hx,h⟩
 .have⟨hm,h⟩:=Zs h
  rw[aY]at hm;have⟨n,cs,hl,h⟩:=ZnA h;have⟨hb,h⟩:=me h;have hb:=qA hb;have hW:=GC u v hm.2 (by rw[hl];rfl);have get: ∀k,(E.put u (.loc v n (yY n (C.P.cellsOf t) cs p0 ds))).get k=if u=k then .loc v n (yY n (C.P.cellsOf t) cs p0 ds)else E.get k:=λk=>Env.sG _ _ _ _
  have df: ∀k,((E.put u (.loc v n (yY n (C.P.cellsOf t) cs p0 ds))).get k).df=(E.get k).df:=λk=>by
   rw[get];split
   .rename_i e;subst e;rw[hl];rfl
   .rfl
  have crb: ∀h ab,jx E->CR (E.put u (.loc v n (yY n (C.P.cellsOf t) cs p0 ds))) s h ab->(h= .inr v/\ab= .cells false (yY n (C.P.cellsOf t) cs p0 ds))\/(h≠ .inr v/\CR E s h ab):=by
   intro h ab hE c;cases h with
   |inl i=>exact .inr ⟨by simp,c⟩
   |inr k=>
    rcases c with⟨q,n',cs',hq,fV⟩|⟨q,l,p,hq,fV⟩
    .rw[get]at hq
     split at hq
     .grind
     .rename_i dM
      refine .inr ⟨λe=>?_,.inl ⟨q,n',cs',hq,fV⟩⟩;cases e;exact dM (hE.uniq u q v (by rw[hl];rfl) (by rw[hq];rfl))
    .rw[get]at hq
     split at hq
     .cases hq
     .rename_i dM
      refine .inr ⟨λe=>?_,.inr ⟨q,l,p,hq,fV⟩⟩;cases e;exact dM (hE.uniq u q v (by rw[hl];rfl) (by rw[hq];rfl))
  refine .inl ⟨_,_,h,⟨aO _,aO _,λhE=>⟨?_,?_,?_,?_⟩,?_,(λk d _ h'=>by
   rw[get]at h';grind),?_,?_,?_,?_,λ_ _ _=>rfl,.inr (by unfold Spec;rw[ho];trivial),.inl rfl⟩,?_⟩
  .intro k v' h';rw[df]at h';exact hE.lt k v' h'
  .intro k a b c h'
   rw[get]at h';split at h'
   .cases h'
   .exact hE.pl k a b c h'
  .intro k a b c h'
   rw[get]at h';split at h'
   .cases h'
    have:=hE.len u v n cs hl;rw[Vs this jz hb,H8];exact this
   .exact hE.len k a b c h'
  .intro k k' v' h' Ao;rw[df]at h' Ao;exact hE.uniq k k' v' h' Ao
  .grind
  .intro k _ C' ψ x' hr
   rw[get];split
   .rename_i e;subst e;rw[hl]at hr;exact hr
   .exact hr
  .intro h' ab c
   cases h' with
   |inl i=>exact .inr (.inr c)
   |inr k=>
    rcases c with⟨q,n',cs',hq,fV⟩|⟨q,l,p,hq,fV⟩
    .rw[get]at hq
     split at hq
     .cases hq;exact .inl hW
     .exact .inr (.inr (.inl ⟨q,n',cs',hq,fV⟩))
    .rw[get]at hq
     split at hq
     .cases hq
     .exact .inr (.inr (.inr ⟨q,l,p,hq,fV⟩))
  .grind
  .grind
  .intro ψ Q a w next QQ p room hn
   have:=p.src (x:=x) (by simp[Op.operands,ho]);rw[hx]at this;have⟨cb,e1,e2,e3⟩:=this;have⟨h1,h2,h3⟩:=hv C ψ _ (p.val (x:=y) (by simp[Op.operands,ho]) hd);have hq:Q (.inr v) (.cells false cs):=p.j7 (.inr v) _ cb (bx _ hW) (.inl ⟨u,n,cs,hl,rfl⟩) e1;have hlen:=p.gR.len u v n cs hl;have⟨w',hr,dh,hh⟩:=MS (P:=C.P) (p:=p0) (p.eW.holds _ cb _ e1 hq) h1 h2 (by omega);rw[e2,eO]at hr;have hex:(execOp a.eval o).run C.P w= .ok .skip w':=by
    simp only[execOp,ho,e3,Instr.storeAt,Sem.run_bind,vY,Result.andThen_ok,ZmR ht _ _ w h3,hr,Sem.run_pure]
   unfold Oper.wp;rw[hex];refine hn ψ (y8 Q (.inr v) (.cells false (yY n (C.P.cellsOf t) cs p0 ds))) _ w' ⟨ft.set p.eW e1 hq rfl dh.other (by rw[Vs hlen jz hb];exact hh),Ext.set e1 hq rfl dh.other dh.size dh.tape dh.os dh.output,
    λ_ _ e=> .inl e,λh' ab c cr hw e'=>?_,λh' ab c e' q nw _=>?_⟩ (by grind)
   .rcases crb h' ab p.gR cr with⟨rfl,rfl⟩|⟨dM,cr⟩
    .exact .inl ⟨rfl,rfl⟩
    .refine .inr ⟨dM,?_⟩
     rcases hw with hw|⟨n1,n2⟩
     .exact p.j7 h' ab c (bx h' hw) cr e'
     .exact absurd (cr.qV p.gR) n1
   .exact .inr (by grind)
 .have⟨hm,h⟩:=Zs h
  have⟨cs,hi,hb,h⟩:=ZoK h;refine ca.Y9 bx (hWh hm i p0 hx) .u rfl (λ_ _ _ _ e=>by cases e) hi (by rw[wK];exact h) λψ Q a w p=>?_
  have:=p.val (x:=x) (by simp[Op.operands,ho]) hx;generalize Pa:a.eval x=xv at this;cases this with
  |ptr _ _ cb e=>
   refine⟨cb,e,λhh=>?_⟩;have⟨h1,h2,h3⟩:=hv C ψ _ (p.val (x:=y) (by simp[Op.operands,ho]) hd);have⟨w',hr,dh,Cs⟩:=MS (P:=C.P) (p:=p0) hh h1 h2 hb;refine⟨undef,w',.inr ⟨?_,rfl⟩,dh,Cs,trivial⟩;simp only[execOp,ho,Pa,Instr.storeAt,Sem.run_bind,vY,Result.andThen_ok,ZmR ht _ _ w h3,hr,Sem.run_pure]
end
structure oI (C:bC):Prop where
 ty: ∀t t',C.ty t=C.ty t'->t=t'
 eqg: ∀t,C.D3 t≠[]->C.P.eqGuardType C.P.depth t=false
 eq: ∀t,C.D3 t≠[]->∀ψ xs ys (vs us:Array Value) b w,bG C ψ xs vs.toList->bG C ψ ys us.toList->nv (C.D3 t) xs ys=some b->(Op.equal t (.agg vs) (.agg us)).run C.P w= .ok b w
 tae: ∃e d,C.P.underlying C.P.rt.typeAssertionError=some (.pointer e)/\C.P.underlying e=some d
section
variable {C:bC} {o:Oper} {D W:dH->Prop} {E:Env} {s:St} {md:Md} {pr ms:al}
theorem Zso (d:Nat) (ht:P.underlying t=some .bool) (x y:Bool) (w:World):(Op.equalIn (d+1) t (.bool x) (.bool y)).run P w= .ok (x==y) w:=by
 simp[Op.equalIn,Zl w ht]
theorem ZvY (ht:P.underlying t=some .bool) (x y:Bool) (w:World):(Op.equal t (.bool x) (.bool y)).run P w= .ok (x==y) w:=Zso 9999 ht x y w
theorem Zue (d:Nat) (ht:P.underlying t=some (.pointer e)) (a:Option Addr) (w:World):
  (Op.equalIn (d+1) t (.pointer a) (.pointer none)).run P w= .ok a.isNone w/\(Op.equalIn (d+1) t (.pointer none) (.pointer a)).run P w= .ok a.isNone w:=by
 cases a<;>constructor<;>simp[Op.equalIn,Zl w ht]
theorem MK (ht:P.underlying t=some (.pointer e)) (a:Option Addr) (w:World):
  (Op.equal t (.pointer a) (.pointer none)).run P w= .ok a.isNone w/\(Op.equal t (.pointer none) (.pointer a)).run P w= .ok a.isNone w:=Zue 9999 ht a w
theorem ZrO (d:Nat) (ht:P.underlying t=some (.slice e)) (a:Option Addr) (n m n' m':Nat) (w:World):
  (Op.equalIn (d+1) t (.slice a n m) (.slice none n' m')).run P w= .ok a.isNone w/\(Op.equalIn (d+1) t (.slice none n' m') (.slice a n m)).run P w= .ok a.isNone w:=by
 cases a<;>constructor<;>simp[Op.equalIn,Zl w ht]
theorem L5 (ht:P.underlying t=some (.slice e)) (a:Option Addr) (n m n' m':Nat) (w:World):
  (Op.equal t (.slice a n m) (.slice none n' m')).run P w= .ok a.isNone w/\(Op.equal t (.slice none n' m') (.slice a n m)).run P w= .ok a.isNone w:=ZrO 9999 ht a n m n' m' w
theorem Zwt (x y:ByteArray):(x.toList==y.toList)=(x.data.toList==y.data.toList):=by rw[ByteArray.toList_eq,ByteArray.toList_eq]
theorem ZsW {x y:DV} {K:Bool->M β} (hc:oI C) (h:NV (C.P.underlying t) (C.D3 t) x y K s=some r):
  ∃b,K b s=some r/\∀ψ w (x' y':Value) (p q:Operand),VR C ψ x x'->VR C ψ y y'->
   (do eqGuard .eql t p q x' y';Go.binOp .eql t x' y':Sem Value).run C.P w= .ok (.bool b) w/\(do eqGuard .neq t p q x' y';Go.binOp .neq t x' y':Sem Value).run C.P w= .ok (.bool !b) w:=by
 generalize hu:C.P.underlying t=u at h;unfold NV at h;split at h
 ·
  split at h
  ·
   refine⟨_,h,λψ w x' y' p q hx hy=>?_⟩;cases hx;cases hy;constructor<;>simp[eqGuard,Go.binOp,ZvY hu]
  .cases h
 .have⟨h1,h2⟩:=Zs h
  clear h;have:=IQ h1;subst this;refine⟨_,h2,λψ w x' y' p q hx hy=>?_⟩;cases hx;cases hy;constructor<;>simp[eqGuard,Go.binOp,Op.intCmp,bne]
 .refine⟨_,h,λψ w x' y' p q hx hy=>?_⟩
  cases hx;cases hy;constructor<;>simp[eqGuard,Go.binOp,Op.stringOp,Zwt]
 .split at h
  .refine⟨_,h,λψ w x' y' p q hx hy=>?_⟩
   cases hy;cases hx with
   |K2=>constructor<;>simp[eqGuard,Go.binOp,(MK hu none w).1]
   |ptr i n cb e=>constructor<;>simp[eqGuard,Go.binOp,(MK hu _ w).1]
  .cases h
 .split at h
  .refine⟨_,h,λψ w x' y' p q hx hy=>?_⟩
   cases hx;cases hy with
   |K2=>constructor<;>simp[eqGuard,Go.binOp,(MK hu none w).1]
   |ptr i n cb e=>constructor<;>simp[eqGuard,Go.binOp,(MK hu _ w).2]
  .cases h
 .split at h
  .refine⟨_,h,λψ w x' y' p q hx hy=>?_⟩
   cases hy;cases hx with
   |tc=>constructor<;>simp[eqGuard,Go.binOp,(L5 hu none 0 0 0 0 w).1]
   |slice _ i n m cb a cap e=>constructor<;>simp[eqGuard,Go.binOp,(L5 hu _ _ _ 0 0 w).1]
  .cases h
 .split at h
  .refine⟨_,h,λψ w x' y' p q hx hy=>?_⟩
   cases hx;cases hy with
   |tc=>constructor<;>simp[eqGuard,Go.binOp,(L5 hu none 0 0 0 0 w).1]
   |slice _ i n m cb a cap e=>constructor<;>simp[eqGuard,Go.binOp,(L5 hu _ _ _ 0 0 w).2]
  .cases h
 .rename_i xs ys
  cases cI:C.D3 t with
  |nil=>rw[cI]at h;cases h
  |cons k ks=>
   rw[cI]at h;simp only at h;cases hb:nv (k::ks) xs ys with
   |none=>rw[hb]at h;cases h
   |some b=>
    rw[hb]at h;refine⟨_,h,λψ w x' y' p q hx hy=>?_⟩;have abk:C.D3 t≠[]:=by rw[cI];grind
    cases hx with
    |agg _ vs h1 _=>
     cases hy with
     |agg _ us h2 _=>
      have he:=hc.eq t abk ψ _ _ vs us b w h1 h2 (by rw[cI];exact hb);constructor<;>simp[eqGuard,Go.binOp,hc.eqg t abk,he]
 .cases h
theorem Zx7 (h:op= .and\/op= .or\/op= .xor\/op= .andNot) (t:TypeId) (p q:Operand) (k:IntKind) (x y:Int) (w:World):
  (do eqGuard op t p q (.int k x) (.int k y);Go.binOp op t (.int k x) (.int k y):Sem Value).run P w= .ok (.int k (bits op k x y)) w:=by
 have e:Go.binOp op t (.int k x) (.int k y)=Op.intBits op k x y:=by rcases h with rfl|rfl|rfl|rfl<;>simp[Go.binOp]
 rw[e];rcases h with rfl|rfl|rfl|rfl<;>rfl
theorem ZwW {x:Operand} (hc:oI C) (ho:o.op= .binOp op t x y yt) (bx: ∀h,W h->D h) (h:YT C E o K op t x y s=some r):ca C md pr ms o D W E s K r:=by
 unfold YT at h;have⟨a,ha,h⟩:=Zw h;have⟨b,hb,h⟩:=Zw h;have key: ∀d,cD E o K d s=some r->(∀ψ w x' y',VR C ψ a x'->VR C ψ b y'->∃v,(do eqGuard op t x y x' y';Go.binOp op t x' y':Sem Value).run C.P w= .ok v w/\VR C ψ d v)->ca C md pr ms o D W E s K r:=by
  intro d h hr;refine ca.val bx d h λψ Q A w p=>?_
  have⟨v,hv,lS⟩:=hr ψ w _ _ (p.val (x:=x) (by simp[Op.operands,ho]) ha) (p.val (x:=y) (by simp[Op.operands,ho]) hb);refine⟨v,w,?_,.refl w,lS⟩;simp only[execOp,ho,Sem.run_bind]at hv⊢;rw[hv];rfl
 unfold aaZ at h;split at h
 .have⟨b',h,hr⟩:=ZsW hc h
  exact key _ h λψ w x' y' hx hy=>⟨_,(hr ψ w x' y' x y hx hy).1,.bool _⟩
 .have⟨b',h,hr⟩:=ZsW hc h
  exact key _ h λψ w x' y' hx hy=>⟨_,(hr ψ w x' y' x y hx hy).2,.bool _⟩
 .split at h
  .rename_i k n k' m
   have h0:=h;clear h;have⟨hm,h⟩:=me h0;clear h0;have hm:=Int.not_lt.2 (mK hm);refine key _ h λψ w x' y' hx hy=>?_
   cases hx;cases hy;exact⟨_,by simp[eqGuard,Go.binOp,Op.shift,hm],.int _ _⟩
  .cases h
 .split at h
  .rename_i k n k' m
   have h0:=h;clear h;have⟨hm,h⟩:=me h0;clear h0;have hm:=Int.not_lt.2 (mK hm);refine key _ h λψ w x' y' hx hy=>?_
   cases hx;cases hy;exact⟨_,by simp[eqGuard,Go.binOp,Op.shift,hm],.int _ _⟩
  .cases h
 .rename_i n1 n2 n3 n4
  split at h
  .have h0:=h
   clear h;have⟨hk,h⟩:=Zs h0;clear h0;have:=IQ hk;subst this;cases op with
   |eql=>exact absurd rfl n1
   |neq=>exact absurd rfl n2
   |shl=>exact absurd rfl n3
   |shr=>exact absurd rfl n4
   |quo=>
    have⟨hm,h⟩:=me h;simp only[lF,eG]at hm;refine key _ h λψ w x' y' hx hy=>?_
    cases hx;cases hy;exact⟨_,by simp[eqGuard,Go.binOp,Op.intDiv,hm],.int _ _⟩
   |rem=>
    have⟨hm,h⟩:=me h;simp only[lF,eG]at hm;refine key _ h λψ w x' y' hx hy=>?_
    cases hx;cases hy;exact⟨_,by simp[eqGuard,Go.binOp,Op.intDiv,hm],.int _ _⟩
   |and|or|xor|andNot=>
    refine key _ h λψ w x' y' hx hy=>?_
    cases hx;cases hy;exact⟨_,Zx7 (by simp) t x y _ _ _ w,.int _ _⟩
   |_=>
    refine key _ h λψ w x' y' hx hy=>?_
    cases hx;cases hy;exact⟨_,by simp[eqGuard,Go.binOp,Op.intArith,Op.intCmp]<;>rfl,by constructor⟩
  .rename_i l l'
   cases op with
   |eql=>exact absurd rfl n1
   |neq=>exact absurd rfl n2
   |shl=>exact absurd rfl n3
   |shr=>exact absurd rfl n4
   |add=>
    have⟨hm,h⟩:=me h;have hm:=qA hm;refine key _ h λψ w x' y' hx hy=>?_
    cases hx with
    |str p=>
     cases hy with
     |str q=>
      have e:p.data.toList++q.data.toList=(p++q).data.toList:=by simp[ByteArray.data_append]
      rw[e];rw[oE,oE]at hm;have qb:p.size+q.size<=4611686018427387904:=hm;refine⟨.string (p++q),?_,.str _⟩;have:=run_string_add_sum (P:=C.P) (w:=w) p q (by omega);simp[eqGuard,Go.binOp,this]
   |lss|leq|gtr|geq=>
    refine key _ h λψ w x' y' hx hy=>?_
    cases hx;cases hy;refine⟨_,by simp only[eqGuard,Go.binOp,Op.stringOp,ByteArray.toList_eq];rfl,.bool _⟩
   |_=>cases h
  .cases h
end
def ES (P:Program) (t:TypeId) (b:B):Bool:=match P.underlying t,b with
 |some .bool,.bool=>true
 |some (.int _),.int _=>true
 |some .string,.str=>true
 |_,_=>false
def NU (P:Program):List Field->List B->Nat->Bool
 |[],[],_=>true
 |f::r,b::bs,o=>f.name != "_" &&Nat.beq f.offset o&&ES P f.type b&&NU P r bs (o+1)
 |_,_,_=>false
def Gp (P:Program):List Field->List B->Nat->Bool
 |[],[],_=>true
 |[],_::_,_=>false
 |f::r,bs,o=>f.name != "_" &&Nat.beq f.offset o&&(match P.underlying f.type with
  |some (.struct fs)=>Nat.beq (P.cellsOf f.type) fs.size&&Nat.ble fs.size bs.length&& !(P.stoodInHeld f.type)&&NU P fs.toList (bs.take fs.size) 0&&Gp P r (bs.drop fs.size) (o+fs.size)
  |_=>match bs with
   |b::gP=>ES P f.type b&&Gp P r gP (o+1)
   |[]=>false)
def Gq (P:Program) (t:TypeId) (bs:List B):Bool:=match P.underlying t with
 |some (.struct fs)=>Gp P fs.toList bs 0&& !(P.stoodInHeld t)&& !(P.eqGuardType P.depth t)
 |_=>false
section
variable {C:bC} {ψ:Ps}
theorem Zsl {d:Nat} {b:B} {x y:DV} {u:Value} {r:Bool} (w:World) (hs:ES C.P t b=true) (hx:VR C ψ x v) (hy:VR C ψ y u) (he:B5 b x y=some r):
  (Op.equalIn (d+1) t v u).run C.P w= .ok r w:=by
 unfold ES at hs;split at hs
 .rename_i hu
  unfold B5 at he;split at he<;>first|(rename_i h1;cases h1;done)|skip
  .cases hx;cases hy;cases he
   simp[Op.equalIn,Zl w hu]
  grind
 .rename_i hu
  unfold B5 at he;split at he
  .rename_i h1;cases h1
  .rename_i k0 k a k' b' _
   cases hk:vF k0 k&&vF k k' with
   |false=>rw[hk]at he;cases he
   |true=>
    rw[hk]at he;rw[aY]at hk;have:=IQ hk.2;subst this;cases hx;cases hy;cases he;simp[Op.equalIn,Zl w hu]
  .rename_i h1;cases h1
  .cases he
 .rename_i hu
  unfold B5 at he;split at he
  .rename_i h1;cases h1
  .rename_i h1;cases h1
  .cases hx;cases hy;cases he
   have e: ∀a b:ByteArray,(a==b)=(a.data.toList==b.data.toList):=by
    intro a b;have e1:(a==b)=(a.data==b.data):=by cases a;cases b;rfl
    rw[e1,lE];simp only[uA];exact⟨λh=>by rw[h],λh=>Array.toList_inj.1 h⟩
   rw[Op.equalIn,Sem.run_bind,Zl w hu,Result.andThen_ok,Sem.run_pure,e]
  .cases he
 .cases hs
theorem ME {b:B} {cs:Array Value} (w:World) (hs:ES C.P e b=true) (hx:cs[off]? =some v):(Go.part e cs off).run C.P w= .ok v w:=by
 refine run_part_plain w ?_ hx;unfold ES at hs;grind[Program.plainKey]
theorem Zsh {d:Nat} (xs ys:Array Value) (w:World): ∀(fs:List Field) (bs:List B) (ds es:ah) (o:Nat) (r:Bool),NU C.P fs bs o=true->
  bG C ψ ds (xs.toList.drop o)->bG C ψ es (ys.toList.drop o)->nv bs ds es=some r->(Op.eqFields (d+1) xs ys fs).run C.P w= .ok r w
 |[],[],[],[],o,r,_,_,_,he=>by
  cases he;simp[Op.eqFields]
 |[],[],_::_,_,_,_,_,_,_,he=>by cases he
 |[],[],[],_::_,_,_,_,_,_,he=>by cases he
 |[],_::_,_,_,_,_,h,_,_,_=>by cases h
 |_::_,[],_,_,_,_,h,_,_,_=>by cases h
 |f::fs,b::bs,[],_,_,_,_,_,_,he=>by cases he
 |f::fs,b::bs,_::_,[],_,_,_,_,_,he=>by cases he
 |f::fs,b::bs,x::ds,y::es,o,r,h,hx,hy,he=>by
  simp only[NU,aY]at h;have⟨⟨⟨hn,ho⟩,hs⟩,hr⟩:=h;have ho:=dL ho;have hn:f.name≠ "_" :=by simpa using hn
  simp only[nv]at he;cases h1:B5 b x y with
  |none=>rw[h1]at he;cases he
  |some r1=>
   cases h2:nv bs ds es with
   |none=>rw[h1,h2]at he;cases he
   |some r2=>
    rw[h1,h2]at he;cases he;have Lc: ∀ {z:Array Value} {q:DV} {qs:ah},bG C ψ (q::qs) (z.toList.drop o)->∃v,z[o]? =some v/\VR C ψ q v/\bG C ψ qs (z.toList.drop (o+1)):=by
     intro z q qs hq;generalize hz:z.toList.drop o=l at hq;cases hq with
     |cons _ v _ vs a b=>
      have e:z.toList[o]? =some v:=by
       have:=congrArg (λl:List Value=>l[0]?) hz;simpa using this
      refine⟨v,by rw[<-kV];exact e,a,?_⟩;have:=congrArg (List.drop 1) hz;rw[kW]at this;rw[this];exact b
    have⟨v,hv,rv,tv⟩:=Lc hx;have⟨u,hu,ru,tu⟩:=Lc hy;have p1:=ME (C:=C) w hs hv;have p2:=ME (C:=C) w hs hu;have p3:=Zsl (d:=d) w hs rv ru h1;have p4:=Zsh (d:=d) xs ys w fs bs ds es (o+1) r2 hr tv tu h2;rw[<-ho]at p1 p2;simp only[Op.eqFields,hn,ne_eq,not_false_eq_true,mJ,Sem.run_bind,p1,p2,p3,Result.andThen_ok];cases r1
    .simp
    .simpa using p4
theorem ZqV: ∀(n:Nat) (bs:List B) (ds es:ah) (r:Bool),nv bs ds es=some r->n<=bs.length->∃r1 r2,nv (bs.take n) (ds.take n) (es.take n)=some r1/\nv (bs.drop n) (ds.drop n) (es.drop n)=some r2/\r=(r1&&r2)
 |0,bs,ds,es,r,h,_=>⟨true,r,by simp[nv],by simpa using h,by simp⟩
 |n+1,[],ds,es,r,h,hn=>by simp at hn
 |n+1,b::bs,[],es,r,h,hn=>by cases h
 |n+1,b::bs,_::_,[],r,h,hn=>by cases h
 |n+1,b::bs,x::ds,y::es,r,h,hn=>by
  simp only[nv]at h;cases h1:B5 b x y with
  |none=>rw[h1]at h;cases h
  |some a=>
   cases h2:nv bs ds es with
   |none=>rw[h1,h2]at h;cases h
   |some c=>
    rw[h1,h2]at h;cases h;have⟨r1,r2,g1,g2,g3⟩:=ZqV n bs ds es c h2 (by simpa using hn);refine⟨a&&r1,r2,?_,by simpa using g2,by rw[g3,Bool.and_assoc]⟩;simp[List.take_succ_cons,nv,h1,g1]
theorem Ve {d:Nat} (xs ys:Array Value) (w:World): ∀(fs:List Field) (bs:List B) (ds es:ah) (o:Nat) (r:Bool),Gp C.P fs bs o=true->
  bG C ψ ds (xs.toList.drop o)->bG C ψ es (ys.toList.drop o)->nv bs ds es=some r->(Op.eqFields (d+2) xs ys fs).run C.P w= .ok r w
 |[],[],ds,es,o,r,_,_,_,he=>by
  cases ds<;>cases es<;>cases he
  simp[Op.eqFields]
 |[],_::_,_,_,_,_,h,_,_,_=>by cases h
 |f::fs,bs,ds,es,o,r,h,hx,hy,he=>by
  unfold Gp at h;rw[aY,aY]at h;have⟨⟨hn,ho⟩,h⟩:=h;have ho:=dL ho;have hn:f.name≠ "_" :=by simpa using hn
  have akR: ∀b gP,bs=b::gP->(ES C.P f.type b&&Gp C.P fs gP (o+1))=true->(Op.eqFields (d+2) xs ys (f::fs)).run C.P w= .ok r w:=by
   rintro b gP rfl h;rw[aY]at h;have⟨hs,hr⟩:=h
   match ds,es,hx,hy,he with
   |[],_,_,_,he=>cases he
   |_::_,[],_,_,he=>cases he
   |x::ds,y::es,hx,hy,he=>
   simp only[nv]at he;cases h1:B5 b x y with
   |none=>rw[h1]at he;cases he
   |some r1=>
    cases h2:nv gP ds es with
    |none=>rw[h1,h2]at he;cases he
    |some r2=>
     rw[h1,h2]at he;cases he;have Lc: ∀ {z:Array Value} {q:DV} {qs:ah},bG C ψ (q::qs) (z.toList.drop o)->∃v,z[o]? =some v/\VR C ψ q v/\bG C ψ qs (z.toList.drop (o+1)):=by
      intro z q qs hq;generalize hz:z.toList.drop o=l at hq;cases hq with
      |cons _ v _ vs a b=>
       have e:z.toList[o]? =some v:=by
        have:=congrArg (λl:List Value=>l[0]?) hz;simpa using this
       refine⟨v,by rw[<-kV];exact e,a,?_⟩;have:=congrArg (List.drop 1) hz;rw[kW]at this;rw[this];exact b
     have⟨v,hv,rv,tv⟩:=Lc hx;have⟨u,hu,ru,tu⟩:=Lc hy;have p1:=ME (C:=C) w hs hv;have p2:=ME (C:=C) w hs hu;have p3:=Zsl (d:=d+1) w hs rv ru h1;have p4:=Ve (d:=d) xs ys w fs gP ds es (o+1) r2 hr tv tu h2;rw[<-ho]at p1 p2;simp only[Op.eqFields,hn,ne_eq,not_false_eq_true,mJ,Sem.run_bind,p1,p2,p3,Result.andThen_ok];cases r1
     .simp
     .simpa using p4
  split at h
  .rename_i gs hu
   simp only[aY]at h;have⟨⟨⟨⟨hc,hle⟩,cg⟩,hg⟩,hr⟩:=h;have hc:=dL hc;have hle:=qA hle;have cg:C.P.stoodInHeld f.type=false:=by simpa using cg
   have⟨r1,r2,e1,e2,e3⟩:=ZqV gs.size bs ds es r he hle;have cI:jj C.P f.type=true:=by unfold jj;rw[hu]
   have prt: ∀z:Array Value,(Go.part f.type z o).run C.P w= .ok (.agg (z.extract o (o+gs.size))) w:=λz=>by
    unfold Go.part;simp only[Sem.run_bind,Is w hu,Result.andThen_ok,cI,mJ,qH w hu,hc,Sem.run_pure]
   have sub: ∀ {z:Array Value} {qs:ah},bG C ψ qs (z.toList.drop o)->bG C ψ (qs.take gs.size) ((z.extract o (o+gs.size)).toList.drop 0):=by
    intro z qs hq;have:=hq.take gs.size;rw[dK,Array.toList_extract,PZ,show o+gs.size-o=gs.size by omega];exact this
   have rst: ∀ {z:Array Value} {qs:ah},bG C ψ qs (z.toList.drop o)->bG C ψ (qs.drop gs.size) (z.toList.drop (o+gs.size)):=by
    intro z qs hq;have:=hq.drop gs.size;rw[kW]at this;exact this
   have mY:C.P.fieldsOf f.type=gs:=by unfold Program.fieldsOf;rw[hu]
   have p3:(Op.equalIn (d+2) f.type (.agg (xs.extract o (o+gs.size))) (.agg (ys.extract o (o+gs.size)))).run C.P w= .ok r1 w:=by
    rw[run_equalIn_struct w (d+1) f.type _ _ (by rw[mY];exact hu) cg,mY];exact Zsh (d:=d) _ _ w gs.toList (bs.take gs.size) _ _ 0 r1 hg (sub hx) (sub hy) e1
   have p4:=Ve (d:=d) xs ys w fs (bs.drop gs.size) _ _ (o+gs.size) r2 hr (rst hx) (rst hy) e2;have p1:=prt xs;have p2:=prt ys;rw[<-ho]at p1 p2 p3;simp only[Op.eqFields,hn,ne_eq,not_false_eq_true,mJ,Sem.run_bind,p1,p2,p3,Result.andThen_ok];rw[e3];cases r1
   .simp
   .simpa using p4
  grind
theorem Zvc {bs:List B} (h:Gq P t bs=true):P.eqGuardType P.depth t=false:=by
 grind[Gq]
theorem ZxP {bs:List B} (h:Gq C.P t bs=true) {us:Array Value} {b:Bool} (w:World) (hx:bG C ψ xs vs.toList) (hy:bG C ψ ys us.toList) (he:nv bs xs ys=some b):
  (Op.equal t (.agg vs) (.agg us)).run C.P w= .ok b w:=by
 unfold Gq at h;split at h
 .rename_i fs hu
  simp only[aY]at h;have cg:C.P.stoodInHeld t=false:=by simpa using h.1.2
  unfold Op.equal;have mY:C.P.fieldsOf t=fs:=by grind[Program.fieldsOf]
  rw[show Op.maxDepth=9999+1 from rfl,run_equalIn_struct w 9999 t vs us (by rw[mY];exact hu) cg,mY];exact Ve (d:=9997) vs us w fs.toList bs xs ys 0 b h.1.1 (by rw[dK];exact hx) (by rw[dK];exact hy) he
 .cases h
def KO:List (Nat×List B)->Nat->List B
 |[],_=>[]
 |(k,v)::r,x=>bif Nat.beq k x then v else KO r x
theorem V2 {P:Program} : ∀ {l:List (Nat×List B)},(l.all λx=>Gq P x.1 x.2)=true->∀t,KO l t≠[]->Gq P t (KO l t)=true
 |[],_,t,h=>absurd rfl h
 |(k,v)::r,hl,t,h=>by
  rw[vS,aY]at hl;simp only[KO]at h⊢;cases hk:Nat.beq k t with
  |true=>rw[hk]at h;rw[<-dL hk];exact hl.1
  |false=>rw[hk]at h;exact V2 hl.2 t h
end
section
variable {C:bC} {o:Oper} {D W:dH->Prop} {E:Env} {s:St} {md:Md} {pr ms:al}
theorem aB.int {ψ:Ps} {Q:Kn} {a:Act} {w:World} (p:aB C o D E s ψ Q a w) {x:Operand} (hx:x∈o.op.operands) {k:IntKind} {n:Int} (h:E.src C x= .v (.int k n)):a.eval x= .int k n:=by
 have:=p.val hx h;generalize a.eval x=v at this;cases this;rfl
theorem Ss {len:Nat} {K:Nat->Nat->M β} (h:IX C E len lo hi K s=some r):
  ∃l u,K l u s=some r/\l<=u/\u<=len/\(lo=none->l=0)/\(hi=none->u=len)/\
   ∀ψ Q a w,aB C o D E s ψ Q a w->(∀x,lo=some x->x∈o.op.operands)->(∀x,hi=some x->x∈o.op.operands)->∀(b:Bool) (cap:Nat),len<=cap->(b=false->len=cap)->
    (Instr.sliceBounds b len cap (lo.map a.eval) (hi.map a.eval) none).run C.P w= .ok (l,u,cap) w:=by
 unfold IX at h;have low: ∀u,(match lo with|none=>K 0 u|some x=>CG C E x λl=>aC (decide (0<=l)&&decide (l<=u)) (K l.toNat u)) s=some r->
   ∃l,K l u s=some r/\l<=u/\(lo=none->l=0)/\∀ψ Q a w,aB C o D E s ψ Q a w->(∀x,lo=some x->x∈o.op.operands)->
    (match lo.map a.eval with|some v=>Instr.sliceBound v u .sliceB|none=>pure 0:Sem Nat).run C.P w= .ok l w:=by
  intro u h;cases lo with
  |none=>exact⟨0,h,cz _,λ_=>rfl,λψ Q a w p _=>rfl⟩
  |some x=>
   have⟨k,n,hx,h⟩:=FT h;have⟨hc,h⟩:=me h;simp only[aY,zC]at hc;refine⟨n.toNat,h,by omega,λh=>(nomatch h),λψ Q a w p hm=>?_⟩;rw[nf,p.int (hm x rfl) hx];exact run_sliceBound _ k n u _ hc.1 hc.2
 cases hi with
 |none=>
  have⟨l,h,h1,h2,h3⟩:=low len h;refine⟨l,len,h,h1,aO _,h2,λ_=>rfl,λψ Q a w p hl _ b cap qZ hb=>?_⟩;have:=h3 ψ Q a w p hl;unfold Instr.sliceBounds;simp only[Option.map_none,Sem.run_bind,Sem.run_pure,Result.andThen_ok,LA,uu,ng];cases pz:lo.map a.eval with
  |none=>rw[pz]at this;simp only[Sem.run_pure,Result.ok.injEq]at this⊢;simp[this.1]
  |some v=>rw[pz]at this;simp only at this⊢;rw[Sem.run_bind,this];rfl
 |some y=>
  have⟨k,n,hy,h⟩:=FT h;have⟨hc,h⟩:=me h;simp only[aY,zC]at hc;have⟨l,h,h1,h2,h3⟩:=low n.toNat h;refine⟨l,n.toNat,h,h1,by omega,h2,λh=>(nomatch h),λψ Q a w p hl hh b cap qZ hb=>?_⟩;have:=h3 ψ Q a w p hl;have hs: ∀code,(Instr.sliceBound (.int k n) cap code).run C.P w= .ok n.toNat w:=λcode=>run_sliceBound _ k n cap code hc.1 (by omega)
  unfold Instr.sliceBounds;simp only[nf,p.int (hh y rfl) hy,Sem.run_bind,Sem.run_pure,Result.andThen_ok,LA,uu,ng,hs];cases pz:lo.map a.eval with
  |none=>rw[pz]at this;simp only[Sem.run_pure,Result.ok.injEq]at this⊢;simp[this.1]
  |some v=>rw[pz]at this;simp only at this⊢;rw[Sem.run_bind,this];rfl
theorem ZtR (ho:o.op= .slice t y lo hi none):y∈o.op.operands/\(∀x,lo=some x->x∈o.op.operands)/\(∀x,hi=some x->x∈o.op.operands):=by
 rw[ho];grind[Op.operands]
theorem ZuZ {cap l u:Nat} {lo:Bool} (ja:ψ (.inl i)=some cb) (hb:0<cap->base=⟨cb.b,cb.o+off,none⟩/\off+cap*sz<=cb.m)
  (h1:l<=u) (h2:u<=n) (h3:n<=cap) (pz:lo=false->l=0):
  VR C ψ (.slice sz (cU lo (some (i,off)) (l*sz)) (Jm lo l u)) (.slice (some (if cap=l then base else base.add (l*sz))) (u-l) (cap-l)):=by
 have e:cU lo (some (i,off)) (l*sz)=some (i,off+l*sz):=by
  grind[cU,tm]
 have e2:Jm lo l u=u-l:=by
  grind[Jm]
 rw[e,e2];refine .slice sz i _ _ cb _ _ ja (by omega) (λhc=>?_);have⟨h4,h5⟩:=hb (by omega);rw[bj (by omega),h4,BG];refine⟨by rw[uy],?_⟩;have:off+l*sz+(cap-l)*sz=off+cap*sz:=by rw[uy,<-vU];congr 2;omega
 omega
theorem Zul (ho:o.op= .slice t y lo hi none) (bx: ∀h,W h->D h) (WQ:(∃m e,C.P.underlying t=some (.array m e))->∀i,D (.inl i)) (h:VY C E o K t y lo hi s=some r):ca C md pr ms o D W E s K r:=by
 have⟨my,Pn,Pm⟩:=ZtR ho;unfold VY at h;cases ht:C.P.underlying t with
 |none=>rw[ht]at h;cases h
 |some td=>
  rw[ht]at h;cases td with
  |string=>
   simp only at h;have⟨d,hd,h⟩:=Zw h;cases d with
   |str x=>
    simp only at h;have⟨l,u,h,h1,h2,h3,h4,hr⟩:=Ss (o:=o) (D:=D) h;refine ca.val bx _ h λψ Q a w p=>?_
    have hv:=p.val my hd;generalize hy:a.eval y=v at hv;cases hv with
    |str x=>
     have hlen:x.data.toList.length=x.size:=by rw[oE];rfl
     have kN:=hr ψ Q a w p Pn Pm false x.size (by omega) (λ_=>hlen);rw[hlen]at kN;refine⟨.string (x.extract l u),w,?_,.refl w,?_⟩
     .simp only[execOp,ho,hy,Instr.sliceAt,Sem.run_bind,Zl w ht,Result.andThen_ok,Instr.slice,Option.map_none,LA,uu,ng,Sem.run_pure,kN]
     .have e:Gj lo.isSome hi.isSome x.data.toList l u=(x.extract l u).data.toList:=by
       rw[ByteArray.data_extract,Array.toList_extract,PZ];have e2:(x.data.toList.take u).drop l=(x.data.toList.drop l).take (u-l):=by rw[C9]
       cases lo with
       |none=>
        have:=h3 rfl;subst this;cases hi with
        |none=>
         have:=h4 rfl;subst this;simp only[Gj,LA,af];rw[dK,Fi,dG (aO _)]
        |some _=>simp[Gj]
       |some _=>
        cases hi with
        |none=>
         have:=h4 rfl;subst this;simp only[Gj,Option.isSome_some,LA,ae,af];rw[dG (by simp)]
        |some _=>rw[Gj,Option.isSome_some,ae];exact e2
      rw[e];exact .str _
   |_=>cases h
  |slice e=>
   simp only at h;have⟨ed,he,h⟩:=pU h;have⟨d,hd,h⟩:=Zw h;cases d with
   |slice z a n=>
    simp only at h;have⟨hz,h⟩:=Zs h;have⟨l,u,h,h1,h2,h3,h4,hr⟩:=Ss (o:=o) (D:=D) h;refine ca.val bx _ h λψ Q A w p=>?_
    have hv:=p.val my hd;generalize hy:A.eval y=v at hv;cases hv with
    |tc=>
     have kN:=hr ψ Q A w p Pn Pm true 0 (aO _) (λh=>nomatch h);have:l=0:=by omega
     subst this;have:u=0:=by omega
     subst this;refine⟨.slice none 0 0,w,?_,.refl w,?_⟩
     .simp[execOp,ho,hy,Instr.sliceAt,Instr.slice,Zl w ht,kN,qH w he]
     .cases lo<;>exact .tc _
    |slice _ i off _ cb base cap ja qZ hb=>
     simp only[Option.isNone_some,Bool.or_false]at hz;have hz:=dL hz;subst hz;have kN:=hr ψ Q A w p Pn Pm true cap qZ (λh=>nomatch h);refine⟨_,w,?_,.refl w,ZuZ ja hb h1 h2 qZ (λhl=>h3 (by cases lo<;>first|rfl|cases hl))⟩;simp only[execOp,ho,hy,Instr.sliceAt,Instr.slice,Sem.run_bind,Zl w ht,Result.andThen_ok,Option.map_none,kN,qH w he,Sem.run_pure,nf];by_cases cL:cap=l<;>simp[cL]
   |_=>cases h
  |array m e=>
   simp only at h;have⟨ed,he,h⟩:=pU h;have⟨d,hd,h⟩:=Zw h;cases d with
   |ptr a=>
    simp only at h;have⟨i,off,ha,h'⟩:=VO h;clear h;subst ha;have⟨f,cs,cg,hle,h⟩:=IA h';have⟨l,u,h,h1,h2,h3,h4,hr⟩:=Ss (o:=o) (D:=D) h;refine ca.val bx _ h λψ Q A w p=>?_
    have hv:=p.val my hd;generalize hy:A.eval y=v at hv;cases hv with
    |ptr _ _ cb ja=>
     have hh:=(p.at (WQ ⟨m,e,ht⟩ i) cg ja).1;have kN:=hr ψ Q A w p Pn Pm false m (aO _) (λ_=>rfl);refine⟨_,w,?_,.refl w,ZuZ (cap:=m) (base:=⟨cb.b,cb.o+off,none⟩) ja (by grind) h1 h2 (aO _) (λhl=>h3 (by cases lo<;>first|rfl|cases hl))⟩;simp only[execOp,ho,hy,Instr.sliceAt,Sem.run_bind,Zl w ht,Result.andThen_ok,vY,Option.map_none,kN,qH w he,Sem.run_pure]
   |_=>cases h
  |_=>cases h
theorem Zuf (ho:o.op= .range t y) (bx: ∀h,W h->D h) (h:VX C E o K t y s=some r):ca C md pr ms o D W E s K r:=by
 unfold VX at h;cases ht:C.P.underlying t with
 |none=>rw[ht]at h;cases h
 |some td=>
  rw[ht]at h;cases td with
  |string=>
   simp only at h;have⟨d,hd,h⟩:=Zw h;cases wK:o.dst with
   |none=>rw[wK]at h;cases d<;>cases h
   |some u=>
    rw[wK]at h;cases d with
    |str l=>
     simp only at h;refine ca.acB (by grind[Spec]) bx u wK _ _ (.inr ⟨l,0,rfl,rfl⟩) h λψ Q a w p=>?_
     have hv:=p.val (x:=y) (by simp[Op.operands,ho]) hd;generalize hy:a.eval y=v at hv;cases hv with
     |str x=>
      refine⟨w.alloc (.stringIter x 0),⟨w.heap.size,0,0⟩,?_,.alloc w _,aO _,by simp,rfl,x,heap_alloc_new w _,rfl⟩;simp[execOp,ho,hy,Instr.range,Zl w ht]
    |_=>cases h
  |_=>cases h
theorem ZyL (s:ByteArray) (i:Nat):s.get! i=s.data.toList.getD i 0:=by
 show s.data[i]! =_;rw[Array.getElem!_eq_getD,dW,rO];simp;rfl
theorem BS (s:ByteArray) (i:Nat):dec s.data.toList i=Utf8.decode s i:=by
 have hl:s.data.toList.length=s.size:=by rw[oE];rfl
 simp[dec,Utf8.decode,ZyL,hl]
theorem ZnG {b:Nat} {x:ByteArray} (h:w.heap[b]? =some (.stringIter x p)):(getObj b).run P w= .ok (.stringIter x p) w:=by
 simp[getObj,Sem.run,h]
theorem Zug {b:Nat} {x y:ByteArray} {q:Nat} (h:w.heap[b]? =some (.stringIter x p)):(setObj b (.stringIter y q)).run P w= .ok () (lU w b (.stringIter y q)):=by
 rw[setObj,Sem.run,h];rfl
theorem Zu6 {t:Nat} (ho:o.op= .next (.tmp t) true) (bx: ∀h,W h->D h) (hW: ∀v,(E.get t).df=some v->W (.inr v)) (h:Wd E o K ms t s=some r):ca C md pr ms o D W E s K r:=by
 unfold Wd at h;cases hl:E.get t with
 |it v l pos=>
  rw[hl]at h;cases wK:o.dst with
  |none=>rw[wK]at h;cases h
  |some d=>
   rw[wK]at h;simp only at h;have⟨hc,h⟩:=H9 h;rw[C6]at hc;have hWv:=hW v (by rw[hl];rfl);have at_: ∀ψ Q a w,aB C o D E s ψ Q a w->∃cb x,ψ (.inr v)=some cb/\a.eval (.tmp t)= .pointer (some ⟨cb.b,0,none⟩)/\Q (.inr v) (.iter l pos)/\w.heap[cb.b]? =some (.stringIter x pos)/\x.data.toList=l:=by
    intro ψ Q a w p;have:=p.args t (by simp[Op.operands,ho]);rw[hl]at this;have⟨cb,e1,e2⟩:=this;have hq:=p.j7 (.inr v) (.iter l pos) cb (bx _ hWv) (.inr ⟨t,l,pos,hl,rfl⟩) e1;have⟨x,h1,h2⟩:=p.eW.holds _ cb _ e1 hq;exact⟨cb,x,e1,e2,hq,h1,h2⟩
   cases hb:Nat.blt pos l.length with
   |false=>
    rw[hb]at h;simp only[af]at h;refine ca.pure bx (.qm [.bool false]) rfl (λ_ _ _ _ e=>nomatch e) (by rw[wK];exact h) λψ Q a w p=>?_
    have⟨cb,x,e1,e2,hq,h1,h2⟩:=at_ ψ Q a w p;have hlen: ¬pos<x.size:=by
     have:x.data.toList.length=x.size:=by rw[oE];rfl
     rw[<-this,h2];intro aw;have:Nat.blt pos l.length=true:=by rw[qz];exact aw
     rw[hb]at this;cases this
    refine⟨.tuple #[.bool false],w,?_,.refl w,_,rfl,.cons _ _ _ _ (.bool _) .nil⟩;simp only[execOp,ho,e2,Instr.next,Sem.run_bind,ZnG h1,Result.andThen_ok,hlen,ng,Sem.run_pure]
   |true=>
    rw[hb]at h;simp only[ae]at h;have aw:pos<l.length:=by rw[qz]at hb;exact hb
    have get: ∀k,((E.put t (.it v l (pos+vL l pos))).put d (.qm [.bool true,.int .i64 pos,.int .i32 (DU l pos)])).get k=
      if d=k then .qm [.bool true,.int .i64 pos,.int .i32 (DU l pos)]else if t=k then .it v l (pos+vL l pos)else E.get k:=λk=>by rw[Env.sG,Env.sG]
    have uniq:jx E->∀q,(E.get q).df=some v->q=t:=λhE q hq=>hE.uniq q t v hq (by rw[hl];rfl)
    refine .inl ⟨_,_,h,⟨aO _,aO _,λhE=>⟨?_,?_,?_,?_⟩,?_,(λk d' _ h'=>by
     rw[get]at h';grind),?_,?_,?_,?_,λ_ _ _=>rfl,.inr (by unfold Spec;rw[ho];trivial),.inl rfl⟩,?_⟩
    .intro k v' h'
     rw[get]at h';split at h'
     .cases h'
     .split at h'
      .cases h';exact hE.lt t v (by rw[hl];rfl)
      .exact hE.lt k v' h'
    .intro k a b c h'
     rw[get]at h';split at h'
     .cases h'
     .split at h'
      .cases h'
      .exact hE.pl k a b c h'
    .intro k a b c h'
     rw[get]at h';split at h'
     .cases h'
     .split at h'
      .cases h'
      .exact hE.len k a b c h'
    .intro k k' v' h' Ao
     rw[get]at h' Ao;split at h'
     .cases h'
     .split at Ao
      .cases Ao
      .split at h'<;>split at Ao
       .omega
       .cases h';grind
       .cases Ao;grind
       .exact hE.uniq k k' v' h' Ao
    .grind
    .intro k hk C' ψ x hr
     rw[get,bj (λe=>hk (by rw[wK,e]))];split
     .rename_i e;subst e;rw[hl]at hr;exact hr
     .exact hr
    .intro h' ab c
     cases h' with
     |inl i=>exact .inr (.inr c)
     |inr k=>
      rcases c with⟨q,n',cs',hq,fV⟩|⟨q,l',p,hq,fV⟩
      .rw[get]at hq
       split at hq
       .cases hq
       .split at hq
        .cases hq
        .exact .inr (.inr (.inl ⟨q,n',cs',hq,fV⟩))
      .rw[get]at hq
       split at hq
       .cases hq
       .split at hq
        .grind
        .exact .inr (.inr (.inr ⟨q,l',p,hq,fV⟩))
    .grind
    .grind
    .intro ψ Q a w next QQ p room hn
     have⟨cb,x,e1,e2,hq,h1,h2⟩:=at_ ψ Q a w p;have hx:x.data.toList.length=x.size:=by rw[oE];rfl
     have ue:pos<x.size:=by rw[<-hx,h2];exact aw
     have dh:=Bn.lU w cb.b (.stringIter x (pos+vL l pos));have hr:(execOp a.eval o).run C.P w= .ok (.value (.tuple #[.bool true,.int .i64 pos,.int .i32 (DU l pos)])) (lU w cb.b (.stringIter x (pos+vL l pos))):=by
      have hd:=BS x pos;rw[h2]at hd;simp only[execOp,ho,e2,Instr.next,Sem.run_bind,ZnG h1,Result.andThen_ok,ue,mJ,<-hd,Zug h1,Sem.run_pure];rfl
     unfold Oper.wp;rw[hr];refine hn ψ (y8 Q (.inr v) (.iter l (pos+vL l pos))) _ _ ⟨ft.set p.eW e1 hq rfl dh.other ⟨x,MM (Iv h1) _,h2⟩,Ext.set e1 hq rfl dh.other dh.size dh.tape dh.os dh.output,
      λ_ _ e=> .inl e,λh' ab c cr hw e'=>?_,λh' ab c e' q nw _=>?_⟩ (λd' kK=>?_)
     .have fF:(h'= .inr v/\ab= .iter l (pos+vL l pos))\/(h'≠ .inr v/\CR E s h' ab):=by
       cases h' with
       |inl i=>exact .inr ⟨by simp,cr⟩
       |inr k=>
        rcases cr with⟨q,n',cs',hq,fV⟩|⟨q,l',p',hq,fV⟩
        .rw[get]at hq
         split at hq
         .cases hq
         .split at hq
          .cases hq
          .rename_i J8
           refine .inr ⟨λe=>?_,.inl ⟨q,n',cs',hq,fV⟩⟩;cases e;exact J8 (uniq p.gR q (by rw[hq];rfl)).symm
        .rw[get]at hq
         split at hq
         .cases hq
         .split at hq
          .grind
          .rename_i J8
           refine .inr ⟨λe=>?_,.inr ⟨q,l',p',hq,fV⟩⟩;cases e;exact J8 (uniq p.gR q (by rw[hq];rfl)).symm
      rcases fF with⟨rfl,rfl⟩|⟨ahL,cr⟩
      .exact .inl ⟨rfl,rfl⟩
      .refine .inr ⟨ahL,?_⟩
       rcases hw with hw|⟨n1,n2⟩
       .exact p.j7 h' ab c (bx h' hw) cr e'
       .exact absurd (cr.qV p.gR) n1
     .exact .inr (by grind)
     .rw[wK]at kK;cases kK
      rw[get,bE rfl];exact⟨_,rfl,.cons _ _ _ _ (.bool _) (.cons _ _ _ _ (.int _ _) (.cons _ _ _ _ (.int _ _) .nil))⟩
 |_=>rw[hl]at h;cases h
theorem Zmi (h1:P.underlying P.rt.typeAssertionError=some (.pointer e)) (_h2:P.underlying e=some d) (i c:Option TypeId) (a:TypeId) (m:String) (w:World):
  ∃t v o,(runtimePanic (.typeAssertion i c a m):Sem Value).run P w= .halt (.panic (.iface t v)) (w.alloc o):=by
 simp only[runtimePanic,Sem.run_bind,run_program,Result.andThen_ok,elemOf,Zl w h1,Sem.run_pure,T9,run_goPanic];grind
theorem xx.more (dV: ∀ψ Q a w,aB C o D E s ψ Q a w->∃t v w',(execOp a.eval o).run C.P w= .halt (.panic (.iface t v)) w'/\gW w w') (hD: ∀i,D (.inl i)):xx C o D E s s:=by
 refine⟨aO _,λψ Q a w next QQ p _ hn=>?_⟩;have⟨t,v,w',hr,hm⟩:=dV ψ Q a w p;unfold Oper.wp;rw[hr];exact hn ψ Q _ w' ⟨t,v,rfl⟩ (p.eW.more p.gE hm) (Ext.more hm) (λ_ _ e=> .inl e) λi ab cb h e=>p.j7 (.inl i) ab cb (hD i) h e
theorem UE (h:KZ md s=some r):md.x=0/\r=(.fp,s):=by
 unfold KZ at h;have⟨h1,h⟩:=Zs h;refine⟨dL h1,?_⟩;grind[Ae,fT]
theorem ZtB (hc:oI C) (ho:o.op= .typeAssert y xt t false) (bx: ∀h,W h->D h) (hD: ∀i,D (.inl i)) (h:Vi C E o K md t y s=some r):ca C md pr ms o D W E s K r:=by
 unfold Vi at h;cases ht:C.P.underlying t with
 |none=>rw[ht]at h;cases h
 |some td=>
  have J4: ∀m,td≠ .interface m:=by rintro m rfl;rw[ht]at h;cases h
  have h':fA C E y (λd=>Go.Gv.uY (KZ md) d (C.ty t) λd=>Ak (nb C.P t) d (cD E o K)) s=some r:=by rw[ht]at h;cases td<;>first|exact h|grind
  have⟨d,hd,h'⟩:=Zw h';have abe: ∀(a:Act) (w:World),(a.eval y= .nilIface\/∃t' v,a.eval y= .iface t' v/\t'≠t)->∃t v w',(execOp a.eval o).run C.P w= .halt (.panic (.iface t v)) w'/\gW w w':=by
   intro a w hy;have⟨e,ed,e1,e2⟩:=hc.tae;rcases hy with hy|⟨t',v,hy,dM⟩
   .have⟨tv,v,ob,hv⟩:=Zmi e1 e2 (some xt) none t "" w
    refine⟨tv,v,_,?_,.alloc w ob⟩;simp only[execOp,ho,hy,Instr.typeAssert,Sem.run_bind,Zl w ht,Result.andThen_ok];cases td<;>first|(simp only[uu,ng,hv,Result.andThen_halt];done)|exact absurd rfl (J4 _)
   .have⟨tv,v,ob,hv⟩:=Zmi e1 e2 (some xt) (some t') t "" w
    refine⟨tv,v,_,?_,.alloc w ob⟩;simp only[execOp,ho,hy,Instr.typeAssert,Sem.run_bind,Zl w ht,Result.andThen_ok];cases td<;>first|(simp only[bj dM,uu,ng,hv,Result.andThen_halt];done)|exact absurd rfl (J4 _)
  cases d with
  |iface t' d=>
   simp only[Go.Gv.uY]at h';cases hb:Nat.beq t' (C.ty t)with
   |true=>
    rw[hb]at h';simp only[ae]at h';have⟨d',h',hr,_⟩:=M2 h';refine ca.val bx _ h' λψ Q a w p=>?_
    have hv:=p.val (x:=y) (by simp[Op.operands,ho]) hd;generalize hy:a.eval y=v at hv;cases hv with
    |iface t0 _ v hv=>
     have:=hc.ty _ _ (dL hb);subst this;refine⟨v,w,?_,.refl w,hr C ψ v hv⟩;simp only[execOp,ho,hy,Instr.typeAssert,Sem.run_bind,Zl w ht,Result.andThen_ok];cases td<;>first|(simp;done)|exact absurd rfl (J4 _)
   |false=>
    rw[hb]at h';obtain⟨hx,rfl⟩:=UE h';refine .inr ⟨hx,s,rfl,xx.more (λψ Q a w p=>abe a w (.inr ?_)) hD⟩;have hv:=p.val (x:=y) (by simp[Op.operands,ho]) hd;generalize hy:a.eval y=v at hv;cases hv with
    |iface t0 _ v hv=>exact⟨t0,v,rfl,λe=>by subst e;rw[Fe]at hb;cases hb⟩
  |nilIface=>
   obtain⟨hx,rfl⟩:=UE h';refine .inr ⟨hx,s,rfl,xx.more (λψ Q a w p=>abe a w (.inl ?_)) hD⟩;have hv:=p.val (x:=y) (by simp[Op.operands,ho]) hd;generalize hy:a.eval y=v at hv;cases hv;rfl
  |_=>cases h'
theorem Zt9 (ho:o.op= .panic y) (hD: ∀i,D (.inl i)) (h:VZ C E md y s=some r):ca C md pr ms o D W E s K r:=by
 unfold VZ at h;have⟨d,hd,h⟩:=Zw h;cases d with
 |iface t d=>
  obtain⟨hx,rfl⟩:=UE h;refine .inr ⟨hx,s,rfl,xx.more (λψ Q a w p=>?_) hD⟩;have hv:=p.val (x:=y) (by simp[Op.operands,ho]) hd;generalize hy:a.eval y=v at hv;cases hv with
  |iface t0 _ v hv=>exact⟨t0,v,w,by simp only[execOp,ho,hy,Instr.panic,Sem.run_bind,run_goPanic,Result.andThen_halt],.refl w⟩
 |_=>cases h
end
section
variable {C:bC} {o:Oper} {D W:dH->Prop} {E:Env} {s:St} {md:Md} {pr ms:al}
theorem ZuS: ∀(l:List Value) (k off:Nat) (c:Array Value),(l.zipIdx k).foldl (λcs (x:Value×Nat)=>cs.setIfInBounds (off+x.2) x.1) c=qh c (off+k) l
 |[],_,_,_=>rfl
 |v::l,k,off,c=>by
  rw[List.zipIdx_cons,Bf,qh];rw[ZuS l (k+1) off];rfl
theorem Zws (place:Nat->ai) (cells:Array Value) (i:Nat) (v:Value) (rest:List (Nat×Value)) {size:Nat} (hp:place i=some (off,size)) (h1:v.cells.size=size) (h2:off+size<=cells.size):
  Instr.fill place cells ((i,v)::rest)=Instr.fill place (qh cells off v.cells.toList) rest:=by
 subst h1;have e:v.cells.zipIdx.foldl (λcs (x:Value×Nat)=>cs.setIfInBounds (off+x.2) x.1) cells=qh cells off v.cells.toList:=by
  rw[<-Array.foldl_toList,Array.toList_zipIdx];exact ZuS v.cells.toList 0 off cells
 have hn: ¬(off+v.cells.size>cells.size):=by omega
 simp only[Instr.fill,hp,ne_eq,not_true_eq_false,decide_false,vR,hn,uu,ng];grind
theorem bG.yM (h:bG C ψ ds vs.toList):ds.length=vs.size:=by have:=h.len;simpa using this
theorem ZzI {us:List Value} (h:bG C ψ cs vs.toList) (h':bG C ψ ds us) (hl:off+ds.length<=cs.length):bG C ψ (cE cs off ds) (qh vs off us).toList:=by
 have e1:=h.yM;have e2:=h'.len;refine bG.of _ _ (by simp[H8,e1]) λj d v hd hv=>?_
 rw[IP cs off ds j hl]at hd;rw[kV,Nc _ _ _ _ (by omega)]at hv;split at hd
 .rw[bE (by omega)]at hv
  have⟨v',eU,hr⟩:=h'.get hd;rw[hv]at eU;cases eU;exact hr
 .rw[bj (by omega)]at hv
  have⟨v',eU,hr⟩:=h.get hd;rw[kV,hv]at eU;cases eU;exact hr
theorem Uz {N:Nat} {place:Nat->ai} {r:Out β×St} : ∀ {l:List (Nat×Operand)} {cs:ah} {K:ah->M β},CH E C N place l cs K s=some r->cs.length=N->
  ∃cs',K cs' s=some r/\cs'.length=N/\∀ψ Q a w,aB C o D E s ψ Q a w->(∀x∈l,x.2∈o.op.operands)->∀vs:Array Value,bG C ψ cs vs.toList->cs.all one=true->
   ∃je,Instr.fill place vs (l.map λx=>(x.1,a.eval x.2))=some je/\bG C ψ cs' je.toList/\cs'.all one=true
 |[],cs,K,h,hl=>⟨cs,h,hl,λψ Q a w _ _ vs hr h1=>⟨vs,rfl,hr,h1⟩⟩
 |(i,x)::l,cs,K,h,hl=>by
  simp only[CH]at h;cases hp:place i with
  |none=>rw[hp]at h;cases h
  |some on=>
   have⟨off,n⟩:=on;rw[hp]at h;simp only at h;have⟨hb,h⟩:=Zs h;have hb:=qA hb;have⟨d,hd,h⟩:=Zw h;have go: ∀ds,CH E C N place l (cE cs off ds) K s=some r->ds.length=n->(∀(ψ:Ps) v,VR C ψ d v->bG C ψ ds v.cells.toList/\ds.all one=true)->
     ∃cs',K cs' s=some r/\cs'.length=N/\∀ψ Q a w,aB C o D E s ψ Q a w->(∀y∈(i,x)::l,y.2∈o.op.operands)->∀vs:Array Value,bG C ψ cs vs.toList->cs.all one=true->
      ∃je,Instr.fill place vs (((i,x)::l).map λx=>(x.1,a.eval x.2))=some je/\bG C ψ cs' je.toList/\cs'.all one=true:=by
    intro ds h jz hr;have⟨cs',h,JT,vA⟩:=Uz h (by rw[H8];exact hl);refine⟨cs',h,JT,λψ Q a w p hm vs hv h1=>?_⟩;have⟨h3,h4⟩:=hr ψ _ (p.val (hm (i,x) (by simp)) hd);have cF:(a.eval x).cells.size=n:=by rw[<-jz,h3.yM]
    have CE:=hv.yM;have⟨je,e1,e2,e3⟩:=vA ψ Q a w p (by grind) _ (ZzI (off:=off) hv h3 (by omega)) (ZuB h1 h4 (by omega));refine⟨je,?_,e2,e3⟩;rw[oG,Zws place vs i _ _ hp cF (by omega)];exact e1
   have plain:(∀cs,d≠ .agg cs)->(bif Nat.beq n 1 then aC (one d) (CH E C N place l (cE cs off [d]) K)else fail) s=some r->_:=λhna h=>by
    have⟨h1,h⟩:=Zs h;have⟨h2,h⟩:=me h;exact go [d] h (by simpa using (dL h1).symm) (λψ v hv=>by rw[hv.aa5 h2];exact⟨.cons _ _ _ _ hv .nil,by simp[h2]⟩)
   cases d with
   |agg ds=>
    simp only at h;have⟨h1,h⟩:=U2 h;rw[Vs hl h1 hb]at h;exact go ds h h1 (λψ v hv=>by cases hv with|agg _ vs a b=>exact⟨a,b⟩)
   |_=>exact plain (by simp) h
theorem ZlM {P:Program} : ∀(fs:List Field),(fs.all λf=>(P.info? f.type).isSome)=true->fs.mapM (λf=>(P.info? f.type).map λi=>(f.offset,i.size))=some (fs.map λf=>(f.offset,P.cellsOf f.type))
 |[],_=>rfl
 |f::fs,h=>by
  simp only[vS,aY]at h;have⟨i,hi⟩:=Option.isSome_iff_exists.1 h.1;simp[List.mapM_cons,hi,ZlM fs h.2,Program.cellsOf]
theorem Zub (ho:o.op= .build t ps) (bx: ∀h,W h->D h) (h:V1 C E o K t ps s=some r):ca C md pr ms o D W E s K r:=by
 unfold V1 at h;cases hz:np C.P t with
 |none=>rw[hz]at h;cases h
 |some z=>
  rw[hz]at h;simp only at h;have⟨lP,h⟩:=Zs h;have⟨cs',h,hl,hr⟩:=Uz (o:=o) (D:=D) h rfl;refine ca.val bx _ h λψ Q a w p=>?_
  unfold np at hz;cases hi:C.P.info? t with
  |none=>rw[hi]at hz;cases hz
  |some it=>
   rw[hi]at hz;simp only at hz;cases vE:it.zero with
   |none=>rw[vE]at hz;cases hz
   |some zv=>
    rw[vE]at hz;have⟨kQ,gS⟩:=FE (C:=C) (ψ:=ψ) hz;have⟨je,e1,e2,e3⟩:=hr ψ Q a w p (λx hx=>by simp only[Op.operands,ho,List.mem_toArray,pK];exact⟨x,hx,rfl⟩) _ kQ gS;refine⟨.agg je,w,?_,.refl w,.agg _ _ e2 e3⟩;have hb:C.P.built t (ps.map λ(i,x)=>(i,a.eval x)).toList=some je:=by
     have yb:Instr.fill (Vv C.P t) zv.cells (ps.map λ(i,x)=>(i,a.eval x)).toList=some je:=by rw[Array.toList_map];exact e1
     unfold Program.built ZtN at*
     unfold Vv at yb;cases hu:C.P.underlying t with
     |none=>rw[hu]at lP;cases lP
     |some td=>
      rw[hu]at lP yb;rw[hi];cases td with
      |struct fs=>
       simp only at lP⊢;rw[vE,ZlM _ lP];grind
      |array m e=>
       simp only at lP⊢;have⟨ie,vt⟩:=Option.isSome_iff_exists.1 lP;rw[vE,vt];simp only at yb⊢;rw[<-yb];simp[Program.cellsOf,vt]
      |_=>cases lP
    rw[execOp,ho,Sem.run_bind,run_build w t _ _ hb,Result.andThen_ok,Sem.run_pure]
theorem FG (n:Nat) (z:ah):(il n z).length=n*z.length:=by
 induction n with
 |zero=>simp[il]
 |succ n ih=>
  have:il (n+1) z=z++il n z:=by rfl
  rw[this,bB,ih,Fj,tm]
theorem DK (h:z.all one=true):(il n z).all one=true:=by
 induction n with
 |zero=>rfl
 |succ n ih=>
  have:il (n+1) z=z++il n z:=by rfl
  rw[this,tj,h,ih];rfl
theorem ZyS (n:Nat) (z:ah) (j:Nat) (h:j<n*z.length):(il n z)[j]? =z[j%z.length]? :=by
 induction n generalizing j with
 |zero=>simp at h
 |succ n ih=>
  have e:il (n+1) z=z++il n z:=by rfl
  rw[e];by_cases hj:j<z.length
  .rw[mH hj,Nat.mod_eq_of_lt hj]
  .rw[kX (by omega),ih (j-z.length) (by rw[Fj]at h;omega)]
   rw[show j%z.length=(j-z.length)%z.length from by rw[Nat.mod_eq_sub_mod (by omega)]]
theorem Vc (h:bG C ψ z zv.toList) (n m:Nat) (hm:n*z.length<=m):bG C ψ (il n z) ((madeCells zv m).toList.take (il n z).length):=by
 have hl:=h.yM;refine bG.of _ _ (by grind[size_madeCells,FG]) λj d v hd hv=>?_
 rw[FG]at hv;rw[xo]at hv;split at hv
 .rename_i hj
  rw[ZyS n z j hj]at hd;have⟨v',eU,hr⟩:=h.get hd;rw[kV]at hv eU;grind[madeCells]
 .cases hv
theorem Zn2 {len:Nat} (ho:o.op= .buildSlice t len ps) (bx: ∀h,W h->D h) (h:SA C E o K t len ps s=some r):ca C md pr ms o D W E s K r:=by
 unfold SA at h;unfold xT at h;cases ht:C.P.underlying t with
 |none=>rw[ht]at h;cases h
 |some td=>
  rw[ht]at h;cases td with
  |slice e=>
   simp only at h;cases hz:np C.P e with
   |none=>rw[hz]at h;cases h
   |some z=>
    rw[hz]at h;simp only at h;have⟨hb,h⟩:=Zs h;rw[aY]at hb;have kI:=qA hb.1;have c9:=dL hb.2;have⟨cs',h,hl,hr⟩:=Uz (o:=o) (D:=D) h (by rw[FG,c9]);refine ca.KT (by unfold tr;rw[ho];trivial) bx (.slice (C.P.cellsOf e) (some (s.length,0)) len) cs' h λψ Q a w p=>?_
    have⟨zv,KF,Hh,kQ⟩:=Uk (P:=C.P) w hz;have Hh:=Hh C ψ;have vt: ∃ie,C.P.info? e=some ie/\ie.size=C.P.cellsOf e:=by
     unfold np at hz;cases hi:C.P.info? e with
     |none=>rw[hi]at hz;cases hz
     |some ie=>exact⟨ie,rfl,by simp[Program.cellsOf,hi]⟩
    have⟨ie,vt,abM⟩:=vt;have J0:=Vc Hh len (len*C.P.cellsOf e) (by rw[c9];exact aO _);rw[FG,c9,IF (by simp[size_madeCells])]at J0;have⟨je,e1,e2,e3⟩:=hr ψ Q a w p (λx hx=>by simp only[Op.operands,ho,List.mem_toArray,pK];exact⟨x,hx,rfl⟩) _ J0 (DK kQ);have CE:=e2.yM;rw[hl]at CE;refine⟨.slice (some ⟨w.heap.size,0,none⟩) len len,w.alloc (.cells je e),⟨w.heap.size,0,je.size⟩,?_,.alloc w _,aO _,by simp,Fw (by rw[IF (by simp[hl,CE])];exact e2) e3,λψ' _ wY=>?_⟩
    .have hn: ¬(len*C.P.cellsOf e>2^24):=by omega
     by_cases h0:len*C.P.cellsOf e=0
     .have e0:madeCells zv.cells (len*C.P.cellsOf e)= #[]:=by rw[h0];simp[madeCells,Array.range_zero']
      rw[e0]at e1;simp only[execOp,ho,Instr.buildSlice,Sem.run_bind,Zl w ht,Result.andThen_ok,sizeOf,typeInfo,run_program,vt,Sem.run_pure,abM,h0,mJ,Array.range_zero',Array.map_empty];simp[e1,newRow]
     .simp only[execOp,ho,Instr.buildSlice,Sem.run_bind,Zl w ht,Result.andThen_ok,sizeOf,typeInfo,run_program,vt,Sem.run_pure,abM,hn,ng,h0,KF]
      unfold madeCells at e1;simp[e1,newRow]
    .have:=VR.slice (C:=C) (ψ:=ψ') (C.P.cellsOf e) s.length 0 len ⟨w.heap.size,0,je.size⟩ ⟨w.heap.size,0,none⟩ len wY (aO _) (by grind)
     exact this
  |_=>cases h
theorem Zps {l c:Operand} (ho:o.op= .makeSlice t l c) (bx: ∀h,W h->D h) (h:Tb C E o K t l c s=some r):ca C md pr ms o D W E s K r:=by
 unfold Tb xT at h;cases ht:C.P.underlying t with
 |none=>rw[ht]at h;cases h
 |some td=>
  rw[ht]at h;cases td with
  |slice e=>
   simp only at h;cases hz:np C.P e with
   |none=>rw[hz]at h;cases h
   |some z=>
    rw[hz]at h;simp only at h;have⟨c9,h⟩:=Zs h;have c9:=dL c9;have⟨k1,n,hn,h⟩:=FT h;have⟨k2,m,hm,h⟩:=FT h;have⟨hb,h⟩:=me h;simp only[aY,zC]at hb;have⟨⟨h0,h1⟩,h2⟩:=hb;refine ca.KT (by unfold tr;rw[ho];trivial) bx (.slice (C.P.cellsOf e) (some (s.length,0)) n.toNat) (il n.toNat z) h λψ Q a w p=>?_
    unfold np at hz;cases hi:C.P.info? e with
    |none=>rw[hi]at hz;cases hz
    |some ie=>
     rw[hi]at hz;simp only at hz;cases vE:ie.zero with
     |none=>rw[vE]at hz;cases hz
     |some zv=>
      rw[vE]at hz;have⟨kQ,gS⟩:=FE (C:=C) (ψ:=ψ) hz;have cF:ie.size=C.P.cellsOf e:=by simp[Program.cellsOf,hi]
      have ag7:(ie.bytes:Int)*m<=281474976710656:=by
       unfold CI MY at h2;rw[hi]at h2;simp only at h2;have h3:m.toNat<=70368744177664/ie.bytes:=by omega
       rcases Bi ie.bytes with hz|hp
       .rw[hz];simp
       .have:=(Nat.le_div_iff_mul_le hp).1 h3
        have e:m=(m.toNat:Int):=by omega
        rw[e,<-Int.natCast_mul,De];omega
      have N4:m<=9223372036854775807:=by
       unfold CI at h2;have:=Fg 70368744177664 (MY C.P e);omega
      have hr:=run_make (P:=C.P) w t e ie zv ht hi vE k1 k2 n m h0 h1 ag7 N4;have hle:n.toNat*C.P.cellsOf e<=m.toNat*ie.size:=by rw[cF];exact Fh _ (by omega)
      refine⟨.slice (some ⟨w.heap.size,0,none⟩) n.toNat m.toNat,w.alloc (.cells (madeCells zv.cells (m.toNat*ie.size)) e),⟨w.heap.size,0,(madeCells zv.cells (m.toNat*ie.size)).size⟩,?_,.alloc w _,aO _,by simp,Fw (Vc kQ n.toNat (m.toNat*ie.size) (by rw[c9];exact hle)) (DK gS),λψ' _ wY=>?_⟩
      .have e1:=p.int (x:=l) (by simp[Op.operands,ho]) hn
       have e2:=p.int (x:=c) (by simp[Op.operands,ho]) hm;simp only[execOp,ho,e1,e2,Sem.run_bind,hr,Result.andThen_ok,Sem.run_pure]
      .exact VR.slice _ _ 0 _ _ _ _ wY (by omega) (λ_=>⟨rfl,by simp only[size_madeCells,cF];omega⟩)
  |_=>cases h
theorem Zw9 {b:Builtin} (hq:q.callee= .builtin b) (hb:b= .len) (ho:o.op= .call q) (bx: ∀h,W h->D h) (h:YV C E o K q.argTypes q.args s=some r):ca C md pr ms o D W E s K r:=by
 subst hb;unfold YV at h;cases ha:q.args.toList with
 |nil=>rw[ha]at h;cases h
 |cons y rest=>
  cases rest with
  |cons _ _=>rw[ha]at h;cases h
  |nil=>
   cases ht:q.argTypes[0]? with
   |none=>rw[ha,ht]at h;cases h
   |some t=>
    rw[ha,ht]at h;simp only at h;have kH:q.args= #[y]:=by rw[<-Array.toArray_toList (xs:=q.args),ha]
    have mem:y∈o.op.operands:=by rw[ho];simp[Op.operands,Call.operands,hq,kH]
    have run: ∀(a:Act) (w:World) v,(Builtin.len_ q.argTypes o.type #[a.eval y]).run C.P w= .ok v w->(execOp a.eval o).run C.P w= .ok (.value v) w:=by
     intro a w v hv;simp[execOp,ho,resolve,hq,invoke,builtin,kH,hv]
    cases hu:C.P.underlying t with
    |none=>rw[hu]at h;cases h
    |some td=>
     rw[hu]at h;cases td with
     |array m e=>
      refine ca.val bx _ h λψ Q a w p=>⟨.int .i64 m,w,run a w _ ?_,.refl w,.int _ _⟩
      simp[Builtin.len_,ht,Zl w hu,goInt]
     |string=>
      simp only at h;have⟨d,hd,h⟩:=Zw h;cases d with
      |str l=>
       refine ca.val bx _ h λψ Q a w p=>?_
       have hv:=p.val mem hd;generalize hy:a.eval y=v at hv;cases hv with
       |str x=>
        refine⟨.int .i64 x.size,w,run a w _ ?_,.refl w,?_⟩
        .simp[Builtin.len_,ht,Zl w hu,goInt,hy]
        .have:x.data.toList.length=x.size:=by rw[oE];rfl
         rw[this];exact .int _ _
      |_=>cases h
     |slice e=>
      simp only at h;have⟨d,hd,h⟩:=Zw h;cases d with
      |slice z a' n=>
       refine ca.val bx _ h λψ Q a w p=>?_
       have hv:=p.val mem hd;generalize hy:a.eval y=v at hv;cases hv with
       |tc=>exact⟨.int .i64 (0:Nat),w,run a w _ (by simp[Builtin.len_,ht,Zl w hu,goInt,hy]),.refl w,.int _ _⟩
       |slice _ i off _ cb base cap=>exact⟨.int .i64 n,w,run a w _ (by simp[Builtin.len_,ht,Zl w hu,goInt,hy]),.refl w,.int _ _⟩
      |_=>cases h
     |_=>cases h
theorem Zq3 {b:Builtin} (hq:q.callee= .builtin b) (hb:b=if mx then .max else .min) (ho:o.op= .call q) (bx: ∀h,W h->D h) (h:Pq C E o K mx q.args s=some r):ca C md pr ms o D W E s K r:=by
 unfold Pq at h;cases ha:q.args.toList with
 |nil=>rw[ha]at h;cases h
 |cons y rest=>
  cases rest with
  |nil=>rw[ha]at h;cases h
  |cons z rest=>
   cases rest with
   |cons _ _=>rw[ha]at h;cases h
   |nil=>
    rw[ha]at h;simp only at h;have kH:q.args= #[y,z]:=by rw[<-Array.toArray_toList (xs:=q.args),ha]
    have my:y∈o.op.operands:=by rw[ho];simp[Op.operands,Call.operands,hq,kH]
    have mz:z∈o.op.operands:=by rw[ho];simp[Op.operands,Call.operands,hq,kH]
    have⟨d,hd,h⟩:=Zw h;have⟨e,he,h⟩:=Zw h;cases d with
    |int k n=>
     cases e with
     |int k' m=>
      simp only at h;have⟨hk,h⟩:=Zs h;refine ca.val bx _ h λψ Q a w p=>?_
      have e1:=p.int my hd;have e2:=p.int mz he;cases mx with
      |true=>
       simp only[mJ]at hb;subst hb;exact⟨.int k (if n<m then m else n),w,by simp[execOp,ho,resolve,hq,invoke,builtin,kH,e1,e2,Builtin.max_,Builtin.max2],.refl w,.int _ _⟩
      |false=>
       simp only[uu,ng]at hb;subst hb;exact⟨.int k (if m<n then m else n),w,by simp[execOp,ho,resolve,hq,invoke,builtin,kH,e1,e2,Builtin.min_,Builtin.min2],.refl w,.int _ _⟩
     |_=>cases h
    |_=>cases h
end
section
variable {C:bC} {o:Oper} {D W:dH->Prop} {E:Env} {s:St} {md:Md} {pr ms:al}
theorem Vr {a:ai} {K:ah->M β} (h:dy a n K s=some r):
  ∃ds,K ds s=some r/\ds.length=n/\((a=none/\n=0/\ds=[])\/∃i q f cs,a=some (i,q)/\dx s i=some (.cells f cs)/\q+n<=cs.length/\ds=(cs.drop q).take n):=by
 cases a with
 |none=>
  simp only[dy]at h;have⟨h1,h⟩:=Zs h;have:=dL h1;grind
 |some iq=>
  have⟨i,q⟩:=iq;simp only[dy]at h;have⟨f,cs,h1,h2,h⟩:=IA h;grind
theorem Nr {A:Act} (p:aB C o D E s ψ Q A w) (hD: ∀i,D (.inl i)) {z k:Nat} {a:ai} (hv:VR C ψ (.slice z a m) v)
  (hz:z=sz\/a=none) (hn:n=k*sz) (hk:k<=m)
  (oZ:(a=none/\n=0/\ds=[])\/∃i q f cs,a=some (i,q)/\dx s i=some (.cells f cs)/\q+n<=cs.length/\ds=(cs.drop q).take n):
  ∃base cap vs,v= .slice base m cap/\(∀w',w'.heap=w.heap->(Builtin.firstCells sz k v).run C.P w'= .ok vs w')/\bG C ψ ds vs.toList/\ds.all one=true:=by
 subst hn;cases hv with
 |tc=>
  rcases oZ with⟨_,_,rfl⟩|⟨i,q,f,cs,h,_⟩
  .exact⟨none,0, #[],rfl,λw' _=>by rfl,.nil,rfl⟩
  .cases h
 |slice _ i q _ cb ad cap ja qZ hb=>
  rcases oZ with⟨h,_⟩|⟨i',q',f,cs,h,h1,h2,rfl⟩
  .cases h
  .cases h
   have hz:z=sz:=by grind
   subst hz;have hh:=p.at (hD i) h1 ja;by_cases h0:k*z=0
   .refine⟨some ad,cap, #[],rfl,λw' _=>?_,?_,?_⟩
    .simp[Builtin.firstCells,h0,loadCells,loadCellsFrom]
    .rw[h0];rw[List.take_zero];exact .nil
    .rw[h0];simp
   .have hc:0<cap:=by
     grind
    have⟨e1,e2⟩:=hb hc;have⟨vs,e3,e4,e5,e6⟩:=ZmS (P:=C.P) hh h2;exact⟨some ad,cap,vs,rfl,λw' hw=>by rw[Builtin.firstCells,e1,e3 w' hw],e5,e6⟩
theorem Zpv {ψ:Ps} : ∀ {ds:ah} {l:aj} {vs:List Value},tE ds=some l->bG C ψ ds vs->∃ns:ak,vs=ns.map (Value.int .u8)/\ns.map (λn=>UInt8.ofNat n.toNat)=l
 |[],l,vs,h,hv=>by
  simp only[tE,fT]at h;cases hv;exact⟨[],rfl,h⟩
 |d::ds,l,vs,h,hv=>by
  cases hv with
  |cons _ v _ vs h1 h2=>
   cases h1 with
   |int k n=>
    cases k with
    |u8=>
     simp only[tE,Option.map_eq_some_iff]at h;have⟨l',h3,h4⟩:=h;have⟨ns,e1,e2⟩:=Zpv h3 h2;exact⟨n::ns,by simp[e1],by simp[e2,h4]⟩
    |_=>simp[tE]at h
   |_=>simp[tE]at h
theorem Zyc {K:aj->M β} (h:Go.Gv.ke cs K s=some r): ∃l,tE cs=some l/\K l s=some r:=by
 unfold Go.Gv.ke at h;cases he:tE cs with
 |none=>rw[he]at h;cases h
 |some l=>rw[he]at h;exact⟨l,rfl,h⟩
end
section
variable {C:bC} {o:Oper} {D W:dH->Prop} {E:Env} {s:St} {md:Md} {pr ms:al}
theorem ZlL (l:aj):bG C ψ (ZQ l) (l.map λb=>Value.int .u8 b.toNat):=by
 induction l with
 |nil=>exact .nil
 |cons b l ih=>exact .cons _ _ _ _ (.int _ _) ih
theorem RT (l:aj):(ZQ l).all one=true:=by simp[ZQ,one]
@[simp] theorem ad1 (l : aj) : (ZQ l).length = l.length := by simp [ZQ]
def MT (w:World) (c:Array Value) (e:TypeId):World:= { w with heap:=w.heap.push (.cells c e (c.size,c.size+1)) }
theorem ZrR (w:World) (c:Array Value) (e:TypeId):gW w (MT w c e):=gW.alloc w (.cells c e (c.size,c.size+1))
theorem Zuk (w:World) (c:Array Value) (e:TypeId):(markStringish ⟨w.heap.size,0,none⟩).run P (w.alloc (.cells c e))= .ok () (MT w c e):=by
 have h1:(w.alloc (.cells c e)).shape? w.heap.size=some (e,c.size):=by rw[World.shape?,heap_alloc_new]
 unfold markStringish;rw[Sem.run_bind,run_shape,h1,Result.andThen_ok,run_freeze];congr 1;unfold World.freeze MT World.alloc;simp only[Nat.one_ne_zero,ng];congr 1;grind
theorem ZuP (h:Pe P e=true):P.underlying e=some (.int .u8):=by
 grind[Pe]
theorem ZrQ (ho:o.op= .convert t u y) (bx: ∀h,W h->D h) (hD: ∀i,D (.inl i)) (h:Uw C E o K t u y s=some r):ca C md pr ms o D W E s K r:=by
 have my:y∈o.op.operands:=by rw[ho];simp[Op.operands]
 unfold Uw at h;have⟨td,ht,h⟩:=pU h;have run: ∀(a:Act) (w w':World) v,(convert t u (a.eval y)).run C.P w= .ok v w'->(execOp a.eval o).run C.P w= .ok (.value v) w':=by
  intro a w w' v hv;simp[execOp,ho,hv]
 cases hu:C.P.underlying u with
 |none=>rw[hu]at h;cases h
 |some ud=>
  rw[hu]at h;cases ud with
  |int k=>
   simp only at h;have⟨d,hd,h⟩:=Zw h;cases d with
   |int k' n=>
    refine ca.val bx _ h λψ Q a w p=>⟨.int k (k.wrap n),w,run a w w _ ?_,.refl w,.int _ _⟩
    rw[p.int my hd];simp[convert,Zl w ht,Zl w hu,Conv.intToInt]
   |_=>cases h
  |string=>
   simp only at h;rw[ht]at h;cases td with
   |int k0=>
    simp only at h;have⟨d,hd,h⟩:=Zw h;cases d with
    |int k' n=>
     refine ca.val bx _ h λψ Q a w p=>⟨.string (Utf8.encode n),w,run a w w _ ?_,.refl w,.str _⟩
     rw[p.int my hd];simp[convert,Zl w ht,Zl w hu,Conv.intToString]
    |_=>cases h
   |string=>
    simp only at h;have⟨d,hd,h⟩:=Zw h;cases d with
    |str l=>
     refine ca.val bx _ h λψ Q a w p=>?_
     have hv:=p.val my hd;generalize hy:a.eval y=v at hv;cases hv with
     |str x=>exact⟨.string x,w,run a w w _ (by rw[hy];simp[convert,Zl w ht,Zl w hu]),.refl w,.str _⟩
    |_=>cases h
   |slice e=>
    simp only at h;have⟨h8,h⟩:=Zs h;have he:=ZuP h8;have⟨d,hd,h⟩:=Zw h;cases d with
    |slice z a' n=>
     simp only at h;have⟨hz,h⟩:=Zs h;have⟨ds,h,_,oZ⟩:=Vr h;have⟨l,hl,h⟩:=Zyc h;refine ca.val bx _ h λψ Q A w p=>?_
     have CF:z=1\/a'=none:=by
      rw[lV]at hz;rcases hz with h|h
      .exact .inl (dL h)
      grind
     have⟨base,cap,vs,hv,dV,hr,_⟩:=Nr p hD (p.val my hd) CF (k:=n) (by simp) (aO _) oZ;have⟨ns,e1,e2⟩:=Zpv hl hr;cases base with
     |none=>
      have:ds=[]:=by
       have eU:=p.val my hd;rw[hv]at eU;cases eU;grind
      subst this;simp only[tE,fT]at hl;subst hl;refine⟨.string .empty,w,run A w w _ ?_,.refl w,.str .empty⟩;rw[hv];simp[convert,Zl w ht,Zl w hu,Zl w he,Conv.bytesToString]
     |some b=>
      have aiy:(loadCells b n).run C.P w= .ok (ns.map (Value.int .u8)).toArray w:=by
       have dV:=dV w rfl;rw[hv]at dV;simp only[Builtin.firstCells,cR]at dV;rw[dV,<-e1]
      refine⟨.string (ns.foldl (λr n=>r.push (UInt8.ofNat n.toNat)) ByteArray.empty),w,run A w w _ ?_,.refl w,?_⟩
      .rw[hv,run_convert_bytes_string w t u e (some b) n cap ht he hu]
       exact run_bytesToString w b n cap ns aiy
      .have:(ns.foldl (λr n=>r.push (UInt8.ofNat n.toNat)) ByteArray.empty).data.toList=l:=by
        rw[foldl_push_bytes,<-e2];simp
       rw[<-this];exact .str _
    |_=>cases h
   |_=>cases h
  |slice e=>
   simp only at h;have⟨h8,h⟩:=Zs h;have he:=ZuP h8;have⟨d,hd,h⟩:=Zw h;cases d with
   |str l=>
    simp only at h;refine ca.KT (by unfold tr;rw[ho];trivial) bx _ _ h λψ Q a w p=>?_
    have hv:=p.val my hd;generalize hy:a.eval y=v at hv;cases hv with
    |str x=>
     have hx:x.data.toList.length=x.size:=by rw[oE];rfl
     let cap:=(Question.appendCap x.size 0 e).cut (w.tape w.drawn (.appendCap x.size 0 e))
     have qZ:x.size<=cap:=by simp only[cap,Question.cut];omega
     let c:Array Value:=(x.data.map λb=>Value.int .u8 b.toNat)++Array.replicate (cap-x.size) (.int .u8 0)
     refine⟨.slice (some ⟨w.heap.size,0,none⟩) x.size cap,MT w.drew c e,⟨w.heap.size,0,c.size⟩,run a w _ _ ?_,(gW.drew w).trans (ZrR w.drew c e),aO _,(by show w.heap.size<(w.heap.push _).size;simp),?_,λψ' _ wY=>?_⟩
     .rw[hy]
      have hm:=Zuk (P:=C.P) w.drew c e;simp only[convert,Sem.run_bind,Zl w ht,Zl w hu,Result.andThen_ok,Zl w he];have hq:(Question.appendCap x.size 0 e).forced=false:=rfl;simp only[Conv.stringToBytes,Sem.run_bind,run_choose,hq,uu,ng,Result.andThen_ok,newRow,run_newObj,Sem.run_pure];exact(congrArg (λr=>Result.andThen r λ_ w'=>Result.ok (Value.slice (some ⟨w.heap.size,0,none⟩) x.size cap) w') hm)
     .refine Zrz (ty:=e) (fr:=(c.size,c.size+1)) (by show(w.heap.push _)[w.heap.size]? =_;simp) (.inr (aO _)) ?_ (RT _)
      have:c.toList.take (ZQ x.data.toList).length=x.data.toList.map λb=>Value.int .u8 b.toNat:=by
       rw[ad1];simp only[c,Array.toList_append,Array.toList_map];rw[List.take_append_of_le_length (by simp),dG (by simp)]
      rw[this];exact ZlL _
     .rw[hx]
      have:=VR.slice (C:=C) (ψ:=ψ') 1 s.length 0 x.size ⟨w.heap.size,0,c.size⟩ ⟨w.heap.size,0,none⟩ cap wY qZ (by grind);exact this
   |_=>cases h
  |_=>cases h
end
section
variable {C:bC} {o:Oper} {D W:dH->Prop} {E:Env} {s:St} {md:Md} {pr ms:al}
theorem Zyn {a:ai} {len:Nat} {K:ai->M β} (h:cm sz a len ds m lim K s=some r):
  (m=0/\K a s=some r)\/(0<m/\len+m<=lim/\((a=none/\len=0/\K (some (s.length,0)) (s++[some ⟨false,ds⟩])=some r)\/
   ∃i q cs,a=some (i,q)/\s.ik i=some cs/\q+len*sz<=cs.length/\K (some (s.length,0)) (s.set i none++[some ⟨false,(cs.drop q).take (len*sz)++ds⟩])=some r)):=by
 unfold cm at h;cases h0:Nat.beq m 0 with
 |true=>rw[h0]at h;simp_all
 |false=>
  rw[h0]at h;simp only[af]at h;have hm:=Ly h0;cases h1:Nat.ble (len+m) lim with
  |false=>rw[h1]at h;cases h
  |true=>
   rw[h1]at h;simp only[ae]at h;refine .inr ⟨by omega,qA h1,?_⟩;cases a with
   |none=>
    simp only at h;cases h2:Nat.beq len 0 with
    |false=>rw[h2]at h;cases h
    |true=>rw[h2]at h;simp_all
   |some iq=>
    have⟨i,q⟩:=iq;simp only at h;cases h3:s.ik i with
    |none=>rw[h3]at h;cases h
    |some cs=>
     rw[h3]at h;simp only at h;cases h4:Nat.ble (q+len*sz) cs.length with
     |false=>rw[h4]at h;cases h
     |true=>rw[h4]at h;exact .inr ⟨i,q,cs,rfl,h3,qA h4,h⟩
def Dj (P:Program) (ts:Array TypeId):Prop:=match ts[1]? with|none=>True|some t=>∃d,P.underlying t=some d/\∀k,d≠ .int k
theorem Zvn {K:M β} (h:YQ C.P ts K s=some r):Dj C.P ts/\K s=some r:=by
 unfold YQ at h;unfold Dj;cases ht:ts[1]? with
 |none=>rw[ht]at h;exact⟨trivial,h⟩
 |some t=>
  rw[ht]at h;simp only at h⊢;cases hu:C.P.underlying t with
  |none=>rw[hu]at h;cases h
  |some d=>
   rw[hu]at h;cases d with
   |int k=>cases h
   |_=>exact(by grind)
theorem ZkP (h0:ts[0]? =some t) (ht:P.underlying t=some (.slice e)) (he:P.underlying e=some ed) (hn:Dj P ts) (ty:TypeId)
  (base:Option Addr) (n m cap:Nat) (X:Value) (w w':World) (new:Array Value) (hX:(Builtin.lenOf X).run P w= .ok m w) (hc:n+m<=cap)
  (hf:(Builtin.firstCells (P.cellsOf e) m X).run P w= .ok new w) (hs: ∀a,base=some a->(storeCells (a.add (n*P.cellsOf e)) new.toList).run P w= .ok () w') (hb:base=none->w'=w):
  (Builtin.append_ ts ty #[.slice base n cap,X]).run P w= .ok (.slice base (n+m) cap) w':=by
 have key:(P.underlying t=some (.slice e))->(do
   let n' <-Builtin.lenOf X
   let KR:=n+n'
   if KR<=cap then
    let new <-Builtin.firstCells (P.cellsOf e) n' X
    if let some a:=base then storeCells (a.add (n*P.cellsOf e)) new.toList
    pure (.slice base KR cap)
   else stuck "" :Sem Value).run P w= .ok (.slice base (n+m) cap) w':=by
  intro _;simp only[Sem.run_bind,hX,Result.andThen_ok,hc,mJ,hf];cases base with
  |none=>have:=hb rfl;subst this;simp
  |some a=>simp[hs a rfl]
 have key:=key ht;simp only[Sem.run_bind,hX,Result.andThen_ok,hc,mJ,hf]at key;unfold Builtin.append_;unfold Dj at hn;cases h1:ts[1]? with
 |none=>
  simp only[h0,Ln,kY,qw,Sem.run_bind,Zl w ht,Result.andThen_ok,qH w he,Sem.run_pure,uu,ng,hX,bn,mJ,hc,hf];exact key
 |some t1=>
  rw[h1]at hn;have⟨d,hd,jo⟩:=hn;simp only[h0,Ln,kY,qw,Sem.run_bind,Zl w ht,Result.andThen_ok,qH w he,Zl w hd];cases d<;>first|exact absurd rfl (jo _)|(simp only[Sem.run_pure,Result.andThen_ok,Sem.run_bind,uu,ng,hX,bn,mJ,hc,hf];exact key)
theorem Zqn (z:Array Value) (n:Nat):(Builtin.zeroCells z n).size=n*z.size:=by simp[Builtin.zeroCells]
theorem Zos {ie:TypeInfo} {z:Value} (h0:ts[0]? =some t) (ht:P.underlying t=some (.slice e)) (he:P.underlying e=some ed) (vt:P.info? e=some ie)
  (wW:ie.zero=some z) (hn:Dj P ts) (ty:TypeId) (base:Option Addr) (n m cap:Nat) (X:Value) (w:World) (fF new:Array Value) (hX: ∀w,(Builtin.lenOf X).run P w= .ok m w) (hc:cap<n+m)
  (hb:(n+m)*ie.bytes<=70368744177664) (N4:n+m<=70368744177664) (ho:(Builtin.firstCells (P.cellsOf e) n (.slice base n cap)).run P w.drew= .ok fF w.drew) (hf:(Builtin.firstCells (P.cellsOf e) m X).run P w.drew= .ok new w.drew):
  ∃k,n+m<=k/\(Builtin.append_ ts ty #[.slice base n cap,X]).run P w= .ok (.slice (some ⟨w.heap.size,0,none⟩) (n+m) k) (w.drew.alloc (.cells (fF++new++Builtin.zeroCells z.cells (k-(n+m))) e)):=by
 refine⟨(Question.appendCap (n+m) cap e).cut (w.tape w.drawn (.appendCap (n+m) cap e)),by simp[Question.cut],?_⟩;have hq:(Question.appendCap (n+m) cap e).forced=false:=rfl;have g1: ¬(n+m<=cap):=by omega
 have g2: ¬(Builtin.nextslicecap (n+m) cap*ie.bytes>2^48):=by
  have:=growslice_fits (bytes:=ie.bytes) hc (by omega);omega
 have g3: ¬(((n+m:Nat):Int)>IntKind.i64.max):=by
  have:IntKind.i64.max=9223372036854775807:=by decide
  rw[this];omega
 have g4: ¬(((n+m:Nat):Int)>IntKind.i64.max/\(False\/ie.bytes=0)):=λh=>g3 h.1
 have abL: ∀w,(typeInfo e).run P w= .ok ie w:=λw=>by simp[typeInfo,vt]
 have CF: ∀w,(zeroValue e).run P w= .ok z w:=λw=>by simp[zeroValue,typeInfo,vt,wW]
 unfold Builtin.append_;unfold Dj at hn;cases h1:ts[1]? with
 |none=>
  simp only[h0,Ln,kY,qw,Sem.run_bind,Zl w ht,Result.andThen_ok,qH w he,Sem.run_pure,uu,ng,hX,bn,mJ,g1,abL,g4,
   g2,run_choose,hq,run_askRoom,World.drew_eq,ho,hf,CF,newRow,run_newObj,World.alloc_eq]
  rfl
 |some t1=>
  rw[h1]at hn;have⟨d,hd,jo⟩:=hn;simp only[h0,Ln,kY,qw,Sem.run_bind,Zl w ht,Result.andThen_ok,qH w he,Zl w hd];cases d<;>first|exact absurd rfl (jo _)|(simp only[Sem.run_pure,Result.andThen_ok,Sem.run_bind,uu,ng,hX,bn,mJ,g1,abL,g4,g2,run_choose,hq,run_askRoom,World.drew_eq,ho,hf,CF,newRow,run_newObj,World.alloc_eq];rfl)
theorem Ext.ajD (h:Ext ψ Q1 w ψ' Q' w') (hq: ∀k ab,Q1 k ab->Q k ab):Ext ψ Q w ψ' Q' w':=
 have so: ∀b,uI ψ Q1 b->uI ψ Q b:=λ_b ⟨k,cb,ab,e,q,hs,hb⟩=>⟨k,cb,ab,e,hq _ _ q,hs,hb⟩
 { h with
  sZ:=λk cb e=>(h.sZ k cb e).imp id λ⟨x,y⟩=>⟨x.imp id (so _),y⟩
  j6:=λb hb hn=>h.j6 b hb λe=>hn (so b e)
  gU:=λb e=>(h.gU b e).imp (so b) id
  live:=λk cb x e q=>let ⟨y,hy⟩:=h.live k cb x e q;⟨y,hq _ _ hy⟩ }
theorem ZrF :dx (s.set i none) i=none:=by
 grind[dx]
theorem ZuK (hq:q.callee= .builtin .append) (ho:o.op= .call q) {z:Operand} (ha:q.args= #[y,z]) {zv:ah} (h0:q.argTypes[0]? =some t)
  (ht:C.P.underlying t=some (.slice e)) (he:C.P.underlying e=some ed) (hz:np C.P e=some zv) (rB:zv.length=C.P.cellsOf e) (hn:Dj C.P q.argTypes) (bx: ∀h,W h->D h) (hD: ∀i,D (.inl i)) {a:ai} (hW: ∀i q,a=some (i,q)->W (.inl i)) (hd:E.src C y= .v (.slice z0 a n)) (wW:z0=C.P.cellsOf e\/a=none) (jz:ds.length=m*C.P.cellsOf e)
  (hX: ∀ψ Q A w,aB C o D E s ψ Q A w->(∀w,(Builtin.lenOf (A.eval z)).run C.P w= .ok m w)/\∃vs,bG C ψ ds vs.toList/\ds.all one=true/\∀w',w'.heap=w.heap->(Builtin.firstCells (C.P.cellsOf e) m (A.eval z)).run C.P w'= .ok vs w') (h:cm (C.P.cellsOf e) a n ds m (CI C.P e) (λp=>cD E o K (.slice (C.P.cellsOf e) p (n+m))) s=some r):ca C md pr ms o D W E s K r:=by
 have my:y∈o.op.operands:=by rw[ho];simp[Op.operands,Call.operands,hq,ha]
 have hex: ∀(A:Act) (w w':World) v,(Builtin.append_ q.argTypes o.type #[A.eval y,A.eval z]).run C.P w= .ok v w'->(execOp A.eval o).run C.P w= .ok (.value v) w':=by
  intro A w w' v hv;simp[execOp,ho,resolve,hq,invoke,builtin,ha,hv]
 have ajm: ∀vs:Array Value,∀ψ,m=0->bG C ψ ds vs.toList->vs.toList=[]:=by
  intro vs ψ hm hr;have:=hr.len;rw[jz,hm,tn]at this;grind
 have grow: ∀ψ Q A w,aB C o D E s ψ Q A w->∀base cap fF,A.eval y= .slice base n cap->cap<n+m->n+m<=CI C.P e->(Builtin.firstCells (C.P.cellsOf e) n (.slice base n cap)).run C.P w.drew= .ok fF w.drew->
   ∃k new rest,n+m<=k/\bG C ψ ds new.toList/\ds.all one=true/\rest.size=(k-(n+m))*C.P.cellsOf e/\
    (execOp A.eval o).run C.P w= .ok (.value (.slice (some ⟨w.heap.size,0,none⟩) (n+m) k)) (w.drew.alloc (.cells (fF++new++rest) e)):=by
  intro ψ Q A w p base cap fF hy hc Cy hold;have⟨hl,new,h1,h2,h3⟩:=hX ψ Q A w p;unfold np at hz;cases hi:C.P.info? e with
  |none=>rw[hi]at hz;cases hz
  |some ie=>
   rw[hi]at hz;simp only at hz;cases vE:ie.zero with
   |none=>rw[vE]at hz;cases hz
   |some akS=>
    rw[vE]at hz;have Pb:=(FE (C:=C) (ψ:=ψ) hz).1.yM;have hb:(n+m)*ie.bytes<=70368744177664:=by
     unfold CI MY at Cy;rw[hi]at Cy;simp only at Cy;rcases Bi ie.bytes with hz|hp
     .rw[hz];simp
     .exact(Nat.le_div_iff_mul_le hp).1 Cy
    have N4:n+m<=70368744177664:=gY Cy (Fg _ _);have⟨k,hk,dV⟩:=Zos (P:=C.P) h0 ht he hi vE hn o.type base n m cap (A.eval z) w fF new hl hc hb N4 hold (h3 _ rfl);exact⟨k,new,_,hk,h1,h2,by rw[Zqn,<-Pb,rB],(by grind)⟩
 rcases Zyn h with⟨hm,h⟩|⟨hm,Cy,h⟩
 ·
  refine ca.val bx _ h λψ Q A w p=>?_
  have⟨hl,new,h1,h2,h3⟩:=hX ψ Q A w p;have iA:=ajm new ψ hm h1;subst hm;have hv:=p.val my hd;generalize hy:A.eval y=v at hv;have pj: ∀base cap,v= .slice base n cap->n<=cap->(execOp A.eval o).run C.P w= .ok (.value (.slice base n cap)) w:=by
   intro base cap hv hc;refine hex A w w _ ?_;rw[hy,hv];have:=ZkP (P:=C.P) h0 ht he hn o.type base n 0 cap (A.eval z) w w new (hl w) hc (h3 w rfl) (λa _=>by rw[iA];rfl) (λ_=>rfl);exact this
  cases hv with
  |tc=>exact⟨_,w,(by grind),.refl w,.tc _⟩
  |slice _ i q0 _ cb ad cap ja qZ hb=>
   have:z0=C.P.cellsOf e:=by grind
   subst this;exact⟨_,w,pj _ cap rfl qZ,.refl w,.slice _ _ _ _ cb ad cap ja qZ hb⟩
 .rcases h with⟨rfl,rfl,h⟩|⟨i,q0,cs,rfl,hi,hle,h⟩
  ·
   refine ca.KT (by unfold tr;rw[ho];simp only[hq]) bx _ ds h λψ Q A w p=>?_
   have hv:=p.val my hd;generalize hy:A.eval y=v at hv;cases hv;have⟨k,new,rest,hk,h1,h2,h3,dV⟩:=grow ψ Q A w p none 0 #[] hy (by omega) Cy (by simp[Builtin.firstCells]);have cF:=h1.yM;refine⟨_,_,⟨w.heap.size,0,(#[]++new++rest).size⟩,dV,(gW.drew w).trans (gW.alloc w.drew _),aO _,by simp,?_,λψ' _ wY=>?_⟩
   .refine Fw (w:=w.drew) ?_ h2
    grind
   .refine VR.slice _ _ 0 _ _ _ _ wY hk (λ_=>⟨rfl,?_⟩)
    have:(#[]++new++rest).size=new.size+rest.size:=by simp
    rw[this];rw[<-cF,jz,h3,eO,eO,<-vU];grind
  ·
   have wW:z0=C.P.cellsOf e:=by grind
   subst wW;have⟨cg,aw⟩:=UU hi;have fV: ∀ab,dx (s.set i none++[some ⟨false,(cs.drop q0).take (n*C.P.cellsOf e)++ds⟩]) s.length=some ab->ab= .cells false ((cs.drop q0).take (n*C.P.cellsOf e)++ds):=by
    intro ab fV;have:=QO (s.set i none) ⟨false,(cs.drop q0).take (n*C.P.cellsOf e)++ds⟩;rw[nR]at this;rw[this]at fV;cases fV;rfl
   have hold: ∀j ab,dx (s.set i none++[some ⟨false,(cs.drop q0).take (n*C.P.cellsOf e)++ds⟩]) j=some ab->j≠s.length->j≠i/\dx s j=some ab:=by
    intro j ab hj dM;have uc:=DL hj;simp only[bB,nR,iK]at uc;rw[LU (by rw[nR];omega)]at hj;by_cases nA:j=i
    .subst nA;rw[ZrF]at hj;cases hj
    .rw[Mf (Ne.symm nA)]at hj;exact⟨nA,hj⟩
   refine .inl ⟨_,_,h,mM.put pr ms _ rfl (λ_ _ _ _ h=>by cases h) (by simp) (λj ab hj=>by
    by_cases e:j=s.length
    .omega
    grind) (λj h hj=>by
    have dM:i≠j:=by grind
    rw[mH (by rw[nR];exact hj),jv dM]) (.inr (by unfold tr;rw[ho];simp only[hq])),?_⟩
   intro ψ Q A w next QQ p room J3;have iA:xw E s (E.fg o.dst (.v (.slice (C.P.cellsOf e) (some (s.length,0)) (n+m)))) (s.set i none++[some ⟨false,(cs.drop q0).take (n*C.P.cellsOf e)++ds⟩]) (.inl s.length):=⟨by simp[ej],by simp[ej]⟩;have hf:=room _ iA;have hv:=p.val my hd;generalize hy:A.eval y=v at hv;cases hv with
   |slice _ _ _ _ cb ad cap ja qZ hb=>
    have sP:Q (.inl i) (.cells false cs):=p.j7 (.inl i) _ cb (hD i) cg ja;have hh:=p.eW.holds _ cb _ ja sP;have⟨hl,new,h1,h2,h3⟩:=hX ψ Q A w p;have hlen:((cs.drop q0).take (n*C.P.cellsOf e)).length=n*C.P.cellsOf e:=by simp;omega
    have ahF:((cs.drop q0).take (n*C.P.cellsOf e)++ds).length=(n+m)*C.P.cellsOf e:=by rw[bB,hlen,jz,vU]
    have dt:((cs.drop q0).take (n*C.P.cellsOf e)++ds).all one=true:=by rw[tj,Vq hh.2.1,h2];rfl
    have fin: ∀v' w' gm,(execOp A.eval o).run C.P w= .ok (.value v') w'->ft C (oD ψ (.inl s.length) gm) (KQ Q (.inl i) (.inl s.length) (.cells false ((cs.drop q0).take (n*C.P.cellsOf e)++ds))) w'->
      Ext ψ Q w (oD ψ (.inl s.length) gm) (KQ Q (.inl i) (.inl s.length) (.cells false ((cs.drop q0).take (n*C.P.cellsOf e)++ds))) w'->
      VR C (oD ψ (.inl s.length) gm) (.slice (C.P.cellsOf e) (some (s.length,0)) (n+m)) v'->o.wp C.P A w next QQ:=by
     intro v' w' gm dV AL vn lS;unfold Oper.wp;rw[dV];refine J3 _ _ v' w' ⟨AL,vn,λh c e'=>?_,λh ab c cr hw e'=>?_,λh ab c e' q' nw _=>?_⟩ (λd' kK=>?_)
     .by_cases eh:h= .inl s.length
      .grind
      .rw[oT _ _ eh]at e';exact .inl e'
     .by_cases eh:h= .inl s.length
      .subst eh;exact .inl ⟨rfl,fV ab cr⟩
      .rw[oT _ _ eh]at e'
       have fF:h≠ .inl i/\CR E s h ab:=by
        cases h with
        |inl j=>
         have⟨a1,a2⟩:=hold j ab cr (λe=>eh (by rw[e]));exact⟨λe=>a1 (by cases e;rfl),a2⟩
        |inr x=>
         have oU:CR (E.fg o.dst (.v (.slice (C.P.cellsOf e) (some (s.length,0)) (n+m)))) s (.inr x) ab:=cr;exact⟨by simp,oU.fg rfl⟩
       refine .inr ⟨eh,fF.1,?_⟩;rcases hw with hw|⟨n1,n2⟩
       .exact p.j7 h ab c (bx h hw) fF.2 e'
       .exact absurd (fF.2.qV p.gR) n1
     .cases h with
      |inl j=>exact .inr ⟨by grind,by grind,q'⟩
      |inr x=>exact .inr ⟨by simp,by simp,q'⟩
     .rw[Env.kG,bE kK];exact lS
    by_cases pj:n+m<=cap
    .have⟨e1,e2⟩:=hb (by omega)
     have abt:(n+m)*C.P.cellsOf e<=cap*C.P.cellsOf e:=Fh _ pj;rw[vU]at abt;have⟨w',hw,dh,Cs⟩:=ZnC (P:=C.P) (p:=q0+n*C.P.cellsOf e) (o':=q0) (cs':=(cs.drop q0).take (n*C.P.cellsOf e)++ds) hh h1 h2 (by rw[jz];omega) (by rw[ahF,vU];omega) dt (λj d kK=>by
      by_cases hj:j<n*C.P.cellsOf e
      .rw[mH (by omega),xo,bE hj,Bg]at kK
       grind
      .rw[kX (by omega),hlen]at kK
       have uc:j-n*C.P.cellsOf e<ds.length:=by
        grind
       exact .inl ⟨by omega,by omega,by rw[show q0+j-(q0+n*C.P.cellsOf e)=j-n*C.P.cellsOf e by omega];exact kK⟩)
     have dV:=ZkP (P:=C.P) h0 ht he hn o.type (some ad) n m cap (A.eval z) w w' new (hl w) pj (h3 w rfl) (λa' tS=>by
      cases tS;rw[e1,BG,uy];exact hw) (λe=>by cases e)
     refine fin _ w' ⟨cb.b,cb.o+q0,cb.m-q0⟩ (hex A w _ _ (by rw[hy];exact dV)) (ft.move p.eW ja sP rfl hf rfl dh.other (Cs.same (λ_ _ e=>wg hf _ _ e) rfl))
      (Ext.move ja sP rfl hf rfl (p.gE _ _ ja) dh.other dh.size dh.tape dh.os dh.output) ?_
     exact VR.slice _ _ 0 _ _ _ _ (qF _ _ _) pj (λ_=>⟨by rw[e1];rfl,by simp only;omega⟩)
    .have⟨base,aj9,fF,JD,OX,Ko,hra⟩:=Nr p hD (p.val my hd) (.inl rfl) (k:=n) (n:=n*C.P.cellsOf e) rfl (aO _) (.inr ⟨i,q0,false,cs,rfl,cg,hle,rfl⟩)
     rw[hy]at JD;cases JD;have OX:=OX w.drew rfl;rw[hy]at OX;have⟨k,new,rest,hk,h1,h2,h3,dV⟩:=grow ψ Q A w p (some ad) cap fF hy (by omega) Cy OX;have cF:=h1.yM;have vC:=Ko.yM;rw[hlen]at vC;have qb:gW w (w.drew.alloc (.cells (fF++new++rest) e)):=(gW.drew w).trans (gW.alloc w.drew _);refine fin _ _ ⟨w.heap.size,0,(fF++new++rest).size⟩ dV ?_ ?_ ?_
     .refine ft.new (Q:=λk x=>k≠ .inl i/\Q k x) (p.eW.weaken λ_ _ _ _ q=>q.2) p.gE qb hf (aO _) ?_
      refine Fw (w:=w.drew) ?_ dt;have:(fF++new++rest).toList.take ((cs.drop q0).take (n*C.P.cellsOf e)++ds).length=fF.toList++new.toList:=by
       rw[bB,hlen,cF,vC];simp only[Array.toList_append];rw[List.take_append_of_le_length (by simp),dG (by simp)]
      rw[this];exact bG.append (Ko.mono λ_ _ e=>wg hf _ _ e) (h1.mono λ_ _ e=>wg hf _ _ e)
     .exact(Ext.new (Q:=λk x=>k≠ .inl i/\Q k x) qb hf (aO _) (by simp)).ajD λ_ _ q=>q.2
     .refine VR.slice _ _ 0 _ _ _ _ (qF _ _ _) hk (λ_=>⟨rfl,?_⟩)
      have:(fF++new++rest).size=fF.size+new.size+rest.size:=by simp[uy]
      rw[this];rw[<-cF,<-vC,jz,h3,eO,<-vU,<-vU];exact Fh _ (by omega)
end
section
variable {C:bC} {o:Oper} {D W:dH->Prop} {E:Env} {s:St} {md:Md} {pr ms:al}
theorem aaN {z:Operand} (h:q.args.toList=[y,z]):q.args= #[y,z]:=by rw[<-Array.toArray_toList (xs:=q.args),h]
theorem DQ {x y:Nat} {a:ai} (h:(Nat.beq x y||a.isNone)=true):x=y\/a=none:=by
 rw[lV]at h;simp_all
theorem Zrf (x:ByteArray) (n:Nat) (w:World):
  ∃vs,(Builtin.firstCells 1 n (.string x)).run P w= .ok vs w/\bG C ψ (ZQ (x.data.toList.take n)) vs.toList:=by
 refine⟨_,rfl,?_⟩;have:((x.extract 0 n).data.map λb=>Value.int .u8 b.toNat).toList=(x.data.toList.take n).map λb=>Value.int .u8 b.toNat:=by
  rw[Array.toList_map,ByteArray.data_extract,Array.toList_extract,PZ];simp
 rw[this];exact ZlL _
theorem Zsc (hq:q.callee= .builtin .append) (ho:o.op= .call q) (bx: ∀h,W h->D h) (hD: ∀i,D (.inl i)) (hW: ∀y z i p n,q.args.toList.head?=some y->E.src C y= .v (.slice z (some (i,p)) n)->W (.inl i)) (h:U0 C E o K q.argTypes q.args s=some r):ca C md pr ms o D W E s K r:=by
 unfold U0 at h;generalize ha:q.args.toList=l at h;generalize h0:q.argTypes[0]? =t0 at h;split at h
 .rename_i y z t
  unfold xT at h;cases ht:C.P.underlying t with
  |none=>rw[ht]at h;cases h
  |some td=>
   rw[ht]at h;cases td with
   |slice e=>
    simp only at h;have⟨ed,he,h⟩:=pU h;have⟨hn,h⟩:=Zvn h;cases hz:np C.P e with
    |none=>rw[hz]at h;cases h
    |some zv=>
     rw[hz]at h;simp only at h;have⟨rB,h⟩:=H9 h;have rB:zv.length=C.P.cellsOf e:=dL (by simpa using rB);have⟨a,Cm,h⟩:=Zw h;have⟨b,JH,h⟩:=Zw h;have kH:=aaN ha;have mz:z∈o.op.operands:=by rw[ho];simp[Op.operands,Call.operands,hq,kH]
     cases a with
     |slice w1 p1 n=>
      cases b with
      |slice w2 p2 m=>
       simp only at h;have⟨hw,h⟩:=Zs h;rw[aY]at hw;have⟨ds,h,jz,oZ⟩:=Vr h;refine ZuK hq ho kH h0 ht he hz rB hn bx hD (by grind) Cm (DQ hw.1) jz (λψ Q A w p=>?_) h;have⟨base,cap,vs,e1,e2,e3,e4⟩:=Nr p hD (p.val mz JH) (DQ hw.2) (k:=m) rfl (aO _) oZ;exact⟨λw=>by rw[e1];rfl,vs,e3,e4,e2⟩
      |str l=>
       simp only at h;have⟨hw,h⟩:=Zs h;rw[aY]at hw;have cF:=dL hw.2;rw[<-cF]at h;refine ZuK hq ho kH h0 ht he hz rB hn bx hD (by grind) Cm (by rw[cF];exact DQ hw.1) (by rw[cF];simp) (λψ Q A w p=>?_) h;have hv:=p.val mz JH;generalize A.eval z=v at hv;cases hv with
       |str x=>
        have hx:x.data.toList.length=x.size:=by rw[oE];rfl
        have⟨vs,e1,e2⟩:=Zrf (C:=C) (ψ:=ψ) (P:=C.P) x x.size w;rw[<-hx,dG (aO _)]at e2;refine⟨λw=>by rw[hx];rfl,vs,e2,RT _,λw' sR=>?_⟩;rw[cF,hx];cases e1;rfl
      |_=>cases h
     |_=>cases b<;>cases h
   |_=>cases h
 .cases h
theorem Zuz (cs:ah) (p:Nat):cE cs p []=cs:=by
 induction cs generalizing p with
 |nil=>cases p<;>rfl
 |cons c cs ih=>cases p with
  |zero=>rfl
  |succ p=>simp[cE,ih]
theorem ZuN {p:ai} {K:M β} (h:Af p ds K s=some r):
  (p=none/\ds=[]/\K s=some r)\/∃i q cs,p=some (i,q)/\s.ik i=some cs/\q+ds.length<=cs.length/\K (s.set i (some ⟨false,cE cs q ds⟩))=some r:=by
 cases p with
 |none=>
  simp only[Af]at h;have⟨h1,h⟩:=Zs h;simp_all
 |some iq=>
  have⟨i,q⟩:=iq;simp only[Af]at h;have⟨cs,h1,h2,h3⟩:=ZoK h;grind
theorem ZlS {q cap k:Nat} {vs:List Value} (hb:0<cap->ad=⟨cb.b,cb.o+q,none⟩/\q+cap*sz<=cb.m) (hc:n<=cap) (hk:k<=n)
  (h:Holds C ψ w cb (.cells false cs)) (hr:bG C ψ ds vs) (h1:ds.all one=true) (hl:ds.length=k*sz) (hle:q+ds.length<=cs.length):
  ∃w',(storeCells ad vs).run C.P w= .ok () w'/\Bn w w' cb.b/\Holds C ψ w' cb (.cells false (cE cs q ds)):=by
 by_cases h0:ds.length=0
 .have hd:=zu.1 h0
  subst hd;cases hr;exact⟨w,rfl,⟨λ_ _=>rfl,rfl,rfl,rfl,.refl _⟩,by rw[Zuz];exact h⟩
 .have lO:0<k:=by
   grind
  have⟨e1,_⟩:=hb (by omega);rw[e1];exact MS h hr h1 hle
theorem Zsa (h0:ts[0]? =some t) (ht:P.underlying t=some (.slice e)) (he:P.underlying e=some ed) (ty:TypeId)
  (base:Option Addr) (n m cap:Nat) (X:Value) (w w':World) (new:Array Value) (hX:(Builtin.lenOf X).run P w= .ok m w)
  (hf:(Builtin.firstCells (P.cellsOf e) (min m n) X).run P w= .ok new w) (hs: ∀a,base=some a->(storeCells a new.toList).run P w= .ok () w') (hb:base=none->w'=w):
  (Builtin.copy_ ts ty #[.slice base n cap,X]).run P w= .ok (.int .i64 (min (m:Int) n)) w':=by
 have abT:(Nat.min m n:Int)=min (m:Int) n:=by grind
 have Cn:(Builtin.firstCells (P.cellsOf e) (Nat.min m n) X).run P w= .ok new w:=hf;unfold Builtin.copy_;simp only[h0,Ln,kY,qw,Sem.run_bind,Zl w ht,Result.andThen_ok,qH w he,hX,Cn];cases base with
 |none=>have:=hb rfl;subst this;simp[goInt];exact abT
 |some a=>simp[hs a rfl,goInt];exact abT
theorem Zu4 (hq:q.callee= .builtin .copy) (ho:o.op= .call q) (bx: ∀h,W h->D h) (hW: ∀i,W (.inl i)) (h:Wa C E o K q.argTypes q.args s=some r):ca C md pr ms o D W E s K r:=by
 unfold Wa at h;generalize ha:q.args.toList=l at h;generalize h0:q.argTypes[0]? =t0 at h;split at h
 .rename_i y z t
  unfold xT at h;cases ht:C.P.underlying t with
  |none=>rw[ht]at h;cases h
  |some td=>
   rw[ht]at h;cases td with
   |slice e=>
    simp only at h;have⟨ed,he,h⟩:=pU h;have⟨a,Cm,h⟩:=Zw h;have⟨b,JH,h⟩:=Zw h;have kH:=aaN ha;have my:y∈o.op.operands:=by rw[ho];simp[Op.operands,Call.operands,hq,kH]
    have mz:z∈o.op.operands:=by rw[ho];simp[Op.operands,Call.operands,hq,kH]
    have hex: ∀(A:Act) (w w':World) v,(Builtin.copy_ q.argTypes o.type #[A.eval y,A.eval z]).run C.P w= .ok v w'->(execOp A.eval o).run C.P w= .ok (.value v) w':=by
     intro A w w' v hv;simp[execOp,ho,resolve,hq,invoke,builtin,kH,hv]
    cases a with
    |slice w1 p1 n=>
     have core: ∀(m:Nat) (ds:ah),(w1=C.P.cellsOf e\/p1=none)->ds.length=min m n*C.P.cellsOf e->Af p1 ds (cD E o K (.int .i64 (min (m:Int) n))) s=some r->
       (∀ψ Q A w,aB C o D E s ψ Q A w->(Builtin.lenOf (A.eval z)).run C.P w= .ok m w/\∃vs,bG C ψ ds vs.toList/\ds.all one=true/\(Builtin.firstCells (C.P.cellsOf e) (min m n) (A.eval z)).run C.P w= .ok vs w)->
       ca C md pr ms o D W E s K r:=by
      intro m ds cG jz h hX;rcases ZuN h with⟨rfl,rfl,h⟩|⟨i,q0,cs,rfl,hi,hle,h'⟩
      .refine ca.val bx _ h λψ Q A w p=>?_
       have⟨hl,vs,h1,h2,h3⟩:=hX ψ Q A w p;have hv:=p.val my Cm;generalize hy:A.eval y=v at hv;cases hv;exact⟨_,w,hex A w w _ (by rw[hy];exact Zsa h0 ht he o.type none 0 m 0 (A.eval z) w w vs hl h3 (λ_ h=>by cases h) (λ_=>rfl)),.refl w,.int _ _⟩
      .have cG:w1=C.P.cellsOf e:=by grind
       subst cG;refine ca.Y9 bx (hW _) (.v (.int .i64 (min (m:Int) n))) rfl (λ_ _ _ _ h=>by cases h) hi h' λψ Q A w p=>?_
       have hv:=p.val my Cm;generalize hy:A.eval y=v at hv;cases hv with
       |slice _ _ _ _ cb ad cap ja qZ hb=>
        refine⟨cb,ja,λhh=>?_⟩;have⟨hl,vs,h1,h2,h3⟩:=hX ψ Q A w p;have⟨w',e1,e2,e3⟩:=ZlS hb qZ (Nat.min_le_right m n) hh h1 h2 jz hle;exact⟨_,w',.inl (hex A w w' _ (by rw[hy];exact Zsa h0 ht he o.type (some ad) n m cap (A.eval z) w w' vs hl h3 (by grind) (λh=>by cases h))),e2,e3,.int _ _⟩
     cases b with
     |slice w2 p2 m=>
      simp only at h;have⟨hw,h⟩:=Zs h;rw[aY]at hw;have⟨ds,h,jz,oZ⟩:=Vr h;refine core m ds (DQ hw.1) jz h λψ Q A w p=>?_
      have⟨base,cap,vs,e1,e2,e3,e4⟩:=Nr p (λi=>bx _ (hW i)) (p.val mz JH) (DQ hw.2) (k:=min m n) rfl (Nat.min_le_left _ _) oZ;exact⟨by rw[e1];rfl,vs,e3,e4,e2 w rfl⟩
     |str l=>
      simp only at h;have⟨hw,h⟩:=Zs h;rw[aY]at hw;have cF:=dL hw.2;refine core l.length (ZQ (l.take n)) (by rw[cF];exact DQ hw.1) (by rw[cF];simp[Nat.min_comm]) h λψ Q A w p=>?_
      have hv:=p.val mz JH;generalize A.eval z=v at hv;cases hv with
      |str x=>
       have hx:x.data.toList.length=x.size:=by rw[oE];rfl
       have⟨vs,e1,e2⟩:=Zrf (C:=C) (ψ:=ψ) (P:=C.P) x (min x.data.toList.length n) w;refine⟨by rw[hx];rfl,vs,?_,RT _,by rw[cF];exact e1⟩;grind
     |_=>cases h
    |_=>cases b<;>cases h
   |_=>cases h
 .cases h
theorem Zt2 (hq:q.callee= .builtin .clear) (ho:o.op= .call q) (bx: ∀h,W h->D h) (hW: ∀i,W (.inl i)) (h:VW C E o K q.argTypes q.args s=some r):ca C md pr ms o D W E s K r:=by
 unfold VW at h;generalize ha:q.args.toList=l at h;generalize h0:q.argTypes[0]? =t0 at h;split at h
 .rename_i y t
  unfold xT at h;cases ht:C.P.underlying t with
  |none=>rw[ht]at h;cases h
  |some td=>
   rw[ht]at h;cases td with
   |slice e=>
    simp only at h;have⟨a,Cm,h⟩:=Zw h;have kH:q.args= #[y]:=by rw[<-Array.toArray_toList (xs:=q.args),ha]
    have my:y∈o.op.operands:=by rw[ho];simp[Op.operands,Call.operands,hq,kH]
    have hex: ∀(A:Act) (w w':World),(Builtin.clear_ q.argTypes o.type #[A.eval y]).run C.P w= .ok (.tuple #[]) w'->(execOp A.eval o).run C.P w= .ok (.value (.tuple #[])) w':=by
     intro A w w' hv;simp[execOp,ho,resolve,hq,invoke,builtin,kH,hv]
    cases a with
    |slice w1 p1 n=>
     cases hz:np C.P e with
     |none=>rw[hz]at h;cases h
     |some z=>
      rw[hz]at h;simp only at h;have⟨hw,h⟩:=Zs h;rw[aY]at hw;have rB:=dL hw.2;rcases ZuN h with⟨rfl,OD,h⟩|⟨i,q0,cs,rfl,hi,hle,h'⟩
      .refine ca.pure bx (.qm []) rfl (λ_ _ _ _ h=>by cases h) h λψ Q A w p=>?_
       have hv:=p.val my Cm;generalize hy:A.eval y=v at hv;cases hv;exact⟨.tuple #[],w,hex A w w (by rw[hy];simp[Builtin.clear_,h0,Zl w ht]),.refl w,_,rfl,.nil⟩
      .have cG:w1=C.P.cellsOf e:=by rcases DQ hw.1 with h|h;exact h;cases h
       subst cG;refine ca.Y9 bx (hW _) (.qm []) rfl (λ_ _ _ _ h=>by cases h) hi h' λψ Q A w p=>?_
       have hv:=p.val my Cm;generalize hy:A.eval y=v at hv;cases hv with
       |slice _ _ _ _ cb ad cap ja qZ hb=>
        refine⟨cb,ja,λhh=>?_⟩;have⟨zv,KF,Hh,kQ⟩:=Uk (P:=C.P) w hz;have Pb:=(Hh C ψ).yM;have J0:=Vc (Hh C ψ) n (n*zv.cells.size) (by rw[Pb];exact aO _);rw[IF (by simp[size_madeCells,FG,Pb])]at J0;have⟨w',e1,e2,e3⟩:=ZlS hb qZ (aO n) hh J0 (DK kQ) (by rw[FG,rB]) hle;refine⟨.tuple #[],w',.inl (hex A w w' ?_),e2,e3,_,rfl,.nil⟩;rw[hy];have yb:(storeCells ad (Builtin.zeroCells zv.cells n).toList).run C.P w= .ok () w':=e1;cases n with
        |zero=>
         have:w'=w:=by
          have e4:(madeCells zv.cells (0*zv.cells.size)).toList=[]:=by simp[madeCells,Array.range_zero']
          rw[e4]at e1;cases e1;rfl
         subst this;simp[Builtin.clear_,h0,Zl _ ht]
        |succ n=>
         simp[Builtin.clear_,h0,Zl _ ht,KF,yb]
    |_=>cases h
   |_=>cases h
 .cases h
end
def CS (s:St):Kn:=λh ab=>∃i,h= .inl i/\dx s i=some ab
def Bm (C:bC) (ψ:Ps) (ds:ah) (v:Value):Prop:=(∃d,ds=[d]/\VR C ψ d v)\/(ds.length≠1/\∃vs,v= .tuple vs/\bG C ψ ds vs.toList)
structure jJ (C:bC) (ψ:Ps) (s:St) (w:World) (ψ':Ps) (s':St) (w':World):Prop where
 eW:ft C ψ' (CS s') w'
 ext:Ext ψ (CS s) w ψ' (CS s') w'
 news: ∀h cb,ψ' h=some cb->ψ h=some cb\/∃i,h= .inl i/\s.length<=i/\i<s'.length
def zW (P:Program) (f:FuncId) (vs:Array Value) (w:World) (R:Ending->World->Prop):Prop:=
 match (callFunc f vs).run P w with
 | .ok (.enter f' as) w'=>Calls P f' as w' R
 | .ok (.value v) w'=>R (.returned v) w'
 |_=>False
def ZzY (C:bC) (g:Nat) (args:ah) (s:St) (out:Out ah×St):Prop:=
 s.length<=out.2.length/\
 ∀f,C.cov f=true->C.fn f=g->∀ψ w vs,ft C ψ (CS s) w->rV ψ w->Glob C ψ->bG C ψ args vs->(∀v,ψ (.inr v)=none)->(∀i,s.length<=i->i<out.2.length->ψ (.inl i)=none)->
  zW C.P f vs.toArray w λ
   | .returned v,w'=>∃ds,out.1= .val ds/\∃ψ',jJ C ψ s w ψ' out.2 w'/\Bm C ψ' ds v
   | .panicked ch,w'=>oK ch/\out.1= .fp/\∃ψ',jJ C ψ s w ψ' out.2 w'
   | .outgrown,_=>False
def ZT (C:bC) (c:Zf):Prop:=∀g args s out,c g args s=some out->ZzY C g args s out
def nF (ψ:Ps):Ps
 | .inl i=>ψ (.inl i)
 | .inr _=>none
def yU (ψ kz:Ps):Ps
 | .inl i=>kz (.inl i)
 | .inr v=>ψ (.inr v)
def Pv (s':St) (Q:Kn):Kn:=λh ab=>CS s' h ab\/(Q h ab/\∀i,h= .inl i->s'.length<=i)
section
variable {C:bC} {ψ kz:Ps} {Q:Kn} {s s':St} {w w':World}
theorem FP (e:nF ψ h=some cb):ψ h=some cb/\∃i,h= .inl i:=by
 cases h with
 |inl i=>exact⟨e,i,rfl⟩
 |inr v=>cases e
theorem ZtK {vs:List Value} (h:bG C ψ ds vs):bG C (nF ψ) ds vs:=h.mono (ψ:=ψ) (ψ':=nF ψ) λ_ _ e=>e
theorem ZtJ (h:ft C ψ Q w) (hk: ∀i ab cb,dx s i=some ab->ψ (.inl i)=some cb->Q (.inl i) ab):ft C (nF ψ) (CS s) w:=by
 constructor
 .intro k cb ab e q
  obtain⟨e,i,rfl⟩:=FP e;have⟨_,hi,q⟩:=q;cases hi;exact(h.holds _ cb ab e (hk i ab cb q e)).same (ψ:=ψ) (ψ':=nF ψ) (λ_ _ e=>e) rfl
 .intro k cb ab k' gm cZ e q hs e' q' hn
  obtain⟨e,i,rfl⟩:=FP e;obtain⟨e',i',rfl⟩:=FP e';have⟨_,hi,q⟩:=q;cases hi;have⟨_,hi,q'⟩:=q';cases hi;exact h.tR _ cb ab _ gm cZ e (hk i ab cb q e) hs e' (hk i' cZ gm q' e') hn
theorem frame (h:ft C ψ Q w) (hb:rV ψ w) (hk: ∀i ab cb,dx s i=some ab->ψ (.inl i)=some cb->Q (.inl i) ab) (hlen:s.length<=s'.length)
  (hc:jJ C (nF ψ) s w kz s' w'):ft C (yU ψ kz) (Pv s' Q) w'/\Ext ψ Q w (yU ψ kz) (Pv s' Q) w':=by
 have mono: ∀k cb,ψ k=some cb->yU ψ kz k=some cb:=by
  intro k cb e;cases k with
  |inl i=>exact hc.ext.mono (.inl i) cb e
  |inr v=>exact e
 have PG: ∀b,uI (nF ψ) (CS s) b->∃i cb ab,ψ (.inl i)=some cb/\dx s i=some ab/\Q (.inl i) ab/\ab.gU=true/\cb.b=b:=by
  rintro b ⟨k,cb,ab,e,⟨i,rfl,q⟩,hs,hb⟩;exact⟨i,cb,ab,e,q,hk i ab cb q e,hs,hb⟩
 have acP: ∀b,uI (nF ψ) (CS s) b->uI ψ Q b:=by
  intro b hs;have⟨i,cb,ab,e,_,q,hs,hb⟩:=PG b hs;exact⟨_,cb,ab,e,q,hs,hb⟩
 have Gt: ∀k cb ab,yU ψ kz k=some cb->Q k ab->(∀i,k= .inl i->s'.length<=i)->ψ k=some cb/\¬uI (nF ψ) (CS s) cb.b/\cb.b<w.heap.size:=by
  intro k cb ab e q hf;have e':ψ k=some cb:=by
   cases k with
   |inr v=>exact e
   |inl i=>
    rcases hc.news _ _ e with e|⟨j,hj,_,aw⟩
    .exact e
    grind
  refine⟨e',λhs=>?_,hb _ _ e'⟩;have⟨i,cb0,ab0,e0,q0,qq,Kq,yo⟩:=PG _ hs;have dM:(Sum.inl i:dH)≠k:=by
   rintro rfl;have h1:=hf i rfl;have h2:=DL q0;omega
  exact h.tR _ cb0 ab0 _ cb ab e0 qq Kq e' q dM yo.symm
 refine⟨⟨?_,?_⟩,⟨mono,?_,hc.ext.size,?_,?_,?_,hc.ext.tape,hc.ext.os,hc.ext.output⟩⟩
 .intro k cb ab e q
  rcases q with⟨i,rfl,q⟩|⟨q,hf⟩
  .exact(hc.eW.holds (.inl i) cb ab e ⟨i,rfl,q⟩).same (ψ:=kz) (ψ':=yU ψ kz) (λ_ _ e=>e) rfl
  .have⟨e1,e2,e3⟩:=Gt k cb ab e q hf
   exact(h.holds k cb ab e1 q).same (λi cb e=>mono _ _ e) (hc.ext.j6 _ e3 e2)
 .intro k cb ab k' gm cZ e q hs e' q' hn
  rcases q with⟨i,rfl,q⟩|⟨q,hf⟩<;>rcases q' with⟨i',rfl,q'⟩|⟨q',Cn⟩
  .exact hc.eW.tR (.inl i) cb ab (.inl i') gm cZ e ⟨i,rfl,q⟩ hs e' ⟨i',rfl,q'⟩ hn
  .have⟨e1,e2,e3⟩:=Gt k' gm cZ e' q' Cn
   rcases hc.ext.gU cb.b ⟨.inl i,cb,ab,e,⟨i,rfl,q⟩,hs,rfl⟩with h1|h1
   .grind
   .omega
  .have⟨e1,e2,e3⟩:=Gt k cb ab e q hf
   rcases hc.ext.sZ (.inl i') gm e' with h1|⟨h1,_⟩
   .have⟨y,i2,JO,hy⟩:=hc.ext.live (.inl i') gm cZ h1 ⟨i',rfl,q'⟩
    cases JO;exact h.tR k cb ab (.inl i') gm y e1 q hs h1 (hk i' y gm hy h1) hn
   grind
  .have⟨e1,_,_⟩:=Gt k cb ab e q hf
   have⟨yb,_,_⟩:=Gt k' gm cZ e' q' Cn;exact h.tR k cb ab k' gm cZ e1 q hs yb q' hn
 .intro k cb e
  cases k with
  |inr v=>exact .inl e
  |inl i=>
   rcases hc.ext.sZ (.inl i) cb e with h1|⟨h1,h2⟩
   .exact .inl h1
   grind
 .intro b dR hn
  exact hc.ext.j6 b dR λhs=>hn (acP b hs)
 .rintro b ⟨k,cb,ab,e,q,hs,dR⟩
  rcases q with⟨i,rfl,q⟩|⟨q,hf⟩
  .exact(hc.ext.gU b ⟨.inl i,cb,ab,e,⟨i,rfl,q⟩,hs,dR⟩).imp (acP b) id
  .have⟨e1,_,_⟩:=Gt k cb ab e q hf
   exact .inl ⟨k,cb,ab,e1,q,hs,dR⟩
 .intro k cb x e q
  rcases q with⟨i,rfl,q⟩|⟨q,_⟩
  .have⟨y,i2,JO,hy⟩:=hc.ext.live (.inl i) cb x e ⟨i,rfl,q⟩
   grind
  .exact⟨x,q⟩
end
section
variable {C:bC} {o:Oper} {D W:dH->Prop} {E:Env} {s:St} {md:Md} {pr ms:al}
theorem ZoQ {m:M ah} {K:ah->M β} (h:NO md m K s=some r):
  (∃ds s1,m s=some (.val ds,s1)/\K ds s1=some r/\(2<=md.x->St.Wq s s1))\/(md.x=0/\∃s1,m s=some (.fp,s1)/\r=(.fp,s1)):=by
 unfold NO at h;cases hx:md.x with
 |zero=>
  rw[hx]at h;simp only[cQ]at h;grind
 |succ n=>
  cases n with
  |zero=>
   rw[hx]at h;simp only[uZ]at h;grind
  |succ n=>
   rw[hx]at h;simp only[su]at h;grind
theorem FN {m:M ah} : ∀ {bs:al} {o:Out ah} {s1:St},Gi E bs m s=some (o,s1)->
  m s=some (o,s1)/\∀ds,o= .val ds->∀b∈bs,∃j p,E.get b= .v (.ptr (some (j,p)))/\s1[j]? =s[j]?
 |[],_,_,h=>⟨h,λ_ _ b hb=>by cases hb⟩
 |b::bs,o,s1,h=>by
  unfold Gi at h;cases he:E.get b with
  |v d=>
   rw[he]at h;cases d with
   |ptr a=>
    cases a with
    |none=>cases h
    |some jq=>
     have⟨j,q'⟩:=jq;simp only[Ja]at h;cases hm:Gi E bs m s with
     |none=>rw[hm]at h;cases h
     |some p=>
      have⟨o1,s2⟩:=p;rw[hm]at h;cases o1 with
      |val ds=>
       simp only at h;split at h
       .rename_i hk
        cases h;have⟨h1,h2⟩:=FN hm;grind
       .cases h
      |fp=>
       simp only at h;cases h;exact⟨(FN hm).1,λmg e=>by cases e⟩
   |_=>cases h
  |_=>rw[he]at h;cases h
theorem MF {f:Operand} (hq:q.callee= .value f) (ho:o.op= .call q) (bx: ∀h,W h->D h) (hD: ∀i,D (.inl i))
  {c:Zf} (hc:ZT C c) {as:ah} (hf:E.src C f= .v (.func g fs cs)) (has:SV C E q.args.toList as)
  {out:Out ah} (tV:c g (fs++as++cs) s=some (out,s1)) (hW: ∀ds,out= .val ds->∀i,W (.inl i)\/(i<s.length->s1[i]? =s[i]?)):
  (out= .fp->xx C o D E s s1)/\
  (∀ds e,out= .val ds->e.df=none->(∀r v n,e≠ .pl r v n)->(∀ψ v,Bm C ψ ds v->gI C ψ e v)->mM W pr ms o E s (E.fg o.dst e) s1/\Dk C o D W E s (E.fg o.dst e) s1):=by
 have ok:=hc g _ s _ tV;have hlen:s.length<=s1.length:=ok.1;have mf:f∈o.op.operands:=by rw[ho];simp[Op.operands,Call.operands,hq]
 have ma: ∀x∈q.args.toList,x∈o.op.operands:=by intro x hx;rw[ho];rw[Op.operands,Call.operands,hq];grind
 have sem: ∀ψ Q (A:Act) (w:World) (next:Act->World->Prop) (QQ:Exit->Act->World->Prop),aB C o D E s ψ Q A w->(∀i,s.length<=i->i<s1.length->ψ (.inl i)=none)->
   (∀ds v w' kz,out= .val ds->jJ C (nF ψ) s w kz s1 w'->Bm C kz ds v->next (A.put o.dst v) w')->(∀ch w' kz,oK ch->out= .fp->jJ C (nF ψ) s w kz s1 w'->QQ (.panic ch) A w')->o.wp C.P A w next QQ:=by
  intro ψ Q A w next QQ p room hv hp;have hfv:=p.val mf hf;generalize pZ:A.eval f=v at hfv;cases hfv with
  |func k _ _ vf vc wJ h1 h2=>
   have h3:=IN p ma has;have kH:bG C (nF ψ) (fs++as++cs) (vf.toList++q.args.toList.map A.eval++vc.toList):=ZtK (bG.append (bG.append h1 h3) h2);have:=ok.2 k wJ rfl (nF ψ) w _ (ZtJ p.eW λi ab cb h e=>p.j7 (.inl i) ab cb (hD i) h e) (λh cb e=>p.gE h cb (FP e).1)
    (λg hg=>let ⟨cb,e1,e2⟩:=p.lx g hg;⟨cb,e1,e2⟩) kH (λ_=>rfl) (λi h1 h2=>room i h1 h2)
   have ow:(vf.toList++q.args.toList.map A.eval++vc.toList).toArray=vf++q.args.map A.eval++vc:=by
    apply Array.ext';simp
   rw[ow]at this;have hex:(execOp A.eval o).run C.P w=(callFunc k (vf++q.args.map A.eval++vc)).run C.P w:=by
    simp[execOp,ho,resolve,hq,pZ,Deferred.ofValue,invoke]
   unfold Oper.wp;rw[hex];unfold zW at this;split at this
   .rename_i f' as' w' hr
    rw[hr];refine Calls.mono this λe xm he=>?_
    grind
   .rename_i v w' hr
    rw[hr];have⟨ds,e1,kz,e2,e3⟩:=this;exact hv ds v w' kz e1 e2 e3
   .exact this.elim
 refine⟨λEs=>⟨hlen,λψ Q A w next QQ p room hn=>?_⟩,λds e Es yG lP aca=>⟨mM.put pr ms e yG (by grind) hlen (λi ab h=>?_) (λi h hi=>?_) (.inr (by grind[tr])),λψ Q A w next QQ p room hn=>?_⟩⟩
 .have PD: ∀i,s.length<=i->i<s1.length->ψ (.inl i)=none:=λi h1 h2=>room (.inl i) ⟨Bj.2 h1,h2⟩
  have hk: ∀i ab cb,dx s i=some ab->ψ (.inl i)=some cb->Q (.inl i) ab:=λi ab cb h e=>p.j7 (.inl i) ab cb (hD i) h e
  refine sem ψ Q A w next QQ p PD (by grind) λch w' kz tX _ Kd=>?_
  have⟨f1,f2⟩:=frame p.eW p.gE hk hlen Kd;refine hn (yU ψ kz) (Pv s1 Q) ch w' tX f1 f2 (λh cb e=>?_) λi ab cb h e=> .inl ⟨i,rfl,h⟩
  cases h with
  |inr v=>exact .inl e
  |inl i=>
   rcases Kd.news _ _ e with e|⟨j,hj,h1,h2⟩
   .exact .inl e
   .cases hj;exact .inr ⟨Bj.2 h1,h2⟩
 .grind[dx]
 .grind
 .have PD: ∀i,s.length<=i->i<s1.length->ψ (.inl i)=none:=λi h1 h2=>room (.inl i) ⟨Bj.2 h1,h2⟩
  have hk: ∀i ab cb,dx s i=some ab->ψ (.inl i)=some cb->Q (.inl i) ab:=λi ab cb h e=>p.j7 (.inl i) ab cb (hD i) h e
  refine sem ψ Q A w next QQ p PD (λmg v w' kz h Kd hr=>?_) (by grind);rw[Es]at h;cases h;have⟨f1,f2⟩:=frame p.eW p.gE hk hlen Kd;have kN:Bm C (yU ψ kz) ds v:=by
   rcases hr with⟨d,e1,e2⟩|⟨e1,vs,e2,e3⟩
   .exact .inl ⟨d,e1,e2.mono (ψ:=kz) (ψ':=yU ψ kz) λ_ _ e=>e⟩
   .exact .inr ⟨e1,vs,e2,e3.mono (ψ:=kz) (ψ':=yU ψ kz) λ_ _ e=>e⟩
  refine hn (yU ψ kz) (Pv s1 Q) v w' ⟨f1,f2,λh cb e=>?_,λh ab cb cr hw e'=>?_,λh ab cb e' q' nw dm=>?_⟩ (λd' kK=>?_)
  .cases h with
   |inr v=>exact .inl e
   |inl i=>
    rcases Kd.news _ _ e with e|⟨j,hj,h1,h2⟩
    .exact .inl e
    .cases hj;exact .inr ⟨Bj.2 h1,h2⟩
  .cases h with
   |inl i=>exact .inl ⟨i,rfl,cr⟩
   |inr x=>
    rcases hw with hw|⟨n1,n2⟩
    .have oU:CR (E.fg o.dst e) s (.inr x) ab:=cr
     exact .inr ⟨p.j7 (.inr x) ab cb (bx _ hw) (oU.fg yG) e',λi hi=>by cases hi⟩
    grind[ej,Env.Hk]
  .cases h with
   |inr x=>exact .inr (by grind)
   |inl i=>
    rcases jI i s.length with hi|hi
    .rcases hW ds Es i with h'|h'
     .exact absurd h' nw
     .have h1:dx s i=some ab:=dm (hD i) hi
      exact .inl ⟨i,rfl,by grind[dx]⟩
    .rcases jI i s1.length with GP|GP
     .rw[PD i hi GP]at e';cases e'
     .exact .inr (by grind)
  grind[Env.kG]
theorem Zvi {f:Operand} (hq:q.callee= .value f) (ho:o.op= .call q) (bx: ∀h,W h->D h) (hD: ∀i,D (.inl i)) (hW: ∀i,W (.inl i)\/2<=md.x\/∃b∈md.bs,∀j p,E.get b= .v (.ptr (some (j,p)))->j=i)
  {c:Zf} (hc:ZT C c) (h:We C E o K md c f q.args s=some r):ca C md pr ms o D W E s K r:=by
 unfold We at h;have⟨fv,hf,h⟩:=Zw h;have⟨as,h,has⟩:=Ic h;have hW': ∀(s1:St),(2<=md.x->St.Wq s s1)->(∀b∈md.bs,∃j p,E.get b= .v (.ptr (some (j,p)))/\s1[j]? =s[j]?)->∀i,W (.inl i)\/(i<s.length->s1[i]? =s[i]?):=λs1 hb hk i=>by
  rcases hW i with h|h|⟨b,kI,c9⟩
  .exact .inl h
  .obtain⟨x,rfl⟩:=hb h
   grind
  grind
 cases fv with
 |func g fs cs=>
  simp only at h;generalize acM C.P o.type=ro at h;have⟨many,K7⟩:=ro;cases many with
  |true=>
   simp only at h;have⟨h1,h⟩:=H9 h;have h1:=Ly h1;rcases ZoQ h with⟨ds,s1,hm,h,hb⟩|⟨hx,s1,hm,rfl⟩
   .have⟨mg,h,hl,rk,hr⟩:=Iu h
    have⟨hm,hk⟩:=FN hm;have⟨e1,e2⟩:=(MF (pr:=pr) (ms:=ms) hq ho bx hD hc hf has hm (by grind)).2 ds (.qm mg) rfl rfl (λ_ _ _ h=>by cases h) (λψ v hv=>by
     rcases hv with⟨d,e,_⟩|⟨_,vs,e,e'⟩
     .rw[e]at hl;simp at hl;omega
     .exact⟨vs,e,hr C ψ _ e'⟩)
    exact .inl ⟨_,s1,h,e1,e2⟩
   .exact .inr ⟨hx,s1,rfl,(MF (pr:=pr) (ms:=ms) hq ho bx hD hc hf has (FN hm).1 (λds e=>by cases e)).1 rfl⟩
  |false=>
   simp only at h;rcases ZoQ h with⟨ds,s1,hm,h,hb⟩|⟨hx,s1,hm,rfl⟩
   .have⟨mg,h,hl,rk,hr⟩:=Iu h
    cases mg with
    |nil=>cases h
    |cons d rest=>
     cases rest with
     |cons _ _=>cases h
     |nil=>
      simp only at h;have⟨hm,hk⟩:=FN hm;have⟨e1,e2⟩:=(MF (pr:=pr) (ms:=ms) hq ho bx hD hc hf has hm (by grind)).2 ds (.v d) rfl rfl (λ_ _ _ h=>by cases h) (λψ v hv=>by
       rcases hv with⟨d0,e,yu⟩|⟨e,_⟩
       .subst e
        have:=hr C ψ [v] (.cons _ _ _ _ yu .nil);cases this with
        |cons _ _ _ _ a _=>exact a
       grind)
      exact .inl ⟨_,s1,h,e1,e2⟩
   .exact .inr ⟨hx,s1,rfl,(MF (pr:=pr) (ms:=ms) hq ho bx hD hc hf has (FN hm).1 (λds e=>by cases e)).1 rfl⟩
 |_=>cases h
end
def Qc (h:dH):Prop:=∃i,h= .inl i
def Qh (E:Env) (r:Nat) (h:dH):Prop:=∃v,h= .inr v/\(E.get r).df=some v
def pO:Md->Env->dH->Prop
 | .s,_,_=>True
 | .d .pure _,_,_=>False
 | .d (.xh r) _,E,h=>Qh E r h
 | .d (.pH r) _,E,h=>Qh E r h
 | .d (.lp a) _,E,h=>∃i p,E.get a= .v (.ptr (some (i,p)))/\h= .inl i
 | .d _ _,_,h=>Qc h
def nj:Md->Env->dH->Prop
 | .s,_,_=>True
 | .d .wr _,_,h=>Qc h
 | .d .call x,_,h=>x<2/\Qc h
 | .d (.pH r) _,E,h=>Qh E r h
 | .d (.ap bs) _,E,h=>∃i,h= .inl i/\∀b∈bs,∃j p,E.get b= .v (.ptr (some (j,p)))/\j≠i
 | .d _ _,_,_=>False
theorem Ni (md:Md) (E:Env) (h:dH) (w:nj md E h):pO md E h:=by
 cases md with
 |s=>trivial
 |d k x=>cases k<;>first|exact w|exact w.2|exact w.elim|(have⟨i,e,_⟩:=w;exact⟨i,e⟩)
variable {X:M β}
section
variable {C:bC} {o:Oper} {E:Env} {s:St} {md:Md} {pr ms:al}
theorem ZsU {a:Operand} (ho:o.op= .load t a):cls P pr ops o= .hp\/(∃b,a= .tmp b/\cls P pr ops o= .lp b)\/∃r,cls P pr ops o= .xh r:=by
 grind[cls]
theorem ZqP {a:Operand} (ho:o.op= .store t a y):cls P pr ops o= .wr\/cls P pr ops o= .ap []\/∃r,cls P pr ops o= .pH r:=by
 grind[cls]
theorem T6 {E:Env} {p:ai} {X:M β} {r:Out β×St} : ∀ {bs:al},Jj E p bs X s=some r->X s=some r/\∀b∈bs,∀i q,p=some (i,q)->∃j q',E.get b= .v (.ptr (some (j,q')))/\j≠i
 |[],h=>⟨h,λb hb=>by cases hb⟩
 |b::bs,h=>by
  unfold Jj at h;cases he:E.get b with
  |v d=>
   rw[he]at h;cases d with
   |ptr a=>
    cases a with
    |none=>cases h
    |some jq=>
     have⟨j,q'⟩:=jq;simp only at h;have⟨h1,h⟩:=me h;have⟨h,h2⟩:=T6 h;refine⟨h,λb' dR i q hp=>?_⟩;rcases eF.1 dR with rfl|dR
     .refine⟨j,q',he,?_⟩
      rw[hp]at h1;unfold apart at h1;rintro rfl;simp at h1
     grind
   |_=>cases h
  |_=>rw[he]at h;cases h
theorem ZxU {bs:al} (h:Wh C E bs as X s=some r):
  X s=some r/\∀y z i q n,as.toList.head?=some y->E.src C y= .v (.slice z (some (i,q)) n)->∀b∈bs,∃j q',E.get b= .v (.ptr (some (j,q')))/\j≠i:=by
 unfold Wh at h;cases bs with
 |nil=>grind
 |cons b r=>
  simp only at h;cases hy:as.toList with
  |nil=>rw[hy]at h;cases h
  |cons y ys=>
   rw[hy]at h;simp only at h;have⟨d,hd,h⟩:=Zw h;cases d with
   |slice z p n=>
    have⟨h1,h2⟩:=T6 h;grind
   |_=>cases h
theorem Zyo {bs:al} {a:Operand} (h:stK C E bs a X s=some r):
  X s=some r/\∀i q,E.src C a= .v (.ptr (some (i,q)))->∀b∈bs,∃j q',E.get b= .v (.ptr (some (j,q')))/\j≠i:=by
 unfold stK at h;cases bs with
 |nil=>grind
 |cons b r=>
  simp only at h;cases he:E.src C a with
  |v d=>
   rw[he]at h;cases d with
   |ptr p=>
    have⟨h1,h2⟩:=T6 h;grind
   |_=>cases h
  |_=>rw[he]at h;cases h
theorem VE (hC:oI C) {c:Zf} (hc:ZT C c) (ly:md= .s\/∃x k m,md= .d (vM pr ops k m (cls C.P pr ops o)) x) (h:fG C pr ms md c o E K s=some r):
  ca C md pr ms o (pO md E) (nj md E) E s K r:=by
 have bx: ∀h,nj md E h->pO md E h:=Ni md E;unfold fG at h;cases ho:o.op with
 |move y=>rw[ho]at h;exact ZoT (.inl ho) bx h
 |assign y=>rw[ho]at h;exact ZoT (.inr ho) bx h
 |pick b y z=>rw[ho]at h;exact ZvI ho bx h
 |alloc t=>rw[ho]at h;exact Zt7 ho bx h
 |box t y=>rw[ho]at h;exact Zwi ho bx h
 |build t ps=>rw[ho]at h;exact Zub ho bx h
 |buildSlice t n ps=>rw[ho]at h;exact Zn2 ho bx h
 |load t a=>
  rw[ho]at h;refine Zvv ho bx ?_ ?_ h
  .intro r v hm hv
   rcases ly with rfl|⟨x,k,m,rfl⟩
   .trivial
   .rcases ZsU (P:=C.P) (pr:=pr) (ops:=ops) ho with e|⟨b,_,e⟩|⟨q,e⟩<;>rw[e]at hm⊢
    .cases hm
    .cases hm
    .have:q=r:=dL hm
     subst this;exact⟨v,rfl,hv⟩
  .intro hm i p0 hx
   rcases ly with rfl|⟨x,k,m,rfl⟩
   .trivial
   .rcases ZsU (P:=C.P) (pr:=pr) (ops:=ops) ho with e|⟨b,hb,e⟩|⟨q,e⟩<;>rw[e]at hm⊢
    .exact⟨i,rfl⟩
    .rw[hb]at hx
     have hx:E.get b= .v (.ptr (some (i,p0))):=by
      grind[Env.src]
     exact⟨i,p0,hx,rfl⟩
    .cases hm
 |store t a y=>
  rw[ho]at h;simp only at h;have⟨hd,h⟩:=Zs h;have⟨h,cg⟩:=Zyo h;refine ZtZ ho (by simpa using hd) bx ?_ ?_ h
  .intro r v hm hv
   rcases ly with rfl|⟨x,k,m,rfl⟩
   .trivial
   .rcases ZqP (P:=C.P) (pr:=pr) (ops:=ops) ho with e|e|⟨q,e⟩<;>rw[e]at hm⊢
    .cases hm
    .cases hm
    .have:q=r:=dL hm
     subst this;exact⟨v,rfl,hv⟩
  .intro hm i p hx
   rcases ly with rfl|⟨x,k,m,rfl⟩
   .trivial
   .rcases ZqP (P:=C.P) (pr:=pr) (ops:=ops) ho with e|e|⟨q,e⟩<;>rw[e]at hm cg⊢
    .exact⟨i,rfl⟩
    .exact⟨i,rfl,cg i p hx⟩
    .cases hm
 |nilCheck y=>rw[ho]at h;exact Zqr ho bx h
 |binOp op t y z u=>rw[ho]at h;exact ZwW hC ho bx h
 |unOp op t y=>rw[ho]at h;exact Zyh ho bx h
 |convert t u y=>
  rw[ho]at h;refine ZrQ ho bx (λi=>?_) h;rcases ly with rfl|⟨x,k,m,rfl⟩
  .trivial
  .have:cls C.P pr ops o= .hp:=by unfold cls;rw[ho]
   rw[this];exact⟨i,rfl⟩
 |makeInterface t y=>rw[ho]at h;exact Zt4 ho bx h
 |makeFunc f x y=>rw[ho]at h;exact ZvN ho bx h
 |makeSlice t x y=>rw[ho]at h;exact Zps ho bx h
 |slice t y lo hi mx=>
  rw[ho]at h;cases mx with
  |some _=>cases h
  |none=>
   refine Zul ho bx (λ⟨m,e,ht⟩ i=>?_) h;rcases ly with rfl|⟨x,k,m,rfl⟩
   .trivial
   .have:cls C.P pr ops o= .hp:=by grind[cls]
    rw[this];exact⟨i,rfl⟩
 |fieldAddr t y f=>rw[ho]at h;exact ZoS ho bx h
 |field t y f=>rw[ho]at h;exact ZtY ho bx h
 |indexAddr t y i=>rw[ho]at h;exact Zoj ho bx h
 |index t y i=>rw[ho]at h;exact Zt6 ho bx h
 |range t y=>rw[ho]at h;exact Zuf ho bx h
 |next it b=>
  rw[ho]at h;cases it with
  |tmp t=>
   cases b with
   |true=>
    refine Zu6 ho bx (λv hv=>?_) h;rcases ly with rfl|⟨x,k,m,rfl⟩
    .trivial
    .have:cls C.P pr ops o= .pH t:=by unfold cls;rw[ho]
     rw[this];exact⟨v,rfl,hv⟩
   |false=>cases h
  |_=>cases b<;>cases h
 |typeAssert y t u ok=>
  rw[ho]at h;cases ok with
  |true=>cases h
  |false=>
   refine ZtB hC ho bx (λi=>?_) h;rcases ly with rfl|⟨x,k,m,rfl⟩
   .trivial
   .have:cls C.P pr ops o= .wr:=by unfold cls;rw[ho]
    rw[this];exact⟨i,rfl⟩
 |extract t i=>
  rw[ho]at h;cases t with
  |tmp t=>exact ZrZ ho bx h
  |_=>cases h
 |panic y=>
  rw[ho]at h;refine Zt9 ho (λi=>?_) h;rcases ly with rfl|⟨x,k,m,rfl⟩
  .trivial
  .have:cls C.P pr ops o= .wr:=by unfold cls;rw[ho]
   rw[this];exact⟨i,rfl⟩
 |call q=>
  rw[ho]at h;simp only at h;have wr: ∀b,q.callee= .builtin b->b≠ .len->b≠ .min->b≠ .max->b≠ .append->∀i,nj md E (.inl i):=by
   intro b hq h1 h2 h3 h4 i;rcases ly with rfl|⟨x,k,m,rfl⟩
   .trivial
   .have:cls C.P pr ops o= .wr:=by
     grind[cls]
    rw[this];exact⟨i,rfl⟩
  cases hq:q.callee with
  |value f=>
   rw[hq]at h;have cL:cls C.P pr ops o= .ap []\/cls C.P pr ops o= .call:=by
    grind[cls]
   refine Zvi hq ho bx (λi=>?_) (λi=>?_) hc h
   .rcases ly with rfl|⟨x,k,m,rfl⟩
    .trivial
    .rcases cL with this|this<;>rw[this]<;>exact⟨i,rfl⟩
   .rcases ly with rfl|⟨x,k,m,rfl⟩
    .exact .inl trivial
    .rcases cL with this|this<;>rw[this]
     .by_cases hb: ∀b∈(Md.d (vM pr ops k m (.ap [])) x).bs,∃j p,E.get b= .v (.ptr (some (j,p)))/\j≠i
      .exact .inl ⟨i,rfl,hb⟩
      grind
     .rcases jI x 2 with hx|hx
      .exact .inl ⟨hx,i,rfl⟩
      .exact .inr (.inl hx)
  |invoke f m=>rw[hq]at h;cases h
  |builtin b=>
   rw[hq]at h;cases b with
   |len=>exact Zw9 hq rfl ho bx h
   |append=>
    have⟨h,yl⟩:=ZxU h;have hc:cls C.P pr ops o= .ap []:=by grind[cls]
    refine Zsc hq ho bx (λi=>?_) (λy z i p n hy he=>?_) h
    .rcases ly with rfl|⟨x,k,m,rfl⟩
     .trivial
     .rw[hc];exact⟨i,rfl⟩
    .rcases ly with rfl|⟨x,k,m,rfl⟩
     .trivial
     .rw[hc]at yl⊢
      exact⟨i,rfl,yl y z i p n hy he⟩
   |copy=>exact Zu4 hq ho bx (by grind) h
   |min=>exact Zq3 (mx:=false) hq rfl ho bx h
   |max=>exact Zq3 (mx:=true) hq rfl ho bx h
   |clear=>exact Zt2 hq ho bx (by grind) h
   |_=>cases h
 |_=>rw[ho]at h;cases h
end
end Go.Gv
