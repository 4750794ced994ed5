/- What an operation does, said of the machine and of the model: the frame of the proofs for the single operations. -/
import Derived.Test.YtegglibipjjblaaGreatDoorGvRel
import Derived.Laws.Strings
import Derived.Laws.Concat
import Derived.DeepKeys
import Derived.Laws.Slices
import Derived.Laws.BytesArg
import Derived.Laws.Tables
import Derived.Laws.MakeOwn
import Derived.Laws.Append
set_option linter.all false
namespace Go.Gv
theorem I4 (k:Nat) (e:fg) (l:List (Nat×fg)) (t:Nat):look ((k,e)::l) t=if k=t then e else look l t:=by
 simp[look]
theorem Env.tT (E:Env) (t:Nat) (e:fg) (u:Nat):(E.put t e).get u=if t=u then e else E.get u:=I4 t e E.l u
theorem Env.aic (n:Nat) (t:Nat) (e:fg) (l:List (Nat×fg)) (u:Nat):(⟨n,(t,e)::l⟩:Env).get u=if t=u then e else look l u:=I4 t e l u
@[simp] theorem Env.aef (E : Env) (t : Nat) (e : fg) : (E.put t e).bS = E.bS := rfl
@[simp] theorem Env.HM (E : Env) (t : Option Nat) (e : fg) : (E.fD t e).bS = E.bS := by cases t <;> rfl
theorem Env.lH (E:Env) (t:Option Nat) (e:fg) (u:Nat):(E.fD t e).get u=if t=some u then e else E.get u:=by
 cases t with
 |none=>simp[Env.fD]
 |some t=>simp[Env.fD,Env.tT,gf]
theorem Jl: ∀(l:al) (t:Nat),has l t=true↔t∈l
 |[],t=>by simp[has]
 |k::r,t=>by
  rw[has,mB,ep,Jl r t];constructor
  .rintro(h|h)
   .simp_all
   .exact .inr h
  .rintro(h|h)
   .simp_all
   .exact .inr h
theorem Az (E:Env) (ts:al) (t:Nat):(E.del ts).get t=if has ts t then .u else E.get t:=by
 have key: ∀l:List (Nat×fg),look (GR l ts) t=if has ts t then .u else look l t:=by
  intro l;induction l with
  |nil=>simp[GR,look]
  |cons x r ih=>
   have⟨k,e⟩:=x;rw[GR];cases hk:has ts k
   .simp only[af,I4,ih];by_cases h:k=t
    .subst h;simp[hk]
    .simp[h]
   .rw[ae,ih,I4];by_cases h:k=t
    .subst h;simp[hk]
    .simp[h]
 exact key E.l
@[simp] theorem aml (E : Env) (ts : al) : (E.del ts).bS = E.bS := rfl
def eF (E:Env) (s:St):dN->Prop
 | .inl i=>i<s.length
 | .inr v=>v<E.bS
def yj (E:Env) (s:St) (E':Env) (s':St) (h:dN):Prop:=¬eF E s h/\eF E' s' h
variable {ab:AB} {ad base:Addr} {ps:Array (Nat×Operand)} {as cap first:Array Operand} {ts:Array TypeId} {c vs zv:Array Value} {op:BinOp} {f mx:Bool} {cb:CB} {q:Call} {Q Q' Q1:Kn} {ops:List Oper} {md:Md} {g i j lim m n o' off p z0:Nat} {y:Operand} {hi lo:Option Operand} {P:Program} {ψ ψ':Ps} {s s' s1:St} {α Y:Type} {d ed td:TypeDesc} {e t ty u xt yt:TypeId} {v:Value} {w w':World} {cs cs' ds fs xs ys z:ah} {ms pr:al} {C:bE} {h:dN}
theorem Eb (h:dA s i=some ab):i<s.length:=by
 grind[dA]
variable {E:Env}
theorem CR.sr (hE:jV E) (c:CR E s h ab):eF E s h:=by
 cases h with
 |inl i=>exact Eb c
 |inr v=>
  rcases c with⟨t,n,cs,e,_⟩|⟨t,l,p,e,_⟩
  .exact hE.lt t v (by rw[e];rfl)
  .exact hE.lt t v (by rw[e];rfl)
theorem MC {x:St} (h:i<s.length):dA (s++x) i=dA s i:=by
 grind[dA]
theorem Rx (s:St) (b:bQ):dA (s++[some b]) s.length=some (.cells b.gk b.cells):=by
 simp[dA]
def Spec (pr:al) (o:Oper):Prop:=
 match o.op with
 | .store .. | .next .. | .range .. =>True
 | .alloc _| .box _ _=>∃d,o.dst=some d/\has pr d=true
 |_=>False
def uK (o:Oper):Prop:=
 match o.op with
 | .alloc _| .box .. | .buildSlice .. | .makeSlice .. | .convert .. =>True
 | .call q=>match q.callee with
  | .value _| .builtin .append=>True
  |_=>False
 |_=>False
structure nP (W:dN->Prop) (pr ms:List Nat) (o:Oper) (E:Env) (s:St) (E':Env) (s':St):Prop where
 len:s.length<=s'.length
 bS:E.bS<=E'.bS
 iw:jV E->jV E'
 other: ∀t,o.dst≠some t->has ms t=false->E'.get t=E.get t
 val: ∀t d,o.dst≠some t->E'.get t= .v d->E.get t= .v d
 br: ∀t,o.dst≠some t->∀(C:bE) ψ x,gh C ψ (E.get t) x->gh C ψ (E'.get t) x
 back: ∀h ab,CR E' s' h ab->W h\/yj E s E' s' h\/CR E s h ab
 yc: ∀t v n cs,E'.get t= .loc v n cs->(∃nY,E.get t= .loc v n nY)\/(E.bS<=v/\o.dst=some t)
 zW: ∀t v l p,E'.get t= .it v l p->(∃p0,E.get t= .it v l p0)\/(E.bS<=v/\o.dst=some t)
 aer: ∀i,¬W (.inl i)->i<s.length->s'[i]? =s[i]?
 plain:(∃e:fg,e.dp=none/\E'=E.fD o.dst e)\/Spec pr o
 grow:s'.length=s.length\/uK o
structure aB (C:bE) (o:Oper) (D:dN->Prop) (E:Env) (s:St) (ψ:Ps) (Q:Kn) (a:Act) (w:World):Prop where
 fp:fI C ψ Q w
 gU:tq ψ w
 mj:Glob C ψ
 iw:jV E
 kF: ∀h ab cb,D h->CR E s h ab->ψ h=some cb->Q h ab
 args: ∀t,.tmp t∈o.op.operands->gh C ψ (E.get t) (a.tmps.getD t undef)
def Mx (E:Env) (s:St) (E':Env) (s':St) (ψ:Ps):Prop:=∀h,yj E s E' s' h->ψ h=none
structure Mu (C:bE) (D W:dN->Prop) (E:Env) (s:St) (E':Env) (s':St) (ψ:Ps) (Q:Kn) (w:World) (ψ':Ps) (Q':Kn) (w':World):Prop where
 fp:fI C ψ' Q' w'
 ext:Ext ψ Q w ψ' Q' w'
 news: ∀h cb,ψ' h=some cb->ψ h=some cb\/yj E s E' s' h
 p1: ∀h ab cb,CR E' s' h ab->(W h\/yj E s E' s' h)->ψ' h=some cb->Q' h ab
 p2: ∀h ab cb,ψ h=some cb->Q h ab->¬W h->(D h->eF E s h->CR E s h ab)->Q' h ab
def DJ (C:bE) (o:Oper) (D W:dN->Prop) (E:Env) (s:St) (E':Env) (s':St):Prop:=
 ∀(ψ:Ps) (Q:Kn) (a:Act) (w:World) (next:Act->World->Prop) (QQ:Exit->Act->World->Prop),aB C o D E s ψ Q a w->Mx E s E' s' ψ->
  (∀ψ' Q' v w',Mu C D W E s E' s' ψ Q w ψ' Q' w'->(∀d,o.dst=some d->gh C ψ' (E'.get d) v)->next (a.put o.dst v) w')->o.wp C.P a w next QQ
def qf (ch:List PanicEntry):Prop:=∃t v,ch=[{ v:= .iface t v,recovered:=false }]
def yk (C:bE) (o:Oper) (D:dN->Prop) (E:Env) (s s':St):Prop:=
 s.length<=s'.length/\
 ∀(ψ:Ps) (Q:Kn) (a:Act) (w:World) (next:Act->World->Prop) (QQ:Exit->Act->World->Prop),aB C o D E s ψ Q a w->Mx E s E s' ψ->
  (∀ψ' Q' ch w',qf ch->fI C ψ' Q' w'->Ext ψ Q w ψ' Q' w'->(∀h cb,ψ' h=some cb->ψ h=some cb\/yj E s E s' h)->
   (∀i ab cb,dA s' i=some ab->ψ' (.inl i)=some cb->Q' (.inl i) ab)->QQ (.panic ch) a w')->o.wp C.P a w next QQ
def cg (C:bE) (md:Md) (pr ms:al) (o:Oper) (D W:dN->Prop) (E:Env) (s:St) (K:Env->M Y) (r:Out Y×St):Prop:=
 (∃E' s',K E' s'=some r/\nP W pr ms o E s E' s'/\DJ C o D W E s E' s')\/(md.x=0/\∃s',r=(.fH,s')/\yk C o D E s s')
theorem ZrF {d:DV} (h:Dk v=some d):VR C ψ d v:=by
 unfold Dk at h;split at h<;>first|(cases h;done)|(injection h with h;subst h)
 .exact .bool _
 .exact .int _ _
 .exact .str _
 .exact .LF
 .exact .uw _
 .exact .nilFunc
 .exact .nilIface
theorem Zyr {d:DV} (h:Dk v=some d):one d=true:=by
 unfold Dk at h;split at h<;>first|(cases h;done)|(injection h with h;subst h;rfl)
theorem F8 {C:bE} {ψ:Ps} : ∀ {vs:List Value} {ds:ah},Jt vs=some ds->bJ C ψ ds vs/\ds.all one=true
 |[],ds,h=>by simp only[Jt,gf]at h;subst h;exact⟨.nil,rfl⟩
 |v::vs,ds,h=>by
  simp only[Jt]at h;split at h
  .rename_i d nv h1 h2
   injection h with h;subst h
   have⟨a,b⟩:=F8 (C:=C) (ψ:=ψ) h2;exact⟨.cons _ _ _ _ (ZrF h1) a,by simp[Zyr h1,b]⟩
  .cases h
section
variable {C:bE} {o:Oper} {D:dN->Prop} {E:Env} {s:St} {ψ:Ps} {Q:Kn} {a:Act} {w:World}
theorem aB.src (p:aB C o D E s ψ Q a w) {x:Operand} (hx:x∈o.op.operands):gh C ψ (E.src C x) (a.eval x):=by
 cases x with
 |tmp t=>
  have h:=p.args t hx;rw[Env.src,Act.eval];cases he:E.get t with
  |loc v n cs=>
   rw[he]at h;have⟨cb,h1,h2,h3⟩:=h;exact⟨cb,h1,h2,h3⟩
  |it v l q=>exact trivial
  |u=>exact trivial
  |un=>rw[he]at h;exact h
  |v d=>rw[he]at h;exact h
  |rN ds=>rw[he]at h;exact h
  |pl r v n=>rw[he]at h;exact h
 |const v=>
  rw[Env.src,Act.eval];split
  .exact ZrF (by assumption)
  .exact trivial
 |global g=>
  rw[Env.src,Act.eval];cases hg:C.CA g
  .exact trivial
  .have⟨cb,h1,h2,h3⟩:=p.mj g hg;have:=VR.ptr (C:=C) (ψ:=ψ) (C.gl g) 0 cb h1;rw[h2,h3]at this;exact this
 |func f=>
  rw[Env.src,Act.eval];cases hg:C.cov f
  .exact trivial
  .exact VR.func f [] [] #[] #[] hg .nil .nil
theorem aB.val (p:aB C o D E s ψ Q a w) {x:Operand} (hx:x∈o.op.operands) {d:DV} (h:E.src C x= .v d):VR C ψ d (a.eval x):=by
 have:=p.src hx;rw[h]at this;exact this
theorem Env.LM (C:bE) (E:Env) (x:Operand):(E.src C x).dp=none:=by
 cases x with
 |tmp t=>rw[Env.src];cases E.get t<;>rfl
 |const v=>rw[Env.src];cases Dk v<;>rfl
 |global g=>rw[Env.src];cases C.CA g<;>rfl
 |func f=>rw[Env.src];cases C.cov f<;>rfl
theorem Env.Fk (C:bE) (hE:jV E) {x:Operand} {r v:Nat} (h:E.src C x= .pl r v n):v<E.bS:=by
 cases x with
 |tmp t=>
  simp only[Env.src]at h;cases he:E.get t with
  |loc v' m cs=>
   rw[he]at h;simp only[fg.pl.injEq]at h;obtain⟨_,rfl,_⟩:=h;exact hE.lt t v' (by rw[he];rfl)
  |pl r' v' n'=>
   rw[he]at h;simp only[fg.pl.injEq]at h;obtain⟨_,rfl,_⟩:=h;exact hE.pl t _ _ _ he
  |_=>rw[he]at h;cases h
 |const v=>simp only[Env.src]at h;cases hv:Dk v<;>rw[hv]at h<;>cases h
 |global g=>simp only[Env.src]at h;cases hv:C.CA g<;>rw[hv]at h<;>cases h
 |func f=>simp only[Env.src]at h;cases hv:C.cov f<;>rw[hv]at h<;>cases h
end
theorem jV.fD {E:Env} (hE:jV E) {t:Option Nat} {e:fg} (hv:e.dp=none) (hp: ∀r v n,e= .pl r v n->v<E.bS):jV (E.fD t e):=by
 constructor
 .intro u v h
  rw[Env.lH]at h;rw[Env.HM];split at h
  .rw[hv]at h;cases h
  .exact hE.lt u v h
 .intro u r v n h
  rw[Env.lH]at h;rw[Env.HM];split at h
  .exact hp r v n h
  .exact hE.pl u r v n h
 .intro u v n cs h
  rw[Env.lH]at h;split at h
  .rw[h]at hv;cases hv
  .exact hE.len u v n cs h
 .intro u u' v h h'
  rw[Env.lH]at h h';split at h
  .rw[hv]at h;cases h
  .split at h'
   .rw[hv]at h';cases h'
   .exact hE.uniq u u' v h h'
theorem CR.fD {t:Option Nat} {e:fg} (hv:e.dp=none) (c:CR (E.fD t e) s h ab):CR E s h ab:=by
 cases h with
 |inl i=>exact c
 |inr v=>
  rcases c with⟨u,n,cs,h,fL⟩|⟨u,l,p,h,fL⟩
  .rw[Env.lH]at h
   split at h
   .rw[h]at hv;cases hv
   .exact .inl ⟨u,n,cs,h,fL⟩
  .rw[Env.lH]at h
   split at h
   .rw[h]at hv;cases hv
   .exact .inr ⟨u,l,p,h,fL⟩
section
variable {C:bE} {o:Oper} {D W:dN->Prop} {E:Env} {s:St}
theorem nP.put (pr ms:al) (e:fg) (hv:e.dp=none) (hp:jV E->∀r v n,e= .pl r v n->v<E.bS) (hl:s.length<=s'.length)
  (hs: ∀i ab,dA s' i=some ab->W (.inl i)\/s.length<=i\/dA s i=some ab) (hf: ∀i,¬W (.inl i)->i<s.length->s'[i]? =s[i]?) (hg:s'.length=s.length\/uK o):nP W pr ms o E s (E.fD o.dst e) s' where
 len:=hl
 bS:=Do
 iw:=λhE=>hE.fD hv (hp hE)
 other:=λt h _=>by rw[Env.lH,aY h]
 val:=λt d h e=>by rw[Env.lH,aY h]at e;exact e
 br:=λt h C ψ x r=>by rw[Env.lH,aY h];exact r
 back:=λh ab c=>by
  cases h with
  |inl i=>
   have c':dA s' i=some ab:=c;rcases hs i ab c' with h|h|h
   .exact .inl h
   .exact .inr (.inl ⟨BH.2 h,Eb c'⟩)
   .exact .inr (.inr h)
  |inr v=>
   have c':CR (E.fD o.dst e) s (.inr v) ab:=c;exact .inr (.inr (c'.fD hv))
 yc:=λt v n cs h=>by
  rw[Env.lH]at h;split at h
  .rw[h]at hv;cases hv
  grind
 zW:=λt v l p h=>by
  rw[Env.lH]at h;split at h
  .rw[h]at hv;cases hv
  grind
 aer:=hf
 plain:= .inl ⟨e,hv,rfl⟩
 grow:=hg
theorem nP.abi (pr ms:al) (e:fg) (hv:e.dp=none) (hp:jV E->∀r v n,e= .pl r v n->v<E.bS):nP W pr ms o E s (E.fD o.dst e) s:=
 nP.put pr ms e hv hp (aJ _) (λ_ _ h=> .inr (.inr h)) (λ_ _ _=>rfl) (.inl rfl)
theorem DJ.pure (bw: ∀h,W h->D h) (e:fg) (hv:e.dp=none)
  (ee: ∀ψ Q a w,aB C o D E s ψ Q a w->∃v w',(execOp a.eval o).run C.P w= .ok (.value v) w'/\iD w w'/\gh C ψ e v):DJ C o D W E s (E.fD o.dst e) s:=by
 intro ψ Q a w next QQ p _ hn;have⟨v,w',hr,hm,fm⟩:=ee ψ Q a w p;unfold Oper.wp;rw[hr];refine hn ψ Q v w' ⟨p.fp.more p.gU hm,Ext.more hm,λh cb e=> .inl e,λh ab cb c hw e=>?_,λh ab cb e q _ _=>q⟩ (λd hd=>?_)
 .rcases hw with hw|⟨h1,h2⟩
  .exact p.kF h ab cb (bw h hw) (c.fD hv) e
  .exact absurd (by cases h<;>simpa [eF]using h2) h1
 grind[Env.lH]
theorem cg.pure {Y:Type} {md:Md} {pr ms:al} (bw: ∀h,W h->D h) {K:Env->M Y} {r:Out Y×St} (e:fg) (hv:e.dp=none) (hp:jV E->∀r v n,e= .pl r v n->v<E.bS)
  (hk:K (E.fD o.dst e) s=some r)
  (ee: ∀ψ Q a w,aB C o D E s ψ Q a w->∃v w',(execOp a.eval o).run C.P w= .ok (.value v) w'/\iD w w'/\gh C ψ e v):cg C md pr ms o D W E s K r:=
 .inl ⟨_,_,hk,nP.abi pr ms e hv hp,DJ.pure bw e hv ee⟩
theorem cg.val (bw: ∀h,W h->D h) {K:Env->M Y} {r:Out Y×St} (d:DV)
  (hk:cI E o K d s=some r)
  (ee: ∀ψ Q a w,aB C o D E s ψ Q a w->∃v w',(execOp a.eval o).run C.P w= .ok (.value v) w'/\iD w w'/\VR C ψ d v):cg C md pr ms o D W E s K r:=
 cg.pure bw (.v d) rfl (λ_ _ _ _ h=>by cases h) hk ee
theorem cg.Lt (cC:uK o) (bw: ∀h,W h->D h) {K:Env->M Y} {r:Out Y×St} (d:DV) (cells:ah)
  (hk:cI E o K d (s++[some ⟨false,cells⟩])=some r)
  (ee: ∀ψ Q a w,aB C o D E s ψ Q a w->∃v w' cb,(execOp a.eval o).run C.P w= .ok (.value v) w'/\iD w w'/\w.heap.size<=cb.b/\cb.b<w'.heap.size/\
   Holds C ψ w' cb (.cells false cells)/\(∀ψ',(∀h c,ψ h=some c->ψ' h=some c)->ψ' (.inl s.length)=some cb->VR C ψ' d v)):cg C md pr ms o D W E s K r:=by
 refine .inl ⟨_,_,hk,nP.put pr ms (.v d) rfl (λ_ _ _ _ h=>by cases h) Do (λi ab h=>?_) Fd (.inr cC),?_⟩
 .rcases jw i s.length with hi|hi
  .rw[MC hi]at h;exact .inr (.inr h)
  .exact .inr (.inl hi)
 .intro ψ Q a w next QQ p room hn
  have⟨v,w',cb,hr,hm,h1,h2,hh,fm⟩:=ee ψ Q a w p;have iY:yj E s (E.fD o.dst (.v d)) (s++[some ⟨false,cells⟩]) (.inl s.length):=⟨by simp[eF],by simp[eF]⟩;have hf:=room _ iY;unfold Oper.wp;rw[hr];refine hn _ _ v w' ⟨fI.new (cb:=cb) (ab:= .cells false cells) p.fp p.gU hm hf h1 (hh.same (λ_ _ e=>xq hf _ _ e) rfl),Ext.new hm hf h1 h2,λh c e=>?_,λh ab c cr hw e=>?_,λh ab c e q _ _=>?_⟩ (λd' hd=>?_)
  .by_cases eh:h= .inl s.length
   .grind
   .rw[qm _ _ eh]at e;exact .inl e
  .by_cases eh:h= .inl s.length
   .subst eh
    have qu:dA (s++[some ⟨false,cells⟩]) s.length=some ab:=cr;rw[Rx]at qu;cases qu;exact .inl ⟨rfl,rfl⟩
   .refine .inr ⟨eh,?_⟩
    rw[qm _ _ eh]at e;rcases hw with hw|⟨n1,n2⟩
    .refine p.kF h ab c (bw h hw) ?_ e
     cases h with
     |inl i=>
      have qu:dA (s++[some ⟨false,cells⟩]) i=some ab:=cr;have:=Eb qu;simp only[ba,iS]at this;rwa [MC (by have:i≠s.length:=λe=>eh (by rw[e]);omega)]at qu
     |inr x=>
      have qu:CR (E.fD o.dst (.v d)) s (.inr x) ab:=cr;exact qu.fD rfl
    .cases h with
     |inl i=>
      simp only[eF,ba,iS]at n1 n2;grind
     |inr x=>simp only[eF,Env.HM]at n1 n2;exact absurd n2 n1
  .refine .inr ⟨λeh=>?_,q⟩
   grind
  .rw[Env.lH,bx hd]
   exact fm _ (xq hf) (rY _ _ _)
end
variable {Y:Type}
variable {r:Out Y×St}
theorem Zy {x:Operand} {K:DV->M Y} (h:fO C E x K s=some r): ∃d,E.src C x= .v d/\K d s=some r:=by
 unfold fO at h;cases he:E.src C x<;>rw[he]at h<;>first|exact⟨_,rfl,h⟩|cases h
theorem Gh {x:Operand} {K:Int->M Y} (h:De C E x K s=some r): ∃k n,E.src C x= .v (.int k n)/\K n s=some r:=by
 have⟨d,h1,h2⟩:=Zy h;split at h2
 .grind
 .cases h2
theorem UA {x:Operand} {K:Bool->M Y} (h:XB C E x K s=some r): ∃b,E.src C x= .v (.bool b)/\K b s=some r:=by
 have⟨d,h1,h2⟩:=Zy h;split at h2
 .exact⟨_,h1,h2⟩
 .cases h2
theorem WR {a:ai} {K:Nat->Nat->M Y} (h:bK a K s=some r): ∃i o,a=some (i,o)/\K i o s=some r:=by
 unfold bK at h;split at h
 .grind
 .cases h
theorem IA {x:Operand} {KL:Nat->Nat->Nat->M Y} {KH:Nat->Nat->M Y} (h:Ek C E x KL KH s=some r):
  (∃t v o,E.src C x= .pl t v o/\KL t v o s=some r)\/(∃i o,E.src C x= .v (.ptr (some (i,o)))/\KH i o s=some r):=by
 unfold Ek at h;cases he:E.src C x with
 |pl t v o=>rw[he]at h;grind
 |v d=>
  rw[he]at h;cases d with
  |ptr a=>
   obtain⟨i,o,rfl,h⟩:=WR h;grind
  |_=>cases h
 |_=>rw[he]at h;cases h
theorem nn {b:Bool} {K:M Y} (h:aA b K s=some r):b=true/\K s=some r:=by
 cases b
 .cases h
 .exact⟨rfl,h⟩
theorem Zq {b:Bool} {x:M Y} (h:(bif b then x else fail) s=some r):b=true/\x s=some r:=by
 cases b
 .cases h
 .exact⟨rfl,h⟩
theorem IC {b:Bool} {x:M Y} (h:(bif b then fail else x) s=some r):b=false/\x s=some r:=by
 cases b
 .exact⟨rfl,h⟩
 .cases h
theorem qX {K:M Y} (h:sZ P t K s=some r): ∃d,P.underlying t=some d/\K s=some r:=by
 unfold sZ at h;cases he:P.underlying t<;>rw[he]at h<;>first|exact⟨_,rfl,h⟩|cases h
theorem NT {K:DV->M Y} (h:eW cs i K s=some r): ∃d,cs[i]? =some d/\K d s=some r:=by
 unfold eW at h;cases he:cs[i]? <;>rw[he]at h<;>first|exact⟨_,rfl,h⟩|cases h
theorem VM {K:M Y} (h:bC cs n K s=some r):cs.length=n/\K s=some r:=by
 unfold bC at h;have⟨h1,h2⟩:=Zq h;simp_all
theorem ZnI {t v:Nat} {K:Nat->ah->M Y} (h:Oo E t v K s=some r): ∃n cs,E.get t= .loc v n cs/\K n cs s=some r:=by
 unfold Oo at h;cases he:E.get t with
 |loc v' n cs=>
  rw[he]at h;have⟨h1,h2⟩:=Zq h;have:=dQ h1;grind
 |_=>rw[he]at h;cases h
theorem Jn {k k':IntKind} (h:wL k k'=true):k=k':=by cases k<;>cases k'<;>first|rfl|(simp[wL]at h)
theorem N5 {x:B} {d:DV} {K:DV->M Y} (h:d1 x d K s=some r):
  ∃d',K d' s=some r/\(∀(C:bE) ψ v,VR C ψ d v->VR C ψ d' v)/\(one d=true->one d'=true):=by
 unfold d1 at h;split at h
 .unfold uZ at h;split at h
  .grind
  .cases h
 .unfold db at h;split at h
  .have⟨h1,h2⟩:=Zq h
   have:=Jn h1;subst this;grind
  .cases h
 .unfold Cm at h;split at h
  .grind
  .cases h
 .unfold Cl at h;split at h
  .grind
  .cases h
 .unfold dB at h;split at h
  .rename_i z a n
   have⟨h1,h2⟩:=Zq h;refine⟨_,h2,λC ψ v hv=>?_,λ_=>rfl⟩;simp only[mB]at h1;rcases h1 with h1|h1
   .have:=dQ h1;subst this;exact hv
   .cases a
    .cases hv;exact .uw _
    .cases h1
  .cases h
 .unfold Wz at h;split at h
  .grind
  .cases h
 .grind
 .cases h
theorem IP: ∀ {l:List B} {cs:ah} {K:ah->M Y} {s:St} {r:Out Y×St},pI l cs K s=some r->
  ∃ds,K ds s=some r/\ds.length=cs.length/\(∀(C:bE) ψ vs,bJ C ψ cs vs->bJ C ψ ds vs)/\(cs.all one=true->ds.all one=true)
 |[],cs,K,s,r,h=>by
  simp only[pI]at h;cases cs with
  |nil=>exact⟨[],h,rfl,λ_ _ _ h=>h,λh=>h⟩
  |cons _ _=>cases h
 |x::l,cs,K,s,r,h=>by
  have gen: ∀ {x:B},(lF cs λd rest=>d1 x d λd'=>pI l rest λds=>K (d'::ds)) s=some r->
    ∃ds,K ds s=some r/\ds.length=cs.length/\(∀(C:bE) ψ vs,bJ C ψ cs vs->bJ C ψ ds vs)/\(cs.all one=true->ds.all one=true):=by
   intro x h;cases cs with
   |nil=>cases h
   |cons d rest=>
    simp only[lF]at h;have⟨d',h,hd,h1⟩:=N5 h;have⟨ds,h,hl,hr,h2⟩:=IP h;refine⟨_,h,by simp[hl],λC ψ vs hv=>?_,λho=>?_⟩
    .cases hv with
     |cons _ v _ vs a b=>exact .cons _ _ _ _ (hd C ψ v a) (hr C ψ vs b)
    grind
  have fy: ∀ {n:Nat} ,(Wy n cs λxs rest=>pI l rest λds=>K (xs++ds)) s=some r->
    ∃ds,K ds s=some r/\ds.length=cs.length/\(∀(C:bE) ψ vs,bJ C ψ cs vs->bJ C ψ ds vs)/\(cs.all one=true->ds.all one=true):=by
   intro n h;unfold Wy at h;have⟨h1,h⟩:=Zq h;have⟨ds,h,hl,hr,h2⟩:=IP h;refine⟨_,h,by simp[hl];omega,λC ψ vs hv=>?_,λho=>?_⟩
   .have e:vs=vs.take n++vs.drop n:=Do
    rw[e];exact(hv.take n).append (hr C ψ _ (hv.drop n))
   grind
  cases x with
  |fy n=>
   cases l with
   |nil=>
    simp only[pI]at h;have⟨hl,h⟩:=VM h;grind
   |cons y l=>simp only[pI]at h;exact fy h
  |bool=>simp only[pI]at h;exact gen h
  |int k=>simp only[pI]at h;exact gen h
  |str=>simp only[pI]at h;exact gen h
  |ptr=>simp only[pI]at h;exact gen h
  |slice sz=>simp only[pI]at h;exact gen h
  |func=>simp only[pI]at h;exact gen h
  |any=>simp only[pI]at h;exact gen h
theorem NV {x:Sh} {d:DV} {K:DV->M Y} (h:AK x d K s=some r):
  ∃d',K d' s=some r/\(∀(C:bE) ψ v,VR C ψ d v->VR C ψ d' v)/\(one d=true->one d'=true):=by
 cases x with
 |b x=>exact N5 h
 |agg l=>
  simp only[AK,uY]at h;split at h
  .have⟨ds,h,hl,hr,h2⟩:=IP h
   refine⟨_,h,λC ψ v hv=>?_,λh=>by cases h⟩;cases hv with
   |agg _ vs a b=>exact .agg _ _ (hr C ψ _ a) (h2 b)
  .cases h
theorem IB: ∀ {l:List Sh} {cs:ah} {K:ah->M Y} {s:St} {r:Out Y×St},Cu l cs K s=some r->
  ∃ds,K ds s=some r/\ds.length=cs.length/\ds.length=l.length/\(∀(C:bE) ψ vs,bJ C ψ cs vs->bJ C ψ ds vs)
 |[],cs,K,s,r,h=>by
  simp only[Cu]at h;cases cs with
  |nil=>exact⟨[],h,rfl,rfl,λ_ _ _ h=>h⟩
  |cons _ _=>cases h
 |x::l,cs,K,s,r,h=>by
  simp only[Cu]at h;cases cs with
  |nil=>cases h
  |cons d rest=>
   simp only[lF]at h;have⟨d',h,hd,_⟩:=NV h;have⟨ds,h,hl,lM,hr⟩:=IB h;refine⟨_,h,by simp[hl],by simp[lM],λC ψ vs hv=>?_⟩;cases hv with
   |cons _ v _ vs a b=>exact .cons _ _ _ _ (hd C ψ v a) (hr C ψ vs b)
inductive SV (C:bE) (E:Env):List Operand->List DV->Prop
 |nil:SV C E [] []
 |cons {x:Operand} {d:DV} {l:List Operand} {ds:ah} :E.src C x= .v d->SV C E l ds->SV C E (x::l) (d::ds)
theorem Iz {C:bE} {E:Env} : ∀ {l:List Operand} {K:ah->M Y} {s:St} {r:Out Y×St},Bv C E l K s=some r->
  ∃ds,K ds s=some r/\SV C E l ds
 |[],K,s,r,h=>⟨[],h,.nil⟩
 |x::l,K,s,r,h=>by
  simp only[Bv]at h;have⟨d,h1,h⟩:=Zy h;have⟨ds,h,h2⟩:=Iz h;exact⟨_,h,.cons h1 h2⟩
theorem I8 {C:bE} {o:Oper} {D:dN->Prop} {E:Env} {s:St} {ψ:Ps} {Q:Kn} {a:Act} {w:World} (p:aB C o D E s ψ Q a w):
  ∀ {l:List Operand} {ds:ah},(∀x∈l,x∈o.op.operands)->SV C E l ds->bJ C ψ ds (l.map a.eval)
 |[],_,_,.nil=> .nil
 |x::l,_,hm,.cons h1 h2=> .cons _ _ _ _ (p.val (hm x Do) h1) (I8 p Fd h2)
theorem ZmS (h:P.underlying t=some d): ∃i,P.info? t=some i/\i.size=P.cellsOf t:=by
 grind[Program.underlying,Program.cellsOf]
theorem Zl (w:World) (h:P.underlying t=some d):(underlying t).run P w= .ok d w:=by
 simp[underlying,h]
theorem sb (w:World) (h:P.underlying t=some d):(sizeOf t).run P w= .ok (P.cellsOf t) w:=by
 have⟨i,h1,h2⟩:=ZmS h;simp[sizeOf,typeInfo,h1,h2]
theorem IH (w:World) (h:P.underlying t=some d):(isAgg t).run P w= .ok (jQ P t) w:=by
 rw[isAgg,Sem.run_bind,Zl w h,Result.andThen_ok,jQ,h];cases d<;>rfl
theorem Uz (w:World) (h:oB P t=some z): ∃v,(zeroValue t).run P w= .ok v w/\(∀(C:bE) ψ,bJ C ψ z v.cells.toList)/\z.all one=true:=by
 unfold oB at h;split at h
 .rename_i i hi
  split at h
  .rename_i v hv
   refine⟨v,by simp[zeroValue,typeInfo,hi,hv],λC ψ=>(F8 h).1,?_⟩;exact(F8 (C:=⟨P,id,λ_=>true,id,id,λ_=>true,λ_=>[],λ_=>false⟩) (ψ:=λ_=>none) h).2
  .cases h
 .cases h
theorem Zra {b:Nat} {fr:Nat×Nat} {cells:ah} (hb:w.heap[b]? =some (.cells c ty fr)) (hf:fr=(0,0)\/c.size<=fr.1)
  (hr:bJ C ψ cells (c.toList.take cells.length)) (ho:cells.all one=true):Holds C ψ w ⟨b,0,c.size⟩ (.cells false cells):=by
 have hl:cells.length<=c.size:=by
  have:=hr.len;grind
 refine⟨hl,ho,λj d hd=>?_,λ_=>⟨c,ty,fr,hb,Do,λj hj=>?_⟩⟩
 .have⟨v,hv,kX⟩:=hr.get hd
  refine⟨v,?_,kX⟩;rw[uE]at hv;split at hv
  .rw[cell_of_row w b _ c ty fr hb];simpa using hv
  .cases hv
 grind
theorem Zzb (a:Act) (t:Nat):a.eval (.tmp t)=a.tmps.getD t undef:=rfl
variable {K:Env->M Y}
section
variable {C:bE} {o:Oper} {D W:dN->Prop} {E:Env} {s:St} {md:Md} {pr ms:al}
theorem cg.aed (ja:Spec pr o) (bw: ∀h,W h->D h) (t:Nat) (ht:o.dst=some t) (e:fg) (ab:AB)
  (he:(∃n cells,e= .loc E.bS n cells/\ab= .cells false cells/\cells.length=n)\/(∃l p,e= .it E.bS l p/\ab= .iter l p))
  (hk:K ⟨E.bS+1,(t,e)::E.l⟩ s=some r)
  (ee: ∀ψ Q a w,aB C o D E s ψ Q a w->∃w' cb,(execOp a.eval o).run C.P w= .ok (.value (.pointer (some ⟨cb.b,0,none⟩))) w'/\iD w w'/\w.heap.size<=cb.b/\cb.b<w'.heap.size/\
   cb.o=0/\Holds C ψ w' cb ab):cg C md pr ms o D W E s K r:=by
 have hv:e.dp=some E.bS:=by rcases he with⟨n,c,rfl,_⟩|⟨l,p,rfl,_⟩<;>rfl
 have get: ∀u,(⟨E.bS+1,(t,e)::E.l⟩:Env).get u=if t=u then e else E.get u:=λu=>Env.aic _ _ _ _ _
 have crn: ∀de,CR ⟨E.bS+1,(t,e)::E.l⟩ s (.inr E.bS) de->jV E->de=ab:=by
  intro de c hE;rcases c with⟨u,n,cs,h,fL⟩|⟨u,l,p,h,fL⟩<;>rw[get]at h<;>split at h
  .grind
  .have:=hE.lt u E.bS (by rw[h];rfl);omega
  .grind
  .have:=hE.lt u E.bS (by rw[h];rfl);omega
 have cro: ∀h de,CR ⟨E.bS+1,(t,e)::E.l⟩ s h de->h≠ .inr E.bS->CR E s h de:=by
  intro h de c cV;cases h with
  |inl i=>exact c
  |inr v=>
   rcases c with⟨u,n,cs,h,fL⟩|⟨u,l,p,h,fL⟩<;>rw[get]at h<;>split at h
   .rw[h]at hv;grind
   .exact .inl ⟨u,n,cs,h,fL⟩
   .rw[h]at hv;grind
   .exact .inr ⟨u,l,p,h,fL⟩
 have iY:yj E s ⟨E.bS+1,(t,e)::E.l⟩ s (.inr E.bS):=⟨by simp[eF],by simp[eF]⟩;refine .inl ⟨_,_,hk,⟨aJ _,Do,λhE=>⟨?_,?_,?_,?_⟩,?_,(λu d _ h=>by
   rw[get]at h;grind),?_,?_,?_,?_,λ_ _ _=>rfl,.inr ja,.inl rfl⟩,?_⟩
 .intro u v h
  rw[get]at h;split at h
  .rw[hv]at h;cases h;simp
  .have:=hE.lt u v h;simp only;omega
 .intro u x v n h
  rw[get]at h;split at h
  .rw[h]at hv;cases hv
  .have:=hE.pl u x v n h;simp only;omega
 .intro u v n cs h
  rw[get]at h;split at h
  .grind
  .exact hE.len u v n cs h
 .intro u u' v h h'
  rw[get]at h h';split at h<;>split at h'
  .omega
  .rw[hv]at h;cases h;have:=hE.lt u' _ h';omega
  .rw[hv]at h';cases h';have:=hE.lt u _ h;omega
  .exact hE.uniq u u' v h h'
 .grind
 .grind
 .grind
 .grind
 .grind
 .intro ψ Q a w next QQ p room hn
  have⟨w',cb,hr,hm,h1,h2,h0,hh⟩:=ee ψ Q a w p;have hf:=room _ iY;unfold Oper.wp;rw[hr];refine hn _ _ _ w' ⟨fI.new (cb:=cb) (ab:=ab) p.fp p.gU hm hf h1 (hh.same (λ_ _ e=>xq hf _ _ e) rfl),Ext.new hm hf h1 h2,λh c e=>?_,λh de c cr hw e=>?_,λh de c e q _ _=>?_⟩ (λd' hd=>?_)
  .by_cases eh:h= .inr E.bS
   .grind
   .rw[qm _ _ eh]at e;exact .inl e
  .by_cases eh:h= .inr E.bS
   .subst eh;exact .inl ⟨rfl,crn _ cr p.iw⟩
   .refine .inr ⟨eh,?_⟩
    rw[qm _ _ eh]at e;rcases hw with hw|⟨n1,n2⟩
    .exact p.kF h de c (bw h hw) (cro h de cr eh) e
    .exact absurd ((cro h de cr eh).sr p.iw) n1
  .refine .inr ⟨λeh=>?_,q⟩
   grind
  .rw[ht]at hd;cases hd
   rw[get,bx rfl];rcases he with⟨n',c',rfl,_,hl⟩|⟨l,p,rfl,_⟩
   .exact⟨cb,rY _ _ _,h0,rfl⟩
   .exact⟨cb,rY _ _ _,rfl⟩
theorem cg.newVar (AV:(∃t,o.op= .alloc t)\/(∃t y,o.op= .box t y)) (bw: ∀h,W h->D h) {cells:ah} (hlen:cells.length=n) (h:N8 pr o n cells E K s=some r)
  (ee: ∀ψ Q a w,aB C o D E s ψ Q a w->∃w' cb,(execOp a.eval o).run C.P w= .ok (.value (.pointer (some ⟨cb.b,0,none⟩))) w'/\iD w w'/\w.heap.size<=cb.b/\cb.b<w'.heap.size/\
   cb.o=0/\Holds C ψ w' cb (.cells false cells)):cg C md pr ms o D W E s K r:=by
 unfold N8 at h;cases ht:o.dst
 .rw[ht]at h;cases h
 .rename_i t;rw[ht]at h;simp only at h;cases hp:has pr t
  .rw[hp]at h;simp only[af]at h;refine cg.Lt (by rcases AV with⟨t,ho⟩|⟨t,y,ho⟩<;>(grind[uK])) bw (.ptr (some (s.length,0))) cells (by simpa [cI,Env.fD,ht,cj]using h) λψ Q a w p=>?_
   have⟨w',cb,hr,hm,h1,h2,h0,hh⟩:=ee ψ Q a w p;refine⟨_,w',cb,hr,hm,h1,h2,hh,λψ' _ e=>?_⟩;have:=VR.ptr (C:=C) (ψ:=ψ') s.length 0 cb e;rwa [h0]at this
  .rw[hp]at h;simp only[ae]at h;exact cg.aed (by rcases AV with⟨t,ho⟩|⟨t,y,ho⟩<;>(grind[Spec])) bw t ht _ _ Fd h ee
theorem Uj (t:TypeId) (v:Value) (w:World):(newVar t v).run P w= .ok ⟨w.heap.size,0,none⟩ (w.alloc (.cells v.cells t)):=by
 simp[newVar,newRow]
theorem ZpQ (ho:o.op= .move y\/o.op= .assign y) (bw: ∀h,W h->D h) (h:Bq E o K (E.src C y) s=some r):cg C md pr ms o D W E s K r:=by
 refine cg.pure bw (E.src C y) (Env.LM C E y) (λhE r v n h=>Env.Fk C hE h) h λψ Q a w p=>⟨a.eval y,w,?_,.refl w,p.src ?_⟩
 .rcases ho with ho|ho<;>simp[execOp,ho]
 .rcases ho with ho|ho<;>simp[Op.operands,ho]
theorem ZwS {b z:Operand} (ho:o.op= .pick b y z) (bw: ∀h,W h->D h) (h:Xi C E o K b y z s=some r):cg C md pr ms o D W E s K r:=by
 unfold Xi at h;have⟨t,hb,h⟩:=UA h;have J2: ∀ψ Q a w,aB C o D E s ψ Q a w->a.eval b= .bool t:=λψ Q a w p=>by
  have:=p.val (x:=b) (by simp[Op.operands,ho]) hb;generalize a.eval b=v at this;cases this;rfl
 cases t
 .refine cg.pure bw (E.src C z) (Env.LM C E z) (λhE r v n h=>Env.Fk C hE h) h λψ Q a w p=>⟨a.eval z,w,?_,.refl w,p.src (by simp[Op.operands,ho])⟩
  simp[execOp,ho,J2 ψ Q a w p,asBool]
 .refine cg.pure bw (E.src C y) (Env.LM C E y) (λhE r v n h=>Env.Fk C hE h) h λψ Q a w p=>⟨a.eval y,w,?_,.refl w,p.src (by simp[Op.operands,ho])⟩
  simp[execOp,ho,J2 ψ Q a w p,asBool]
theorem F3 {cells:ah} (hr:bJ C ψ cells (c.toList.take cells.length)) (ho:cells.all one=true):
  Holds C ψ (w.alloc (.cells c t)) ⟨w.heap.size,0,c.size⟩ (.cells false cells):=
 Zra (heap_alloc_new w _) (.inl rfl) hr ho
theorem Jb {l:List α} (h:n=l.length):l.take n=l:=by subst h;simp
theorem ZuW (ho:o.op= .alloc t) (bw: ∀h,W h->D h) (h:Wx C E o K pr t s=some r):cg C md pr ms o D W E s K r:=by
 unfold Wx at h;cases hz:oB C.P t
 .rw[hz]at h;cases h
 .rename_i z;rw[hz]at h;simp only at h;have⟨hl,h⟩:=Zq h;refine cg.newVar (.inl ⟨t,ho⟩) bw (dQ hl) h λψ Q a w p=>?_
  have⟨v,hv,hr,h1⟩:=Uz w hz;refine⟨w.alloc (.cells v.cells t),⟨w.heap.size,0,v.cells.size⟩,?_,.alloc w _,aJ _,Do,rfl,?_⟩
  .simp[execOp,ho,Instr.alloc,hv,Uj]
  .exact F3 (by rw[Jb (by simpa using (hr C ψ).len)];exact hr C ψ) h1
theorem ZnD {d:DV} {K:ah->M Y} (h:On P t d K s=some r):
  ∃ds td,P.underlying t=some td/\K ds s=some r/\ds.length=P.cellsOf t/\∀(C:bE) ψ v,VR C ψ d v->bJ C ψ ds v.cells.toList/\ds.all one=true/\v.cells.size=P.cellsOf t:=by
 unfold On at h;have⟨td,EW,h⟩:=qX h;cases ha:jQ P t
 .rw[ha]at h;simp only[af]at h;have⟨hc,h⟩:=Zq h;have⟨h1,h⟩:=nn h;have hc:=dQ hc;refine⟨[d],td,EW,h,by simp[hc],λC ψ v hv=>?_⟩;rw[hv.acy h1];exact⟨.cons _ _ _ _ hv .nil,by simp[h1],by simp[hc]⟩
 .rw[ha]at h;simp only[ae]at h;cases d with
  |agg cs=>
   have⟨hl,h⟩:=VM h;refine⟨cs,td,EW,h,hl,λC ψ v hv=>?_⟩;cases hv with
   |agg _ vs a b=>exact⟨a,b,by rw[<-hl,a.len];simp[Value.cells]⟩
  |_=>cases h
theorem ZxE (ho:o.op= .box t y) (bw: ∀h,W h->D h) (h:aba C E o K pr t y s=some r):cg C md pr ms o D W E s K r:=by
 unfold aba at h;have⟨d,hd,h⟩:=Zy h;have⟨ds,td,EW,h,hl,hv⟩:=ZnD h;refine cg.newVar (.inr ⟨t,y,ho⟩) bw hl h λψ Q a w p=>?_
 have⟨h1,h2,h3⟩:=hv C ψ _ (p.val (x:=y) (by simp[Op.operands,ho]) hd);refine⟨w.alloc (.cells (a.eval y).cells t),⟨w.heap.size,0,(a.eval y).cells.size⟩,?_,.alloc w _,aJ _,Do,rfl,?_⟩
 .simp[execOp,ho,Instr.box,Uj]
 .exact F3 (by rw[Jb (by simpa using h1.len)];exact h1) h2
theorem Zp8 (ho:o.op= .nilCheck y) (bw: ∀h,W h->D h) (h:U3 C E o K y s=some r):cg C md pr ms o D W E s K r:=by
 unfold U3 at h;rcases IA h with⟨t,v,n,he,h⟩|⟨i,n,he,h⟩
 .refine cg.pure bw (.pl t v n) rfl (λhE r v' n' e=>by cases e;exact Env.Fk C hE he) h λψ Q a w p=>⟨a.eval y,w,?_,.refl w,?_⟩
  .have:=p.src (x:=y) (by simp[Op.operands,ho])
   rw[he]at this;have⟨cb,_,_,h3⟩:=this;simp[execOp,ho,h3]
  .have:=p.src (x:=y) (by simp[Op.operands,ho])
   rw[he]at this;exact this
 .refine cg.val bw (.ptr (some (i,n))) h λψ Q a w p=>⟨a.eval y,w,?_,.refl w,?_⟩
  .have:=p.val (x:=y) (by simp[Op.operands,ho]) he
   generalize hx:a.eval y=x at this;cases this;simp[execOp,ho,hx]
  .exact p.val (x:=y) (by simp[Op.operands,ho]) he
theorem ZzB {op:UnOp} (ho:o.op= .unOp op t y) (bw: ∀h,W h->D h) (h:abc C E o K op y s=some r):cg C md pr ms o D W E s K r:=by
 unfold abc at h;have⟨d,hd,h⟩:=Zy h;unfold unK at h;split at h
 .refine cg.val bw _ h λψ Q a w p=>?_
  have:=p.val (x:=y) (by simp[Op.operands,ho]) hd;generalize hx:a.eval y=x at this;cases this;exact⟨_,w,by simp[execOp,ho,hx,Op.unary],.refl w,.bool _⟩
 .refine cg.val bw _ h λψ Q a w p=>?_
  have:=p.val (x:=y) (by simp[Op.operands,ho]) hd;generalize hx:a.eval y=x at this;cases this;exact⟨_,w,by simp[execOp,ho,hx,Op.unary,Op.intArith],.refl w,.int _ _⟩
 .cases h
theorem ZuN (ho:o.op= .makeInterface t y) (bw: ∀h,W h->D h) (h:WI C E o K t y s=some r):cg C md pr ms o D W E s K r:=by
 unfold WI at h;cases ht:C.P.underlying t
 .rw[ht]at h;cases h
 .rename_i td;have KA: ∀m,td≠ .interface m:=by rintro m rfl;rw[ht]at h;cases h
  have h':fO C E y (λd=>cI E o K (.iface (C.ty t) d)) s=some r:=by rw[ht]at h;cases td<;>first|exact h|grind
  have⟨d,hd,h'⟩:=Zy h';refine cg.val bw _ h' λψ Q a w p=>⟨.iface t (a.eval y),w,?_,.refl w,.iface _ _ _ (p.val (x:=y) (by simp[Op.operands,ho]) hd)⟩
  simp only[execOp,ho,Instr.makeInterface,Sem.run_bind,Zl w ht,Result.andThen_ok];cases td<;>first|rfl|exact absurd rfl (KA _)
theorem Zwl {f:Fn} (ho:o.op= .makeFunc f first cap) (bw: ∀h,W h->D h) (h:W4 C E o K f first cap s=some r):cg C md pr ms o D W E s K r:=by
 unfold W4 at h;cases f with
 |func f=>
  simp only at h;have⟨hc,h⟩:=Zq h;have⟨fs,h,h1⟩:=Iz h;have⟨cs,h,h2⟩:=Iz h;refine cg.val bw _ h λψ Q a w p=>⟨.func (.func f) (first.map a.eval) (cap.map a.eval),w,by simp[execOp,ho,Instr.makeFunc],.refl w,.func _ _ _ _ _ hc ?_ ?_⟩
  .have:=I8 p (l:=first.toList) (λx hx=>by simp only[Op.operands,ho,Array.mem_append];grind) h1
   simpa using this
  .have:=I8 p (l:=cap.toList) (λx hx=>by simp only[Op.operands,ho,Array.mem_append];grind) h2
   simpa using this
 |_=>cases h
theorem ZrW {t:Nat} (ho:o.op= .extract (.tmp t) i) (bw: ∀h,W h->D h) (h:VA E o K t i s=some r):cg C md pr ms o D W E s K r:=by
 unfold VA at h;cases he:E.get t with
 |rN ds=>
  rw[he]at h;simp only at h;cases hd:ds[i]?
  .rw[hd]at h;cases h
  .rename_i d;rw[hd]at h;refine cg.val bw d h λψ Q a w p=>?_
   have:=p.args t (by simp[Op.operands,ho]);rw[he]at this;have⟨vs,pV,hr⟩:=this;have⟨v,hv,hr⟩:=hr.get hd;refine⟨v,w,?_,.refl w,hr⟩;have fm:vs[i]? =some v:=by simpa using hv
   simp[execOp,ho,Zzb,pV,Instr.extract,fm]
 |_=>rw[he]at h;cases h
end
section
variable {C:bE} {o:Oper} {D W:dN->Prop} {E:Env} {s:St} {md:Md} {pr ms:al}
theorem xh (P:Program) (a:Addr) (w:World):(Instr.sureAddr (.pointer (some a))).run P w= .ok a w:=rfl
theorem ZpK {f:Nat} (ho:o.op= .fieldAddr t y f) (bw: ∀h,W h->D h) (h:MP C E o K t y f s=some r):cg C md pr ms o D W E s K r:=by
 unfold MP at h;cases ht:C.P.underlying t
 .rw[ht]at h;cases h
 .rename_i td;rw[ht]at h;cases td with
  |struct fs=>
   simp only at h;cases hf:fs[f]?
   .rw[hf]at h;cases h
   .rename_i fd;rw[hf]at h;simp only at h;have⟨hc,h⟩:=IC h;have hc:=Mk hc;have cJ: ∀w,(sizeOf fd.type).run C.P w= .ok (C.P.cellsOf fd.type) w:=by
     intro w;unfold Program.cellsOf at hc⊢;cases hi:C.P.info? fd.type
     .rw[hi]at hc;simp at hc
     .rename_i i;simp[sizeOf,typeInfo,hi]
    have run: ∀(a:Act) (w:World) b n,a.eval y= .pointer (some ⟨b,n,none⟩)->(execOp a.eval o).run C.P w= .ok (.value (.pointer (some ⟨b,n+fd.offset,none⟩))) w:=by
     intro a w b n hy;simp[execOp,ho,hy,Instr.fieldAt,Zl w ht,hf,xh,fieldPlace,cJ,hc,B1]
    rcases IA h with⟨x,v,n,he,h⟩|⟨i,n,he,h⟩
    .refine cg.pure bw _ rfl (λhE r v' n' e=>by cases e;exact Env.Fk C hE he) h λψ Q a w p=>?_
     have:=p.src (x:=y) (by simp[Op.operands,ho]);rw[he]at this;have⟨cb,h1,h2,h3⟩:=this;exact⟨_,w,run a w _ _ h3,.refl w,cb,h1,h2,rfl⟩
    .refine cg.val bw _ h λψ Q a w p=>?_
     have:=p.val (x:=y) (by simp[Op.operands,ho]) he;generalize hy:a.eval y=v at this;cases this with
     |ptr _ _ cb e=>exact⟨_,w,run a w _ _ hy,.refl w,by rw[vI];exact .ptr _ _ cb e⟩
  |_=>cases h
theorem MU (P:Program) (k:IntKind) (n:Int) (w:World):(asIntOf (.int k n)).run P w= .ok (k,n) w:=rfl
theorem Jp {n:Int} (h:aO n m=true):0<=n/\n<m:=by
 simp only[aO,aS,yi]at h;exact h
theorem ZpC {i:Operand} (ho:o.op= .indexAddr t y i) (bw: ∀h,W h->D h) (h:Ue C E o K t y i s=some r):cg C md pr ms o D W E s K r:=by
 unfold Ue at h;have⟨k,n,hi,h⟩:=Gh h;have iv: ∀ψ Q a w,aB C o D E s ψ Q a w->a.eval i= .int k n:=λψ Q a w p=>by
  have:=p.val (x:=i) (by simp[Op.operands,ho]) hi;generalize a.eval i=v at this;cases this;rfl
 cases ht:C.P.underlying t
 .rw[ht]at h;cases h
 .rename_i td;rw[ht]at h;cases td with
  |slice e=>
   simp only at h;have⟨ed,he,h⟩:=qX h;have⟨d,hd,h⟩:=Zy h;cases d with
   |slice z a m=>
    simp only at h;have⟨hz,h⟩:=Zq h;obtain⟨j,p0,rfl,h⟩:=WR h;have⟨hb,h⟩:=nn h;have⟨lK,cZ⟩:=Jp hb;simp only[Option.isNone_some,Bool.or_false]at hz;have hz:=dQ hz;refine cg.val bw _ h λψ Q a w p=>?_
    have hv:=p.val (x:=y) (by simp[Op.operands,ho]) hd;generalize hy:a.eval y=v at hv;cases hv with
    |slice _ _ _ _ cb ad cap e1 e2 e3=>
     have⟨e4,e5⟩:=e3 AC;refine⟨.pointer (some ⟨cb.b,cb.o+(n.toNat*C.P.cellsOf e+p0),none⟩),w,?_,.refl w,.ptr _ _ cb e1⟩;rw[tm _ p0];simp[execOp,ho,hy,iv ψ Q a w p,Instr.indexAt,Zl w ht,MU,lK,cZ,sb w he,e4,B1,vI]
   |_=>cases h
  |array m e=>
   simp only at h;have⟨ed,he,h⟩:=qX h;have run: ∀ψ Q (a:Act) (w:World) b p0,aB C o D E s ψ Q a w->a.eval y= .pointer (some ⟨b,p0,none⟩)->0<=n->n<m->
     (execOp a.eval o).run C.P w= .ok (.value (.pointer (some ⟨b,p0+n.toNat*C.P.cellsOf e,none⟩))) w:=by
    intro ψ Q a w b p0 p hy lK cZ;simp[execOp,ho,hy,iv ψ Q a w p,Instr.indexAt,Zl w ht,MU,lK,cZ,xh,sb w he,B1]
   rcases IA h with⟨x,v,p0,hx,h⟩|⟨x,p0,hx,h⟩
   .have⟨hb,h⟩:=nn h
    have⟨lK,cZ⟩:=Jp hb;refine cg.pure bw _ rfl (λhE r v' n' e=>by cases e;exact Env.Fk C hE hx) h λψ Q a w p=>?_
    have:=p.src (x:=y) (by simp[Op.operands,ho]);rw[hx]at this;have⟨cb,h1,h2,h3⟩:=this;exact⟨_,w,run ψ Q a w _ _ p h3 lK cZ,.refl w,cb,h1,h2,by rw[tm]⟩
   .have⟨hb,h⟩:=nn h
    have⟨lK,cZ⟩:=Jp hb;refine cg.val bw _ h λψ Q a w p=>?_
    have:=p.val (x:=y) (by simp[Op.operands,ho]) hx;generalize hy:a.eval y=v at this;cases this with
    |ptr _ _ cb e1=>exact⟨_,w,run ψ Q a w _ _ p hy lK cZ,.refl w,by rw[tm _ p0,vI];exact .ptr _ _ cb e1⟩
  |_=>cases h
theorem Zt6 (w:World) (h:P.underlying t=some d) (ha:jQ P t=true) (cs:Array Value) (off:Nat):
  (Go.part t cs off).run P w= .ok (.agg (cs.extract off (off+P.cellsOf t))) w:=by
 simp[Go.part,IH w h,ha,sb w h]
theorem ZsX (w:World) (h:P.underlying t=some d) (ha:jQ P t=false) {cs:Array Value} (hv:cs[off]? =some v):
  (Go.part t cs off).run P w= .ok v w:=by
 simp[Go.part,IH w h,ha,hv]
theorem Zu4 (h:bJ C ψ ds vs.toList) (off n:Nat):bJ C ψ ((ds.drop off).take n) (vs.extract off (off+n)).toList:=by
 have:=(h.drop off).take n;rw[Array.toList_extract,QE];simpa using this
theorem WE (h:cs.all one=true):((cs.drop off).take n).all one=true:=
 Fd
theorem Ztz (ht:C.P.underlying t=some td) (bw: ∀h,W h->D h)
  (h:(bif jQ C.P t then cI E o K (.agg ((cs.drop off).take (C.P.cellsOf t)))else Go.Gv.eW cs off λd=>AK (oj C.P t) d (cI E o K)) s=some r)
  (ee: ∀ψ Q a w,aB C o D E s ψ Q a w->∃vs,bJ C ψ cs vs.toList/\cs.all one=true/\(∀v,(Go.part t vs off).run C.P w= .ok v w->(execOp a.eval o).run C.P w= .ok (.value v) w)):cg C md pr ms o D W E s K r:=by
 cases ha:jQ C.P t
 .rw[ha]at h;simp only[af]at h;have⟨d,hd,h⟩:=NT h;have⟨d',h,hr,_⟩:=NV h;refine cg.val bw _ h λψ Q a w p=>?_
  have⟨vs,h1,h2,h3⟩:=ee ψ Q a w p;have⟨v,hv,kX⟩:=h1.get hd;exact⟨v,w,h3 _ (ZsX w ht ha (by simpa using hv)),.refl w,hr C ψ v kX⟩
 .rw[ha]at h;refine cg.val bw _ h λψ Q a w p=>?_
  have⟨vs,h1,h2,h3⟩:=ee ψ Q a w p;exact⟨_,w,h3 _ (Zt6 w ht ha vs off),.refl w,.agg _ _ (Zu4 h1 _ _) (WE h2)⟩
theorem Zuu {f:Nat} (ho:o.op= .field t y f) (bw: ∀h,W h->D h) (h:WK C E o K t y f s=some r):cg C md pr ms o D W E s K r:=by
 unfold WK at h;cases ht:C.P.underlying t
 .rw[ht]at h;cases h
 .rename_i td;rw[ht]at h;cases td with
  |struct fs=>
   simp only at h;cases hf:fs[f]?
   .rw[hf]at h;cases h
   .rename_i fd;rw[hf]at h;simp only at h;have⟨ed,he,h⟩:=qX h;have⟨d,hd,h⟩:=Zy h;cases d with
    |agg cs=>
     refine Ztz he bw h λψ Q a w p=>?_
     have hv:=p.val (x:=y) (by simp[Op.operands,ho]) hd;generalize hy:a.eval y=v at hv;cases hv with
     |agg _ vs h1 h2=>exact⟨vs,h1,h2,λv hp=>by simp[execOp,ho,hy,Instr.field,Zl w ht,hf,asAgg,hp]⟩
    |_=>cases h
  |_=>cases h
theorem Zw2 (s:ByteArray) (i:Nat):s[i]? =s.data.toList[i]? :=by
 rcases jw i s.data.toList.length with h|h
 .have h':i<s.size:=by rw[qb]at h;exact h
  rw[cc h,getElem?_pos s i h',ByteArray.getElem_eq_getElem_data,Array.getElem_toList]
 simp_all
theorem ZuR {i:Operand} (ho:o.op= .index t y i) (bw: ∀h,W h->D h) (h:WX C E o K t y i s=some r):cg C md pr ms o D W E s K r:=by
 unfold WX at h;have⟨k,n,hi,h⟩:=Gh h;have⟨d,hd,h⟩:=Zy h;have iv: ∀ψ Q a w,aB C o D E s ψ Q a w->a.eval i= .int k n:=λψ Q a w p=>by
  have:=p.val (x:=i) (by simp[Op.operands,ho]) hi;generalize a.eval i=v at this;cases this;rfl
 cases ht:C.P.underlying t
 .rw[ht]at h;cases h
 .rename_i td;rw[ht]at h;cases td with
  |string=>
   cases d with
   |str l=>
    simp only at h;have⟨hb,h⟩:=nn h;have⟨lK,cZ⟩:=Jp hb;refine cg.val bw _ h λψ Q a w p=>?_
    have hv:=p.val (x:=y) (by simp[Op.operands,ho]) hd;generalize hy:a.eval y=v at hv;cases hv with
    |str x=>
     have hg:x[n.toNat]? =some x.data.toList[n.toNat]:=by rw[Zw2];grind
     refine⟨.int .u8 (ZX x.data.toList n),w,?_,.refl w,.int _ _⟩;simp only[execOp,ho,hy,iv ψ Q a w p,Instr.index,Sem.run_bind,MU,Zl w ht,Result.andThen_ok,lK,nM,hg,Sem.run_pure,ZX];grind
   |_=>cases h
  |array m e=>
   cases d with
   |agg cs=>
    simp only at h;have⟨ed,he,h⟩:=qX h;have⟨hb,h⟩:=nn h;have⟨lK,cZ⟩:=Jp hb;refine Ztz he bw h λψ Q a w p=>?_
    have hv:=p.val (x:=y) (by simp[Op.operands,ho]) hd;generalize hy:a.eval y=v at hv;cases hv with
    |agg _ vs h1 h2=>exact⟨vs,h1,h2,λv hp=>by simp[execOp,ho,hy,iv ψ Q a w p,Instr.index,MU,Zl w ht,lK,cZ,sb w he,hp]⟩
   |_=>cases h
  |_=>cases d<;>cases h
end
theorem Xm {y:B} (h:oj P t= .b y):jQ P t=false:=by
 grind[oj]
theorem ZtJ {l:List B} (h:oj P t= .agg l):jQ P t=true:=by
 grind[oj]
theorem Nq {d:DV} (h:Holds C ψ w cb (.cells f cs)) (hd:cs[p]? =some d):
  ∃v,(load ⟨cb.b,cb.o+p,none⟩).run P w= .ok v w/\VR C ψ d v/\one d=true:=by
 have⟨v,hv,hr⟩:=h.2.2.1 p d hd;exact⟨v,by rw[run_load,hv],hr,qP.1 h.2.1 _ (qc hd)⟩
theorem ZmI (h:Holds C ψ w cb (.cells f cs)) (hn:p+n<=cs.length):
  ∃vs,(∀w',w'.heap=w.heap->(loadCells ⟨cb.b,cb.o+p,none⟩ n).run P w'= .ok vs w')/\vs.size=n/\bJ C ψ ((cs.drop p).take n) vs.toList/\((cs.drop p).take n).all one=true:=by
 have hc: ∀j,j<n->∃v,w.cell? ⟨cb.b,cb.o+p+j,none⟩=some v/\∀d,cs[p+j]? =some d->VR C ψ d v:=by
  intro j hj;have⟨v,hv,hr⟩:=h.2.2.1 (p+j) cs[p+j] Do;grind
 let f:Nat->Value:=λj=>(w.cell? ⟨cb.b,cb.o+p+j,none⟩).getD undef
 have hf: ∀w':World,w'.heap=w.heap->∀j,j<n->w'.cell? ((⟨cb.b,cb.o+p,none⟩:Addr).add j)=some (f j):=by
  intro w' hw j hj;have⟨v,hv,_⟩:=hc j hj;have e:w'.cell? ((⟨cb.b,cb.o+p,none⟩:Addr).add j)=w.cell? ((⟨cb.b,cb.o+p,none⟩:Addr).add j):=by simp only[World.cell?,hw]
  rw[e,B1,hv];simp[f,hv]
 refine⟨_,λw' hw=>run_loadCells w' _ n f (hf w' hw),Do,bJ.of _ _ ?_ ?_,WE h.2.1⟩
 .simp;omega
 grind
theorem MT (h:Holds C ψ w cb (.cells f cs)) (hn:p+n<=cs.length:=by omega):
  ∃vs,(loadCells ⟨cb.b,cb.o+p,none⟩ n).run P w= .ok vs w/\vs.size=n/\bJ C ψ ((cs.drop p).take n) vs.toList/\((cs.drop p).take n).all one=true:=
 let ⟨vs,a,b⟩:=ZmI (P:=P) h hn
 ⟨vs,a w rfl,b⟩
section
variable {C:bE} {o:Oper} {D W:dN->Prop} {E:Env} {s:St} {md:Md} {pr ms:al}
theorem MD (ht:P.underlying t=some td) (ha:jQ P t=true) (a:Addr) (w:World) (h:(loadCells a (P.cellsOf t)).run P w= .ok vs w):
  (loadVar t a).run P w= .ok (.agg vs) w:=by
 simp[loadVar,IH w ht,ha,sb w ht,h]
theorem Ir (ht:P.underlying t=some td) (ha:jQ P t=false) (a:Addr) (w:World) (h:(load a).run P w= .ok v w):
  (loadVar t a).run P w= .ok v w:=by
 rw[loadVar,Sem.run_bind,IH w ht,ha];simpa using h
theorem ZAU (hn:cs.length=n):part n cs p m=(cs.drop p).take m:=by
 unfold part;cases h:Nat.beq m n&&Nat.beq p 0
 .rfl
 .simp only[aS]at h;have h1:=dQ h.2;have h2:=dQ h.1;grind
theorem WU (hn:cs.length=n) (hd:ds.length=m) (hp:p+m<=n):zR n m cs p ds=cG cs p ds:=by
 unfold zR;cases h:Nat.beq m n&&Nat.beq p 0
 .rfl
 .simp only[aS]at h;have h1:=dQ h.2;have h2:=dQ h.1;subst h1;subst h2;subst hn;rw[ae];apply th;intro j;rw[Jj cs 0 ds j AC];by_cases hj:j<ds.length
  .rw[bx AC];simp
  grind
theorem IY {K:ah->M Y} (h:bV i p n K s=some r): ∃f cs,dA s i=some (.cells f cs)/\p+n<=cs.length/\K ((cs.drop p).take n) s=some r:=by
 unfold bV at h;unfold St.cells at h;unfold dA;cases hs:s[i]?
 .rw[hs]at h;cases h
 .rename_i x;cases x with
  |none=>rw[hs]at h;cases h
  |some b=>
   rw[hs]at h;simp only at h;cases hb:Nat.ble (p+n) b.cells.length
   .rw[hb]at h;cases h
   .rw[hb]at h;exact⟨_,_,rfl,rS hb,h⟩
theorem ZoC {K:DV->M Y} (h:bH i p K s=some r): ∃f cs d,dA s i=some (.cells f cs)/\cs[p]? =some d/\K d s=some r:=by
 unfold bH at h;unfold St.cells at h;unfold dA;cases hs:s[i]?
 .rw[hs]at h;cases h
 .rename_i x;cases x with
  |none=>rw[hs]at h;cases h
  |some b=>
   rw[hs]at h;grind
theorem aB.at {a:Act} (p:aB C o D E s ψ Q a w) (hD:D (.inl i)) (h:dA s i=some ab) (e:ψ (.inl i)=some cb):Holds C ψ w cb ab:=
 p.fp.holds _ cb ab e (p.kF (.inl i) ab cb hD h e)
theorem aB.loc {a:Act} (p:aB C o D E s ψ Q a w) {t v:Nat} (hD:D (.inr v)) (h:E.get t= .loc v n cs) (e:ψ (.inr v)=some cb):Holds C ψ w cb (.cells false cs):=
 p.fp.holds _ cb _ e (p.kF (.inr v) _ cb hD (.inl ⟨t,n,cs,h,rfl⟩) e)
theorem ZvS {x:Operand} (ho:o.op= .load t x) (bw: ∀h,W h->D h) (hDl: ∀r v,md.loc r=true->(E.get r).dp=some v->D (.inr v)) (XY:md.OM=true->∀i p,E.src C x= .v (.ptr (some (i,p)))->D (.inl i)) (h:Oq C E o K md t x s=some r):cg C md pr ms o D W E s K r:=by
 unfold Oq at h;have⟨td,ht,h⟩:=qX h;rcases IA h with⟨y,v,p0,hx,h⟩|⟨i,p0,hx,h⟩
 .have⟨hm,h⟩:=Zq h
  have⟨n,cs,hl,h⟩:=ZnI h;have hD:=hDl y v hm (by rw[hl];rfl);have addr: ∀ψ Q a w,aB C o D E s ψ Q a w->∃cb,ψ (.inr v)=some cb/\cb.o=0/\a.eval x= .pointer (some ⟨cb.b,p0,none⟩):=λψ Q a w p=>by
   have:=p.src (x:=x) (by simp[Op.operands,ho]);rw[hx]at this;exact this
  cases hs:oj C.P t with
  |b y'=>
   rw[hs]at h;have⟨d,hd,h⟩:=NT h;have⟨d',h,hr,_⟩:=N5 h;refine cg.val bw _ h λψ Q a w p=>?_
   have⟨cb,e1,e2,e3⟩:=addr ψ Q a w p;have⟨v,hv,mX,_⟩:=Nq (P:=C.P) (p.loc hD hl e1) hd;rw[e2,fq]at hv;refine⟨v,w,?_,.refl w,hr C ψ v mX⟩;simp only[execOp,ho,e3,Instr.loadAt,Sem.run_bind,xh,Result.andThen_ok,Ir ht (Xm hs) _ w hv,Sem.run_pure]
  |agg l=>
   rw[hs]at h;simp only at h;have⟨hb,h⟩:=nn h;have hb:=rS hb;refine cg.val bw _ h λψ Q a w p=>?_
   have hlen:=p.iw.len y v n cs hl;have⟨cb,e1,e2,e3⟩:=addr ψ Q a w p;have⟨vs,hv,_,mX,h1⟩:=MT (P:=C.P) (p.loc hD hl e1) (p:=p0) (n:=C.P.cellsOf t);rw[e2,fq]at hv;refine⟨_,w,?_,.refl w,by rw[ZAU hlen];exact .agg _ vs mX h1⟩;simp only[execOp,ho,e3,Instr.loadAt,Sem.run_bind,xh,Result.andThen_ok,MD ht (ZtJ hs) _ w hv,Sem.run_pure]
 .have⟨hm,h⟩:=Zq h
  have hD:=XY hm i p0 hx;have addr: ∀ψ Q a w,aB C o D E s ψ Q a w->∃cb,ψ (.inl i)=some cb/\a.eval x= .pointer (some ⟨cb.b,cb.o+p0,none⟩):=λψ Q a w p=>by
   have:=p.val (x:=x) (by simp[Op.operands,ho]) hx;generalize a.eval x=y at this;cases this with
   |ptr _ _ cb e=>exact⟨cb,e,rfl⟩
  cases hs:oj C.P t with
  |b y'=>
   rw[hs]at h;have⟨f,cs,d,cq,hd,h⟩:=ZoC h;have⟨d',h,hr,_⟩:=N5 h;refine cg.val bw _ h λψ Q a w p=>?_
   have⟨cb,e1,e3⟩:=addr ψ Q a w p;have⟨v,hv,mX,_⟩:=Nq (P:=C.P) (p.at hD cq e1) hd;refine⟨v,w,?_,.refl w,hr C ψ v mX⟩;simp only[execOp,ho,e3,Instr.loadAt,Sem.run_bind,xh,Result.andThen_ok,Ir ht (Xm hs) _ w hv,Sem.run_pure]
  |agg l=>
   rw[hs]at h;have⟨f,cs,cq,hb,h⟩:=IY h;have⟨ds,h,_,hr,h1⟩:=IP h;refine cg.val bw _ h λψ Q a w p=>?_
   have⟨cb,e1,e3⟩:=addr ψ Q a w p;have⟨vs,hv,_,mX,h2⟩:=MT (P:=C.P) (p.at hD cq e1) hb;refine⟨_,w,?_,.refl w,.agg _ vs (hr C ψ _ mX) (h1 h2)⟩;simp only[execOp,ho,e3,Instr.loadAt,Sem.run_bind,xh,Result.andThen_ok,MD ht (ZtJ hs) _ w hv,Sem.run_pure]
structure BM (w w':World) (b:Nat):Prop where
 other: ∀k,k≠b->w'.heap[k]? =w.heap[k]?
 size:w'.heap.size=w.heap.size
 tape:w'.tape=w.tape
 os:w'.os=w.os
 output:vO w w'
theorem BM.mZ (w:World) (b:Nat) (ob:Obj):BM w (mZ w b ob) b:=
 ⟨λ_ h=>Zwa h ob,Qp w b ob,rfl,rfl,rfl,aJ _⟩
theorem Znx {vs:List Value} (h:Holds C ψ w cb (.cells false cs)) (hr:bJ C ψ ds vs) (h1:ds.all one=true)
  (hp:p+ds.length<=cb.m) (ho:o'+cs'.length<=cb.m) (gV:cs'.all one=true)
  (hc: ∀j d,cs'[j]? =some d->(p<=o'+j/\o'+j<p+ds.length/\ds[o'+j-p]? =some d)\/((o'+j<p\/p+ds.length<=o'+j)/\cs[o'+j]? =some d)):
  ∃w',(storeCells ⟨cb.b,cb.o+p,none⟩ vs).run P w= .ok () w'/\BM w w' cb.b/\Holds C ψ w' ⟨cb.b,cb.o+o',cb.m-o'⟩ (.cells false cs'):=by
 have⟨c,ty,fr,hb,cJ,ec⟩:=h.2.2.2 rfl;have hl:=hr.len;have ee:=RV P cb.b (cb.o+p) ty fr vs 0 w c hb (hr.aei h1) AC Fd;simp only[fE]at ee;refine⟨_,ee,BM.mZ w _ _,by simp only;omega,gV,λj d hd=>?_,λ_=>⟨_,ty,fr,ND (IW hb) _,by simp;omega,λj hj=>?_⟩⟩
 .dsimp only
  rw[cell_of_row _ _ _ _ ty fr (ND (IW hb) _),Oa _ _ _ _ AC];rcases hc j d hd with⟨a1,a2,a3⟩|⟨a1,a2⟩
  .rw[bx ⟨AC,AC⟩]
   have⟨v,hv,mX⟩:=hr.get a3;grind
  .rw[aY AC]
   have⟨v,hv,mX⟩:=h.2.2.1 _ _ a2;rw[cell_of_row _ _ _ _ ty fr hb]at hv;grind
 .have:=ec (o'+j) (by simp only at hj;omega)
  rw[<-vI]at this;exact this
theorem Zvl (h:cs.all one=true) (h':ds.all one=true) (hp:p+ds.length<=cs.length):(cG cs p ds).all one=true:=by
 refine qP.2 λx hx=>?_
 have⟨j,hj⟩:=Fv hx;rw[Jj cs p ds j hp]at hj;grind
theorem Ni {vs:List Value} (h:Holds C ψ w cb (.cells false cs)) (hr:bJ C ψ ds vs) (h1:ds.all one=true)
  (hp:p+ds.length<=cs.length):
  ∃w',(storeCells ⟨cb.b,cb.o+p,none⟩ vs).run P w= .ok () w'/\BM w w' cb.b/\Holds C ψ w' cb (.cells false (cG cs p ds)):=by
 have hm:=h.1;have e1:p+ds.length<=cb.m:=AC
 have e2:0+(cG cs p ds).length<=cb.m:=by rw[I3];omega
 have⟨w',a,b,c⟩:=Znx (P:=P) (cs':=cG cs p ds) (o':=0) h hr h1 e1 e2 (Zvl h.2.1 h1 hp) (λj d hd=>by
  rw[Jj cs p ds j hp]at hd;grind)
 simp_all
theorem UL (h:s.iB i=some cs):dA s i=some (.cells false cs)/\i<s.length:=by
 grind[St.iB,dA]
theorem ZlJ (h:i<s.length) (b:bQ):dA (s.set i (some b)) i=some (.cells b.gk b.cells):=by simp[dA,h]
theorem ML (h:i≠j) (b:Option bQ):dA (s.set i b) j=dA s j:=by grind[dA]
theorem cg.abx (bw: ∀h,W h->D h) (hW:W (.inl i)) (e:fg) (hv:e.dp=none) (hp:jV E->∀r v n,e= .pl r v n->v<E.bS)
  (hi:s.iB i=some cs) (hk:K (E.fD o.dst e) (s.set i (some ⟨false,cs'⟩))=some r)
  (ee: ∀ψ Q a w,aB C o D E s ψ Q a w->∃cb,ψ (.inl i)=some cb/\(Holds C ψ w cb (.cells false cs)->∃v w',((execOp a.eval o).run C.P w= .ok (.value v) w'\/(execOp a.eval o).run C.P w= .ok .skip w'/\v=undef)/\
   BM w w' cb.b/\Holds C ψ w' cb (.cells false cs')/\gh C ψ e v)):cg C md pr ms o D W E s K r:=by
 have⟨cq,av⟩:=UL hi;refine .inl ⟨_,_,hk,nP.put pr ms e hv hp Do (λj ab h=>?_) (λj h _=>?_) (.inl Do),?_⟩
 .by_cases e:j=i
  .subst e;exact .inl hW
  .rw[ML (λe'=>e e'.symm)]at h;exact .inr (.inr h)
 .grind
 intro ψ Q a w next QQ p room hn;have⟨cb,jD,hh⟩:=ee ψ Q a w p;have hq:Q (.inl i) (.cells false cs):=p.kF (.inl i) _ cb (bw _ hW) cq jD;have⟨v,w',hr,dy,CU,fm⟩:=hh (p.fp.holds _ cb _ jD hq);have post:Mu C D W E s (E.fD o.dst e) (s.set i (some ⟨false,cs'⟩)) ψ Q w ψ (zV Q (.inl i) (.cells false cs')) w':=by
  refine⟨fI.set p.fp jD hq rfl dy.other CU,Ext.set jD hq rfl dy.other dy.size dy.tape dy.os dy.output,λ_ _ e=> .inl e,λh ab c cr hw e'=>?_,λh ab c e' q nw _=>?_⟩
  .by_cases eh:h= .inl i
   .subst eh
    have qu:dA (s.set i (some ⟨false,cs'⟩)) i=some ab:=cr;rw[ZlJ av]at qu;cases qu;exact .inl ⟨rfl,rfl⟩
   .refine .inr ⟨eh,?_⟩
    have fT:CR E s h ab:=by
     cases h with
     |inl j=>
      have qu:dA (s.set i (some ⟨false,cs'⟩)) j=some ab:=cr;rw[ML (λe=>eh (by rw[e]))]at qu;exact qu
     |inr x=>exact CR.fD (t:=o.dst) (e:=e) (s:=s) hv cr
    rcases hw with hw|⟨n1,n2⟩
    .exact p.kF h ab c (bw h hw) fT e'
    .exact absurd (fT.sr p.iw) n1
  .exact .inr Fd
 have br: ∀d,o.dst=some d->gh C ψ ((E.fD o.dst e).get d) v:=λd hd=>by rw[Env.lH,bx hd];exact fm
 unfold Oper.wp;rcases hr with hr|⟨hr,rfl⟩
 .rw[hr];exact hn ψ _ v w' post br
 .rw[hr];exact hn ψ _ _ w' post br
theorem ZoT {K:M Y} (h:dE i p ds K s=some r):
  ∃cs,s.iB i=some cs/\p+ds.length<=cs.length/\K (s.set i (some ⟨false,cG cs p ds⟩))=some r:=by
 unfold dE at h;cases hs:s.iB i
 .rw[hs]at h;cases h
 .rename_i cs;rw[hs]at h;simp only at h;cases hb:Nat.ble (p+ds.length) cs.length
  .rw[hb]at h;cases h
  .rw[hb]at h;simp_all
theorem ZmP (ht:P.underlying t=some td) (a:Addr) (v:Value) (w:World) (hs:v.cells.size=P.cellsOf t):
  (storeVar t a v).run P w=(storeCells a v.cells.toList).run P w:=by
 simp[storeVar,sb w ht,hs]
theorem ZuA {x:Operand} (ho:o.op= .store t x y) (xH:o.dst=none) (bw: ∀h,W h->D h) (Ha: ∀r v,md.loc r=true->(E.get r).dp=some v->W (.inr v)) (hWh:md.OM=true->∀i p,E.src C x= .v (.ptr (some (i,p)))->W (.inl i)) (h:Wm C E K md ms t x y s=some r):cg C md pr ms o D W E s K r:=by
 unfold Wm at h;have⟨d,hd,h⟩:=Zy h;have⟨ds,td,ht,h,j1,hv⟩:=ZnD h;rcases IA h with⟨u,v,p0,hx,h⟩|⟨i,p0,hx,h⟩
 .have⟨hm,h⟩:=Zq h
  rw[aS]at hm;have⟨n,cs,hl,h⟩:=ZnI h;have⟨hb,h⟩:=nn h;have hb:=rS hb;have hW:=Ha u v hm.2 (by rw[hl];rfl);have get: ∀k,(E.put u (.loc v n (zR n (C.P.cellsOf t) cs p0 ds))).get k=if u=k then .loc v n (zR n (C.P.cellsOf t) cs p0 ds)else E.get k:=λk=>Env.tT _ _ _ _
  have dp: ∀k,((E.put u (.loc v n (zR n (C.P.cellsOf t) cs p0 ds))).get k).dp=(E.get k).dp:=λk=>by
   rw[get];split
   .rename_i e;subst e;rw[hl];rfl
   .rfl
  have crb: ∀h ab,jV E->CR (E.put u (.loc v n (zR n (C.P.cellsOf t) cs p0 ds))) s h ab->(h= .inr v/\ab= .cells false (zR n (C.P.cellsOf t) cs p0 ds))\/(h≠ .inr v/\CR E s h ab):=by
   intro h ab hE c;cases h with
   |inl i=>exact .inr ⟨Do,c⟩
   |inr k=>
    rcases c with⟨q,n',cs',hq,fL⟩|⟨q,l,p,hq,fL⟩
    .rw[get]at hq
     split at hq
     .grind
     .rename_i cV
      refine .inr ⟨λe=>?_,.inl ⟨q,n',cs',hq,fL⟩⟩;cases e;exact cV (hE.uniq u q v (by rw[hl];rfl) (by rw[hq];rfl))
    .rw[get]at hq
     split at hq
     .cases hq
     .rename_i cV
      refine .inr ⟨λe=>?_,.inr ⟨q,l,p,hq,fL⟩⟩;cases e;exact cV (hE.uniq u q v (by rw[hl];rfl) (by rw[hq];rfl))
  refine .inl ⟨_,_,h,⟨aJ _,aJ _,λhE=>⟨?_,?_,?_,?_⟩,?_,(λk d _ h'=>by
   rw[get]at h';grind),?_,?_,?_,?_,λ_ _ _=>rfl,.inr (by unfold Spec;rw[ho];trivial),.inl rfl⟩,?_⟩
  .intro k v' h';rw[dp]at h';exact hE.lt k v' h'
  .intro k a b c h'
   rw[get]at h';split at h'
   .cases h'
   .exact hE.pl k a b c h'
  .intro k a b c h'
   rw[get]at h';split at h'
   .cases h'
    have:=hE.len u v n cs hl;rw[WU this j1 hb,I3];exact this
   .exact hE.len k a b c h'
  .intro k k' v' h' AO;rw[dp]at h' AO;exact hE.uniq k k' v' h' AO
  .grind
  .intro k _ C' ψ x' hr
   rw[get];split
   .rename_i e;subst e;rw[hl]at hr;exact hr
   .exact hr
  .intro h' ab c
   cases h' with
   |inl i=>exact .inr (.inr c)
   |inr k=>
    rcases c with⟨q,n',cs',hq,fL⟩|⟨q,l,p,hq,fL⟩
    .rw[get]at hq
     split at hq
     .cases hq;exact .inl hW
     .exact .inr (.inr (.inl ⟨q,n',cs',hq,fL⟩))
    .rw[get]at hq
     split at hq
     .cases hq
     .exact .inr (.inr (.inr ⟨q,l,p,hq,fL⟩))
  .grind
  .grind
  .intro ψ Q a w next QQ p room hn
   have:=p.src (x:=x) (by simp[Op.operands,ho]);rw[hx]at this;have⟨cb,e1,e2,e3⟩:=this;have⟨h1,h2,h3⟩:=hv C ψ _ (p.val (x:=y) (by simp[Op.operands,ho]) hd);have hq:Q (.inr v) (.cells false cs):=p.kF (.inr v) _ cb (bw _ hW) (.inl ⟨u,n,cs,hl,rfl⟩) e1;have hlen:=p.iw.len u v n cs hl;have⟨w',hr,dy,hh⟩:=Ni (P:=C.P) (p:=p0) (p.fp.holds _ cb _ e1 hq) h1 h2 AC;rw[e2,fq]at hr;have hex:(execOp a.eval o).run C.P w= .ok .skip w':=by
    simp only[execOp,ho,e3,Instr.storeAt,Sem.run_bind,xh,Result.andThen_ok,ZmP ht _ _ w h3,hr,Sem.run_pure]
   unfold Oper.wp;rw[hex];refine hn ψ (zV Q (.inr v) (.cells false (zR n (C.P.cellsOf t) cs p0 ds))) _ w' ⟨fI.set p.fp e1 hq rfl dy.other (by rw[WU hlen j1 hb];exact hh),Ext.set e1 hq rfl dy.other dy.size dy.tape dy.os dy.output,
    λ_ _ e=> .inl e,λh' ab c cr hw e'=>?_,λh' ab c e' q nw _=>?_⟩ Fd
   .rcases crb h' ab p.iw cr with⟨rfl,rfl⟩|⟨cV,cr⟩
    .exact .inl ⟨rfl,rfl⟩
    .refine .inr ⟨cV,?_⟩
     rcases hw with hw|⟨n1,n2⟩
     .exact p.kF h' ab c (bw h' hw) cr e'
     .exact absurd (cr.sr p.iw) n1
   .exact .inr Fd
 .have⟨hm,h⟩:=Zq h
  have⟨cs,hi,hb,h⟩:=ZoT h;refine cg.abx bw (hWh hm i p0 hx) .u rfl (λ_ _ _ _ e=>by cases e) hi (by rw[xH];exact h) λψ Q a w p=>?_
  have:=p.val (x:=x) (by simp[Op.operands,ho]) hx;generalize P0:a.eval x=xv at this;cases this with
  |ptr _ _ cb e=>
   refine⟨cb,e,λhh=>?_⟩;have⟨h1,h2,h3⟩:=hv C ψ _ (p.val (x:=y) (by simp[Op.operands,ho]) hd);have⟨w',hr,dy,CU⟩:=Ni (P:=C.P) (p:=p0) hh h1 h2 hb;refine⟨undef,w',.inr ⟨?_,rfl⟩,dy,CU,trivial⟩;simp only[execOp,ho,P0,Instr.storeAt,Sem.run_bind,xh,Result.andThen_ok,ZmP ht _ _ w h3,hr,Sem.run_pure]
end
structure qd (C:bE):Prop where
 ty: ∀t t',C.ty t=C.ty t'->t=t'
 eqg: ∀t,C.Em t≠[]->C.P.eqGuardType C.P.depth t=false
 eq: ∀t,C.Em t≠[]->∀ψ xs ys (vs us:Array Value) b w,bJ C ψ xs vs.toList->bJ C ψ ys us.toList->oF (C.Em t) xs ys=some b->(Op.equal t (.agg vs) (.agg us)).run C.P w= .ok b w
 tae: ∃e d,C.P.underlying C.P.rt.typeAssertionError=some (.pointer e)/\C.P.underlying e=some d
section
variable {C:bE} {o:Oper} {D W:dN->Prop} {E:Env} {s:St} {md:Md} {pr ms:al}
theorem Zua (d:Nat) (ht:P.underlying t=some .bool) (x y:Bool) (w:World):(Op.equalIn (d+1) t (.bool x) (.bool y)).run P w= .ok (x==y) w:=by
 simp[Op.equalIn,Zl w ht]
theorem ZwQ (ht:P.underlying t=some .bool) (x y:Bool) (w:World):(Op.equal t (.bool x) (.bool y)).run P w= .ok (x==y) w:=Zua 9999 ht x y w
theorem Zu9 (d:Nat) (ht:P.underlying t=some (.pointer e)) (a:Option Addr) (w:World):
  (Op.equalIn (d+1) t (.pointer a) (.pointer none)).run P w= .ok a.isNone w/\(Op.equalIn (d+1) t (.pointer none) (.pointer a)).run P w= .ok a.isNone w:=by
 cases a<;>constructor<;>simp[Op.equalIn,Zl w ht]
theorem Nx (ht:P.underlying t=some (.pointer e)) (a:Option Addr) (w:World):
  (Op.equal t (.pointer a) (.pointer none)).run P w= .ok a.isNone w/\(Op.equal t (.pointer none) (.pointer a)).run P w= .ok a.isNone w:=Zu9 9999 ht a w
theorem ZrU (d:Nat) (ht:P.underlying t=some (.slice e)) (a:Option Addr) (n m n' m':Nat) (w:World):
  (Op.equalIn (d+1) t (.slice a n m) (.slice none n' m')).run P w= .ok a.isNone w/\(Op.equalIn (d+1) t (.slice none n' m') (.slice a n m)).run P w= .ok a.isNone w:=by
 cases a<;>constructor<;>simp[Op.equalIn,Zl w ht]
theorem MN (ht:P.underlying t=some (.slice e)) (a:Option Addr) (n m n' m':Nat) (w:World):
  (Op.equal t (.slice a n m) (.slice none n' m')).run P w= .ok a.isNone w/\(Op.equal t (.slice none n' m') (.slice a n m)).run P w= .ok a.isNone w:=ZrU 9999 ht a n m n' m' w
theorem Zyp (x y:ByteArray):(x.toList==y.toList)=(x.data.toList==y.data.toList):=by rw[ByteArray.toList_eq,ByteArray.toList_eq]
theorem Zuf {x y:DV} {K:Bool->M Y} (hc:qd C) (h:OL (C.P.underlying t) (C.Em t) x y K s=some r):
  ∃b,K b s=some r/\∀ψ w (x' y':Value) (p q:Operand),VR C ψ x x'->VR C ψ y y'->
   (do eqGuard .eql t p q x' y';Go.binOp .eql t x' y':Sem Value).run C.P w= .ok (.bool b) w/\(do eqGuard .neq t p q x' y';Go.binOp .neq t x' y':Sem Value).run C.P w= .ok (.bool !b) w:=by
 generalize hu:C.P.underlying t=u at h;unfold OL at h;split at h
 ·
  split at h
  ·
   refine⟨_,h,λψ w x' y' p q hx hy=>?_⟩;cases hx;cases hy;constructor<;>simp[eqGuard,Go.binOp,ZwQ hu]
  .cases h
 .have⟨h1,h2⟩:=Zq h
  clear h;have:=Jn h1;subst this;refine⟨_,h2,λψ w x' y' p q hx hy=>?_⟩;cases hx;cases hy;constructor<;>simp[eqGuard,Go.binOp,Op.intCmp,bne]
 .refine⟨_,h,λψ w x' y' p q hx hy=>?_⟩
  cases hx;cases hy;constructor<;>simp[eqGuard,Go.binOp,Op.stringOp,Zyp]
 .split at h
  .refine⟨_,h,λψ w x' y' p q hx hy=>?_⟩
   cases hy;cases hx with
   |LF=>constructor<;>simp[eqGuard,Go.binOp,(Nx hu none w).1]
   |ptr i n cb e=>constructor<;>simp[eqGuard,Go.binOp,(Nx hu _ w).1]
  .cases h
 .split at h
  .refine⟨_,h,λψ w x' y' p q hx hy=>?_⟩
   cases hx;cases hy with
   |LF=>constructor<;>simp[eqGuard,Go.binOp,(Nx hu none w).1]
   |ptr i n cb e=>constructor<;>simp[eqGuard,Go.binOp,(Nx hu _ w).2]
  .cases h
 .split at h
  .refine⟨_,h,λψ w x' y' p q hx hy=>?_⟩
   cases hy;cases hx with
   |uw=>constructor<;>simp[eqGuard,Go.binOp,(MN hu none 0 0 0 0 w).1]
   |slice _ i n m cb a cap e=>constructor<;>simp[eqGuard,Go.binOp,(MN hu _ _ _ 0 0 w).1]
  .cases h
 .split at h
  .refine⟨_,h,λψ w x' y' p q hx hy=>?_⟩
   cases hx;cases hy with
   |uw=>constructor<;>simp[eqGuard,Go.binOp,(MN hu none 0 0 0 0 w).1]
   |slice _ i n m cb a cap e=>constructor<;>simp[eqGuard,Go.binOp,(MN hu _ _ _ 0 0 w).2]
  .cases h
 .rename_i xs ys
  cases df:C.Em t with
  |nil=>rw[df]at h;cases h
  |cons k ks=>
   rw[df]at h;simp only at h;cases hb:oF (k::ks) xs ys
   .rw[hb]at h;cases h
   .rename_i b;rw[hb]at h;refine⟨_,h,λψ w x' y' p q hx hy=>?_⟩;have acN:C.Em t≠[]:=by rw[df];grind
    cases hx with
    |agg _ vs h1 _=>
     cases hy with
     |agg _ us h2 _=>
      have he:=hc.eq t acN ψ _ _ vs us b w h1 h2 (by rw[df];exact hb);constructor<;>simp[eqGuard,Go.binOp,hc.eqg t acN,he]
 .cases h
theorem ZyM (h:op= .and\/op= .or\/op= .xor\/op= .andNot) (t:TypeId) (p q:Operand) (k:IntKind) (x y:Int) (w:World):
  (do eqGuard op t p q (.int k x) (.int k y);Go.binOp op t (.int k x) (.int k y):Sem Value).run P w= .ok (.int k (bits op k x y)) w:=by
 have e:Go.binOp op t (.int k x) (.int k y)=Op.intBits op k x y:=by rcases h with rfl|rfl|rfl|rfl<;>simp[Go.binOp]
 rw[e];rcases h with rfl|rfl|rfl|rfl<;>rfl
theorem Zx6 {x:Operand} (hc:qd C) (ho:o.op= .binOp op t x y yt) (bw: ∀h,W h->D h) (h:aa9 C E o K op t x y s=some r):cg C md pr ms o D W E s K r:=by
 unfold aa9 at h;have⟨a,ha,h⟩:=Zy h;have⟨b,hb,h⟩:=Zy h;have key: ∀d,cI E o K d s=some r->(∀ψ w x' y',VR C ψ a x'->VR C ψ b y'->∃v,(do eqGuard op t x y x' y';Go.binOp op t x' y':Sem Value).run C.P w= .ok v w/\VR C ψ d v)->cg C md pr ms o D W E s K r:=by
  intro d h hr;refine cg.val bw d h λψ Q A w p=>?_
  have⟨v,hv,mX⟩:=hr ψ w _ _ (p.val (x:=x) (by simp[Op.operands,ho]) ha) (p.val (x:=y) (by simp[Op.operands,ho]) hb);refine⟨v,w,?_,.refl w,mX⟩;simp only[execOp,ho,Sem.run_bind]at hv⊢;rw[hv];rfl
 unfold acr at h;split at h
 .have⟨b',h,hr⟩:=Zuf hc h
  exact key _ h λψ w x' y' hx hy=>⟨_,(hr ψ w x' y' x y hx hy).1,.bool _⟩
 .have⟨b',h,hr⟩:=Zuf hc h
  exact key _ h λψ w x' y' hx hy=>⟨_,(hr ψ w x' y' x y hx hy).2,.bool _⟩
 .split at h
  .rename_i k n k' m
   have h0:=h;clear h;have⟨hm,h⟩:=nn h0;clear h0;have hm:=Int.not_lt.2 (ng hm);refine key _ h λψ w x' y' hx hy=>?_
   cases hx;cases hy;exact⟨_,by simp[eqGuard,Go.binOp,Op.shift,hm],.int _ _⟩
  .cases h
 .split at h
  .rename_i k n k' m
   have h0:=h;clear h;have⟨hm,h⟩:=nn h0;clear h0;have hm:=Int.not_lt.2 (ng hm);refine key _ h λψ w x' y' hx hy=>?_
   cases hx;cases hy;exact⟨_,by simp[eqGuard,Go.binOp,Op.shift,hm],.int _ _⟩
  .cases h
 .rename_i n1 n2 n3 n4
  split at h
  .have h0:=h
   clear h;have⟨hk,h⟩:=Zq h0;clear h0;have:=Jn hk;subst this;cases op with
   |eql=>exact absurd rfl n1
   |neq=>exact absurd rfl n2
   |shl=>exact absurd rfl n3
   |shr=>exact absurd rfl n4
   |quo=>
    have⟨hm,h⟩:=nn h;simp only[kN,dM]at hm;refine key _ h λψ w x' y' hx hy=>?_
    cases hx;cases hy;exact⟨_,by simp[eqGuard,Go.binOp,Op.intDiv,hm],.int _ _⟩
   |rem=>
    have⟨hm,h⟩:=nn h;simp only[kN,dM]at hm;refine key _ h λψ w x' y' hx hy=>?_
    cases hx;cases hy;exact⟨_,by simp[eqGuard,Go.binOp,Op.intDiv,hm],.int _ _⟩
   |and|or|xor|andNot=>
    refine key _ h λψ w x' y' hx hy=>?_
    cases hx;cases hy;exact⟨_,ZyM Do t x y _ _ _ w,.int _ _⟩
   |_=>
    refine key _ h λψ w x' y' hx hy=>?_
    cases hx;cases hy;exact⟨_,by simp[eqGuard,Go.binOp,Op.intArith,Op.intCmp]<;>rfl,by constructor⟩
  .rename_i l l'
   cases op with
   |eql=>exact absurd rfl n1
   |neq=>exact absurd rfl n2
   |shl=>exact absurd rfl n3
   |shr=>exact absurd rfl n4
   |add=>
    have⟨hm,h⟩:=nn h;have hm:=rS hm;refine key _ h λψ w x' y' hx hy=>?_
    cases hx with
    |str p=>
     cases hy with
     |str q=>
      have e:p.data.toList++q.data.toList=(p++q).data.toList:=by simp[ByteArray.data_append]
      rw[e];rw[qb,qb]at hm;have rC:p.size+q.size<=4611686018427387904:=hm;refine⟨.string (p++q),?_,.str _⟩;have:=run_string_add_sum (P:=C.P) (w:=w) p q AC;simp[eqGuard,Go.binOp,this]
   |lss|leq|gtr|geq=>
    refine key _ h λψ w x' y' hx hy=>?_
    cases hx;cases hy;refine⟨_,by simp only[eqGuard,Go.binOp,Op.stringOp,ByteArray.toList_eq];rfl,.bool _⟩
   |_=>cases h
  .cases h
end
def Fj (P:Program) (t:TypeId) (b:B):Bool:=match P.underlying t,b with
 |some .bool,.bool=>true
 |some (.int _),.int _=>true
 |some .string,.str=>true
 |_,_=>false
def OK (P:Program):List Field->List B->Nat->Bool
 |[],[],_=>true
 |f::r,b::bs,o=>f.name != "_" &&Nat.beq f.offset o&&Fj P f.type b&&OK P r bs (o+1)
 |_,_,_=>false
def GX (P:Program):List Field->List B->Nat->Bool
 |[],[],_=>true
 |[],_::_,_=>false
 |f::r,bs,o=>f.name != "_" &&Nat.beq f.offset o&&(match P.underlying f.type with
  |some (.struct fs)=>Nat.beq (P.cellsOf f.type) fs.size&&Nat.ble fs.size bs.length&& !(P.stoodInHeld f.type)&&OK P fs.toList (bs.take fs.size) 0&&GX P r (bs.drop fs.size) (o+fs.size)
  |_=>match bs with
   |b::ik=>Fj P f.type b&&GX P r ik (o+1)
   |[]=>false)
def GY (P:Program) (t:TypeId) (bs:List B):Bool:=match P.underlying t with
 |some (.struct fs)=>GX P fs.toList bs 0&& !(P.stoodInHeld t)&& !(P.eqGuardType P.depth t)
 |_=>false
section
variable {C:bE} {ψ:Ps}
theorem Ztc {d:Nat} {b:B} {x y:DV} {u:Value} {r:Bool} (w:World) (hs:Fj C.P t b=true) (hx:VR C ψ x v) (hy:VR C ψ y u) (he:Cv b x y=some r):
  (Op.equalIn (d+1) t v u).run C.P w= .ok r w:=by
 unfold Fj at hs;split at hs
 .rename_i hu
  unfold Cv at he;split at he<;>first|(rename_i h1;cases h1;done)|skip
  .cases hx;cases hy;cases he
   simp[Op.equalIn,Zl w hu]
  grind
 .rename_i hu
  unfold Cv at he;split at he
  .rename_i h1;cases h1
  .rename_i k0 k a k' b' _
   cases hk:wL k0 k&&wL k k'
   .rw[hk]at he;cases he
   .rw[hk]at he;rw[aS]at hk;have:=Jn hk.2;subst this;cases hx;cases hy;cases he;simp[Op.equalIn,Zl w hu]
  .rename_i h1;cases h1
  .cases he
 .rename_i hu
  unfold Cv at he;split at he
  .rename_i h1;cases h1
  .rename_i h1;cases h1
  .cases hx;cases hy;cases he
   have e: ∀a b:ByteArray,(a==b)=(a.data.toList==b.data.toList):=by
    intro a b;have e1:(a==b)=(a.data==b.data):=by cases a;cases b;rfl
    rw[e1,nL];simp only[Ac];exact⟨λh=>by rw[h],λh=>Array.toList_inj.1 h⟩
   rw[Op.equalIn,Sem.run_bind,Zl w hu,Result.andThen_ok,Sem.run_pure,e]
  .cases he
 .cases hs
theorem Np {b:B} {cs:Array Value} (w:World) (hs:Fj C.P e b=true) (hx:cs[off]? =some v):(Go.part e cs off).run C.P w= .ok v w:=by
 refine run_part_plain w ?_ hx;unfold Fj at hs;grind[Program.plainKey]
theorem Zsr {d:Nat} (xs ys:Array Value) (w:World): ∀(fs:List Field) (bs:List B) (ds es:ah) (o:Nat) (r:Bool),OK C.P fs bs o=true->
  bJ C ψ ds (xs.toList.drop o)->bJ C ψ es (ys.toList.drop o)->oF bs ds es=some r->(Op.eqFields (d+1) xs ys fs).run C.P w= .ok r w
 |[],[],[],[],o,r,_,_,_,he=>by
  cases he;simp[Op.eqFields]
 |[],[],_::_,_,_,_,_,_,_,he=>by cases he
 |[],[],[],_::_,_,_,_,_,_,he=>by cases he
 |[],_::_,_,_,_,_,h,_,_,_=>by cases h
 |_::_,[],_,_,_,_,h,_,_,_=>by cases h
 |f::fs,b::bs,[],_,_,_,_,_,_,he=>by cases he
 |f::fs,b::bs,_::_,[],_,_,_,_,_,he=>by cases he
 |f::fs,b::bs,x::ds,y::es,o,r,h,hx,hy,he=>by
  simp only[OK,aS]at h;have⟨⟨⟨hn,ho⟩,hs⟩,hr⟩:=h;have ho:=dQ ho;have hn:f.name≠ "_" :=by simpa using hn
  simp only[oF]at he;cases h1:Cv b x y
  .rw[h1]at he;cases he
  .rename_i r1;cases h2:oF bs ds es
   .rw[h1,h2]at he;cases he
   .rename_i r2;rw[h1,h2]at he;cases he;have LN: ∀ {z:Array Value} {q:DV} {qs:ah},bJ C ψ (q::qs) (z.toList.drop o)->∃v,z[o]? =some v/\VR C ψ q v/\bJ C ψ qs (z.toList.drop (o+1)):=by
     intro z q qs hq;generalize hz:z.toList.drop o=l at hq;cases hq with
     |cons _ v _ vs a b=>
      have e:z.toList[o]? =some v:=by
       have:=congrArg (λl:List Value=>l[0]?) hz;simpa using this
      refine⟨v,by rw[<-lU];exact e,a,?_⟩;have:=congrArg (List.drop 1) hz;rw[kd]at this;rw[this];exact b
    have⟨v,hv,rv,tv⟩:=LN hx;have⟨u,hu,ru,tu⟩:=LN hy;have p1:=Np (C:=C) w hs hv;have p2:=Np (C:=C) w hs hu;have p3:=Ztc (d:=d) w hs rv ru h1;have p4:=Zsr (d:=d) xs ys w fs bs ds es (o+1) r2 hr tv tu h2;rw[<-ho]at p1 p2;simp only[Op.eqFields,hn,ne_eq,not_false_eq_true,nM,Sem.run_bind,p1,p2,p3,Result.andThen_ok];cases r1
    .simp
    .simpa using p4
theorem Zrj: ∀(n:Nat) (bs:List B) (ds es:ah) (r:Bool),oF bs ds es=some r->n<=bs.length->∃r1 r2,oF (bs.take n) (ds.take n) (es.take n)=some r1/\oF (bs.drop n) (ds.drop n) (es.drop n)=some r2/\r=(r1&&r2)
 |0,bs,ds,es,r,h,_=>⟨true,r,by simp[oF],by simpa using h,Do⟩
 |n+1,[],ds,es,r,h,hn=>by simp at hn
 |n+1,b::bs,[],es,r,h,hn=>by cases h
 |n+1,b::bs,_::_,[],r,h,hn=>by cases h
 |n+1,b::bs,x::ds,y::es,r,h,hn=>by
  simp only[oF]at h;cases h1:Cv b x y
  .rw[h1]at h;cases h
  .rename_i a;cases h2:oF bs ds es
   .rw[h1,h2]at h;cases h
   .rename_i c;rw[h1,h2]at h;cases h;have⟨r1,r2,g1,g2,g3⟩:=Zrj n bs ds es c h2 (by simpa using hn);refine⟨a&&r1,r2,?_,by simpa using g2,by rw[g3,Bool.and_assoc]⟩;simp[List.take_succ_cons,oF,h1,g1]
theorem VW {d:Nat} (xs ys:Array Value) (w:World): ∀(fs:List Field) (bs:List B) (ds es:ah) (o:Nat) (r:Bool),GX C.P fs bs o=true->
  bJ C ψ ds (xs.toList.drop o)->bJ C ψ es (ys.toList.drop o)->oF bs ds es=some r->(Op.eqFields (d+2) xs ys fs).run C.P w= .ok r w
 |[],[],ds,es,o,r,_,_,_,he=>by
  cases ds<;>cases es<;>cases he
  simp[Op.eqFields]
 |[],_::_,_,_,_,_,h,_,_,_=>by cases h
 |f::fs,bs,ds,es,o,r,h,hx,hy,he=>by
  unfold GX at h;rw[aS,aS]at h;have⟨⟨hn,ho⟩,h⟩:=h;have ho:=dQ ho;have hn:f.name≠ "_" :=by simpa using hn
  have amn: ∀b ik,bs=b::ik->(Fj C.P f.type b&&GX C.P fs ik (o+1))=true->(Op.eqFields (d+2) xs ys (f::fs)).run C.P w= .ok r w:=by
   rintro b ik rfl h;rw[aS]at h;have⟨hs,hr⟩:=h
   match ds,es,hx,hy,he with
   |[],_,_,_,he=>cases he
   |_::_,[],_,_,he=>cases he
   |x::ds,y::es,hx,hy,he=>
   simp only[oF]at he;cases h1:Cv b x y
   .rw[h1]at he;cases he
   .rename_i r1;cases h2:oF ik ds es
    .rw[h1,h2]at he;cases he
    .rename_i r2;rw[h1,h2]at he;cases he;have LN: ∀ {z:Array Value} {q:DV} {qs:ah},bJ C ψ (q::qs) (z.toList.drop o)->∃v,z[o]? =some v/\VR C ψ q v/\bJ C ψ qs (z.toList.drop (o+1)):=by
      intro z q qs hq;generalize hz:z.toList.drop o=l at hq;cases hq with
      |cons _ v _ vs a b=>
       have e:z.toList[o]? =some v:=by
        have:=congrArg (λl:List Value=>l[0]?) hz;simpa using this
       refine⟨v,by rw[<-lU];exact e,a,?_⟩;have:=congrArg (List.drop 1) hz;rw[kd]at this;rw[this];exact b
     have⟨v,hv,rv,tv⟩:=LN hx;have⟨u,hu,ru,tu⟩:=LN hy;have p1:=Np (C:=C) w hs hv;have p2:=Np (C:=C) w hs hu;have p3:=Ztc (d:=d+1) w hs rv ru h1;have p4:=VW (d:=d) xs ys w fs ik ds es (o+1) r2 hr tv tu h2;rw[<-ho]at p1 p2;simp only[Op.eqFields,hn,ne_eq,not_false_eq_true,nM,Sem.run_bind,p1,p2,p3,Result.andThen_ok];cases r1
     .simp
     .simpa using p4
  split at h
  .rename_i gs hu
   simp only[aS]at h;have⟨⟨⟨⟨hc,hle⟩,cq⟩,hg⟩,hr⟩:=h;have hc:=dQ hc;have hle:=rS hle;have cq:C.P.stoodInHeld f.type=false:=by simpa using cq
   have⟨r1,r2,e1,e2,e3⟩:=Zrj gs.size bs ds es r he hle;have df:jQ C.P f.type=true:=by unfold jQ;rw[hu]
   have prt: ∀z:Array Value,(Go.part f.type z o).run C.P w= .ok (.agg (z.extract o (o+gs.size))) w:=λz=>by
    unfold Go.part;simp only[Sem.run_bind,IH w hu,Result.andThen_ok,df,nM,sb w hu,hc,Sem.run_pure]
   have sub: ∀ {z:Array Value} {qs:ah},bJ C ψ qs (z.toList.drop o)->bJ C ψ (qs.take gs.size) ((z.extract o (o+gs.size)).toList.drop 0):=by
    intro z qs hq;have:=hq.take gs.size;rw[dF,Array.toList_extract,QE,show o+gs.size-o=gs.size by omega];exact this
   have rst: ∀ {z:Array Value} {qs:ah},bJ C ψ qs (z.toList.drop o)->bJ C ψ (qs.drop gs.size) (z.toList.drop (o+gs.size)):=by
    intro z qs hq;have:=hq.drop gs.size;rw[kd]at this;exact this
   have qF:C.P.fieldsOf f.type=gs:=by unfold Program.fieldsOf;rw[hu]
   have p3:(Op.equalIn (d+2) f.type (.agg (xs.extract o (o+gs.size))) (.agg (ys.extract o (o+gs.size)))).run C.P w= .ok r1 w:=by
    rw[run_equalIn_struct w (d+1) f.type _ _ (by rw[qF];exact hu) cq,qF];exact Zsr (d:=d) _ _ w gs.toList (bs.take gs.size) _ _ 0 r1 hg (sub hx) (sub hy) e1
   have p4:=VW (d:=d) xs ys w fs (bs.drop gs.size) _ _ (o+gs.size) r2 hr (rst hx) (rst hy) e2;have p1:=prt xs;have p2:=prt ys;rw[<-ho]at p1 p2 p3;simp only[Op.eqFields,hn,ne_eq,not_false_eq_true,nM,Sem.run_bind,p1,p2,p3,Result.andThen_ok];rw[e3];cases r1
   .simp
   .simpa using p4
  grind
theorem Zww {bs:List B} (h:GY P t bs=true):P.eqGuardType P.depth t=false:=by
 grind[GY]
theorem Zzx {bs:List B} (h:GY C.P t bs=true) {us:Array Value} {b:Bool} (w:World) (hx:bJ C ψ xs vs.toList) (hy:bJ C ψ ys us.toList) (he:oF bs xs ys=some b):
  (Op.equal t (.agg vs) (.agg us)).run C.P w= .ok b w:=by
 unfold GY at h;split at h
 .rename_i fs hu
  simp only[aS]at h;have cq:C.P.stoodInHeld t=false:=by simpa using h.1.2
  unfold Op.equal;have qF:C.P.fieldsOf t=fs:=by grind[Program.fieldsOf]
  rw[show Op.maxDepth=9999+1 from rfl,run_equalIn_struct w 9999 t vs us (by rw[qF];exact hu) cq,qF];exact VW (d:=9997) vs us w fs.toList bs xs ys 0 b h.1.1 (by rw[dF];exact hx) (by rw[dF];exact hy) he
 .cases h
def Lo:List (Nat×List B)->Nat->List B
 |[],_=>[]
 |(k,v)::r,x=>bif Nat.beq k x then v else Lo r x
theorem W5 {P:Program} : ∀ {l:List (Nat×List B)},(l.all λx=>GY P x.1 x.2)=true->∀t,Lo l t≠[]->GY P t (Lo l t)=true
 |[],_,t,h=>absurd rfl h
 |(k,v)::r,hl,t,h=>by
  rw[wY,aS]at hl;simp only[Lo]at h⊢;cases hk:Nat.beq k t
  .rw[hk]at h;exact W5 hl.2 t h
  .rw[hk]at h;rw[<-dQ hk];exact hl.1
end
section
variable {C:bE} {o:Oper} {D W:dN->Prop} {E:Env} {s:St} {md:Md} {pr ms:al}
theorem aB.int {ψ:Ps} {Q:Kn} {a:Act} {w:World} (p:aB C o D E s ψ Q a w) {x:Operand} (hx:x∈o.op.operands) {k:IntKind} {n:Int} (h:E.src C x= .v (.int k n)):a.eval x= .int k n:=by
 have:=p.val hx h;generalize a.eval x=v at this;cases this;rfl
theorem TA {len:Nat} {K:Nat->Nat->M Y} (h:Jm C E len lo hi K s=some r):
  ∃l u,K l u s=some r/\l<=u/\u<=len/\(lo=none->l=0)/\(hi=none->u=len)/\
   ∀ψ Q a w,aB C o D E s ψ Q a w->(∀x,lo=some x->x∈o.op.operands)->(∀x,hi=some x->x∈o.op.operands)->∀(b:Bool) (cap:Nat),len<=cap->(b=false->len=cap)->
    (Instr.sliceBounds b len cap (lo.map a.eval) (hi.map a.eval) none).run C.P w= .ok (l,u,cap) w:=by
 unfold Jm at h;have low: ∀u,(match lo with|none=>K 0 u|some x=>De C E x λl=>aA (decide (0<=l)&&decide (l<=u)) (K l.toNat u)) s=some r->
   ∃l,K l u s=some r/\l<=u/\(lo=none->l=0)/\∀ψ Q a w,aB C o D E s ψ Q a w->(∀x,lo=some x->x∈o.op.operands)->
    (match lo.map a.eval with|some v=>Instr.sliceBound v u .sliceB|none=>pure 0:Sem Nat).run C.P w= .ok l w:=by
  intro u h;cases lo with
  |none=>exact⟨0,h,cN _,λ_=>rfl,λψ Q a w p _=>rfl⟩
  |some x=>
   have⟨k,n,hx,h⟩:=Gh h;have⟨hc,h⟩:=nn h;simp only[aS,yi]at hc;refine⟨n.toNat,h,AC,λh=>(nomatch h),λψ Q a w p hm=>?_⟩;rw[pC,p.int (hm x rfl) hx];exact run_sliceBound _ k n u _ hc.1 hc.2
 cases hi with
 |none=>
  have⟨l,h,h1,h2,h3⟩:=low len h;refine⟨l,len,h,h1,aJ _,h2,λ_=>rfl,λψ Q a w p hl _ b cap sw hb=>?_⟩;have:=h3 ψ Q a w p hl;unfold Instr.sliceBounds;simp only[Option.map_none,Sem.run_bind,Sem.run_pure,Result.andThen_ok,Mm,vG,ot];cases qG:lo.map a.eval with
  |none=>rw[qG]at this;simp only[Sem.run_pure,Result.ok.injEq]at this⊢;simp[this.1]
  |some v=>rw[qG]at this;simp only at this⊢;rw[Sem.run_bind,this];rfl
 |some y=>
  have⟨k,n,hy,h⟩:=Gh h;have⟨hc,h⟩:=nn h;simp only[aS,yi]at hc;have⟨l,h,h1,h2,h3⟩:=low n.toNat h;refine⟨l,n.toNat,h,h1,AC,h2,λh=>(nomatch h),λψ Q a w p hl hh b cap sw hb=>?_⟩;have:=h3 ψ Q a w p hl;have hs: ∀code,(Instr.sliceBound (.int k n) cap code).run C.P w= .ok n.toNat w:=λcode=>run_sliceBound _ k n cap code hc.1 AC
  unfold Instr.sliceBounds;simp only[pC,p.int (hh y rfl) hy,Sem.run_bind,Sem.run_pure,Result.andThen_ok,Mm,vG,ot,hs];cases qG:lo.map a.eval
  .rw[qG]at this;simp only[Sem.run_pure,Result.ok.injEq]at this⊢;simp[this.1]
  .rename_i v;rw[qG]at this;simp only at this⊢;rw[Sem.run_bind,this];rfl
theorem ZuM (ho:o.op= .slice t y lo hi none):y∈o.op.operands/\(∀x,lo=some x->x∈o.op.operands)/\(∀x,hi=some x->x∈o.op.operands):=by
 rw[ho];grind[Op.operands]
theorem ZvJ {sz:Nat} {cap l u:Nat} {lo:Bool} (jD:ψ (.inl i)=some cb) (hb:0<cap->base=⟨cb.b,cb.o+off,none⟩/\off+cap*sz<=cb.m)
  (h1:l<=u) (h2:u<=n) (h3:n<=cap) (qG:lo=false->l=0):
  VR C ψ (.slice sz (cY lo (some (i,off)) (l*sz)) (JI lo l u)) (.slice (some (if cap=l then base else base.add (l*sz))) (u-l) (cap-l)):=by
 have e:cY lo (some (i,off)) (l*sz)=some (i,off+l*sz):=by
  grind[cY,tm]
 have e2:JI lo l u=u-l:=by
  grind[JI]
 rw[e,e2];refine .slice sz i _ _ cb _ _ jD AC (λhc=>?_);have⟨h4,h5⟩:=hb AC;rw[aY AC,h4,B1];refine⟨by rw[vI],?_⟩;have:off+l*sz+(cap-l)*sz=off+cap*sz:=by rw[vI,<-w8];congr 2;omega
 omega
theorem ZuF (ho:o.op= .slice t y lo hi none) (bw: ∀h,W h->D h) (XY:(∃m e,C.P.underlying t=some (.array m e))->∀i,D (.inl i)) (h:WA C E o K t y lo hi s=some r):cg C md pr ms o D W E s K r:=by
 have⟨my,Qb,Qa⟩:=ZuM ho;unfold WA at h;cases ht:C.P.underlying t
 .rw[ht]at h;cases h
 .rename_i td;rw[ht]at h;cases td with
  |string=>
   simp only at h;have⟨d,hd,h⟩:=Zy h;cases d with
   |str x=>
    simp only at h;have⟨l,u,h,h1,h2,h3,h4,hr⟩:=TA (o:=o) (D:=D) h;refine cg.val bw _ h λψ Q a w p=>?_
    have hv:=p.val my hd;generalize hy:a.eval y=v at hv;cases hv with
    |str x=>
     have hlen:x.data.toList.length=x.size:=by rw[qb];rfl
     have kX:=hr ψ Q a w p Qb Qa false x.size AC (λ_=>hlen);rw[hlen]at kX;refine⟨.string (x.extract l u),w,?_,.refl w,?_⟩
     .simp only[execOp,ho,hy,Instr.sliceAt,Sem.run_bind,Zl w ht,Result.andThen_ok,Instr.slice,Option.map_none,Mm,vG,ot,Sem.run_pure,kX]
     .have e:GP lo.isSome hi.isSome x.data.toList l u=(x.extract l u).data.toList:=by
       rw[ByteArray.data_extract,Array.toList_extract,QE];have e2:(x.data.toList.take u).drop l=(x.data.toList.drop l).take (u-l):=by rw[BC]
       cases lo
       .have:=h3 rfl;subst this;cases hi
        .have:=h4 rfl;subst this;simp only[GP,Mm,af];rw[dF,w9,dG (aJ _)]
        .simp[GP]
       .cases hi
        .have:=h4 rfl;subst this;simp only[GP,Option.isSome_some,Mm,ae,af];rw[dG Do]
        .rw[GP,Option.isSome_some,ae];exact e2
      rw[e];exact .str _
   |_=>cases h
  |slice e=>
   simp only at h;have⟨ed,he,h⟩:=qX h;have⟨d,hd,h⟩:=Zy h;cases d with
   |slice z a n=>
    simp only at h;have⟨hz,h⟩:=Zq h;have⟨l,u,h,h1,h2,h3,h4,hr⟩:=TA (o:=o) (D:=D) h;refine cg.val bw _ h λψ Q A w p=>?_
    have hv:=p.val my hd;generalize hy:A.eval y=v at hv;cases hv with
    |uw=>
     have kX:=hr ψ Q A w p Qb Qa true 0 (aJ _) (λh=>nomatch h);have:l=0:=AC
     subst this;have:u=0:=AC
     subst this;refine⟨.slice none 0 0,w,?_,.refl w,?_⟩
     .simp[execOp,ho,hy,Instr.sliceAt,Instr.slice,Zl w ht,kX,sb w he]
     .cases lo<;>exact .uw _
    |slice _ i off _ cb base cap jD sw hb=>
     simp only[Option.isNone_some,Bool.or_false]at hz;have hz:=dQ hz;subst hz;have kX:=hr ψ Q A w p Qb Qa true cap sw (λh=>nomatch h);refine⟨_,w,?_,.refl w,ZvJ jD hb h1 h2 sw (λhl=>h3 (by cases lo<;>first|rfl|cases hl))⟩;simp only[execOp,ho,hy,Instr.sliceAt,Instr.slice,Sem.run_bind,Zl w ht,Result.andThen_ok,Option.map_none,kX,sb w he,Sem.run_pure,pC];by_cases cU:cap=l<;>simp[cU]
   |_=>cases h
  |array m e=>
   simp only at h;have⟨ed,he,h⟩:=qX h;have⟨d,hd,h⟩:=Zy h;cases d with
   |ptr a=>
    simp only at h;have⟨i,off,ha,h'⟩:=WR h;clear h;subst ha;have⟨f,cs,cq,hle,h⟩:=IY h';have⟨l,u,h,h1,h2,h3,h4,hr⟩:=TA (o:=o) (D:=D) h;refine cg.val bw _ h λψ Q A w p=>?_
    have hv:=p.val my hd;generalize hy:A.eval y=v at hv;cases hv with
    |ptr _ _ cb jD=>
     have hh:=(p.at (XY ⟨m,e,ht⟩ i) cq jD).1;have kX:=hr ψ Q A w p Qb Qa false m (aJ _) (λ_=>rfl);refine⟨_,w,?_,.refl w,ZvJ (cap:=m) (base:=⟨cb.b,cb.o+off,none⟩) jD Fd h1 h2 (aJ _) (λhl=>h3 (by cases lo<;>first|rfl|cases hl))⟩;simp only[execOp,ho,hy,Instr.sliceAt,Sem.run_bind,Zl w ht,Result.andThen_ok,xh,Option.map_none,kX,sb w he,Sem.run_pure]
   |_=>cases h
  |_=>cases h
theorem Zu0 (ho:o.op= .range t y) (bw: ∀h,W h->D h) (h:Wp C E o K t y s=some r):cg C md pr ms o D W E s K r:=by
 unfold Wp at h;cases ht:C.P.underlying t
 .rw[ht]at h;cases h
 .rename_i td;rw[ht]at h;cases td with
  |string=>
   simp only at h;have⟨d,hd,h⟩:=Zy h;cases xH:o.dst
   .rw[xH]at h;cases d<;>cases h
   .rename_i u;rw[xH]at h;cases d with
    |str l=>
     simp only at h;refine cg.aed (by grind[Spec]) bw u xH _ _ (.inr ⟨l,0,rfl,rfl⟩) h λψ Q a w p=>?_
     have hv:=p.val (x:=y) (by simp[Op.operands,ho]) hd;generalize hy:a.eval y=v at hv;cases hv with
     |str x=>
      refine⟨w.alloc (.stringIter x 0),⟨w.heap.size,0,0⟩,?_,.alloc w _,aJ _,Do,rfl,x,heap_alloc_new w _,rfl⟩;simp[execOp,ho,hy,Instr.range,Zl w ht]
    |_=>cases h
  |_=>cases h
theorem ZyI (s:ByteArray) (i:Nat):s.get! i=s.data.toList.getD i 0:=by
 show s.data[i]! =_;rw[Array.getElem!_eq_getD,cz,tg];simp;rfl
theorem Cf (s:ByteArray) (i:Nat):dec s.data.toList i=Utf8.decode s i:=by
 have hl:s.data.toList.length=s.size:=by rw[qb];rfl
 simp[dec,Utf8.decode,ZyI,hl]
theorem ZnN {b:Nat} {x:ByteArray} (h:w.heap[b]? =some (.stringIter x p)):(getObj b).run P w= .ok (.stringIter x p) w:=by
 simp[getObj,Sem.run,h]
theorem ZuG {b:Nat} {x y:ByteArray} {q:Nat} (h:w.heap[b]? =some (.stringIter x p)):(setObj b (.stringIter y q)).run P w= .ok () (mZ w b (.stringIter y q)):=by
 rw[setObj,Sem.run,h];rfl
theorem ZwI {t:Nat} (ho:o.op= .next (.tmp t) true) (bw: ∀h,W h->D h) (hW: ∀v,(E.get t).dp=some v->W (.inr v)) (h:Xc E o K ms t s=some r):cg C md pr ms o D W E s K r:=by
 unfold Xc at h;cases hl:E.get t with
 |it v l pos=>
  rw[hl]at h;cases xH:o.dst
  .rw[xH]at h;cases h
  .rename_i d;rw[xH]at h;simp only at h;have⟨hc,h⟩:=IC h;rw[yf]at hc;have hWv:=hW v (by rw[hl];rfl);have at_: ∀ψ Q a w,aB C o D E s ψ Q a w->∃cb x,ψ (.inr v)=some cb/\a.eval (.tmp t)= .pointer (some ⟨cb.b,0,none⟩)/\Q (.inr v) (.iter l pos)/\w.heap[cb.b]? =some (.stringIter x pos)/\x.data.toList=l:=by
    intro ψ Q a w p;have:=p.args t (by simp[Op.operands,ho]);rw[hl]at this;have⟨cb,e1,e2⟩:=this;have hq:=p.kF (.inr v) (.iter l pos) cb (bw _ hWv) (.inr ⟨t,l,pos,hl,rfl⟩) e1;have⟨x,h1,h2⟩:=p.fp.holds _ cb _ e1 hq;exact⟨cb,x,e1,e2,hq,h1,h2⟩
   cases hb:Nat.blt pos l.length
   .rw[hb]at h;simp only[af]at h;refine cg.pure bw (.rN [.bool false]) rfl (λ_ _ _ _ e=>nomatch e) (by rw[xH];exact h) λψ Q a w p=>?_
    have⟨cb,x,e1,e2,hq,h1,h2⟩:=at_ ψ Q a w p;have hlen: ¬pos<x.size:=by
     have:x.data.toList.length=x.size:=by rw[qb];rfl
     rw[<-this,h2];intro av;have:Nat.blt pos l.length=true:=by rw[rR];exact av
     rw[hb]at this;cases this
    refine⟨.tuple #[.bool false],w,?_,.refl w,_,rfl,.cons _ _ _ _ (.bool _) .nil⟩;simp only[execOp,ho,e2,Instr.next,Sem.run_bind,ZnN h1,Result.andThen_ok,hlen,ot,Sem.run_pure]
   .rw[hb]at h;simp only[ae]at h;have av:pos<l.length:=by rw[rR]at hb;exact hb
    have get: ∀k,((E.put t (.it v l (pos+wR l pos))).put d (.rN [.bool true,.int .i64 pos,.int .i32 (Eg l pos)])).get k=
      if d=k then .rN [.bool true,.int .i64 pos,.int .i32 (Eg l pos)]else if t=k then .it v l (pos+wR l pos)else E.get k:=λk=>by rw[Env.tT,Env.tT]
    have uniq:jV E->∀q,(E.get q).dp=some v->q=t:=λhE q hq=>hE.uniq q t v hq (by rw[hl];rfl)
    refine .inl ⟨_,_,h,⟨aJ _,aJ _,λhE=>⟨?_,?_,?_,?_⟩,?_,(λk d' _ h'=>by
     rw[get]at h';grind),?_,?_,?_,?_,λ_ _ _=>rfl,.inr (by unfold Spec;rw[ho];trivial),.inl rfl⟩,?_⟩
    .intro k v' h'
     rw[get]at h';split at h'
     .cases h'
     .split at h'
      .cases h';exact hE.lt t v (by rw[hl];rfl)
      .exact hE.lt k v' h'
    .intro k a b c h'
     rw[get]at h';split at h'
     .cases h'
     .split at h'
      .cases h'
      .exact hE.pl k a b c h'
    .intro k a b c h'
     rw[get]at h';split at h'
     .cases h'
     .split at h'
      .cases h'
      .exact hE.len k a b c h'
    .intro k k' v' h' AO
     rw[get]at h' AO;split at h'
     .cases h'
     .split at AO
      .cases AO
      .split at h'<;>split at AO
       .omega
       .cases h';grind
       .cases AO;grind
       .exact hE.uniq k k' v' h' AO
    .grind
    .intro k hk C' ψ x hr
     rw[get,aY (λe=>hk (by rw[xH,e]))];split
     .rename_i e;subst e;rw[hl]at hr;exact hr
     .exact hr
    .intro h' ab c
     cases h' with
     |inl i=>exact .inr (.inr c)
     |inr k=>
      rcases c with⟨q,n',cs',hq,fL⟩|⟨q,l',p,hq,fL⟩
      .rw[get]at hq
       split at hq
       .cases hq
       .split at hq
        .cases hq
        .exact .inr (.inr (.inl ⟨q,n',cs',hq,fL⟩))
      .rw[get]at hq
       split at hq
       .cases hq
       .split at hq
        .grind
        .exact .inr (.inr (.inr ⟨q,l',p,hq,fL⟩))
    .grind
    .grind
    .intro ψ Q a w next QQ p room hn
     have⟨cb,x,e1,e2,hq,h1,h2⟩:=at_ ψ Q a w p;have hx:x.data.toList.length=x.size:=by rw[qb];rfl
     have vv:pos<x.size:=by rw[<-hx,h2];exact av
     have dy:=BM.mZ w cb.b (.stringIter x (pos+wR l pos));have hr:(execOp a.eval o).run C.P w= .ok (.value (.tuple #[.bool true,.int .i64 pos,.int .i32 (Eg l pos)])) (mZ w cb.b (.stringIter x (pos+wR l pos))):=by
      have hd:=Cf x pos;rw[h2]at hd;simp only[execOp,ho,e2,Instr.next,Sem.run_bind,ZnN h1,Result.andThen_ok,vv,nM,<-hd,ZuG h1,Sem.run_pure];rfl
     unfold Oper.wp;rw[hr];refine hn ψ (zV Q (.inr v) (.iter l (pos+wR l pos))) _ _ ⟨fI.set p.fp e1 hq rfl dy.other ⟨x,ND (IW h1) _,h2⟩,Ext.set e1 hq rfl dy.other dy.size dy.tape dy.os dy.output,
      λ_ _ e=> .inl e,λh' ab c cr hw e'=>?_,λh' ab c e' q nw _=>?_⟩ (λd' lL=>?_)
     .have fT:(h'= .inr v/\ab= .iter l (pos+wR l pos))\/(h'≠ .inr v/\CR E s h' ab):=by
       cases h' with
       |inl i=>exact .inr ⟨Do,cr⟩
       |inr k=>
        rcases cr with⟨q,n',cs',hq,fL⟩|⟨q,l',p',hq,fL⟩
        .rw[get]at hq
         split at hq
         .cases hq
         .split at hq
          .cases hq
          .rename_i KD
           refine .inr ⟨λe=>?_,.inl ⟨q,n',cs',hq,fL⟩⟩;cases e;exact KD (uniq p.iw q (by rw[hq];rfl)).symm
        .rw[get]at hq
         split at hq
         .cases hq
         .split at hq
          .grind
          .rename_i KD
           refine .inr ⟨λe=>?_,.inr ⟨q,l',p',hq,fL⟩⟩;cases e;exact KD (uniq p.iw q (by rw[hq];rfl)).symm
      rcases fT with⟨rfl,rfl⟩|⟨Y9,cr⟩
      .exact .inl ⟨rfl,rfl⟩
      .refine .inr ⟨Y9,?_⟩
       rcases hw with hw|⟨n1,n2⟩
       .exact p.kF h' ab c (bw h' hw) cr e'
       .exact absurd (cr.sr p.iw) n1
     .exact .inr Fd
     .rw[xH]at lL;cases lL
      rw[get,bx rfl];exact⟨_,rfl,.cons _ _ _ _ (.bool _) (.cons _ _ _ _ (.int _ _) (.cons _ _ _ _ (.int _ _) .nil))⟩
 |_=>rw[hl]at h;cases h
theorem Zmo (h1:P.underlying P.rt.typeAssertionError=some (.pointer e)) (_h2:P.underlying e=some d) (i c:Option TypeId) (a:TypeId) (m:String) (w:World):
  ∃t v o,(runtimePanic (.typeAssertion i c a m):Sem Value).run P w= .halt (.panic (.iface t v)) (w.alloc o):=by
 simp only[runtimePanic,Sem.run_bind,run_program,Result.andThen_ok,elemOf,Zl w h1,Sem.run_pure,Uj,run_goPanic];grind
theorem yk.more (ee: ∀ψ Q a w,aB C o D E s ψ Q a w->∃t v w',(execOp a.eval o).run C.P w= .halt (.panic (.iface t v)) w'/\iD w w') (hD: ∀i,D (.inl i)):yk C o D E s s:=by
 refine⟨aJ _,λψ Q a w next QQ p _ hn=>?_⟩;have⟨t,v,w',hr,hm⟩:=ee ψ Q a w p;unfold Oper.wp;rw[hr];exact hn ψ Q _ w' ⟨t,v,rfl⟩ (p.fp.more p.gU hm) (Ext.more hm) (λ_ _ e=> .inl e) λi ab cb h e=>p.kF (.inl i) ab cb (hD i) h e
theorem Vf (h:LB md s=some r):md.x=0/\r=(.fH,s):=by
 unfold LB at h;have⟨h1,h⟩:=Zq h;refine⟨dQ h1,?_⟩;grind[AF,gf]
theorem Zsx (hc:qd C) (ho:o.op= .typeAssert y xt t false) (bw: ∀h,W h->D h) (hD: ∀i,D (.inl i)) (h:V9 C E o K md t y s=some r):cg C md pr ms o D W E s K r:=by
 unfold V9 at h;cases ht:C.P.underlying t
 .rw[ht]at h;cases h
 .rename_i td;have KA: ∀m,td≠ .interface m:=by rintro m rfl;rw[ht]at h;cases h
  have h':fO C E y (λd=>Go.Gv.we (LB md) d (C.ty t) λd=>AK (oj C.P t) d (cI E o K)) s=some r:=by rw[ht]at h;cases td<;>first|exact h|grind
  have⟨d,hd,h'⟩:=Zy h';have acH: ∀(a:Act) (w:World),(a.eval y= .nilIface\/∃t' v,a.eval y= .iface t' v/\t'≠t)->∃t v w',(execOp a.eval o).run C.P w= .halt (.panic (.iface t v)) w'/\iD w w':=by
   intro a w hy;have⟨e,ed,e1,e2⟩:=hc.tae;rcases hy with hy|⟨t',v,hy,cV⟩
   .have⟨tv,v,ob,hv⟩:=Zmo e1 e2 (some xt) none t "" w
    refine⟨tv,v,_,?_,.alloc w ob⟩;simp only[execOp,ho,hy,Instr.typeAssert,Sem.run_bind,Zl w ht,Result.andThen_ok];cases td<;>first|(simp only[vG,ot,hv,Result.andThen_halt];done)|exact absurd rfl (KA _)
   .have⟨tv,v,ob,hv⟩:=Zmo e1 e2 (some xt) (some t') t "" w
    refine⟨tv,v,_,?_,.alloc w ob⟩;simp only[execOp,ho,hy,Instr.typeAssert,Sem.run_bind,Zl w ht,Result.andThen_ok];cases td<;>first|(simp only[aY cV,vG,ot,hv,Result.andThen_halt];done)|exact absurd rfl (KA _)
  cases d with
  |iface t' d=>
   simp only[Go.Gv.we]at h';cases hb:Nat.beq t' (C.ty t)
   .rw[hb]at h';obtain⟨hx,rfl⟩:=Vf h';refine .inr ⟨hx,s,rfl,yk.more (λψ Q a w p=>acH a w (.inr ?_)) hD⟩;have hv:=p.val (x:=y) (by simp[Op.operands,ho]) hd;generalize hy:a.eval y=v at hv;cases hv with
    |iface t0 _ v hv=>exact⟨t0,v,rfl,λe=>by subst e;rw[FG]at hb;cases hb⟩
   .rw[hb]at h';simp only[ae]at h';have⟨d',h',hr,_⟩:=NV h';refine cg.val bw _ h' λψ Q a w p=>?_
    have hv:=p.val (x:=y) (by simp[Op.operands,ho]) hd;generalize hy:a.eval y=v at hv;cases hv with
    |iface t0 _ v hv=>
     have:=hc.ty _ _ (dQ hb);subst this;refine⟨v,w,?_,.refl w,hr C ψ v hv⟩;simp only[execOp,ho,hy,Instr.typeAssert,Sem.run_bind,Zl w ht,Result.andThen_ok];cases td<;>first|(simp;done)|exact absurd rfl (KA _)
  |nilIface=>
   obtain⟨hx,rfl⟩:=Vf h';refine .inr ⟨hx,s,rfl,yk.more (λψ Q a w p=>acH a w (.inl ?_)) hD⟩;have hv:=p.val (x:=y) (by simp[Op.operands,ho]) hd;generalize hy:a.eval y=v at hv;cases hv;rfl
  |_=>cases h'
theorem Zuz (ho:o.op= .panic y) (hD: ∀i,D (.inl i)) (h:Wi C E md y s=some r):cg C md pr ms o D W E s K r:=by
 unfold Wi at h;have⟨d,hd,h⟩:=Zy h;cases d with
 |iface t d=>
  obtain⟨hx,rfl⟩:=Vf h;refine .inr ⟨hx,s,rfl,yk.more (λψ Q a w p=>?_) hD⟩;have hv:=p.val (x:=y) (by simp[Op.operands,ho]) hd;generalize hy:a.eval y=v at hv;cases hv with
  |iface t0 _ v hv=>exact⟨t0,v,w,by simp only[execOp,ho,hy,Instr.panic,Sem.run_bind,run_goPanic,Result.andThen_halt],.refl w⟩
 |_=>cases h
end
section
variable {C:bE} {o:Oper} {D W:dN->Prop} {E:Env} {s:St} {md:Md} {pr ms:al}
theorem Zvu: ∀(l:List Value) (k off:Nat) (c:Array Value),(l.zipIdx k).foldl (λcs (x:Value×Nat)=>cs.setIfInBounds (off+x.2) x.1) c=rJ c (off+k) l
 |[],_,_,_=>rfl
 |v::l,k,off,c=>by
  rw[List.zipIdx_cons,zZ,rJ,Zvu l (k+1) off];rfl
theorem Zyl (place:Nat->ai) (cells:Array Value) (i:Nat) (v:Value) (rest:List (Nat×Value)) {size:Nat} (hp:place i=some (off,size)) (h1:v.cells.size=size) (h2:off+size<=cells.size):
  Instr.fill place cells ((i,v)::rest)=Instr.fill place (rJ cells off v.cells.toList) rest:=by
 subst h1;have e:v.cells.zipIdx.foldl (λcs (x:Value×Nat)=>cs.setIfInBounds (off+x.2) x.1) cells=rJ cells off v.cells.toList:=by
  rw[<-Array.foldl_toList,Array.toList_zipIdx];exact Zvu v.cells.toList 0 off cells
 have hn: ¬(off+v.cells.size>cells.size):=AC
 simp only[Instr.fill,hp,ne_eq,not_true_eq_false,decide_false,wX,hn,vG,ot];grind
theorem bJ.zJ (h:bJ C ψ ds vs.toList):ds.length=vs.size:=by have:=h.len;simpa using this
theorem ZAS {us:List Value} (h:bJ C ψ cs vs.toList) (h':bJ C ψ ds us) (hl:off+ds.length<=cs.length):bJ C ψ (cG cs off ds) (rJ vs off us).toList:=by
 have e1:=h.zJ;have e2:=h'.len;refine bJ.of _ _ (by simp[I3,e1]) λj d v hd hv=>?_
 rw[Jj cs off ds j hl]at hd;rw[lU,Oa _ _ _ _ AC]at hv;split at hd
 .rw[bx AC]at hv
  have⟨v',fm,hr⟩:=h'.get hd;rw[hv]at fm;cases fm;exact hr
 .rw[aY AC]at hv
  have⟨v',fm,hr⟩:=h.get hd;rw[lU,hv]at fm;cases fm;exact hr
theorem UT {N:Nat} {place:Nat->ai} {r:Out Y×St} : ∀ {l:List (Nat×Operand)} {cs:ah} {K:ah->M Y},Df E C N place l cs K s=some r->cs.length=N->
  ∃cs',K cs' s=some r/\cs'.length=N/\∀ψ Q a w,aB C o D E s ψ Q a w->(∀x∈l,x.2∈o.op.operands)->∀vs:Array Value,bJ C ψ cs vs.toList->cs.all one=true->
   ∃jI,Instr.fill place vs (l.map λx=>(x.1,a.eval x.2))=some jI/\bJ C ψ cs' jI.toList/\cs'.all one=true
 |[],cs,K,h,hl=>⟨cs,h,hl,λψ Q a w _ _ vs hr h1=>⟨vs,rfl,hr,h1⟩⟩
 |(i,x)::l,cs,K,h,hl=>by
  simp only[Df]at h;cases hp:place i
  .rw[hp]at h;cases h
  .rename_i on;have⟨off,n⟩:=on;rw[hp]at h;simp only at h;have⟨hb,h⟩:=Zq h;have hb:=rS hb;have⟨d,hd,h⟩:=Zy h;have go: ∀ds,Df E C N place l (cG cs off ds) K s=some r->ds.length=n->(∀(ψ:Ps) v,VR C ψ d v->bJ C ψ ds v.cells.toList/\ds.all one=true)->
     ∃cs',K cs' s=some r/\cs'.length=N/\∀ψ Q a w,aB C o D E s ψ Q a w->(∀y∈(i,x)::l,y.2∈o.op.operands)->∀vs:Array Value,bJ C ψ cs vs.toList->cs.all one=true->
      ∃jI,Instr.fill place vs (((i,x)::l).map λx=>(x.1,a.eval x.2))=some jI/\bJ C ψ cs' jI.toList/\cs'.all one=true:=by
    intro ds h j1 hr;have⟨cs',h,Kj,sJ⟩:=UT h (by rw[I3];exact hl);refine⟨cs',h,Kj,λψ Q a w p hm vs hv h1=>?_⟩;have⟨h3,h4⟩:=hr ψ _ (p.val (hm (i,x) Do) hd);have cJ:(a.eval x).cells.size=n:=by rw[<-j1,h3.zJ]
    have Db:=hv.zJ;have⟨jI,e1,e2,e3⟩:=sJ ψ Q a w p Fd _ (ZAS (off:=off) hv h3 AC) (Zvl h1 h4 AC);refine⟨jI,?_,e2,e3⟩;rw[kf,Zyl place vs i _ _ hp cJ AC];exact e1
   have plain:(∀cs,d≠ .agg cs)->(bif Nat.beq n 1 then aA (one d) (Df E C N place l (cG cs off [d]) K)else fail) s=some r->_:=λhna h=>by
    have⟨h1,h⟩:=Zq h;have⟨h2,h⟩:=nn h;exact go [d] h (by simpa using (dQ h1).symm) (λψ v hv=>by rw[hv.acy h2];exact⟨.cons _ _ _ _ hv .nil,by simp[h2]⟩)
   cases d with
   |agg ds=>
    simp only at h;have⟨h1,h⟩:=VM h;rw[WU hl h1 hb]at h;exact go ds h h1 (λψ v hv=>by cases hv with|agg _ vs a b=>exact⟨a,b⟩)
   |_=>exact plain Do h
theorem ZlB {P:Program} : ∀(fs:List Field),(fs.all λf=>(P.info? f.type).isSome)=true->fs.mapM (λf=>(P.info? f.type).map λi=>(f.offset,i.size))=some (fs.map λf=>(f.offset,P.cellsOf f.type))
 |[],_=>rfl
 |f::fs,h=>by
  simp only[wY,aS]at h;have⟨i,hi⟩:=Option.isSome_iff_exists.1 h.1;simp[List.mapM_cons,hi,ZlB fs h.2,Program.cellsOf]
theorem Zut (ho:o.op= .build t ps) (bw: ∀h,W h->D h) (h:WD C E o K t ps s=some r):cg C md pr ms o D W E s K r:=by
 unfold WD at h;cases hz:oB C.P t
 .rw[hz]at h;cases h
 .rename_i z;rw[hz]at h;simp only at h;have⟨jT,h⟩:=Zq h;have⟨cs',h,hl,hr⟩:=UT (o:=o) (D:=D) h rfl;refine cg.val bw _ h λψ Q a w p=>?_
  unfold oB at hz;cases hi:C.P.info? t
  .rw[hi]at hz;cases hz
  .rename_i it;rw[hi]at hz;simp only at hz;cases wK:it.zero
   .rw[wK]at hz;cases hz
   .rename_i zv;rw[wK]at hz;have⟨kD,iN⟩:=F8 (C:=C) (ψ:=ψ) hz;have⟨jI,e1,e2,e3⟩:=hr ψ Q a w p (λx hx=>by simp only[Op.operands,ho,List.mem_toArray,jK];exact⟨x,hx,rfl⟩) _ kD iN;refine⟨.agg jI,w,?_,.refl w,.agg _ _ e2 e3⟩;have hb:C.P.built t (ps.map λ(i,x)=>(i,a.eval x)).toList=some jI:=by
     have yO:Instr.fill (WY C.P t) zv.cells (ps.map λ(i,x)=>(i,a.eval x)).toList=some jI:=by rw[Array.toList_map];exact e1
     unfold Program.built Zs2 at*
     unfold WY at yO;cases hu:C.P.underlying t
     .rw[hu]at jT;cases jT
     .rename_i td;rw[hu]at jT yO;rw[hi];cases td with
      |struct fs=>
       simp only at jT⊢;rw[wK,ZlB _ jT];grind
      |array m e=>
       simp only at jT⊢;have⟨ie,wC⟩:=Option.isSome_iff_exists.1 jT;rw[wK,wC];simp only at yO⊢;rw[<-yO];simp[Program.cellsOf,wC]
      |_=>cases jT
    rw[execOp,ho,Sem.run_bind,run_build w t _ _ hb,Result.andThen_ok,Sem.run_pure]
theorem F7 (n:Nat) (z:ah):(iO n z).length=n*z.length:=by
 induction n with
 |zero=>simp[iO]
 |succ n ih=>
  have:iO (n+1) z=z++iO n z:=FS
  rw[this,ba,ih,FJ,tm]
theorem D4 (h:z.all one=true):(iO n z).all one=true:=by
 induction n with
 |zero=>rfl
 |succ n ih=>
  have:iO (n+1) z=z++iO n z:=FS
  rw[this,uC,h,ih];rfl
theorem ZzT (n:Nat) (z:ah) (j:Nat) (h:j<n*z.length):(iO n z)[j]? =z[j%z.length]? :=by
 induction n generalizing j with
 |zero=>simp at h
 |succ n ih=>
  have e:iO (n+1) z=z++iO n z:=FS
  rw[e];by_cases hj:j<z.length
  .rw[nc hj,Mj hj]
  .rw[kO AC,ih (j-z.length) (by rw[FJ]at h;omega)]
   rw[show j%z.length=(j-z.length)%z.length from by rw[Nat.mod_eq_sub_mod AC]]
theorem VO (h:bJ C ψ z zv.toList) (n m:Nat) (hm:n*z.length<=m):bJ C ψ (iO n z) ((madeCells zv m).toList.take (iO n z).length):=by
 have hl:=h.zJ;refine bJ.of _ _ (by grind[size_madeCells,F7]) λj d v hd hv=>?_
 rw[F7,uE]at hv;split at hv
 .rename_i hj
  rw[ZzT n z j hj]at hd;have⟨v',fm,hr⟩:=h.get hd;rw[lU]at hv fm;grind[madeCells]
 .cases hv
theorem Zn3 {len:Nat} (ho:o.op= .buildSlice t len ps) (bw: ∀h,W h->D h) (h:Tv C E o K t len ps s=some r):cg C md pr ms o D W E s K r:=by
 unfold Tv at h;unfold yz at h;cases ht:C.P.underlying t
 .rw[ht]at h;cases h
 .rename_i td;rw[ht]at h;cases td with
  |slice e=>
   simp only at h;cases hz:oB C.P e
   .rw[hz]at h;cases h
   .rename_i z;rw[hz]at h;simp only at h;have⟨hb,h⟩:=Zq h;rw[aS]at hb;have lK:=rS hb.1;have cZ:=dQ hb.2;have⟨cs',h,hl,hr⟩:=UT (o:=o) (D:=D) h (by rw[F7,cZ]);refine cg.Lt (by unfold uK;rw[ho];trivial) bw (.slice (C.P.cellsOf e) (some (s.length,0)) len) cs' h λψ Q a w p=>?_
    have⟨zv,Lf,HI,kD⟩:=Uz (P:=C.P) w hz;have HI:=HI C ψ;have wC: ∃ie,C.P.info? e=some ie/\ie.size=C.P.cellsOf e:=by
     unfold oB at hz;cases hi:C.P.info? e
     .rw[hi]at hz;cases hz
     .rename_i ie;exact⟨ie,rfl,by simp[Program.cellsOf,hi]⟩
    have⟨ie,wC,adj⟩:=wC;have Kw:=VO HI len (len*C.P.cellsOf e) (by rw[cZ];exact aJ _);rw[F7,cZ,Jb (by simp[size_madeCells])]at Kw;have⟨jI,e1,e2,e3⟩:=hr ψ Q a w p (λx hx=>by simp only[Op.operands,ho,List.mem_toArray,jK];exact⟨x,hx,rfl⟩) _ Kw (D4 kD);have Db:=e2.zJ;rw[hl]at Db;refine⟨.slice (some ⟨w.heap.size,0,none⟩) len len,w.alloc (.cells jI e),⟨w.heap.size,0,jI.size⟩,?_,.alloc w _,aJ _,Do,F3 (by rw[Jb (by simp[hl,Db])];exact e2) e3,λψ' _ xT=>?_⟩
    .have hn: ¬(len*C.P.cellsOf e>2^24):=AC
     by_cases h0:len*C.P.cellsOf e=0
     .have e0:madeCells zv.cells (len*C.P.cellsOf e)= #[]:=by rw[h0];simp[madeCells,Array.range_zero']
      rw[e0]at e1;simp only[execOp,ho,Instr.buildSlice,Sem.run_bind,Zl w ht,Result.andThen_ok,sizeOf,typeInfo,run_program,wC,Sem.run_pure,adj,h0,nM,Array.range_zero',Array.map_empty];simp[e1,newRow]
     .simp only[execOp,ho,Instr.buildSlice,Sem.run_bind,Zl w ht,Result.andThen_ok,sizeOf,typeInfo,run_program,wC,Sem.run_pure,adj,hn,ot,h0,Lf]
      unfold madeCells at e1;simp[e1,newRow]
    .have:=VR.slice (C:=C) (ψ:=ψ') (C.P.cellsOf e) s.length 0 len ⟨w.heap.size,0,jI.size⟩ ⟨w.heap.size,0,none⟩ len xT (aJ _) Fd
     exact this
  |_=>cases h
theorem ZpD {l c:Operand} (ho:o.op= .makeSlice t l c) (bw: ∀h,W h->D h) (h:T0 C E o K t l c s=some r):cg C md pr ms o D W E s K r:=by
 unfold T0 yz at h;cases ht:C.P.underlying t
 .rw[ht]at h;cases h
 .rename_i td;rw[ht]at h;cases td with
  |slice e=>
   simp only at h;cases hz:oB C.P e
   .rw[hz]at h;cases h
   .rename_i z;rw[hz]at h;simp only at h;have⟨cZ,h⟩:=Zq h;have cZ:=dQ cZ;have⟨k1,n,hn,h⟩:=Gh h;have⟨k2,m,hm,h⟩:=Gh h;have⟨hb,h⟩:=nn h;simp only[aS,yi]at hb;have⟨⟨h0,h1⟩,h2⟩:=hb;refine cg.Lt (by unfold uK;rw[ho];trivial) bw (.slice (C.P.cellsOf e) (some (s.length,0)) n.toNat) (iO n.toNat z) h λψ Q a w p=>?_
    unfold oB at hz;cases hi:C.P.info? e
    .rw[hi]at hz;cases hz
    .rename_i ie;rw[hi]at hz;simp only at hz;cases wK:ie.zero
     .rw[wK]at hz;cases hz
     .rename_i zv;rw[wK]at hz;have⟨kD,iN⟩:=F8 (C:=C) (ψ:=ψ) hz;have cJ:ie.size=C.P.cellsOf e:=by simp[Program.cellsOf,hi]
      have aiy:(ie.bytes:Int)*m<=281474976710656:=by
       unfold Dg NK at h2;rw[hi]at h2;simp only at h2;have h3:m.toNat<=70368744177664/ie.bytes:=AC
       rcases BF ie.bytes with hz|hp
       .rw[hz];simp
       .have:=(Nat.le_div_iff_mul_le hp).1 h3
        have e:m=(m.toNat:Int):=AC
        rw[e,<-Int.natCast_mul,BG];omega
      have OT:m<=9223372036854775807:=by
       unfold Dg at h2;have:=FH 70368744177664 (NK C.P e);omega
      have hr:=run_make (P:=C.P) w t e ie zv ht hi wK k1 k2 n m h0 h1 aiy OT;have hle:n.toNat*C.P.cellsOf e<=m.toNat*ie.size:=by rw[cJ];exact FI _ AC
      refine⟨.slice (some ⟨w.heap.size,0,none⟩) n.toNat m.toNat,w.alloc (.cells (madeCells zv.cells (m.toNat*ie.size)) e),⟨w.heap.size,0,(madeCells zv.cells (m.toNat*ie.size)).size⟩,?_,.alloc w _,aJ _,Do,F3 (VO kD n.toNat (m.toNat*ie.size) (by rw[cZ];exact hle)) (D4 iN),λψ' _ xT=>?_⟩
      .have e1:=p.int (x:=l) (by simp[Op.operands,ho]) hn
       have e2:=p.int (x:=c) (by simp[Op.operands,ho]) hm;simp only[execOp,ho,e1,e2,Sem.run_bind,hr,Result.andThen_ok,Sem.run_pure]
      .exact VR.slice _ _ 0 _ _ _ _ xT AC (λ_=>⟨rfl,by simp only[size_madeCells,cJ];omega⟩)
  |_=>cases h
theorem ZxI {b:Builtin} (hq:q.callee= .builtin b) (hb:b= .len) (ho:o.op= .call q) (bw: ∀h,W h->D h) (h:abb C E o K q.argTypes q.args s=some r):cg C md pr ms o D W E s K r:=by
 subst hb;unfold abb at h;cases ha:q.args.toList with
 |nil=>rw[ha]at h;cases h
 |cons y rest=>
  cases rest with
  |cons _ _=>rw[ha]at h;cases h
  |nil=>
   cases ht:q.argTypes[0]?
   .rw[ha,ht]at h;cases h
   .rename_i t;rw[ha,ht]at h;simp only at h;have lJ:q.args= #[y]:=by rw[<-Array.toArray_toList (xs:=q.args),ha]
    have mem:y∈o.op.operands:=by rw[ho];simp[Op.operands,Call.operands,hq,lJ]
    have run: ∀(a:Act) (w:World) v,(Builtin.len_ q.argTypes o.type #[a.eval y]).run C.P w= .ok v w->(execOp a.eval o).run C.P w= .ok (.value v) w:=by
     intro a w v hv;simp[execOp,ho,resolve,hq,invoke,builtin,lJ,hv]
    cases hu:C.P.underlying t
    .rw[hu]at h;cases h
    .rename_i td;rw[hu]at h;cases td with
     |array m e=>
      refine cg.val bw _ h λψ Q a w p=>⟨.int .i64 m,w,run a w _ ?_,.refl w,.int _ _⟩
      simp[Builtin.len_,ht,Zl w hu,goInt]
     |string=>
      simp only at h;have⟨d,hd,h⟩:=Zy h;cases d with
      |str l=>
       refine cg.val bw _ h λψ Q a w p=>?_
       have hv:=p.val mem hd;generalize hy:a.eval y=v at hv;cases hv with
       |str x=>
        refine⟨.int .i64 x.size,w,run a w _ ?_,.refl w,?_⟩
        .simp[Builtin.len_,ht,Zl w hu,goInt,hy]
        .have:x.data.toList.length=x.size:=by rw[qb];rfl
         rw[this];exact .int _ _
      |_=>cases h
     |slice e=>
      simp only at h;have⟨d,hd,h⟩:=Zy h;cases d with
      |slice z a' n=>
       refine cg.val bw _ h λψ Q a w p=>?_
       have hv:=p.val mem hd;generalize hy:a.eval y=v at hv;cases hv with
       |uw=>exact⟨.int .i64 (0:Nat),w,run a w _ (by simp[Builtin.len_,ht,Zl w hu,goInt,hy]),.refl w,.int _ _⟩
       |slice _ i off _ cb base cap=>exact⟨.int .i64 n,w,run a w _ (by simp[Builtin.len_,ht,Zl w hu,goInt,hy]),.refl w,.int _ _⟩
      |_=>cases h
     |_=>cases h
theorem ZrO {b:Builtin} (hq:q.callee= .builtin b) (hb:b=if mx then .max else .min) (ho:o.op= .call q) (bw: ∀h,W h->D h) (h:Qe C E o K mx q.args s=some r):cg C md pr ms o D W E s K r:=by
 unfold Qe at h;cases ha:q.args.toList with
 |nil=>rw[ha]at h;cases h
 |cons y rest=>
  cases rest with
  |nil=>rw[ha]at h;cases h
  |cons z rest=>
   cases rest with
   |cons _ _=>rw[ha]at h;cases h
   |nil=>
    rw[ha]at h;simp only at h;have lJ:q.args= #[y,z]:=by rw[<-Array.toArray_toList (xs:=q.args),ha]
    have my:y∈o.op.operands:=by rw[ho];simp[Op.operands,Call.operands,hq,lJ]
    have mz:z∈o.op.operands:=by rw[ho];simp[Op.operands,Call.operands,hq,lJ]
    have⟨d,hd,h⟩:=Zy h;have⟨e,he,h⟩:=Zy h;cases d with
    |int k n=>
     cases e with
     |int k' m=>
      simp only at h;have⟨hk,h⟩:=Zq h;refine cg.val bw _ h λψ Q a w p=>?_
      have e1:=p.int my hd;have e2:=p.int mz he;cases mx
      .simp only[vG,ot]at hb;subst hb;exact⟨.int k (if m<n then m else n),w,by simp[execOp,ho,resolve,hq,invoke,builtin,lJ,e1,e2,Builtin.min_,Builtin.min2],.refl w,.int _ _⟩
      .simp only[nM]at hb;subst hb;exact⟨.int k (if n<m then m else n),w,by simp[execOp,ho,resolve,hq,invoke,builtin,lJ,e1,e2,Builtin.max_,Builtin.max2],.refl w,.int _ _⟩
     |_=>cases h
    |_=>cases h
end
section
variable {C:bE} {o:Oper} {D W:dN->Prop} {E:Env} {s:St} {md:Md} {pr ms:al}
theorem Wl {a:ai} {K:ah->M Y} (h:dV a n K s=some r):
  ∃ds,K ds s=some r/\ds.length=n/\((a=none/\n=0/\ds=[])\/∃i q f cs,a=some (i,q)/\dA s i=some (.cells f cs)/\q+n<=cs.length/\ds=(cs.drop q).take n):=by
 cases a with
 |none=>
  simp only[dV]at h;have⟨h1,h⟩:=Zq h;have:=dQ h1;grind
 |some iq=>
  have⟨i,q⟩:=iq;simp only[dV]at h;have⟨f,cs,h1,h2,h⟩:=IY h;grind
theorem Og {A:Act} (p:aB C o D E s ψ Q A w) (hD: ∀i,D (.inl i)) {z sz k:Nat} {a:ai} (hv:VR C ψ (.slice z a m) v)
  (hz:z=sz\/a=none) (hn:n=k*sz) (hk:k<=m)
  (qD:(a=none/\n=0/\ds=[])\/∃i q f cs,a=some (i,q)/\dA s i=some (.cells f cs)/\q+n<=cs.length/\ds=(cs.drop q).take n):
  ∃base cap vs,v= .slice base m cap/\(∀w',w'.heap=w.heap->(Builtin.firstCells sz k v).run C.P w'= .ok vs w')/\bJ C ψ ds vs.toList/\ds.all one=true:=by
 subst hn;cases hv with
 |uw=>
  rcases qD with⟨_,_,rfl⟩|⟨i,q,f,cs,h,_⟩
  .exact⟨none,0, #[],rfl,λw' _=>FS,.nil,rfl⟩
  .cases h
 |slice _ i q _ cb ad cap jD sw hb=>
  rcases qD with⟨h,_⟩|⟨i',q',f,cs,h,h1,h2,rfl⟩
  .cases h
  .cases h
   have hz:z=sz:=Fd
   subst hz;have hh:=p.at (hD i) h1 jD;by_cases h0:k*z=0
   .refine⟨some ad,cap, #[],rfl,λw' _=>?_,?_,?_⟩
    .simp[Builtin.firstCells,h0,loadCells,loadCellsFrom]
    .rw[h0];rw[List.take_zero];exact .nil
    .rw[h0];simp
   .have hc:0<cap:=by
     grind
    have⟨e1,e2⟩:=hb hc;have⟨vs,e3,e4,e5,e6⟩:=ZmI (P:=C.P) hh h2;exact⟨some ad,cap,vs,rfl,λw' hw=>by rw[Builtin.firstCells,e1,e3 w' hw],e5,e6⟩
theorem Zo9 {ψ:Ps} : ∀ {ds:ah} {l:aj} {vs:List Value},uV ds=some l->bJ C ψ ds vs->∃ns:ak,vs=ns.map (Value.int .u8)/\ns.map (λn=>UInt8.ofNat n.toNat)=l
 |[],l,vs,h,hv=>by
  simp only[uV,gf]at h;cases hv;exact⟨[],rfl,h⟩
 |d::ds,l,vs,h,hv=>by
  cases hv with
  |cons _ v _ vs h1 h2=>
   cases h1 with
   |int k n=>
    cases k with
    |u8=>
     simp only[uV,Option.map_eq_some_iff]at h;have⟨l',h3,h4⟩:=h;have⟨ns,e1,e2⟩:=Zo9 h3 h2;exact⟨n::ns,by simp[e1],by simp[e2,h4]⟩
    |_=>simp[uV]at h
   |_=>simp[uV]at h
theorem Zzq {K:aj->M Y} (h:Go.Gv.nr cs K s=some r): ∃l,uV cs=some l/\K l s=some r:=by
 unfold Go.Gv.nr at h;cases he:uV cs
 .rw[he]at h;cases h
 .rename_i l;rw[he]at h;exact⟨l,rfl,h⟩
end
section
variable {C:bE} {o:Oper} {D W:dN->Prop} {E:Env} {s:St} {md:Md} {pr ms:al}
theorem ZlA (l:aj):bJ C ψ (Z6 l) (l.map λb=>Value.int .u8 b.toNat):=by
 induction l with
 |nil=>exact .nil
 |cons b l ih=>exact .cons _ _ _ _ (.int _ _) ih
theorem SI (l:aj):(Z6 l).all one=true:=by simp[Z6,one]
@[simp] theorem afx (l : aj) : (Z6 l).length = l.length := by simp [Z6]
def NU (w:World) (c:Array Value) (e:TypeId):World:= { w with heap:=w.heap.push (.cells c e (c.size,c.size+1)) }
theorem ZrY (w:World) (c:Array Value) (e:TypeId):iD w (NU w c e):=iD.alloc w (.cells c e (c.size,c.size+1))
theorem Zux (w:World) (c:Array Value) (e:TypeId):(markStringish ⟨w.heap.size,0,none⟩).run P (w.alloc (.cells c e))= .ok () (NU w c e):=by
 have h1:(w.alloc (.cells c e)).shape? w.heap.size=some (e,c.size):=by rw[World.shape?,heap_alloc_new]
 unfold markStringish;rw[Sem.run_bind,run_shape,h1,Result.andThen_ok,run_freeze];congr 1;unfold World.freeze NU World.alloc;simp only[Nat.one_ne_zero,ot];congr 1;grind
theorem ZvK (h:P4 P e=true):P.underlying e=some (.int .u8):=by
 grind[P4]
theorem Zsc (ho:o.op= .convert t u y) (bw: ∀h,W h->D h) (hD: ∀i,D (.inl i)) (h:VD C E o K t u y s=some r):cg C md pr ms o D W E s K r:=by
 have my:y∈o.op.operands:=by rw[ho];simp[Op.operands]
 unfold VD at h;have⟨td,ht,h⟩:=qX h;have run: ∀(a:Act) (w w':World) v,(convert t u (a.eval y)).run C.P w= .ok v w'->(execOp a.eval o).run C.P w= .ok (.value v) w':=by
  intro a w w' v hv;simp[execOp,ho,hv]
 cases hu:C.P.underlying u
 .rw[hu]at h;cases h
 .rename_i ud;rw[hu]at h;cases ud with
  |int k=>
   simp only at h;have⟨d,hd,h⟩:=Zy h;cases d with
   |int k' n=>
    refine cg.val bw _ h λψ Q a w p=>⟨.int k (k.wrap n),w,run a w w _ ?_,.refl w,.int _ _⟩
    rw[p.int my hd];simp[convert,Zl w ht,Zl w hu,Conv.intToInt]
   |_=>cases h
  |string=>
   simp only at h;rw[ht]at h;cases td with
   |int k0=>
    simp only at h;have⟨d,hd,h⟩:=Zy h;cases d with
    |int k' n=>
     refine cg.val bw _ h λψ Q a w p=>⟨.string (Utf8.encode n),w,run a w w _ ?_,.refl w,.str _⟩
     rw[p.int my hd];simp[convert,Zl w ht,Zl w hu,Conv.intToString]
    |_=>cases h
   |string=>
    simp only at h;have⟨d,hd,h⟩:=Zy h;cases d with
    |str l=>
     refine cg.val bw _ h λψ Q a w p=>?_
     have hv:=p.val my hd;generalize hy:a.eval y=v at hv;cases hv with
     |str x=>exact⟨.string x,w,run a w w _ (by rw[hy];simp[convert,Zl w ht,Zl w hu]),.refl w,.str _⟩
    |_=>cases h
   |slice e=>
    simp only at h;have⟨h8,h⟩:=Zq h;have he:=ZvK h8;have⟨d,hd,h⟩:=Zy h;cases d with
    |slice z a' n=>
     simp only at h;have⟨hz,h⟩:=Zq h;have⟨ds,h,_,qD⟩:=Wl h;have⟨l,hl,h⟩:=Zzq h;refine cg.val bw _ h λψ Q A w p=>?_
     have Dd:z=1\/a'=none:=by
      rw[mB]at hz;rcases hz with h|h
      .exact .inl (dQ h)
      grind
     have⟨base,cap,vs,hv,ee,hr,_⟩:=Og p hD (p.val my hd) Dd (k:=n) Do (aJ _) qD;have⟨ns,e1,e2⟩:=Zo9 hl hr;cases base with
     |none=>
      have:ds=[]:=by
       have fm:=p.val my hd;rw[hv]at fm;cases fm;grind
      subst this;simp only[uV,gf]at hl;subst hl;refine⟨.string .empty,w,run A w w _ ?_,.refl w,.str .empty⟩;rw[hv];simp[convert,Zl w ht,Zl w hu,Zl w he,Conv.bytesToString]
     |some b=>
      have ajW:(loadCells b n).run C.P w= .ok (ns.map (Value.int .u8)).toArray w:=by
       have ee:=ee w rfl;rw[hv]at ee;simp only[Builtin.firstCells,cR]at ee;rw[ee,<-e1]
      refine⟨.string (ns.foldl (λr n=>r.push (UInt8.ofNat n.toNat)) ByteArray.empty),w,run A w w _ ?_,.refl w,?_⟩
      .rw[hv,run_convert_bytes_string w t u e (some b) n cap ht he hu]
       exact run_bytesToString w b n cap ns ajW
      .have:(ns.foldl (λr n=>r.push (UInt8.ofNat n.toNat)) ByteArray.empty).data.toList=l:=by
        rw[foldl_push_bytes,<-e2];simp
       rw[<-this];exact .str _
    |_=>cases h
   |_=>cases h
  |slice e=>
   simp only at h;have⟨h8,h⟩:=Zq h;have he:=ZvK h8;have⟨d,hd,h⟩:=Zy h;cases d with
   |str l=>
    simp only at h;refine cg.Lt (by unfold uK;rw[ho];trivial) bw _ _ h λψ Q a w p=>?_
    have hv:=p.val my hd;generalize hy:a.eval y=v at hv;cases hv with
    |str x=>
     have hx:x.data.toList.length=x.size:=by rw[qb];rfl
     let cap:=(Question.appendCap x.size 0 e).cut (w.tape w.drawn (.appendCap x.size 0 e))
     have sw:x.size<=cap:=by simp only[cap,Question.cut];omega
     let c:Array Value:=(x.data.map λb=>Value.int .u8 b.toNat)++Array.replicate (cap-x.size) (.int .u8 0)
     refine⟨.slice (some ⟨w.heap.size,0,none⟩) x.size cap,NU w.drew c e,⟨w.heap.size,0,c.size⟩,run a w _ _ ?_,(iD.drew w).trans (ZrY w.drew c e),aJ _,(by show w.heap.size<(w.heap.push _).size;simp),?_,λψ' _ xT=>?_⟩
     .rw[hy]
      have hm:=Zux (P:=C.P) w.drew c e;simp only[convert,Sem.run_bind,Zl w ht,Zl w hu,Result.andThen_ok,Zl w he];have hq:(Question.appendCap x.size 0 e).forced=false:=rfl;simp only[Conv.stringToBytes,Sem.run_bind,run_choose,hq,vG,ot,Result.andThen_ok,newRow,run_newObj,Sem.run_pure];exact(congrArg (λr=>Result.andThen r λ_ w'=>Result.ok (Value.slice (some ⟨w.heap.size,0,none⟩) x.size cap) w') hm)
     .refine Zra (ty:=e) (fr:=(c.size,c.size+1)) (by show(w.heap.push _)[w.heap.size]? =_;simp) (.inr (aJ _)) ?_ (SI _)
      have:c.toList.take (Z6 x.data.toList).length=x.data.toList.map λb=>Value.int .u8 b.toNat:=by
       rw[afx];simp only[c,Array.toList_append,Array.toList_map];rw[QG Do,dG Do]
      rw[this];exact ZlA _
     .rw[hx]
      have:=VR.slice (C:=C) (ψ:=ψ') 1 s.length 0 x.size ⟨w.heap.size,0,c.size⟩ ⟨w.heap.size,0,none⟩ cap xT sw Fd;exact this
   |_=>cases h
  |_=>cases h
end
section
variable {C:bE} {o:Oper} {D W:dN->Prop} {E:Env} {s:St} {md:Md} {pr ms:al}
theorem ZzJ {sz:Nat} {a:ai} {len:Nat} {K:ai->M Y} (h:cu sz a len ds m lim K s=some r):
  (m=0/\K a s=some r)\/(0<m/\len+m<=lim/\((a=none/\len=0/\K (some (s.length,0)) (s++[some ⟨false,ds⟩])=some r)\/
   ∃i q cs,a=some (i,q)/\s.iB i=some cs/\q+len*sz<=cs.length/\K (some (s.length,0)) (s.set i none++[some ⟨false,(cs.drop q).take (len*sz)++ds⟩])=some r)):=by
 unfold cu at h;cases h0:Nat.beq m 0
 .rw[h0]at h;simp only[af]at h;have hm:=Mk h0;cases h1:Nat.ble (len+m) lim
  .rw[h1]at h;cases h
  .rw[h1]at h;simp only[ae]at h;refine .inr ⟨AC,rS h1,?_⟩;cases a with
   |none=>
    simp only at h;cases h2:Nat.beq len 0
    .rw[h2]at h;cases h
    .rw[h2]at h;simp_all
   |some iq=>
    have⟨i,q⟩:=iq;simp only at h;cases h3:s.iB i
    .rw[h3]at h;cases h
    .rename_i cs;rw[h3]at h;simp only at h;cases h4:Nat.ble (q+len*sz) cs.length
     .rw[h4]at h;cases h
     .rw[h4]at h;exact .inr ⟨i,q,cs,rfl,h3,rS h4,h⟩
 .rw[h0]at h;simp_all
def DI (P:Program) (ts:Array TypeId):Prop:=match ts[1]? with|none=>True|some t=>∃d,P.underlying t=some d/\∀k,d≠ .int k
theorem ZwO {K:M Y} (h:aa6 C.P ts K s=some r):DI C.P ts/\K s=some r:=by
 unfold aa6 at h;unfold DI;cases ht:ts[1]?
 .rw[ht]at h;exact⟨trivial,h⟩
 .rename_i t;rw[ht]at h;simp only at h⊢;cases hu:C.P.underlying t
  .rw[hu]at h;cases h
  .rename_i d;rw[hu]at h;cases d with
   |int k=>cases h
   |_=>exact Fd
theorem ZkH (h0:ts[0]? =some t) (ht:P.underlying t=some (.slice e)) (he:P.underlying e=some ed) (hn:DI P ts) (ty:TypeId)
  (base:Option Addr) (n m cap:Nat) (X:Value) (w w':World) (new:Array Value) (hX:(Builtin.lenOf X).run P w= .ok m w) (hc:n+m<=cap)
  (hf:(Builtin.firstCells (P.cellsOf e) m X).run P w= .ok new w) (hs: ∀a,base=some a->(storeCells (a.add (n*P.cellsOf e)) new.toList).run P w= .ok () w') (hb:base=none->w'=w):
  (Builtin.append_ ts ty #[.slice base n cap,X]).run P w= .ok (.slice base (n+m) cap) w':=by
 have key:(P.underlying t=some (.slice e))->(do
   let n' <-Builtin.lenOf X
   let Lr:=n+n'
   if Lr<=cap then
    let new <-Builtin.firstCells (P.cellsOf e) n' X
    if let some a:=base then storeCells (a.add (n*P.cellsOf e)) new.toList
    pure (.slice base Lr cap)
   else stuck "" :Sem Value).run P w= .ok (.slice base (n+m) cap) w':=by
  intro _;simp only[Sem.run_bind,hX,Result.andThen_ok,hc,nM,hf];cases base with
  |none=>have:=hb rfl;subst this;simp
  |some a=>simp[hs a rfl]
 have key:=key ht;simp only[Sem.run_bind,hX,Result.andThen_ok,hc,nM,hf]at key;unfold Builtin.append_;unfold DI at hn;cases h1:ts[1]?
 .simp only[h0,Mc,ly,rO,Sem.run_bind,Zl w ht,Result.andThen_ok,sb w he,Sem.run_pure,vG,ot,hX,bD,nM,hc,hf];exact key
 .rename_i t1;rw[h1]at hn;have⟨d,hd,eJ⟩:=hn;simp only[h0,Mc,ly,rO,Sem.run_bind,Zl w ht,Result.andThen_ok,sb w he,Zl w hd];cases d<;>first|exact absurd rfl (eJ _)|(simp only[Sem.run_pure,Result.andThen_ok,Sem.run_bind,vG,ot,hX,bD,nM,hc,hf];exact key)
theorem ZqJ (z:Array Value) (n:Nat):(Builtin.zeroCells z n).size=n*z.size:=by simp[Builtin.zeroCells]
theorem ZpM {ie:TypeInfo} {z:Value} (h0:ts[0]? =some t) (ht:P.underlying t=some (.slice e)) (he:P.underlying e=some ed) (wC:P.info? e=some ie)
  (xS:ie.zero=some z) (hn:DI P ts) (ty:TypeId) (base:Option Addr) (n m cap:Nat) (X:Value) (w:World) (fT new:Array Value) (hX: ∀w,(Builtin.lenOf X).run P w= .ok m w) (hc:cap<n+m)
  (hb:(n+m)*ie.bytes<=70368744177664) (OT:n+m<=70368744177664) (ho:(Builtin.firstCells (P.cellsOf e) n (.slice base n cap)).run P w.drew= .ok fT w.drew) (hf:(Builtin.firstCells (P.cellsOf e) m X).run P w.drew= .ok new w.drew):
  ∃k,n+m<=k/\(Builtin.append_ ts ty #[.slice base n cap,X]).run P w= .ok (.slice (some ⟨w.heap.size,0,none⟩) (n+m) k) (w.drew.alloc (.cells (fT++new++Builtin.zeroCells z.cells (k-(n+m))) e)):=by
 refine⟨(Question.appendCap (n+m) cap e).cut (w.tape w.drawn (.appendCap (n+m) cap e)),by simp[Question.cut],?_⟩;have hq:(Question.appendCap (n+m) cap e).forced=false:=rfl;have g1: ¬(n+m<=cap):=AC
 have g2: ¬(Builtin.nextslicecap (n+m) cap*ie.bytes>2^48):=by
  have:=growslice_fits (bytes:=ie.bytes) hc AC;omega
 have g3: ¬(((n+m:Nat):Int)>IntKind.i64.max):=by
  have:IntKind.i64.max=9223372036854775807:=EQ
  rw[this];omega
 have g4: ¬(((n+m:Nat):Int)>IntKind.i64.max/\(False\/ie.bytes=0)):=λh=>g3 h.1
 have adi: ∀w,(typeInfo e).run P w= .ok ie w:=λw=>by simp[typeInfo,wC]
 have Dd: ∀w,(zeroValue e).run P w= .ok z w:=λw=>by simp[zeroValue,typeInfo,wC,xS]
 unfold Builtin.append_;unfold DI at hn;cases h1:ts[1]?
 .simp only[h0,Mc,ly,rO,Sem.run_bind,Zl w ht,Result.andThen_ok,sb w he,Sem.run_pure,vG,ot,hX,bD,nM,g1,adi,g4,
   g2,run_choose,hq,run_askRoom,World.drew_eq,ho,hf,Dd,newRow,run_newObj,World.alloc_eq]
  rfl
 .rename_i t1;rw[h1]at hn;have⟨d,hd,eJ⟩:=hn;simp only[h0,Mc,ly,rO,Sem.run_bind,Zl w ht,Result.andThen_ok,sb w he,Zl w hd];cases d<;>first|exact absurd rfl (eJ _)|(simp only[Sem.run_pure,Result.andThen_ok,Sem.run_bind,vG,ot,hX,bD,nM,g1,adi,g4,g2,run_choose,hq,run_askRoom,World.drew_eq,ho,hf,Dd,newRow,run_newObj,World.alloc_eq];rfl)
theorem Ext.ak4 (h:Ext ψ Q1 w ψ' Q' w') (hq: ∀k ab,Q1 k ab->Q k ab):Ext ψ Q w ψ' Q' w':=
 have so: ∀b,vP ψ Q1 b->vP ψ Q b:=λ_b ⟨k,cb,ab,e,q,hs,hb⟩=>⟨k,cb,ab,e,hq _ _ q,hs,hb⟩
 { h with
  uu:=λk cb e=>(h.uu k cb e).imp id λ⟨x,y⟩=>⟨x.imp id (so _),y⟩
  kE:=λb hb hn=>h.kE b hb λe=>hn (so b e)
  iC:=λb e=>(h.iC b e).imp (so b) id
  live:=λk cb x e q=>let ⟨y,hy⟩:=h.live k cb x e q;⟨y,hq _ _ hy⟩ }
theorem Zsi :dA (s.set i none) i=none:=by
 grind[dA]
theorem Zvr (hq:q.callee= .builtin .append) (ho:o.op= .call q) {z:Operand} (ha:q.args= #[y,z]) {zv:ah} (h0:q.argTypes[0]? =some t)
  (ht:C.P.underlying t=some (.slice e)) (he:C.P.underlying e=some ed) (hz:oB C.P e=some zv) (sQ:zv.length=C.P.cellsOf e) (hn:DI C.P q.argTypes) (bw: ∀h,W h->D h) (hD: ∀i,D (.inl i)) {a:ai} (hW: ∀i q,a=some (i,q)->W (.inl i)) (hd:E.src C y= .v (.slice z0 a n)) (xS:z0=C.P.cellsOf e\/a=none) (j1:ds.length=m*C.P.cellsOf e)
  (hX: ∀ψ Q A w,aB C o D E s ψ Q A w->(∀w,(Builtin.lenOf (A.eval z)).run C.P w= .ok m w)/\∃vs,bJ C ψ ds vs.toList/\ds.all one=true/\∀w',w'.heap=w.heap->(Builtin.firstCells (C.P.cellsOf e) m (A.eval z)).run C.P w'= .ok vs w') (h:cu (C.P.cellsOf e) a n ds m (Dg C.P e) (λp=>cI E o K (.slice (C.P.cellsOf e) p (n+m))) s=some r):cg C md pr ms o D W E s K r:=by
 have my:y∈o.op.operands:=by rw[ho];simp[Op.operands,Call.operands,hq,ha]
 have hex: ∀(A:Act) (w w':World) v,(Builtin.append_ q.argTypes o.type #[A.eval y,A.eval z]).run C.P w= .ok v w'->(execOp A.eval o).run C.P w= .ok (.value v) w':=by
  intro A w w' v hv;simp[execOp,ho,resolve,hq,invoke,builtin,ha,hv]
 have akK: ∀vs:Array Value,∀ψ,m=0->bJ C ψ ds vs.toList->vs.toList=[]:=by
  intro vs ψ hm hr;have:=hr.len;rw[j1,hm,rU]at this;grind
 have grow: ∀ψ Q A w,aB C o D E s ψ Q A w->∀base cap fT,A.eval y= .slice base n cap->cap<n+m->n+m<=Dg C.P e->(Builtin.firstCells (C.P.cellsOf e) n (.slice base n cap)).run C.P w.drew= .ok fT w.drew->
   ∃k new rest,n+m<=k/\bJ C ψ ds new.toList/\ds.all one=true/\rest.size=(k-(n+m))*C.P.cellsOf e/\
    (execOp A.eval o).run C.P w= .ok (.value (.slice (some ⟨w.heap.size,0,none⟩) (n+m) k)) (w.drew.alloc (.cells (fT++new++rest) e)):=by
  intro ψ Q A w p base cap fT hy hc CZ hold;have⟨hl,new,h1,h2,h3⟩:=hX ψ Q A w p;unfold oB at hz;cases hi:C.P.info? e
  .rw[hi]at hz;cases hz
  .rename_i ie;rw[hi]at hz;simp only at hz;cases wK:ie.zero
   .rw[wK]at hz;cases hz
   .rename_i amq;rw[wK]at hz;have P1:=(F8 (C:=C) (ψ:=ψ) hz).1.zJ;have hb:(n+m)*ie.bytes<=70368744177664:=by
     unfold Dg NK at CZ;rw[hi]at CZ;simp only at CZ;rcases BF ie.bytes with hz|hp
     .rw[hz];simp
     .exact(Nat.le_div_iff_mul_le hp).1 CZ
    have OT:n+m<=70368744177664:=ij CZ (FH _ _);have⟨k,hk,ee⟩:=ZpM (P:=C.P) h0 ht he hi wK hn o.type base n m cap (A.eval z) w fT new hl hc hb OT hold (h3 _ rfl);exact⟨k,new,_,hk,h1,h2,by rw[ZqJ,<-P1,sQ],Fd⟩
 rcases ZzJ h with⟨hm,h⟩|⟨hm,CZ,h⟩
 ·
  refine cg.val bw _ h λψ Q A w p=>?_
  have⟨hl,new,h1,h2,h3⟩:=hX ψ Q A w p;have iY:=akK new ψ hm h1;subst hm;have hv:=p.val my hd;generalize hy:A.eval y=v at hv;have pP: ∀base cap,v= .slice base n cap->n<=cap->(execOp A.eval o).run C.P w= .ok (.value (.slice base n cap)) w:=by
   intro base cap hv hc;refine hex A w w _ ?_;rw[hy,hv];have:=ZkH (P:=C.P) h0 ht he hn o.type base n 0 cap (A.eval z) w w new (hl w) hc (h3 w rfl) (λa _=>by rw[iY];rfl) (λ_=>rfl);exact this
  cases hv with
  |uw=>exact⟨_,w,Fd,.refl w,.uw _⟩
  |slice _ i q0 _ cb ad cap jD sw hb=>
   have:z0=C.P.cellsOf e:=Fd
   subst this;exact⟨_,w,pP _ cap rfl sw,.refl w,.slice _ _ _ _ cb ad cap jD sw hb⟩
 .rcases h with⟨rfl,rfl,h⟩|⟨i,q0,cs,rfl,hi,hle,h⟩
  ·
   refine cg.Lt (by unfold uK;rw[ho];simp only[hq]) bw _ ds h λψ Q A w p=>?_
   have hv:=p.val my hd;generalize hy:A.eval y=v at hv;cases hv;have⟨k,new,rest,hk,h1,h2,h3,ee⟩:=grow ψ Q A w p none 0 #[] hy AC CZ (by simp[Builtin.firstCells]);have cJ:=h1.zJ;refine⟨_,_,⟨w.heap.size,0,(#[]++new++rest).size⟩,ee,(iD.drew w).trans (iD.alloc w.drew _),aJ _,Do,?_,λψ' _ xT=>?_⟩
   .refine F3 (w:=w.drew) ?_ h2
    grind
   .refine VR.slice _ _ 0 _ _ _ _ xT hk (λ_=>⟨rfl,?_⟩)
    have:(#[]++new++rest).size=new.size+rest.size:=Do
    rw[this,<-cJ,j1,h3,fq,fq,<-w8];grind
  ·
   have xS:z0=C.P.cellsOf e:=Fd
   subst xS;have⟨cq,av⟩:=UL hi;have fL: ∀ab,dA (s.set i none++[some ⟨false,(cs.drop q0).take (n*C.P.cellsOf e)++ds⟩]) s.length=some ab->ab= .cells false ((cs.drop q0).take (n*C.P.cellsOf e)++ds):=by
    intro ab fL;have:=Rx (s.set i none) ⟨false,(cs.drop q0).take (n*C.P.cellsOf e)++ds⟩;rw[lz]at this;rw[this]at fL;cases fL;rfl
   have hold: ∀j ab,dA (s.set i none++[some ⟨false,(cs.drop q0).take (n*C.P.cellsOf e)++ds⟩]) j=some ab->j≠s.length->j≠i/\dA s j=some ab:=by
    intro j ab hj cV;have vt:=Eb hj;simp only[ba,lz,iS]at vt;rw[MC (by rw[lz];omega)]at hj;by_cases oJ:j=i
    .subst oJ;rw[Zsi]at hj;cases hj
    .rw[ML (Ne.symm oJ)]at hj;exact⟨oJ,hj⟩
   refine .inl ⟨_,_,h,nP.put pr ms _ rfl (λ_ _ _ _ h=>by cases h) Do (λj ab hj=>by
    by_cases e:j=s.length
    .omega
    grind) (λj h hj=>by
    have cV:i≠j:=Fd
    rw[nc (by rw[lz];exact hj),ig cV]) (.inr (by unfold uK;rw[ho];simp only[hq])),?_⟩
   intro ψ Q A w next QQ p room Kz;have iY:yj E s (E.fD o.dst (.v (.slice (C.P.cellsOf e) (some (s.length,0)) (n+m)))) (s.set i none++[some ⟨false,(cs.drop q0).take (n*C.P.cellsOf e)++ds⟩]) (.inl s.length):=⟨by simp[eF],by simp[eF]⟩;have hf:=room _ iY;have hv:=p.val my hd;generalize hy:A.eval y=v at hv;cases hv with
   |slice _ _ _ _ cb ad cap jD sw hb=>
    have ug:Q (.inl i) (.cells false cs):=p.kF (.inl i) _ cb (hD i) cq jD;have hh:=p.fp.holds _ cb _ jD ug;have⟨hl,new,h1,h2,h3⟩:=hX ψ Q A w p;have hlen:((cs.drop q0).take (n*C.P.cellsOf e)).length=n*C.P.cellsOf e:=by simp;omega
    have ai6:((cs.drop q0).take (n*C.P.cellsOf e)++ds).length=(n+m)*C.P.cellsOf e:=by rw[ba,hlen,j1,w8]
    have dH:((cs.drop q0).take (n*C.P.cellsOf e)++ds).all one=true:=by rw[uC,WE hh.2.1,h2];rfl
    have fin: ∀v' w' gH,(execOp A.eval o).run C.P w= .ok (.value v') w'->fI C (qa ψ (.inl s.length) gH) (Lq Q (.inl i) (.inl s.length) (.cells false ((cs.drop q0).take (n*C.P.cellsOf e)++ds))) w'->
      Ext ψ Q w (qa ψ (.inl s.length) gH) (Lq Q (.inl i) (.inl s.length) (.cells false ((cs.drop q0).take (n*C.P.cellsOf e)++ds))) w'->
      VR C (qa ψ (.inl s.length) gH) (.slice (C.P.cellsOf e) (some (s.length,0)) (n+m)) v'->o.wp C.P A w next QQ:=by
     intro v' w' gH ee Bg wy mX;unfold Oper.wp;rw[ee];refine Kz _ _ v' w' ⟨Bg,wy,λh c e'=>?_,λh ab c cr hw e'=>?_,λh ab c e' q' nw _=>?_⟩ (λd' lL=>?_)
     .by_cases eh:h= .inl s.length
      .grind
      .rw[qm _ _ eh]at e';exact .inl e'
     .by_cases eh:h= .inl s.length
      .subst eh;exact .inl ⟨rfl,fL ab cr⟩
      .rw[qm _ _ eh]at e'
       have fT:h≠ .inl i/\CR E s h ab:=by
        cases h with
        |inl j=>
         have⟨a1,a2⟩:=hold j ab cr (λe=>eh (by rw[e]));exact⟨λe=>a1 (by cases e;rfl),a2⟩
        |inr x=>
         have qu:CR (E.fD o.dst (.v (.slice (C.P.cellsOf e) (some (s.length,0)) (n+m)))) s (.inr x) ab:=cr;exact⟨Do,qu.fD rfl⟩
       refine .inr ⟨eh,fT.1,?_⟩;rcases hw with hw|⟨n1,n2⟩
       .exact p.kF h ab c (bw h hw) fT.2 e'
       .exact absurd (fT.2.sr p.iw) n1
     .cases h with
      |inl j=>exact .inr ⟨Fd,Fd,q'⟩
      |inr x=>exact .inr ⟨Do,Do,q'⟩
     .rw[Env.lH,bx lL];exact mX
    by_cases pP:n+m<=cap
    .have⟨e1,e2⟩:=hb AC
     have acU:(n+m)*C.P.cellsOf e<=cap*C.P.cellsOf e:=FI _ pP;rw[w8]at acU;have⟨w',hw,dy,CU⟩:=Znx (P:=C.P) (p:=q0+n*C.P.cellsOf e) (o':=q0) (cs':=(cs.drop q0).take (n*C.P.cellsOf e)++ds) hh h1 h2 (by rw[j1];omega) (by rw[ai6,w8];omega) dH (λj d lL=>by
      by_cases hj:j<n*C.P.cellsOf e
      .rw[nc AC,uE,bx hj,w4]at lL
       grind
      .rw[kO AC,hlen]at lL
       have vt:j-n*C.P.cellsOf e<ds.length:=by
        grind
       exact .inl ⟨AC,AC,by rw[show q0+j-(q0+n*C.P.cellsOf e)=j-n*C.P.cellsOf e by omega];exact lL⟩)
     have ee:=ZkH (P:=C.P) h0 ht he hn o.type (some ad) n m cap (A.eval z) w w' new (hl w) pP (h3 w rfl) (λa' vj=>by
      cases vj;rw[e1,B1,vI];exact hw) (λe=>by cases e)
     refine fin _ w' ⟨cb.b,cb.o+q0,cb.m-q0⟩ (hex A w _ _ (by rw[hy];exact ee)) (fI.move p.fp jD ug rfl hf rfl dy.other (CU.same (λ_ _ e=>xq hf _ _ e) rfl))
      (Ext.move jD ug rfl hf rfl (p.gU _ _ jD) dy.other dy.size dy.tape dy.os dy.output) ?_
     exact VR.slice _ _ 0 _ _ _ _ (rY _ _ _) pP (λ_=>⟨by rw[e1];rfl,by simp only;omega⟩)
    .have⟨base,alF,fT,J2,PO,KU,hra⟩:=Og p hD (p.val my hd) (.inl rfl) (k:=n) (n:=n*C.P.cellsOf e) rfl (aJ _) (.inr ⟨i,q0,false,cs,rfl,cq,hle,rfl⟩)
     rw[hy]at J2;cases J2;have PO:=PO w.drew rfl;rw[hy]at PO;have⟨k,new,rest,hk,h1,h2,h3,ee⟩:=grow ψ Q A w p (some ad) cap fT hy AC CZ PO;have cJ:=h1.zJ;have wJ:=KU.zJ;rw[hlen]at wJ;have rC:iD w (w.drew.alloc (.cells (fT++new++rest) e)):=(iD.drew w).trans (iD.alloc w.drew _);refine fin _ _ ⟨w.heap.size,0,(fT++new++rest).size⟩ ee ?_ ?_ ?_
     .refine fI.new (Q:=λk x=>k≠ .inl i/\Q k x) (p.fp.weaken λ_ _ _ _ q=>q.2) p.gU rC hf (aJ _) ?_
      refine F3 (w:=w.drew) ?_ dH;have:(fT++new++rest).toList.take ((cs.drop q0).take (n*C.P.cellsOf e)++ds).length=fT.toList++new.toList:=by
       rw[ba,hlen,cJ,wJ];simp only[Array.toList_append];rw[QG Do,dG Do]
      rw[this];exact bJ.append (KU.mono λ_ _ e=>xq hf _ _ e) (h1.mono λ_ _ e=>xq hf _ _ e)
     .exact(Ext.new (Q:=λk x=>k≠ .inl i/\Q k x) rC hf (aJ _) Do).ak4 λ_ _ q=>q.2
     .refine VR.slice _ _ 0 _ _ _ _ (rY _ _ _) hk (λ_=>⟨rfl,?_⟩)
      have:(fT++new++rest).size=fT.size+new.size+rest.size:=by simp[vI]
      rw[this,<-cJ,<-wJ,j1,h3,fq,<-w8,<-w8];exact FI _ AC
end
section
variable {C:bE} {o:Oper} {D W:dN->Prop} {E:Env} {s:St} {md:Md} {pr ms:al}
theorem ace {z:Operand} (h:q.args.toList=[y,z]):q.args= #[y,z]:=by rw[<-Array.toArray_toList (xs:=q.args),h]
theorem Ed {x y:Nat} {a:ai} (h:(Nat.beq x y||a.isNone)=true):x=y\/a=none:=by
 rw[mB]at h;simp_all
theorem Zq5 (x:ByteArray) (n:Nat) (w:World):
  ∃vs,(Builtin.firstCells 1 n (.string x)).run P w= .ok vs w/\bJ C ψ (Z6 (x.data.toList.take n)) vs.toList:=by
 refine⟨_,rfl,?_⟩;have:((x.extract 0 n).data.map λb=>Value.int .u8 b.toNat).toList=(x.data.toList.take n).map λb=>Value.int .u8 b.toNat:=by
  rw[Array.toList_map,ByteArray.data_extract,Array.toList_extract,QE];simp
 rw[this];exact ZlA _
theorem Ztt (hq:q.callee= .builtin .append) (ho:o.op= .call q) (bw: ∀h,W h->D h) (hD: ∀i,D (.inl i)) (hW: ∀y z i p n,q.args.toList.head?=some y->E.src C y= .v (.slice z (some (i,p)) n)->W (.inl i)) (h:Wf C E o K q.argTypes q.args s=some r):cg C md pr ms o D W E s K r:=by
 unfold Wf at h;generalize ha:q.args.toList=l at h;generalize h0:q.argTypes[0]? =t0 at h;split at h
 .rename_i y z t
  unfold yz at h;cases ht:C.P.underlying t
  .rw[ht]at h;cases h
  .rename_i td;rw[ht]at h;cases td with
   |slice e=>
    simp only at h;have⟨ed,he,h⟩:=qX h;have⟨hn,h⟩:=ZwO h;cases hz:oB C.P e
    .rw[hz]at h;cases h
    .rename_i zv;rw[hz]at h;simp only at h;have⟨sQ,h⟩:=IC h;have sQ:zv.length=C.P.cellsOf e:=dQ (by simpa using sQ);have⟨a,CM,h⟩:=Zy h;have⟨b,vp,h⟩:=Zy h;have lJ:=ace ha;have mz:z∈o.op.operands:=by rw[ho];simp[Op.operands,Call.operands,hq,lJ]
     cases a with
     |slice w1 p1 n=>
      cases b with
      |slice w2 p2 m=>
       simp only at h;have⟨hw,h⟩:=Zq h;rw[aS]at hw;have⟨ds,h,j1,qD⟩:=Wl h;refine Zvr hq ho lJ h0 ht he hz sQ hn bw hD Fd CM (Ed hw.1) j1 (λψ Q A w p=>?_) h;have⟨base,cap,vs,e1,e2,e3,e4⟩:=Og p hD (p.val mz vp) (Ed hw.2) (k:=m) rfl (aJ _) qD;exact⟨λw=>by rw[e1];rfl,vs,e3,e4,e2⟩
      |str l=>
       simp only at h;have⟨hw,h⟩:=Zq h;rw[aS]at hw;have cJ:=dQ hw.2;rw[<-cJ]at h;refine Zvr hq ho lJ h0 ht he hz sQ hn bw hD Fd CM (by rw[cJ];exact Ed hw.1) (by rw[cJ];simp) (λψ Q A w p=>?_) h;have hv:=p.val mz vp;generalize A.eval z=v at hv;cases hv with
       |str x=>
        have hx:x.data.toList.length=x.size:=by rw[qb];rfl
        have⟨vs,e1,e2⟩:=Zq5 (C:=C) (ψ:=ψ) (P:=C.P) x x.size w;rw[<-hx,dG (aJ _)]at e2;refine⟨λw=>by rw[hx];rfl,vs,e2,SI _,λw' ui=>?_⟩;rw[cJ,hx];cases e1;rfl
      |_=>cases h
     |_=>cases b<;>cases h
   |_=>cases h
 .cases h
theorem Zvt (cs:ah) (p:Nat):cG cs p []=cs:=by
 induction cs generalizing p with
 |nil=>cases p<;>rfl
 |cons c cs ih=>cases p with
  |zero=>rfl
  |succ p=>simp[cG,ih]
theorem Zvd {p:ai} {K:M Y} (h:AG p ds K s=some r):
  (p=none/\ds=[]/\K s=some r)\/∃i q cs,p=some (i,q)/\s.iB i=some cs/\q+ds.length<=cs.length/\K (s.set i (some ⟨false,cG cs q ds⟩))=some r:=by
 cases p with
 |none=>
  simp only[AG]at h;have⟨h1,h⟩:=Zq h;simp_all
 |some iq=>
  have⟨i,q⟩:=iq;simp only[AG]at h;have⟨cs,h1,h2,h3⟩:=ZoT h;grind
theorem ZlK {q cap k sz:Nat} {vs:List Value} (hb:0<cap->ad=⟨cb.b,cb.o+q,none⟩/\q+cap*sz<=cb.m) (hc:n<=cap) (hk:k<=n)
  (h:Holds C ψ w cb (.cells false cs)) (hr:bJ C ψ ds vs) (h1:ds.all one=true) (hl:ds.length=k*sz) (hle:q+ds.length<=cs.length):
  ∃w',(storeCells ad vs).run C.P w= .ok () w'/\BM w w' cb.b/\Holds C ψ w' cb (.cells false (cG cs q ds)):=by
 by_cases h0:ds.length=0
 .have hd:=z8.1 h0
  subst hd;cases hr;exact⟨w,rfl,⟨λ_ _=>rfl,rfl,rfl,rfl,.refl _⟩,by rw[Zvt];exact h⟩
 .have mV:0<k:=by
   grind
  have⟨e1,_⟩:=hb AC;rw[e1];exact Ni h hr h1 hle
theorem Zts (h0:ts[0]? =some t) (ht:P.underlying t=some (.slice e)) (he:P.underlying e=some ed) (ty:TypeId)
  (base:Option Addr) (n m cap:Nat) (X:Value) (w w':World) (new:Array Value) (hX:(Builtin.lenOf X).run P w= .ok m w)
  (hf:(Builtin.firstCells (P.cellsOf e) (min m n) X).run P w= .ok new w) (hs: ∀a,base=some a->(storeCells a new.toList).run P w= .ok () w') (hb:base=none->w'=w):
  (Builtin.copy_ ts ty #[.slice base n cap,X]).run P w= .ok (.int .i64 (min (m:Int) n)) w':=by
 have adu:(Nat.min m n:Int)=min (m:Int) n:=Fd
 have CO:(Builtin.firstCells (P.cellsOf e) (Nat.min m n) X).run P w= .ok new w:=hf;unfold Builtin.copy_;simp only[h0,Mc,ly,rO,Sem.run_bind,Zl w ht,Result.andThen_ok,sb w he,hX,CO];cases base with
 |none=>have:=hb rfl;subst this;simp[goInt];exact adu
 |some a=>simp[hs a rfl,goInt];exact adu
theorem ZwN (hq:q.callee= .builtin .copy) (ho:o.op= .call q) (bw: ∀h,W h->D h) (hW: ∀i,W (.inl i)) (h:Xb C E o K q.argTypes q.args s=some r):cg C md pr ms o D W E s K r:=by
 unfold Xb at h;generalize ha:q.args.toList=l at h;generalize h0:q.argTypes[0]? =t0 at h;split at h
 .rename_i y z t
  unfold yz at h;cases ht:C.P.underlying t
  .rw[ht]at h;cases h
  .rename_i td;rw[ht]at h;cases td with
   |slice e=>
    simp only at h;have⟨ed,he,h⟩:=qX h;have⟨a,CM,h⟩:=Zy h;have⟨b,vp,h⟩:=Zy h;have lJ:=ace ha;have my:y∈o.op.operands:=by rw[ho];simp[Op.operands,Call.operands,hq,lJ]
    have mz:z∈o.op.operands:=by rw[ho];simp[Op.operands,Call.operands,hq,lJ]
    have hex: ∀(A:Act) (w w':World) v,(Builtin.copy_ q.argTypes o.type #[A.eval y,A.eval z]).run C.P w= .ok v w'->(execOp A.eval o).run C.P w= .ok (.value v) w':=by
     intro A w w' v hv;simp[execOp,ho,resolve,hq,invoke,builtin,lJ,hv]
    cases a with
    |slice w1 p1 n=>
     have core: ∀(m:Nat) (ds:ah),(w1=C.P.cellsOf e\/p1=none)->ds.length=min m n*C.P.cellsOf e->AG p1 ds (cI E o K (.int .i64 (min (m:Int) n))) s=some r->
       (∀ψ Q A w,aB C o D E s ψ Q A w->(Builtin.lenOf (A.eval z)).run C.P w= .ok m w/\∃vs,bJ C ψ ds vs.toList/\ds.all one=true/\(Builtin.firstCells (C.P.cellsOf e) (min m n) (A.eval z)).run C.P w= .ok vs w)->
       cg C md pr ms o D W E s K r:=by
      intro m ds cL j1 h hX;rcases Zvd h with⟨rfl,rfl,h⟩|⟨i,q0,cs,rfl,hi,hle,h'⟩
      .refine cg.val bw _ h λψ Q A w p=>?_
       have⟨hl,vs,h1,h2,h3⟩:=hX ψ Q A w p;have hv:=p.val my CM;generalize hy:A.eval y=v at hv;cases hv;exact⟨_,w,hex A w w _ (by rw[hy];exact Zts h0 ht he o.type none 0 m 0 (A.eval z) w w vs hl h3 (λ_ h=>by cases h) (λ_=>rfl)),.refl w,.int _ _⟩
      .have cL:w1=C.P.cellsOf e:=Fd
       subst cL;refine cg.abx bw (hW _) (.v (.int .i64 (min (m:Int) n))) rfl (λ_ _ _ _ h=>by cases h) hi h' λψ Q A w p=>?_
       have hv:=p.val my CM;generalize hy:A.eval y=v at hv;cases hv with
       |slice _ _ _ _ cb ad cap jD sw hb=>
        refine⟨cb,jD,λhh=>?_⟩;have⟨hl,vs,h1,h2,h3⟩:=hX ψ Q A w p;have⟨w',e1,e2,e3⟩:=ZlK hb sw (Nat.min_le_right m n) hh h1 h2 j1 hle;exact⟨_,w',.inl (hex A w w' _ (by rw[hy];exact Zts h0 ht he o.type (some ad) n m cap (A.eval z) w w' vs hl h3 Fd (λh=>by cases h))),e2,e3,.int _ _⟩
     cases b with
     |slice w2 p2 m=>
      simp only at h;have⟨hw,h⟩:=Zq h;rw[aS]at hw;have⟨ds,h,j1,qD⟩:=Wl h;refine core m ds (Ed hw.1) j1 h λψ Q A w p=>?_
      have⟨base,cap,vs,e1,e2,e3,e4⟩:=Og p (λi=>bw _ (hW i)) (p.val mz vp) (Ed hw.2) (k:=min m n) rfl (Nat.min_le_left _ _) qD;exact⟨by rw[e1];rfl,vs,e3,e4,e2 w rfl⟩
     |str l=>
      simp only at h;have⟨hw,h⟩:=Zq h;rw[aS]at hw;have cJ:=dQ hw.2;refine core l.length (Z6 (l.take n)) (by rw[cJ];exact Ed hw.1) (by rw[cJ];simp[Nat.min_comm]) h λψ Q A w p=>?_
      have hv:=p.val mz vp;generalize A.eval z=v at hv;cases hv with
      |str x=>
       have hx:x.data.toList.length=x.size:=by rw[qb];rfl
       have⟨vs,e1,e2⟩:=Zq5 (C:=C) (ψ:=ψ) (P:=C.P) x (min x.data.toList.length n) w;refine⟨by rw[hx];rfl,vs,?_,SI _,by rw[cJ];exact e1⟩;grind
     |_=>cases h
    |_=>cases b<;>cases h
   |_=>cases h
 .cases h
theorem ZuL (hq:q.callee= .builtin .clear) (ho:o.op= .call q) (bw: ∀h,W h->D h) (hW: ∀i,W (.inl i)) (h:W3 C E o K q.argTypes q.args s=some r):cg C md pr ms o D W E s K r:=by
 unfold W3 at h;generalize ha:q.args.toList=l at h;generalize h0:q.argTypes[0]? =t0 at h;split at h
 .rename_i y t
  unfold yz at h;cases ht:C.P.underlying t
  .rw[ht]at h;cases h
  .rename_i td;rw[ht]at h;cases td with
   |slice e=>
    simp only at h;have⟨a,CM,h⟩:=Zy h;have lJ:q.args= #[y]:=by rw[<-Array.toArray_toList (xs:=q.args),ha]
    have my:y∈o.op.operands:=by rw[ho];simp[Op.operands,Call.operands,hq,lJ]
    have hex: ∀(A:Act) (w w':World),(Builtin.clear_ q.argTypes o.type #[A.eval y]).run C.P w= .ok (.tuple #[]) w'->(execOp A.eval o).run C.P w= .ok (.value (.tuple #[])) w':=by
     intro A w w' hv;simp[execOp,ho,resolve,hq,invoke,builtin,lJ,hv]
    cases a with
    |slice w1 p1 n=>
     cases hz:oB C.P e
     .rw[hz]at h;cases h
     .rename_i z;rw[hz]at h;simp only at h;have⟨hw,h⟩:=Zq h;rw[aS]at hw;have sQ:=dQ hw.2;rcases Zvd h with⟨rfl,Px,h⟩|⟨i,q0,cs,rfl,hi,hle,h'⟩
      .refine cg.pure bw (.rN []) rfl (λ_ _ _ _ h=>by cases h) h λψ Q A w p=>?_
       have hv:=p.val my CM;generalize hy:A.eval y=v at hv;cases hv;exact⟨.tuple #[],w,hex A w w (by rw[hy];simp[Builtin.clear_,h0,Zl w ht]),.refl w,_,rfl,.nil⟩
      .have cL:w1=C.P.cellsOf e:=by rcases Ed hw.1 with h|h;exact h;cases h
       subst cL;refine cg.abx bw (hW _) (.rN []) rfl (λ_ _ _ _ h=>by cases h) hi h' λψ Q A w p=>?_
       have hv:=p.val my CM;generalize hy:A.eval y=v at hv;cases hv with
       |slice _ _ _ _ cb ad cap jD sw hb=>
        refine⟨cb,jD,λhh=>?_⟩;have⟨zv,Lf,HI,kD⟩:=Uz (P:=C.P) w hz;have P1:=(HI C ψ).zJ;have Kw:=VO (HI C ψ) n (n*zv.cells.size) (by rw[P1];exact aJ _);rw[Jb (by simp[size_madeCells,F7,P1])]at Kw;have⟨w',e1,e2,e3⟩:=ZlK hb sw (aJ n) hh Kw (D4 kD) (by rw[F7,sQ]) hle;refine⟨.tuple #[],w',.inl (hex A w w' ?_),e2,e3,_,rfl,.nil⟩;rw[hy];have yO:(storeCells ad (Builtin.zeroCells zv.cells n).toList).run C.P w= .ok () w':=e1;cases n with
        |zero=>
         have:w'=w:=by
          have e4:(madeCells zv.cells (0*zv.cells.size)).toList=[]:=by simp[madeCells,Array.range_zero']
          rw[e4]at e1;cases e1;rfl
         subst this;simp[Builtin.clear_,h0,Zl _ ht]
        |succ n=>
         simp[Builtin.clear_,h0,Zl _ ht,Lf,yO]
    |_=>cases h
   |_=>cases h
 .cases h
end
def CS (s:St):Kn:=λh ab=>∃i,h= .inl i/\dA s i=some ab
def BL (C:bE) (ψ:Ps) (ds:ah) (v:Value):Prop:=(∃d,ds=[d]/\VR C ψ d v)\/(ds.length≠1/\∃vs,v= .tuple vs/\bJ C ψ ds vs.toList)
structure kh (C:bE) (ψ:Ps) (s:St) (w:World) (ψ':Ps) (s':St) (w':World):Prop where
 fp:fI C ψ' (CS s') w'
 ext:Ext ψ (CS s) w ψ' (CS s') w'
 news: ∀h cb,ψ' h=some cb->ψ h=some cb\/∃i,h= .inl i/\s.length<=i/\i<s'.length
def Au (P:Program) (f:FuncId) (vs:Array Value) (w:World) (R:Ending->World->Prop):Prop:=
 match (callFunc f vs).run P w with
 | .ok (.enter f' as) w'=>Calls P f' as w' R
 | .ok (.value v) w'=>R (.returned v) w'
 |_=>False
def ZBb (C:bE) (g:Nat) (args:ah) (s:St) (out:Out ah×St):Prop:=
 s.length<=out.2.length/\
 ∀f,C.cov f=true->C.fn f=g->∀ψ w vs,fI C ψ (CS s) w->tq ψ w->Glob C ψ->bJ C ψ args vs->(∀v,ψ (.inr v)=none)->(∀i,s.length<=i->i<out.2.length->ψ (.inl i)=none)->
  Au C.P f vs.toArray w λ
   | .returned v,w'=>∃ds,out.1= .val ds/\∃ψ',kh C ψ s w ψ' out.2 w'/\BL C ψ' ds v
   | .panicked ch,w'=>qf ch/\out.1= .fH/\∃ψ',kh C ψ s w ψ' out.2 w'
   | .outgrown,_=>False
def ZW (C:bE) (c:Zf):Prop:=∀g args s out,c g args s=some out->ZBb C g args s out
def oO (ψ:Ps):Ps
 | .inl i=>ψ (.inl i)
 | .inr _=>none
def zO (ψ lu:Ps):Ps
 | .inl i=>lu (.inl i)
 | .inr v=>ψ (.inr v)
def Qi (s':St) (Q:Kn):Kn:=λh ab=>CS s' h ab\/(Q h ab/\∀i,h= .inl i->s'.length<=i)
section
variable {C:bE} {ψ lu:Ps} {Q:Kn} {s s':St} {w w':World}
theorem Gj (e:oO ψ h=some cb):ψ h=some cb/\∃i,h= .inl i:=by
 cases h with
 |inl i=>exact⟨e,i,rfl⟩
 |inr v=>cases e
theorem Ztp {vs:List Value} (h:bJ C ψ ds vs):bJ C (oO ψ) ds vs:=h.mono (ψ:=ψ) (ψ':=oO ψ) λ_ _ e=>e
theorem ZtC (h:fI C ψ Q w) (hk: ∀i ab cb,dA s i=some ab->ψ (.inl i)=some cb->Q (.inl i) ab):fI C (oO ψ) (CS s) w:=by
 constructor
 .intro k cb ab e q
  obtain⟨e,i,rfl⟩:=Gj e;have⟨_,hi,q⟩:=q;cases hi;exact(h.holds _ cb ab e (hk i ab cb q e)).same (ψ:=ψ) (ψ':=oO ψ) (λ_ _ e=>e) rfl
 .intro k cb ab k' gH de e q hs e' q' hn
  obtain⟨e,i,rfl⟩:=Gj e;obtain⟨e',i',rfl⟩:=Gj e';have⟨_,hi,q⟩:=q;cases hi;have⟨_,hi,q'⟩:=q';cases hi;exact h.vg _ cb ab _ gH de e (hk i ab cb q e) hs e' (hk i' de gH q' e') hn
theorem frame (h:fI C ψ Q w) (hb:tq ψ w) (hk: ∀i ab cb,dA s i=some ab->ψ (.inl i)=some cb->Q (.inl i) ab) (hlen:s.length<=s'.length)
  (hc:kh C (oO ψ) s w lu s' w'):fI C (zO ψ lu) (Qi s' Q) w'/\Ext ψ Q w (zO ψ lu) (Qi s' Q) w':=by
 have mono: ∀k cb,ψ k=some cb->zO ψ lu k=some cb:=by
  intro k cb e;cases k with
  |inl i=>exact hc.ext.mono (.inl i) cb e
  |inr v=>exact e
 have Qq: ∀b,vP (oO ψ) (CS s) b->∃i cb ab,ψ (.inl i)=some cb/\dA s i=some ab/\Q (.inl i) ab/\ab.iC=true/\cb.b=b:=by
  rintro b ⟨k,cb,ab,e,⟨i,rfl,q⟩,hs,hb⟩;exact⟨i,cb,ab,e,q,hk i ab cb q e,hs,hb⟩
 have aes: ∀b,vP (oO ψ) (CS s) b->vP ψ Q b:=by
  intro b hs;have⟨i,cb,ab,e,_,q,hs,hb⟩:=Qq b hs;exact⟨_,cb,ab,e,q,hs,hb⟩
 have G0: ∀k cb ab,zO ψ lu k=some cb->Q k ab->(∀i,k= .inl i->s'.length<=i)->ψ k=some cb/\¬vP (oO ψ) (CS s) cb.b/\cb.b<w.heap.size:=by
  intro k cb ab e q hf;have e':ψ k=some cb:=by
   cases k with
   |inr v=>exact e
   |inl i=>
    rcases hc.news _ _ e with e|⟨j,hj,_,av⟩
    .exact e
    grind
  refine⟨e',λhs=>?_,hb _ _ e'⟩;have⟨i,cb0,ab0,e0,q0,qq,KV,yX⟩:=Qq _ hs;have cV:(Sum.inl i:dN)≠k:=by
   rintro rfl;have h1:=hf i rfl;have h2:=Eb q0;omega
  exact h.vg _ cb0 ab0 _ cb ab e0 qq KV e' q cV yX.symm
 refine⟨⟨?_,?_⟩,⟨mono,?_,hc.ext.size,?_,?_,?_,hc.ext.tape,hc.ext.os,hc.ext.output⟩⟩
 .intro k cb ab e q
  rcases q with⟨i,rfl,q⟩|⟨q,hf⟩
  .exact(hc.fp.holds (.inl i) cb ab e ⟨i,rfl,q⟩).same (ψ:=lu) (ψ':=zO ψ lu) (λ_ _ e=>e) rfl
  .have⟨e1,e2,e3⟩:=G0 k cb ab e q hf
   exact(h.holds k cb ab e1 q).same (λi cb e=>mono _ _ e) (hc.ext.kE _ e3 e2)
 .intro k cb ab k' gH de e q hs e' q' hn
  rcases q with⟨i,rfl,q⟩|⟨q,hf⟩<;>rcases q' with⟨i',rfl,q'⟩|⟨q',CO⟩
  .exact hc.fp.vg (.inl i) cb ab (.inl i') gH de e ⟨i,rfl,q⟩ hs e' ⟨i',rfl,q'⟩ hn
  .have⟨e1,e2,e3⟩:=G0 k' gH de e' q' CO
   rcases hc.ext.iC cb.b ⟨.inl i,cb,ab,e,⟨i,rfl,q⟩,hs,rfl⟩with h1|h1
   .grind
   .omega
  .have⟨e1,e2,e3⟩:=G0 k cb ab e q hf
   rcases hc.ext.uu (.inl i') gH e' with h1|⟨h1,_⟩
   .have⟨y,i2,Ba,hy⟩:=hc.ext.live (.inl i') gH de h1 ⟨i',rfl,q'⟩
    cases Ba;exact h.vg k cb ab (.inl i') gH y e1 q hs h1 (hk i' y gH hy h1) hn
   grind
  .have⟨e1,_,_⟩:=G0 k cb ab e q hf
   have⟨yO,_,_⟩:=G0 k' gH de e' q' CO;exact h.vg k cb ab k' gH de e1 q hs yO q' hn
 .intro k cb e
  cases k with
  |inr v=>exact .inl e
  |inl i=>
   rcases hc.ext.uu (.inl i) cb e with h1|⟨h1,h2⟩
   .exact .inl h1
   grind
 .intro b dq hn
  exact hc.ext.kE b dq λhs=>hn (aes b hs)
 .rintro b ⟨k,cb,ab,e,q,hs,dq⟩
  rcases q with⟨i,rfl,q⟩|⟨q,hf⟩
  .exact(hc.ext.iC b ⟨.inl i,cb,ab,e,⟨i,rfl,q⟩,hs,dq⟩).imp (aes b) id
  .have⟨e1,_,_⟩:=G0 k cb ab e q hf
   exact .inl ⟨k,cb,ab,e1,q,hs,dq⟩
 .intro k cb x e q
  rcases q with⟨i,rfl,q⟩|⟨q,_⟩
  .have⟨y,i2,Ba,hy⟩:=hc.ext.live (.inl i) cb x e ⟨i,rfl,q⟩
   grind
  .exact⟨x,q⟩
end
section
variable {C:bE} {o:Oper} {D W:dN->Prop} {E:Env} {s:St} {md:Md} {pr ms:al}
theorem ZoK {m:M ah} {K:ah->M Y} (h:OD md m K s=some r):
  (∃ds s1,m s=some (.val ds,s1)/\K ds s1=some r/\(2<=md.x->St.Xy s s1))\/(md.x=0/\∃s1,m s=some (.fH,s1)/\r=(.fH,s1)):=by
 unfold OD at h;cases hx:md.x with
 |zero=>
  rw[hx]at h;simp only[c9]at h;grind
 |succ n=>
  cases n with
  |zero=>
   rw[hx]at h;simp only[yJ]at h;grind
  |succ n=>
   rw[hx]at h;simp only[va]at h;grind
theorem Gk {m:M ah} : ∀ {bs:al} {o:Out ah} {s1:St},GO E bs m s=some (o,s1)->
  m s=some (o,s1)/\∀ds,o= .val ds->∀b∈bs,∃j p,E.get b= .v (.ptr (some (j,p)))/\s1[j]? =s[j]?
 |[],_,_,h=>⟨h,λ_ _ b hb=>by cases hb⟩
 |b::bs,o,s1,h=>by
  unfold GO at h;cases he:E.get b with
  |v d=>
   rw[he]at h;cases d with
   |ptr a=>
    cases a with
    |none=>cases h
    |some jq=>
     have⟨j,q'⟩:=jq;simp only[Jy]at h;cases hm:GO E bs m s
     .rw[hm]at h;cases h
     .rename_i p;have⟨o1,s2⟩:=p;rw[hm]at h;cases o1 with
      |val ds=>
       simp only at h;split at h
       .rename_i hk
        cases h;have⟨h1,h2⟩:=Gk hm;grind
       .cases h
      |fH=>
       simp only at h;cases h;exact⟨(Gk hm).1,λnv e=>by cases e⟩
   |_=>cases h
  |_=>rw[he]at h;cases h
theorem Nv {f:Operand} (hq:q.callee= .value f) (ho:o.op= .call q) (bw: ∀h,W h->D h) (hD: ∀i,D (.inl i))
  {c:Zf} (hc:ZW C c) {as:ah} (hf:E.src C f= .v (.func g fs cs)) (has:SV C E q.args.toList as)
  {out:Out ah} (vm:c g (fs++as++cs) s=some (out,s1)) (hW: ∀ds,out= .val ds->∀i,W (.inl i)\/(i<s.length->s1[i]? =s[i]?)):
  (out= .fH->yk C o D E s s1)/\
  (∀ds e,out= .val ds->e.dp=none->(∀r v n,e≠ .pl r v n)->(∀ψ v,BL C ψ ds v->gh C ψ e v)->nP W pr ms o E s (E.fD o.dst e) s1/\DJ C o D W E s (E.fD o.dst e) s1):=by
 have ok:=hc g _ s _ vm;have hlen:s.length<=s1.length:=ok.1;have mf:f∈o.op.operands:=by rw[ho];simp[Op.operands,Call.operands,hq]
 have ma: ∀x∈q.args.toList,x∈o.op.operands:=by intro x hx;rw[ho,Op.operands,Call.operands,hq];grind
 have sem: ∀ψ Q (A:Act) (w:World) (next:Act->World->Prop) (QQ:Exit->Act->World->Prop),aB C o D E s ψ Q A w->(∀i,s.length<=i->i<s1.length->ψ (.inl i)=none)->
   (∀ds v w' lu,out= .val ds->kh C (oO ψ) s w lu s1 w'->BL C lu ds v->next (A.put o.dst v) w')->(∀ch w' lu,qf ch->out= .fH->kh C (oO ψ) s w lu s1 w'->QQ (.panic ch) A w')->o.wp C.P A w next QQ:=by
  intro ψ Q A w next QQ p room hv hp;have hfv:=p.val mf hf;generalize tX:A.eval f=v at hfv;cases hfv with
  |func k _ _ vf vc xG h1 h2=>
   have h3:=I8 p ma has;have lJ:bJ C (oO ψ) (fs++as++cs) (vf.toList++q.args.toList.map A.eval++vc.toList):=Ztp (bJ.append (bJ.append h1 h3) h2);have:=ok.2 k xG rfl (oO ψ) w _ (ZtC p.fp λi ab cb h e=>p.kF (.inl i) ab cb (hD i) h e) (λh cb e=>p.gU h cb (Gj e).1)
    (λg hg=>let ⟨cb,e1,e2⟩:=p.mj g hg;⟨cb,e1,e2⟩) lJ (λ_=>rfl) (λi h1 h2=>room i h1 h2)
   have pV:(vf.toList++q.args.toList.map A.eval++vc.toList).toArray=vf++q.args.map A.eval++vc:=by
    apply Array.ext';simp
   rw[pV]at this;have hex:(execOp A.eval o).run C.P w=(callFunc k (vf++q.args.map A.eval++vc)).run C.P w:=by
    simp[execOp,ho,resolve,hq,tX,Deferred.ofValue,invoke]
   unfold Oper.wp;rw[hex];unfold Au at this;split at this
   .rename_i f' as' w' hr
    rw[hr];refine Calls.mono this λe yd he=>?_
    grind
   .rename_i v w' hr
    rw[hr];have⟨ds,e1,lu,e2,e3⟩:=this;exact hv ds v w' lu e1 e2 e3
   .exact this.elim
 refine⟨λEN=>⟨hlen,λψ Q A w next QQ p room hn=>?_⟩,λds e EN zD jT adM=>⟨nP.put pr ms e zD Fd hlen (λi ab h=>?_) (λi h hi=>?_) (.inr (by grind[uK])),λψ Q A w next QQ p room hn=>?_⟩⟩
 .have Qo: ∀i,s.length<=i->i<s1.length->ψ (.inl i)=none:=λi h1 h2=>room (.inl i) ⟨BH.2 h1,h2⟩
  have hk: ∀i ab cb,dA s i=some ab->ψ (.inl i)=some cb->Q (.inl i) ab:=λi ab cb h e=>p.kF (.inl i) ab cb (hD i) h e
  refine sem ψ Q A w next QQ p Qo Fd λch w' lu wx _ KI=>?_
  have⟨f1,f2⟩:=frame p.fp p.gU hk hlen KI;refine hn (zO ψ lu) (Qi s1 Q) ch w' wx f1 f2 (λh cb e=>?_) λi ab cb h e=> .inl ⟨i,rfl,h⟩
  cases h with
  |inr v=>exact .inl e
  |inl i=>
   rcases KI.news _ _ e with e|⟨j,hj,h1,h2⟩
   .exact .inl e
   .cases hj;exact .inr ⟨BH.2 h1,h2⟩
 .grind[dA]
 .grind
 .have Qo: ∀i,s.length<=i->i<s1.length->ψ (.inl i)=none:=λi h1 h2=>room (.inl i) ⟨BH.2 h1,h2⟩
  have hk: ∀i ab cb,dA s i=some ab->ψ (.inl i)=some cb->Q (.inl i) ab:=λi ab cb h e=>p.kF (.inl i) ab cb (hD i) h e
  refine sem ψ Q A w next QQ p Qo (λnv v w' lu h KI hr=>?_) Fd;rw[EN]at h;cases h;have⟨f1,f2⟩:=frame p.fp p.gU hk hlen KI;have kX:BL C (zO ψ lu) ds v:=by
   rcases hr with⟨d,e1,e2⟩|⟨e1,vs,e2,e3⟩
   .exact .inl ⟨d,e1,e2.mono (ψ:=lu) (ψ':=zO ψ lu) λ_ _ e=>e⟩
   .exact .inr ⟨e1,vs,e2,e3.mono (ψ:=lu) (ψ':=zO ψ lu) λ_ _ e=>e⟩
  refine hn (zO ψ lu) (Qi s1 Q) v w' ⟨f1,f2,λh cb e=>?_,λh ab cb cr hw e'=>?_,λh ab cb e' q' nw dm=>?_⟩ (λd' lL=>?_)
  .cases h with
   |inr v=>exact .inl e
   |inl i=>
    rcases KI.news _ _ e with e|⟨j,hj,h1,h2⟩
    .exact .inl e
    .cases hj;exact .inr ⟨BH.2 h1,h2⟩
  .cases h with
   |inl i=>exact .inl ⟨i,rfl,cr⟩
   |inr x=>
    rcases hw with hw|⟨n1,n2⟩
    .have qu:CR (E.fD o.dst e) s (.inr x) ab:=cr
     exact .inr ⟨p.kF (.inr x) ab cb (bw _ hw) (qu.fD zD) e',λi hi=>by cases hi⟩
    grind[eF,Env.HM]
  .cases h with
   |inr x=>exact .inr Fd
   |inl i=>
    rcases jw i s.length with hi|hi
    .rcases hW ds EN i with h'|h'
     .exact absurd h' nw
     .have h1:dA s i=some ab:=dm (hD i) hi
      exact .inl ⟨i,rfl,by grind[dA]⟩
    .rcases jw i s1.length with Ho|Ho
     .rw[Qo i hi Ho]at e';cases e'
     .exact .inr Fd
  grind[Env.lH]
theorem Zwm {f:Operand} (hq:q.callee= .value f) (ho:o.op= .call q) (bw: ∀h,W h->D h) (hD: ∀i,D (.inl i)) (hW: ∀i,W (.inl i)\/2<=md.x\/∃b∈md.bs,∀j p,E.get b= .v (.ptr (some (j,p)))->j=i)
  {c:Zf} (hc:ZW C c) (h:Xf C E o K md c f q.args s=some r):cg C md pr ms o D W E s K r:=by
 unfold Xf at h;have⟨fv,hf,h⟩:=Zy h;have⟨as,h,has⟩:=Iz h;have hW': ∀(s1:St),(2<=md.x->St.Xy s s1)->(∀b∈md.bs,∃j p,E.get b= .v (.ptr (some (j,p)))/\s1[j]? =s[j]?)->∀i,W (.inl i)\/(i<s.length->s1[i]? =s[i]?):=λs1 hb hk i=>by
  rcases hW i with h|h|⟨b,lK,cZ⟩
  .exact .inl h
  .obtain⟨x,rfl⟩:=hb h
   grind
  grind
 cases fv with
 |func g fs cs=>
  simp only at h;generalize aep C.P o.type=ro at h;have⟨many,LK⟩:=ro;cases many
  .simp only at h;rcases ZoK h with⟨ds,s1,hm,h,hb⟩|⟨hx,s1,hm,rfl⟩
   .have⟨nv,h,hl,lM,hr⟩:=IB h
    cases nv with
    |nil=>cases h
    |cons d rest=>
     cases rest with
     |cons _ _=>cases h
     |nil=>
      simp only at h;have⟨hm,hk⟩:=Gk hm;have⟨e1,e2⟩:=(Nv (pr:=pr) (ms:=ms) hq ho bw hD hc hf has hm Fd).2 ds (.v d) rfl rfl (λ_ _ _ h=>by cases h) (λψ v hv=>by
       rcases hv with⟨d0,e,zd⟩|⟨e,_⟩
       .subst e
        have:=hr C ψ [v] (.cons _ _ _ _ zd .nil);cases this with
        |cons _ _ _ _ a _=>exact a
       grind)
      exact .inl ⟨_,s1,h,e1,e2⟩
   .exact .inr ⟨hx,s1,rfl,(Nv (pr:=pr) (ms:=ms) hq ho bw hD hc hf has (Gk hm).1 (λds e=>by cases e)).1 rfl⟩
  .simp only at h;have⟨h1,h⟩:=IC h;have h1:=Mk h1;rcases ZoK h with⟨ds,s1,hm,h,hb⟩|⟨hx,s1,hm,rfl⟩
   .have⟨nv,h,hl,lM,hr⟩:=IB h
    have⟨hm,hk⟩:=Gk hm;have⟨e1,e2⟩:=(Nv (pr:=pr) (ms:=ms) hq ho bw hD hc hf has hm Fd).2 ds (.rN nv) rfl rfl (λ_ _ _ h=>by cases h) (λψ v hv=>by
     rcases hv with⟨d,e,_⟩|⟨_,vs,e,e'⟩
     .rw[e]at hl;simp at hl;omega
     .exact⟨vs,e,hr C ψ _ e'⟩)
    exact .inl ⟨_,s1,h,e1,e2⟩
   .exact .inr ⟨hx,s1,rfl,(Nv (pr:=pr) (ms:=ms) hq ho bw hD hc hf has (Gk hm).1 (λds e=>by cases e)).1 rfl⟩
 |_=>cases h
end
def QO (h:dN):Prop:=∃i,h= .inl i
def QU (E:Env) (r:Nat) (h:dN):Prop:=∃v,h= .inr v/\(E.get r).dp=some v
def qT:Md->Env->dN->Prop
 | .s,_,_=>True
 | .d .pure _,_,_=>False
 | .d (.yb r) _,E,h=>QU E r h
 | .d (.qM r) _,E,h=>QU E r h
 | .d (.lp a) _,E,h=>∃i p,E.get a= .v (.ptr (some (i,p)))/\h= .inl i
 | .d _ _,_,h=>QO h
def oy:Md->Env->dN->Prop
 | .s,_,_=>True
 | .d .wr _,_,h=>QO h
 | .d .call x,_,h=>x<2/\QO h
 | .d (.qM r) _,E,h=>QU E r h
 | .d (.ap bs) _,E,h=>∃i,h= .inl i/\∀b∈bs,∃j p,E.get b= .v (.ptr (some (j,p)))/\j≠i
 | .d _ _,_,_=>False
theorem N0 (md:Md) (E:Env) (h:dN) (w:oy md E h):qT md E h:=by
 cases md with
 |s=>trivial
 |d k x=>cases k<;>first|exact w|exact w.2|exact w.elim|(have⟨i,e,_⟩:=w;exact⟨i,e⟩)
variable {X:M Y}
section
variable {C:bE} {o:Oper} {E:Env} {s:St} {md:Md} {pr ms:al}
theorem Zt4 {a:Operand} (ho:o.op= .load t a):cls P pr ops o= .hp\/(∃b,a= .tmp b/\cls P pr ops o= .lp b)\/∃r,cls P pr ops o= .yb r:=by
 grind[cls]
theorem Zrq {a:Operand} (ho:o.op= .store t a y):cls P pr ops o= .wr\/cls P pr ops o= .ap []\/∃r,cls P pr ops o= .qM r:=by
 grind[cls]
theorem Vj {E:Env} {p:ai} {X:M Y} {r:Out Y×St} : ∀ {bs:al},JF E p bs X s=some r->X s=some r/\∀b∈bs,∀i q,p=some (i,q)->∃j q',E.get b= .v (.ptr (some (j,q')))/\j≠i
 |[],h=>⟨h,λb hb=>by cases hb⟩
 |b::bs,h=>by
  unfold JF at h;cases he:E.get b with
  |v d=>
   rw[he]at h;cases d with
   |ptr a=>
    cases a with
    |none=>cases h
    |some jq=>
     have⟨j,q'⟩:=jq;simp only at h;have⟨h1,h⟩:=nn h;have⟨h,h2⟩:=Vj h;refine⟨h,λb' dq i q hp=>?_⟩;rcases ep.1 dq with rfl|dq
     .refine⟨j,q',he,?_⟩
      rw[hp]at h1;unfold apart at h1;rintro rfl;simp at h1
     grind
   |_=>cases h
  |_=>rw[he]at h;cases h
theorem ZyX {bs:al} (h:Xs C E bs as X s=some r):
  X s=some r/\∀y z i q n,as.toList.head?=some y->E.src C y= .v (.slice z (some (i,q)) n)->∀b∈bs,∃j q',E.get b= .v (.ptr (some (j,q')))/\j≠i:=by
 unfold Xs at h;cases bs with
 |nil=>grind
 |cons b r=>
  simp only at h;cases hy:as.toList with
  |nil=>rw[hy]at h;cases h
  |cons y ys=>
   rw[hy]at h;simp only at h;have⟨d,hd,h⟩:=Zy h;cases d with
   |slice z p n=>
    have⟨h1,h2⟩:=Vj h;grind
   |_=>cases h
theorem Zzp {bs:al} {a:Operand} (h:stK C E bs a X s=some r):
  X s=some r/\∀i q,E.src C a= .v (.ptr (some (i,q)))->∀b∈bs,∃j q',E.get b= .v (.ptr (some (j,q')))/\j≠i:=by
 unfold stK at h;cases bs with
 |nil=>grind
 |cons b r=>
  simp only at h;cases he:E.src C a with
  |v d=>
   rw[he]at h;cases d with
   |ptr p=>
    have⟨h1,h2⟩:=Vj h;grind
   |_=>cases h
  |_=>rw[he]at h;cases h
theorem Wq (hC:qd C) {c:Zf} (hc:ZW C c) (mm:md= .s\/∃x k m,md= .d (wS pr ops k m (cls C.P pr ops o)) x) (h:fU C pr ms md c o E K s=some r):
  cg C md pr ms o (qT md E) (oy md E) E s K r:=by
 have bw: ∀h,oy md E h->qT md E h:=N0 md E;unfold fU at h;cases ho:o.op with
 |move y=>rw[ho]at h;exact ZpQ (.inl ho) bw h
 |assign y=>rw[ho]at h;exact ZpQ (.inr ho) bw h
 |pick b y z=>rw[ho]at h;exact ZwS ho bw h
 |alloc t=>rw[ho]at h;exact ZuW ho bw h
 |box t y=>rw[ho]at h;exact ZxE ho bw h
 |build t ps=>rw[ho]at h;exact Zut ho bw h
 |buildSlice t n ps=>rw[ho]at h;exact Zn3 ho bw h
 |load t a=>
  rw[ho]at h;refine ZvS ho bw ?_ ?_ h
  .intro r v hm hv
   rcases mm with rfl|⟨x,k,m,rfl⟩
   .trivial
   .rcases Zt4 (P:=C.P) (pr:=pr) (ops:=ops) ho with e|⟨b,_,e⟩|⟨q,e⟩<;>rw[e]at hm⊢
    .cases hm
    .cases hm
    .have:q=r:=dQ hm
     subst this;exact⟨v,rfl,hv⟩
  .intro hm i p0 hx
   rcases mm with rfl|⟨x,k,m,rfl⟩
   .trivial
   .rcases Zt4 (P:=C.P) (pr:=pr) (ops:=ops) ho with e|⟨b,hb,e⟩|⟨q,e⟩<;>rw[e]at hm⊢
    .exact⟨i,rfl⟩
    .rw[hb]at hx
     have hx:E.get b= .v (.ptr (some (i,p0))):=by
      grind[Env.src]
     exact⟨i,p0,hx,rfl⟩
    .cases hm
 |store t a y=>
  rw[ho]at h;simp only at h;have⟨hd,h⟩:=Zq h;have⟨h,cq⟩:=Zzp h;refine ZuA ho (by simpa using hd) bw ?_ ?_ h
  .intro r v hm hv
   rcases mm with rfl|⟨x,k,m,rfl⟩
   .trivial
   .rcases Zrq (P:=C.P) (pr:=pr) (ops:=ops) ho with e|e|⟨q,e⟩<;>rw[e]at hm⊢
    .cases hm
    .cases hm
    .have:q=r:=dQ hm
     subst this;exact⟨v,rfl,hv⟩
  .intro hm i p hx
   rcases mm with rfl|⟨x,k,m,rfl⟩
   .trivial
   .rcases Zrq (P:=C.P) (pr:=pr) (ops:=ops) ho with e|e|⟨q,e⟩<;>rw[e]at hm cq⊢
    .exact⟨i,rfl⟩
    .exact⟨i,rfl,cq i p hx⟩
    .cases hm
 |nilCheck y=>rw[ho]at h;exact Zp8 ho bw h
 |binOp op t y z u=>rw[ho]at h;exact Zx6 hC ho bw h
 |unOp op t y=>rw[ho]at h;exact ZzB ho bw h
 |convert t u y=>
  rw[ho]at h;refine Zsc ho bw (λi=>?_) h;rcases mm with rfl|⟨x,k,m,rfl⟩
  .trivial
  .have:cls C.P pr ops o= .hp:=by unfold cls;rw[ho]
   rw[this];exact⟨i,rfl⟩
 |makeInterface t y=>rw[ho]at h;exact ZuN ho bw h
 |makeFunc f x y=>rw[ho]at h;exact Zwl ho bw h
 |makeSlice t x y=>rw[ho]at h;exact ZpD ho bw h
 |slice t y lo hi mx=>
  rw[ho]at h;cases mx
  .refine ZuF ho bw (λ⟨m,e,ht⟩ i=>?_) h;rcases mm with rfl|⟨x,k,m,rfl⟩
   .trivial
   .have:cls C.P pr ops o= .hp:=by grind[cls]
    rw[this];exact⟨i,rfl⟩
  .cases h
 |fieldAddr t y f=>rw[ho]at h;exact ZpK ho bw h
 |field t y f=>rw[ho]at h;exact Zuu ho bw h
 |indexAddr t y i=>rw[ho]at h;exact ZpC ho bw h
 |index t y i=>rw[ho]at h;exact ZuR ho bw h
 |range t y=>rw[ho]at h;exact Zu0 ho bw h
 |next it b=>
  rw[ho]at h;cases it with
  |tmp t=>
   cases b
   .cases h
   .refine ZwI ho bw (λv hv=>?_) h;rcases mm with rfl|⟨x,k,m,rfl⟩
    .trivial
    .have:cls C.P pr ops o= .qM t:=by unfold cls;rw[ho]
     rw[this];exact⟨v,rfl,hv⟩
  |_=>cases b<;>cases h
 |typeAssert y t u ok=>
  rw[ho]at h;cases ok
  .refine Zsx hC ho bw (λi=>?_) h;rcases mm with rfl|⟨x,k,m,rfl⟩
   .trivial
   .have:cls C.P pr ops o= .wr:=by unfold cls;rw[ho]
    rw[this];exact⟨i,rfl⟩
  .cases h
 |extract t i=>
  rw[ho]at h;cases t with
  |tmp t=>exact ZrW ho bw h
  |_=>cases h
 |panic y=>
  rw[ho]at h;refine Zuz ho (λi=>?_) h;rcases mm with rfl|⟨x,k,m,rfl⟩
  .trivial
  .have:cls C.P pr ops o= .wr:=by unfold cls;rw[ho]
   rw[this];exact⟨i,rfl⟩
 |call q=>
  rw[ho]at h;simp only at h;have wr: ∀b,q.callee= .builtin b->b≠ .len->b≠ .min->b≠ .max->b≠ .append->∀i,oy md E (.inl i):=by
   intro b hq h1 h2 h3 h4 i;rcases mm with rfl|⟨x,k,m,rfl⟩
   .trivial
   .have:cls C.P pr ops o= .wr:=by
     grind[cls]
    rw[this];exact⟨i,rfl⟩
  cases hq:q.callee with
  |value f=>
   rw[hq]at h;have cU:cls C.P pr ops o= .ap []\/cls C.P pr ops o= .call:=by
    grind[cls]
   refine Zwm hq ho bw (λi=>?_) (λi=>?_) hc h
   .rcases mm with rfl|⟨x,k,m,rfl⟩
    .trivial
    .rcases cU with this|this<;>rw[this]<;>exact⟨i,rfl⟩
   .rcases mm with rfl|⟨x,k,m,rfl⟩
    .exact .inl trivial
    .rcases cU with this|this<;>rw[this]
     .by_cases hb: ∀b∈(Md.d (wS pr ops k m (.ap [])) x).bs,∃j p,E.get b= .v (.ptr (some (j,p)))/\j≠i
      .exact .inl ⟨i,rfl,hb⟩
      grind
     .rcases jw x 2 with hx|hx
      .exact .inl ⟨hx,i,rfl⟩
      .exact .inr (.inl hx)
  |invoke f m=>rw[hq]at h;cases h
  |builtin b=>
   rw[hq]at h;cases b with
   |len=>exact ZxI hq rfl ho bw h
   |append=>
    have⟨h,yV⟩:=ZyX h;have hc:cls C.P pr ops o= .ap []:=by grind[cls]
    refine Ztt hq ho bw (λi=>?_) (λy z i p n hy he=>?_) h
    .rcases mm with rfl|⟨x,k,m,rfl⟩
     .trivial
     .rw[hc];exact⟨i,rfl⟩
    .rcases mm with rfl|⟨x,k,m,rfl⟩
     .trivial
     .rw[hc]at yV⊢
      exact⟨i,rfl,yV y z i p n hy he⟩
   |copy=>exact ZwN hq ho bw Fd h
   |min=>exact ZrO (mx:=false) hq rfl ho bw h
   |max=>exact ZrO (mx:=true) hq rfl ho bw h
   |clear=>exact ZuL hq ho bw Fd h
   |_=>cases h
 |_=>rw[ho]at h;cases h
