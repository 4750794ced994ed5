/- What an operation does, said of the machine and of the model: the frame of the proofs for the single operations. -/
import Derived.Test.YtegglibipjjblaaGreatDoorGvRel
import Derived.Laws.Strings
import Derived.Laws.Concat
import Derived.DeepKeys
import Derived.Laws.Slices
import Derived.Laws.BytesArg
import Derived.Laws.Tables
import Derived.Laws.MakeOwn
import Derived.Laws.Append
namespace Go.Gv
theorem G5 (k:Nat) (e:eH) (l:List (Nat×eH)) (t:Nat):look ((k,e)::l) t=if k=t then e else look l t:=by
 simp[look]
theorem Env.sa (E:Env) (t:Nat) (e:eH) (u:Nat):(E.put t e).get u=if t=u then e else E.get u:=G5 t e E.l u
theorem Env.adS (n:Nat) (t:Nat) (e:eH) (l:List (Nat×eH)) (u:Nat):(⟨n,(t,e)::l⟩:Env).get u=if t=u then e else look l u:=G5 t e l u
@[simp] theorem Env.aaa (E : Env) (t : Nat) (e : eH) : (E.put t e).bO = E.bO := rfl
@[simp] theorem Env.FW (E : Env) (t : Option Nat) (e : eH) : (E.eU t e).bO = E.bO := by cases t <;> rfl
theorem Env.j5 (E:Env) (t:Option Nat) (e:eH) (u:Nat):(E.eU t e).get u=if t=some u then e else E.get u:=by
 cases t with
 |none=>simp[Env.eU]
 |some t=>simp[Env.eU,Env.sa,fU]
theorem Hr: ∀(l:al) (t:Nat),has l t=true↔t∈l
 |[],t=>by simp[has]
 |k::r,t=>by
  simp only[has,lz,dC,Hr r t];constructor
  .rintro(h|h)
   .simp_all
   .exact .inr h
  .rintro(h|h)
   .simp_all
   .exact .inr h
theorem yC (E:Env) (ts:al) (t:Nat):(E.del ts).get t=if has ts t then .u else E.get t:=by
 have key: ∀l:List (Nat×eH),look (ES l ts) t=if has ts t then .u else look l t:=by
  intro l;induction l with
  |nil=>simp[ES,look]
  |cons x r ih=>
   obtain⟨k,e⟩:=x;simp only[ES];cases hk:has ts k with
   |true=>
    simp only[ae,ih,G5];by_cases h:k=t
    .subst h;simp[hk]
    .simp[h]
   |false=>
    simp only[af,G5,ih];by_cases h:k=t
    .subst h;simp[hk]
    .simp[h]
 exact key E.l
@[simp] theorem ahN (E : Env) (ts : al) : (E.del ts).bO = E.bO := rfl
def dU (E:Env) (s:St):dD->Prop
 | .inl i=>i<s.length
 | .inr v=>v<E.bO
def wK (E:Env) (s:St) (E':Env) (s':St) (h:dD):Prop:=¬dU E s h/\dU E' s' h
variable {ab:AB} {ad base:Addr} {ps:Array (Nat×Operand)} {as cap first:Array Operand} {ts:Array TypeId} {c vs zv:Array Value} {op:BinOp} {f mx:Bool} {cb:CB} {q:Call} {Q Q' Q1:Kn} {ops:List Oper} {md:Md} {g i j lim m n o' off p z0:Nat} {y:Operand} {hi lo:Option Operand} {P:Program} {ψ ψ':Ps} {s s' s1:St} {α β:Type} {d ed td:TypeDesc} {e t ty u xt yt:TypeId} {v:Value} {w w':World} {cs cs' ds fs xs ys z:ah} {ms pr:al} {C:bB} {h:dD}
theorem Cs (h:dc s i=some ab):i<s.length:=by
 grind[dc]
variable {E:Env}
theorem CR.qD (hE:jd E) (c:CR E s h ab):dU E s h:=by
 cases h with
 |inl i=>exact Cs c
 |inr v=>
  rcases c with⟨t,n,cs,e,_⟩|⟨t,l,p,e,_⟩
  .exact hE.lt t v (by rw[e];rfl)
  .exact hE.lt t v (by rw[e];rfl)
theorem Ka {x:St} (h:i<s.length):dc (s++x) i=dc s i:=by
 grind[dc]
theorem Pp (s:St) (b:bT):dc (s++[some b]) s.length=some (.cells b.fN b.cells):=by
 simp[dc]
def Spec (pr:al) (o:Oper):Prop:=
 match o.op with
 | .store .. | .next .. | .range .. =>True
 | .alloc _| .box _ _=>∃d,o.dst=some d/\has pr d=true
 |_=>False
def sQ (o:Oper):Prop:=
 match o.op with
 | .alloc _| .box .. | .buildSlice .. | .makeSlice .. | .convert .. =>True
 | .call q=>match q.callee with
  | .value _| .builtin .append=>True
  |_=>False
 |_=>False
structure mg (W:dD->Prop) (pr ms:List Nat) (o:Oper) (E:Env) (s:St) (E':Env) (s':St):Prop where
 len:s.length<=s'.length
 bO:E.bO<=E'.bO
 gJ:jd E->jd E'
 other: ∀t,o.dst≠some t->has ms t=false->E'.get t=E.get t
 val: ∀t d,o.dst≠some t->E'.get t= .v d->E.get t= .v d
 bH: ∀t,o.dst≠some t->∀(C:bB) ψ x,fy C ψ (E.get t) x->fy C ψ (E'.get t) x
 back: ∀h ab,CR E' s' h ab->W h\/wK E s E' s' h\/CR E s h ab
 wA: ∀t v n cs,E'.get t= .loc v n cs->(∃mo,E.get t= .loc v n mo)\/(E.bO<=v/\o.dst=some t)
 yf: ∀t v l p,E'.get t= .it v l p->(∃p0,E.get t= .it v l p0)\/(E.bO<=v/\o.dst=some t)
 aao: ∀i,¬W (.inl i)->i<s.length->s'[i]? =s[i]?
 plain:(∃e:eH,e.cX=none/\E'=E.eU o.dst e)\/Spec pr o
 grow:s'.length=s.length\/sQ o
structure aD (C:bB) (o:Oper) (D:dD->Prop) (E:Env) (s:St) (ψ:Ps) (Q:Kn) (a:Act) (w:World):Prop where
 eL:fa C ψ Q w
 gr:rz ψ w
 kF:Glob C ψ
 gJ:jd E
 jC: ∀h ab cb,D h->CR E s h ab->ψ h=some cb->Q h ab
 args: ∀t,.tmp t∈o.op.operands->fy C ψ (E.get t) (a.tmps.getD t undef)
def J2 (E:Env) (s:St) (E':Env) (s':St) (ψ:Ps):Prop:=∀h,wK E s E' s' h->ψ h=none
structure JZ (C:bB) (D W:dD->Prop) (E:Env) (s:St) (E':Env) (s':St) (ψ:Ps) (Q:Kn) (w:World) (ψ':Ps) (Q':Kn) (w':World):Prop where
 eL:fa C ψ' Q' w'
 ext:Ext ψ Q w ψ' Q' w'
 news: ∀h cb,ψ' h=some cb->ψ h=some cb\/wK E s E' s' h
 p1: ∀h ab cb,CR E' s' h ab->(W h\/wK E s E' s' h)->ψ' h=some cb->Q' h ab
 p2: ∀h ab cb,ψ h=some cb->Q h ab->¬W h->(D h->dU E s h->CR E s h ab)->Q' h ab
def BX (C:bB) (o:Oper) (D W:dD->Prop) (E:Env) (s:St) (E':Env) (s':St):Prop:=
 ∀(ψ:Ps) (Q:Kn) (a:Act) (w:World) (next:Act->World->Prop) (QQ:Exit->Act->World->Prop),aD C o D E s ψ Q a w->J2 E s E' s' ψ->
  (∀ψ' Q' v w',JZ C D W E s E' s' ψ Q w ψ' Q' w'->(∀d,o.dst=some d->fy C ψ' (E'.get d) v)->next (a.put o.dst v) w')->o.wp C.P a w next QQ
def oi (ch:List PanicEntry):Prop:=∃t v,ch=[{ v:= .iface t v,recovered:=false }]
def wL (C:bB) (o:Oper) (D:dD->Prop) (E:Env) (s s':St):Prop:=
 s.length<=s'.length/\
 ∀(ψ:Ps) (Q:Kn) (a:Act) (w:World) (next:Act->World->Prop) (QQ:Exit->Act->World->Prop),aD C o D E s ψ Q a w->J2 E s E s' ψ->
  (∀ψ' Q' ch w',oi ch->fa C ψ' Q' w'->Ext ψ Q w ψ' Q' w'->(∀h cb,ψ' h=some cb->ψ h=some cb\/wK E s E s' h)->
   (∀i ab cb,dc s' i=some ab->ψ' (.inl i)=some cb->Q' (.inl i) ab)->QQ (.panic ch) a w')->o.wp C.P a w next QQ
def bY (C:bB) (md:Md) (pr ms:al) (o:Oper) (D W:dD->Prop) (E:Env) (s:St) (K:Env->M β) (r:Out β×St):Prop:=
 (∃E' s',K E' s'=some r/\mg W pr ms o E s E' s'/\BX C o D W E s E' s')\/(md.x=0/\∃s',r=(.eZ,s')/\wL C o D E s s')
theorem Zqf {d:DV} (h:By v=some d):VR C ψ d v:=by
 unfold By at h;split at h<;>first|(cases h;done)|(injection h with h;subst h)
 .exact .bool _
 .exact .int _ _
 .exact .str _
 .exact .Jo
 .exact .sG _
 .exact .nilFunc
 .exact .nilIface
theorem ZuX {d:DV} (h:By v=some d):one d=true:=by
 unfold By at h;split at h<;>first|(cases h;done)|(injection h with h;subst h;rfl)
theorem El {C:bB} {ψ:Ps} : ∀ {vs:List Value} {ds:ah},Hz vs=some ds->bE C ψ ds vs/\ds.all one=true
 |[],ds,h=>by simp only[Hz,fU]at h;subst h;exact⟨.nil,rfl⟩
 |v::vs,ds,h=>by
  simp only[Hz]at h;split at h
  .rename_i d lO h1 h2
   injection h with h;subst h
   obtain⟨a,b⟩:=El (C:=C) (ψ:=ψ) h2;exact⟨.cons _ _ _ _ (Zqf h1) a,by simp[ZuX h1,b]⟩
  .cases h
section
variable {C:bB} {o:Oper} {D:dD->Prop} {E:Env} {s:St} {ψ:Ps} {Q:Kn} {a:Act} {w:World}
theorem aD.src (p:aD C o D E s ψ Q a w) {x:Operand} (hx:x∈o.op.operands):fy C ψ (E.src C x) (a.eval x):=by
 cases x with
 |tmp t=>
  have h:=p.args t hx;simp only[Env.src,Act.eval];cases he:E.get t with
  |loc v n cs=>
   rw[he]at h;obtain⟨cb,h1,h2,h3⟩:=h;exact⟨cb,h1,h2,h3⟩
  |it v l q=>exact trivial
  |u=>exact trivial
  |un=>rw[he]at h;exact h
  |v d=>rw[he]at h;exact h
  |p9 ds=>rw[he]at h;exact h
  |pl r v n=>rw[he]at h;exact h
 |const v=>
  simp only[Env.src,Act.eval];split
  .exact Zqf (by assumption)
  .exact trivial
 |global g=>
  simp only[Env.src,Act.eval];cases hg:C.AM g with
  |false=>exact trivial
  |true=>
   obtain⟨cb,h1,h2,h3⟩:=p.kF g hg;have:=VR.ptr (C:=C) (ψ:=ψ) (C.gl g) 0 cb h1;rw[h2,h3]at this;exact this
 |func f=>
  simp only[Env.src,Act.eval];cases hg:C.cov f with
  |false=>exact trivial
  |true=>exact VR.func f [] [] #[] #[] hg .nil .nil
theorem aD.val (p:aD C o D E s ψ Q a w) {x:Operand} (hx:x∈o.op.operands) {d:DV} (h:E.src C x= .v d):VR C ψ d (a.eval x):=by
 have:=p.src hx;rw[h]at this;exact this
theorem Env.Jx (C:bB) (E:Env) (x:Operand):(E.src C x).cX=none:=by
 cases x with
 |tmp t=>simp only[Env.src];cases E.get t<;>rfl
 |const v=>simp only[Env.src];cases By v<;>rfl
 |global g=>simp only[Env.src];cases C.AM g<;>rfl
 |func f=>simp only[Env.src];cases C.cov f<;>rfl
theorem Env.Dv (C:bB) (hE:jd E) {x:Operand} {r v:Nat} (h:E.src C x= .pl r v n):v<E.bO:=by
 cases x with
 |tmp t=>
  simp only[Env.src]at h;cases he:E.get t with
  |loc v' m cs=>
   rw[he]at h;simp only[eH.pl.injEq]at h;obtain⟨_,rfl,_⟩:=h;exact hE.lt t v' (by rw[he];rfl)
  |pl r' v' n'=>
   rw[he]at h;simp only[eH.pl.injEq]at h;obtain⟨_,rfl,_⟩:=h;exact hE.pl t _ _ _ he
  |_=>rw[he]at h;cases h
 |const v=>simp only[Env.src]at h;cases hv:By v<;>rw[hv]at h<;>cases h
 |global g=>simp only[Env.src]at h;cases hv:C.AM g<;>rw[hv]at h<;>cases h
 |func f=>simp only[Env.src]at h;cases hv:C.cov f<;>rw[hv]at h<;>cases h
end
theorem jd.eU {E:Env} (hE:jd E) {t:Option Nat} {e:eH} (hv:e.cX=none) (hp: ∀r v n,e= .pl r v n->v<E.bO):jd (E.eU t e):=by
 constructor
 .intro u v h
  rw[Env.j5]at h;rw[Env.FW];split at h
  .rw[hv]at h;cases h
  .exact hE.lt u v h
 .intro u r v n h
  rw[Env.j5]at h;rw[Env.FW];split at h
  .exact hp r v n h
  .exact hE.pl u r v n h
 .intro u v n cs h
  rw[Env.j5]at h;split at h
  .rw[h]at hv;cases hv
  .exact hE.len u v n cs h
 .intro u u' v h h'
  rw[Env.j5]at h h';split at h
  .rw[hv]at h;cases h
  .split at h'
   .rw[hv]at h';cases h'
   .exact hE.uniq u u' v h h'
theorem CR.eU {t:Option Nat} {e:eH} (hv:e.cX=none) (c:CR (E.eU t e) s h ab):CR E s h ab:=by
 cases h with
 |inl i=>exact c
 |inr v=>
  rcases c with⟨u,n,cs,h,eX⟩|⟨u,l,p,h,eX⟩
  .rw[Env.j5]at h
   split at h
   .rw[h]at hv;cases hv
   .exact .inl ⟨u,n,cs,h,eX⟩
  .rw[Env.j5]at h
   split at h
   .rw[h]at hv;cases hv
   .exact .inr ⟨u,l,p,h,eX⟩
section
variable {C:bB} {o:Oper} {D W:dD->Prop} {E:Env} {s:St}
theorem mg.put (pr ms:al) (e:eH) (hv:e.cX=none) (hp:jd E->∀r v n,e= .pl r v n->v<E.bO) (hl:s.length<=s'.length)
  (hs: ∀i ab,dc s' i=some ab->W (.inl i)\/s.length<=i\/dc s i=some ab) (hf: ∀i,¬W (.inl i)->i<s.length->s'[i]? =s[i]?) (hg:s'.length=s.length\/sQ o):mg W pr ms o E s (E.eU o.dst e) s' where
 len:=hl
 bO:=by simp
 gJ:=λhE=>hE.eU hv (hp hE)
 other:=λt h _=>by rw[Env.j5,aW h]
 val:=λt d h e=>by rw[Env.j5,aW h]at e;exact e
 bH:=λt h C ψ x r=>by rw[Env.j5,aW h];exact r
 back:=λh ab c=>by
  cases h with
  |inl i=>
   have c':dc s' i=some ab:=c;rcases hs i ab c' with h|h|h
   .exact .inl h
   .exact .inr (.inl ⟨ym.2 h,Cs c'⟩)
   .exact .inr (.inr h)
  |inr v=>
   have c':CR (E.eU o.dst e) s (.inr v) ab:=c;exact .inr (.inr (c'.eU hv))
 wA:=λt v n cs h=>by
  rw[Env.j5]at h;split at h
  .rw[h]at hv;cases hv
  grind
 yf:=λt v l p h=>by
  rw[Env.j5]at h;split at h
  .rw[h]at hv;cases hv
  grind
 aao:=hf
 plain:= .inl ⟨e,hv,rfl⟩
 grow:=hg
theorem mg.WG (pr ms:al) (e:eH) (hv:e.cX=none) (hp:jd E->∀r v n,e= .pl r v n->v<E.bO):mg W pr ms o E s (E.eU o.dst e) s:=
 mg.put pr ms e hv hp (aL _) (λ_ _ h=> .inr (.inr h)) (λ_ _ _=>rfl) (.inl rfl)
theorem BX.pure (br: ∀h,W h->D h) (e:eH) (hv:e.cX=none)
  (dO: ∀ψ Q a w,aD C o D E s ψ Q a w->∃v w',(execOp a.eval o).run C.P w= .ok (.value v) w'/\gQ w w'/\fy C ψ e v):BX C o D W E s (E.eU o.dst e) s:=by
 intro ψ Q a w next QQ p _ hn;obtain⟨v,w',hr,hm,eJ⟩:=dO ψ Q a w p;unfold Oper.wp;rw[hr];refine hn ψ Q v w' ⟨p.eL.more p.gr hm,Ext.more hm,λh cb e=> .inl e,λh ab cb c hw e=>?_,λh ab cb e q _ _=>q⟩ (λd hd=>?_)
 .rcases hw with hw|⟨h1,h2⟩
  .exact p.jC h ab cb (br h hw) (c.eU hv) e
  .exact absurd (by cases h<;>simpa [dU]using h2) h1
 grind[Env.j5]
theorem bY.pure {β:Type} {md:Md} {pr ms:al} (br: ∀h,W h->D h) {K:Env->M β} {r:Out β×St} (e:eH) (hv:e.cX=none) (hp:jd E->∀r v n,e= .pl r v n->v<E.bO)
  (hk:K (E.eU o.dst e) s=some r)
  (dO: ∀ψ Q a w,aD C o D E s ψ Q a w->∃v w',(execOp a.eval o).run C.P w= .ok (.value v) w'/\gQ w w'/\fy C ψ e v):bY C md pr ms o D W E s K r:=
 .inl ⟨_,_,hk,mg.WG pr ms e hv hp,BX.pure br e hv dO⟩
theorem bY.val (br: ∀h,W h->D h) {K:Env->M β} {r:Out β×St} (d:DV)
  (hk:cy E o K d s=some r)
  (dO: ∀ψ Q a w,aD C o D E s ψ Q a w->∃v w',(execOp a.eval o).run C.P w= .ok (.value v) w'/\gQ w w'/\VR C ψ d v):bY C md pr ms o D W E s K r:=
 bY.pure br (.v d) rfl (λ_ _ _ _ h=>by cases h) hk dO
theorem bY.Je (cx:sQ o) (br: ∀h,W h->D h) {K:Env->M β} {r:Out β×St} (d:DV) (cells:ah)
  (hk:cy E o K d (s++[some ⟨false,cells⟩])=some r)
  (dO: ∀ψ Q a w,aD C o D E s ψ Q a w->∃v w' cb,(execOp a.eval o).run C.P w= .ok (.value v) w'/\gQ w w'/\w.heap.size<=cb.b/\cb.b<w'.heap.size/\
   Holds C ψ w' cb (.cells false cells)/\(∀ψ',(∀h c,ψ h=some c->ψ' h=some c)->ψ' (.inl s.length)=some cb->VR C ψ' d v)):bY C md pr ms o D W E s K r:=by
 refine .inl ⟨_,_,hk,mg.put pr ms (.v d) rfl (λ_ _ _ _ h=>by cases h) (by simp) (λi ab h=>?_) (by grind) (.inr cx),?_⟩
 .rcases jH i s.length with hi|hi
  .rw[Ka hi]at h;exact .inr (.inr h)
  .exact .inr (.inl hi)
 .intro ψ Q a w next QQ p room hn
  obtain⟨v,w',cb,hr,hm,h1,h2,hh,eJ⟩:=dO ψ Q a w p;have iY:wK E s (E.eU o.dst (.v d)) (s++[some ⟨false,cells⟩]) (.inl s.length):=⟨by simp[dU],by simp[dU]⟩;have hf:=room _ iY;unfold Oper.wp;rw[hr];refine hn _ _ v w' ⟨fa.new (cb:=cb) (ab:= .cells false cells) p.eL p.gr hm hf h1 (hh.same (λ_ _ e=>vt hf _ _ e) rfl),Ext.new hm hf h1 h2,λh c e=>?_,λh ab c cr hw e=>?_,λh ab c e q _ _=>?_⟩ (λd' hd=>?_)
  .by_cases eh:h= .inl s.length
   .grind
   .rw[ow _ _ eh]at e;exact .inl e
  .by_cases eh:h= .inl s.length
   .subst eh
    have oz:dc (s++[some ⟨false,cells⟩]) s.length=some ab:=cr;rw[Pp]at oz;cases oz;exact .inl ⟨rfl,rfl⟩
   .refine .inr ⟨eh,?_⟩
    rw[ow _ _ eh]at e;rcases hw with hw|⟨n1,n2⟩
    .refine p.jC h ab c (br h hw) ?_ e
     cases h with
     |inl i=>
      have oz:dc (s++[some ⟨false,cells⟩]) i=some ab:=cr;have:=Cs oz;simp only[bz,iw]at this;rwa [Ka (by have:i≠s.length:=λe=>eh (by rw[e]);omega)]at oz
     |inr x=>
      have oz:CR (E.eU o.dst (.v d)) s (.inr x) ab:=cr;exact oz.eU rfl
    .cases h with
     |inl i=>
      simp only[dU,bz,iw]at n1 n2;grind
     |inr x=>simp only[dU,Env.FW]at n1 n2;exact absurd n2 n1
  .refine .inr ⟨λeh=>?_,q⟩
   grind
  .rw[Env.j5,bw hd]
   exact eJ _ (vt hf) (qi _ _ _)
end
variable {β:Type}
variable {r:Out β×St}
theorem Zt {x:Operand} {K:DV->M β} (h:fe C E x K s=some r): ∃d,E.src C x= .v d/\K d s=some r:=by
 unfold fe at h;cases he:E.src C x<;>rw[he]at h<;>first|exact⟨_,rfl,h⟩|cases h
theorem Ej {x:Operand} {K:Int->M β} (h:Bs C E x K s=some r): ∃k n,E.src C x= .v (.int k n)/\K n s=some r:=by
 obtain⟨d,h1,h2⟩:=Zt h;split at h2
 .exact⟨_,_,h1,h2⟩
 .cases h2
theorem RJ {x:Operand} {K:Bool->M β} (h:Ud C E x K s=some r): ∃b,E.src C x= .v (.bool b)/\K b s=some r:=by
 obtain⟨d,h1,h2⟩:=Zt h;split at h2
 .exact⟨_,h1,h2⟩
 .cases h2
theorem Tx {a:ai} {K:Nat->Nat->M β} (h:bJ a K s=some r): ∃i o,a=some (i,o)/\K i o s=some r:=by
 unfold bJ at h;split at h
 .exact⟨_,_,rfl,h⟩
 .cases h
theorem GS {x:Operand} {KL:Nat->Nat->Nat->M β} {KH:Nat->Nat->M β} (h:CH C E x KL KH s=some r):
  (∃t v o,E.src C x= .pl t v o/\KL t v o s=some r)\/(∃i o,E.src C x= .v (.ptr (some (i,o)))/\KH i o s=some r):=by
 unfold CH at h;cases he:E.src C x with
 |pl t v o=>rw[he]at h;exact .inl ⟨_,_,_,rfl,h⟩
 |v d=>
  rw[he]at h;cases d with
  |ptr a=>
   obtain⟨i,o,rfl,h⟩:=Tx h;exact .inr ⟨i,o,rfl,h⟩
  |_=>cases h
 |_=>rw[he]at h;cases h
theorem lL {b:Bool} {K:M β} (h:aC b K s=some r):b=true/\K s=some r:=by
 cases b with
 |true=>exact⟨rfl,h⟩
 |false=>cases h
theorem Zp {b:Bool} {x:M β} (h:(bif b then x else fail) s=some r):b=true/\x s=some r:=by
 cases b with
 |true=>exact⟨rfl,h⟩
 |false=>cases h
theorem G0 {b:Bool} {x:M β} (h:(bif b then fail else x) s=some r):b=false/\x s=some r:=by
 cases b with
 |false=>exact⟨rfl,h⟩
 |true=>cases h
theorem pD {K:M β} (h:ra P t K s=some r): ∃d,P.underlying t=some d/\K s=some r:=by
 unfold ra at h;cases he:P.underlying t<;>rw[he]at h<;>first|exact⟨_,rfl,h⟩|cases h
theorem Le {K:DV->M β} (h:eD cs i K s=some r): ∃d,cs[i]? =some d/\K d s=some r:=by
 unfold eD at h;cases he:cs[i]? <;>rw[he]at h<;>first|exact⟨_,rfl,h⟩|cases h
theorem SI {K:M β} (h:bx cs n K s=some r):cs.length=n/\K s=some r:=by
 unfold bx at h;obtain⟨h1,h2⟩:=Zp h;exact⟨dy h1,h2⟩
theorem ZmN {t v:Nat} {K:Nat->ah->M β} (h:LX E t v K s=some r): ∃n cs,E.get t= .loc v n cs/\K n cs s=some r:=by
 unfold LX at h;cases he:E.get t with
 |loc v' n cs=>
  rw[he]at h;obtain⟨h1,h2⟩:=Zp h;have:=dy h1;subst this;exact⟨n,cs,rfl,h2⟩
 |_=>rw[he]at h;cases h
theorem Ht {k k':IntKind} (h:uU k k'=true):k=k':=by cases k<;>cases k'<;>first|rfl|(simp[uU]at h)
theorem LD {x:B} {d:DV} {K:DV->M β} (h:d1 x d K s=some r):
  ∃d',K d' s=some r/\(∀(C:bB) ψ v,VR C ψ d v->VR C ψ d' v)/\(one d=true->one d'=true):=by
 unfold d1 at h;split at h
 .unfold tj at h;split at h
  .exact⟨_,h,λ_ _ _ h=>h,λh=>h⟩
  .cases h
 .unfold cT at h;split at h
  .obtain⟨h1,h2⟩:=Zp h
   have:=Ht h1;subst this;exact⟨_,h2,λ_ _ _ h=>h,λh=>h⟩
  .cases h
 .unfold Ay at h;split at h
  .exact⟨_,h,λ_ _ _ h=>h,λh=>h⟩
  .cases h
 .unfold CF at h;split at h
  .exact⟨_,h,λ_ _ _ h=>h,λh=>h⟩
  .cases h
 .unfold dE at h;split at h
  .rename_i z a n
   obtain⟨h1,h2⟩:=Zp h;refine⟨_,h2,λC ψ v hv=>?_,λ_=>rfl⟩;simp only[lz]at h1;rcases h1 with h1|h1
   .have:=dy h1;subst this;exact hv
   .cases a with
    |none=>cases hv;exact .sG _
    |some _=>cases h1
  .cases h
 .unfold TI at h;split at h
  .exact⟨_,h,λ_ _ _ h=>h,λh=>h⟩
  .cases h
 .exact⟨_,h,λ_ _ _ h=>h,λh=>h⟩
 .cases h
theorem GH: ∀ {l:List B} {cs:ah} {K:ah->M β} {s:St} {r:Out β×St},nC l cs K s=some r->
  ∃ds,K ds s=some r/\ds.length=cs.length/\(∀(C:bB) ψ vs,bE C ψ cs vs->bE C ψ ds vs)/\(cs.all one=true->ds.all one=true)
 |[],cs,K,s,r,h=>by
  simp only[nC]at h;cases cs with
  |nil=>exact⟨[],h,rfl,λ_ _ _ h=>h,λh=>h⟩
  |cons _ _=>cases h
 |x::l,cs,K,s,r,h=>by
  have gen: ∀ {x:B},(jt cs λd rest=>d1 x d λd'=>nC l rest λds=>K (d'::ds)) s=some r->
    ∃ds,K ds s=some r/\ds.length=cs.length/\(∀(C:bB) ψ vs,bE C ψ cs vs->bE C ψ ds vs)/\(cs.all one=true->ds.all one=true):=by
   intro x h;cases cs with
   |nil=>cases h
   |cons d rest=>
    simp only[jt]at h;obtain⟨d',h,hd,h1⟩:=LD h;obtain⟨ds,h,hl,hr,h2⟩:=GH h;refine⟨_,h,by simp[hl],λC ψ vs hv=>?_,λho=>?_⟩
    .cases hv with
     |cons _ v _ vs a b=>exact .cons _ _ _ _ (hd C ψ v a) (hr C ψ vs b)
    .simp only[tL,aR]at ho⊢
     exact⟨h1 ho.1,h2 ho.2⟩
  have eQ: ∀ {n:Nat} ,(TH n cs λxs rest=>nC l rest λds=>K (xs++ds)) s=some r->
    ∃ds,K ds s=some r/\ds.length=cs.length/\(∀(C:bB) ψ vs,bE C ψ cs vs->bE C ψ ds vs)/\(cs.all one=true->ds.all one=true):=by
   intro n h;unfold TH at h;obtain⟨h1,h⟩:=Zp h;have h1:=pj h1;obtain⟨ds,h,hl,hr,h2⟩:=GH h;refine⟨_,h,by simp[hl];omega,λC ψ vs hv=>?_,λho=>?_⟩
   .have e:vs=vs.take n++vs.drop n:=(nu n vs).symm
    rw[e];exact(hv.take n).append (hr C ψ _ (hv.drop n))
   .rw[rj,aR]
    have si: ∀x∈cs,one x=true:=lA.1 ho;exact⟨lA.2 λx hx=>si x (List.mem_of_mem_take hx),h2 (lA.2 λx hx=>si x (List.mem_of_mem_drop hx))⟩
  cases x with
  |eQ n=>
   cases l with
   |nil=>
    simp only[nC]at h;obtain⟨hl,h⟩:=SI h;exact⟨cs,h,rfl,λ_ _ _ h=>h,λh=>h⟩
   |cons y l=>simp only[nC]at h;exact eQ h
  |bool=>simp only[nC]at h;exact gen h
  |int k=>simp only[nC]at h;exact gen h
  |str=>simp only[nC]at h;exact gen h
  |ptr=>simp only[nC]at h;exact gen h
  |slice sz=>simp only[nC]at h;exact gen h
  |func=>simp only[nC]at h;exact gen h
  |any=>simp only[nC]at h;exact gen h
theorem La {x:Sh} {d:DV} {K:DV->M β} (h:yK x d K s=some r):
  ∃d',K d' s=some r/\(∀(C:bB) ψ v,VR C ψ d v->VR C ψ d' v)/\(one d=true->one d'=true):=by
 cases x with
 |b x=>exact LD h
 |agg l=>
  simp only[yK,th]at h;split at h
  .obtain⟨ds,h,hl,hr,h2⟩:=GH h
   refine⟨_,h,λC ψ v hv=>?_,λh=>by cases h⟩;cases hv with
   |agg _ vs a b=>exact .agg _ _ (hr C ψ _ a) (h2 b)
  .cases h
theorem GX: ∀ {l:List Sh} {cs:ah} {K:ah->M β} {s:St} {r:Out β×St},AH l cs K s=some r->
  ∃ds,K ds s=some r/\ds.length=cs.length/\ds.length=l.length/\(∀(C:bB) ψ vs,bE C ψ cs vs->bE C ψ ds vs)
 |[],cs,K,s,r,h=>by
  simp only[AH]at h;cases cs with
  |nil=>exact⟨[],h,rfl,rfl,λ_ _ _ h=>h⟩
  |cons _ _=>cases h
 |x::l,cs,K,s,r,h=>by
  simp only[AH]at h;cases cs with
  |nil=>cases h
  |cons d rest=>
   simp only[jt]at h;obtain⟨d',h,hd,_⟩:=La h;obtain⟨ds,h,hl,mW,hr⟩:=GX h;refine⟨_,h,by simp[hl],by simp[mW],λC ψ vs hv=>?_⟩;cases hv with
   |cons _ v _ vs a b=>exact .cons _ _ _ _ (hd C ψ v a) (hr C ψ vs b)
inductive SV (C:bB) (E:Env):List Operand->List DV->Prop
 |nil:SV C E [] []
 |cons {x:Operand} {d:DV} {l:List Operand} {ds:ah} :E.src C x= .v d->SV C E l ds->SV C E (x::l) (d::ds)
theorem GN {C:bB} {E:Env} : ∀ {l:List Operand} {K:ah->M β} {s:St} {r:Out β×St},zG C E l K s=some r->
  ∃ds,K ds s=some r/\SV C E l ds
 |[],K,s,r,h=>⟨[],h,.nil⟩
 |x::l,K,s,r,h=>by
  simp only[zG]at h;obtain⟨d,h1,h⟩:=Zt h;obtain⟨ds,h,h2⟩:=GN h;exact⟨_,h,.cons h1 h2⟩
theorem Ha {C:bB} {o:Oper} {D:dD->Prop} {E:Env} {s:St} {ψ:Ps} {Q:Kn} {a:Act} {w:World} (p:aD C o D E s ψ Q a w):
  ∀ {l:List Operand} {ds:ah},(∀x∈l,x∈o.op.operands)->SV C E l ds->bE C ψ ds (l.map a.eval)
 |[],_,_,.nil=> .nil
 |x::l,_,hm,.cons h1 h2=> .cons _ _ _ _ (p.val (hm x (by simp)) h1) (Ha p (λy hy=>hm y (by simp[hy])) h2)
theorem ZlN (h:P.underlying t=some d): ∃i,P.info? t=some i/\i.size=P.cellsOf t:=by
 unfold Program.underlying at h;unfold Program.cellsOf;cases hi:P.info? t with
 |none=>rw[hi]at h;cases h
 |some i=>exact⟨i,rfl,by simp⟩
theorem Zl (w:World) (h:P.underlying t=some d):(underlying t).run P w= .ok d w:=by
 simp[underlying,h]
theorem qj (w:World) (h:P.underlying t=some d):(sizeOf t).run P w= .ok (P.cellsOf t) w:=by
 obtain⟨i,h1,h2⟩:=ZlN h;simp[sizeOf,typeInfo,h1,h2]
theorem GM (w:World) (h:P.underlying t=some d):(isAgg t).run P w= .ok (iS P t) w:=by
 simp only[isAgg,Sem.run_bind,Zl w h,Result.andThen_ok,iS,h];cases d<;>rfl
theorem Ro (w:World) (h:mP P t=some z): ∃v,(zeroValue t).run P w= .ok v w/\(∀(C:bB) ψ,bE C ψ z v.cells.toList)/\z.all one=true:=by
 unfold mP at h;split at h
 .rename_i i hi
  split at h
  .rename_i v hv
   refine⟨v,by simp[zeroValue,typeInfo,hi,hv],λC ψ=>(El h).1,?_⟩;exact(El (C:=⟨P,id,λ_=>true,id,id,λ_=>true,λ_=>[],λ_=>false⟩) (ψ:=λ_=>none) h).2
  .cases h
 .cases h
theorem Zp8 {b:Nat} {fr:Nat×Nat} {cells:ah} (hb:w.heap[b]? =some (.cells c ty fr)) (hf:fr=(0,0)\/c.size<=fr.1)
  (hr:bE C ψ cells (c.toList.take cells.length)) (ho:cells.all one=true):Holds C ψ w ⟨b,0,c.size⟩ (.cells false cells):=by
 have hl:cells.length<=c.size:=by
  have:=hr.len;simp only[cz,lZ]at this;omega
 refine⟨hl,ho,λj d hd=>?_,λ_=>⟨c,ty,fr,hb,by simp,λj hj=>?_⟩⟩
 .obtain⟨v,hv,mB⟩:=hr.get hd
  refine⟨v,?_,mB⟩;rw[sL]at hv;split at hv
  .rw[cell_of_row w b _ c ty fr hb];simpa using hv
  .cases hv
 .rcases hf with hf|hf
  .subst hf;simp
  .simp only at hj
   have:decide (fr.1<=0+j)=false:=by simp;omega
   rw[this];rfl
theorem Zwl (a:Act) (t:Nat):a.eval (.tmp t)=a.tmps.getD t undef:=rfl
variable {K:Env->M β}
section
variable {C:bB} {o:Oper} {D W:dD->Prop} {E:Env} {s:St} {md:Md} {pr ms:al}
theorem bY.Y6 (iC:Spec pr o) (br: ∀h,W h->D h) (t:Nat) (ht:o.dst=some t) (e:eH) (ab:AB)
  (he:(∃n cells,e= .loc E.bO n cells/\ab= .cells false cells/\cells.length=n)\/(∃l p,e= .it E.bO l p/\ab= .iter l p))
  (hk:K ⟨E.bO+1,(t,e)::E.l⟩ s=some r)
  (dO: ∀ψ Q a w,aD C o D E s ψ Q a w->∃w' cb,(execOp a.eval o).run C.P w= .ok (.value (.pointer (some ⟨cb.b,0,none⟩))) w'/\gQ w w'/\w.heap.size<=cb.b/\cb.b<w'.heap.size/\
   cb.o=0/\Holds C ψ w' cb ab):bY C md pr ms o D W E s K r:=by
 have hv:e.cX=some E.bO:=by rcases he with⟨n,c,rfl,_⟩|⟨l,p,rfl,_⟩<;>rfl
 have get: ∀u,(⟨E.bO+1,(t,e)::E.l⟩:Env).get u=if t=u then e else E.get u:=λu=>Env.adS _ _ _ _ _
 have crn: ∀cR,CR ⟨E.bO+1,(t,e)::E.l⟩ s (.inr E.bO) cR->jd E->cR=ab:=by
  intro cR c hE;rcases c with⟨u,n,cs,h,eX⟩|⟨u,l,p,h,eX⟩<;>rw[get]at h<;>split at h
  .grind
  .have:=hE.lt u E.bO (by rw[h];rfl);omega
  .grind
  .have:=hE.lt u E.bO (by rw[h];rfl);omega
 have cro: ∀h cR,CR ⟨E.bO+1,(t,e)::E.l⟩ s h cR->h≠ .inr E.bO->CR E s h cR:=by
  intro h cR c du;cases h with
  |inl i=>exact c
  |inr v=>
   rcases c with⟨u,n,cs,h,eX⟩|⟨u,l,p,h,eX⟩<;>rw[get]at h<;>split at h
   .rw[h]at hv;grind
   .exact .inl ⟨u,n,cs,h,eX⟩
   .rw[h]at hv;grind
   .exact .inr ⟨u,l,p,h,eX⟩
 have iY:wK E s ⟨E.bO+1,(t,e)::E.l⟩ s (.inr E.bO):=⟨by simp[dU],by simp[dU]⟩;refine .inl ⟨_,_,hk,⟨aL _,by simp,λhE=>⟨?_,?_,?_,?_⟩,?_,(λu d _ h=>by
   rw[get]at h;grind),?_,?_,?_,?_,λ_ _ _=>rfl,.inr iC,.inl rfl⟩,?_⟩
 .intro u v h
  rw[get]at h;split at h
  .rw[hv]at h;cases h;simp
  .have:=hE.lt u v h;simp only;omega
 .intro u x v n h
  rw[get]at h;split at h
  .rw[h]at hv;cases hv
  .have:=hE.pl u x v n h;simp only;omega
 .intro u v n cs h
  rw[get]at h;split at h
  .grind
  .exact hE.len u v n cs h
 .intro u u' v h h'
  rw[get]at h h';split at h<;>split at h'
  .omega
  .rw[hv]at h;cases h;have:=hE.lt u' _ h';omega
  .rw[hv]at h';cases h';have:=hE.lt u _ h;omega
  .exact hE.uniq u u' v h h'
 .grind
 .grind
 .grind
 .grind
 .grind
 .intro ψ Q a w next QQ p room hn
  obtain⟨w',cb,hr,hm,h1,h2,h0,hh⟩:=dO ψ Q a w p;have hf:=room _ iY;unfold Oper.wp;rw[hr];refine hn _ _ _ w' ⟨fa.new (cb:=cb) (ab:=ab) p.eL p.gr hm hf h1 (hh.same (λ_ _ e=>vt hf _ _ e) rfl),Ext.new hm hf h1 h2,λh c e=>?_,λh cR c cr hw e=>?_,λh cR c e q _ _=>?_⟩ (λd' hd=>?_)
  .by_cases eh:h= .inr E.bO
   .grind
   .rw[ow _ _ eh]at e;exact .inl e
  .by_cases eh:h= .inr E.bO
   .subst eh;exact .inl ⟨rfl,crn _ cr p.gJ⟩
   .refine .inr ⟨eh,?_⟩
    rw[ow _ _ eh]at e;rcases hw with hw|⟨n1,n2⟩
    .exact p.jC h cR c (br h hw) (cro h cR cr eh) e
    .exact absurd ((cro h cR cr eh).qD p.gJ) n1
  .refine .inr ⟨λeh=>?_,q⟩
   grind
  .rw[ht]at hd;cases hd
   rw[get,bw rfl];rcases he with⟨n',c',rfl,_,hl⟩|⟨l,p,rfl,_⟩
   .exact⟨cb,qi _ _ _,h0,rfl⟩
   .exact⟨cb,qi _ _ _,rfl⟩
theorem bY.newVar (vJ:(∃t,o.op= .alloc t)\/(∃t y,o.op= .box t y)) (br: ∀h,W h->D h) {cells:ah} (hlen:cells.length=n) (h:LI pr o n cells E K s=some r)
  (dO: ∀ψ Q a w,aD C o D E s ψ Q a w->∃w' cb,(execOp a.eval o).run C.P w= .ok (.value (.pointer (some ⟨cb.b,0,none⟩))) w'/\gQ w w'/\w.heap.size<=cb.b/\cb.b<w'.heap.size/\
   cb.o=0/\Holds C ψ w' cb (.cells false cells)):bY C md pr ms o D W E s K r:=by
 unfold LI at h;cases ht:o.dst with
 |none=>rw[ht]at h;cases h
 |some t=>
  rw[ht]at h;simp only at h;cases hp:has pr t with
  |true=>
   rw[hp]at h;simp only[ae]at h;exact bY.Y6 (by rcases vJ with⟨t,ho⟩|⟨t,y,ho⟩<;>(grind[Spec])) br t ht _ _ (by grind) h dO
  |false=>
   rw[hp]at h;simp only[af]at h;refine bY.Je (by rcases vJ with⟨t,ho⟩|⟨t,y,ho⟩<;>(grind[sQ])) br (.ptr (some (s.length,0))) cells (by simpa [cy,Env.eU,ht,cg]using h) λψ Q a w p=>?_
   obtain⟨w',cb,hr,hm,h1,h2,h0,hh⟩:=dO ψ Q a w p;refine⟨_,w',cb,hr,hm,h1,h2,hh,λψ' _ e=>?_⟩;have:=VR.ptr (C:=C) (ψ:=ψ') s.length 0 cb e;rwa [h0]at this
theorem Rx (t:TypeId) (v:Value) (w:World):(newVar t v).run P w= .ok ⟨w.heap.size,0,none⟩ (w.alloc (.cells v.cells t)):=by
 simp[newVar,newRow]
theorem Znz (ho:o.op= .move y\/o.op= .assign y) (br: ∀h,W h->D h) (h:zC E o K (E.src C y) s=some r):bY C md pr ms o D W E s K r:=by
 refine bY.pure br (E.src C y) (Env.Jx C E y) (λhE r v n h=>Env.Dv C hE h) h λψ Q a w p=>⟨a.eval y,w,?_,.refl w,p.src ?_⟩
 .rcases ho with ho|ho<;>simp[execOp,ho]
 .rcases ho with ho|ho<;>simp[Op.operands,ho]
theorem Zui {b z:Operand} (ho:o.op= .pick b y z) (br: ∀h,W h->D h) (h:TS C E o K b y z s=some r):bY C md pr ms o D W E s K r:=by
 unfold TS at h;obtain⟨t,hb,h⟩:=RJ h;have H4: ∀ψ Q a w,aD C o D E s ψ Q a w->a.eval b= .bool t:=λψ Q a w p=>by
  have:=p.val (x:=b) (by simp[Op.operands,ho]) hb;generalize a.eval b=v at this;cases this;rfl
 cases t with
 |true=>
  refine bY.pure br (E.src C y) (Env.Jx C E y) (λhE r v n h=>Env.Dv C hE h) h λψ Q a w p=>⟨a.eval y,w,?_,.refl w,p.src (by simp[Op.operands,ho])⟩
  simp[execOp,ho,H4 ψ Q a w p,asBool]
 |false=>
  refine bY.pure br (E.src C z) (Env.Jx C E z) (λhE r v n h=>Env.Dv C hE h) h λψ Q a w p=>⟨a.eval z,w,?_,.refl w,p.src (by simp[Op.operands,ho])⟩
  simp[execOp,ho,H4 ψ Q a w p,asBool]
theorem Ea {cells:ah} (hr:bE C ψ cells (c.toList.take cells.length)) (ho:cells.all one=true):
  Holds C ψ (w.alloc (.cells c t)) ⟨w.heap.size,0,c.size⟩ (.cells false cells):=
 Zp8 (heap_alloc_new w _) (.inl rfl) hr ho
theorem G9 {l:List α} (h:n=l.length):l.take n=l:=by subst h;simp
theorem ZsD (ho:o.op= .alloc t) (br: ∀h,W h->D h) (h:Tm C E o K pr t s=some r):bY C md pr ms o D W E s K r:=by
 unfold Tm at h;cases hz:mP C.P t with
 |none=>rw[hz]at h;cases h
 |some z=>
  rw[hz]at h;simp only at h;obtain⟨hl,h⟩:=Zp h;refine bY.newVar (.inl ⟨t,ho⟩) br (dy hl) h λψ Q a w p=>?_
  obtain⟨v,hv,hr,h1⟩:=Ro w hz;refine⟨w.alloc (.cells v.cells t),⟨w.heap.size,0,v.cells.size⟩,?_,.alloc w _,aL _,by simp,rfl,?_⟩
  .simp[execOp,ho,Instr.alloc,hv,Rx]
  .exact Ea (by rw[G9 (by simpa using (hr C ψ).len)];exact hr C ψ) h1
theorem Zmx {d:DV} {K:ah->M β} (h:LR P t d K s=some r):
  ∃ds td,P.underlying t=some td/\K ds s=some r/\ds.length=P.cellsOf t/\∀(C:bB) ψ v,VR C ψ d v->bE C ψ ds v.cells.toList/\ds.all one=true/\v.cells.size=P.cellsOf t:=by
 unfold LR at h;obtain⟨td,VX,h⟩:=pD h;cases ha:iS P t with
 |true=>
  rw[ha]at h;simp only[ae]at h;cases d with
  |agg cs=>
   obtain⟨hl,h⟩:=SI h;refine⟨cs,td,VX,h,hl,λC ψ v hv=>?_⟩;cases hv with
   |agg _ vs a b=>exact⟨a,b,by rw[<-hl,a.len];simp[Value.cells]⟩
  |_=>cases h
 |false=>
  rw[ha]at h;simp only[af]at h;obtain⟨hc,h⟩:=Zp h;obtain⟨h1,h⟩:=lL h;have hc:=dy hc;refine⟨[d],td,VX,h,by simp[hc],λC ψ v hv=>?_⟩;rw[hv.XC h1];exact⟨.cons _ _ _ _ hv .nil,by simp[h1],by simp[hc]⟩
theorem ZvE (ho:o.op= .box t y) (br: ∀h,W h->D h) (h:Wy C E o K pr t y s=some r):bY C md pr ms o D W E s K r:=by
 unfold Wy at h;obtain⟨d,hd,h⟩:=Zt h;obtain⟨ds,td,VX,h,hl,hv⟩:=Zmx h;refine bY.newVar (.inr ⟨t,y,ho⟩) br hl h λψ Q a w p=>?_
 obtain⟨h1,h2,h3⟩:=hv C ψ _ (p.val (x:=y) (by simp[Op.operands,ho]) hd);refine⟨w.alloc (.cells (a.eval y).cells t),⟨w.heap.size,0,(a.eval y).cells.size⟩,?_,.alloc w _,aL _,by simp,rfl,?_⟩
 .simp[execOp,ho,Instr.box,Rx]
 .exact Ea (by rw[G9 (by simpa using h1.len)];exact h1) h2
theorem ZoQ (ho:o.op= .nilCheck y) (br: ∀h,W h->D h) (h:Ry C E o K y s=some r):bY C md pr ms o D W E s K r:=by
 unfold Ry at h;rcases GS h with⟨t,v,n,he,h⟩|⟨i,n,he,h⟩
 .refine bY.pure br (.pl t v n) rfl (λhE r v' n' e=>by cases e;exact Env.Dv C hE he) h λψ Q a w p=>⟨a.eval y,w,?_,.refl w,?_⟩
  .have:=p.src (x:=y) (by simp[Op.operands,ho])
   rw[he]at this;obtain⟨cb,_,_,h3⟩:=this;simp[execOp,ho,h3]
  .have:=p.src (x:=y) (by simp[Op.operands,ho])
   rw[he]at this;exact this
 .refine bY.val br (.ptr (some (i,n))) h λψ Q a w p=>⟨a.eval y,w,?_,.refl w,?_⟩
  .have:=p.val (x:=y) (by simp[Op.operands,ho]) he
   generalize hx:a.eval y=x at this;cases this;simp[execOp,ho,hx]
  .exact p.val (x:=y) (by simp[Op.operands,ho]) he
theorem ZwN {op:UnOp} (ho:o.op= .unOp op t y) (br: ∀h,W h->D h) (h:WA C E o K op y s=some r):bY C md pr ms o D W E s K r:=by
 unfold WA at h;obtain⟨d,hd,h⟩:=Zt h;unfold unK at h;split at h
 .refine bY.val br _ h λψ Q a w p=>?_
  have:=p.val (x:=y) (by simp[Op.operands,ho]) hd;generalize hx:a.eval y=x at this;cases this;exact⟨_,w,by simp[execOp,ho,hx,Op.unary],.refl w,.bool _⟩
 .refine bY.val br _ h λψ Q a w p=>?_
  have:=p.val (x:=y) (by simp[Op.operands,ho]) hd;generalize hx:a.eval y=x at this;cases this;exact⟨_,w,by simp[execOp,ho,hx,Op.unary,Op.intArith],.refl w,.int _ _⟩
 .cases h
theorem ZsH (ho:o.op= .makeInterface t y) (br: ∀h,W h->D h) (h:S8 C E o K t y s=some r):bY C md pr ms o D W E s K r:=by
 unfold S8 at h;cases ht:C.P.underlying t with
 |none=>rw[ht]at h;cases h
 |some td=>
  have Iu: ∀m,td≠ .interface m:=by rintro m rfl;rw[ht]at h;cases h
  have h':fe C E y (λd=>cy E o K (.iface (C.ty t) d)) s=some r:=by rw[ht]at h;cases td<;>first|exact h|grind
  obtain⟨d,hd,h'⟩:=Zt h';refine bY.val br _ h' λψ Q a w p=>⟨.iface t (a.eval y),w,?_,.refl w,.iface _ _ _ (p.val (x:=y) (by simp[Op.operands,ho]) hd)⟩
  simp only[execOp,ho,Instr.makeInterface,Sem.run_bind,Zl w ht,Result.andThen_ok];cases td<;>first|rfl|exact absurd rfl (Iu _)
theorem ZtM {f:Fn} (ho:o.op= .makeFunc f first cap) (br: ∀h,W h->D h) (h:TM C E o K f first cap s=some r):bY C md pr ms o D W E s K r:=by
 unfold TM at h;cases f with
 |func f=>
  simp only at h;obtain⟨hc,h⟩:=Zp h;obtain⟨fs,h,h1⟩:=GN h;obtain⟨cs,h,h2⟩:=GN h;refine bY.val br _ h λψ Q a w p=>⟨.func (.func f) (first.map a.eval) (cap.map a.eval),w,by simp[execOp,ho,Instr.makeFunc],.refl w,.func _ _ _ _ _ hc ?_ ?_⟩
  .have:=Ha p (l:=first.toList) (λx hx=>by simp only[Op.operands,ho,Array.mem_append];grind) h1
   simpa using this
  .have:=Ha p (l:=cap.toList) (λx hx=>by simp only[Op.operands,ho,Array.mem_append];grind) h2
   simpa using this
 |_=>cases h
theorem ZqB {t:Nat} (ho:o.op= .extract (.tmp t) i) (br: ∀h,W h->D h) (h:RZ E o K t i s=some r):bY C md pr ms o D W E s K r:=by
 unfold RZ at h;cases he:E.get t with
 |p9 ds=>
  rw[he]at h;simp only at h;cases hd:ds[i]? with
  |none=>rw[hd]at h;cases h
  |some d=>
   rw[hd]at h;refine bY.val br d h λψ Q a w p=>?_
   have:=p.args t (by simp[Op.operands,ho]);rw[he]at this;obtain⟨vs,mZ,hr⟩:=this;obtain⟨v,hv,hr⟩:=hr.get hd;refine⟨v,w,?_,.refl w,hr⟩;have eJ:vs[i]? =some v:=by simpa using hv
   simp[execOp,ho,Zwl,mZ,Instr.extract,eJ]
 |_=>rw[he]at h;cases h
end
section
variable {C:bB} {o:Oper} {D W:dD->Prop} {E:Env} {s:St} {md:Md} {pr ms:al}
theorem vr (P:Program) (a:Addr) (w:World):(Instr.sureAddr (.pointer (some a))).run P w= .ok a w:=rfl
theorem ZnW {f:Nat} (ho:o.op= .fieldAddr t y f) (br: ∀h,W h->D h) (h:Ko C E o K t y f s=some r):bY C md pr ms o D W E s K r:=by
 unfold Ko at h;cases ht:C.P.underlying t with
 |none=>rw[ht]at h;cases h
 |some td=>
  rw[ht]at h;cases td with
  |struct fs=>
   simp only at h;cases hf:fs[f]? with
   |none=>rw[hf]at h;cases h
   |some fd=>
    rw[hf]at h;simp only at h;obtain⟨hc,h⟩:=G0 h;have hc:=JP hc;have cB: ∀w,(sizeOf fd.type).run C.P w= .ok (C.P.cellsOf fd.type) w:=by
     intro w;unfold Program.cellsOf at hc⊢;cases hi:C.P.info? fd.type with
     |none=>rw[hi]at hc;simp at hc
     |some i=>simp[sizeOf,typeInfo,hi]
    have run: ∀(a:Act) (w:World) b n,a.eval y= .pointer (some ⟨b,n,none⟩)->(execOp a.eval o).run C.P w= .ok (.value (.pointer (some ⟨b,n+fd.offset,none⟩))) w:=by
     intro a w b n hy;simp[execOp,ho,hy,Instr.fieldAt,Zl w ht,hf,vr,fieldPlace,cB,hc,Ae]
    rcases GS h with⟨x,v,n,he,h⟩|⟨i,n,he,h⟩
    .refine bY.pure br _ rfl (λhE r v' n' e=>by cases e;exact Env.Dv C hE he) h λψ Q a w p=>?_
     have:=p.src (x:=y) (by simp[Op.operands,ho]);rw[he]at this;obtain⟨cb,h1,h2,h3⟩:=this;exact⟨_,w,run a w _ _ h3,.refl w,cb,h1,h2,rfl⟩
    .refine bY.val br _ h λψ Q a w p=>?_
     have:=p.val (x:=y) (by simp[Op.operands,ho]) he;generalize hy:a.eval y=v at this;cases this with
     |ptr _ _ cb e=>exact⟨_,w,run a w _ _ hy,.refl w,by rw[tO];exact .ptr _ _ cb e⟩
  |_=>cases h
theorem Kh (P:Program) (k:IntKind) (n:Int) (w:World):(asIntOf (.int k n)).run P w= .ok (k,n) w:=rfl
theorem Hp {n:Int} (h:aQ n m=true):0<=n/\n<m:=by
 simp only[aQ,aR,mJ]at h;exact h
theorem ZnZ {i:Operand} (ho:o.op= .indexAddr t y i) (br: ∀h,W h->D h) (h:QR C E o K t y i s=some r):bY C md pr ms o D W E s K r:=by
 unfold QR at h;obtain⟨k,n,hi,h⟩:=Ej h;have iv: ∀ψ Q a w,aD C o D E s ψ Q a w->a.eval i= .int k n:=λψ Q a w p=>by
  have:=p.val (x:=i) (by simp[Op.operands,ho]) hi;generalize a.eval i=v at this;cases this;rfl
 cases ht:C.P.underlying t with
 |none=>rw[ht]at h;cases h
 |some td=>
  rw[ht]at h;cases td with
  |slice e=>
   simp only at h;obtain⟨ed,he,h⟩:=pD h;obtain⟨d,hd,h⟩:=Zt h;cases d with
   |slice z a m=>
    simp only at h;obtain⟨hz,h⟩:=Zp h;obtain⟨j,p0,rfl,h⟩:=Tx h;obtain⟨hb,h⟩:=lL h;obtain⟨mU,cV⟩:=Hp hb;simp only[Option.isNone_some,Bool.or_false]at hz;have hz:=dy hz;refine bY.val br _ h λψ Q a w p=>?_
    have hv:=p.val (x:=y) (by simp[Op.operands,ho]) hd;generalize hy:a.eval y=v at hv;cases hv with
    |slice _ _ _ _ cb ad cap e1 e2 e3=>
     obtain⟨e4,e5⟩:=e3 (by omega);refine⟨.pointer (some ⟨cb.b,cb.o+(n.toNat*C.P.cellsOf e+p0),none⟩),w,?_,.refl w,.ptr _ _ cb e1⟩;rw[sN _ p0];simp[execOp,ho,hy,iv ψ Q a w p,Instr.indexAt,Zl w ht,Kh,mU,cV,qj w he,e4,Ae,tO]
   |_=>cases h
  |array m e=>
   simp only at h;obtain⟨ed,he,h⟩:=pD h;have run: ∀ψ Q (a:Act) (w:World) b p0,aD C o D E s ψ Q a w->a.eval y= .pointer (some ⟨b,p0,none⟩)->0<=n->n<m->
     (execOp a.eval o).run C.P w= .ok (.value (.pointer (some ⟨b,p0+n.toNat*C.P.cellsOf e,none⟩))) w:=by
    intro ψ Q a w b p0 p hy mU cV;simp[execOp,ho,hy,iv ψ Q a w p,Instr.indexAt,Zl w ht,Kh,mU,cV,vr,qj w he,Ae]
   rcases GS h with⟨x,v,p0,hx,h⟩|⟨x,p0,hx,h⟩
   .obtain⟨hb,h⟩:=lL h
    obtain⟨mU,cV⟩:=Hp hb;refine bY.pure br _ rfl (λhE r v' n' e=>by cases e;exact Env.Dv C hE hx) h λψ Q a w p=>?_
    have:=p.src (x:=y) (by simp[Op.operands,ho]);rw[hx]at this;obtain⟨cb,h1,h2,h3⟩:=this;exact⟨_,w,run ψ Q a w _ _ p h3 mU cV,.refl w,cb,h1,h2,by rw[sN]⟩
   .obtain⟨hb,h⟩:=lL h
    obtain⟨mU,cV⟩:=Hp hb;refine bY.val br _ h λψ Q a w p=>?_
    have:=p.val (x:=y) (by simp[Op.operands,ho]) hx;generalize hy:a.eval y=v at this;cases this with
    |ptr _ _ cb e1=>exact⟨_,w,run ψ Q a w _ _ p hy mU cV,.refl w,by rw[sN _ p0,tO];exact .ptr _ _ cb e1⟩
  |_=>cases h
theorem Zrm (w:World) (h:P.underlying t=some d) (ha:iS P t=true) (cs:Array Value) (off:Nat):
  (Go.part t cs off).run P w= .ok (.agg (cs.extract off (off+P.cellsOf t))) w:=by
 simp[Go.part,GM w h,ha,qj w h]
theorem ZrG (w:World) (h:P.underlying t=some d) (ha:iS P t=false) {cs:Array Value} (hv:cs[off]? =some v):
  (Go.part t cs off).run P w= .ok v w:=by
 simp[Go.part,GM w h,ha,hv]
theorem ZsW (h:bE C ψ ds vs.toList) (off n:Nat):bE C ψ ((ds.drop off).take n) (vs.extract off (off+n)).toList:=by
 have:=(h.drop off).take n;rw[Array.toList_extract,N5];simpa using this
theorem SY (h:cs.all one=true):((cs.drop off).take n).all one=true:=
 lA.2 λ_ hx=>lA.1 h _ (List.mem_of_mem_drop (List.mem_of_mem_take hx))
theorem Zsd (ht:C.P.underlying t=some td) (br: ∀h,W h->D h)
  (h:(bif iS C.P t then cy E o K (.agg ((cs.drop off).take (C.P.cellsOf t)))else Go.Gv.eD cs off λd=>yK (mG C.P t) d (cy E o K)) s=some r)
  (dO: ∀ψ Q a w,aD C o D E s ψ Q a w->∃vs,bE C ψ cs vs.toList/\cs.all one=true/\(∀v,(Go.part t vs off).run C.P w= .ok v w->(execOp a.eval o).run C.P w= .ok (.value v) w)):bY C md pr ms o D W E s K r:=by
 cases ha:iS C.P t with
 |true=>
  rw[ha]at h;refine bY.val br _ h λψ Q a w p=>?_
  obtain⟨vs,h1,h2,h3⟩:=dO ψ Q a w p;exact⟨_,w,h3 _ (Zrm w ht ha vs off),.refl w,.agg _ _ (ZsW h1 _ _) (SY h2)⟩
 |false=>
  rw[ha]at h;simp only[af]at h;obtain⟨d,hd,h⟩:=Le h;obtain⟨d',h,hr,_⟩:=La h;refine bY.val br _ h λψ Q a w p=>?_
  obtain⟨vs,h1,h2,h3⟩:=dO ψ Q a w p;obtain⟨v,hv,mB⟩:=h1.get hd;exact⟨v,w,h3 _ (ZrG w ht ha (by simpa using hv)),.refl w,hr C ψ v mB⟩
theorem ZsM {f:Nat} (ho:o.op= .field t y f) (br: ∀h,W h->D h) (h:SZ C E o K t y f s=some r):bY C md pr ms o D W E s K r:=by
 unfold SZ at h;cases ht:C.P.underlying t with
 |none=>rw[ht]at h;cases h
 |some td=>
  rw[ht]at h;cases td with
  |struct fs=>
   simp only at h;cases hf:fs[f]? with
   |none=>rw[hf]at h;cases h
   |some fd=>
    rw[hf]at h;simp only at h;obtain⟨ed,he,h⟩:=pD h;obtain⟨d,hd,h⟩:=Zt h;cases d with
    |agg cs=>
     refine Zsd he br h λψ Q a w p=>?_
     have hv:=p.val (x:=y) (by simp[Op.operands,ho]) hd;generalize hy:a.eval y=v at hv;cases hv with
     |agg _ vs h1 h2=>exact⟨vs,h1,h2,λv hp=>by simp[execOp,ho,hy,Instr.field,Zl w ht,hf,asAgg,hp]⟩
    |_=>cases h
  |_=>cases h
theorem ZuG (s:ByteArray) (i:Nat):s[i]? =s.data.toList[i]? :=by
 rcases jH i s.data.toList.length with h|h
 .have h':i<s.size:=by rw[lZ]at h;exact h
  rw[bU h,getElem?_pos s i h',ByteArray.getElem_eq_getElem_data,Array.getElem_toList]
 .have h': ¬i<s.size:=by rw[lZ]at h;exact ym.2 h
  rw[nX h,getElem?_neg s i h']
theorem Zs4 {i:Operand} (ho:o.op= .index t y i) (br: ∀h,W h->D h) (h:Tj C E o K t y i s=some r):bY C md pr ms o D W E s K r:=by
 unfold Tj at h;obtain⟨k,n,hi,h⟩:=Ej h;obtain⟨d,hd,h⟩:=Zt h;have iv: ∀ψ Q a w,aD C o D E s ψ Q a w->a.eval i= .int k n:=λψ Q a w p=>by
  have:=p.val (x:=i) (by simp[Op.operands,ho]) hi;generalize a.eval i=v at this;cases this;rfl
 cases ht:C.P.underlying t with
 |none=>rw[ht]at h;cases h
 |some td=>
  rw[ht]at h;cases td with
  |string=>
   cases d with
   |str l=>
    simp only at h;obtain⟨hb,h⟩:=lL h;obtain⟨mU,cV⟩:=Hp hb;refine bY.val br _ h λψ Q a w p=>?_
    have hv:=p.val (x:=y) (by simp[Op.operands,ho]) hd;generalize hy:a.eval y=v at hv;cases hv with
    |str x=>
     have ax:n.toNat<x.data.toList.length:=by omega
     have hg:x[n.toNat]? =some x.data.toList[n.toNat]:=by rw[ZuG];exact bU ax
     refine⟨.int .u8 (ZP x.data.toList n),w,?_,.refl w,.int _ _⟩;simp only[execOp,ho,hy,iv ψ Q a w p,Instr.index,Sem.run_bind,Kh,Zl w ht,Result.andThen_ok,mU,kV,hg,Sem.run_pure,ZP];congr 3;simp[List.getD,bU ax]
   |_=>cases h
  |array m e=>
   cases d with
   |agg cs=>
    simp only at h;obtain⟨ed,he,h⟩:=pD h;obtain⟨hb,h⟩:=lL h;obtain⟨mU,cV⟩:=Hp hb;refine Zsd he br h λψ Q a w p=>?_
    have hv:=p.val (x:=y) (by simp[Op.operands,ho]) hd;generalize hy:a.eval y=v at hv;cases hv with
    |agg _ vs h1 h2=>exact⟨vs,h1,h2,λv hp=>by simp[execOp,ho,hy,iv ψ Q a w p,Instr.index,Kh,Zl w ht,mU,cV,qj w he,hp]⟩
   |_=>cases h
  |_=>cases d<;>cases h
end
theorem TO {y:B} (h:mG P t= .b y):iS P t=false:=by
 grind[mG]
theorem Zrp {l:List B} (h:mG P t= .agg l):iS P t=true:=by
 grind[mG]
theorem KS {d:DV} (h:Holds C ψ w cb (.cells f cs)) (hd:cs[p]? =some d):
  ∃v,(load ⟨cb.b,cb.o+p,none⟩).run P w= .ok v w/\VR C ψ d v/\one d=true:=by
 obtain⟨v,hv,hr⟩:=h.2.2.1 p d hd;exact⟨v,by rw[run_load,hv],hr,lA.1 h.2.1 _ (oZ hd)⟩
theorem Zk9 (h:Holds C ψ w cb (.cells f cs)) (hn:p+n<=cs.length):
  ∃vs,(∀w',w'.heap=w.heap->(loadCells ⟨cb.b,cb.o+p,none⟩ n).run P w'= .ok vs w')/\vs.size=n/\bE C ψ ((cs.drop p).take n) vs.toList/\((cs.drop p).take n).all one=true:=by
 have hc: ∀j,j<n->∃v,w.cell? ⟨cb.b,cb.o+p+j,none⟩=some v/\∀d,cs[p+j]? =some d->VR C ψ d v:=by
  intro j hj;obtain⟨v,hv,hr⟩:=h.2.2.1 (p+j) cs[p+j] (by simp);grind
 let f:Nat->Value:=λj=>(w.cell? ⟨cb.b,cb.o+p+j,none⟩).getD undef
 have hf: ∀w':World,w'.heap=w.heap->∀j,j<n->w'.cell? ((⟨cb.b,cb.o+p,none⟩:Addr).add j)=some (f j):=by
  intro w' hw j hj;obtain⟨v,hv,_⟩:=hc j hj;have e:w'.cell? ((⟨cb.b,cb.o+p,none⟩:Addr).add j)=w.cell? ((⟨cb.b,cb.o+p,none⟩:Addr).add j):=by simp only[World.cell?,hw]
  rw[e,Ae,hv];simp[f,hv]
 refine⟨_,λw' hw=>run_loadCells w' _ n f (hf w' hw),by simp,bE.of _ _ ?_ ?_,SY h.2.1⟩
 .simp;omega
 grind
theorem Kl (h:Holds C ψ w cb (.cells f cs)) (hn:p+n<=cs.length:=by omega):
  ∃vs,(loadCells ⟨cb.b,cb.o+p,none⟩ n).run P w= .ok vs w/\vs.size=n/\bE C ψ ((cs.drop p).take n) vs.toList/\((cs.drop p).take n).all one=true:=
 let ⟨vs,a,b⟩:=Zk9 (P:=P) h hn
 ⟨vs,a w rfl,b⟩
section
variable {C:bB} {o:Oper} {D W:dD->Prop} {E:Env} {s:St} {md:Md} {pr ms:al}
theorem J6 (ht:P.underlying t=some td) (ha:iS P t=true) (a:Addr) (w:World) (h:(loadCells a (P.cellsOf t)).run P w= .ok vs w):
  (loadVar t a).run P w= .ok (.agg vs) w:=by
 simp[loadVar,GM w ht,ha,qj w ht,h]
theorem Gt (ht:P.underlying t=some td) (ha:iS P t=false) (a:Addr) (w:World) (h:(load a).run P w= .ok v w):
  (loadVar t a).run P w= .ok v w:=by
 rw[loadVar,Sem.run_bind,GM w ht,ha];simpa using h
theorem ZxS (hn:cs.length=n):part n cs p m=(cs.drop p).take m:=by
 unfold part;cases h:Nat.beq m n&&Nat.beq p 0 with
 |false=>rfl
 |true=>
  simp only[aR]at h;have h1:=dy h.2;have h2:=dy h.1;grind
theorem Ta (hn:cs.length=n) (hd:ds.length=m) (hp:p+m<=n):yb n m cs p ds=cw cs p ds:=by
 unfold yb;cases h:Nat.beq m n&&Nat.beq p 0 with
 |false=>rfl
 |true=>
  simp only[aR]at h;have h1:=dy h.2;have h2:=dy h.1;subst h1;subst h2;subst hn;simp only[ae];apply rk;intro j;rw[Hq cs 0 ds j (by omega)];by_cases hj:j<ds.length
  .rw[bw (by omega)];simp
  grind
theorem G8 {K:ah->M β} (h:bS i p n K s=some r): ∃f cs,dc s i=some (.cells f cs)/\p+n<=cs.length/\K ((cs.drop p).take n) s=some r:=by
 unfold bS at h;unfold St.cells at h;unfold dc;cases hs:s[i]? with
 |none=>rw[hs]at h;cases h
 |some x=>
  cases x with
  |none=>rw[hs]at h;cases h
  |some b=>
   rw[hs]at h;simp only at h;cases hb:Nat.ble (p+n) b.cells.length with
   |false=>rw[hb]at h;cases h
   |true=>rw[hb]at h;exact⟨_,_,rfl,pj hb,h⟩
theorem Znw {K:DV->M β} (h:bG i p K s=some r): ∃f cs d,dc s i=some (.cells f cs)/\cs[p]? =some d/\K d s=some r:=by
 unfold bG at h;unfold St.cells at h;unfold dc;cases hs:s[i]? with
 |none=>rw[hs]at h;cases h
 |some x=>
  cases x with
  |none=>rw[hs]at h;cases h
  |some b=>
   rw[hs]at h;grind
theorem aD.at {a:Act} (p:aD C o D E s ψ Q a w) (hD:D (.inl i)) (h:dc s i=some ab) (e:ψ (.inl i)=some cb):Holds C ψ w cb ab:=
 p.eL.holds _ cb ab e (p.jC (.inl i) ab cb hD h e)
theorem aD.loc {a:Act} (p:aD C o D E s ψ Q a w) {t v:Nat} (hD:D (.inr v)) (h:E.get t= .loc v n cs) (e:ψ (.inr v)=some cb):Holds C ψ w cb (.cells false cs):=
 p.eL.holds _ cb _ e (p.jC (.inr v) _ cb hD (.inl ⟨t,n,cs,h,rfl⟩) e)
theorem Zuu {x:Operand} (ho:o.op= .load t x) (br: ∀h,W h->D h) (hDl: ∀r v,md.loc r=true->(E.get r).cX=some v->D (.inr v)) (Uv:md.Mk=true->∀i p,E.src C x= .v (.ptr (some (i,p)))->D (.inl i)) (h:LU C E o K md t x s=some r):bY C md pr ms o D W E s K r:=by
 unfold LU at h;obtain⟨td,ht,h⟩:=pD h;rcases GS h with⟨y,v,p0,hx,h⟩|⟨i,p0,hx,h⟩
 .obtain⟨hm,h⟩:=Zp h
  obtain⟨n,cs,hl,h⟩:=ZmN h;have hD:=hDl y v hm (by rw[hl];rfl);have addr: ∀ψ Q a w,aD C o D E s ψ Q a w->∃cb,ψ (.inr v)=some cb/\cb.o=0/\a.eval x= .pointer (some ⟨cb.b,p0,none⟩):=λψ Q a w p=>by
   have:=p.src (x:=x) (by simp[Op.operands,ho]);rw[hx]at this;exact this
  cases hs:mG C.P t with
  |b y'=>
   rw[hs]at h;obtain⟨d,hd,h⟩:=Le h;obtain⟨d',h,hr,_⟩:=LD h;refine bY.val br _ h λψ Q a w p=>?_
   obtain⟨cb,e1,e2,e3⟩:=addr ψ Q a w p;obtain⟨v,hv,lx,_⟩:=KS (P:=C.P) (p.loc hD hl e1) hd;rw[e2,ej]at hv;refine⟨v,w,?_,.refl w,hr C ψ v lx⟩;simp only[execOp,ho,e3,Instr.loadAt,Sem.run_bind,vr,Result.andThen_ok,Gt ht (TO hs) _ w hv,Sem.run_pure]
  |agg l=>
   rw[hs]at h;simp only at h;obtain⟨hb,h⟩:=lL h;have hb:=pj hb;refine bY.val br _ h λψ Q a w p=>?_
   have hlen:=p.gJ.len y v n cs hl;obtain⟨cb,e1,e2,e3⟩:=addr ψ Q a w p;obtain⟨vs,hv,_,lx,h1⟩:=Kl (P:=C.P) (p.loc hD hl e1) (p:=p0) (n:=C.P.cellsOf t);rw[e2,ej]at hv;refine⟨_,w,?_,.refl w,by rw[ZxS hlen];exact .agg _ vs lx h1⟩;simp only[execOp,ho,e3,Instr.loadAt,Sem.run_bind,vr,Result.andThen_ok,J6 ht (Zrp hs) _ w hv,Sem.run_pure]
 .obtain⟨hm,h⟩:=Zp h
  have hD:=Uv hm i p0 hx;have addr: ∀ψ Q a w,aD C o D E s ψ Q a w->∃cb,ψ (.inl i)=some cb/\a.eval x= .pointer (some ⟨cb.b,cb.o+p0,none⟩):=λψ Q a w p=>by
   have:=p.val (x:=x) (by simp[Op.operands,ho]) hx;generalize a.eval x=y at this;cases this with
   |ptr _ _ cb e=>exact⟨cb,e,rfl⟩
  cases hs:mG C.P t with
  |b y'=>
   rw[hs]at h;obtain⟨f,cs,d,ca,hd,h⟩:=Znw h;obtain⟨d',h,hr,_⟩:=LD h;refine bY.val br _ h λψ Q a w p=>?_
   obtain⟨cb,e1,e3⟩:=addr ψ Q a w p;obtain⟨v,hv,lx,_⟩:=KS (P:=C.P) (p.at hD ca e1) hd;refine⟨v,w,?_,.refl w,hr C ψ v lx⟩;simp only[execOp,ho,e3,Instr.loadAt,Sem.run_bind,vr,Result.andThen_ok,Gt ht (TO hs) _ w hv,Sem.run_pure]
  |agg l=>
   rw[hs]at h;obtain⟨f,cs,ca,hb,h⟩:=G8 h;obtain⟨ds,h,_,hr,h1⟩:=GH h;refine bY.val br _ h λψ Q a w p=>?_
   obtain⟨cb,e1,e3⟩:=addr ψ Q a w p;obtain⟨vs,hv,_,lx,h2⟩:=Kl (P:=C.P) (p.at hD ca e1) hb;refine⟨_,w,?_,.refl w,.agg _ vs (hr C ψ _ lx) (h1 h2)⟩;simp only[execOp,ho,e3,Instr.loadAt,Sem.run_bind,vr,Result.andThen_ok,J6 ht (Zrp hs) _ w hv,Sem.run_pure]
structure zQ (w w':World) (b:Nat):Prop where
 other: ∀k,k≠b->w'.heap[k]? =w.heap[k]?
 size:w'.heap.size=w.heap.size
 tape:w'.tape=w.tape
 os:w'.os=w.os
 output:tW w w'
theorem zQ.ly (w:World) (b:Nat) (ob:Obj):zQ w (ly w b ob) b:=
 ⟨λ_ h=>ZtV h ob,NO w b ob,rfl,rfl,rfl,aL _⟩
theorem ZmJ {vs:List Value} (h:Holds C ψ w cb (.cells false cs)) (hr:bE C ψ ds vs) (h1:ds.all one=true)
  (hp:p+ds.length<=cb.m) (ho:o'+cs'.length<=cb.m) (iJ:cs'.all one=true)
  (hc: ∀j d,cs'[j]? =some d->(p<=o'+j/\o'+j<p+ds.length/\ds[o'+j-p]? =some d)\/((o'+j<p\/p+ds.length<=o'+j)/\cs[o'+j]? =some d)):
  ∃w',(storeCells ⟨cb.b,cb.o+p,none⟩ vs).run P w= .ok () w'/\zQ w w' cb.b/\Holds C ψ w' ⟨cb.b,cb.o+o',cb.m-o'⟩ (.cells false cs'):=by
 obtain⟨c,ty,fr,hb,cB,ew⟩:=h.2.2.2 rfl;have hl:=hr.len;have dO:=PW P cb.b (cb.o+p) ty fr vs 0 w c hb (hr.aad h1) (by omega) (by grind);simp only[fT]at dO;refine⟨_,dO,zQ.ly w _ _,by simp only;omega,iJ,λj d hd=>?_,λ_=>⟨_,ty,fr,KX (B6 hb) _,by simp;omega,λj hj=>?_⟩⟩
 .dsimp only
  rw[cell_of_row _ _ _ _ ty fr (KX (B6 hb) _),LB _ _ _ _ (by omega)];rcases hc j d hd with⟨a1,a2,a3⟩|⟨a1,a2⟩
  .rw[bw ⟨by omega,by omega⟩]
   obtain⟨v,hv,lx⟩:=hr.get a3;grind
  .rw[aW (by omega)]
   obtain⟨v,hv,lx⟩:=h.2.2.1 _ _ a2;rw[cell_of_row _ _ _ _ ty fr hb]at hv;grind
 .have:=ew (o'+j) (by simp only at hj;omega)
  rw[<-tO]at this;exact this
theorem Ztu (h:cs.all one=true) (h':ds.all one=true) (hp:p+ds.length<=cs.length):(cw cs p ds).all one=true:=by
 refine lA.2 λx hx=>?_
 obtain⟨j,hj⟩:=DI hx;rw[Hq cs p ds j hp]at hj;grind
theorem KZ {vs:List Value} (h:Holds C ψ w cb (.cells false cs)) (hr:bE C ψ ds vs) (h1:ds.all one=true)
  (hp:p+ds.length<=cs.length):
  ∃w',(storeCells ⟨cb.b,cb.o+p,none⟩ vs).run P w= .ok () w'/\zQ w w' cb.b/\Holds C ψ w' cb (.cells false (cw cs p ds)):=by
 have hm:=h.1;have e1:p+ds.length<=cb.m:=by omega
 have e2:0+(cw cs p ds).length<=cb.m:=by rw[GO];omega
 obtain⟨w',a,b,c⟩:=ZmJ (P:=P) (cs':=cw cs p ds) (o':=0) h hr h1 e1 e2 (Ztu h.2.1 h1 hp) (λj d hd=>by
  rw[Hq cs p ds j hp]at hd;grind)
 simp_all
theorem Sq (h:s.gE i=some cs):dc s i=some (.cells false cs)/\i<s.length:=by
 grind[St.gE,dc]
theorem ZkY (h:i<s.length) (b:bT):dc (s.set i (some b)) i=some (.cells b.fN b.cells):=by simp[dc,h]
theorem Kf (h:i≠j) (b:Option bT):dc (s.set i b) j=dc s j:=by grind[dc]
theorem bY.WV (br: ∀h,W h->D h) (hW:W (.inl i)) (e:eH) (hv:e.cX=none) (hp:jd E->∀r v n,e= .pl r v n->v<E.bO)
  (hi:s.gE i=some cs) (hk:K (E.eU o.dst e) (s.set i (some ⟨false,cs'⟩))=some r)
  (dO: ∀ψ Q a w,aD C o D E s ψ Q a w->∃cb,ψ (.inl i)=some cb/\(Holds C ψ w cb (.cells false cs)->∃v w',((execOp a.eval o).run C.P w= .ok (.value v) w'\/(execOp a.eval o).run C.P w= .ok .skip w'/\v=undef)/\
   zQ w w' cb.b/\Holds C ψ w' cb (.cells false cs')/\fy C ψ e v)):bY C md pr ms o D W E s K r:=by
 obtain⟨ca,ax⟩:=Sq hi;refine .inl ⟨_,_,hk,mg.put pr ms e hv hp (by simp) (λj ab h=>?_) (λj h _=>?_) (.inl (by simp)),?_⟩
 .by_cases e:j=i
  .subst e;exact .inl hW
  .rw[Kf (λe'=>e e'.symm)]at h;exact .inr (.inr h)
 .grind
 intro ψ Q a w next QQ p room hn;obtain⟨cb,iK,hh⟩:=dO ψ Q a w p;have hq:Q (.inl i) (.cells false cs):=p.jC (.inl i) _ cb (br _ hW) ca iK;obtain⟨v,w',hr,db,Ic,eJ⟩:=hh (p.eL.holds _ cb _ iK hq);have post:JZ C D W E s (E.eU o.dst e) (s.set i (some ⟨false,cs'⟩)) ψ Q w ψ (ye Q (.inl i) (.cells false cs')) w':=by
  refine⟨fa.set p.eL iK hq rfl db.other Ic,Ext.set iK hq rfl db.other db.size db.tape db.os db.output,λ_ _ e=> .inl e,λh ab c cr hw e'=>?_,λh ab c e' q nw _=>?_⟩
  .by_cases eh:h= .inl i
   .subst eh
    have oz:dc (s.set i (some ⟨false,cs'⟩)) i=some ab:=cr;rw[ZkY ax]at oz;cases oz;exact .inl ⟨rfl,rfl⟩
   .refine .inr ⟨eh,?_⟩
    have fq:CR E s h ab:=by
     cases h with
     |inl j=>
      have oz:dc (s.set i (some ⟨false,cs'⟩)) j=some ab:=cr;rw[Kf (λe=>eh (by rw[e]))]at oz;exact oz
     |inr x=>exact CR.eU (t:=o.dst) (e:=e) (s:=s) hv cr
    rcases hw with hw|⟨n1,n2⟩
    .exact p.jC h ab c (br h hw) fq e'
    .exact absurd (fq.qD p.gJ) n1
  .exact .inr (by grind)
 have bH: ∀d,o.dst=some d->fy C ψ ((E.eU o.dst e).get d) v:=λd hd=>by rw[Env.j5,bw hd];exact eJ
 unfold Oper.wp;rcases hr with hr|⟨hr,rfl⟩
 .rw[hr];exact hn ψ _ v w' post bH
 .rw[hr];exact hn ψ _ _ w' post bH
theorem Zon {K:M β} (h:ee i p ds K s=some r):
  ∃cs,s.gE i=some cs/\p+ds.length<=cs.length/\K (s.set i (some ⟨false,cw cs p ds⟩))=some r:=by
 unfold ee at h;cases hs:s.gE i with
 |none=>rw[hs]at h;cases h
 |some cs=>
  rw[hs]at h;simp only at h;cases hb:Nat.ble (p+ds.length) cs.length with
  |false=>rw[hb]at h;cases h
  |true=>rw[hb]at h;simp_all
theorem Zlg (ht:P.underlying t=some td) (a:Addr) (v:Value) (w:World) (hs:v.cells.size=P.cellsOf t):
  (storeVar t a v).run P w=(storeCells a v.cells.toList).run P w:=by
 simp[storeVar,qj w ht,hs]
theorem ZsR {x:Operand} (ho:o.op= .store t x y) (vM:o.dst=none) (br: ∀h,W h->D h) (UJ: ∀r v,md.loc r=true->(E.get r).cX=some v->W (.inr v)) (hWh:md.Mk=true->∀i p,E.src C x= .v (.ptr (some (i,p)))->W (.inl i)) (h:Tw C E K md ms t x y s=some r):bY C md pr ms o D W E s K r:=by
 unfold Tw at h;obtain⟨d,hd,h⟩:=Zt h;obtain⟨ds,td,ht,h,kG,hv⟩:=Zmx h;rcases GS h with⟨u,v,p0,hx,h⟩|⟨i,p0,hx,h⟩
 .obtain⟨hm,h⟩:=Zp h
  rw[aR]at hm;obtain⟨n,cs,hl,h⟩:=ZmN h;obtain⟨hb,h⟩:=lL h;have hb:=pj hb;have hW:=UJ u v hm.2 (by rw[hl];rfl);have get: ∀k,(E.put u (.loc v n (yb n (C.P.cellsOf t) cs p0 ds))).get k=if u=k then .loc v n (yb n (C.P.cellsOf t) cs p0 ds)else E.get k:=λk=>Env.sa _ _ _ _
  have cX: ∀k,((E.put u (.loc v n (yb n (C.P.cellsOf t) cs p0 ds))).get k).cX=(E.get k).cX:=λk=>by
   rw[get];split
   .rename_i e;subst e;rw[hl];rfl
   .rfl
  have crb: ∀h ab,jd E->CR (E.put u (.loc v n (yb n (C.P.cellsOf t) cs p0 ds))) s h ab->(h= .inr v/\ab= .cells false (yb n (C.P.cellsOf t) cs p0 ds))\/(h≠ .inr v/\CR E s h ab):=by
   intro h ab hE c;cases h with
   |inl i=>exact .inr ⟨by simp,c⟩
   |inr k=>
    rcases c with⟨q,n',cs',hq,eX⟩|⟨q,l,p,hq,eX⟩
    .rw[get]at hq
     split at hq
     .grind
     .rename_i du
      refine .inr ⟨λe=>?_,.inl ⟨q,n',cs',hq,eX⟩⟩;cases e;exact du (hE.uniq u q v (by rw[hl];rfl) (by rw[hq];rfl))
    .rw[get]at hq
     split at hq
     .cases hq
     .rename_i du
      refine .inr ⟨λe=>?_,.inr ⟨q,l,p,hq,eX⟩⟩;cases e;exact du (hE.uniq u q v (by rw[hl];rfl) (by rw[hq];rfl))
  refine .inl ⟨_,_,h,⟨aL _,aL _,λhE=>⟨?_,?_,?_,?_⟩,?_,(λk d _ h'=>by
   rw[get]at h';grind),?_,?_,?_,?_,λ_ _ _=>rfl,.inr (by unfold Spec;rw[ho];trivial),.inl rfl⟩,?_⟩
  .intro k v' h';rw[cX]at h';exact hE.lt k v' h'
  .intro k a b c h'
   rw[get]at h';split at h'
   .cases h'
   .exact hE.pl k a b c h'
  .intro k a b c h'
   rw[get]at h';split at h'
   .cases h'
    have:=hE.len u v n cs hl;rw[Ta this kG hb,GO];exact this
   .exact hE.len k a b c h'
  .intro k k' v' h' yO;rw[cX]at h' yO;exact hE.uniq k k' v' h' yO
  .grind
  .intro k _ C' ψ x' hr
   rw[get];split
   .rename_i e;subst e;rw[hl]at hr;exact hr
   .exact hr
  .intro h' ab c
   cases h' with
   |inl i=>exact .inr (.inr c)
   |inr k=>
    rcases c with⟨q,n',cs',hq,eX⟩|⟨q,l,p,hq,eX⟩
    .rw[get]at hq
     split at hq
     .cases hq;exact .inl hW
     .exact .inr (.inr (.inl ⟨q,n',cs',hq,eX⟩))
    .rw[get]at hq
     split at hq
     .cases hq
     .exact .inr (.inr (.inr ⟨q,l,p,hq,eX⟩))
  .grind
  .grind
  .intro ψ Q a w next QQ p room hn
   have:=p.src (x:=x) (by simp[Op.operands,ho]);rw[hx]at this;obtain⟨cb,e1,e2,e3⟩:=this;obtain⟨h1,h2,h3⟩:=hv C ψ _ (p.val (x:=y) (by simp[Op.operands,ho]) hd);have hq:Q (.inr v) (.cells false cs):=p.jC (.inr v) _ cb (br _ hW) (.inl ⟨u,n,cs,hl,rfl⟩) e1;have hlen:=p.gJ.len u v n cs hl;obtain⟨w',hr,db,hh⟩:=KZ (P:=C.P) (p:=p0) (p.eL.holds _ cb _ e1 hq) h1 h2 (by omega);rw[e2,ej]at hr;have hex:(execOp a.eval o).run C.P w= .ok .skip w':=by
    simp only[execOp,ho,e3,Instr.storeAt,Sem.run_bind,vr,Result.andThen_ok,Zlg ht _ _ w h3,hr,Sem.run_pure]
   unfold Oper.wp;rw[hex];refine hn ψ (ye Q (.inr v) (.cells false (yb n (C.P.cellsOf t) cs p0 ds))) _ w' ⟨fa.set p.eL e1 hq rfl db.other (by rw[Ta hlen kG hb];exact hh),Ext.set e1 hq rfl db.other db.size db.tape db.os db.output,
    λ_ _ e=> .inl e,λh' ab c cr hw e'=>?_,λh' ab c e' q nw _=>?_⟩ (by grind)
   .rcases crb h' ab p.gJ cr with⟨rfl,rfl⟩|⟨du,cr⟩
    .exact .inl ⟨rfl,rfl⟩
    .refine .inr ⟨du,?_⟩
     rcases hw with hw|⟨n1,n2⟩
     .exact p.jC h' ab c (br h' hw) cr e'
     .exact absurd (cr.qD p.gJ) n1
   .exact .inr (by grind)
 .obtain⟨hm,h⟩:=Zp h
  obtain⟨cs,hi,hb,h⟩:=Zon h;refine bY.WV br (hWh hm i p0 hx) .u rfl (λ_ _ _ _ e=>by cases e) hi (by rw[vM];exact h) λψ Q a w p=>?_
  have:=p.val (x:=x) (by simp[Op.operands,ho]) hx;generalize Nl:a.eval x=xv at this;cases this with
  |ptr _ _ cb e=>
   refine⟨cb,e,λhh=>?_⟩;obtain⟨h1,h2,h3⟩:=hv C ψ _ (p.val (x:=y) (by simp[Op.operands,ho]) hd);obtain⟨w',hr,db,Ic⟩:=KZ (P:=C.P) (p:=p0) hh h1 h2 hb;refine⟨undef,w',.inr ⟨?_,rfl⟩,db,Ic,trivial⟩;simp only[execOp,ho,Nl,Instr.storeAt,Sem.run_bind,vr,Result.andThen_ok,Zlg ht _ _ w h3,hr,Sem.run_pure]
end
structure og (C:bB):Prop where
 ty: ∀t t',C.ty t=C.ty t'->t=t'
 eqg: ∀t,C.CJ t≠[]->C.P.eqGuardType C.P.depth t=false
 eq: ∀t,C.CJ t≠[]->∀ψ xs ys (vs us:Array Value) b w,bE C ψ xs vs.toList->bE C ψ ys us.toList->mR (C.CJ t) xs ys=some b->(Op.equal t (.agg vs) (.agg us)).run C.P w= .ok b w
 tae: ∃e d,C.P.underlying C.P.rt.typeAssertionError=some (.pointer e)/\C.P.underlying e=some d
section
variable {C:bB} {o:Oper} {D W:dD->Prop} {E:Env} {s:St} {md:Md} {pr ms:al}
theorem Zrj (d:Nat) (ht:P.underlying t=some .bool) (x y:Bool) (w:World):(Op.equalIn (d+1) t (.bool x) (.bool y)).run P w= .ok (x==y) w:=by
 simp[Op.equalIn,Zl w ht]
theorem ZtZ (ht:P.underlying t=some .bool) (x y:Bool) (w:World):(Op.equal t (.bool x) (.bool y)).run P w= .ok (x==y) w:=Zrj 9999 ht x y w
theorem ZsX (d:Nat) (ht:P.underlying t=some (.pointer e)) (a:Option Addr) (w:World):
  (Op.equalIn (d+1) t (.pointer a) (.pointer none)).run P w= .ok a.isNone w/\(Op.equalIn (d+1) t (.pointer none) (.pointer a)).run P w= .ok a.isNone w:=by
 cases a<;>constructor<;>simp[Op.equalIn,Zl w ht]
theorem KV (ht:P.underlying t=some (.pointer e)) (a:Option Addr) (w:World):
  (Op.equal t (.pointer a) (.pointer none)).run P w= .ok a.isNone w/\(Op.equal t (.pointer none) (.pointer a)).run P w= .ok a.isNone w:=ZsX 9999 ht a w
theorem Zqu (d:Nat) (ht:P.underlying t=some (.slice e)) (a:Option Addr) (n m n' m':Nat) (w:World):
  (Op.equalIn (d+1) t (.slice a n m) (.slice none n' m')).run P w= .ok a.isNone w/\(Op.equalIn (d+1) t (.slice none n' m') (.slice a n m)).run P w= .ok a.isNone w:=by
 cases a<;>constructor<;>simp[Op.equalIn,Zl w ht]
theorem Km (ht:P.underlying t=some (.slice e)) (a:Option Addr) (n m n' m':Nat) (w:World):
  (Op.equal t (.slice a n m) (.slice none n' m')).run P w= .ok a.isNone w/\(Op.equal t (.slice none n' m') (.slice a n m)).run P w= .ok a.isNone w:=Zqu 9999 ht a n m n' m' w
theorem Zvi (x y:ByteArray):(x.toList==y.toList)=(x.data.toList==y.data.toList):=by rw[ByteArray.toList_eq,ByteArray.toList_eq]
theorem Zq0 {x y:DV} {K:Bool->M β} (hc:og C) (h:Mj (C.P.underlying t) (C.CJ t) x y K s=some r):
  ∃b,K b s=some r/\∀ψ w (x' y':Value) (p q:Operand),VR C ψ x x'->VR C ψ y y'->
   (do eqGuard .eql t p q x' y';Go.binOp .eql t x' y':Sem Value).run C.P w= .ok (.bool b) w/\(do eqGuard .neq t p q x' y';Go.binOp .neq t x' y':Sem Value).run C.P w= .ok (.bool !b) w:=by
 generalize hu:C.P.underlying t=u at h;unfold Mj at h;split at h
 ·
  split at h
  ·
   refine⟨_,h,λψ w x' y' p q hx hy=>?_⟩;cases hx;cases hy;constructor<;>simp[eqGuard,Go.binOp,ZtZ hu]
  .cases h
 .obtain⟨h1,h2⟩:=Zp h
  clear h;have:=Ht h1;subst this;refine⟨_,h2,λψ w x' y' p q hx hy=>?_⟩;cases hx;cases hy;constructor<;>simp[eqGuard,Go.binOp,Op.intCmp,bne]
 .refine⟨_,h,λψ w x' y' p q hx hy=>?_⟩
  cases hx;cases hy;constructor<;>simp[eqGuard,Go.binOp,Op.stringOp,Zvi]
 .split at h
  .refine⟨_,h,λψ w x' y' p q hx hy=>?_⟩
   cases hy;cases hx with
   |Jo=>constructor<;>simp[eqGuard,Go.binOp,(KV hu none w).1]
   |ptr i n cb e=>constructor<;>simp[eqGuard,Go.binOp,(KV hu _ w).1]
  .cases h
 .split at h
  .refine⟨_,h,λψ w x' y' p q hx hy=>?_⟩
   cases hx;cases hy with
   |Jo=>constructor<;>simp[eqGuard,Go.binOp,(KV hu none w).1]
   |ptr i n cb e=>constructor<;>simp[eqGuard,Go.binOp,(KV hu _ w).2]
  .cases h
 .split at h
  .refine⟨_,h,λψ w x' y' p q hx hy=>?_⟩
   cases hy;cases hx with
   |sG=>constructor<;>simp[eqGuard,Go.binOp,(Km hu none 0 0 0 0 w).1]
   |slice _ i n m cb a cap e=>constructor<;>simp[eqGuard,Go.binOp,(Km hu _ _ _ 0 0 w).1]
  .cases h
 .split at h
  .refine⟨_,h,λψ w x' y' p q hx hy=>?_⟩
   cases hx;cases hy with
   |sG=>constructor<;>simp[eqGuard,Go.binOp,(Km hu none 0 0 0 0 w).1]
   |slice _ i n m cb a cap e=>constructor<;>simp[eqGuard,Go.binOp,(Km hu _ _ _ 0 0 w).2]
  .cases h
 .rename_i xs ys
  cases cN:C.CJ t with
  |nil=>rw[cN]at h;cases h
  |cons k ks=>
   rw[cN]at h;simp only at h;cases hb:mR (k::ks) xs ys with
   |none=>rw[hb]at h;cases h
   |some b=>
    rw[hb]at h;refine⟨_,h,λψ w x' y' p q hx hy=>?_⟩;have XN:C.CJ t≠[]:=by rw[cN];exact List.cons_ne_nil _ _
    cases hx with
    |agg _ vs h1 _=>
     cases hy with
     |agg _ us h2 _=>
      have he:=hc.eq t XN ψ _ _ vs us b w h1 h2 (by rw[cN];exact hb);constructor<;>simp[eqGuard,Go.binOp,hc.eqg t XN,he]
 .cases h
theorem ZwE (h:op= .and\/op= .or\/op= .xor\/op= .andNot) (t:TypeId) (p q:Operand) (k:IntKind) (x y:Int) (w:World):
  (do eqGuard op t p q (.int k x) (.int k y);Go.binOp op t (.int k x) (.int k y):Sem Value).run P w= .ok (.int k (bits op k x y)) w:=by
 have e:Go.binOp op t (.int k x) (.int k y)=Op.intBits op k x y:=by rcases h with rfl|rfl|rfl|rfl<;>simp[Go.binOp]
 rw[e];rcases h with rfl|rfl|rfl|rfl<;>rfl
theorem ZvO {x:Operand} (hc:og C) (ho:o.op= .binOp op t x y yt) (br: ∀h,W h->D h) (h:Wx C E o K op t x y s=some r):bY C md pr ms o D W E s K r:=by
 unfold Wx at h;obtain⟨a,ha,h⟩:=Zt h;obtain⟨b,hb,h⟩:=Zt h;have key: ∀d,cy E o K d s=some r->(∀ψ w x' y',VR C ψ a x'->VR C ψ b y'->∃v,(do eqGuard op t x y x' y';Go.binOp op t x' y':Sem Value).run C.P w= .ok v w/\VR C ψ d v)->bY C md pr ms o D W E s K r:=by
  intro d h hr;refine bY.val br d h λψ Q A w p=>?_
  obtain⟨v,hv,lx⟩:=hr ψ w _ _ (p.val (x:=x) (by simp[Op.operands,ho]) ha) (p.val (x:=y) (by simp[Op.operands,ho]) hb);refine⟨v,w,?_,.refl w,lx⟩;simp only[execOp,ho,Sem.run_bind]at hv⊢;rw[hv];rfl
 unfold Xw at h;split at h
 .obtain⟨b',h,hr⟩:=Zq0 hc h
  exact key _ h λψ w x' y' hx hy=>⟨_,(hr ψ w x' y' x y hx hy).1,.bool _⟩
 .obtain⟨b',h,hr⟩:=Zq0 hc h
  exact key _ h λψ w x' y' hx hy=>⟨_,(hr ψ w x' y' x y hx hy).2,.bool _⟩
 .split at h
  .rename_i k n k' m
   have h0:=h;clear h;obtain⟨hm,h⟩:=lL h0;clear h0;have hm:=Int.not_lt.2 (iR hm);refine key _ h λψ w x' y' hx hy=>?_
   cases hx;cases hy;exact⟨_,by simp[eqGuard,Go.binOp,Op.shift,hm],.int _ _⟩
  .cases h
 .split at h
  .rename_i k n k' m
   have h0:=h;clear h;obtain⟨hm,h⟩:=lL h0;clear h0;have hm:=Int.not_lt.2 (iR hm);refine key _ h λψ w x' y' hx hy=>?_
   cases hx;cases hy;exact⟨_,by simp[eqGuard,Go.binOp,Op.shift,hm],.int _ _⟩
  .cases h
 .rename_i n1 n2 n3 n4
  split at h
  .have h0:=h
   clear h;obtain⟨hk,h⟩:=Zp h0;clear h0;have:=Ht hk;subst this;cases op with
   |eql=>exact absurd rfl n1
   |neq=>exact absurd rfl n2
   |shl=>exact absurd rfl n3
   |shr=>exact absurd rfl n4
   |quo=>
    obtain⟨hm,h⟩:=lL h;simp only[kR,dY]at hm;refine key _ h λψ w x' y' hx hy=>?_
    cases hx;cases hy;exact⟨_,by simp[eqGuard,Go.binOp,Op.intDiv,hm],.int _ _⟩
   |rem=>
    obtain⟨hm,h⟩:=lL h;simp only[kR,dY]at hm;refine key _ h λψ w x' y' hx hy=>?_
    cases hx;cases hy;exact⟨_,by simp[eqGuard,Go.binOp,Op.intDiv,hm],.int _ _⟩
   |and|or|xor|andNot=>
    refine key _ h λψ w x' y' hx hy=>?_
    cases hx;cases hy;exact⟨_,ZwE (by simp) t x y _ _ _ w,.int _ _⟩
   |_=>
    refine key _ h λψ w x' y' hx hy=>?_
    cases hx;cases hy;exact⟨_,by simp[eqGuard,Go.binOp,Op.intArith,Op.intCmp]<;>rfl,by constructor⟩
  .rename_i l l'
   cases op with
   |eql=>exact absurd rfl n1
   |neq=>exact absurd rfl n2
   |shl=>exact absurd rfl n3
   |shr=>exact absurd rfl n4
   |add=>
    obtain⟨hm,h⟩:=lL h;have hm:=pj hm;refine key _ h λψ w x' y' hx hy=>?_
    cases hx with
    |str p=>
     cases hy with
     |str q=>
      have e:p.data.toList++q.data.toList=(p++q).data.toList:=by simp[ByteArray.data_append]
      rw[e];rw[lZ,lZ]at hm;have pR:p.size+q.size<=4611686018427387904:=hm;refine⟨.string (p++q),?_,.str _⟩;have:=run_string_add_sum (P:=C.P) (w:=w) p q (by omega);simp[eqGuard,Go.binOp,this]
   |lss|leq|gtr|geq=>
    refine key _ h λψ w x' y' hx hy=>?_
    cases hx;cases hy;refine⟨_,by simp only[eqGuard,Go.binOp,Op.stringOp,ByteArray.toList_eq];rfl,.bool _⟩
   |_=>cases h
  .cases h
end
def Du (P:Program) (t:TypeId) (b:B):Bool:=match P.underlying t,b with
 |some .bool,.bool=>true
 |some (.int _),.int _=>true
 |some .string,.str=>true
 |_,_=>false
def Mi (P:Program):List Field->List B->Nat->Bool
 |[],[],_=>true
 |f::r,b::bs,o=>f.name != "_" &&Nat.beq f.offset o&&Du P f.type b&&Mi P r bs (o+1)
 |_,_,_=>false
def EV (P:Program):List Field->List B->Nat->Bool
 |[],[],_=>true
 |[],_::_,_=>false
 |f::r,bs,o=>f.name != "_" &&Nat.beq f.offset o&&(match P.underlying f.type with
  |some (.struct fs)=>Nat.beq (P.cellsOf f.type) fs.size&&Nat.ble fs.size bs.length&& !(P.stoodInHeld f.type)&&Mi P fs.toList (bs.take fs.size) 0&&EV P r (bs.drop fs.size) (o+fs.size)
  |_=>match bs with
   |b::gu=>Du P f.type b&&EV P r gu (o+1)
   |[]=>false)
def EW (P:Program) (t:TypeId) (bs:List B):Bool:=match P.underlying t with
 |some (.struct fs)=>EV P fs.toList bs 0&& !(P.stoodInHeld t)&& !(P.eqGuardType P.depth t)
 |_=>false
section
variable {C:bB} {ψ:Ps}
theorem ZrV {d:Nat} {b:B} {x y:DV} {u:Value} {r:Bool} (w:World) (hs:Du C.P t b=true) (hx:VR C ψ x v) (hy:VR C ψ y u) (he:AI b x y=some r):
  (Op.equalIn (d+1) t v u).run C.P w= .ok r w:=by
 unfold Du at hs;split at hs
 .rename_i hu
  unfold AI at he;split at he<;>first|(rename_i h1;cases h1;done)|skip
  .cases hx;cases hy;cases he
   simp[Op.equalIn,Zl w hu]
  all_goals (first|(cases he;done)|skip)
 .rename_i hu
  unfold AI at he;split at he
  .rename_i h1;cases h1
  .rename_i k0 k a k' b' _
   cases hk:uU k0 k&&uU k k' with
   |false=>rw[hk]at he;cases he
   |true=>
    rw[hk]at he;rw[aR]at hk;have:=Ht hk.2;subst this;cases hx;cases hy;cases he;simp[Op.equalIn,Zl w hu]
  .rename_i h1;cases h1
  .cases he
 .rename_i hu
  unfold AI at he;split at he
  .rename_i h1;cases h1
  .rename_i h1;cases h1
  .cases hx;cases hy;cases he
   have e: ∀a b:ByteArray,(a==b)=(a.data.toList==b.data.toList):=by
    intro a b;have e1:(a==b)=(a.data==b.data):=by cases a;cases b;rfl
    rw[e1,iQ];simp only[kU];exact⟨λh=>by rw[h],λh=>Array.toList_inj.1 h⟩
   simp only[Op.equalIn,Sem.run_bind,Zl w hu,Result.andThen_ok,Sem.run_pure,e]
  .cases he
 .cases hs
theorem KM {b:B} {cs:Array Value} (w:World) (hs:Du C.P e b=true) (hx:cs[off]? =some v):(Go.part e cs off).run C.P w= .ok v w:=by
 refine run_part_plain w ?_ hx;unfold Du at hs;unfold Program.plainKey;split at hs<;>first|(rename_i hu;rw[hu];done)|(rename_i hu;rw[hu])|cases hs
theorem Zse {d:Nat} (xs ys:Array Value) (w:World): ∀(fs:List Field) (bs:List B) (ds es:ah) (o:Nat) (r:Bool),Mi C.P fs bs o=true->
  bE C ψ ds (xs.toList.drop o)->bE C ψ es (ys.toList.drop o)->mR bs ds es=some r->(Op.eqFields (d+1) xs ys fs).run C.P w= .ok r w
 |[],[],[],[],o,r,_,_,_,he=>by
  cases he;simp[Op.eqFields]
 |[],[],_::_,_,_,_,_,_,_,he=>by cases he
 |[],[],[],_::_,_,_,_,_,_,he=>by cases he
 |[],_::_,_,_,_,_,h,_,_,_=>by cases h
 |_::_,[],_,_,_,_,h,_,_,_=>by cases h
 |f::fs,b::bs,[],_,_,_,_,_,_,he=>by cases he
 |f::fs,b::bs,_::_,[],_,_,_,_,_,he=>by cases he
 |f::fs,b::bs,x::ds,y::es,o,r,h,hx,hy,he=>by
  simp only[Mi,aR]at h;obtain⟨⟨⟨hn,ho⟩,hs⟩,hr⟩:=h;have ho:=dy ho;have hn:f.name≠ "_" :=by simpa using hn
  simp only[mR]at he;cases h1:AI b x y with
  |none=>rw[h1]at he;cases he
  |some r1=>
   cases h2:mR bs ds es with
   |none=>rw[h1,h2]at he;cases he
   |some r2=>
    rw[h1,h2]at he;cases he;have Jy: ∀ {z:Array Value} {q:DV} {qs:ah},bE C ψ (q::qs) (z.toList.drop o)->∃v,z[o]? =some v/\VR C ψ q v/\bE C ψ qs (z.toList.drop (o+1)):=by
     intro z q qs hq;generalize hz:z.toList.drop o=l at hq;cases hq with
     |cons _ v _ vs a b=>
      have e:z.toList[o]? =some v:=by
       have:=congrArg (λl:List Value=>l[0]?) hz;simpa using this
      refine⟨v,by rw[<-jE];exact e,a,?_⟩;have:=congrArg (List.drop 1) hz;rw[jX]at this;rw[this];exact b
    obtain⟨v,hv,rv,tv⟩:=Jy hx;obtain⟨u,hu,ru,tu⟩:=Jy hy;have p1:=KM (C:=C) w hs hv;have p2:=KM (C:=C) w hs hu;have p3:=ZrV (d:=d) w hs rv ru h1;have p4:=Zse (d:=d) xs ys w fs bs ds es (o+1) r2 hr tv tu h2;rw[<-ho]at p1 p2;simp only[Op.eqFields,hn,ne_eq,not_false_eq_true,kV,Sem.run_bind,p1,p2,p3,Result.andThen_ok];cases r1
    .simp
    .simpa using p4
theorem Zqe: ∀(n:Nat) (bs:List B) (ds es:ah) (r:Bool),mR bs ds es=some r->n<=bs.length->∃r1 r2,mR (bs.take n) (ds.take n) (es.take n)=some r1/\mR (bs.drop n) (ds.drop n) (es.drop n)=some r2/\r=(r1&&r2)
 |0,bs,ds,es,r,h,_=>⟨true,r,by simp[mR],by simpa using h,by simp⟩
 |n+1,[],ds,es,r,h,hn=>by simp at hn
 |n+1,b::bs,[],es,r,h,hn=>by cases h
 |n+1,b::bs,_::_,[],r,h,hn=>by cases h
 |n+1,b::bs,x::ds,y::es,r,h,hn=>by
  simp only[mR]at h;cases h1:AI b x y with
  |none=>rw[h1]at h;cases h
  |some a=>
   cases h2:mR bs ds es with
   |none=>rw[h1,h2]at h;cases h
   |some c=>
    rw[h1,h2]at h;cases h;obtain⟨r1,r2,g1,g2,g3⟩:=Zqe n bs ds es c h2 (by simpa using hn);refine⟨a&&r1,r2,?_,by simpa using g2,by rw[g3,Bool.and_assoc]⟩;simp only[List.take_succ_cons,mR,h1,g1]
theorem Sz {d:Nat} (xs ys:Array Value) (w:World): ∀(fs:List Field) (bs:List B) (ds es:ah) (o:Nat) (r:Bool),EV C.P fs bs o=true->
  bE C ψ ds (xs.toList.drop o)->bE C ψ es (ys.toList.drop o)->mR bs ds es=some r->(Op.eqFields (d+2) xs ys fs).run C.P w= .ok r w
 |[],[],ds,es,o,r,_,_,_,he=>by
  cases ds<;>cases es<;>cases he
  simp[Op.eqFields]
 |[],_::_,_,_,_,_,h,_,_,_=>by cases h
 |f::fs,bs,ds,es,o,r,h,hx,hy,he=>by
  unfold EV at h;rw[aR,aR]at h;obtain⟨⟨hn,ho⟩,h⟩:=h;have ho:=dy ho;have hn:f.name≠ "_" :=by simpa using hn
  have agt: ∀b gu,bs=b::gu->(Du C.P f.type b&&EV C.P fs gu (o+1))=true->(Op.eqFields (d+2) xs ys (f::fs)).run C.P w= .ok r w:=by
   rintro b gu rfl h;rw[aR]at h;obtain⟨hs,hr⟩:=h
   match ds,es,hx,hy,he with
   |[],_,_,_,he=>cases he
   |_::_,[],_,_,he=>cases he
   |x::ds,y::es,hx,hy,he=>
   simp only[mR]at he;cases h1:AI b x y with
   |none=>rw[h1]at he;cases he
   |some r1=>
    cases h2:mR gu ds es with
    |none=>rw[h1,h2]at he;cases he
    |some r2=>
     rw[h1,h2]at he;cases he;have Jy: ∀ {z:Array Value} {q:DV} {qs:ah},bE C ψ (q::qs) (z.toList.drop o)->∃v,z[o]? =some v/\VR C ψ q v/\bE C ψ qs (z.toList.drop (o+1)):=by
      intro z q qs hq;generalize hz:z.toList.drop o=l at hq;cases hq with
      |cons _ v _ vs a b=>
       have e:z.toList[o]? =some v:=by
        have:=congrArg (λl:List Value=>l[0]?) hz;simpa using this
       refine⟨v,by rw[<-jE];exact e,a,?_⟩;have:=congrArg (List.drop 1) hz;rw[jX]at this;rw[this];exact b
     obtain⟨v,hv,rv,tv⟩:=Jy hx;obtain⟨u,hu,ru,tu⟩:=Jy hy;have p1:=KM (C:=C) w hs hv;have p2:=KM (C:=C) w hs hu;have p3:=ZrV (d:=d+1) w hs rv ru h1;have p4:=Sz (d:=d) xs ys w fs gu ds es (o+1) r2 hr tv tu h2;rw[<-ho]at p1 p2;simp only[Op.eqFields,hn,ne_eq,not_false_eq_true,kV,Sem.run_bind,p1,p2,p3,Result.andThen_ok];cases r1
     .simp
     .simpa using p4
  split at h
  .rename_i gs hu
   simp only[aR]at h;obtain⟨⟨⟨⟨hc,hle⟩,ca⟩,hg⟩,hr⟩:=h;have hc:=dy hc;have hle:=pj hle;have ca:C.P.stoodInHeld f.type=false:=by simpa using ca
   obtain⟨r1,r2,e1,e2,e3⟩:=Zqe gs.size bs ds es r he hle;have cN:iS C.P f.type=true:=by unfold iS;rw[hu]
   have prt: ∀z:Array Value,(Go.part f.type z o).run C.P w= .ok (.agg (z.extract o (o+gs.size))) w:=λz=>by
    unfold Go.part;simp only[Sem.run_bind,GM w hu,Result.andThen_ok,cN,kV,qj w hu,hc,Sem.run_pure]
   have sub: ∀ {z:Array Value} {qs:ah},bE C ψ qs (z.toList.drop o)->bE C ψ (qs.take gs.size) ((z.extract o (o+gs.size)).toList.drop 0):=by
    intro z qs hq;have:=hq.take gs.size;rw[dj,Array.toList_extract,N5,show o+gs.size-o=gs.size by omega];exact this
   have rst: ∀ {z:Array Value} {qs:ah},bE C ψ qs (z.toList.drop o)->bE C ψ (qs.drop gs.size) (z.toList.drop (o+gs.size)):=by
    intro z qs hq;have:=hq.drop gs.size;rw[jX]at this;exact this
   have oL:C.P.fieldsOf f.type=gs:=by unfold Program.fieldsOf;rw[hu]
   have p3:(Op.equalIn (d+2) f.type (.agg (xs.extract o (o+gs.size))) (.agg (ys.extract o (o+gs.size)))).run C.P w= .ok r1 w:=by
    rw[run_equalIn_struct w (d+1) f.type _ _ (by rw[oL];exact hu) ca,oL];exact Zse (d:=d) _ _ w gs.toList (bs.take gs.size) _ _ 0 r1 hg (sub hx) (sub hy) e1
   have p4:=Sz (d:=d) xs ys w fs (bs.drop gs.size) _ _ (o+gs.size) r2 hr (rst hx) (rst hy) e2;have p1:=prt xs;have p2:=prt ys;rw[<-ho]at p1 p2 p3;simp only[Op.eqFields,hn,ne_eq,not_false_eq_true,kV,Sem.run_bind,p1,p2,p3,Result.andThen_ok];rw[e3];cases r1
   .simp
   .simpa using p4
  .split at h
   .rename_i b gu
    exact agt b gu rfl h
   .cases h
theorem ZtK {bs:List B} (h:EW P t bs=true):P.eqGuardType P.depth t=false:=by
 unfold EW at h;split at h
 .simp only[aR]at h
  simpa using h.2
 .cases h
theorem Zwy {bs:List B} (h:EW C.P t bs=true) {us:Array Value} {b:Bool} (w:World) (hx:bE C ψ xs vs.toList) (hy:bE C ψ ys us.toList) (he:mR bs xs ys=some b):
  (Op.equal t (.agg vs) (.agg us)).run C.P w= .ok b w:=by
 unfold EW at h;split at h
 .rename_i fs hu
  simp only[aR]at h;have ca:C.P.stoodInHeld t=false:=by simpa using h.1.2
  unfold Op.equal;have oL:C.P.fieldsOf t=fs:=by unfold Program.fieldsOf;rw[hu]
  rw[show Op.maxDepth=9999+1 from rfl,run_equalIn_struct w 9999 t vs us (by rw[oL];exact hu) ca,oL];exact Sz (d:=9997) vs us w fs.toList bs xs ys 0 b h.1.1 (by rw[dj];exact hx) (by rw[dj];exact hy) he
 .cases h
def Jb:List (Nat×List B)->Nat->List B
 |[],_=>[]
 |(k,v)::r,x=>bif Nat.beq k x then v else Jb r x
theorem TG {P:Program} : ∀ {l:List (Nat×List B)},(l.all λx=>EW P x.1 x.2)=true->∀t,Jb l t≠[]->EW P t (Jb l t)=true
 |[],_,t,h=>absurd rfl h
 |(k,v)::r,hl,t,h=>by
  rw[tL,aR]at hl;simp only[Jb]at h⊢;cases hk:Nat.beq k t with
  |true=>rw[hk]at h;rw[<-dy hk];exact hl.1
  |false=>rw[hk]at h;exact TG hl.2 t h
end
section
variable {C:bB} {o:Oper} {D W:dD->Prop} {E:Env} {s:St} {md:Md} {pr ms:al}
theorem aD.int {ψ:Ps} {Q:Kn} {a:Act} {w:World} (p:aD C o D E s ψ Q a w) {x:Operand} (hx:x∈o.op.operands) {k:IntKind} {n:Int} (h:E.src C x= .v (.int k n)):a.eval x= .int k n:=by
 have:=p.val hx h;generalize a.eval x=v at this;cases this;rfl
theorem Qw {len:Nat} {K:Nat->Nat->M β} (h:Hs C E len lo hi K s=some r):
  ∃l u,K l u s=some r/\l<=u/\u<=len/\(lo=none->l=0)/\(hi=none->u=len)/\
   ∀ψ Q a w,aD C o D E s ψ Q a w->(∀x,lo=some x->x∈o.op.operands)->(∀x,hi=some x->x∈o.op.operands)->∀(b:Bool) (cap:Nat),len<=cap->(b=false->len=cap)->
    (Instr.sliceBounds b len cap (lo.map a.eval) (hi.map a.eval) none).run C.P w= .ok (l,u,cap) w:=by
 unfold Hs at h;have low: ∀u,(match lo with|none=>K 0 u|some x=>Bs C E x λl=>aC (decide (0<=l)&&decide (l<=u)) (K l.toNat u)) s=some r->
   ∃l,K l u s=some r/\l<=u/\(lo=none->l=0)/\∀ψ Q a w,aD C o D E s ψ Q a w->(∀x,lo=some x->x∈o.op.operands)->
    (match lo.map a.eval with|some v=>Instr.sliceBound v u .sliceB|none=>pure 0:Sem Nat).run C.P w= .ok l w:=by
  intro u h;cases lo with
  |none=>exact⟨0,h,cn _,λ_=>rfl,λψ Q a w p _=>rfl⟩
  |some x=>
   obtain⟨k,n,hx,h⟩:=Ej h;obtain⟨hc,h⟩:=lL h;simp only[aR,mJ]at hc;refine⟨n.toNat,h,by omega,λh=>(nomatch h),λψ Q a w p hm=>?_⟩;simp only[mb,p.int (hm x rfl) hx];exact run_sliceBound _ k n u _ hc.1 hc.2
 cases hi with
 |none=>
  obtain⟨l,h,h1,h2,h3⟩:=low len h;refine⟨l,len,h,h1,aL _,h2,λ_=>rfl,λψ Q a w p hl _ b cap qG hb=>?_⟩;have:=h3 ψ Q a w p hl;unfold Instr.sliceBounds;simp only[Option.map_none,Sem.run_bind,Sem.run_pure,Result.andThen_ok,JT,ri,jI];cases oQ:lo.map a.eval with
  |none=>rw[oQ]at this;simp only[Sem.run_pure,Result.ok.injEq]at this⊢;simp[this.1]
  |some v=>rw[oQ]at this;simp only at this⊢;rw[Sem.run_bind,this];rfl
 |some y=>
  obtain⟨k,n,hy,h⟩:=Ej h;obtain⟨hc,h⟩:=lL h;simp only[aR,mJ]at hc;obtain⟨l,h,h1,h2,h3⟩:=low n.toNat h;refine⟨l,n.toNat,h,h1,by omega,h2,λh=>(nomatch h),λψ Q a w p hl hh b cap qG hb=>?_⟩;have:=h3 ψ Q a w p hl;have hs: ∀code,(Instr.sliceBound (.int k n) cap code).run C.P w= .ok n.toNat w:=λcode=>run_sliceBound _ k n cap code hc.1 (by omega)
  unfold Instr.sliceBounds;simp only[mb,p.int (hh y rfl) hy,Sem.run_bind,Sem.run_pure,Result.andThen_ok,JT,ri,jI,hs];cases oQ:lo.map a.eval with
  |none=>rw[oQ]at this;simp only[Sem.run_pure,Result.ok.injEq]at this⊢;simp[this.1]
  |some v=>rw[oQ]at this;simp only at this⊢;rw[Sem.run_bind,this];rfl
theorem ZsN (ho:o.op= .slice t y lo hi none):y∈o.op.operands/\(∀x,lo=some x->x∈o.op.operands)/\(∀x,hi=some x->x∈o.op.operands):=by
 rw[ho];grind[Op.operands]
theorem Ztn {sz:Nat} {cap l u:Nat} {lo:Bool} (iK:ψ (.inl i)=some cb) (hb:0<cap->base=⟨cb.b,cb.o+off,none⟩/\off+cap*sz<=cb.m)
  (h1:l<=u) (h2:u<=n) (h3:n<=cap) (oQ:lo=false->l=0):
  VR C ψ (.slice sz (cU lo (some (i,off)) (l*sz)) (HL lo l u)) (.slice (some (if cap=l then base else base.add (l*sz))) (u-l) (cap-l)):=by
 have e:cU lo (some (i,off)) (l*sz)=some (i,off+l*sz):=by
  grind[cU,sN]
 have e2:HL lo l u=u-l:=by
  grind[HL]
 rw[e,e2];refine .slice sz i _ _ cb _ _ iK (by omega) (λhc=>?_);obtain⟨h4,h5⟩:=hb (by omega);rw[aW (by omega),h4,Ae];refine⟨by rw[tO],?_⟩;have:off+l*sz+(cap-l)*sz=off+cap*sz:=by rw[tO,<-vk];congr 2;omega
 omega
theorem ZsE (ho:o.op= .slice t y lo hi none) (br: ∀h,W h->D h) (Uv:(∃m e,C.P.underlying t=some (.array m e))->∀i,D (.inl i)) (h:Ti C E o K t y lo hi s=some r):bY C md pr ms o D W E s K r:=by
 obtain⟨my,NA,Nz⟩:=ZsN ho;unfold Ti at h;cases ht:C.P.underlying t with
 |none=>rw[ht]at h;cases h
 |some td=>
  rw[ht]at h;cases td with
  |string=>
   simp only at h;obtain⟨d,hd,h⟩:=Zt h;cases d with
   |str x=>
    simp only at h;obtain⟨l,u,h,h1,h2,h3,h4,hr⟩:=Qw (o:=o) (D:=D) h;refine bY.val br _ h λψ Q a w p=>?_
    have hv:=p.val my hd;generalize hy:a.eval y=v at hv;cases hv with
    |str x=>
     have hlen:x.data.toList.length=x.size:=by rw[lZ];rfl
     have mB:=hr ψ Q a w p NA Nz false x.size (by omega) (λ_=>hlen);rw[hlen]at mB;refine⟨.string (x.extract l u),w,?_,.refl w,?_⟩
     .simp only[execOp,ho,hy,Instr.sliceAt,Sem.run_bind,Zl w ht,Result.andThen_ok,Instr.slice,Option.map_none,JT,ri,jI,Sem.run_pure,mB]
     .have e:EP lo.isSome hi.isSome x.data.toList l u=(x.extract l u).data.toList:=by
       rw[ByteArray.data_extract,Array.toList_extract,N5];have e2:(x.data.toList.take u).drop l=(x.data.toList.drop l).take (u-l):=by rw[BJ]
       cases lo with
       |none=>
        have:=h3 rfl;subst this;cases hi with
        |none=>
         have:=h4 rfl;subst this;simp only[EP,JT,af];rw[dj,BN,dq (aL _)]
        |some _=>simp[EP]
       |some _=>
        cases hi with
        |none=>
         have:=h4 rfl;subst this;simp only[EP,Option.isSome_some,JT,ae,af];rw[dq (by simp)]
        |some _=>simp only[EP,Option.isSome_some,ae];exact e2
      rw[e];exact .str _
   |_=>cases h
  |slice e=>
   simp only at h;obtain⟨ed,he,h⟩:=pD h;obtain⟨d,hd,h⟩:=Zt h;cases d with
   |slice z a n=>
    simp only at h;obtain⟨hz,h⟩:=Zp h;obtain⟨l,u,h,h1,h2,h3,h4,hr⟩:=Qw (o:=o) (D:=D) h;refine bY.val br _ h λψ Q A w p=>?_
    have hv:=p.val my hd;generalize hy:A.eval y=v at hv;cases hv with
    |sG=>
     have mB:=hr ψ Q A w p NA Nz true 0 (aL _) (λh=>nomatch h);have:l=0:=by omega
     subst this;have:u=0:=by omega
     subst this;refine⟨.slice none 0 0,w,?_,.refl w,?_⟩
     .simp[execOp,ho,hy,Instr.sliceAt,Instr.slice,Zl w ht,mB,qj w he]
     .cases lo<;>exact .sG _
    |slice _ i off _ cb base cap iK qG hb=>
     simp only[Option.isNone_some,Bool.or_false]at hz;have hz:=dy hz;subst hz;have mB:=hr ψ Q A w p NA Nz true cap qG (λh=>nomatch h);refine⟨_,w,?_,.refl w,Ztn iK hb h1 h2 qG (λhl=>h3 (by cases lo<;>first|rfl|cases hl))⟩;simp only[execOp,ho,hy,Instr.sliceAt,Instr.slice,Sem.run_bind,Zl w ht,Result.andThen_ok,Option.map_none,mB,qj w he,Sem.run_pure,mb];by_cases cL:cap=l<;>simp[cL]
   |_=>cases h
  |array m e=>
   simp only at h;obtain⟨ed,he,h⟩:=pD h;obtain⟨d,hd,h⟩:=Zt h;cases d with
   |ptr a=>
    simp only at h;obtain⟨i,off,ha,h'⟩:=Tx h;clear h;subst ha;obtain⟨f,cs,ca,hle,h⟩:=G8 h';obtain⟨l,u,h,h1,h2,h3,h4,hr⟩:=Qw (o:=o) (D:=D) h;refine bY.val br _ h λψ Q A w p=>?_
    have hv:=p.val my hd;generalize hy:A.eval y=v at hv;cases hv with
    |ptr _ _ cb iK=>
     have hh:=(p.at (Uv ⟨m,e,ht⟩ i) ca iK).1;have mB:=hr ψ Q A w p NA Nz false m (aL _) (λ_=>rfl);refine⟨_,w,?_,.refl w,Ztn (cap:=m) (base:=⟨cb.b,cb.o+off,none⟩) iK (by grind) h1 h2 (aL _) (λhl=>h3 (by cases lo<;>first|rfl|cases hl))⟩;simp only[execOp,ho,hy,Instr.sliceAt,Sem.run_bind,Zl w ht,Result.andThen_ok,vr,Option.map_none,mB,qj w he,Sem.run_pure]
   |_=>cases h
  |_=>cases h
theorem Zsy (ho:o.op= .range t y) (br: ∀h,W h->D h) (h:TF C E o K t y s=some r):bY C md pr ms o D W E s K r:=by
 unfold TF at h;cases ht:C.P.underlying t with
 |none=>rw[ht]at h;cases h
 |some td=>
  rw[ht]at h;cases td with
  |string=>
   simp only at h;obtain⟨d,hd,h⟩:=Zt h;cases vM:o.dst with
   |none=>rw[vM]at h;cases d<;>cases h
   |some u=>
    rw[vM]at h;cases d with
    |str l=>
     simp only at h;refine bY.Y6 (by grind[Spec]) br u vM _ _ (.inr ⟨l,0,rfl,rfl⟩) h λψ Q a w p=>?_
     have hv:=p.val (x:=y) (by simp[Op.operands,ho]) hd;generalize hy:a.eval y=v at hv;cases hv with
     |str x=>
      refine⟨w.alloc (.stringIter x 0),⟨w.heap.size,0,0⟩,?_,.alloc w _,aL _,by simp,rfl,x,heap_alloc_new w _,rfl⟩;simp[execOp,ho,hy,Instr.range,Zl w ht]
    |_=>cases h
  |_=>cases h
theorem Zwt (s:ByteArray) (i:Nat):s.get! i=s.data.toList.getD i 0:=by
 show s.data[i]! =_;rw[Array.getElem!_eq_getD,dX,rh];simp;rfl
theorem Ao (s:ByteArray) (i:Nat):dec s.data.toList i=Utf8.decode s i:=by
 have hl:s.data.toList.length=s.size:=by rw[lZ];rfl
 simp[dec,Utf8.decode,Zwt,hl]
theorem ZmP {b:Nat} {x:ByteArray} (h:w.heap[b]? =some (.stringIter x p)):(getObj b).run P w= .ok (.stringIter x p) w:=by
 simp[getObj,Sem.run,h]
theorem ZsB {b:Nat} {x y:ByteArray} {q:Nat} (h:w.heap[b]? =some (.stringIter x p)):(setObj b (.stringIter y q)).run P w= .ok () (ly w b (.stringIter y q)):=by
 simp only[setObj,Sem.run,h];rfl
theorem Zuy {t:Nat} (ho:o.op= .next (.tmp t) true) (br: ∀h,W h->D h) (hW: ∀v,(E.get t).cX=some v->W (.inr v)) (h:TJ E o K ms t s=some r):bY C md pr ms o D W E s K r:=by
 unfold TJ at h;cases hl:E.get t with
 |it v l pos=>
  rw[hl]at h;cases vM:o.dst with
  |none=>rw[vM]at h;cases h
  |some d=>
   rw[vM]at h;simp only at h;obtain⟨hc,h⟩:=G0 h;rw[wF]at hc;have hWv:=hW v (by rw[hl];rfl);have at_: ∀ψ Q a w,aD C o D E s ψ Q a w->∃cb x,ψ (.inr v)=some cb/\a.eval (.tmp t)= .pointer (some ⟨cb.b,0,none⟩)/\Q (.inr v) (.iter l pos)/\w.heap[cb.b]? =some (.stringIter x pos)/\x.data.toList=l:=by
    intro ψ Q a w p;have:=p.args t (by simp[Op.operands,ho]);rw[hl]at this;obtain⟨cb,e1,e2⟩:=this;have hq:=p.jC (.inr v) (.iter l pos) cb (br _ hWv) (.inr ⟨t,l,pos,hl,rfl⟩) e1;obtain⟨x,h1,h2⟩:=p.eL.holds _ cb _ e1 hq;exact⟨cb,x,e1,e2,hq,h1,h2⟩
   cases hb:Nat.blt pos l.length with
   |false=>
    rw[hb]at h;simp only[af]at h;refine bY.pure br (.p9 [.bool false]) rfl (λ_ _ _ _ e=>nomatch e) (by rw[vM];exact h) λψ Q a w p=>?_
    obtain⟨cb,x,e1,e2,hq,h1,h2⟩:=at_ ψ Q a w p;have hlen: ¬pos<x.size:=by
     have:x.data.toList.length=x.size:=by rw[lZ];rfl
     rw[<-this,h2];intro ax;have:Nat.blt pos l.length=true:=by rw[pd];exact ax
     rw[hb]at this;cases this
    refine⟨.tuple #[.bool false],w,?_,.refl w,_,rfl,.cons _ _ _ _ (.bool _) .nil⟩;simp only[execOp,ho,e2,Instr.next,Sem.run_bind,ZmP h1,Result.andThen_ok,hlen,jI,Sem.run_pure]
   |true=>
    rw[hb]at h;simp only[ae]at h;have ax:pos<l.length:=by rw[pd]at hb;exact hb
    have get: ∀k,((E.put t (.it v l (pos+u7 l pos))).put d (.p9 [.bool true,.int .i64 pos,.int .i32 (CD l pos)])).get k=
      if d=k then .p9 [.bool true,.int .i64 pos,.int .i32 (CD l pos)]else if t=k then .it v l (pos+u7 l pos)else E.get k:=λk=>by rw[Env.sa,Env.sa]
    have uniq:jd E->∀q,(E.get q).cX=some v->q=t:=λhE q hq=>hE.uniq q t v hq (by rw[hl];rfl)
    refine .inl ⟨_,_,h,⟨aL _,aL _,λhE=>⟨?_,?_,?_,?_⟩,?_,(λk d' _ h'=>by
     rw[get]at h';grind),?_,?_,?_,?_,λ_ _ _=>rfl,.inr (by unfold Spec;rw[ho];trivial),.inl rfl⟩,?_⟩
    .intro k v' h'
     rw[get]at h';split at h'
     .cases h'
     .split at h'
      .cases h';exact hE.lt t v (by rw[hl];rfl)
      .exact hE.lt k v' h'
    .intro k a b c h'
     rw[get]at h';split at h'
     .cases h'
     .split at h'
      .cases h'
      .exact hE.pl k a b c h'
    .intro k a b c h'
     rw[get]at h';split at h'
     .cases h'
     .split at h'
      .cases h'
      .exact hE.len k a b c h'
    .intro k k' v' h' yO
     rw[get]at h' yO;split at h'
     .cases h'
     .split at yO
      .cases yO
      .split at h'<;>split at yO
       .omega
       .cases h';grind
       .cases yO;grind
       .exact hE.uniq k k' v' h' yO
    .grind
    .intro k hk C' ψ x hr
     rw[get,aW (λe=>hk (by rw[vM,e]))];split
     .rename_i e;subst e;rw[hl]at hr;exact hr
     .exact hr
    .intro h' ab c
     cases h' with
     |inl i=>exact .inr (.inr c)
     |inr k=>
      rcases c with⟨q,n',cs',hq,eX⟩|⟨q,l',p,hq,eX⟩
      .rw[get]at hq
       split at hq
       .cases hq
       .split at hq
        .cases hq
        .exact .inr (.inr (.inl ⟨q,n',cs',hq,eX⟩))
      .rw[get]at hq
       split at hq
       .cases hq
       .split at hq
        .grind
        .exact .inr (.inr (.inr ⟨q,l',p,hq,eX⟩))
    .grind
    .grind
    .intro ψ Q a w next QQ p room hn
     obtain⟨cb,x,e1,e2,hq,h1,h2⟩:=at_ ψ Q a w p;have hx:x.data.toList.length=x.size:=by rw[lZ];rfl
     have sh:pos<x.size:=by rw[<-hx,h2];exact ax
     have db:=zQ.ly w cb.b (.stringIter x (pos+u7 l pos));have hr:(execOp a.eval o).run C.P w= .ok (.value (.tuple #[.bool true,.int .i64 pos,.int .i32 (CD l pos)])) (ly w cb.b (.stringIter x (pos+u7 l pos))):=by
      have hd:=Ao x pos;rw[h2]at hd;simp only[execOp,ho,e2,Instr.next,Sem.run_bind,ZmP h1,Result.andThen_ok,sh,kV,<-hd,ZsB h1,Sem.run_pure];rfl
     unfold Oper.wp;rw[hr];refine hn ψ (ye Q (.inr v) (.iter l (pos+u7 l pos))) _ _ ⟨fa.set p.eL e1 hq rfl db.other ⟨x,KX (B6 h1) _,h2⟩,Ext.set e1 hq rfl db.other db.size db.tape db.os db.output,
      λ_ _ e=> .inl e,λh' ab c cr hw e'=>?_,λh' ab c e' q nw _=>?_⟩ (λd' oJ=>?_)
     .have fq:(h'= .inr v/\ab= .iter l (pos+u7 l pos))\/(h'≠ .inr v/\CR E s h' ab):=by
       cases h' with
       |inl i=>exact .inr ⟨by simp,cr⟩
       |inr k=>
        rcases cr with⟨q,n',cs',hq,eX⟩|⟨q,l',p',hq,eX⟩
        .rw[get]at hq
         split at hq
         .cases hq
         .split at hq
          .cases hq
          .rename_i Iy
           refine .inr ⟨λe=>?_,.inl ⟨q,n',cs',hq,eX⟩⟩;cases e;exact Iy (uniq p.gJ q (by rw[hq];rfl)).symm
        .rw[get]at hq
         split at hq
         .cases hq
         .split at hq
          .grind
          .rename_i Iy
           refine .inr ⟨λe=>?_,.inr ⟨q,l',p',hq,eX⟩⟩;cases e;exact Iy (uniq p.gJ q (by rw[hq];rfl)).symm
      rcases fq with⟨rfl,rfl⟩|⟨aeM,cr⟩
      .exact .inl ⟨rfl,rfl⟩
      .refine .inr ⟨aeM,?_⟩
       rcases hw with hw|⟨n1,n2⟩
       .exact p.jC h' ab c (br h' hw) cr e'
       .exact absurd (cr.qD p.gJ) n1
     .exact .inr (by grind)
     .rw[vM]at oJ;cases oJ
      rw[get,bw rfl];exact⟨_,rfl,.cons _ _ _ _ (.bool _) (.cons _ _ _ _ (.int _ _) (.cons _ _ _ _ (.int _ _) .nil))⟩
 |_=>rw[hl]at h;cases h
theorem Zk5 (h1:P.underlying P.rt.typeAssertionError=some (.pointer e)) (_h2:P.underlying e=some d) (i c:Option TypeId) (a:TypeId) (m:String) (w:World):
  ∃t v o,(runtimePanic (.typeAssertion i c a m):Sem Value).run P w= .halt (.panic (.iface t v)) (w.alloc o):=by
 simp only[runtimePanic,Sem.run_bind,run_program,Result.andThen_ok,elemOf,Zl w h1,Sem.run_pure,Rx,run_goPanic];grind
theorem wL.more (dO: ∀ψ Q a w,aD C o D E s ψ Q a w->∃t v w',(execOp a.eval o).run C.P w= .halt (.panic (.iface t v)) w'/\gQ w w') (hD: ∀i,D (.inl i)):wL C o D E s s:=by
 refine⟨aL _,λψ Q a w next QQ p _ hn=>?_⟩;obtain⟨t,v,w',hr,hm⟩:=dO ψ Q a w p;unfold Oper.wp;rw[hr];exact hn ψ Q _ w' ⟨t,v,rfl⟩ (p.eL.more p.gr hm) (Ext.more hm) (λ_ _ e=> .inl e) λi ab cb h e=>p.jC (.inl i) ab cb (hD i) h e
theorem RO (h:Jl md s=some r):md.x=0/\r=(.eZ,s):=by
 unfold Jl at h;obtain⟨h1,h⟩:=Zp h;refine⟨dy h1,?_⟩;grind[yG,fU]
theorem Zrv (hc:og C) (ho:o.op= .typeAssert y xt t false) (br: ∀h,W h->D h) (hD: ∀i,D (.inl i)) (h:SU C E o K md t y s=some r):bY C md pr ms o D W E s K r:=by
 unfold SU at h;cases ht:C.P.underlying t with
 |none=>rw[ht]at h;cases h
 |some td=>
  have Iu: ∀m,td≠ .interface m:=by rintro m rfl;rw[ht]at h;cases h
  have h':fe C E y (λd=>Go.Gv.uu (Jl md) d (C.ty t) λd=>yK (mG C.P t) d (cy E o K)) s=some r:=by rw[ht]at h;cases td<;>first|exact h|grind
  obtain⟨d,hd,h'⟩:=Zt h';have XJ: ∀(a:Act) (w:World),(a.eval y= .nilIface\/∃t' v,a.eval y= .iface t' v/\t'≠t)->∃t v w',(execOp a.eval o).run C.P w= .halt (.panic (.iface t v)) w'/\gQ w w':=by
   intro a w hy;obtain⟨e,ed,e1,e2⟩:=hc.tae;rcases hy with hy|⟨t',v,hy,du⟩
   .obtain⟨tv,v,ob,hv⟩:=Zk5 e1 e2 (some xt) none t "" w
    refine⟨tv,v,_,?_,.alloc w ob⟩;simp only[execOp,ho,hy,Instr.typeAssert,Sem.run_bind,Zl w ht,Result.andThen_ok];cases td<;>first|(simp only[ri,jI,hv,Result.andThen_halt];done)|exact absurd rfl (Iu _)
   .obtain⟨tv,v,ob,hv⟩:=Zk5 e1 e2 (some xt) (some t') t "" w
    refine⟨tv,v,_,?_,.alloc w ob⟩;simp only[execOp,ho,hy,Instr.typeAssert,Sem.run_bind,Zl w ht,Result.andThen_ok];cases td<;>first|(simp only[aW du,ri,jI,hv,Result.andThen_halt];done)|exact absurd rfl (Iu _)
  cases d with
  |iface t' d=>
   simp only[Go.Gv.uu]at h';cases hb:Nat.beq t' (C.ty t)with
   |true=>
    rw[hb]at h';simp only[ae]at h';obtain⟨d',h',hr,_⟩:=La h';refine bY.val br _ h' λψ Q a w p=>?_
    have hv:=p.val (x:=y) (by simp[Op.operands,ho]) hd;generalize hy:a.eval y=v at hv;cases hv with
    |iface t0 _ v hv=>
     have:=hc.ty _ _ (dy hb);subst this;refine⟨v,w,?_,.refl w,hr C ψ v hv⟩;simp only[execOp,ho,hy,Instr.typeAssert,Sem.run_bind,Zl w ht,Result.andThen_ok];cases td<;>first|(simp;done)|exact absurd rfl (Iu _)
   |false=>
    rw[hb]at h';obtain⟨hx,rfl⟩:=RO h';refine .inr ⟨hx,s,rfl,wL.more (λψ Q a w p=>XJ a w (.inr ?_)) hD⟩;have hv:=p.val (x:=y) (by simp[Op.operands,ho]) hd;generalize hy:a.eval y=v at hv;cases hv with
    |iface t0 _ v hv=>exact⟨t0,v,rfl,λe=>by subst e;rw[BL]at hb;cases hb⟩
  |nilIface=>
   obtain⟨hx,rfl⟩:=RO h';refine .inr ⟨hx,s,rfl,wL.more (λψ Q a w p=>XJ a w (.inl ?_)) hD⟩;have hv:=p.val (x:=y) (by simp[Op.operands,ho]) hd;generalize hy:a.eval y=v at hv;cases hv;rfl
  |_=>cases h'
theorem Zsz (ho:o.op= .panic y) (hD: ∀i,D (.inl i)) (h:Tn C E md y s=some r):bY C md pr ms o D W E s K r:=by
 unfold Tn at h;obtain⟨d,hd,h⟩:=Zt h;cases d with
 |iface t d=>
  obtain⟨hx,rfl⟩:=RO h;refine .inr ⟨hx,s,rfl,wL.more (λψ Q a w p=>?_) hD⟩;have hv:=p.val (x:=y) (by simp[Op.operands,ho]) hd;generalize hy:a.eval y=v at hv;cases hv with
  |iface t0 _ v hv=>exact⟨t0,v,w,by simp only[execOp,ho,hy,Instr.panic,Sem.run_bind,run_goPanic,Result.andThen_halt],.refl w⟩
 |_=>cases h
end
section
variable {C:bB} {o:Oper} {D W:dD->Prop} {E:Env} {s:St} {md:Md} {pr ms:al}
theorem ZtA: ∀(l:List Value) (k off:Nat) (c:Array Value),(l.zipIdx k).foldl (λcs (x:Value×Nat)=>cs.setIfInBounds (off+x.2) x.1) c=pY c (off+k) l
 |[],_,_,_=>rfl
 |v::l,k,off,c=>by
  simp only[List.zipIdx_cons,DH,pY];rw[ZtA l (k+1) off];rfl
theorem Zu0 (place:Nat->ai) (cells:Array Value) (i:Nat) (v:Value) (rest:List (Nat×Value)) {size:Nat} (hp:place i=some (off,size)) (h1:v.cells.size=size) (h2:off+size<=cells.size):
  Instr.fill place cells ((i,v)::rest)=Instr.fill place (pY cells off v.cells.toList) rest:=by
 subst h1;have e:v.cells.zipIdx.foldl (λcs (x:Value×Nat)=>cs.setIfInBounds (off+x.2) x.1) cells=pY cells off v.cells.toList:=by
  rw[<-Array.foldl_toList,Array.toList_zipIdx];exact ZtA v.cells.toList 0 off cells
 have hn: ¬(off+v.cells.size>cells.size):=by omega
 simp only[Instr.fill,hp,ne_eq,not_true_eq_false,decide_false,sK,hn,ri,jI];grind
theorem bE.xT (h:bE C ψ ds vs.toList):ds.length=vs.size:=by have:=h.len;simpa using this
theorem ZxI {us:List Value} (h:bE C ψ cs vs.toList) (h':bE C ψ ds us) (hl:off+ds.length<=cs.length):bE C ψ (cw cs off ds) (pY vs off us).toList:=by
 have e1:=h.xT;have e2:=h'.len;refine bE.of _ _ (by simp[GO,e1]) λj d v hd hv=>?_
 rw[Hq cs off ds j hl]at hd;rw[jE,LB _ _ _ _ (by omega)]at hv;split at hd
 .rw[bw (by omega)]at hv
  obtain⟨v',eJ,hr⟩:=h'.get hd;rw[hv]at eJ;cases eJ;exact hr
 .rw[aW (by omega)]at hv
  obtain⟨v',eJ,hr⟩:=h.get hd;rw[jE,hv]at eJ;cases eJ;exact hr
theorem Sn {N:Nat} {place:Nat->ai} {r:Out β×St} : ∀ {l:List (Nat×Operand)} {cs:ah} {K:ah->M β},Bt E C N place l cs K s=some r->cs.length=N->
  ∃cs',K cs' s=some r/\cs'.length=N/\∀ψ Q a w,aD C o D E s ψ Q a w->(∀x∈l,x.2∈o.op.operands)->∀vs:Array Value,bE C ψ cs vs.toList->cs.all one=true->
   ∃iO,Instr.fill place vs (l.map λx=>(x.1,a.eval x.2))=some iO/\bE C ψ cs' iO.toList/\cs'.all one=true
 |[],cs,K,h,hl=>⟨cs,h,hl,λψ Q a w _ _ vs hr h1=>⟨vs,rfl,hr,h1⟩⟩
 |(i,x)::l,cs,K,h,hl=>by
  simp only[Bt]at h;cases hp:place i with
  |none=>rw[hp]at h;cases h
  |some on=>
   obtain⟨off,n⟩:=on;rw[hp]at h;simp only at h;obtain⟨hb,h⟩:=Zp h;have hb:=pj hb;obtain⟨d,hd,h⟩:=Zt h;have go: ∀ds,Bt E C N place l (cw cs off ds) K s=some r->ds.length=n->(∀(ψ:Ps) v,VR C ψ d v->bE C ψ ds v.cells.toList/\ds.all one=true)->
     ∃cs',K cs' s=some r/\cs'.length=N/\∀ψ Q a w,aD C o D E s ψ Q a w->(∀y∈(i,x)::l,y.2∈o.op.operands)->∀vs:Array Value,bE C ψ cs vs.toList->cs.all one=true->
      ∃iO,Instr.fill place vs (((i,x)::l).map λx=>(x.1,a.eval x.2))=some iO/\bE C ψ cs' iO.toList/\cs'.all one=true:=by
    intro ds h kG hr;obtain⟨cs',h,hl',xK⟩:=Sn h (by rw[GO];exact hl);refine⟨cs',h,hl',λψ Q a w p hm vs hv h1=>?_⟩;obtain⟨h3,h4⟩:=hr ψ _ (p.val (hm (i,x) (by simp)) hd);have cB:(a.eval x).cells.size=n:=by rw[<-kG,h3.xT]
    have Br:=hv.xT;obtain⟨iO,e1,e2,e3⟩:=xK ψ Q a w p (by grind) _ (ZxI (off:=off) hv h3 (by omega)) (Ztu h1 h4 (by omega));refine⟨iO,?_,e2,e3⟩;rw[nZ,Zu0 place vs i _ _ hp cB (by omega)];exact e1
   have plain:(∀cs,d≠ .agg cs)->(bif Nat.beq n 1 then aC (one d) (Bt E C N place l (cw cs off [d]) K)else fail) s=some r->_:=λhna h=>by
    obtain⟨h1,h⟩:=Zp h;obtain⟨h2,h⟩:=lL h;exact go [d] h (by simpa using (dy h1).symm) (λψ v hv=>by rw[hv.XC h2];exact⟨.cons _ _ _ _ hv .nil,by simp[h2]⟩)
   cases d with
   |agg ds=>
    simp only at h;obtain⟨h1,h⟩:=SI h;rw[Ta hl h1 hb]at h;exact go ds h h1 (λψ v hv=>by cases hv with|agg _ vs a b=>exact⟨a,b⟩)
   |_=>exact plain (by simp) h
theorem ZkW {P:Program} : ∀(fs:List Field),(fs.all λf=>(P.info? f.type).isSome)=true->fs.mapM (λf=>(P.info? f.type).map λi=>(f.offset,i.size))=some (fs.map λf=>(f.offset,P.cellsOf f.type))
 |[],_=>rfl
 |f::fs,h=>by
  simp only[tL,aR]at h;obtain⟨i,hi⟩:=Option.isSome_iff_exists.1 h.1;simp[List.mapM_cons,hi,ZkW fs h.2,Program.cellsOf]
theorem ZsL (ho:o.op= .build t ps) (br: ∀h,W h->D h) (h:S9 C E o K t ps s=some r):bY C md pr ms o D W E s K r:=by
 unfold S9 at h;cases hz:mP C.P t with
 |none=>rw[hz]at h;cases h
 |some z=>
  rw[hz]at h;simp only at h;obtain⟨lr,h⟩:=Zp h;obtain⟨cs',h,hl,hr⟩:=Sn (o:=o) (D:=D) h rfl;refine bY.val br _ h λψ Q a w p=>?_
  unfold mP at hz;cases hi:C.P.info? t with
  |none=>rw[hi]at hz;cases hz
  |some it=>
   rw[hi]at hz;simp only at hz;cases uT:it.zero with
   |none=>rw[uT]at hz;cases hz
   |some zv=>
    rw[uT]at hz;obtain⟨hZ,gD⟩:=El (C:=C) (ψ:=ψ) hz;obtain⟨iO,e1,e2,e3⟩:=hr ψ Q a w p (λx hx=>by simp only[Op.operands,ho,List.mem_toArray,tN];exact⟨x,hx,rfl⟩) _ hZ gD;refine⟨.agg iO,w,?_,.refl w,.agg _ _ e2 e3⟩;have hb:C.P.built t (ps.map λ(i,x)=>(i,a.eval x)).toList=some iO:=by
     have xo:Instr.fill (Ts C.P t) zv.cells (ps.map λ(i,x)=>(i,a.eval x)).toList=some iO:=by rw[Array.toList_map];exact e1
     unfold Program.built Zru at*
     unfold Ts at xo;cases hu:C.P.underlying t with
     |none=>rw[hu]at lr;cases lr
     |some td=>
      rw[hu]at lr xo;rw[hi];cases td with
      |struct fs=>
       simp only at lr⊢;rw[uT,ZkW _ lr];grind
      |array m e=>
       simp only at lr⊢;obtain⟨ie,xG⟩:=Option.isSome_iff_exists.1 lr;rw[uT,xG];simp only at xo⊢;rw[<-xo];simp[Program.cellsOf,xG]
      |_=>cases lr
    simp only[execOp,ho,Sem.run_bind,run_build w t _ _ hb,Result.andThen_ok,Sem.run_pure]
theorem Em (n:Nat) (z:ah):(ig n z).length=n*z.length:=by
 induction n with
 |zero=>simp[ig]
 |succ n ih=>
  have:ig (n+1) z=z++ig n z:=by rfl
  rw[this,bz,ih,DP,sN]
theorem Ey (h:z.all one=true):(ig n z).all one=true:=by
 induction n with
 |zero=>rfl
 |succ n ih=>
  have:ig (n+1) z=z++ig n z:=by rfl
  rw[this,rj,h,ih];rfl
theorem Zx1 (n:Nat) (z:ah) (j:Nat) (h:j<n*z.length):(ig n z)[j]? =z[j%z.length]? :=by
 induction n generalizing j with
 |zero=>simp at h
 |succ n ih=>
  have e:ig (n+1) z=z++ig n z:=by rfl
  rw[e];by_cases hj:j<z.length
  .rw[l8 hj,Nat.mod_eq_of_lt hj]
  .rw[jY (by omega),ih (j-z.length) (by rw[DP]at h;omega)]
   rw[show j%z.length=(j-z.length)%z.length from by rw[Nat.mod_eq_sub_mod (by omega)]]
theorem Sy (h:bE C ψ z zv.toList) (n m:Nat) (hm:n*z.length<=m):bE C ψ (ig n z) ((madeCells zv m).toList.take (ig n z).length):=by
 have hl:=h.xT;refine bE.of _ _ (by grind[size_madeCells,Em]) λj d v hd hv=>?_
 rw[Em]at hv;rw[sL]at hv;split at hv
 .rename_i hj
  rw[Zx1 n z j hj]at hd;obtain⟨v',eJ,hr⟩:=h.get hd;rw[jE]at hv eJ;grind[madeCells]
 .cases hv
theorem Zm3 {len:Nat} (ho:o.op= .buildSlice t len ps) (br: ∀h,W h->D h) (h:QH C E o K t len ps s=some r):bY C md pr ms o D W E s K r:=by
 unfold QH at h;unfold wT at h;cases ht:C.P.underlying t with
 |none=>rw[ht]at h;cases h
 |some td=>
  rw[ht]at h;cases td with
  |slice e=>
   simp only at h;cases hz:mP C.P e with
   |none=>rw[hz]at h;cases h
   |some z=>
    rw[hz]at h;simp only at h;obtain⟨hb,h⟩:=Zp h;rw[aR]at hb;have mU:=pj hb.1;have cV:=dy hb.2;obtain⟨cs',h,hl,hr⟩:=Sn (o:=o) (D:=D) h (by rw[Em,cV]);refine bY.Je (by unfold sQ;rw[ho];trivial) br (.slice (C.P.cellsOf e) (some (s.length,0)) len) cs' h λψ Q a w p=>?_
    obtain⟨zv,I4,FU,hZ⟩:=Ro (P:=C.P) w hz;have FU:=FU C ψ;have xG: ∃ie,C.P.info? e=some ie/\ie.size=C.P.cellsOf e:=by
     unfold mP at hz;cases hi:C.P.info? e with
     |none=>rw[hi]at hz;cases hz
     |some ie=>exact⟨ie,rfl,by simp[Program.cellsOf,hi]⟩
    obtain⟨ie,xG,Yf⟩:=xG;have Ir:=Sy FU len (len*C.P.cellsOf e) (by rw[cV];exact aL _);rw[Em,cV,G9 (by simp[size_madeCells])]at Ir;obtain⟨iO,e1,e2,e3⟩:=hr ψ Q a w p (λx hx=>by simp only[Op.operands,ho,List.mem_toArray,tN];exact⟨x,hx,rfl⟩) _ Ir (Ey hZ);have Br:=e2.xT;rw[hl]at Br;refine⟨.slice (some ⟨w.heap.size,0,none⟩) len len,w.alloc (.cells iO e),⟨w.heap.size,0,iO.size⟩,?_,.alloc w _,aL _,by simp,Ea (by rw[G9 (by simp[hl,Br])];exact e2) e3,λψ' _ wa=>?_⟩
    .have hn: ¬(len*C.P.cellsOf e>2^24):=by omega
     by_cases h0:len*C.P.cellsOf e=0
     .have e0:madeCells zv.cells (len*C.P.cellsOf e)= #[]:=by rw[h0];simp[madeCells,Array.range_zero']
      rw[e0]at e1;simp only[execOp,ho,Instr.buildSlice,Sem.run_bind,Zl w ht,Result.andThen_ok,sizeOf,typeInfo,run_program,xG,Sem.run_pure,Yf,h0,kV,Array.range_zero',Array.map_empty];simp[e1,newRow]
     .simp only[execOp,ho,Instr.buildSlice,Sem.run_bind,Zl w ht,Result.andThen_ok,sizeOf,typeInfo,run_program,xG,Sem.run_pure,Yf,hn,jI,h0,I4]
      unfold madeCells at e1;simp[e1,newRow]
    .have:=VR.slice (C:=C) (ψ:=ψ') (C.P.cellsOf e) s.length 0 len ⟨w.heap.size,0,iO.size⟩ ⟨w.heap.size,0,none⟩ len wa (aL _) (by grind)
     exact this
  |_=>cases h
theorem Znl {l c:Operand} (ho:o.op= .makeSlice t l c) (br: ∀h,W h->D h) (h:Qs C E o K t l c s=some r):bY C md pr ms o D W E s K r:=by
 unfold Qs wT at h;cases ht:C.P.underlying t with
 |none=>rw[ht]at h;cases h
 |some td=>
  rw[ht]at h;cases td with
  |slice e=>
   simp only at h;cases hz:mP C.P e with
   |none=>rw[hz]at h;cases h
   |some z=>
    rw[hz]at h;simp only at h;obtain⟨cV,h⟩:=Zp h;have cV:=dy cV;obtain⟨k1,n,hn,h⟩:=Ej h;obtain⟨k2,m,hm,h⟩:=Ej h;obtain⟨hb,h⟩:=lL h;simp only[aR,mJ]at hb;obtain⟨⟨h0,h1⟩,h2⟩:=hb;refine bY.Je (by unfold sQ;rw[ho];trivial) br (.slice (C.P.cellsOf e) (some (s.length,0)) n.toNat) (ig n.toNat z) h λψ Q a w p=>?_
    unfold mP at hz;cases hi:C.P.info? e with
    |none=>rw[hi]at hz;cases hz
    |some ie=>
     rw[hi]at hz;simp only at hz;cases uT:ie.zero with
     |none=>rw[uT]at hz;cases hz
     |some zv=>
      rw[uT]at hz;obtain⟨hZ,gD⟩:=El (C:=C) (ψ:=ψ) hz;have cB:ie.size=C.P.cellsOf e:=by simp[Program.cellsOf,hi]
      have ad9:(ie.bytes:Int)*m<=281474976710656:=by
       unfold Bu Lq at h2;rw[hi]at h2;simp only at h2;have h3:m.toNat<=70368744177664/ie.bytes:=by omega
       rcases yl ie.bytes with hz|hp
       .rw[hz];simp
       .have:=(Nat.le_div_iff_mul_le hp).1 h3
        have e:m=(m.toNat:Int):=by omega
        rw[e,<-Int.natCast_mul,BM];omega
      have Mq:m<=9223372036854775807:=by
       unfold Bu at h2;have:=DL 70368744177664 (Lq C.P e);omega
      have hr:=run_make (P:=C.P) w t e ie zv ht hi uT k1 k2 n m h0 h1 ad9 Mq;have hle:n.toNat*C.P.cellsOf e<=m.toNat*ie.size:=by rw[cB];exact DN _ (by omega)
      refine⟨.slice (some ⟨w.heap.size,0,none⟩) n.toNat m.toNat,w.alloc (.cells (madeCells zv.cells (m.toNat*ie.size)) e),⟨w.heap.size,0,(madeCells zv.cells (m.toNat*ie.size)).size⟩,?_,.alloc w _,aL _,by simp,Ea (Sy hZ n.toNat (m.toNat*ie.size) (by rw[cV];exact hle)) (Ey gD),λψ' _ wa=>?_⟩
      .have e1:=p.int (x:=l) (by simp[Op.operands,ho]) hn
       have e2:=p.int (x:=c) (by simp[Op.operands,ho]) hm;simp only[execOp,ho,e1,e2,Sem.run_bind,hr,Result.andThen_ok,Sem.run_pure]
      .exact VR.slice _ _ 0 _ _ _ _ wa (by omega) (λ_=>⟨rfl,by simp only[size_madeCells,cB];omega⟩)
  |_=>cases h
theorem ZvM {b:Builtin} (hq:q.callee= .builtin b) (hb:b= .len) (ho:o.op= .call q) (br: ∀h,W h->D h) (h:Wz C E o K q.argTypes q.args s=some r):bY C md pr ms o D W E s K r:=by
 subst hb;unfold Wz at h;cases ha:q.args.toList with
 |nil=>rw[ha]at h;cases h
 |cons y rest=>
  cases rest with
  |cons _ _=>rw[ha]at h;cases h
  |nil=>
   cases ht:q.argTypes[0]? with
   |none=>rw[ha,ht]at h;cases h
   |some t=>
    rw[ha,ht]at h;simp only at h;have j6:q.args= #[y]:=by rw[<-Array.toArray_toList (xs:=q.args),ha]
    have mem:y∈o.op.operands:=by rw[ho];simp[Op.operands,Call.operands,hq,j6]
    have run: ∀(a:Act) (w:World) v,(Builtin.len_ q.argTypes o.type #[a.eval y]).run C.P w= .ok v w->(execOp a.eval o).run C.P w= .ok (.value v) w:=by
     intro a w v hv;simp[execOp,ho,resolve,hq,invoke,builtin,j6,hv]
    cases hu:C.P.underlying t with
    |none=>rw[hu]at h;cases h
    |some td=>
     rw[hu]at h;cases td with
     |array m e=>
      refine bY.val br _ h λψ Q a w p=>⟨.int .i64 m,w,run a w _ ?_,.refl w,.int _ _⟩
      simp[Builtin.len_,ht,Zl w hu,goInt]
     |string=>
      simp only at h;obtain⟨d,hd,h⟩:=Zt h;cases d with
      |str l=>
       refine bY.val br _ h λψ Q a w p=>?_
       have hv:=p.val mem hd;generalize hy:a.eval y=v at hv;cases hv with
       |str x=>
        refine⟨.int .i64 x.size,w,run a w _ ?_,.refl w,?_⟩
        .simp[Builtin.len_,ht,Zl w hu,goInt,hy]
        .have:x.data.toList.length=x.size:=by rw[lZ];rfl
         rw[this];exact .int _ _
      |_=>cases h
     |slice e=>
      simp only at h;obtain⟨d,hd,h⟩:=Zt h;cases d with
      |slice z a' n=>
       refine bY.val br _ h λψ Q a w p=>?_
       have hv:=p.val mem hd;generalize hy:a.eval y=v at hv;cases hv with
       |sG=>exact⟨.int .i64 (0:Nat),w,run a w _ (by simp[Builtin.len_,ht,Zl w hu,goInt,hy]),.refl w,.int _ _⟩
       |slice _ i off _ cb base cap=>exact⟨.int .i64 n,w,run a w _ (by simp[Builtin.len_,ht,Zl w hu,goInt,hy]),.refl w,.int _ _⟩
      |_=>cases h
     |_=>cases h
theorem ZpA {b:Builtin} (hq:q.callee= .builtin b) (hb:b=if mx then .max else .min) (ho:o.op= .call q) (br: ∀h,W h->D h) (h:ND C E o K mx q.args s=some r):bY C md pr ms o D W E s K r:=by
 unfold ND at h;cases ha:q.args.toList with
 |nil=>rw[ha]at h;cases h
 |cons y rest=>
  cases rest with
  |nil=>rw[ha]at h;cases h
  |cons z rest=>
   cases rest with
   |cons _ _=>rw[ha]at h;cases h
   |nil=>
    rw[ha]at h;simp only at h;have j6:q.args= #[y,z]:=by rw[<-Array.toArray_toList (xs:=q.args),ha]
    have my:y∈o.op.operands:=by rw[ho];simp[Op.operands,Call.operands,hq,j6]
    have mz:z∈o.op.operands:=by rw[ho];simp[Op.operands,Call.operands,hq,j6]
    obtain⟨d,hd,h⟩:=Zt h;obtain⟨e,he,h⟩:=Zt h;cases d with
    |int k n=>
     cases e with
     |int k' m=>
      simp only at h;obtain⟨hk,h⟩:=Zp h;refine bY.val br _ h λψ Q a w p=>?_
      have e1:=p.int my hd;have e2:=p.int mz he;cases mx with
      |true=>
       simp only[kV]at hb;subst hb;exact⟨.int k (if n<m then m else n),w,by simp[execOp,ho,resolve,hq,invoke,builtin,j6,e1,e2,Builtin.max_,Builtin.max2],.refl w,.int _ _⟩
      |false=>
       simp only[ri,jI]at hb;subst hb;exact⟨.int k (if m<n then m else n),w,by simp[execOp,ho,resolve,hq,invoke,builtin,j6,e1,e2,Builtin.min_,Builtin.min2],.refl w,.int _ _⟩
     |_=>cases h
    |_=>cases h
end
section
variable {C:bB} {o:Oper} {D W:dD->Prop} {E:Env} {s:St} {md:Md} {pr ms:al}
theorem TE {a:ai} {K:ah->M β} (h:da a n K s=some r):
  ∃ds,K ds s=some r/\ds.length=n/\((a=none/\n=0/\ds=[])\/∃i q f cs,a=some (i,q)/\dc s i=some (.cells f cs)/\q+n<=cs.length/\ds=(cs.drop q).take n):=by
 cases a with
 |none=>
  simp only[da]at h;obtain⟨h1,h⟩:=Zp h;have:=dy h1;exact⟨[],h,this.symm,.inl ⟨rfl,this,rfl⟩⟩
 |some iq=>
  obtain⟨i,q⟩:=iq;simp only[da]at h;obtain⟨f,cs,h1,h2,h⟩:=G8 h;exact⟨_,h,by simp;omega,.inr ⟨i,q,f,cs,rfl,h1,h2,rfl⟩⟩
theorem LK {A:Act} (p:aD C o D E s ψ Q A w) (hD: ∀i,D (.inl i)) {z sz k:Nat} {a:ai} (hv:VR C ψ (.slice z a m) v)
  (hz:z=sz\/a=none) (hn:n=k*sz) (hk:k<=m)
  (nJ:(a=none/\n=0/\ds=[])\/∃i q f cs,a=some (i,q)/\dc s i=some (.cells f cs)/\q+n<=cs.length/\ds=(cs.drop q).take n):
  ∃base cap vs,v= .slice base m cap/\(∀w',w'.heap=w.heap->(Builtin.firstCells sz k v).run C.P w'= .ok vs w')/\bE C ψ ds vs.toList/\ds.all one=true:=by
 subst hn;cases hv with
 |sG=>
  rcases nJ with⟨_,_,rfl⟩|⟨i,q,f,cs,h,_⟩
  .exact⟨none,0, #[],rfl,λw' _=>by simp[Builtin.firstCells],.nil,rfl⟩
  .cases h
 |slice _ i q _ cb ad cap iK qG hb=>
  rcases nJ with⟨h,_⟩|⟨i',q',f,cs,h,h1,h2,rfl⟩
  .cases h
  .cases h
   have hz:z=sz:=by rcases hz with h|h;exact h;cases h
   subst hz;have hh:=p.at (hD i) h1 iK;by_cases h0:k*z=0
   .refine⟨some ad,cap, #[],rfl,λw' _=>?_,?_,?_⟩
    .simp[Builtin.firstCells,h0,loadCells,loadCellsFrom]
    .rw[h0];simp only[Ge];exact .nil
    .rw[h0];simp
   .have hc:0<cap:=by
     rcases yl k with h|h
     .subst h;simp at h0
     .omega
    obtain⟨e1,e2⟩:=hb hc;obtain⟨vs,e3,e4,e5,e6⟩:=Zk9 (P:=C.P) hh h2;exact⟨some ad,cap,vs,rfl,λw' hw=>by simp only[Builtin.firstCells,e1,e3 w' hw],e5,e6⟩
theorem Zos {ψ:Ps} : ∀ {ds:ah} {l:aj} {vs:List Value},sZ ds=some l->bE C ψ ds vs->∃ns:ak,vs=ns.map (Value.int .u8)/\ns.map (λn=>UInt8.ofNat n.toNat)=l
 |[],l,vs,h,hv=>by
  simp only[sZ,fU]at h;cases hv;exact⟨[],rfl,h⟩
 |d::ds,l,vs,h,hv=>by
  cases hv with
  |cons _ v _ vs h1 h2=>
   cases h1 with
   |int k n=>
    cases k with
    |u8=>
     simp only[sZ,Option.map_eq_some_iff]at h;obtain⟨l',h3,h4⟩:=h;obtain⟨ns,e1,e2⟩:=Zos h3 h2;exact⟨n::ns,by simp[e1],by simp[e2,h4]⟩
    |_=>simp[sZ]at h
   |_=>simp[sZ]at h
theorem Zw8 {K:aj->M β} (h:Go.Gv.kE cs K s=some r): ∃l,sZ cs=some l/\K l s=some r:=by
 unfold Go.Gv.kE at h;cases he:sZ cs with
 |none=>rw[he]at h;cases h
 |some l=>rw[he]at h;exact⟨l,rfl,h⟩
end
section
variable {C:bB} {o:Oper} {D W:dD->Prop} {E:Env} {s:St} {md:Md} {pr ms:al}
theorem ZkP (l:aj):bE C ψ (ZU l) (l.map λb=>Value.int .u8 b.toNat):=by
 induction l with
 |nil=>exact .nil
 |cons b l ih=>exact .cons _ _ _ _ (.int _ _) ih
theorem Qd (l:aj):(ZU l).all one=true:=by simp[ZU,one]
@[simp] theorem aba (l : aj) : (ZU l).length = l.length := by simp [ZU]
def Lr (w:World) (c:Array Value) (e:TypeId):World:= { w with heap:=w.heap.push (.cells c e (c.size,c.size+1)) }
theorem Zqz (w:World) (c:Array Value) (e:TypeId):gQ w (Lr w c e):=gQ.alloc w (.cells c e (c.size,c.size+1))
theorem ZsG (w:World) (c:Array Value) (e:TypeId):(markStringish ⟨w.heap.size,0,none⟩).run P (w.alloc (.cells c e))= .ok () (Lr w c e):=by
 have h1:(w.alloc (.cells c e)).shape? w.heap.size=some (e,c.size):=by simp only[World.shape?,heap_alloc_new]
 unfold markStringish;simp only[Sem.run_bind,run_shape,h1,Result.andThen_ok,run_freeze];congr 1;unfold World.freeze Lr World.alloc;simp only[Nat.one_ne_zero,jI];congr 1;apply Array.ext_getElem?;intro k;rw[Array.getElem?_modify,Array.getElem?_push,Array.getElem?_push];by_cases hk:k=w.heap.size
 .subst hk;simp
 .simp only[hk,jI]
  rw[aW (λe=>hk e.symm)]
theorem Ztv (h:Ns P e=true):P.underlying e=some (.int .u8):=by
 unfold Ns at h;cases he:P.underlying e with
 |none=>rw[he]at h;cases h
 |some ed=>
  rw[he]at h;cases ed with
  |int k=>cases k<;>first|rfl|cases h
  |_=>cases h
theorem Zql (ho:o.op= .convert t u y) (br: ∀h,W h->D h) (hD: ∀i,D (.inl i)) (h:Sa C E o K t u y s=some r):bY C md pr ms o D W E s K r:=by
 have my:y∈o.op.operands:=by rw[ho];simp[Op.operands]
 unfold Sa at h;obtain⟨td,ht,h⟩:=pD h;have run: ∀(a:Act) (w w':World) v,(convert t u (a.eval y)).run C.P w= .ok v w'->(execOp a.eval o).run C.P w= .ok (.value v) w':=by
  intro a w w' v hv;simp[execOp,ho,hv]
 cases hu:C.P.underlying u with
 |none=>rw[hu]at h;cases h
 |some ud=>
  rw[hu]at h;cases ud with
  |int k=>
   simp only at h;obtain⟨d,hd,h⟩:=Zt h;cases d with
   |int k' n=>
    refine bY.val br _ h λψ Q a w p=>⟨.int k (k.wrap n),w,run a w w _ ?_,.refl w,.int _ _⟩
    rw[p.int my hd];simp[convert,Zl w ht,Zl w hu,Conv.intToInt]
   |_=>cases h
  |string=>
   simp only at h;rw[ht]at h;cases td with
   |int k0=>
    simp only at h;obtain⟨d,hd,h⟩:=Zt h;cases d with
    |int k' n=>
     refine bY.val br _ h λψ Q a w p=>⟨.string (Utf8.encode n),w,run a w w _ ?_,.refl w,.str _⟩
     rw[p.int my hd];simp[convert,Zl w ht,Zl w hu,Conv.intToString]
    |_=>cases h
   |string=>
    simp only at h;obtain⟨d,hd,h⟩:=Zt h;cases d with
    |str l=>
     refine bY.val br _ h λψ Q a w p=>?_
     have hv:=p.val my hd;generalize hy:a.eval y=v at hv;cases hv with
     |str x=>exact⟨.string x,w,run a w w _ (by rw[hy];simp[convert,Zl w ht,Zl w hu]),.refl w,.str _⟩
    |_=>cases h
   |slice e=>
    simp only at h;obtain⟨h8,h⟩:=Zp h;have he:=Ztv h8;obtain⟨d,hd,h⟩:=Zt h;cases d with
    |slice z a' n=>
     simp only at h;obtain⟨hz,h⟩:=Zp h;obtain⟨ds,h,_,nJ⟩:=TE h;obtain⟨l,hl,h⟩:=Zw8 h;refine bY.val br _ h λψ Q A w p=>?_
     have FT:z=1\/a'=none:=by
      rw[lz]at hz;rcases hz with h|h
      .exact .inl (dy h)
      .exact .inr (by simpa using h)
     obtain⟨base,cap,vs,hv,dO,hr,_⟩:=LK p hD (p.val my hd) FT (k:=n) (by simp) (aL _) nJ;obtain⟨ns,e1,e2⟩:=Zos hl hr;cases base with
     |none=>
      have:ds=[]:=by
       have eJ:=p.val my hd;rw[hv]at eJ;cases eJ;rcases nJ with⟨_,_,h⟩|⟨_,_,_,_,h,_⟩
       .exact h
       .cases h
      subst this;simp only[sZ,fU]at hl;subst hl;refine⟨.string .empty,w,run A w w _ ?_,.refl w,.str .empty⟩;rw[hv];simp[convert,Zl w ht,Zl w hu,Zl w he,Conv.bytesToString]
     |some b=>
      have afw:(loadCells b n).run C.P w= .ok (ns.map (Value.int .u8)).toArray w:=by
       have dO:=dO w rfl;rw[hv]at dO;simp only[Builtin.firstCells,cP]at dO;rw[dO,<-e1]
      refine⟨.string (ns.foldl (λr n=>r.push (UInt8.ofNat n.toNat)) ByteArray.empty),w,run A w w _ ?_,.refl w,?_⟩
      .rw[hv,run_convert_bytes_string w t u e (some b) n cap ht he hu]
       exact run_bytesToString w b n cap ns afw
      .have:(ns.foldl (λr n=>r.push (UInt8.ofNat n.toNat)) ByteArray.empty).data.toList=l:=by
        rw[foldl_push_bytes,<-e2];simp
       rw[<-this];exact .str _
    |_=>cases h
   |_=>cases h
  |slice e=>
   simp only at h;obtain⟨h8,h⟩:=Zp h;have he:=Ztv h8;obtain⟨d,hd,h⟩:=Zt h;cases d with
   |str l=>
    simp only at h;refine bY.Je (by unfold sQ;rw[ho];trivial) br _ _ h λψ Q a w p=>?_
    have hv:=p.val my hd;generalize hy:a.eval y=v at hv;cases hv with
    |str x=>
     have hx:x.data.toList.length=x.size:=by rw[lZ];rfl
     let cap:=(Question.appendCap x.size 0 e).cut (w.tape w.drawn (.appendCap x.size 0 e))
     have qG:x.size<=cap:=by simp only[cap,Question.cut];omega
     let c:Array Value:=(x.data.map λb=>Value.int .u8 b.toNat)++Array.replicate (cap-x.size) (.int .u8 0)
     have hc:c.size=cap:=by
      have:x.data.size=x.size:=rfl;simp[c,this];omega
     refine⟨.slice (some ⟨w.heap.size,0,none⟩) x.size cap,Lr w.drew c e,⟨w.heap.size,0,c.size⟩,run a w _ _ ?_,(gQ.drew w).trans (Zqz w.drew c e),aL _,(by show w.heap.size<(w.heap.push _).size;simp),?_,λψ' _ wa=>?_⟩
     .rw[hy]
      have hm:=ZsG (P:=C.P) w.drew c e;simp only[convert,Sem.run_bind,Zl w ht,Zl w hu,Result.andThen_ok,Zl w he];have hq:(Question.appendCap x.size 0 e).forced=false:=rfl;simp only[Conv.stringToBytes,Sem.run_bind,run_choose,hq,ri,jI,Result.andThen_ok,newRow,run_newObj,Sem.run_pure];exact(congrArg (λr=>Result.andThen r λ_ w'=>Result.ok (Value.slice (some ⟨w.heap.size,0,none⟩) x.size cap) w') hm)
     .refine Zp8 (ty:=e) (fr:=(c.size,c.size+1)) (by show(w.heap.push _)[w.heap.size]? =_;simp) (.inr (aL _)) ?_ (Qd _)
      have:c.toList.take (ZU x.data.toList).length=x.data.toList.map λb=>Value.int .u8 b.toNat:=by
       rw[aba];simp only[c,Array.toList_append,Array.toList_map];rw[N8 (by simp),dq (by simp)]
      rw[this];exact ZkP _
     .rw[hx]
      have:=VR.slice (C:=C) (ψ:=ψ') 1 s.length 0 x.size ⟨w.heap.size,0,c.size⟩ ⟨w.heap.size,0,none⟩ cap wa qG (λ_=>⟨rfl,by simp only[hc];omega⟩);exact this
   |_=>cases h
  |_=>cases h
end
section
variable {C:bB} {o:Oper} {D W:dD->Prop} {E:Env} {s:St} {md:Md} {pr ms:al}
theorem ZwB {sz:Nat} {a:ai} {len:Nat} {K:ai->M β} (h:cm sz a len ds m lim K s=some r):
  (m=0/\K a s=some r)\/(0<m/\len+m<=lim/\((a=none/\len=0/\K (some (s.length,0)) (s++[some ⟨false,ds⟩])=some r)\/
   ∃i q cs,a=some (i,q)/\s.gE i=some cs/\q+len*sz<=cs.length/\K (some (s.length,0)) (s.set i none++[some ⟨false,(cs.drop q).take (len*sz)++ds⟩])=some r)):=by
 unfold cm at h;cases h0:Nat.beq m 0 with
 |true=>rw[h0]at h;simp_all
 |false=>
  rw[h0]at h;simp only[af]at h;have hm:=JP h0;cases h1:Nat.ble (len+m) lim with
  |false=>rw[h1]at h;cases h
  |true=>
   rw[h1]at h;simp only[ae]at h;refine .inr ⟨by omega,pj h1,?_⟩;cases a with
   |none=>
    simp only at h;cases h2:Nat.beq len 0 with
    |false=>rw[h2]at h;cases h
    |true=>rw[h2]at h;simp_all
   |some iq=>
    obtain⟨i,q⟩:=iq;simp only at h;cases h3:s.gE i with
    |none=>rw[h3]at h;cases h
    |some cs=>
     rw[h3]at h;simp only at h;cases h4:Nat.ble (q+len*sz) cs.length with
     |false=>rw[h4]at h;cases h
     |true=>rw[h4]at h;exact .inr ⟨i,q,cs,rfl,h3,pj h4,h⟩
def BW (P:Program) (ts:Array TypeId):Prop:=match ts[1]? with|none=>True|some t=>∃d,P.underlying t=some d/\∀k,d≠ .int k
theorem ZuC {K:M β} (h:Wv C.P ts K s=some r):BW C.P ts/\K s=some r:=by
 unfold Wv at h;unfold BW;cases ht:ts[1]? with
 |none=>rw[ht]at h;exact⟨trivial,h⟩
 |some t=>
  rw[ht]at h;simp only at h⊢;cases hu:C.P.underlying t with
  |none=>rw[hu]at h;cases h
  |some d=>
   rw[hu]at h;cases d with
   |int k=>cases h
   |_=>exact(by grind)
theorem ZjX (h0:ts[0]? =some t) (ht:P.underlying t=some (.slice e)) (he:P.underlying e=some ed) (hn:BW P ts) (ty:TypeId)
  (base:Option Addr) (n m cap:Nat) (X:Value) (w w':World) (new:Array Value) (hX:(Builtin.lenOf X).run P w= .ok m w) (hc:n+m<=cap)
  (hf:(Builtin.firstCells (P.cellsOf e) m X).run P w= .ok new w) (hs: ∀a,base=some a->(storeCells (a.add (n*P.cellsOf e)) new.toList).run P w= .ok () w') (hb:base=none->w'=w):
  (Builtin.append_ ts ty #[.slice base n cap,X]).run P w= .ok (.slice base (n+m) cap) w':=by
 have key:(P.underlying t=some (.slice e))->(do
   let n' <-Builtin.lenOf X
   let Jd:=n+n'
   if Jd<=cap then
    let new <-Builtin.firstCells (P.cellsOf e) n' X
    if let some a:=base then storeCells (a.add (n*P.cellsOf e)) new.toList
    pure (.slice base Jd cap)
   else stuck "" :Sem Value).run P w= .ok (.slice base (n+m) cap) w':=by
  intro _;simp only[Sem.run_bind,hX,Result.andThen_ok,hc,kV,hf];cases base with
  |none=>have:=hb rfl;subst this;simp
  |some a=>simp[hs a rfl]
 have key:=key ht;simp only[Sem.run_bind,hX,Result.andThen_ok,hc,kV,hf]at key;unfold Builtin.append_;unfold BW at hn;cases h1:ts[1]? with
 |none=>
  simp only[h0,JK,lB,qb,Sem.run_bind,Zl w ht,Result.andThen_ok,qj w he,Sem.run_pure,ri,jI,hX,bp,kV,hc,hf];exact key
 |some t1=>
  rw[h1]at hn;obtain⟨d,hd,jz⟩:=hn;simp only[h0,JK,lB,qb,Sem.run_bind,Zl w ht,Result.andThen_ok,qj w he,Zl w hd];cases d<;>first|exact absurd rfl (jz _)|(simp only[Sem.run_pure,Result.andThen_ok,Sem.run_bind,ri,jI,hX,bp,kV,hc,hf];exact key)
theorem Zpa (z:Array Value) (n:Nat):(Builtin.zeroCells z n).size=n*z.size:=by simp[Builtin.zeroCells]
theorem ZnP {ie:TypeInfo} {z:Value} (h0:ts[0]? =some t) (ht:P.underlying t=some (.slice e)) (he:P.underlying e=some ed) (xG:P.info? e=some ie)
  (v8:ie.zero=some z) (hn:BW P ts) (ty:TypeId) (base:Option Addr) (n m cap:Nat) (X:Value) (w:World) (fq new:Array Value) (hX: ∀w,(Builtin.lenOf X).run P w= .ok m w) (hc:cap<n+m)
  (hb:(n+m)*ie.bytes<=70368744177664) (Mq:n+m<=70368744177664) (ho:(Builtin.firstCells (P.cellsOf e) n (.slice base n cap)).run P w.drew= .ok fq w.drew) (hf:(Builtin.firstCells (P.cellsOf e) m X).run P w.drew= .ok new w.drew):
  ∃k,n+m<=k/\(Builtin.append_ ts ty #[.slice base n cap,X]).run P w= .ok (.slice (some ⟨w.heap.size,0,none⟩) (n+m) k) (w.drew.alloc (.cells (fq++new++Builtin.zeroCells z.cells (k-(n+m))) e)):=by
 refine⟨(Question.appendCap (n+m) cap e).cut (w.tape w.drawn (.appendCap (n+m) cap e)),by simp[Question.cut],?_⟩;have hq:(Question.appendCap (n+m) cap e).forced=false:=rfl;have g1: ¬(n+m<=cap):=by omega
 have g2: ¬(Builtin.nextslicecap (n+m) cap*ie.bytes>2^48):=by
  have:=growslice_fits (bytes:=ie.bytes) hc (by omega);omega
 have g3: ¬(((n+m:Nat):Int)>IntKind.i64.max):=by
  have:IntKind.i64.max=9223372036854775807:=by decide
  rw[this];omega
 have g4: ¬(((n+m:Nat):Int)>IntKind.i64.max/\(False\/ie.bytes=0)):=λh=>g3 h.1
 have Ye: ∀w,(typeInfo e).run P w= .ok ie w:=λw=>by simp[typeInfo,xG]
 have FT: ∀w,(zeroValue e).run P w= .ok z w:=λw=>by simp[zeroValue,typeInfo,xG,v8]
 unfold Builtin.append_;unfold BW at hn;cases h1:ts[1]? with
 |none=>
  simp only[h0,JK,lB,qb,Sem.run_bind,Zl w ht,Result.andThen_ok,qj w he,Sem.run_pure,ri,jI,hX,bp,kV,g1,Ye,g4,
   g2,run_choose,hq,run_askRoom,World.drew_eq,ho,hf,FT,newRow,run_newObj,World.alloc_eq]
  rfl
 |some t1=>
  rw[h1]at hn;obtain⟨d,hd,jz⟩:=hn;simp only[h0,JK,lB,qb,Sem.run_bind,Zl w ht,Result.andThen_ok,qj w he,Zl w hd];cases d<;>first|exact absurd rfl (jz _)|(simp only[Sem.run_pure,Result.andThen_ok,Sem.run_bind,ri,jI,hX,bp,kV,g1,Ye,g4,g2,run_choose,hq,run_askRoom,World.drew_eq,ho,hf,FT,newRow,run_newObj,World.alloc_eq];rfl)
theorem Ext.agA (h:Ext ψ Q1 w ψ' Q' w') (hq: ∀k ab,Q1 k ab->Q k ab):Ext ψ Q w ψ' Q' w':=
 have so: ∀b,tX ψ Q1 b->tX ψ Q b:=λ_b ⟨k,cb,ab,e,q,hs,hb⟩=>⟨k,cb,ab,e,hq _ _ q,hs,hb⟩
 { h with
  sD:=λk cb e=>(h.sD k cb e).imp id λ⟨x,y⟩=>⟨x.imp id (so _),y⟩
  jB:=λb hb hn=>h.jB b hb λe=>hn (so b e)
  gO:=λb e=>(h.gO b e).imp (so b) id
  live:=λk cb x e q=>let ⟨y,hy⟩:=h.live k cb x e q;⟨y,hq _ _ hy⟩ }
theorem Zqr :dc (s.set i none) i=none:=by
 grind[dc]
theorem Ztd (hq:q.callee= .builtin .append) (ho:o.op= .call q) {z:Operand} (ha:q.args= #[y,z]) {zv:ah} (h0:q.argTypes[0]? =some t)
  (ht:C.P.underlying t=some (.slice e)) (he:C.P.underlying e=some ed) (hz:mP C.P e=some zv) (qU:zv.length=C.P.cellsOf e) (hn:BW C.P q.argTypes) (br: ∀h,W h->D h) (hD: ∀i,D (.inl i)) {a:ai} (hW: ∀i q,a=some (i,q)->W (.inl i)) (hd:E.src C y= .v (.slice z0 a n)) (v8:z0=C.P.cellsOf e\/a=none) (kG:ds.length=m*C.P.cellsOf e)
  (hX: ∀ψ Q A w,aD C o D E s ψ Q A w->(∀w,(Builtin.lenOf (A.eval z)).run C.P w= .ok m w)/\∃vs,bE C ψ ds vs.toList/\ds.all one=true/\∀w',w'.heap=w.heap->(Builtin.firstCells (C.P.cellsOf e) m (A.eval z)).run C.P w'= .ok vs w') (h:cm (C.P.cellsOf e) a n ds m (Bu C.P e) (λp=>cy E o K (.slice (C.P.cellsOf e) p (n+m))) s=some r):bY C md pr ms o D W E s K r:=by
 have my:y∈o.op.operands:=by rw[ho];simp[Op.operands,Call.operands,hq,ha]
 have hex: ∀(A:Act) (w w':World) v,(Builtin.append_ q.argTypes o.type #[A.eval y,A.eval z]).run C.P w= .ok v w'->(execOp A.eval o).run C.P w= .ok (.value v) w':=by
  intro A w w' v hv;simp[execOp,ho,resolve,hq,invoke,builtin,ha,hv]
 have age: ∀vs:Array Value,∀ψ,m=0->bE C ψ ds vs.toList->vs.toList=[]:=by
  intro vs ψ hm hr;have:=hr.len;rw[kG,hm,od]at this;grind
 have grow: ∀ψ Q A w,aD C o D E s ψ Q A w->∀base cap fq,A.eval y= .slice base n cap->cap<n+m->n+m<=Bu C.P e->(Builtin.firstCells (C.P.cellsOf e) n (.slice base n cap)).run C.P w.drew= .ok fq w.drew->
   ∃k new rest,n+m<=k/\bE C ψ ds new.toList/\ds.all one=true/\rest.size=(k-(n+m))*C.P.cellsOf e/\
    (execOp A.eval o).run C.P w= .ok (.value (.slice (some ⟨w.heap.size,0,none⟩) (n+m) k)) (w.drew.alloc (.cells (fq++new++rest) e)):=by
  intro ψ Q A w p base cap fq hy hc Bj hold;obtain⟨hl,new,h1,h2,h3⟩:=hX ψ Q A w p;unfold mP at hz;cases hi:C.P.info? e with
  |none=>rw[hi]at hz;cases hz
  |some ie=>
   rw[hi]at hz;simp only at hz;cases uT:ie.zero with
   |none=>rw[uT]at hz;cases hz
   |some ahP=>
    rw[uT]at hz;have Np:=(El (C:=C) (ψ:=ψ) hz).1.xT;have hb:(n+m)*ie.bytes<=70368744177664:=by
     unfold Bu Lq at Bj;rw[hi]at Bj;simp only at Bj;rcases yl ie.bytes with hz|hp
     .rw[hz];simp
     .exact(Nat.le_div_iff_mul_le hp).1 Bj
    have Mq:n+m<=70368744177664:=gH Bj (DL _ _);obtain⟨k,hk,dO⟩:=ZnP (P:=C.P) h0 ht he hi uT hn o.type base n m cap (A.eval z) w fq new hl hc hb Mq hold (h3 _ rfl);exact⟨k,new,_,hk,h1,h2,by rw[Zpa,<-Np,qU],(by grind)⟩
 rcases ZwB h with⟨hm,h⟩|⟨hm,Bj,h⟩
 ·
  refine bY.val br _ h λψ Q A w p=>?_
  obtain⟨hl,new,h1,h2,h3⟩:=hX ψ Q A w p;have iY:=age new ψ hm h1;subst hm;have hv:=p.val my hd;generalize hy:A.eval y=v at hv;have oK: ∀base cap,v= .slice base n cap->n<=cap->(execOp A.eval o).run C.P w= .ok (.value (.slice base n cap)) w:=by
   intro base cap hv hc;refine hex A w w _ ?_;rw[hy,hv];have:=ZjX (P:=C.P) h0 ht he hn o.type base n 0 cap (A.eval z) w w new (hl w) hc (h3 w rfl) (λa _=>by rw[iY];rfl) (λ_=>rfl);exact this
  cases hv with
  |sG=>exact⟨_,w,(by grind),.refl w,.sG _⟩
  |slice _ i q0 _ cb ad cap iK qG hb=>
   have:z0=C.P.cellsOf e:=by grind
   subst this;exact⟨_,w,oK _ cap rfl qG,.refl w,.slice _ _ _ _ cb ad cap iK qG hb⟩
 .rcases h with⟨rfl,rfl,h⟩|⟨i,q0,cs,rfl,hi,hle,h⟩
  ·
   refine bY.Je (by unfold sQ;rw[ho];simp only[hq]) br _ ds h λψ Q A w p=>?_
   have hv:=p.val my hd;generalize hy:A.eval y=v at hv;cases hv;obtain⟨k,new,rest,hk,h1,h2,h3,dO⟩:=grow ψ Q A w p none 0 #[] hy (by omega) Bj (by simp[Builtin.firstCells]);have cB:=h1.xT;refine⟨_,_,⟨w.heap.size,0,(#[]++new++rest).size⟩,dO,(gQ.drew w).trans (gQ.alloc w.drew _),aL _,by simp,?_,λψ' _ wa=>?_⟩
   .refine Ea (w:=w.drew) ?_ h2
    grind
   .refine VR.slice _ _ 0 _ _ _ _ wa hk (λ_=>⟨rfl,?_⟩)
    have:(#[]++new++rest).size=new.size+rest.size:=by simp
    simp only[this];rw[<-cB,kG,h3,ej,ej,<-vk];grind
  ·
   have v8:z0=C.P.cellsOf e:=by grind
   subst v8;obtain⟨ca,ax⟩:=Sq hi;have eX: ∀ab,dc (s.set i none++[some ⟨false,(cs.drop q0).take (n*C.P.cellsOf e)++ds⟩]) s.length=some ab->ab= .cells false ((cs.drop q0).take (n*C.P.cellsOf e)++ds):=by
    intro ab eX;have:=Pp (s.set i none) ⟨false,(cs.drop q0).take (n*C.P.cellsOf e)++ds⟩;rw[lD]at this;rw[this]at eX;cases eX;rfl
   have hold: ∀j ab,dc (s.set i none++[some ⟨false,(cs.drop q0).take (n*C.P.cellsOf e)++ds⟩]) j=some ab->j≠s.length->j≠i/\dc s j=some ab:=by
    intro j ab hj du;have tC:=Cs hj;simp only[bz,lD,iw]at tC;rw[Ka (by rw[lD];omega)]at hj;by_cases kH:j=i
    .subst kH;rw[Zqr]at hj;cases hj
    .rw[Kf (Ne.symm kH)]at hj;exact⟨kH,hj⟩
   refine .inl ⟨_,_,h,mg.put pr ms _ rfl (λ_ _ _ _ h=>by cases h) (by simp) (λj ab hj=>by
    by_cases e:j=s.length
    .omega
    grind) (λj h hj=>by
    have du:i≠j:=by grind
    rw[l8 (by rw[lD];exact hj),jZ du]) (.inr (by unfold sQ;rw[ho];simp only[hq])),?_⟩
   intro ψ Q A w next QQ p room hn';have iY:wK E s (E.eU o.dst (.v (.slice (C.P.cellsOf e) (some (s.length,0)) (n+m)))) (s.set i none++[some ⟨false,(cs.drop q0).take (n*C.P.cellsOf e)++ds⟩]) (.inl s.length):=⟨by simp[dU],by simp[dU]⟩;have hf:=room _ iY;have hv:=p.val my hd;generalize hy:A.eval y=v at hv;cases hv with
   |slice _ _ _ _ cb ad cap iK qG hb=>
    have y7:Q (.inl i) (.cells false cs):=p.jC (.inl i) _ cb (hD i) ca iK;have hh:=p.eL.holds _ cb _ iK y7;obtain⟨hl,new,h1,h2,h3⟩:=hX ψ Q A w p;have hlen:((cs.drop q0).take (n*C.P.cellsOf e)).length=n*C.P.cellsOf e:=by simp;omega
    have aeE:((cs.drop q0).take (n*C.P.cellsOf e)++ds).length=(n+m)*C.P.cellsOf e:=by rw[bz,hlen,kG,vk]
    have cS:((cs.drop q0).take (n*C.P.cellsOf e)++ds).all one=true:=by rw[rj,SY hh.2.1,h2];rfl
    have fin: ∀v' w' fM,(execOp A.eval o).run C.P w= .ok (.value v') w'->fa C (nW ψ (.inl s.length) fM) (Jc Q (.inl i) (.inl s.length) (.cells false ((cs.drop q0).take (n*C.P.cellsOf e)++ds))) w'->
      Ext ψ Q w (nW ψ (.inl s.length) fM) (Jc Q (.inl i) (.inl s.length) (.cells false ((cs.drop q0).take (n*C.P.cellsOf e)++ds))) w'->
      VR C (nW ψ (.inl s.length) fM) (.slice (C.P.cellsOf e) (some (s.length,0)) (n+m)) v'->o.wp C.P A w next QQ:=by
     intro v' w' fM dO zd uJ lx;unfold Oper.wp;rw[dO];refine hn' _ _ v' w' ⟨zd,uJ,λh c e'=>?_,λh ab c cr hw e'=>?_,λh ab c e' q' nw _=>?_⟩ (λd' oJ=>?_)
     .by_cases eh:h= .inl s.length
      .grind
      .rw[ow _ _ eh]at e';exact .inl e'
     .by_cases eh:h= .inl s.length
      .subst eh;exact .inl ⟨rfl,eX ab cr⟩
      .rw[ow _ _ eh]at e'
       have fq:h≠ .inl i/\CR E s h ab:=by
        cases h with
        |inl j=>
         obtain⟨a1,a2⟩:=hold j ab cr (λe=>eh (by rw[e]));exact⟨λe=>a1 (by cases e;rfl),a2⟩
        |inr x=>
         have oz:CR (E.eU o.dst (.v (.slice (C.P.cellsOf e) (some (s.length,0)) (n+m)))) s (.inr x) ab:=cr;exact⟨by simp,oz.eU rfl⟩
       refine .inr ⟨eh,fq.1,?_⟩;rcases hw with hw|⟨n1,n2⟩
       .exact p.jC h ab c (br h hw) fq.2 e'
       .exact absurd (fq.2.qD p.gJ) n1
     .cases h with
      |inl j=>exact .inr ⟨by grind,by grind,q'⟩
      |inr x=>exact .inr ⟨by simp,by simp,q'⟩
     .rw[Env.j5,bw oJ];exact lx
    by_cases oK:n+m<=cap
    .obtain⟨e1,e2⟩:=hb (by omega)
     have XV:(n+m)*C.P.cellsOf e<=cap*C.P.cellsOf e:=DN _ oK;rw[vk]at XV;obtain⟨w',hw,db,Ic⟩:=ZmJ (P:=C.P) (p:=q0+n*C.P.cellsOf e) (o':=q0) (cs':=(cs.drop q0).take (n*C.P.cellsOf e)++ds) hh h1 h2 (by rw[kG];omega) (by rw[aeE,vk];omega) cS (λj d oJ=>by
      by_cases hj:j<n*C.P.cellsOf e
      .rw[l8 (by omega),sL,bw hj,tM]at oJ
       grind
      .rw[jY (by omega),hlen]at oJ
       have tC:j-n*C.P.cellsOf e<ds.length:=by
        grind
       exact .inl ⟨by omega,by omega,by rw[show q0+j-(q0+n*C.P.cellsOf e)=j-n*C.P.cellsOf e by omega];exact oJ⟩)
     have dO:=ZjX (P:=C.P) h0 ht he hn o.type (some ad) n m cap (A.eval z) w w' new (hl w) oK (h3 w rfl) (λa' AO=>by
      cases AO;rw[e1,Ae,tO];exact hw) (λe=>by cases e)
     refine fin _ w' ⟨cb.b,cb.o+q0,cb.m-q0⟩ (hex A w _ _ (by rw[hy];exact dO)) (fa.move p.eL iK y7 rfl hf rfl db.other (Ic.same (λ_ _ e=>vt hf _ _ e) rfl))
      (Ext.move iK y7 rfl hf rfl (p.gr _ _ iK) db.other db.size db.tape db.os db.output) ?_
     exact VR.slice _ _ 0 _ _ _ _ (qi _ _ _) oK (λ_=>⟨by rw[e1];rfl,by simp only;omega⟩)
    .obtain⟨base,ahb,fq,H4,FM,IL,hra⟩:=LK p hD (p.val my hd) (.inl rfl) (k:=n) (n:=n*C.P.cellsOf e) rfl (aL _) (.inr ⟨i,q0,false,cs,rfl,ca,hle,rfl⟩)
     rw[hy]at H4;cases H4;have FM:=FM w.drew rfl;rw[hy]at FM;obtain⟨k,new,rest,hk,h1,h2,h3,dO⟩:=grow ψ Q A w p (some ad) cap fq hy (by omega) Bj FM;have cB:=h1.xT;have xM:=IL.xT;rw[hlen]at xM;have pR:gQ w (w.drew.alloc (.cells (fq++new++rest) e)):=(gQ.drew w).trans (gQ.alloc w.drew _);refine fin _ _ ⟨w.heap.size,0,(fq++new++rest).size⟩ dO ?_ ?_ ?_
     .refine fa.new (Q:=λk x=>k≠ .inl i/\Q k x) (p.eL.weaken λ_ _ _ _ q=>q.2) p.gr pR hf (aL _) ?_
      refine Ea (w:=w.drew) ?_ cS;have:(fq++new++rest).toList.take ((cs.drop q0).take (n*C.P.cellsOf e)++ds).length=fq.toList++new.toList:=by
       rw[bz,hlen,cB,xM];simp only[Array.toList_append];rw[N8 (by simp),dq (by simp)]
      rw[this];exact bE.append (IL.mono λ_ _ e=>vt hf _ _ e) (h1.mono λ_ _ e=>vt hf _ _ e)
     .exact(Ext.new (Q:=λk x=>k≠ .inl i/\Q k x) pR hf (aL _) (by simp)).agA λ_ _ q=>q.2
     .refine VR.slice _ _ 0 _ _ _ _ (qi _ _ _) hk (λ_=>⟨rfl,?_⟩)
      have:(fq++new++rest).size=fq.size+new.size+rest.size:=by simp[tO]
      simp only[this];rw[<-cB,<-xM,kG,h3,ej,<-vk,<-vk];exact DN _ (by omega)
end
section
variable {C:bB} {o:Oper} {D W:dD->Prop} {E:Env} {s:St} {md:Md} {pr ms:al}
theorem Xu {z:Operand} (h:q.args.toList=[y,z]):q.args= #[y,z]:=by rw[<-Array.toArray_toList (xs:=q.args),h]
theorem CE {x y:Nat} {a:ai} (h:(Nat.beq x y||a.isNone)=true):x=y\/a=none:=by
 rw[lz]at h;simp_all
theorem ZpY (x:ByteArray) (n:Nat) (w:World):
  ∃vs,(Builtin.firstCells 1 n (.string x)).run P w= .ok vs w/\bE C ψ (ZU (x.data.toList.take n)) vs.toList:=by
 refine⟨_,rfl,?_⟩;have:((x.extract 0 n).data.map λb=>Value.int .u8 b.toNat).toList=(x.data.toList.take n).map λb=>Value.int .u8 b.toNat:=by
  rw[Array.toList_map,ByteArray.data_extract,Array.toList_extract,N5];simp
 rw[this];exact ZkP _
theorem ZrK (hq:q.callee= .builtin .append) (ho:o.op= .call q) (br: ∀h,W h->D h) (hD: ∀i,D (.inl i)) (hW: ∀y z i p n,q.args.toList.head?=some y->E.src C y= .v (.slice z (some (i,p)) n)->W (.inl i)) (h:SF C E o K q.argTypes q.args s=some r):bY C md pr ms o D W E s K r:=by
 unfold SF at h;generalize ha:q.args.toList=l at h;generalize h0:q.argTypes[0]? =t0 at h;split at h
 .rename_i y z t
  unfold wT at h;cases ht:C.P.underlying t with
  |none=>rw[ht]at h;cases h
  |some td=>
   rw[ht]at h;cases td with
   |slice e=>
    simp only at h;obtain⟨ed,he,h⟩:=pD h;obtain⟨hn,h⟩:=ZuC h;cases hz:mP C.P e with
    |none=>rw[hz]at h;cases h
    |some zv=>
     rw[hz]at h;simp only at h;obtain⟨qU,h⟩:=G0 h;have qU:zv.length=C.P.cellsOf e:=dy (by simpa using qU);obtain⟨a,AU,h⟩:=Zt h;obtain⟨b,H7,h⟩:=Zt h;have j6:=Xu ha;have mz:z∈o.op.operands:=by rw[ho];simp[Op.operands,Call.operands,hq,j6]
     cases a with
     |slice w1 p1 n=>
      cases b with
      |slice w2 p2 m=>
       simp only at h;obtain⟨hw,h⟩:=Zp h;rw[aR]at hw;obtain⟨ds,h,kG,nJ⟩:=TE h;refine Ztd hq ho j6 h0 ht he hz qU hn br hD (by grind) AU (CE hw.1) kG (λψ Q A w p=>?_) h;obtain⟨base,cap,vs,e1,e2,e3,e4⟩:=LK p hD (p.val mz H7) (CE hw.2) (k:=m) rfl (aL _) nJ;exact⟨λw=>by rw[e1];rfl,vs,e3,e4,e2⟩
      |str l=>
       simp only at h;obtain⟨hw,h⟩:=Zp h;rw[aR]at hw;have cB:=dy hw.2;rw[<-cB]at h;refine Ztd hq ho j6 h0 ht he hz qU hn br hD (by grind) AU (by rw[cB];exact CE hw.1) (by rw[cB];simp) (λψ Q A w p=>?_) h;have hv:=p.val mz H7;generalize A.eval z=v at hv;cases hv with
       |str x=>
        have hx:x.data.toList.length=x.size:=by rw[lZ];rfl
        obtain⟨vs,e1,e2⟩:=ZpY (C:=C) (ψ:=ψ) (P:=C.P) x x.size w;rw[<-hx,dq (aL _)]at e2;refine⟨λw=>by rw[hx];rfl,vs,e2,Qd _,λw' vZ=>?_⟩;rw[cB,hx];cases e1;rfl
      |_=>cases h
     |_=>cases b<;>cases h
   |_=>cases h
 .cases h
theorem Ztt (cs:ah) (p:Nat):cw cs p []=cs:=by
 induction cs generalizing p with
 |nil=>cases p<;>rfl
 |cons c cs ih=>cases p with
  |zero=>rfl
  |succ p=>simp[cw,ih]
theorem ZtC {p:ai} {K:M β} (h:tl p ds K s=some r):
  (p=none/\ds=[]/\K s=some r)\/∃i q cs,p=some (i,q)/\s.gE i=some cs/\q+ds.length<=cs.length/\K (s.set i (some ⟨false,cw cs q ds⟩))=some r:=by
 cases p with
 |none=>
  simp only[tl]at h;obtain⟨h1,h⟩:=Zp h;simp_all
 |some iq=>
  obtain⟨i,q⟩:=iq;simp only[tl]at h;obtain⟨cs,h1,h2,h3⟩:=Zon h;grind
theorem ZkN {q cap k sz:Nat} {vs:List Value} (hb:0<cap->ad=⟨cb.b,cb.o+q,none⟩/\q+cap*sz<=cb.m) (hc:n<=cap) (hk:k<=n)
  (h:Holds C ψ w cb (.cells false cs)) (hr:bE C ψ ds vs) (h1:ds.all one=true) (hl:ds.length=k*sz) (hle:q+ds.length<=cs.length):
  ∃w',(storeCells ad vs).run C.P w= .ok () w'/\zQ w w' cb.b/\Holds C ψ w' cb (.cells false (cw cs q ds)):=by
 by_cases h0:ds.length=0
 .have hd:=wG.1 h0
  subst hd;cases hr;exact⟨w,rfl,⟨λ_ _=>rfl,rfl,rfl,rfl,.refl _⟩,by rw[Ztt];exact h⟩
 .have j9:0<k:=by
   grind
  obtain⟨e1,_⟩:=hb (by omega);rw[e1];exact KZ h hr h1 hle
theorem Zsg (h0:ts[0]? =some t) (ht:P.underlying t=some (.slice e)) (he:P.underlying e=some ed) (ty:TypeId)
  (base:Option Addr) (n m cap:Nat) (X:Value) (w w':World) (new:Array Value) (hX:(Builtin.lenOf X).run P w= .ok m w)
  (hf:(Builtin.firstCells (P.cellsOf e) (min m n) X).run P w= .ok new w) (hs: ∀a,base=some a->(storeCells a new.toList).run P w= .ok () w') (hb:base=none->w'=w):
  (Builtin.copy_ ts ty #[.slice base n cap,X]).run P w= .ok (.int .i64 (min (m:Int) n)) w':=by
 have Yn:((Nat.min m n:Nat):Int)=min (m:Int) n:=by grind
 have AX:(Builtin.firstCells (P.cellsOf e) (Nat.min m n) X).run P w= .ok new w:=hf;unfold Builtin.copy_;simp only[h0,JK,lB,qb,Sem.run_bind,Zl w ht,Result.andThen_ok,qj w he,hX,AX];cases base with
 |none=>have:=hb rfl;subst this;simp[goInt];exact Yn
 |some a=>simp[hs a rfl,goInt];exact Yn
theorem ZuE (hq:q.callee= .builtin .copy) (ho:o.op= .call q) (br: ∀h,W h->D h) (hW: ∀i,W (.inl i)) (h:TR C E o K q.argTypes q.args s=some r):bY C md pr ms o D W E s K r:=by
 unfold TR at h;generalize ha:q.args.toList=l at h;generalize h0:q.argTypes[0]? =t0 at h;split at h
 .rename_i y z t
  unfold wT at h;cases ht:C.P.underlying t with
  |none=>rw[ht]at h;cases h
  |some td=>
   rw[ht]at h;cases td with
   |slice e=>
    simp only at h;obtain⟨ed,he,h⟩:=pD h;obtain⟨a,AU,h⟩:=Zt h;obtain⟨b,H7,h⟩:=Zt h;have j6:=Xu ha;have my:y∈o.op.operands:=by rw[ho];simp[Op.operands,Call.operands,hq,j6]
    have mz:z∈o.op.operands:=by rw[ho];simp[Op.operands,Call.operands,hq,j6]
    have hex: ∀(A:Act) (w w':World) v,(Builtin.copy_ q.argTypes o.type #[A.eval y,A.eval z]).run C.P w= .ok v w'->(execOp A.eval o).run C.P w= .ok (.value v) w':=by
     intro A w w' v hv;simp[execOp,ho,resolve,hq,invoke,builtin,j6,hv]
    cases a with
    |slice w1 p1 n=>
     have core: ∀(m:Nat) (ds:ah),(w1=C.P.cellsOf e\/p1=none)->ds.length=min m n*C.P.cellsOf e->tl p1 ds (cy E o K (.int .i64 (min (m:Int) n))) s=some r->
       (∀ψ Q A w,aD C o D E s ψ Q A w->(Builtin.lenOf (A.eval z)).run C.P w= .ok m w/\∃vs,bE C ψ ds vs.toList/\ds.all one=true/\(Builtin.firstCells (C.P.cellsOf e) (min m n) (A.eval z)).run C.P w= .ok vs w)->
       bY C md pr ms o D W E s K r:=by
      intro m ds cG kG h hX;rcases ZtC h with⟨rfl,rfl,h⟩|⟨i,q0,cs,rfl,hi,hle,h'⟩
      .refine bY.val br _ h λψ Q A w p=>?_
       obtain⟨hl,vs,h1,h2,h3⟩:=hX ψ Q A w p;have hv:=p.val my AU;generalize hy:A.eval y=v at hv;cases hv;exact⟨_,w,hex A w w _ (by rw[hy];exact Zsg h0 ht he o.type none 0 m 0 (A.eval z) w w vs hl h3 (λ_ h=>by cases h) (λ_=>rfl)),.refl w,.int _ _⟩
      .have cG:w1=C.P.cellsOf e:=by grind
       subst cG;refine bY.WV br (hW _) (.v (.int .i64 (min (m:Int) n))) rfl (λ_ _ _ _ h=>by cases h) hi h' λψ Q A w p=>?_
       have hv:=p.val my AU;generalize hy:A.eval y=v at hv;cases hv with
       |slice _ _ _ _ cb ad cap iK qG hb=>
        refine⟨cb,iK,λhh=>?_⟩;obtain⟨hl,vs,h1,h2,h3⟩:=hX ψ Q A w p;obtain⟨w',e1,e2,e3⟩:=ZkN hb qG (Nat.min_le_right m n) hh h1 h2 kG hle;exact⟨_,w',.inl (hex A w w' _ (by rw[hy];exact Zsg h0 ht he o.type (some ad) n m cap (A.eval z) w w' vs hl h3 (by grind) (λh=>by cases h))),e2,e3,.int _ _⟩
     cases b with
     |slice w2 p2 m=>
      simp only at h;obtain⟨hw,h⟩:=Zp h;rw[aR]at hw;obtain⟨ds,h,kG,nJ⟩:=TE h;refine core m ds (CE hw.1) kG h λψ Q A w p=>?_
      obtain⟨base,cap,vs,e1,e2,e3,e4⟩:=LK p (λi=>br _ (hW i)) (p.val mz H7) (CE hw.2) (k:=min m n) rfl (Nat.min_le_left _ _) nJ;exact⟨by rw[e1];rfl,vs,e3,e4,e2 w rfl⟩
     |str l=>
      simp only at h;obtain⟨hw,h⟩:=Zp h;rw[aR]at hw;have cB:=dy hw.2;refine core l.length (ZU (l.take n)) (by rw[cB];exact CE hw.1) (by rw[cB];simp[Nat.min_comm]) h λψ Q A w p=>?_
      have hv:=p.val mz H7;generalize A.eval z=v at hv;cases hv with
      |str x=>
       have hx:x.data.toList.length=x.size:=by rw[lZ];rfl
       obtain⟨vs,e1,e2⟩:=ZpY (C:=C) (ψ:=ψ) (P:=C.P) x (min x.data.toList.length n) w;refine⟨by rw[hx];rfl,vs,?_,Qd _,by rw[cB];exact e1⟩;grind
     |_=>cases h
    |_=>cases b<;>cases h
   |_=>cases h
 .cases h
theorem ZsF (hq:q.callee= .builtin .clear) (ho:o.op= .call q) (br: ∀h,W h->D h) (hW: ∀i,W (.inl i)) (h:TA C E o K q.argTypes q.args s=some r):bY C md pr ms o D W E s K r:=by
 unfold TA at h;generalize ha:q.args.toList=l at h;generalize h0:q.argTypes[0]? =t0 at h;split at h
 .rename_i y t
  unfold wT at h;cases ht:C.P.underlying t with
  |none=>rw[ht]at h;cases h
  |some td=>
   rw[ht]at h;cases td with
   |slice e=>
    simp only at h;obtain⟨a,AU,h⟩:=Zt h;have j6:q.args= #[y]:=by rw[<-Array.toArray_toList (xs:=q.args),ha]
    have my:y∈o.op.operands:=by rw[ho];simp[Op.operands,Call.operands,hq,j6]
    have hex: ∀(A:Act) (w w':World),(Builtin.clear_ q.argTypes o.type #[A.eval y]).run C.P w= .ok (.tuple #[]) w'->(execOp A.eval o).run C.P w= .ok (.value (.tuple #[])) w':=by
     intro A w w' hv;simp[execOp,ho,resolve,hq,invoke,builtin,j6,hv]
    cases a with
    |slice w1 p1 n=>
     cases hz:mP C.P e with
     |none=>rw[hz]at h;cases h
     |some z=>
      rw[hz]at h;simp only at h;obtain⟨hw,h⟩:=Zp h;rw[aR]at hw;have qU:=dy hw.2;rcases ZtC h with⟨rfl,Yr,h⟩|⟨i,q0,cs,rfl,hi,hle,h'⟩
      .refine bY.pure br (.p9 []) rfl (λ_ _ _ _ h=>by cases h) h λψ Q A w p=>?_
       have hv:=p.val my AU;generalize hy:A.eval y=v at hv;cases hv;exact⟨.tuple #[],w,hex A w w (by rw[hy];simp[Builtin.clear_,h0,Zl w ht]),.refl w,_,rfl,.nil⟩
      .have cG:w1=C.P.cellsOf e:=by rcases CE hw.1 with h|h;exact h;cases h
       subst cG;refine bY.WV br (hW _) (.p9 []) rfl (λ_ _ _ _ h=>by cases h) hi h' λψ Q A w p=>?_
       have hv:=p.val my AU;generalize hy:A.eval y=v at hv;cases hv with
       |slice _ _ _ _ cb ad cap iK qG hb=>
        refine⟨cb,iK,λhh=>?_⟩;obtain⟨zv,I4,FU,hZ⟩:=Ro (P:=C.P) w hz;have Np:=(FU C ψ).xT;have Ir:=Sy (FU C ψ) n (n*zv.cells.size) (by rw[Np];exact aL _);rw[G9 (by simp[size_madeCells,Em,Np])]at Ir;obtain⟨w',e1,e2,e3⟩:=ZkN hb qG (aL n) hh Ir (Ey hZ) (by rw[Em,qU]) hle;refine⟨.tuple #[],w',.inl (hex A w w' ?_),e2,e3,_,rfl,.nil⟩;rw[hy];have xo:(storeCells ad (Builtin.zeroCells zv.cells n).toList).run C.P w= .ok () w':=e1;cases n with
        |zero=>
         have:w'=w:=by
          have e4:(madeCells zv.cells (0*zv.cells.size)).toList=[]:=by simp[madeCells,Array.range_zero']
          rw[e4]at e1;cases e1;rfl
         subst this;simp[Builtin.clear_,h0,Zl _ ht]
        |succ n=>
         simp[Builtin.clear_,h0,Zl _ ht,I4,xo]
    |_=>cases h
   |_=>cases h
 .cases h
end
def CS (s:St):Kn:=λh ab=>∃i,h= .inl i/\dc s i=some ab
def zP (C:bB) (ψ:Ps) (ds:ah) (v:Value):Prop:=(∃d,ds=[d]/\VR C ψ d v)\/(ds.length≠1/\∃vs,v= .tuple vs/\bE C ψ ds vs.toList)
structure jm (C:bB) (ψ:Ps) (s:St) (w:World) (ψ':Ps) (s':St) (w':World):Prop where
 eL:fa C ψ' (CS s') w'
 ext:Ext ψ (CS s) w ψ' (CS s') w'
 news: ∀h cb,ψ' h=some cb->ψ h=some cb\/∃i,h= .inl i/\s.length<=i/\i<s'.length
def yx (P:Program) (f:FuncId) (vs:Array Value) (w:World) (R:Ending->World->Prop):Prop:=
 match (callFunc f vs).run P w with
 | .ok (.enter f' as) w'=>Calls P f' as w' R
 | .ok (.value v) w'=>R (.returned v) w'
 |_=>False
def Zyu (C:bB) (g:Nat) (args:ah) (s:St) (out:Out ah×St):Prop:=
 s.length<=out.2.length/\
 ∀f,C.cov f=true->C.fn f=g->∀ψ w vs,fa C ψ (CS s) w->rz ψ w->Glob C ψ->bE C ψ args vs->(∀v,ψ (.inr v)=none)->(∀i,s.length<=i->i<out.2.length->ψ (.inl i)=none)->
  yx C.P f vs.toArray w λ
   | .returned v,w'=>∃ds,out.1= .val ds/\∃ψ',jm C ψ s w ψ' out.2 w'/\zP C ψ' ds v
   | .panicked ch,w'=>oi ch/\out.1= .eZ/\∃ψ',jm C ψ s w ψ' out.2 w'
   | .outgrown,_=>False
def ZQ (C:bB) (c:Zf):Prop:=∀g args s out,c g args s=some out->Zyu C g args s out
def na (ψ:Ps):Ps
 | .inl i=>ψ (.inl i)
 | .inr _=>none
def xY (ψ jV:Ps):Ps
 | .inl i=>jV (.inl i)
 | .inr v=>ψ (.inr v)
def NI (s':St) (Q:Kn):Kn:=λh ab=>CS s' h ab\/(Q h ab/\∀i,h= .inl i->s'.length<=i)
section
variable {C:bB} {ψ jV:Ps} {Q:Kn} {s s':St} {w w':World}
theorem Ed (e:na ψ h=some cb):ψ h=some cb/\∃i,h= .inl i:=by
 cases h with
 |inl i=>exact⟨e,i,rfl⟩
 |inr v=>cases e
theorem Zq2 {vs:List Value} (h:bE C ψ ds vs):bE C (na ψ) ds vs:=h.mono (ψ:=ψ) (ψ':=na ψ) λ_ _ e=>e
theorem Zr9 (h:fa C ψ Q w) (hk: ∀i ab cb,dc s i=some ab->ψ (.inl i)=some cb->Q (.inl i) ab):fa C (na ψ) (CS s) w:=by
 constructor
 .intro k cb ab e q
  obtain⟨e,i,rfl⟩:=Ed e;obtain⟨_,hi,q⟩:=q;cases hi;exact(h.holds _ cb ab e (hk i ab cb q e)).same (ψ:=ψ) (ψ':=na ψ) (λ_ _ e=>e) rfl
 .intro k cb ab k' fM cR e q hs e' q' hn
  obtain⟨e,i,rfl⟩:=Ed e;obtain⟨e',i',rfl⟩:=Ed e';obtain⟨_,hi,q⟩:=q;cases hi;obtain⟨_,hi,q'⟩:=q';cases hi;exact h.tq _ cb ab _ fM cR e (hk i ab cb q e) hs e' (hk i' cR fM q' e') hn
theorem frame (h:fa C ψ Q w) (hb:rz ψ w) (hk: ∀i ab cb,dc s i=some ab->ψ (.inl i)=some cb->Q (.inl i) ab) (hlen:s.length<=s'.length)
  (hc:jm C (na ψ) s w jV s' w'):fa C (xY ψ jV) (NI s' Q) w'/\Ext ψ Q w (xY ψ jV) (NI s' Q) w':=by
 have mono: ∀k cb,ψ k=some cb->xY ψ jV k=some cb:=by
  intro k cb e;cases k with
  |inl i=>exact hc.ext.mono (.inl i) cb e
  |inr v=>exact e
 have NP: ∀b,tX (na ψ) (CS s) b->∃i cb ab,ψ (.inl i)=some cb/\dc s i=some ab/\Q (.inl i) ab/\ab.gO=true/\cb.b=b:=by
  rintro b ⟨k,cb,ab,e,⟨i,rfl,q⟩,hs,hb⟩;exact⟨i,cb,ab,e,q,hk i ab cb q e,hs,hb⟩
 have aap: ∀b,tX (na ψ) (CS s) b->tX ψ Q b:=by
  intro b hs;obtain⟨i,cb,ab,e,_,q,hs,hb⟩:=NP b hs;exact⟨_,cb,ab,e,q,hs,hb⟩
 have EZ: ∀k cb ab,xY ψ jV k=some cb->Q k ab->(∀i,k= .inl i->s'.length<=i)->ψ k=some cb/\¬tX (na ψ) (CS s) cb.b/\cb.b<w.heap.size:=by
  intro k cb ab e q hf;have e':ψ k=some cb:=by
   cases k with
   |inr v=>exact e
   |inl i=>
    rcases hc.news _ _ e with e|⟨j,hj,_,ax⟩
    .exact e
    grind
  refine⟨e',λhs=>?_,hb _ _ e'⟩;obtain⟨i,cb0,ab0,e0,q0,qq,IM,AR⟩:=NP _ hs;have du:(Sum.inl i:dD)≠k:=by
   rintro rfl;have h1:=hf i rfl;have h2:=Cs q0;omega
  exact h.tq _ cb0 ab0 _ cb ab e0 qq IM e' q du AR.symm
 refine⟨⟨?_,?_⟩,⟨mono,?_,hc.ext.size,?_,?_,?_,hc.ext.tape,hc.ext.os,hc.ext.output⟩⟩
 .intro k cb ab e q
  rcases q with⟨i,rfl,q⟩|⟨q,hf⟩
  .exact(hc.eL.holds (.inl i) cb ab e ⟨i,rfl,q⟩).same (ψ:=jV) (ψ':=xY ψ jV) (λ_ _ e=>e) rfl
  .obtain⟨e1,e2,e3⟩:=EZ k cb ab e q hf
   exact(h.holds k cb ab e1 q).same (λi cb e=>mono _ _ e) (hc.ext.jB _ e3 e2)
 .intro k cb ab k' fM cR e q hs e' q' hn
  rcases q with⟨i,rfl,q⟩|⟨q,hf⟩<;>rcases q' with⟨i',rfl,q'⟩|⟨q',AX⟩
  .exact hc.eL.tq (.inl i) cb ab (.inl i') fM cR e ⟨i,rfl,q⟩ hs e' ⟨i',rfl,q'⟩ hn
  .obtain⟨e1,e2,e3⟩:=EZ k' fM cR e' q' AX
   rcases hc.ext.gO cb.b ⟨.inl i,cb,ab,e,⟨i,rfl,q⟩,hs,rfl⟩with h1|h1
   .grind
   .omega
  .obtain⟨e1,e2,e3⟩:=EZ k cb ab e q hf
   rcases hc.ext.sD (.inl i') fM e' with h1|⟨h1,_⟩
   .obtain⟨y,i2,Ig,hy⟩:=hc.ext.live (.inl i') fM cR h1 ⟨i',rfl,q'⟩
    cases Ig;exact h.tq k cb ab (.inl i') fM y e1 q hs h1 (hk i' y fM hy h1) hn
   grind
  .obtain⟨e1,_,_⟩:=EZ k cb ab e q hf
   obtain⟨xo,_,_⟩:=EZ k' fM cR e' q' AX;exact h.tq k cb ab k' fM cR e1 q hs xo q' hn
 .intro k cb e
  cases k with
  |inr v=>exact .inl e
  |inl i=>
   rcases hc.ext.sD (.inl i) cb e with h1|⟨h1,h2⟩
   .exact .inl h1
   grind
 .intro b ep hn
  exact hc.ext.jB b ep λhs=>hn (aap b hs)
 .rintro b ⟨k,cb,ab,e,q,hs,ep⟩
  rcases q with⟨i,rfl,q⟩|⟨q,hf⟩
  .exact(hc.ext.gO b ⟨.inl i,cb,ab,e,⟨i,rfl,q⟩,hs,ep⟩).imp (aap b) id
  .obtain⟨e1,_,_⟩:=EZ k cb ab e q hf
   exact .inl ⟨k,cb,ab,e1,q,hs,ep⟩
 .intro k cb x e q
  rcases q with⟨i,rfl,q⟩|⟨q,_⟩
  .obtain⟨y,i2,Ig,hy⟩:=hc.ext.live (.inl i) cb x e ⟨i,rfl,q⟩
   grind
  .exact⟨x,q⟩
end
section
variable {C:bB} {o:Oper} {D W:dD->Prop} {E:Env} {s:St} {md:Md} {pr ms:al}
theorem Zoh {m:M ah} {K:ah->M β} (h:Mf md m K s=some r):
  (∃ds s1,m s=some (.val ds,s1)/\K ds s1=some r/\(2<=md.x->St.Ub s s1))\/(md.x=0/\∃s1,m s=some (.eZ,s1)/\r=(.eZ,s1)):=by
 unfold Mf at h;cases hx:md.x with
 |zero=>
  rw[hx]at h;simp only[c9]at h;grind
 |succ n=>
  cases n with
  |zero=>
   rw[hx]at h;simp only[tk]at h;grind
  |succ n=>
   rw[hx]at h;simp only[rR]at h;grind
theorem Ee {m:M ah} : ∀ {bs:al} {o:Out ah} {s1:St},EO E bs m s=some (o,s1)->
  m s=some (o,s1)/\∀ds,o= .val ds->∀b∈bs,∃j p,E.get b= .v (.ptr (some (j,p)))/\s1[j]? =s[j]?
 |[],_,_,h=>⟨h,λ_ _ b hb=>by cases hb⟩
 |b::bs,o,s1,h=>by
  unfold EO at h;cases he:E.get b with
  |v d=>
   rw[he]at h;cases d with
   |ptr a=>
    cases a with
    |none=>cases h
    |some jq=>
     obtain⟨j,q'⟩:=jq;simp only[Xp]at h;cases hm:EO E bs m s with
     |none=>rw[hm]at h;cases h
     |some p=>
      obtain⟨o1,s2⟩:=p;rw[hm]at h;cases o1 with
      |val ds=>
       simp only at h;split at h
       .rename_i hk
        cases h;obtain⟨h1,h2⟩:=Ee hm;grind
       .cases h
      |eZ=>
       simp only at h;cases h;exact⟨(Ee hm).1,λlO e=>by cases e⟩
   |_=>cases h
  |_=>rw[he]at h;cases h
theorem KO {f:Operand} (hq:q.callee= .value f) (ho:o.op= .call q) (br: ∀h,W h->D h) (hD: ∀i,D (.inl i))
  {c:Zf} (hc:ZQ C c) {as:ah} (hf:E.src C f= .v (.func g fs cs)) (has:SV C E q.args.toList as)
  {out:Out ah} (tt:c g (fs++as++cs) s=some (out,s1)) (hW: ∀ds,out= .val ds->∀i,W (.inl i)\/(i<s.length->s1[i]? =s[i]?)):
  (out= .eZ->wL C o D E s s1)/\
  (∀ds e,out= .val ds->e.cX=none->(∀r v n,e≠ .pl r v n)->(∀ψ v,zP C ψ ds v->fy C ψ e v)->mg W pr ms o E s (E.eU o.dst e) s1/\BX C o D W E s (E.eU o.dst e) s1):=by
 have ok:=hc g _ s _ tt;have hlen:s.length<=s1.length:=ok.1;have mf:f∈o.op.operands:=by rw[ho];simp[Op.operands,Call.operands,hq]
 have ma: ∀x∈q.args.toList,x∈o.op.operands:=by intro x hx;rw[ho];simp only[Op.operands,Call.operands,hq];grind
 have sem: ∀ψ Q (A:Act) (w:World) (next:Act->World->Prop) (QQ:Exit->Act->World->Prop),aD C o D E s ψ Q A w->(∀i,s.length<=i->i<s1.length->ψ (.inl i)=none)->
   (∀ds v w' jV,out= .val ds->jm C (na ψ) s w jV s1 w'->zP C jV ds v->next (A.put o.dst v) w')->(∀ch w' jV,oi ch->out= .eZ->jm C (na ψ) s w jV s1 w'->QQ (.panic ch) A w')->o.wp C.P A w next QQ:=by
  intro ψ Q A w next QQ p room hv hp;have hfv:=p.val mf hf;generalize sd:A.eval f=v at hfv;cases hfv with
  |func k _ _ vf vc vL h1 h2=>
   have h3:=Ha p ma has;have j6:bE C (na ψ) (fs++as++cs) (vf.toList++q.args.toList.map A.eval++vc.toList):=Zq2 (bE.append (bE.append h1 h3) h2);have:=ok.2 k vL rfl (na ψ) w _ (Zr9 p.eL λi ab cb h e=>p.jC (.inl i) ab cb (hD i) h e) (λh cb e=>p.gr h cb (Ed e).1)
    (λg hg=>let ⟨cb,e1,e2⟩:=p.kF g hg;⟨cb,e1,e2⟩) j6 (λ_=>rfl) (λi h1 h2=>room i h1 h2)
   have mZ:(vf.toList++q.args.toList.map A.eval++vc.toList).toArray=vf++q.args.map A.eval++vc:=by
    apply Array.ext';simp
   rw[mZ]at this;have hex:(execOp A.eval o).run C.P w=(callFunc k (vf++q.args.map A.eval++vc)).run C.P w:=by
    simp[execOp,ho,resolve,hq,sd,Deferred.ofValue,invoke]
   unfold Oper.wp;rw[hex];unfold yx at this;split at this
   .rename_i f' as' w' hr
    rw[hr];refine Calls.mono this λe wB he=>?_
    grind
   .rename_i v w' hr
    rw[hr];obtain⟨ds,e1,jV,e2,e3⟩:=this;exact hv ds v w' jV e1 e2 e3
   .exact this.elim
 refine⟨λDa=>⟨hlen,λψ Q A w next QQ p room hn=>?_⟩,λds e Da xP lr YH=>⟨mg.put pr ms e xP (by grind) hlen (λi ab h=>?_) (λi h hi=>?_) (.inr (by grind[sQ])),λψ Q A w next QQ p room hn=>?_⟩⟩
 .have NN: ∀i,s.length<=i->i<s1.length->ψ (.inl i)=none:=λi h1 h2=>room (.inl i) ⟨ym.2 h1,h2⟩
  have hk: ∀i ab cb,dc s i=some ab->ψ (.inl i)=some cb->Q (.inl i) ab:=λi ab cb h e=>p.jC (.inl i) ab cb (hD i) h e
  refine sem ψ Q A w next QQ p NN (by grind) λch w' jV tx _ ID=>?_
  obtain⟨f1,f2⟩:=frame p.eL p.gr hk hlen ID;refine hn (xY ψ jV) (NI s1 Q) ch w' tx f1 f2 (λh cb e=>?_) λi ab cb h e=> .inl ⟨i,rfl,h⟩
  cases h with
  |inr v=>exact .inl e
  |inl i=>
   rcases ID.news _ _ e with e|⟨j,hj,h1,h2⟩
   .exact .inl e
   .cases hj;exact .inr ⟨ym.2 h1,h2⟩
 .grind[dc]
 .grind
 .have NN: ∀i,s.length<=i->i<s1.length->ψ (.inl i)=none:=λi h1 h2=>room (.inl i) ⟨ym.2 h1,h2⟩
  have hk: ∀i ab cb,dc s i=some ab->ψ (.inl i)=some cb->Q (.inl i) ab:=λi ab cb h e=>p.jC (.inl i) ab cb (hD i) h e
  refine sem ψ Q A w next QQ p NN (λlO v w' jV h ID hr=>?_) (by grind);rw[Da]at h;cases h;obtain⟨f1,f2⟩:=frame p.eL p.gr hk hlen ID;have mB:zP C (xY ψ jV) ds v:=by
   rcases hr with⟨d,e1,e2⟩|⟨e1,vs,e2,e3⟩
   .exact .inl ⟨d,e1,e2.mono (ψ:=jV) (ψ':=xY ψ jV) λ_ _ e=>e⟩
   .exact .inr ⟨e1,vs,e2,e3.mono (ψ:=jV) (ψ':=xY ψ jV) λ_ _ e=>e⟩
  refine hn (xY ψ jV) (NI s1 Q) v w' ⟨f1,f2,λh cb e=>?_,λh ab cb cr hw e'=>?_,λh ab cb e' q' nw dm=>?_⟩ (λd' oJ=>?_)
  .cases h with
   |inr v=>exact .inl e
   |inl i=>
    rcases ID.news _ _ e with e|⟨j,hj,h1,h2⟩
    .exact .inl e
    .cases hj;exact .inr ⟨ym.2 h1,h2⟩
  .cases h with
   |inl i=>exact .inl ⟨i,rfl,cr⟩
   |inr x=>
    rcases hw with hw|⟨n1,n2⟩
    .have oz:CR (E.eU o.dst e) s (.inr x) ab:=cr
     exact .inr ⟨p.jC (.inr x) ab cb (br _ hw) (oz.eU xP) e',λi hi=>by cases hi⟩
    grind[dU,Env.FW]
  .cases h with
   |inr x=>exact .inr (by grind)
   |inl i=>
    rcases jH i s.length with hi|hi
    .rcases hW ds Da i with h'|h'
     .exact absurd h' nw
     .have h1:dc s i=some ab:=dm (hD i) hi
      exact .inl ⟨i,rfl,by grind[dc]⟩
    .rcases jH i s1.length with Ft|Ft
     .rw[NN i hi Ft]at e';cases e'
     .exact .inr (by grind)
  grind[Env.j5]
theorem ZtS {f:Operand} (hq:q.callee= .value f) (ho:o.op= .call q) (br: ∀h,W h->D h) (hD: ∀i,D (.inl i)) (hW: ∀i,W (.inl i)\/2<=md.x\/∃b∈md.bs,∀j p,E.get b= .v (.ptr (some (j,p)))->j=i)
  {c:Zf} (hc:ZQ C c) (h:TT C E o K md c f q.args s=some r):bY C md pr ms o D W E s K r:=by
 unfold TT at h;obtain⟨fv,hf,h⟩:=Zt h;obtain⟨as,h,has⟩:=GN h;have hW': ∀(s1:St),(2<=md.x->St.Ub s s1)->(∀b∈md.bs,∃j p,E.get b= .v (.ptr (some (j,p)))/\s1[j]? =s[j]?)->∀i,W (.inl i)\/(i<s.length->s1[i]? =s[i]?):=λs1 hb hk i=>by
  rcases hW i with h|h|⟨b,mU,cV⟩
  .exact .inl h
  .obtain⟨x,rfl⟩:=hb h
   grind
  grind
 cases fv with
 |func g fs cs=>
  simp only at h;generalize aam C.P o.type=ro at h;obtain⟨many,Jv⟩:=ro;cases many with
  |true=>
   simp only at h;obtain⟨h1,h⟩:=G0 h;have h1:=JP h1;rcases Zoh h with⟨ds,s1,hm,h,hb⟩|⟨hx,s1,hm,rfl⟩
   .obtain⟨lO,h,hl,mW,hr⟩:=GX h
    obtain⟨hm,hk⟩:=Ee hm;obtain⟨e1,e2⟩:=(KO (pr:=pr) (ms:=ms) hq ho br hD hc hf has hm (by grind)).2 ds (.p9 lO) rfl rfl (λ_ _ _ h=>by cases h) (λψ v hv=>by
     rcases hv with⟨d,e,_⟩|⟨_,vs,e,e'⟩
     .rw[e]at hl;simp at hl;omega
     .exact⟨vs,e,hr C ψ _ e'⟩)
    exact .inl ⟨_,s1,h,e1,e2⟩
   .exact .inr ⟨hx,s1,rfl,(KO (pr:=pr) (ms:=ms) hq ho br hD hc hf has (Ee hm).1 (λds e=>by cases e)).1 rfl⟩
  |false=>
   simp only at h;rcases Zoh h with⟨ds,s1,hm,h,hb⟩|⟨hx,s1,hm,rfl⟩
   .obtain⟨lO,h,hl,mW,hr⟩:=GX h
    cases lO with
    |nil=>cases h
    |cons d rest=>
     cases rest with
     |cons _ _=>cases h
     |nil=>
      simp only at h;obtain⟨hm,hk⟩:=Ee hm;obtain⟨e1,e2⟩:=(KO (pr:=pr) (ms:=ms) hq ho br hD hc hf has hm (by grind)).2 ds (.v d) rfl rfl (λ_ _ _ h=>by cases h) (λψ v hv=>by
       rcases hv with⟨d0,e,CT⟩|⟨e,_⟩
       .subst e
        have:=hr C ψ [v] (.cons _ _ _ _ CT .nil);cases this with
        |cons _ _ _ _ a _=>exact a
       grind)
      exact .inl ⟨_,s1,h,e1,e2⟩
   .exact .inr ⟨hx,s1,rfl,(KO (pr:=pr) (ms:=ms) hq ho br hD hc hf has (Ee hm).1 (λds e=>by cases e)).1 rfl⟩
 |_=>cases h
end
def Oe (h:dD):Prop:=∃i,h= .inl i
def Oj (E:Env) (r:Nat) (h:dD):Prop:=∃v,h= .inr v/\(E.get r).cX=some v
def pA:Md->Env->dD->Prop
 | .s,_,_=>True
 | .d .pure _,_,_=>False
 | .d (.wv r) _,E,h=>Oj E r h
 | .d (.oX r) _,E,h=>Oj E r h
 | .d (.lp a) _,E,h=>∃i p,E.get a= .v (.ptr (some (i,p)))/\h= .inl i
 | .d _ _,_,h=>Oe h
def mM:Md->Env->dD->Prop
 | .s,_,_=>True
 | .d .wr _,_,h=>Oe h
 | .d .call x,_,h=>x<2/\Oe h
 | .d (.oX r) _,E,h=>Oj E r h
 | .d (.ap bs) _,E,h=>∃i,h= .inl i/\∀b∈bs,∃j p,E.get b= .v (.ptr (some (j,p)))/\j≠i
 | .d _ _,_,_=>False
theorem Ly (md:Md) (E:Env) (h:dD) (w:mM md E h):pA md E h:=by
 cases md with
 |s=>trivial
 |d k x=>cases k<;>first|exact w|exact w.2|exact w.elim|(obtain⟨i,e,_⟩:=w;exact⟨i,e⟩)
variable {X:M β}
section
variable {C:bB} {o:Oper} {E:Env} {s:St} {md:Md} {pr ms:al}
theorem ZrM {a:Operand} (ho:o.op= .load t a):cls P pr ops o= .hp\/(∃b,a= .tmp b/\cls P pr ops o= .lp b)\/∃r,cls P pr ops o= .wv r:=by
 grind[cls]
theorem Zqd {a:Operand} (ho:o.op= .store t a y):cls P pr ops o= .wr\/cls P pr ops o= .ap []\/∃r,cls P pr ops o= .oX r:=by
 grind[cls]
theorem RX {E:Env} {p:ai} {X:M β} {r:Out β×St} : ∀ {bs:al},HI E p bs X s=some r->X s=some r/\∀b∈bs,∀i q,p=some (i,q)->∃j q',E.get b= .v (.ptr (some (j,q')))/\j≠i
 |[],h=>⟨h,λb hb=>by cases hb⟩
 |b::bs,h=>by
  unfold HI at h;cases he:E.get b with
  |v d=>
   rw[he]at h;cases d with
   |ptr a=>
    cases a with
    |none=>cases h
    |some jq=>
     obtain⟨j,q'⟩:=jq;simp only at h;obtain⟨h1,h⟩:=lL h;obtain⟨h,h2⟩:=RX h;refine⟨h,λb' ep i q hp=>?_⟩;rcases dC.1 ep with rfl|ep
     .refine⟨j,q',he,?_⟩
      rw[hp]at h1;unfold apart at h1;rintro rfl;simp at h1
     grind
   |_=>cases h
  |_=>rw[he]at h;cases h
theorem ZwZ {bs:al} (h:T3 C E bs as X s=some r):
  X s=some r/\∀y z i q n,as.toList.head?=some y->E.src C y= .v (.slice z (some (i,q)) n)->∀b∈bs,∃j q',E.get b= .v (.ptr (some (j,q')))/\j≠i:=by
 unfold T3 at h;cases bs with
 |nil=>grind
 |cons b r=>
  simp only at h;cases hy:as.toList with
  |nil=>rw[hy]at h;cases h
  |cons y ys=>
   rw[hy]at h;simp only at h;obtain⟨d,hd,h⟩:=Zt h;cases d with
   |slice z p n=>
    obtain⟨h1,h2⟩:=RX h;grind
   |_=>cases h
theorem ZwL {bs:al} {a:Operand} (h:WX C E bs a X s=some r):
  X s=some r/\∀i q,E.src C a= .v (.ptr (some (i,q)))->∀b∈bs,∃j q',E.get b= .v (.ptr (some (j,q')))/\j≠i:=by
 unfold WX at h;cases bs with
 |nil=>grind
 |cons b r=>
  simp only at h;cases he:E.src C a with
  |v d=>
   rw[he]at h;cases d with
   |ptr p=>
    obtain⟨h1,h2⟩:=RX h;grind
   |_=>cases h
  |_=>rw[he]at h;cases h
theorem Te (hC:og C) {c:Zf} (hc:ZQ C c) (kI:md= .s\/∃x k m,md= .d (va pr ops k m (cls C.P pr ops o)) x) (h:ft C pr ms md c o E K s=some r):
  bY C md pr ms o (pA md E) (mM md E) E s K r:=by
 have br: ∀h,mM md E h->pA md E h:=Ly md E;unfold ft at h;cases ho:o.op with
 |move y=>rw[ho]at h;exact Znz (.inl ho) br h
 |assign y=>rw[ho]at h;exact Znz (.inr ho) br h
 |pick b y z=>rw[ho]at h;exact Zui ho br h
 |alloc t=>rw[ho]at h;exact ZsD ho br h
 |box t y=>rw[ho]at h;exact ZvE ho br h
 |build t ps=>rw[ho]at h;exact ZsL ho br h
 |buildSlice t n ps=>rw[ho]at h;exact Zm3 ho br h
 |load t a=>
  rw[ho]at h;refine Zuu ho br ?_ ?_ h
  .intro r v hm hv
   rcases kI with rfl|⟨x,k,m,rfl⟩
   .trivial
   .rcases ZrM (P:=C.P) (pr:=pr) (ops:=ops) ho with e|⟨b,_,e⟩|⟨q,e⟩<;>rw[e]at hm⊢
    .cases hm
    .cases hm
    .have:q=r:=dy hm
     subst this;exact⟨v,rfl,hv⟩
  .intro hm i p0 hx
   rcases kI with rfl|⟨x,k,m,rfl⟩
   .trivial
   .rcases ZrM (P:=C.P) (pr:=pr) (ops:=ops) ho with e|⟨b,hb,e⟩|⟨q,e⟩<;>rw[e]at hm⊢
    .exact⟨i,rfl⟩
    .rw[hb]at hx
     have hx:E.get b= .v (.ptr (some (i,p0))):=by
      grind[Env.src]
     exact⟨i,p0,hx,rfl⟩
    .cases hm
 |store t a y=>
  rw[ho]at h;simp only at h;obtain⟨hd,h⟩:=Zp h;obtain⟨h,ca⟩:=ZwL h;refine ZsR ho (by simpa using hd) br ?_ ?_ h
  .intro r v hm hv
   rcases kI with rfl|⟨x,k,m,rfl⟩
   .trivial
   .rcases Zqd (P:=C.P) (pr:=pr) (ops:=ops) ho with e|e|⟨q,e⟩<;>rw[e]at hm⊢
    .cases hm
    .cases hm
    .have:q=r:=dy hm
     subst this;exact⟨v,rfl,hv⟩
  .intro hm i p hx
   rcases kI with rfl|⟨x,k,m,rfl⟩
   .trivial
   .rcases Zqd (P:=C.P) (pr:=pr) (ops:=ops) ho with e|e|⟨q,e⟩<;>rw[e]at hm ca⊢
    .exact⟨i,rfl⟩
    .exact⟨i,rfl,ca i p hx⟩
    .cases hm
 |nilCheck y=>rw[ho]at h;exact ZoQ ho br h
 |binOp op t y z u=>rw[ho]at h;exact ZvO hC ho br h
 |unOp op t y=>rw[ho]at h;exact ZwN ho br h
 |convert t u y=>
  rw[ho]at h;refine Zql ho br (λi=>?_) h;rcases kI with rfl|⟨x,k,m,rfl⟩
  .trivial
  .have:cls C.P pr ops o= .hp:=by unfold cls;rw[ho]
   rw[this];exact⟨i,rfl⟩
 |makeInterface t y=>rw[ho]at h;exact ZsH ho br h
 |makeFunc f x y=>rw[ho]at h;exact ZtM ho br h
 |makeSlice t x y=>rw[ho]at h;exact Znl ho br h
 |slice t y lo hi mx=>
  rw[ho]at h;cases mx with
  |some _=>cases h
  |none=>
   refine ZsE ho br (λ⟨m,e,ht⟩ i=>?_) h;rcases kI with rfl|⟨x,k,m,rfl⟩
   .trivial
   .have:cls C.P pr ops o= .hp:=by grind[cls]
    rw[this];exact⟨i,rfl⟩
 |fieldAddr t y f=>rw[ho]at h;exact ZnW ho br h
 |field t y f=>rw[ho]at h;exact ZsM ho br h
 |indexAddr t y i=>rw[ho]at h;exact ZnZ ho br h
 |index t y i=>rw[ho]at h;exact Zs4 ho br h
 |range t y=>rw[ho]at h;exact Zsy ho br h
 |next it b=>
  rw[ho]at h;cases it with
  |tmp t=>
   cases b with
   |true=>
    refine Zuy ho br (λv hv=>?_) h;rcases kI with rfl|⟨x,k,m,rfl⟩
    .trivial
    .have:cls C.P pr ops o= .oX t:=by unfold cls;rw[ho]
     rw[this];exact⟨v,rfl,hv⟩
   |false=>cases h
  |_=>cases b<;>cases h
 |typeAssert y t u ok=>
  rw[ho]at h;cases ok with
  |true=>cases h
  |false=>
   refine Zrv hC ho br (λi=>?_) h;rcases kI with rfl|⟨x,k,m,rfl⟩
   .trivial
   .have:cls C.P pr ops o= .wr:=by unfold cls;rw[ho]
    rw[this];exact⟨i,rfl⟩
 |extract t i=>
  rw[ho]at h;cases t with
  |tmp t=>exact ZqB ho br h
  |_=>cases h
 |panic y=>
  rw[ho]at h;refine Zsz ho (λi=>?_) h;rcases kI with rfl|⟨x,k,m,rfl⟩
  .trivial
  .have:cls C.P pr ops o= .wr:=by unfold cls;rw[ho]
   rw[this];exact⟨i,rfl⟩
 |call q=>
  rw[ho]at h;simp only at h;have wr: ∀b,q.callee= .builtin b->b≠ .len->b≠ .min->b≠ .max->b≠ .append->∀i,mM md E (.inl i):=by
   intro b hq h1 h2 h3 h4 i;rcases kI with rfl|⟨x,k,m,rfl⟩
   .trivial
   .have:cls C.P pr ops o= .wr:=by
     grind[cls]
    rw[this];exact⟨i,rfl⟩
  cases hq:q.callee with
  |value f=>
   rw[hq]at h;have cL:cls C.P pr ops o= .ap []\/cls C.P pr ops o= .call:=by
    grind[cls]
   refine ZtS hq ho br (λi=>?_) (λi=>?_) hc h
   .rcases kI with rfl|⟨x,k,m,rfl⟩
    .trivial
    .rcases cL with this|this<;>rw[this]<;>exact⟨i,rfl⟩
   .rcases kI with rfl|⟨x,k,m,rfl⟩
    .exact .inl trivial
    .rcases cL with this|this<;>rw[this]
     .by_cases hb: ∀b∈(Md.d (va pr ops k m (.ap [])) x).bs,∃j p,E.get b= .v (.ptr (some (j,p)))/\j≠i
      .exact .inl ⟨i,rfl,hb⟩
      grind
     .rcases jH x 2 with hx|hx
      .exact .inl ⟨hx,i,rfl⟩
      .exact .inr (.inl hx)
  |invoke f m=>rw[hq]at h;cases h
  |builtin b=>
   rw[hq]at h;cases b with
   |len=>exact ZvM hq rfl ho br h
   |append=>
    obtain⟨h,xA⟩:=ZwZ h;have hc:cls C.P pr ops o= .ap []:=by grind[cls]
    refine ZrK hq ho br (λi=>?_) (λy z i p n hy he=>?_) h
    .rcases kI with rfl|⟨x,k,m,rfl⟩
     .trivial
     .rw[hc];exact⟨i,rfl⟩
    .rcases kI with rfl|⟨x,k,m,rfl⟩
     .trivial
     .rw[hc]at xA⊢
      exact⟨i,rfl,xA y z i p n hy he⟩
   |copy=>exact ZuE hq ho br (by grind) h
   |min=>exact ZpA (mx:=false) hq rfl ho br h
   |max=>exact ZpA (mx:=true) hq rfl ho br h
   |clear=>exact ZsF hq ho br (by grind) h
   |_=>cases h
 |_=>rw[ho]at h;cases h
end
end Go.Gv
