/- What a region's operations do, one behind the other, as the machine takes them. -/
import Derived.Test.YtegglibipjjblaaGreatDoorGvZOps
import Derived.Laws.Externs
import Derived.Lib.Bytealg
import Derived.OrdersHeld
import Derived.Recover
import Derived.Defers
import Derived.Lib.Join
import Derived.Lib.Repeat
namespace Go.Gv
variable {β:Type}
structure mh (E E':Env):Prop where
 bO:E'.bO=E.bO
 get: ∀t,E'.get t=E.get t\/E'.get t= .u
def GW (dst:Nat->Option Nat) (E:Env) (o:Oper):Prop:=o.guard=none\/∃j w r,o.guard=some (j,w)/\dst j=some r/\E.get r= .v (.bool w)
def GU (dst:Nat->Option Nat) (E:Env) (o:Oper):Prop:=∃j w r,o.guard=some (j,w)/\dst j=some r/\((∃b,E.get r= .v (.bool b)/\b≠w)\/E.get r= .un)
section
variable (C:bB) (dst:Nat->Option Nat) (pr ms:al)
inductive Step:Oper×Md->Env->St->Env->St->Prop
 |act {p:Oper×Md} {E s E' s'} :GW dst E p.1->mg (mM p.2 E) pr ms p.1 E s E' s'->BX C p.1 (pA p.2 E) (mM p.2 E) E s E' s'->Step p E s E' s'
 |skip {p:Oper×Md} {E s} :GU dst E p.1->Step p E s (E.eU p.1.dst .un) s
inductive Tr:List (Oper×Md)->Env->St->Env->St->Prop
 |nil (E s):Tr [] E s E s
 |iH {l E E1 s E2 s2} :mh E E1->Tr l E1 s E2 s2->Tr l E s E2 s2
 |cons {p l E s E1 s1 E2 s2} :Step C dst pr ms p E s E1 s1->Tr l E1 s1 E2 s2->Tr (p::l) E s E2 s2
inductive nA:List (Oper×Md)->Env->St->St->Prop
 |iH {l E E1 s s2} :mh E E1->nA l E1 s s2->nA l E s s2
 |here {p l E s s'} :GW dst E p.1->p.2.x=0->wL C p.1 (pA p.2 E) E s s'->nA (p::l) E s s'
 |next {p l E s E1 s1 s2} :Step C dst pr ms p E s E1 s1->nA l E1 s1 s2->nA (p::l) E s s2
end
variable {ab cR:AB} {a0:Act} {listed:Array Bool} {ops:Array Oper} {cb:CB} {E E' E0 E1 E2 Gk:Env} {QQ:Exit->Act->World->Prop} {A:FA} {f uA:FuncId} {Q Q' Q0:Kn} {J:List (Nat×JS)} {l l1 l2:List (Oper×Md)} {vs:List Value} {is:List gq} {N i id j k m n t u x':Nat} {dst:Nat->Option Nat} {JB L' Xb:Nat->Prop} {o:Oper} {p p':Oper×Md} {r:Out β×St} {P:Program} {il ψ ψ':Ps} {s s' s0 s1 s2:St} {v:Value} {w w' w0:World} {c:Zf} {args cs cs' ds:ah} {acc gX l' ms pr:al} {C:bB} {h:dD} {k':lF}
section
variable {C:bB} {dst:Nat->Option Nat} {pr ms:al}
theorem Tr.append (h:Tr C dst pr ms l1 E s E1 s1) (k:Tr C dst pr ms l2 E1 s1 E2 s2):Tr C dst pr ms (l1++l2) E s E2 s2:=by
 induction h with
 |nil=>exact k
 |iH w _ ih=>exact .iH w (ih k)
 |cons st _ ih=>exact .cons st (ih k)
theorem nA.left (h:nA C dst pr ms l1 E s s2) (l2:List (Oper×Md)):nA C dst pr ms (l1++l2) E s s2:=by
 induction h with
 |iH w _ ih=>exact .iH w ih
 |here a b c=>exact .here a b c
 |next st _ ih=>exact .next st ih
theorem Tr.eZ (h:Tr C dst pr ms l1 E s E1 s1) (k:nA C dst pr ms l2 E1 s1 s2):nA C dst pr ms (l1++l2) E s s2:=by
 induction h with
 |nil=>exact k
 |iH w _ ih=>exact .iH w (ih k)
 |cons st _ ih=>exact .next st (ih k)
theorem Zlj {r:Nat} : ∀ {l acc:List (Oper×Md)} {eF:List (Oper×Md)} {pk:Oper} {rest:List (Oper×Md)},Cr r acc l=some (eF,pk,rest)->
  ∃x y z,acc.reverse++l=eF++(pk,x)::rest/\pk.op= .pick (.tmp r) y z
 |[],acc,eF,pk,rest,h=>by cases h
 |(o,x)::l,acc,eF,pk,rest,h=>by
  simp only[Cr]at h;have go:Cr r ((o,x)::acc) l=some (eF,pk,rest)->∃x' y z,acc.reverse++(o,x)::l=eF++(pk,x')::rest/\pk.op= .pick (.tmp r) y z:=by
   intro h;obtain⟨x',y,z,h1,h2⟩:=Zlj h;exact⟨x',y,z,by rw[<-h1];simp,h2⟩
  split at h
  .rename_i t y z ef
   cases hb:Nat.beq t r with
   |true=>
    rw[hb]at h;simp only[ae,fU,DR]at h;obtain⟨rfl,rfl,rfl⟩:=h;have:=dy hb;subst this;exact⟨x,y,z,rfl,ef⟩
   |false=>rw[hb]at h;exact go h
  .exact go h
theorem ZqQ: ∀ {act:List (Nat×Bool)} {g:Nat×Bool},Mn act g=true->g∈act
 |[],_,h=>by cases h
 |(k,b)::r,g,h=>by
  simp only[Mn,lz,aR]at h;rcases h with⟨h1,h2⟩|h
  .have e1:=dy h1
   have e2:b=g.2:=by simpa using h2
   have:g=(k,b):=by rw[e1,e2]
   rw[this];exact oa
  .exact rp _ (ZqQ h)
theorem Kz {j:Nat} {w:Bool} {r:Nat} : ∀ {l:List (Oper×Md)} {sk:al},CL pr dst j w r sk l=true->∀p∈l,¬Spec pr p.1/\p.1.dst≠some r
 |[],_,_,p,hp=>by cases hp
 |(o,x)::l,sk,h,p,hp=>by
  simp only[CL,aR]at h;obtain⟨⟨h1,_⟩,h3⟩:=h;have iC: ¬Spec pr o:=by
   unfold Spec;intro hs;cases ef:o.op<;>rw[ef]at hs h1<;>simp only at hs h1<;>first|exact hs|(cases h1;done)|skip
   all_goals
    obtain⟨d,hd,jh⟩:=hs;rw[hd]at h1;simp only at h1;rw[jh]at h1;cases h1
  cases hd:o.dst with
  |none=>
   rw[hd]at h3;rcases dC.1 hp with rfl|hp
   .exact⟨iC,by simp[hd]⟩
   .exact Kz h3 p hp
  |some d=>
   rw[hd]at h3;simp only[aR]at h3;rcases dC.1 hp with rfl|hp
   .refine⟨iC,?_⟩
    rw[hd];intro e;cases e;have:=h3.1;rw[BL]at this;cases this
   .exact Kz h3.2 p hp
theorem Et: ∀ {l:List (Oper×Md)} {t:Nat},has (gI l) t=true↔ ∃p∈l,p.1.dst=some t
 |[],t=>by simp[gI,has]
 |(o,x)::l,t=>by
  simp only[gI,dC,exists_eq_or_imp];cases hd:o.dst with
  |none=>simp only[Et];simp
  |some d=>
   simp only[has,lz,Et,fU];constructor
   .rintro(h|h)
    .exact .inl (dy h)
    .exact .inr h
   .rintro(h|h)
    .exact .inl (by subst h;exact BL _)
    .exact .inr h
theorem To {j:Nat} {w:Bool} {r:Nat} (hj:dst j=some r) {b:Bool} (hb:b≠w): ∀ {l:List (Oper×Md)} {sk:al} {E:Env} {s:St},CL pr dst j w r sk l=true->E.get r= .v (.bool b)->(∀d,has sk d=true->E.get d= .un)->
  ∃E1,Tr C dst pr ms l E s E1 s/\E1.bO=E.bO/\(∀u,has (gI l) u=false->E1.get u=E.get u)
 |[],_,E,s,_,_,_=>⟨E,.nil E s,rfl,λ_ _=>rfl⟩
 |(o,x)::l,sk,E,s,h,hr,VT=>by
  have VU:=Kz h (o,x) (by simp);simp only[CL,aR]at h;obtain⟨⟨_,h2⟩,h3⟩:=h;have hg:GU dst E o:=by
   cases hg:o.guard with
   |none=>rw[hg]at h2;cases h2
   |some g=>
    obtain⟨j',w'⟩:=g;rw[hg]at h2;simp only[lz,aR]at h2;rcases h2 with⟨h4,h5⟩|h4
    .have:=dy h4
     have h5:w'=w:=by simpa using h5
     subst this;subst h5;exact⟨_,_,r,hg,hj,.inl ⟨b,hr,hb⟩⟩
    .cases hd:dst j' with
     |none=>rw[hd]at h4;cases h4
     |some d=>rw[hd]at h4;exact⟨j',w',d,hg,hd,.inr (VT d h4)⟩
  have mB:(E.eU o.dst .un).get r= .v (.bool b):=by rw[Env.j5,aW VU.2];exact hr
  cases hd:o.dst with
  |none=>
   rw[hd]at h3;obtain⟨E1,t1,t2,t3⟩:=To hj hb (E:=E.eU o.dst .un) (s:=s) h3 mB (λd h=>by rw[hd];exact VT d h);refine⟨E1,.cons (.skip hg) t1,by rw[t2];simp,λu hu=>?_⟩;simp only[gI,hd]at hu;rw[t3 u hu,hd];rfl
  |some d=>
   rw[hd]at h3;simp only[aR]at h3;obtain⟨E1,t1,t2,t3⟩:=To hj hb (E:=E.eU o.dst .un) (s:=s) h3.2 mB (λd' h=>by
    rw[Env.j5,hd];simp only[has,lz]at h;by_cases e:some d=some d'
    .rw[bw e]
    .rw[aW e]
     rcases h with h|h
     .exact absurd (by rw[dy h]) e
     .exact VT d' h)
   refine⟨E1,.cons (.skip hg) t1,by rw[t2];simp,λu hu=>?_⟩;simp only[gI,hd,has,wF]at hu;rw[t3 u hu.2,Env.j5,hd,aW];intro e;cases e;rw[BL]at hu;cases hu.1
theorem Zpy {md:Md} {r:Nat} {y z:Operand} {b:Bool} (ho:o.op= .pick (.tmp r) y z) (hb:E.get r= .v (.bool b)) (hg:GW dst E o):
  Step C dst pr ms (o,md) E s (E.eU o.dst (E.src C (if b then y else z))) s:=by
 refine .act hg (mg.WG pr ms _ (Env.Jx C E _) (λhE r v n h=>Env.Dv C hE h)) (BX.pure (Ly md E) _ (Env.Jx C E _) λψ Q a w p=>⟨a.eval (if b then y else z),w,?_,.refl w,p.src ?_⟩)
 .have:=p.val (x:= .tmp r) (by simp[Op.operands,ho]) (d:= .bool b) (by simp only[Env.src,hb])
  generalize hv:a.eval (.tmp r)=v at this;cases this;cases b<;>simp[execOp,ho,hv,asBool]
 .cases b<;>simp[Op.operands,ho]
structure Mod (un:Nat->Prop) (E E':Env):Prop where
 get: ∀u,un u->E'.get u=E.get u
 bO:E.bO<=E'.bO
 wA: ∀t v n cs,E'.get t= .loc v n cs->(∃mo,E.get t= .loc v n mo)\/E.bO<=v
 yf: ∀t v l p,E'.get t= .it v l p->(∃p0,E.get t= .it v l p0)\/E.bO<=v
theorem Mod.refl (un:Nat->Prop) (E:Env):Mod un E E:=⟨λ_ _=>rfl,aL _,λ_ _ _ cs h=> .inl ⟨cs,h⟩,λ_ _ _ p h=> .inl ⟨p,h⟩⟩
theorem Mod.trans {un:Nat->Prop} (h:Mod un E E') (k:Mod JB E' Gk) (h1: ∀u,Xb u->un u) (h2: ∀u,Xb u->JB u):Mod Xb E Gk:=by
 refine⟨λu hu=>by rw[k.get u (h2 u hu),h.get u (h1 u hu)],gH h.bO k.bO,λt v n cs e=>?_,λt v l p e=>?_⟩
 .rcases k.wA t v n cs e with⟨c,e⟩|e
  .exact h.wA t v n c e
  .exact .inr (gH h.bO e)
 .rcases k.yf t v l p e with⟨c,e⟩|e
  .exact h.yf t v l c e
  .exact .inr (gH h.bO e)
def J4 (ms:al) (l:List (Oper×Md)) (u:Nat):Prop:=(∀p∈l,p.1.dst≠some u)/\has ms u=false
def aaV (P:Program) (pr:al) (ops:List Oper) (p:Oper×Md):Prop:=p.2= .s\/∃x k m,p.2= .d (va pr ops k m (cls P pr ops p.1)) x
theorem Zp1 (hC:og C) (hc:ZQ C c) {ops:List Oper} : ∀(n:Nat) (l:List (Oper×Md)) (act:List (Nat×Bool)) (E:Env) (K:Env->M β) (s:St),
  tc C pr ms c dst n l act E K s=some r->(∀p∈l,aaV C.P pr ops p)->
  (∀g∈act,(∃q,dst g.1=some q/\E.get q= .v (.bool g.2)/\∀p∈l,p.1.dst≠some q)/\∀p∈l,¬Spec pr p.1)->
  (∃E' s',Tr C dst pr ms l E s E' s'/\K E' s'=some r/\((∀p∈l,¬Spec pr p.1)->E'.bO=E.bO/\∀u,(∀p∈l,p.1.dst≠some u)->E'.get u=E.get u)/\Mod (J4 ms l) E E')\/
  (∃s',r=(.eZ,s')/\nA C dst pr ms l E s s'):=by
 intro n;induction n with
 |zero=>
  intro l act E K s h kI AP;cases l with
  |nil=>exact .inl ⟨E,s,.nil E s,h,λ_=>⟨rfl,λ_ _=>rfl⟩,.refl _ _⟩
  |cons p l=>cases h
 |succ n ih=>
  intro l act E K s h kI AP;cases l with
  |nil=>exact .inl ⟨E,s,.nil E s,h,λ_=>⟨rfl,λ_ _=>rfl⟩,.refl _ _⟩
  |cons p rest=>
   obtain⟨o,md⟩:=p;simp only[tc]at h;have gw: ∀ {E:Env} {o':Oper},(∀g∈act,∃q,dst g.1=some q/\E.get q= .v (.bool g.2))->Mo act o'.guard=true->GW dst E o':=by
    intro E o' ha hg;cases Fs:o'.guard with
    |none=>exact .inl Fs
    |some g=>
     rw[Fs]at hg;obtain⟨q,h1,h2⟩:=ha g (ZqQ hg);exact .inr ⟨g.1,g.2,q,Fs,h1,h2⟩
   cases hg:Mo act o.guard with
   |true=>
    rw[hg]at h;simp only[ae]at h;have qK:=gw (E:=E) (λg hm=>let ⟨⟨q,h1,h2,_⟩,_⟩:=AP g hm;⟨q,h1,h2⟩) hg;rcases Te hC hc (kI (o,md) (by simp)) h with⟨E1,s1,hk,hF,hO⟩|⟨hx,s',rfl,hp⟩
    .have dW:Step C dst pr ms (o,md) E s E1 s1:= .act qK hF hO
     have jB: ¬Spec pr o->E1.bO=E.bO/\∀u,o.dst≠some u->E1.get u=E.get u:=by
      intro hs;rcases hF.plain with⟨e,_,rfl⟩|h
      .exact⟨by simp,λu hu=>by rw[Env.j5,aW hu]⟩
      .exact absurd h hs
     rcases ih rest act E1 K s1 hk (λp hp=>kI p (by simp[hp])) (λg hm=>by
      obtain⟨⟨q,h1,h2,h3⟩,h4⟩:=AP g hm;exact⟨⟨q,h1,by rw[(jB (h4 (o,md) (by simp))).2 q (h3 (o,md) (by simp))];exact h2,λp hp=>h3 p (by simp[hp])⟩,λp hp=>h4 p (by simp[hp])⟩)with⟨E2,s2,t,iL,hn,Vp⟩|⟨s2,e,t⟩
     .refine .inl ⟨E2,s2,.cons dW t,iL,λhs=>?_,?_⟩
      rotate_left
      .have m1:Mod (λu=>o.dst≠some u/\has ms u=false) E E1:=⟨λu hu=>hF.other u hu.1 hu.2,hF.bO,λt v n cs h=>(hF.wA t v n cs h).imp id And.left,λt v l p h=>(hF.yf t v l p h).imp id And.left⟩
       exact m1.trans Vp (λu hu=>⟨hu.1 (o,md) (by simp),hu.2⟩) (λu hu=>⟨λp hp=>hu.1 p (by simp[hp]),hu.2⟩)
      obtain⟨k1,k2⟩:=jB (hs (o,md) (by simp));obtain⟨n1,n2⟩:=hn λp hp=>hs p (by simp[hp])
      exact⟨by rw[n1,k1],λu hu=>by rw[n2 u λp hp=>hu p (by simp[hp]),k2 u (hu (o,md) (by simp))]⟩
     .exact .inr ⟨s2,e,.next dW t⟩
    .exact .inr ⟨s',rfl,.here qK hx hp⟩
   |false=>
    rw[hg]at h;simp only[af]at h;cases Fs:o.guard with
    |none=>rw[Fs]at h;cases h
    |some g=>
     obtain⟨j,w⟩:=g;rw[Fs]at h;simp only at h;cases hj:dst j with
     |none=>rw[hj]at h;cases h
     |some q=>
      rw[hj]at h;simp only at h;cases hq:E.get q with
      |v d=>
       cases d with
       |bool b=>
        rw[hq]at h;cases H6:Cr q [] ((o,md)::rest)with
        |none=>rw[H6]at h;cases h
        |some x=>
         obtain⟨eF,pk,nT⟩:=x;rw[H6]at h;simp only at h;obtain⟨sr,y,z,hl,oR⟩:=Zlj H6;simp only[List.reverse_nil,gU]at hl;rw[oR]at h;cases Bl:pk.dst with
         |none=>rw[Bl]at h;cases h
         |some t=>
          rw[Bl]at h;simp only at h;obtain⟨fk,h⟩:=Zp h;rw[aR]at fk;obtain⟨M2,Yx⟩:=fk;have xF:=Kz Yx;rw[hl];rw[hl]at kI AP;have after: ∀(E1:Env) (s1:St) (v:Bool),Tr C dst pr ms (eF++[(pk,sr)]) E s ((E.del (gI eF)).put t (.v (.bool v))) s1->
            tc C pr ms c dst n nT act ((E.del (gI eF)).put t (.v (.bool v))) K s1=some r->
            (∃E' s',Tr C dst pr ms (eF++(pk,sr)::nT) E s E' s'/\K E' s'=some r/\((∀p∈eF++(pk,sr)::nT,¬Spec pr p.1)->E'.bO=E.bO/\∀u,(∀p∈eF++(pk,sr)::nT,p.1.dst≠some u)->E'.get u=E.get u)/\Mod (J4 ms (eF++(pk,sr)::nT)) E E')\/
            (∃s',r=(.eZ,s')/\nA C dst pr ms (eF++(pk,sr)::nT) E s s'):=by
           intro E1 s1 v ht hr;have e:eF++(pk,sr)::nT=(eF++[(pk,sr)])++nT:=by simp
           have get: ∀u,(∀p∈eF++(pk,sr)::nT,p.1.dst≠some u)->((E.del (gI eF)).put t (.v (.bool v))).get u=E.get u:=by
            intro u hu;rw[Env.sa,aW (λe=>hu (pk,sr) (by simp) (by rw[Bl,e])),yC];have:has (gI eF) u=false:=by
             cases hh:has (gI eF) u with
             |false=>rfl
             |true=>
              obtain⟨p,hp,hd⟩:=Et.1 hh;exact absurd hd (hu p (by simp[hp]))
            rw[this];rfl
           rcases ih nT act _ K s1 hr (λp hp=>kI p (by simp[hp])) (λg hm=>by
            obtain⟨⟨q',h1,h2,h3⟩,h4⟩:=AP g hm;exact⟨⟨q',h1,by rw[get q' h3];exact h2,λp hp=>h3 p (by simp[hp])⟩,λp hp=>h4 p (by simp[hp])⟩)with⟨E2,s2,t2,iL,hn,Vp⟩|⟨s2,e2,t2⟩
           .refine .inl ⟨E2,s2,by rw[e];exact ht.append t2,iL,λhs=>?_,?_⟩
            rotate_left
            .have m1:Mod (λu=>∀p∈eF++(pk,sr)::nT,p.1.dst≠some u) E ((E.del (gI eF)).put t (.v (.bool v))):=by
              refine⟨get,aL _,λu v' n' cs e=>?_,λu v' l' p e=>?_⟩<;>rw[Env.sa,yC]at e<;>split at e
              .cases e
              .split at e
               .cases e
               .exact .inl ⟨cs,e⟩
              .cases e
              .split at e
               .cases e
               .exact .inl ⟨p,e⟩
             exact m1.trans Vp (λu hu=>hu.1) (λu hu=>⟨λp hp=>hu.1 p (by simp[hp]),hu.2⟩)
            obtain⟨n1,n2⟩:=hn λp hp=>hs p (by simp[hp])
            exact⟨by rw[n1];rfl,λu hu=>by rw[n2 u λp hp=>hu p (by simp[hp]),get u hu]⟩
           .exact .inr ⟨s2,e2,by rw[e];exact ht.eZ t2⟩
          have nd: ∀u,(∀p∈eF++(pk,sr)::nT,p.1.dst≠some u)->has (gI eF) u=false:=by
           intro u hu;cases hh:has (gI eF) u with
           |false=>rfl
           |true=>
            obtain⟨p,hp,hd⟩:=Et.1 hh;exact absurd hd (hu p (by simp[hp]))
          have nq:has (gI eF) q=false:=by
           cases hh:has (gI eF) q with
           |false=>rfl
           |true=>
            obtain⟨p,hp,hd⟩:=Et.1 hh;exact absurd hd (xF p hp).2
          have jk: ∀(d:DV) (s1:St),(jt [d] λd st=>tj d λv=>aJ st (tc C pr ms c dst n nT act ((E.del (gI eF)).put t (.v (.bool v))) K)) s1=some r->
            ∃v,d= .bool v/\tc C pr ms c dst n nT act ((E.del (gI eF)).put t (.v (.bool v))) K s1=some r:=by
           intro d s1 h;cases d with
           |bool v=>exact⟨v,rfl,h⟩
           |_=>cases h
          have aat: ∀(v:Bool) u,((E.del (gI eF)).put t (.v (.bool v))).get u=if t=u then .v (.bool v)else if has (gI eF) u then .u else E.get u:=λv u=>by rw[Env.sa,yC]
          simp only[L7]at h;by_cases uG:b=w
          ·
           subst uG;have h':tc C pr ms c dst n eF ((j,b)::act) (E.put q (.v (.bool b))) (λE1=>fe C E1 (bif b then y else z) λd=>jt [d] λd st=>tj d λv=>aJ st (tc C pr ms c dst n nT act ((E.del (gI eF)).put t (.v (.bool v))) K)) s=some r:=by
            cases b<;>exact h
           have Jm: ∀u,(E.put q (.v (.bool b))).get u=E.get u:=λu=>by
            rw[Env.sa];split
            .rename_i e;subst e;exact hq.symm
            .rfl
           have cG:mh E (E.put q (.v (.bool b))):=⟨rfl,λu=> .inl (Jm u)⟩;rcases ih eF ((j,b)::act) _ _ s h' (λp hp=>kI p (by simp[hp])) (λg hm=>by
            refine⟨?_,λp hp=>(xF p hp).1⟩;rcases dC.1 hm with rfl|hm
            .exact⟨q,hj,by rw[Jm];exact hq,λp hp=>(xF p hp).2⟩
            .obtain⟨⟨q',h1,h2,h3⟩,_⟩:=AP g hm
             exact⟨q',h1,by rw[Jm];exact h2,λp hp=>h3 p (by simp[hp])⟩)with⟨E1,s1,t1,jx,C7,_⟩|⟨s1,e1,t1⟩
           .obtain⟨n1,n2⟩:=C7 λp hp=>(xF p hp).1
            obtain⟨d,hd,jx⟩:=Zt jx;obtain⟨v,rfl,jx⟩:=jk d s1 jx;have M8:E1.get q= .v (.bool b):=by rw[n2 q λp hp=>(xF p hp).2,Jm];exact hq
            have XH: ∀u,has (gI eF) u=false->E1.get u=E.get u:=λu hu=>by
             rw[n2 u (λp hp hd=>by rw[Et.2 ⟨p,hp,hd⟩]at hu;cases hu),Jm]
            have ca:=Zpy (C:=C) (pr:=pr) (ms:=ms) (md:=sr) (s:=s1) oR M8 (gw (E:=E1) (λg hm=>by
             obtain⟨⟨q',h1,h2,h3⟩,_⟩:=AP g hm;exact⟨q',h1,by rw[XH q' (nd q' h3)];exact h2⟩) M2)
            have VV:E1.src C (if b then y else z)= .v (.bool v):=by cases b<;>exact hd
            rw[VV,Bl]at ca;have fP:mh (E1.eU (some t) (.v (.bool v))) ((E.del (gI eF)).put t (.v (.bool v))):=by
             refine⟨by rw[Env.FW,n1];rfl,λu=>?_⟩;rw[aat,Env.j5];by_cases e:t=u
             .subst e;simp
             .rw[aW e,aW (λh=>e (DQ h))]
              cases hu:has (gI eF) u with
              |true=>exact .inr rfl
              |false=>exact .inl (XH u hu).symm
            exact after E1 s1 v (.iH cG (t1.append (.cons ca (.iH fP (.nil _ _))))) jx
           .exact .inr ⟨s1,e1,.iH cG (t1.left _)⟩
          ·
           have h':fe C ((E.del (gI eF)).put q (.v (.bool !w))) (bif w then z else y) (λd=>jt [d] λd st=>tj d λv=>aJ st (tc C pr ms c dst n nT act ((E.del (gI eF)).put t (.v (.bool v))) K)) s=some r:=by
            cases w<;>cases b<;>first|exact h|exact absurd rfl uG
           obtain⟨d,hd,jx⟩:=Zt h';obtain⟨v,rfl,jx⟩:=jk d s jx;obtain⟨E1,t1,t2,t3⟩:=To (C:=C) (pr:=pr) (ms:=ms) hj uG (s:=s) Yx hq (λd h=>by cases h);have M8:E1.get q= .v (.bool b):=by rw[t3 q nq];exact hq
           have ca:=Zpy (C:=C) (pr:=pr) (ms:=ms) (md:=sr) (s:=s) oR M8 (gw (E:=E1) (λg hm=>by
            obtain⟨⟨q',h1,h2,h3⟩,_⟩:=AP g hm;exact⟨q',h1,by rw[t3 q' (nd q' h3)];exact h2⟩) M2)
           have XU:b= !w:=by cases w<;>cases b<;>first|rfl|exact absurd rfl uG
           have VV:E1.src C (if b then y else z)= .v (.bool v):=by
            have hx:(if b then y else z)=(bif w then z else y):=by subst XU;cases w<;>rfl
            rw[hx,<-hd];generalize (bif w then z else y)=x at hd;cases x with
            |tmp u=>
             have hg:E1.get u=((E.del (gI eF)).put q (.v (.bool !w))).get u:=by
              rw[Env.sa,yC];by_cases e:q=u
              .subst e;rw[bw rfl,M8,XU]
              .rw[aW e]
               cases hu:has (gI eF) u with
               |false=>exact t3 u hu
               |true=>
                simp only[Env.src,Env.sa,yC,aW e,hu,kV]at hd;cases hd
             simp only[Env.src,hg]
            |_=>rfl
           rw[VV,Bl]at ca;have fP:mh (E1.eU (some t) (.v (.bool v))) ((E.del (gI eF)).put t (.v (.bool v))):=by
            refine⟨by rw[Env.FW,t2];rfl,λu=>?_⟩;rw[aat,Env.j5];by_cases e:t=u
            .subst e;simp
            .rw[aW e,aW (λh=>e (DQ h))]
             cases hu:has (gI eF) u with
             |true=>exact .inr rfl
             |false=>exact .inl (t3 u hu).symm
           exact after E1 s v (t1.append (.cons ca (.iH fP (.nil _ _)))) jx
       |_=>rw[hq]at h;cases h
      |_=>rw[hq]at h;cases h
end
structure Fr where
 N:Nat
 nt:Nat
 il:Ps
 s0:St
 w0:World
 ok:Nat->Bool
 Jh: ∀x,ok x=true->x<nt
 kv:Nat->Value
 Uk:List Deferred
def Ks (f:Fr) (a:Act):Prop:=a.tmps.size=f.nt/\∀t,f.ok t=false->a.tmps.getD t undef=f.kv t
structure Rel (C:bB) (f:Fr) (ψ:Ps) (E:Env) (s:St) (a:Act) (w:World):Prop where
 eL:fa C ψ (CR E s) w
 gJ:jd E
 gr:rz ψ w
 kF:Glob C ψ
 jD: ∀t,fy C ψ (E.get t) (a.tmps.getD t undef)
 nk:Ks f a
 defs:a.defers=f.Uk
 sI: ∀i,s.length<=i->i<f.N->ψ (.inl i)=none
 vd: ∀v,E.bO<=v->ψ (.inr v)=none
 ext:Ext f.il (CS f.s0) f.w0 ψ (CR E s) w
 news: ∀i cb,ψ (.inl i)=some cb->f.il (.inl i)=some cb\/(f.s0.length<=i/\i<s.length)
 len:f.s0.length<=s.length
 fin: ∀v,f.il (.inr v)=none
section
variable {C:bB} {f:Fr} {ψ ψ':Ps} {E E':Env} {s s':St} {a:Act} {w w':World} {Q':Kn} {o:Oper} {D W:dD->Prop} {pr ms:al}
theorem jd.iH (h:jd E) (k:mh E E'):jd E':=by
 have g: ∀t x,E'.get t=x->x≠ .u->E.get t=x:=λt x e hx=>by
  rcases k.get t with h|h
  .rw[<-h];exact e
  grind
 constructor
 .intro t v hv
  rw[k.bO];rcases k.get t with e|e
  .rw[e]at hv;exact h.lt t v hv
  .rw[e]at hv;cases hv
 .intro t r v n e
  rw[k.bO];exact h.pl t r v n (g t _ e (by simp))
 .intro t v n cs e
  exact h.len t v n cs (g t _ e (by simp))
 .intro t t' v hv eJ
  rcases k.get t with e|e
  .rcases k.get t' with e'|e'
   .rw[e]at hv;rw[e']at eJ;exact h.uniq t t' v hv eJ
   .rw[e']at eJ;cases eJ
  .rw[e]at hv;cases hv
theorem CR.iH (k:mh E E') {h:dD} {ab:AB} (c:CR E' s h ab):CR E s h ab:=by
 have g: ∀t x,E'.get t=x->x≠ .u->E.get t=x:=λt x e hx=>by
  rcases k.get t with h|h
  .rw[<-h];exact e
  grind
 cases h with
 |inl i=>exact c
 |inr v=>
  rcases c with⟨t,n,cs,e,eX⟩|⟨t,l,p,e,eX⟩
  .exact .inl (by grind)
  .exact .inr (by grind)
theorem Rel.iH (R:Rel C f ψ E s a w) (k:mh E E'):Rel C f ψ E' s a w where
 eL:=R.eL.weaken λ_ _ _ _ c=>c.iH k
 gJ:=R.gJ.iH k
 gr:=R.gr
 kF:=R.kF
 jD:=λt=>by
  rcases k.get t with e|e
  .rw[e];exact R.jD t
  .rw[e];exact trivial
 nk:=R.nk
 defs:=R.defs
 sI:=R.sI
 vd:=λv hv=>R.vd v (by rw[<-k.bO];exact hv)
 ext:=R.ext.weaken λ_ _ _ _ c=>c.iH k
 news:=R.news
 len:=R.len
 fin:=R.fin
theorem PG (a:Act) (d:Option Nat) (v:Value):(a.put d v).tmps.size=a.tmps.size:=by cases d<;>simp[Act.put]
theorem Kt (a:Act) (d:Option Nat) (v:Value):(a.put d v).defers=a.defers:=by cases d<;>rfl
theorem Ho {a:Act} {d:Option Nat} (hd: ∀x,d=some x->x<a.tmps.size):(a.put d v).tmps.getD t undef=if d=some t then v else a.tmps.getD t undef:=by
 cases d with
 |none=>simp[Act.put]
 |some x=>
  simp only[Act.put,fU,rh];by_cases e:x=t
  .grind
  grind
theorem Ks.put (h:Ks f a) {d:Option Nat} {v:Value} (hd: ∀x,d=some x->f.ok x=true):Ks f (a.put d v):=by
 refine⟨by rw[PG];exact h.1,λt ht=>?_⟩;rw[Ho λx hx=>by rw[h.1];exact f.Jh x (hd x hx),aW λe=>by rw[hd t e]at ht;cases ht];exact h.2 t ht
theorem Rel.room (R:Rel C f ψ E s a w) (hN:s'.length<=f.N):J2 E s E' s' ψ:=by
 rintro h ⟨n1,n2⟩;cases h with
 |inl i=>exact R.sI i (ym.1 n1) (lE n2 hN)
 |inr v=>exact R.vd v (ym.1 n1)
theorem Rel.pre (R:Rel C f ψ E s a w):aD C o D E s ψ (CR E s) a w:=⟨R.eL,R.gr,R.kF,R.gJ,λ_ _ _ _ c _=>c,λt _=>R.jD t⟩
theorem Rel.step (R:Rel C f ψ E s a w) (hF:mg W pr ms o E s E' s') (hP:JZ C D W E s E' s' ψ (CR E s) w ψ' Q' w') (he: ∀d,o.dst=some d->fy C ψ' (E'.get d) v) (hd: ∀x,o.dst=some x->f.ok x=true):
  Rel C f ψ' E' s' (a.put o.dst v) w':=by
 have known: ∀h ab cb,ψ' h=some cb->CR E' s' h ab->Q' h ab:=by
  intro h ab cb e c;by_cases hw:W h\/wK E s E' s' h
  .exact hP.p1 h ab cb c hw e
  .have c':CR E s h ab:=by
    rcases hF.back h ab c with x|x|x
    .grind
    .grind
    .exact x
   rcases hP.news h cb e with e|e
   .exact hP.p2 h ab cb e c' (λx=>hw (.inl x)) (λ_ _=>c')
   grind
 refine⟨hP.eL.weaken known,hF.gJ R.gJ,hP.ext.gr R.gr,hP.ext.kF R.kF,λt=>?_,R.nk.put hd,by rw[Kt];exact R.defs,λi h1 h2=>?_,λv h1=>?_,R.ext.trans (hP.ext.weaken known),λi cb e=>?_,gH R.len hF.len,R.fin⟩
 .rw[Ho λx hx=>by rw[R.nk.1];exact f.Jh x (hd x hx)]
  by_cases e:o.dst=some t
  .rw[bw e];exact he t e
  .rw[aW e];exact(hF.bH t e C ψ _ (R.jD t)).mono hP.ext.mono
 .cases e:ψ' (.inl i)with
  |none=>rfl
  |some cb=>
   rcases hP.news _ cb e with e|⟨_,e⟩
   .rw[R.sI i (gH hF.len h1) h2]at e;cases e
   .simp only[dU]at e;omega
 .cases e:ψ' (.inr v)with
  |none=>rfl
  |some cb=>
   rcases hP.news _ cb e with e|⟨_,e⟩
   .rw[R.vd v (gH hF.bO h1)]at e;cases e
   .simp only[dU]at e;omega
 .rcases hP.news _ cb e with e|⟨n1,n2⟩
  .rcases R.news i cb e with h|⟨h1,h2⟩
   .exact .inl h
   .exact .inr ⟨h1,lE h2 hF.len⟩
  .exact .inr ⟨gH R.len (ym.1 n1),n2⟩
structure rE (C:bB) (f:Fr) (s:St) (a:Act) (w:World):Prop where
 defs:a.defers=f.Uk
 ks:Ks f a
 post: ∃ψ',jm C f.il f.s0 f.w0 ψ' s w
theorem Zug (b:Bool):undef≠Value.bool b:=by unfold undef;simp
theorem Lc (a:Act) (r:Nat) (b:Bool) (h:a.tmps.getD r undef= .bool b):a.tmps[r]? =some (.bool b):=by
 rw[rh]at h;cases e:a.tmps[r]? with
 |none=>rw[e]at h;exact absurd h (Zug b)
 |some v=>rw[e]at h;grind
def mQ (ops:Array Oper) (j:Nat):Option Nat:=match ops.toList[j]? with|some o=>o.dst|none=>none
theorem Lm (ops:Array Oper) (j:Nat):mQ ops j=(ops[j]?).bind (·.dst):=by
 grind[mQ]
theorem Sb (R: ∀t,fy C ψ (E.get t) (a.tmps.getD t undef)) (h:GW (mQ ops) E o):Region.wanted o (yielded ops a.tmps)=true:=by
 unfold Region.wanted;rcases h with h|⟨j,w,r,h1,h2,h3⟩
 .rw[h]
 .rw[h1]
  rw[Lm]at h2;have hr:=R r;rw[h3]at hr;have:a.tmps.getD r undef= .bool w:=by generalize a.tmps.getD r undef=x at hr;cases hr;rfl
  simp[yielded,h2,Lc a r w this]
theorem ZmB (R: ∀t,fy C ψ (E.get t) (a.tmps.getD t undef)) (h:GU (mQ ops) E o):Region.wanted o (yielded ops a.tmps)=false:=by
 unfold Region.wanted;obtain⟨j,w,r,h1,h2,h3⟩:=h;rw[h1];rw[Lm]at h2;have hr:=R r;rcases h3 with⟨b,h3,hb⟩|h3
 .rw[h3]at hr
  have:a.tmps.getD r undef= .bool b:=by generalize a.tmps.getD r undef=x at hr;cases hr;rfl
  simp[yielded,h2,Lc a r b this,hb]
 .rw[h3]at hr
  have hr:a.tmps.getD r undef=undef:=hr;have:a.tmps[r]? =none\/a.tmps[r]? =some undef:=by
   rw[rh]at hr;grind
  have hy:yielded ops a.tmps j=none:=by
   unfold yielded;rw[h2];rcases this with e|e<;>simp[e,undef]
  simp[hy]
theorem Rel.undef (R:Rel C f ψ E s a w) (hd: ∀x,o.dst=some x->f.ok x=true):Rel C f ψ (E.eU o.dst .un) s (a.put o.dst Go.undef) w:=by
 have MD: ∀h ab,CR (E.eU o.dst .un) s h ab->CR E s h ab:=λh ab c=>c.eU rfl
 refine⟨R.eL.weaken λ_ _ _ _ c=>MD _ _ c,R.gJ.eU rfl (λ_ _ _ h=>by cases h),R.gr,R.kF,λt=>?_,R.nk.put hd,by rw[Kt];exact R.defs,R.sI,λv hv=>R.vd v (by simpa using hv),R.ext.weaken λ_ _ _ _ c=>MD _ _ c,R.news,R.len,R.fin⟩;rw[Ho λx hx=>by rw[R.nk.1];exact f.Jh x (hd x hx),Env.j5];by_cases e:o.dst=some t
 .rw[bw e,bw e];rfl
 .rw[aW e,aW e];exact R.jD t
theorem yH (AY: ∀v,f.il (.inr v)=none) (zd:fa C ψ' Q' w') (uJ:Ext f.il (CS f.s0) f.w0 ψ' Q' w')
  (hk: ∀i ab cb,dc s' i=some ab->ψ' (.inl i)=some cb->Q' (.inl i) ab) (ahv: ∀i cb,ψ' (.inl i)=some cb->f.il (.inl i)=some cb\/(f.s0.length<=i/\i<s'.length)):
  jm C f.il f.s0 f.w0 (na ψ') s' w':=by
 have NP: ∀b,tX (na ψ') (CS s') b->tX ψ' Q' b:=by
  rintro b ⟨k,cb,ab,e,⟨i,rfl,q⟩,hs,hb⟩;exact⟨.inl i,cb,ab,e,hk i ab cb q e,hs,hb⟩
 refine⟨Zr9 zd hk,⟨λh cb e=>?_,λh cb e=>uJ.sD h cb (Ed e).1,uJ.size,uJ.jB,λb hb=>uJ.gO b (NP b hb),λh cb x e q=>?_,uJ.tape,uJ.os,uJ.output⟩,λh cb e=>?_⟩
 .cases h with
  |inl i=>exact uJ.mono _ _ e
  |inr v=>rw[AY]at e;cases e
 .obtain⟨i,rfl,q⟩:=q
  exact uJ.live (.inl i) cb x e (hk i x cb q (uJ.mono _ _ e))
 .obtain⟨e,i,rfl⟩:=Ed e
  grind
theorem Rel.yH (R:Rel C f ψ E s a w):jm C f.il f.s0 f.w0 (na ψ) s w:=
 Go.Gv.yH R.fin R.eL R.ext (λ_ _ _ h _=>h) R.news
theorem Tr.len {dst:Nat->Option Nat} {l:List (Oper×Md)} (h:Tr C dst pr ms l E s E' s'):s.length<=s'.length:=by
 induction h with
 |nil=>exact aL _
 |iH _ _ ih=>exact ih
 |cons st _ ih=>
  refine gH ?_ ih;cases st with
  |act _ hF _=>exact hF.len
  |skip _=>exact aL _
theorem nA.len {dst:Nat->Option Nat} {l:List (Oper×Md)} (h:nA C dst pr ms l E s s'):s.length<=s'.length:=by
 induction h with
 |iH _ _ ih=>exact ih
 |here _ _ hp=>exact hp.1
 |next st _ ih=>
  refine gH ?_ ih;cases st with
  |act _ hF _=>exact hF.len
  |skip _=>exact aL _
theorem Rel.aag (R:Rel C f ψ E s a w) (hN:s'.length<=f.N) (hp:wL C o D E s s') {next:Act->World->Prop} (h: ∀ch a' w',oi ch->rE C f s' a' w'->QQ (.panic ch) a' w'):o.wp C.P a w next QQ:=by
 refine hp.2 ψ (CR E s) a w next QQ R.pre (R.room hN) λψ' Q' ch w' h0 h1 h2 h3 h4=>h ch a w' h0 ⟨R.defs,R.nk,_,Go.Gv.yH (s':=s') R.fin h1 (R.ext.trans h2) h4 λi cb e=>?_⟩
 rcases h3 _ cb e with e|⟨n1,n2⟩
 .rcases R.news i cb e with h|⟨h1,h2⟩
  .exact .inl h
  .exact .inr ⟨h1,lE h2 hp.1⟩
 .exact .inr ⟨gH R.len (ym.1 n1),n2⟩
theorem ZwY (t:Tr C (mQ ops) pr ms l E s E2 s2): ∀ {i:Nat} {a:Act} {w:World} {ψ:Ps},Rel C f ψ E s a w->s2.length<=f.N->
  (∀p∈l,∀x,p.1.dst=some x->f.ok x=true)->(∀k p,l[k]? =some p->ops[i+k]? =some p.1)->(∀ψ' a' w',Rel C f ψ' E2 s2 a' w'->QQ .normal a' w')->wpOps C.P ops QQ (List.range' i l.length) a w:=by
 induction t with
 |nil=>intro i a w ψ R _ _ _ h;exact h ψ a w R
 |iH k _ ih=>intro i a w ψ R hN hd hi h;exact ih (R.iH k) hN hd hi h
 |cons st t ih=>
  rename_i p l E s E1 s1 E2 s2;intro i a w ψ R hN hd hi h;have uM:=hi 0 p rfl;simp only[fT]at uM;have rest: ∀ {iu a1 w1},Rel C f iu E1 s1 a1 w1->wpOps C.P ops QQ (List.range' (i+1) l.length) a1 w1:=λR1=>
   ih R1 hN (by grind) (λk q hk=>by have:=hi (k+1) q (by simpa using hk);rwa [show i+(k+1)=i+1+k by omega]at this) h
  simp only[cH,JO,wpOps,uM];cases st with
  |act hg hF hO=>
   rw[bw (Sb R.jD hg)];exact .inl (hO ψ (CR E s) a w _ QQ R.pre (R.room (gH t.len hN)) λψ' Q' v w' hP he=>rest (R.step hF hP he (hd p (by simp))))
  |skip hg=>
   rw[aW (by rw[ZmB R.jD hg];simp)];exact rest (R.undef (hd p (by simp)))
theorem Zvb (t:nA C (mQ ops) pr ms l E s s2): ∀ {i:Nat} {a:Act} {w:World} {ψ:Ps},Rel C f ψ E s a w->s2.length<=f.N->
  (∀p∈l,∀x,p.1.dst=some x->f.ok x=true)->(∀k p,l[k]? =some p->ops[i+k]? =some p.1)->(∀ch a' w',oi ch->rE C f s2 a' w'->QQ (.panic ch) a' w')->wpOps C.P ops QQ (List.range' i l.length) a w:=by
 induction t with
 |iH k _ ih=>intro i a w ψ R hN hd hi h;exact ih (R.iH k) hN hd hi h
 |here hg hx hp=>
  rename_i p l E s s2;intro i a w ψ R hN hd hi h;have uM:=hi 0 p rfl;simp only[fT]at uM;simp only[cH,JO,wpOps,uM];rw[bw (Sb R.jD hg)];exact .inl (R.aag hN hp h)
 |next st t ih=>
  rename_i p l E s E1 s1 s2;intro i a w ψ R hN hd hi h;have uM:=hi 0 p rfl;simp only[fT]at uM;have rest: ∀ {iu a1 w1},Rel C f iu E1 s1 a1 w1->wpOps C.P ops QQ (List.range' (i+1) l.length) a1 w1:=λR1=>
   ih R1 hN (by grind) (λk q hk=>by have:=hi (k+1) q (by simpa using hk);rwa [show i+(k+1)=i+1+k by omega]at this) h
  simp only[cH,JO,wpOps,uM];cases st with
  |act hg hF hO=>
   rw[bw (Sb R.jD hg)];exact .inl (hO ψ (CR E s) a w _ QQ R.pre (R.room (gH t.len hN)) λψ' Q' v w' hP he=>rest (R.step hF hP he (hd p (by simp))))
  |skip hg=>
   rw[aW (by rw[ZmB R.jD hg];simp)];exact rest (R.undef (hd p (by simp)))
end
theorem mh.refl (E:Env):mh E E:=⟨rfl,λ_=> .inl rfl⟩
theorem mh.trans {E E' Gk:Env} (h:mh E E') (k:mh E' Gk):mh E Gk:=by
 refine⟨k.bO.trans h.bO,λt=>?_⟩;rcases k.get t with e|e
 .rcases h.get t with e'|e'
  .exact .inl (e.trans e')
  grind
 .exact .inr e
section
variable {C:bB} {dst:Nat->Option Nat} {pr ms:al}
theorem Tr.fn (h:Tr C dst pr ms l E s E2 s2):
  ∃(A B:Nat->Env) (ss:Nat->St),A 0=E/\ss 0=s/\ss l.length=s2/\mh (A l.length) E2/\
   ∀k p,l[k]? =some p->mh (A k) (B k)/\Step C dst pr ms p (B k) (ss k) (A (k+1)) (ss (k+1)):=by
 induction h with
 |nil E s=>exact⟨λ_=>E,λ_=>E,λ_=>s,rfl,rfl,rfl,.refl E,λk p h=>by simp at h⟩
 | @iH l E E1 s E2 s2 k _ ih=>
  obtain⟨A,B,ss,h1,h2,h3,h4,h5⟩:=ih;cases l with
  |nil=>
   refine⟨λ_=>E,B,ss,rfl,h2,h3,?_,λk p h=>by simp at h⟩;simp only[yi]at h4;rw[h1]at h4;exact k.trans h4
  |cons p l=>
   refine⟨λi=>if i=0 then E else A i,B,ss,rfl,h2,h3,by simpa using h4,λi q hq=>?_⟩;obtain⟨a,b⟩:=h5 i q hq;refine⟨?_,by simpa using b⟩;by_cases hi:i=0
   .subst hi
    simp only[kV];rw[h1]at a;exact k.trans a
   grind
 | @cons p l E s E1 s1 E2 s2 st _ ih=>
  obtain⟨A,B,ss,h1,h2,h3,h4,h5⟩:=ih;refine⟨λi=>match i with|0=>E|i+1=>A i,λi=>match i with|0=>E|i+1=>B i,λi=>match i with|0=>s|i+1=>ss i,rfl,rfl,h3,h4,λi q hq=>?_⟩;cases i with
  |zero=>
   simp only[lB,fU]at hq;subst hq;refine⟨.refl E,?_⟩;grind
  |succ i=>grind
end
theorem ZwC (h:(EL o acc).testBit j=true): ∃e∈o.after,Region.binds .any e=true/\(j=e.on\/(acc.getD e.on 0).testBit j=true):=by
 unfold EL at h;have key: ∀(l:List Edge) (m:Nat),(l.foldl (λm e=>bif Region.binds .any e then m|||2^e.on|||acc.getD e.on 0 else m) m).testBit j=true->
   m.testBit j=true\/∃e∈l,Region.binds .any e=true/\(j=e.on\/(acc.getD e.on 0).testBit j=true):=by
  intro l;induction l with
  |nil=>exact λm h=> .inl h
  |cons e l ih=>
   grind
 grind
theorem SR (P:Program) (pr:al) (ops:List Oper): ∀(r:List Oper) (acc:al) (k:Nat) (p:gq),(qX P pr ops r acc)[k]? =some p->
  ∃o,r[k]? =some o/\p.bf=EL o (acc++((qX P pr ops r acc).take k).map (·.bf))/\p.k=va pr ops (acc.length+k) p.bf (cls P pr ops o)/\p.dst=o.dst/\p.lk=qV pr ops o
 |[],acc,k,p,h=>by simp[qX]at h
 |o::r,acc,0,p,h=>by
  grind[qX,lB,fU]
 |o::r,acc,k+1,p,h=>by
  simp only[qX,qb]at h;obtain⟨o',h1,h2,h3,h4⟩:=SR P pr ops r _ k p h;refine⟨o',by simpa using h1,?_,?_,h4⟩
  .rw[h2]
   simp[qX]
  grind
theorem Kg (P:Program) (pr:al) (ops:List Oper): ∀(r:List Oper) (acc:al),(qX P pr ops r acc).length=r.length
 |[],_=>rfl
 |o::r,acc=>by simp[qX,Kg P pr ops r]
def N9 (p q:gq):Prop:=TN p.k q.k=false/\Mg p.dst q.lk=false/\Mg q.dst p.lk=false/\Ul p.dst q.dst=false
theorem ZnN {i:Nat} {p:gq} : ∀ {l:List gq},LQ i p l=true->∀(k:Nat) (q:gq),l[k]? =some q->q.bf.testBit i=true\/N9 p q
 |[],_,k,q,h=>by simp at h
 |x::l,h,k,q,hq=>by
  simp only[LQ,aR]at h;cases k with
  |zero=>
   simp only[lB,fU]at hq;subst hq;have h1:=h.1;rw[lz]at h1;refine h1.imp id λh1=>?_
   simp only[aR,kR]at h1;exact⟨h1.1.1.1,h1.1.1.2,h1.1.2,h1.2⟩
  |succ k=>exact ZnN h.2 k q (by simpa using hq)
theorem K4: ∀ {i:Nat} {l:List gq} {os:List Oper},Dt i l os=true->∀(k:Nat) (p:gq),l[k]? =some p->
  p.bf<2^(i+k)/\(∃o,os[k]? =some o/\∀j w,o.guard=some (j,w)->p.bf.testBit j=true)/\∀(m:Nat) (q:gq),k<m->l[m]? =some q->q.bf.testBit (i+k)=true\/N9 p q
 |i,[],os,_,k,p,hp=>by simp at hp
 |i,_::_,[],h,k,p,hp=>by cases h
 |i,x::l,o::os,h,k,p,hp=>by
  simp only[Dt,aR]at h;obtain⟨⟨⟨h1,h2⟩,h3⟩,h4⟩:=h;cases k with
  |zero=>
   simp only[lB,fU]at hp;subst hp;refine⟨by rw[pd]at h1;exact h1,⟨o,rfl,by grind⟩,λm q hm hq=>?_⟩;obtain⟨m',rfl⟩: ∃m',m=m'+1:=⟨m-1,by omega⟩;exact ZnN h3 m' q (by simpa using hq)
  |succ k=>
   obtain⟨a,⟨o',b1,b2⟩,c⟩:=K4 h4 k p (by simpa using hp);grind
theorem ZxQ {e:Edge} (he:e∈o.after) (hb:Region.binds .any e=true):(EL o acc).testBit e.on=true:=by
 unfold EL;have mono: ∀(l:List Edge) (m:Nat),m.testBit e.on=true->(l.foldl (λm e=>bif Region.binds .any e then m|||2^e.on|||acc.getD e.on 0 else m) m).testBit e.on=true:=by
  intro l;induction l with
  |nil=>exact λm h=>h
  |cons x l ih=>
   grind
 have key: ∀(l:List Edge) (m:Nat),e∈l->(l.foldl (λm e=>bif Region.binds .any e then m|||2^e.on|||acc.getD e.on 0 else m) m).testBit e.on=true:=by
  intro l;induction l with
  |nil=>intro m h;cases h
  |cons x l ih=>
   grind
 grind
theorem K7 {mp:Nat->Bool} : ∀(all:List gq) (i:Nat) (is:List gq) (os:List Oper) (k:Nat) (p:Oper×Md),(flags mp all i is os)[k]? =some p->
  ∃q o,is[k]? =some q/\os[k]? =some o/\
   p=(o,.d q.k (bif vx (i+k) q.bf (λ_=>true) 0 all then(bif Wq mp o&& !Ak (i+k) q.bf 0 all then 0 else(match q.k with| .call=>(bif vx (i+k) q.bf FV 0 all then 2 else 1)|_=>1))else 0))
 |all,i,[],os,k,p,h=>by cases os<;>simp[flags]at h
 |all,i,_::_,[],k,p,h=>by simp[flags]at h
 |all,i,q::r,o::os,0,p,h=>by
  grind[flags,lB,fU]
 |all,i,q::r,o::os,k+1,p,h=>by
  simp only[flags,qb]at h;obtain⟨q',o',h1,h2,h3⟩:=K7 all (i+1) r os k p h;grind
theorem Kb {mp:Nat->Bool} : ∀(all:List gq) (i:Nat) (is:List gq) (os:List Oper),is.length=os.length->(flags mp all i is os).length=os.length
 |_,_,[],[],_=>rfl
 |all,i,_::r,_::os,h=>by simp only[flags,cH];rw[Kb all (i+1) r os (by simpa using h)]
 |_,_,[],_::_,h=>by simp at h
 |_,_,_::_,[],h=>by simp at h
theorem ZpO {i bi:Nat} {f:lF->Bool} : ∀ {r:List gq} {j0 j:Nat} {q:gq},r[j]? =some q->i≠j0+j->q.bf.testBit i=false->bi.testBit (j0+j)=false->f q.k=true->vx i bi f j0 r=true
 |[],j0,j,q,h,_,_,_,_=>by simp at h
 |x::r,j0,0,q,h,h1,h2,h3,h4=>by
  simp only[lB,fU]at h;subst h;simp only[fT]at h1 h3;have:Nat.beq i j0=false:=by
   cases e:Nat.beq i j0 with
   |false=>rfl
   |true=>simp_all
  simp[vx,this,h2,h3,h4]
 |x::r,j0,j+1,q,h,h1,h2,h3,h4=>by
  simp only[qb]at h;simp only[vx,lz];exact .inr (ZpO (j0:=j0+1) h (by omega) h2 (by rw[show j0+1+j=j0+(j+1) by omega];exact h3) h4)
theorem Znx {i bi:Nat} : ∀ {r:List gq} {j0 j:Nat} {q:gq},r[j]? =some q->i≠j0+j->q.bf.testBit i=false->bi.testBit (j0+j)=false->(Nat.blt (j0+j) i&&Cx q.k)=false->Ak i bi j0 r=true
 |[],j0,j,q,h,_,_,_,_=>by simp at h
 |x::r,j0,0,q,h,h1,h2,h3,h4=>by
  simp only[lB,fU]at h;subst h;simp only[fT]at h1 h3 h4;have:Nat.beq i j0=false:=by
   cases e:Nat.beq i j0 with
   |false=>rfl
   |true=>simp_all
  simp[Ak,this,h2,h3,h4]
 |x::r,j0,j+1,q,h,h1,h2,h3,h4=>by
  simp only[qb]at h;simp only[Ak,lz];exact .inr (Znx (j0:=j0+1) h (by omega) h2 (by rw[show j0+1+j=j0+(j+1) by omega];exact h3) (by rw[show j0+1+j=j0+(j+1) by omega];exact h4))
def AA (is:List gq) (i k:Nat):Prop:=∃q,is[k]? =some q/\q.bf.testBit i=true
theorem Zsb: ∀(l:List Operand) (m t:Nat),(m.testBit t=true\/Operand.tmp t∈l)->(l.foldl (λm x=>match x with| .tmp t=>m|||2^t|_=>m) m).testBit t=true
 |[],m,t,h=>by
  grind
 |x::l,m,t,h=>by
  simp only[DH];refine Zsb l _ t ?_;grind
theorem Zur (pr:al) (ops:List Oper) (o:Oper) (m:Nat) (t:Nat) (h:m.testBit t=true):
  (match o.op with
   | .load _ (.tmp a)=>(match sE pr ops 12 a with|some r=>m|||2^r|none=>m)
   | .store _ (.tmp a) _=>(match sE pr ops 12 a with|some r=>m|||2^r|none=>m)
   |_=>m).testBit t=true:=by
 grind
theorem ZpP {ops:List Oper} (h:Operand.tmp t∈o.op.operands):(qV pr ops o).testBit t=true:=by
 unfold qV;refine Zur _ _ _ _ _ ?_;have h1:=Zsb o.op.operands.toList 0 t (.inr (by simpa using h));split
 .grind
 .exact h1
theorem Zuh {ops:List Oper} {g:Oper} {r:Nat} {w:Bool} (h:o.guard=some (j,w)) (hj:ops[j]? =some g) (hr:g.dst=some r):(qV pr ops o).testBit r=true:=by
 grind[qV]
theorem ZuJ {ops:List Oper} {r:Nat} (h:cls P pr ops o= .wv r\/cls P pr ops o= .oX r):(qV pr ops o).testBit r=true:=by
 cases ho:o.op with
 |load t a=>
  cases a with
  |tmp a=>
   cases hr:sE pr ops 12 a with
   |none=>simp[cls,ho,hr]at h
   |some q=>
    simp[cls,ho,hr]at h;subst h;simp[qV,ho,hr]
  |_=>simp[cls,ho]at h
 |store t a y=>
  cases a with
  |tmp a=>
   cases hr:sE pr ops 12 a with
   |none=>simp[cls,ho,hr]at h
   |some q=>
    simp[cls,ho,hr]at h;subst h;simp[qV,ho,hr]
  |_=>simp[cls,ho]at h
 |next it b=>
  cases it with
  |tmp t=>
   simp[cls,ho]at h;subst h;exact ZpP (by simp[Op.operands,ho])
  |_=>simp[cls,ho]at h
 |slice t y lo hi mx=>
  simp only[cls,ho]at h;split at h<;>simp at h
 |call q=>
  cases hp:has pr 1000000<;>simp only[cls,ho,hp,ae,af]at h<;>split at h<;>simp at h
 |_=>simp[cls,ho]at h
structure Su (C:bB) (pr ms:List Nat) (ops:Array Oper) (l:List (Oper×Md)) (is:List gq) (m:Nat) (A B:Nat->Env) (ss:Nat->St):Prop where
 yW:is=qX C.P pr ops.toList ops.toList []
 hl:l=flags C.mp is 0 is ops.toList
 ok:Dt 0 is ops.toList=true
 hm:m<=ops.size
 w: ∀k,k<=m->mh (A k) (B k)
 st: ∀k p,k<m->l[k]? =some p->Step C (mQ ops) pr ms p (B k) (ss k) (A (k+1)) (ss (k+1))
 e0:jd (A 0)
theorem Step.opF (h:Step C dst pr ms p E s E' s'):mg (mM p.2 E) pr ms p.1 E s E' s':=by
 cases h with
 |act _ hF _=>exact hF
 |skip _=>exact mg.WG pr ms .un rfl λ_ _ _ _ h=>by cases h
section
variable {C:bB} {pr ms:al} {ops:Array Oper} {l:List (Oper×Md)} {is:List gq} {m:Nat} {A B:Nat->Env} {ss:Nat->St}
theorem Su.isLen (S:Su C pr ms ops l is m A B ss):is.length=ops.size:=by rw[S.yW,Kg];simp
theorem Su.Nx (S:Su C pr ms ops l is m A B ss):l.length=ops.size:=by rw[S.hl,Kb _ _ _ _ (by rw[S.isLen];simp)];simp
structure OpT (C:bB) (pr:List Nat) (ops:Array Oper) (is:List gq) (k:Nat) (p:Oper×Md) (q:gq) (x:Nat):Prop where
 iq:is[k]? =some q
 op:ops[k]? =some p.1
 md:p.2= .d q.k x
 kc:q.k=va pr ops.toList k q.bf (cls C.P pr ops.toList p.1)
 dst:q.dst=p.1.dst
 lk:q.lk=qV pr ops.toList p.1
 lt: ∀j,q.bf.testBit j=true->j<k
 gd: ∀j w,p.1.guard=some (j,w)->q.bf.testBit j=true
 on: ∀e∈p.1.after,Region.binds .any e=true->q.bf.testBit e.on=true
 adP: ∀j,q.bf.testBit j=true->∃e∈p.1.after,Region.binds .any e=true/\(j=e.on\/AA is j e.on)
 zero:x=0->∀j q',is[j]? =some q'->k≠j->q'.bf.testBit k=true\/q.bf.testBit j=true\/(j<k/\Cx q'.k=true)
 two:q.k= .call->∀j q',is[j]? =some q'->k≠j->FV q'.k=true->q'.bf.testBit k=true\/q.bf.testBit j=true\/2<=x
theorem Su.get (S:Su C pr ms ops l is m A B ss) (hp:l[k]? =some p): ∃q x,OpT C pr ops is k p q x:=by
 rw[S.hl]at hp;obtain⟨q,o,h1,h2,h3⟩:=K7 _ _ _ _ _ _ hp;rw[ej]at h3;have h1':=h1;rw[S.yW]at h1';obtain⟨o',g1,g2,g3,g4,g5⟩:=SR _ _ _ _ _ _ _ h1';rw[h2]at g1;cases g1;obtain⟨k1,⟨o',k2,k3⟩,_⟩:=K4 S.ok k q h1;rw[h2]at k2;cases k2;rw[ej]at k1;have ax: ∀j,q.bf.testBit j=true->j<k:=by
  intro j hj;rcases jH j k with h|h
  .exact h
  .have:q.bf<2^j:=lE k1 (l9 (by omega) h)
   rw[Gi this]at hj;cases hj
 have bs: ∀f:lF->Bool,∀j q',is[j]? =some q'->k≠j->f q'.k=true->vx k q.bf f 0 is=false->q'.bf.testBit k=true\/q.bf.testBit j=true:=by
  intro f j q' hq du hf hb;cases e1:q'.bf.testBit k with
  |true=>exact .inl rfl
  |false=>
   cases e2:q.bf.testBit j with
   |true=>exact .inr rfl
   |false=>rw[ZpO (i:=k) (bi:=q.bf) (f:=f) (j0:=0) hq (by omega) e1 (by rw[ej];exact e2) hf]at hb;cases hb
 have vz: ∀j q',is[j]? =some q'->k≠j->Ak k q.bf 0 is=false->q'.bf.testBit k=true\/q.bf.testBit j=true\/(j<k/\Cx q'.k=true):=by
  intro j q' hq du hb;cases e1:q'.bf.testBit k with
  |true=>exact .inl rfl
  |false=>
   cases e2:q.bf.testBit j with
   |true=>exact .inr (.inl rfl)
   |false=>
    cases e3:(Nat.blt j k&&Cx q'.k)with
    |false=>rw[Znx (i:=k) (bi:=q.bf) (j0:=0) hq (by omega) e1 (by rw[ej];exact e2) (by rw[ej];exact e3)]at hb;cases hb
    |true=>
     rw[aR,pd]at e3;exact .inr (.inr e3)
 refine⟨q,_,h1,?_,by rw[h3],by rw[h3];simp_all,by rw[h3];exact g4,by rw[h3];exact g5,ax,by grind,λe he hb=>by rw[g2];exact ZxQ (by rw[h3]at he;exact he) hb,λj hj=>?_,λhx j q' hq du=>?_,λhc j q' hq du hh=>?_⟩
 .rw[h3,<-jE];exact h2
 .rw[g2]at hj
  obtain⟨e,he,hb,hj⟩:=ZwC hj;rw[h3];refine⟨e,he,hb,hj.imp id λhj=>?_⟩;simp only[gU,dX]at hj;have Bc:((((is.take k).map λx:gq=>x.bf)[e.on]?).getD 0).testBit j=true:=by rw[S.yW];exact hj
  cases hx:((is.take k).map λx:gq=>x.bf)[e.on]? with
  |none=>rw[hx]at Bc;simp at Bc
  |some b=>
   rw[hx]at Bc;rw[oY]at hx;cases hy:(is.take k)[e.on]? with
   |none=>rw[hy]at hx;cases hx
   |some q'=>
    rw[hy]at hx;simp only[mb,fU]at hx;rw[sL]at hy;split at hy
    .exact⟨q',hy,by rw[hx];exact Bc⟩
    .cases hy
 .grind
 .cases hb:vx k q.bf FV 0 is with
  |false=>grind
  |true=>
   cases cV:vx k q.bf (λ_=>true) 0 is with
   |false=>grind
   |true=>
    cases Dc:Wq C.mp o&& !Ak k q.bf 0 is with
    |true=>
     rw[aR,kR]at Dc;rcases vz j q' hq du Dc.2 with h|h|⟨_,h⟩
     .exact .inl h
     .exact .inr (.inl h)
     .exfalso
      generalize q'.k=z at hh h;cases z<;>simp[FV,Cx]at hh h
    |false=>grind
theorem Su.F (S:Su C pr ms ops l is m A B ss) (hk:k<m) (hp:l[k]? =some p):mg (mM p.2 (B k)) pr ms p.1 (B k) (ss k) (A (k+1)) (ss (k+1)):=(S.st k p hk hp).opF
theorem Su.BB (S:Su C pr ms ops l is m A B ss) (hk:k<m): ∃p,l[k]? =some p:=by
 have:=S.Nx;have:=S.hm;exact⟨l[k]'(by omega),bU _⟩
theorem Su.uz (S:Su C pr ms ops l is m A B ss): ∀k,k<=m->jd (B k)
 |0,h=>S.e0.iH (S.w 0 h)
 |k+1,h=>by
  obtain⟨p,hp⟩:=S.BB (k:=k) (by omega);exact((S.F (by omega) hp).gJ (S.uz k (by omega))).iH (S.w (k+1) h)
theorem Ch (h:mh E E') (x:dD):dU E' s x↔dU E s x:=by
 simp[dU,h.bO]
theorem Su.abo (S:Su C pr ms ops l is m A B ss) (hk:k<m) (hd:dU (B k) (ss k) h):dU (A (k+1)) (ss (k+1)) h:=by
 obtain⟨p,hp⟩:=S.BB hk;have hF:=S.F hk hp;cases h with
 |inl i=>exact lE hd hF.len
 |inr v=>exact lE hd hF.bO
theorem Su.qD (S:Su C pr ms ops l is m A B ss) {h:dD} {j:Nat} : ∀(d:Nat),j+d<=m->dU (B j) (ss j) h->dU (B (j+d)) (ss (j+d)) h
 |0,_,hd=>hd
 |d+1,hk,hd=>(Ch (S.w (j+d+1) hk) h).2 (S.abo (k:=j+d) (by omega) (S.qD d (by omega) hd))
theorem Su.ux (S:Su C pr ms ops l is m A B ss) (uN:j<=k) (hk:k<=m) (hd:dU (B j) (ss j) h):dU (B k) (ss k) h:=by
 have:=S.qD (j:=j) (k-j) (by omega) hd;rwa [show j+(k-j)=k by omega]at this
def Wr (l:List (Oper×Md)) (B:Nat->Env) (i:Nat) (h:dD):Prop:=∃p,l[i]? =some p/\mM p.2 (B i) h
theorem Su.back (S:Su C pr ms ops l is m A B ss) {h:dD} {ab:AB} {j:Nat} : ∀(d:Nat),j+d<=m->(∀i,j<=i->i<j+d->¬Wr l B i h)->dU (B j) (ss j) h->CR (B (j+d)) (ss (j+d)) h ab->CR (B j) (ss j) h ab
 |0,_,_,_,c=>c
 |d+1,hk,hw,hd,c=>by
  obtain⟨p,hp⟩:=S.BB (k:=j+d) (by omega);rcases(S.F (by omega) hp).back h ab (c.iH (S.w _ hk))with x|x|x
  .exact absurd ⟨p,hp,x⟩ (hw (j+d) (by omega) (by omega))
  .exact absurd (S.qD d (by omega) hd) x.1
  .exact S.back d (by omega) (by grind) hd x
theorem Su.Ma (S:Su C pr ms ops l is m A B ss) (uN:j<=k) (hk:k<=m) (hw: ∀i,j<=i->i<k->¬Wr l B i h) (hd:dU (B j) (ss j) h) (c:CR (B k) (ss k) h ab):CR (B j) (ss j) h ab:=by
 have:=S.back (j:=j) (ab:=ab) (k-j) (by omega) (by grind) hd;rw[show j+(k-j)=k by omega]at this;exact this c
theorem Su.fix (S:Su C pr ms ops l is m A B ss) {x:Nat} {j:Nat} : ∀(d:Nat),j+d<=m->(∀i,j<=i->i<j+d->¬Wr l B i (.inl x))->x<(ss j).length->(ss (j+d))[x]? =(ss j)[x]?
 |0,_,_,_=>rfl
 |d+1,hk,hw,hx=>by
  obtain⟨p,hp⟩:=S.BB (k:=j+d) (by omega);have hd:x<(ss (j+d)).length:=S.qD (h:= .inl x) d (by omega) hx;have:=(S.F (by omega) hp).aao x (λhi=>hw (j+d) (by omega) (by omega) ⟨p,hp,hi⟩) hd;rw[show j+(d+1)=j+d+1 by omega,this,S.fix d (by omega) (by grind) hx]
theorem Su.bH (S:Su C pr ms ops l is m A B ss) {ψ:Ps} {x:Value} {t:Nat} {j:Nat} : ∀(d:Nat),j+d<=m->(∀i p,j<=i->i<j+d->l[i]? =some p->p.1.dst≠some t)->fy C ψ ((B j).get t) x->fy C ψ ((B (j+d)).get t) x
 |0,_,_,r=>r
 |d+1,hk,hw,r=>by
  obtain⟨p,hp⟩:=S.BB (k:=j+d) (by omega);have:=(S.F (by omega) hp).bH t (by grind) C ψ x (S.bH d (by omega) (by grind) r);rcases(S.w _ hk).get t with e|e
  .rw[e];exact this
  .rw[e];trivial
theorem Su.val (S:Su C pr ms ops l is m A B ss) {t j:Nat} {x:DV} : ∀(d:Nat),j+d<=m->(∀i p,j<=i->i<j+d->l[i]? =some p->p.1.dst≠some t)->(B (j+d)).get t= .v x->(B j).get t= .v x
 |0,_,_,e=>e
 |d+1,hk,hw,e=>by
  obtain⟨p,hp⟩:=S.BB (k:=j+d) (by omega);refine S.val d (by omega) (by grind) ((S.F (by omega) hp).val t x (by grind) ?_);rcases(S.w _ hk).get t with e'|e'
  .exact e'.symm.trans e
  grind
theorem Zrf (h:mh E E') {v:Nat} (e:(E'.get t).cX=some v):(E.get t).cX=some v:=by
 rcases h.get t with e'|e'
 .rw[<-e'];exact e
 .rw[e']at e;cases e
theorem mg.cX {W:dD->Prop} {o:Oper} {E E':Env} {s s':St} (hF:mg W pr ms o E s E' s') {t v:Nat} (e:(E'.get t).cX=some v):(E.get t).cX=some v\/(E.bO<=v/\o.dst=some t):=by
 cases he:E'.get t with
 |loc v' n cs=>
  rw[he]at e;simp only[eH.cX,fU]at e;subst e;exact(hF.wA t _ n cs he).imp (λ⟨c,h⟩=>by rw[h];rfl) id
 |it v' s p=>
  rw[he]at e;simp only[eH.cX,fU]at e;subst e;exact(hF.yf t _ s p he).imp (λ⟨c,h⟩=>by rw[h];rfl) id
 |_=>rw[he]at e;cases e
theorem Su.cX (S:Su C pr ms ops l is m A B ss) {t v j:Nat} : ∀(d:Nat),j+d<=m->v<(B j).bO->((B (j+d)).get t).cX=some v->((B j).get t).cX=some v
 |0,_,_,e=>e
 |d+1,hk,hv,e=>by
  obtain⟨p,hp⟩:=S.BB (k:=j+d) (by omega);have hd:v<(B (j+d)).bO:=S.qD (h:= .inr v) d (by omega) hv;rcases(S.F (by omega) hp).cX (Zrf (S.w _ hk) e)with h|h
  .exact S.cX d (by omega) hv h
  .omega
theorem Su.aaA (S:Su C pr ms ops l is m A B ss) {v:Nat} (uN:j<=k) (hk:k<=m) (hv:v<(B j).bO) (e:((B k).get t).cX=some v):((B j).get t).cX=some v:=
 S.cX (j:=j) (k-j) (by omega) hv (by rwa [show j+(k-j)=k by omega])
end
theorem Zuf (k k':lF):yI k k'=yI k' k:=by
 cases k<;>cases k'<;>simp only[yI]<;>(rw[iQ];grind[Nat.beq_eq])
theorem Zr0 {k:lF} (h:TN k k'=false):yI k k'=false:=by
 cases k<;>cases k'<;>first|exact h|cases h
theorem ZrU {k:lF} {x:Nat} (c:yI k k'=false) (h2:k= .call->FV k'=true->2<=x) (hv: ∀r q v,(E.get r).cX=some v->(E'.get q).cX=some v->r=q)
  (hb: ∀bs b,k= .ap bs->k'= .lp b->b∈bs->∀j p,E.get b= .v (.ptr (some (j,p)))->E'.get b= .v (.ptr (some (j,p)))):
  ∀h,mM (.d k x) E h->¬pA (.d k' x') E' h:=by
 intro h hw hd;cases k<;>cases k'<;>first
  |exact hw.elim
  |exact hd.elim
  |(simp[yI]at c;done)
  |(have h3:=h2 rfl rfl;have h4:=hw.1;omega)
  |(obtain⟨i,rfl⟩:=hw;obtain⟨v,e,_⟩:=hd;cases e;done)
  |(obtain⟨_,i,rfl⟩:=hw;obtain⟨v,e,_⟩:=hd;cases e;done)
  |(obtain⟨v,rfl,_⟩:=hw;obtain⟨i,e⟩:=hd;cases e;done)
  |(obtain⟨v,rfl,_⟩:=hw;obtain⟨i,p,_,e⟩:=hd;cases e;done)
  |(obtain⟨i,rfl,_⟩:=hw;obtain⟨v,e,_⟩:=hd;cases e;done)
  |(obtain⟨v,rfl,e1⟩:=hw
    obtain⟨v',e,e2⟩:=hd;cases e;have:=hv _ _ _ e1 e2;subst this;simp[yI]at c)
  |(rename_i bs b
    obtain⟨i,rfl,hw⟩:=hw;obtain⟨i',p',e1,e2⟩:=hd;cases e2;have gB:b∈bs:=by
     have:has bs b=true:=by simpa [yI]using c
     exact(Hr _ _).1 this
    grind)
theorem ZvA {ops:List Oper} (h:sQ o):cls P pr ops o= .hp\/cls P pr ops o= .call\/cls P pr ops o= .ap []:=by
 unfold sQ at h;cases ho:o.op<;>rw[ho]at h<;>simp only at h
 case call q=>
  split at h
  .rename_i hq
   cases hp:has pr 1000000 with
   |true=>simp[cls,ho,hq,hp]
   |false=>simp[cls,ho,hq,hp]
  .rename_i hq;simp[cls,ho,hq]
  .exact h.elim
 all_goals exact .inl (by simp[cls,ho])
theorem Zth {ops:List Oper} (h:sQ o) (k m:Nat):va pr ops k m (cls P pr ops o)= .hp\/va pr ops k m (cls P pr ops o)= .call\/∃bs,va pr ops k m (cls P pr ops o)= .ap bs:=by
 rcases ZvA (P:=P) (pr:=pr) (ops:=ops) h with e|e|e<;>rw[e]
 .exact .inl rfl
 .exact .inr (.inl rfl)
 .exact .inr (.inr ⟨_,rfl⟩)
theorem Ztm {k:lF} {x:Nat} (h:k= .hp\/k= .call\/∃bs,k= .ap bs) (i:Nat):pA (.d k x) E (.inl i):=by
 rcases h with rfl|rfl|⟨bs,rfl⟩<;>exact⟨i,rfl⟩
theorem Zwg {ops:List Oper} {b:Nat} {c:lF} (h:va pr ops k m c= .lp b):c= .lp b:=by
 cases c<;>first|exact h|cases h
theorem Zve {ops:List Oper} {b:Nat} {c:lF} (h:va pr ops k m c= .oX b):c= .oX b:=by
 cases c<;>first|exact h|cases h
theorem ZwO {ops:List Oper} {c:lF} {bs:al} (h:va pr ops k m c= .ap bs):bs=(HG m 0 (ops.take k)).filter λb=>I8 b (ops.take k)&&(sE pr ops 12 b).isNone:=by
 cases c<;>cases h
 rfl
theorem Zyp {ops:List Oper} {b:Nat} (h:cls P pr ops o= .lp b):xU b o=true:=by
 unfold xU;cases ho:o.op with
 |load t a=>
  cases a with
  |tmp a=>
   cases hr:sE pr ops 12 a with
   |none=>simp[cls,ho,hr]at h;simp[h]
   |some q=>simp[cls,ho,hr]at h
  |_=>simp[cls,ho]at h
 |store t a y=>
  cases a with
  |tmp a=>cases hr:sE pr ops 12 a<;>simp[cls,ho,hr]at h
  |_=>simp[cls,ho]at h
 |next it b=>cases it<;>simp[cls,ho]at h
 |slice t y lo hi mx=>
  simp only[cls,ho]at h;split at h<;>simp at h
 |call q=>
  cases hp:has pr 1000000<;>simp only[cls,ho,hp,ae,af]at h<;>split at h<;>simp at h
 |_=>simp[cls,ho]at h
theorem Zqb {b:Nat} : ∀ {L:List Oper},I8 b L=true->∀(i j:Nat) (o o':Oper),L[i]? =some o->xU b o=true->i<=j->L[j]? =some o'->o'.dst≠some b
 |[],_,i,j,o,o',h,_,_,_=>by simp at h
 |x::r,h,i,j,o,o',hi,hl,pQ,hj=>by
  unfold I8 at h;cases hx:xU b x with
  |true=>
   rw[hx]at h;simp only[ae]at h;have:=lA.1 h o' (oZ hj);intro e;rw[e]at this;simp at this
  |false=>
   rw[hx]at h;simp only[af]at h;cases i with
   |zero=>
    grind
   |succ i=>
    obtain⟨j,rfl⟩: ∃j',j=j'+1:=⟨j-1,by omega⟩;exact Zqb h i j o o' (by simpa using hi) hl (by omega) (by simpa using hj)
section
variable {C:bB} {pr ms:al} {ops:Array Oper} {l:List (Oper×Md)} {is:List gq} {m:Nat} {A B:Nat->Env} {ss:Nat->St}
abbrev DW (A B:Nat->Env) (ss:Nat->St) (i:Nat) (h:dD):Prop:=wK (B i) (ss i) (A (i+1)) (ss (i+1)) h
structure JV (pr ms:List Nat) (ops:Array Oper) (l:List (Oper×Md)) (A B:Nat->Env) (ss:Nat->St) (i k:Nat) (p p':Oper×Md):Prop where
 d1: ∀t,p.1.dst=some t->(qV pr ops.toList p'.1).testBit t=false
 d2: ∀t,p'.1.dst=some t->(qV pr ops.toList p.1).testBit t=false
 d3: ∀t,p.1.dst=some t->p'.1.dst≠some t
 w1: ∀h,mM p.2 (B i) h->¬pA p'.2 (B k) h
 w2: ∀h,mM p'.2 (B k) h->¬pA p.2 (B i) h
 n1: ∀h,DW A B ss i h->¬mM p'.2 (B k) h
 n2: ∀h,DW A B ss k h->¬mM p.2 (B i) h
theorem Su.XD (S:Su C pr ms ops l is m A B ss) (Fv:i<k) (hk:k<m) (hp:l[i]? =some p) (fB:l[k]? =some p') (hn: ¬AA is i k):JV pr ms ops l A B ss i k p p':=by
 obtain⟨q,x,T⟩:=S.get hp;obtain⟨q',x',T'⟩:=S.get fB;have xA:N9 q q':=by
  obtain⟨_,_,h⟩:=K4 S.ok i q T.iq;rcases h k q' Fv T'.iq with h|h
  .rw[ej]at h;exact absurd ⟨q',T'.iq,h⟩ hn
  .exact h
 obtain⟨ct,e1,e2,e3⟩:=xA;have c:=Zr0 ct;rw[T.dst,T'.lk]at e1;rw[T'.dst,T.lk]at e2;rw[T.dst,T'.dst]at e3;have hv: ∀r t v,((B i).get r).cX=some v->((B k).get t).cX=some v->r=t:=λr t v h1 h2=>
  (S.uz i (by omega)).uniq r t v h1 (S.aaA (by omega) (by omega) ((S.uz i (by omega)).lt r v h1) h2)
 have w1: ∀h,mM p.2 (B i) h->¬pA p'.2 (B k) h:=by
  rw[T.md,T'.md];refine ZrU c (λh1 h2=>?_) hv (λbs b h1 h2=>by rw[h1,h2]at ct;cases ct);rcases T.two h1 k q' T'.iq (by omega) h2 with h|h|h
  .exact absurd ⟨q',T'.iq,h⟩ hn
  .have:=T.lt k h;omega
  .exact h
 have w2: ∀h,mM p'.2 (B k) h->¬pA p.2 (B i) h:=by
  rw[T.md,T'.md];refine ZrU (by rw[Zuf];exact c) (λh1 h2=>?_) (by grind) (λbs b h1 h2 gB j pp hg=>?_);rotate_left
  .have xC:=ZwO (T'.kc.symm.trans h1)
   rw[xC,zN]at gB;have tD:xU b p.1=true:=Zyp (Zwg (T.kc.symm.trans h2));have ef:ops.toList[i]? =some p.1:=by rw[jE];exact T.op
   refine S.val (j:=i) (k-i) (by omega) (λi' FX g1 g2 g3=>?_) (by rw[show i+(k-i)=k by omega];exact hg);obtain⟨q'',x'',T''⟩:=S.get g3;have ae2:ops.toList[i']? =some FX.1:=by rw[jE];exact T''.op
   exact Zqb (Bool.and_eq_true_iff.1 gB.2).1 i i' p.1 FX.1 (by rw[sL,bw (by omega)];exact ef) tD g1 (by rw[sL,bw (by omega)];exact ae2)
  rcases T'.two h1 i q T.iq (by omega) h2 with h|h|h
  .have:=T.lt k h;omega
  .exact absurd ⟨q',T'.iq,h⟩ hn
  .exact h
 have d1: ∀t,p.1.dst=some t->(qV pr ops.toList p'.1).testBit t=false:=λt h=>by rw[h]at e1;exact e1
 refine⟨d1,λt h=>by rw[h]at e2;exact e2,λt h h'=>?_,w1,w2,λh iY hw=>?_,λh iY hw=>?_⟩
 .rw[h,h']at e3
  grind[Ul,BL]
 .cases h with
  |inl y=>
   have hF:=S.F (by omega) hp;rcases hF.grow with hg|hg
   .have h1:=iY.1;have h2:=iY.2
    grind[dU]
   .refine w2 _ hw ?_
    rw[T.md,T.kc];exact Ztm (Zth hg _ _) y
  |inr v=>
   rw[T'.md]at hw;cases hq:q'.k<;>rw[hq]at hw<;>first|exact hw.elim|skip
   .obtain⟨y,e⟩:=hw;cases e
   .obtain⟨_,y,e⟩:=hw;cases e
   .rename_i r
    obtain⟨v',e,eJ⟩:=hw;cases e;have ax:v<(B (i+1)).bO:=by rw[(S.w (i+1) (by omega)).bO];exact iY.2
    have h1:=Zrf (S.w (i+1) (by omega)) (S.aaA (by omega) (by omega) ax eJ);rcases(S.F (by omega) hp).cX h1 with h2|⟨_,h2⟩
    .exact iY.1 ((S.uz i (by omega)).lt r v h2)
    .have h3:=d1 r h2
     have h4:=ZuJ (P:=C.P) (pr:=pr) (ops:=ops.toList) (o:=p'.1) (r:=r) (.inr (Zve (T'.kc.symm.trans hq)));rw[h3]at h4;cases h4
   .obtain⟨y,e,_⟩:=hw;cases e
 .cases h with
  |inl y=>
   have hF:=S.F hk fB;rcases hF.grow with hg|hg
   .have h1:=iY.1;have h2:=iY.2
    grind[dU]
   .refine w1 _ hw ?_
    rw[T'.md,T'.kc];exact Ztm (Zth hg _ _) y
  |inr v=>
   rw[T.md]at hw;cases hq:q.k<;>rw[hq]at hw<;>first|exact hw.elim|skip
   .obtain⟨y,e⟩:=hw;cases e
   .obtain⟨_,y,e⟩:=hw;cases e
   .rename_i r
    obtain⟨v',e,eJ⟩:=hw;cases e;have:dU (B i) (ss i) (.inr v):=(S.uz i (by omega)).lt r v eJ;exact iY.1 (S.ux (by omega) (by omega) this)
   .obtain⟨y,e,_⟩:=hw;cases e
theorem Zoi {a:Act} (R: ∀j w r,o.guard=some (j,w)->mQ ops j=some r->fy C ψ (E.get r) (a.tmps.getD r undef)) (h:GW (mQ ops) E o):Region.wanted o (yielded ops a.tmps)=true:=by
 unfold Region.wanted;rcases h with h|⟨j,w,r,h1,h2,h3⟩
 .rw[h]
 .have hr:=R j w r h1 h2
  rw[h1];rw[Lm]at h2;rw[h3]at hr;have:a.tmps.getD r undef= .bool w:=by generalize a.tmps.getD r undef=x at hr;cases hr;rfl
  simp[yielded,h2,Lc a r w this]
theorem Zrb {a:Act} (R: ∀j w r,o.guard=some (j,w)->mQ ops j=some r->fy C ψ (E.get r) (a.tmps.getD r undef)) (h:GU (mQ ops) E o):Region.wanted o (yielded ops a.tmps)=false:=by
 unfold Region.wanted;obtain⟨j,w,r,h1,h2,h3⟩:=h;have hr:=R j w r h1 h2;rw[h1];rw[Lm]at h2;rcases h3 with⟨b,h3,hb⟩|h3
 .rw[h3]at hr
  have:a.tmps.getD r undef= .bool b:=by generalize a.tmps.getD r undef=x at hr;cases hr;rfl
  simp[yielded,h2,Lc a r b this,hb]
 .rw[h3]at hr
  have hr:a.tmps.getD r undef=undef:=hr;have:a.tmps[r]? =none\/a.tmps[r]? =some undef:=by
   rw[rh]at hr;grind
  have hy:yielded ops a.tmps j=none:=by
   unfold yielded;rw[h2];rcases this with e|e<;>simp[e,undef]
  simp[hy]
theorem Zvp (st:Step C (mQ ops) pr ms p E s E' s') {a:Act} (pre:aD C p.1 (pA p.2 E) E s ψ Q a w) (room:J2 E s E' s' ψ)
  (hg: ∀j w r,p.1.guard=some (j,w)->mQ ops j=some r->fy C ψ (E.get r) (a.tmps.getD r undef)) (hi:ops[i]? =some p.1) {K:Act->World->Prop}
  (h: ∀ψ' Q' v w',JZ C (pA p.2 E) (mM p.2 E) E s E' s' ψ Q w ψ' Q' w'->(∀d,p.1.dst=some d->fy C ψ' (E'.get d) v)->K (a.put p.1.dst v) w'):wpOp C.P ops QQ i K a w:=by
 unfold wpOp;simp only[hi];cases st with
 |act g hF hO=>
  rw[bw (Zoi hg g)];exact .inl (hO ψ Q a w K QQ pre room h)
 |skip g=>
  rw[aW (by rw[Zrb hg g];simp)];refine h ψ Q undef w ⟨pre.eL,.refl _ _ _,λh cb e=> .inl e,λh ab cb c hw e=>?_,λh ab cb e q _ _=>q⟩ λd hd=>?_
  .rcases hw with hw|⟨n1,n2⟩
   .exact pre.jC h ab cb (Ly _ _ _ hw) (c.eU rfl) e
   .exact absurd (by cases h<;>simpa [dU]using n2) n1
  .rw[Env.j5,bw hd];rfl
structure Inv (C:bB) (f:Fr) (l:List (Oper×Md)) (is:List gq) (m:Nat) (A B:Nat->Env) (ss:Nat->St) (ψi:Ps) (L:Nat->Prop) (a:Act) (w:World) (ψ:Ps) (Q:Kn):Prop where
 eL:fa C ψ Q w
 gr:rz ψ w
 kF:Glob C ψ
 jD: ∀t j,j<=m->(∀i p,i<j->l[i]? =some p->¬L i->p.1.dst≠some t)->(∀i p,j<=i->l[i]? =some p->L i->p.1.dst≠some t)->fy C ψ ((B j).get t) (a.tmps.getD t undef)
 jC: ∀h j ab cb,j<=m->(∀i,i<j->¬L i->¬Wr l B i h)->(∀i,j<=i->L i->¬Wr l B i h)->CR (B j) (ss j) h ab->ψ h=some cb->Q h ab
 free: ∀i h,i<m->¬L i->DW A B ss i h->ψ h=none
 news: ∀h cb,ψ h=some cb->ψi h=some cb\/(¬dU (B 0) (ss 0) h/\dU (B m) (ss m) h)
 ext:Ext f.il (CS f.s0) f.w0 ψ Q w
 nk:Ks f a
 defs:a.defers=f.Uk
 sub: ∀i,L i->i<m
 down: ∀i k,L k->AA is i k->L i
theorem Zyt (hE:jd E) (c:CR E s h ab) (c':CR E s h cR):ab=cR:=by
 cases h with
 |inl i=>
  have h1:dc s i=some ab:=c;have h2:dc s i=some cR:=c';rw[h1]at h2;grind
 |inr v=>
  rcases c with⟨t,n,cs,e,rfl⟩|⟨t,l,p,e,rfl⟩<;>rcases c' with⟨t',n',cs',e',rfl⟩|⟨t',l',p',e',rfl⟩<;>
   (have:=hE.uniq t t' v (by rw[e];rfl) (by rw[e'];rfl);subst this;rw[e]at e';cases e';try rfl)
theorem Su.born (S:Su C pr ms ops l is m A B ss) {h:dD} {j:Nat} : ∀(d:Nat),j+d<=m->¬dU (B j) (ss j) h->dU (B (j+d)) (ss (j+d)) h->∃k,j<=k/\k<j+d/\DW A B ss k h
 |0,_,hn,hd=>absurd hd hn
 |d+1,hk,hn,hd=>by
  have oJ:dU (A (j+d+1)) (ss (j+d+1)) h:=(Ch (S.w _ hk) h).1 hd;by_cases e:dU (B (j+d)) (ss (j+d)) h
  .obtain⟨k,h1,h2,h3⟩:=S.born d (by omega) hn e
   grind
  .exact⟨j+d,by omega,by omega,e,oJ⟩
theorem Zyb {v:Nat} (h:(E.get t).cX=some v): ∃ab,CR E s (.inr v) ab:=by
 cases he:E.get t with
 |loc v' n cs=>
  rw[he]at h;simp only[eH.cX,fU]at h;subst h;exact⟨_,.inl ⟨t,n,cs,he,rfl⟩⟩
 |it v' x p=>
  rw[he]at h;simp only[eH.cX,fU]at h;subst h;exact⟨_,.inr ⟨t,x,p,he,rfl⟩⟩
 |_=>rw[he]at h;cases h
variable {f:Fr} {ψi:Ps} {L:Nat->Prop} {a:Act} {w:World} {ψ:Ps} {Q:Kn}
theorem Inv.pre (S:Su C pr ms ops l is m A B ss) (I:Inv C f l is m A B ss ψi L a w ψ Q) (hi:i<=m) (_hp:l[i]? =some p) (hL: ¬L i) (ag9: ∀j,AA is j i->L j)
  (iJ: ∀k p',k<i->l[k]? =some p'->¬L k->(∀t,p'.1.dst=some t->(qV pr ops.toList p.1).testBit t=false)/\∀h,mM p'.2 (B k) h->¬pA p.2 (B i) h) (j7: ∀k p',i<k->l[k]? =some p'->L k->JV pr ms ops l A B ss i k p p'):
  aD C p.1 (pA p.2 (B i)) (B i) (ss i) ψ Q a w/\∀j w r,p.1.guard=some (j,w)->mQ ops j=some r->fy C ψ ((B i).get r) (a.tmps.getD r undef):=by
 have jD: ∀t,(qV pr ops.toList p.1).testBit t=true->fy C ψ ((B i).get t) (a.tmps.getD t undef):=by
  intro t ht;refine I.jD t i hi (λk p' hk fB hl e=>?_) (λk p' hk fB hl e=>?_)
  .have:=(iJ k p' hk fB hl).1 t e
   rw[ht]at this;cases this
  .rcases Nat.eq_or_lt_of_le hk with h|h
   .subst h;exact hL hl
   .have:=(j7 k p' h fB hl).d2 t e
    rw[ht]at this;cases this
 refine⟨⟨I.eL,I.gr,I.kF,S.uz i hi,λh ab cb hD c e=>I.jC h i ab cb hi (λk hk hl=>?_) (λk hk hl=>?_) c e,λt ht=>jD t (ZpP ht)⟩,λj w r hg hr=>jD r ?_⟩
 .rintro⟨p',fB,hw⟩
  grind
 .rintro⟨p',fB,hw⟩
  rcases Nat.eq_or_lt_of_le hk with e|e
  .subst e;exact hL hl
  .exact(j7 k p' e fB hl).w2 h hw hD
 .unfold mQ at hr
  split at hr
  .rename_i o ho;exact Zuh hg ho hr
  .cases hr
theorem Inv.step (S:Su C pr ms ops l is m A B ss) (I:Inv C f l is m A B ss ψi L a w ψ Q) (hi:i<m) (hp:l[i]? =some p) (hL: ¬L i) (Db: ∀j,AA is j i->L j)
  (hd: ∀x,p.1.dst=some x->f.ok x=true) {K:Act->World->Prop}
  (h: ∀a' w' ψ' Q',Inv C f l is m A B ss ψi (λj=>L j\/j=i) a' w' ψ' Q'->K a' w'):wpOp C.P ops QQ i K a w:=by
 have iJ: ∀k p',k<i->l[k]? =some p'->¬L k->JV pr ms ops l A B ss k i p' p:=λk p' hk fB hl=>S.XD hk hi fB hp λhb=>hl (Db k hb)
 have j7: ∀k p',i<k->l[k]? =some p'->L k->JV pr ms ops l A B ss i k p p':=λk p' hk fB hl=>S.XD hk (I.sub k hl) hp fB λhb=>hL (I.down i k hl hb)
 obtain⟨pre,hg⟩:=I.pre S (Nat.le_of_lt hi) hp hL Db (λk p' hk fB hl=>⟨(iJ k p' hk fB hl).d1,(iJ k p' hk fB hl).w1⟩) j7;obtain⟨q,x,T⟩:=S.get hp;refine Zvp (S.st i p hi hp) pre (λk hk=>I.free i k hi hL hk) hg T.op λψ' Q' v w' P he=>h _ _ ψ' Q' ?_
 have ael: ∀k h,k<m->¬(L k\/k=i)->DW A B ss k h->ψ' h=none:=by
  intro k h hk hl iY;cases e:ψ' h with
  |none=>rfl
  |some cb=>
   rcases P.news h cb e with e|e
   .rw[I.free k h hk (λx=>hl (.inl x)) iY]at e;cases e
   .rcases Nat.lt_trichotomy i k with Fv|Fv|Fv
    .exact absurd (S.ux (j:=i+1) (by omega) (by omega) ((Ch (S.w (i+1) (by omega)) h).2 e.2)) iY.1
    .omega
    .exact absurd (S.ux (j:=k+1) (by omega) (by omega) ((Ch (S.w (k+1) (by omega)) h).2 iY.2)) e.1
 refine⟨P.eL,P.ext.gr I.gr,P.ext.kF I.kF,λt j hj c1 c2=>?_,λh j ab cb hj c1 c2 c e=>?_,ael,λh cb e=>?_,I.ext.trans P.ext,I.nk.put hd,by rw[Kt];exact I.defs,λk hk=>?_,λj k hk hb=>?_⟩
 .rw[Ho λx hx=>by rw[I.nk.1];exact f.Jh x (hd x hx)]
  by_cases Fm:p.1.dst=some t
  .rw[bw Fm]
   have pQ:i<j:=by
    grind
   have h1:fy C ψ' ((B (i+1)).get t) v:=by
    rcases(S.w (i+1) (by omega)).get t with e|e
    .rw[e];exact he t Fm
    .rw[e];trivial
   have:=S.bH (j:=i+1) (ψ:=ψ') (x:=v) (t:=t) (j-(i+1)) (by omega) (λk p' h1 h2 fB=>?_) h1
   .rwa [show i+1+(j-(i+1))=j by omega]at this
   .by_cases hl:L k
    .exact(j7 k p' (by omega) fB hl).d3 t Fm
    grind
  .rw[aW Fm]
   refine(I.jD t j hj (λk p' hk fB hl=>?_) (by grind)).mono P.ext.mono;by_cases e:k=i
   .grind
   grind
 .by_cases hw:mM p.2 (B i) h\/DW A B ss i h
  .have pQ:i<j:=by
    rcases jH i j with h'|h'
    .exact h'
    .rcases hw with hw|hw
     .exact absurd ⟨p,hp,hw⟩ (c2 i h' (.inr rfl))
     .exact absurd (S.ux h' (by omega) (c.qD (S.uz j hj))) hw.1
   have gL: ∀k,i+1<=k->k<j->¬Wr l B k h:=by
    rintro k h1 h2 ⟨p',fB,vZ⟩;by_cases hl:L k
    .rcases hw with hw|hw
     .exact(j7 k p' (by omega) fB hl).w2 h vZ (Ly _ _ _ hw)
     .exact(j7 k p' (by omega) fB hl).n1 h hw vZ
    .exact c1 k (by omega) (by grind) ⟨p',fB,vZ⟩
   have aee:dU (B (i+1)) (ss (i+1)) h:=by
    rcases hw with hw|hw
    .by_cases e0:dU (B (i+1)) (ss (i+1)) h
     .exact e0
     .obtain⟨k,k1,k2,k3⟩:=S.born (j:=i+1) (j-(i+1)) (by omega) e0 (by rw[show i+1+(j-(i+1))=j by omega];exact c.qD (S.uz j hj))
      obtain⟨p',fB⟩:=S.BB (k:=k) (by omega);by_cases hl:L k
      .exact absurd hw ((j7 k p' (by omega) fB hl).n2 h k3)
      grind
    .exact(Ch (S.w (i+1) (by omega)) h).2 hw.2
   exact P.p1 h ab cb ((S.Ma (by omega) hj gL aee c).iH (S.w (i+1) (by omega))) hw e
  .have e0:ψ h=some cb:=by
    rcases P.news h cb e with e|e
    .exact e
    grind
   have aeT: ¬Wr l B i h:=by
    rintro⟨p',fB,vZ⟩;rw[hp]at fB;grind
   have hQ:=I.jC h j ab cb hj (λk hk hl=>by
    by_cases e:k=i
    .subst e;exact aeT
    grind) (by grind) c e0
   refine P.p2 h ab cb e0 hQ (λx=>hw (.inl x)) λhD adX=>?_
   rcases jH j i with kH|kH
   .have gL: ∀k,j<=k->k<i->¬Wr l B k h:=by
     rintro k h1 h2 ⟨p',fB,vZ⟩;by_cases hl:L k
     .exact c2 k h1 (.inl hl) ⟨p',fB,vZ⟩
     .exact(iJ k p' h2 fB hl).w1 h vZ hD
    cases h with
    |inl y=>
     have c':dc (ss j) y=some ab:=c;have:=S.fix (x:=y) (j:=j) (i-j) (by omega) (by grind) (Cs c');rw[show j+(i-j)=i by omega]at this;show dc (ss i) y=some ab;grind[dc]
    |inr v=>
     have xP: ∃r,((B i).get r).cX=some v:=by
      rw[T.md]at hD;cases hq:q.k<;>rw[hq]at hD<;>first|exact hD.elim|(obtain⟨y,e⟩:=hD;cases e;done)|(obtain⟨y,p',_,e⟩:=hD;cases e;done)|(obtain⟨v',e,hv⟩:=hD;grind)
     obtain⟨r,hr⟩:=xP;obtain⟨cR,c'⟩:=Zyb (s:=ss i) hr;have c2':=S.Ma (Nat.le_of_lt kH) (Nat.le_of_lt hi) gL (c.qD (S.uz j hj)) c';rw[Zyt (S.uz j hj) c c2'];exact c'
   .refine S.Ma kH hj (λk h1 h2=>?_) adX c
    rintro⟨p',fB,vZ⟩;rcases Nat.eq_or_lt_of_le h1 with e|e
    .grind
    .by_cases hl:L k
     .exact(j7 k p' e fB hl).w2 h vZ hD
     .exact c1 k h2 (by grind) ⟨p',fB,vZ⟩
 .rcases P.news h cb e with e|e
  .exact I.news h cb e
  .exact .inr ⟨λx=>e.1 (S.ux (cn _) (by omega) x),S.ux (j:=i+1) (by omega) (aL _) ((Ch (S.w (i+1) (by omega)) h).2 e.2)⟩
 .rcases hk with hk|hk
  .exact I.sub k hk
  .omega
 .rcases hk with hk|hk
  .exact .inl (I.down j k hk hb)
  grind
end
theorem ZtH: ∀(l:List Bool) (i:Nat),l[i]? =some false->(l.set i true).count false+1=l.count false
 |[],i,h=>by simp at h
 |b::l,0,h=>by
  grind
 |b::l,i+1,h=>by
  grind
def mL (listed:Array Bool) (i:Nat):Prop:=listed[i]? =some true
theorem Zxl (hi:i<listed.size) (j:Nat):mL (listed.setIfInBounds i true) j↔mL listed j\/j=i:=by
 grind[mL]
theorem TB (hi:i<listed.size) (h: ¬mL listed i):listed[i]? =some false:=by
 simp_all[mL]
theorem Zpx (h:i∈Region.ready .any ops listed):i<ops.size/\¬mL listed i/\∀o,ops[i]? =some o->∀e∈o.after,Region.binds .any e=true->mL listed e.on:=by
 unfold Region.ready at h;obtain⟨h1,h2⟩:=zN.1 h;rw[yj]at h1;simp only[aR,kR]at h2;refine⟨h1,λhl=>?_,λo ho e he hb=>?_⟩
 .simp_all[mL]
 .have h3:=h2.2
  rw[ho]at h3;simp only[mb,Option.getD_some]at h3;rw[Array.all_eq_true']at h3;have:=h3 e he;rw[hb]at this;simp only[bm,sK]at this;unfold mL;rw[rh]at this;grind
theorem ZvD (ho:ops[i]? =some o) (hl:listed[i]? =some false) (h: ∀e∈o.after,Region.binds .any e=true->mL listed e.on):i∈Region.ready .any ops listed:=by
 unfold Region.ready;refine zN.2 ⟨(by grind),?_⟩;simp only[aR,kR];refine⟨by rw[rh,hl];rfl,?_⟩;rw[ho];simp only[mb,Option.getD_some];rw[Array.all_eq_true'];intro e he;cases hb:Region.binds .any e with
 |false=>rfl
 |true=>
  simp_all[mL]
section
variable {C:bB} {pr ms:al} {ops:Array Oper} {l:List (Oper×Md)} {is:List gq} {m:Nat} {A B:Nat->Env} {ss:Nat->St}
variable {f:Fr} {ψi:Ps} {L:Nat->Prop} {a:Act} {w:World} {ψ:Ps} {Q:Kn}
theorem Su.aal (S:Su C pr ms ops l is m A B ss) {listed:Array Bool} (cB:listed.size=ops.size): ∀(n i:Nat),i<n->i<ops.size->¬mL listed i->Region.ready .any ops listed≠[]
 |0,i,h,_,_=>absurd h (DO i)
 |n+1,i,hn,hi,hl=>by
  have hp:l[i]? =some (l[i]'(by rw[S.Nx];exact hi)):=bU _;obtain⟨q,x,T⟩:=S.get hp;by_cases h: ∀e∈(l[i]'(by rw[S.Nx];exact hi)).1.after,Region.binds .any e=true->mL listed e.on
  .intro e
   have:=ZvD T.op (TB (by omega) hl) h;rw[e]at this;cases this
  .simp only[Classical.not_forall]at h
   obtain⟨e,he,hb,hle⟩:=h;have:=T.lt _ (T.on e he hb);exact S.aal cB n e.on (by omega) (by omega) hle
theorem Inv.congr (I:Inv C f l is m A B ss ψi L a w ψ Q) (h: ∀i,L i↔L' i):Inv C f l is m A B ss ψi L' a w ψ Q:=by
 have:L=L':=funext λi=>propext (h i)
 rw[<-this];exact I
theorem Zr5 (S:Su C pr ms ops l is m A B ss) (hd: ∀p∈l,∀x,p.1.dst=some x->f.ok x=true)
  (qt:Nat->Prop) (bar:m<ops.size->(∀k,m<k->k<ops.size->AA is m k)/\∀i,i<m->AA is i m\/qt i)
  (fin:m=ops.size->∀a w ψ Q L,(∀i,i<m->L i)->Inv C f l is m A B ss ψi L a w ψ Q->QQ .normal a w)
  (eZ:m<ops.size->∀K a w ψ Q L,(∀i,i<m->L i\/qt i)->Inv C f l is m A B ss ψi L a w ψ Q->wpOp C.P ops QQ m K a w):
  ∀(n:Nat) (listed:Array Bool) (a:Act) (w:World) (ψ:Ps) (Q:Kn),listed.size=ops.size->listed.toList.count false<=n->Inv C f l is m A B ss ψi (mL listed) a w ψ Q->wpAny C.P .any ops QQ n listed a w:=by
 have all: ∀(listed:Array Bool) (a:Act) (w:World) (ψ:Ps) (Q:Kn),listed.size=ops.size->Region.ready .any ops listed=[]->Inv C f l is m A B ss ψi (mL listed) a w ψ Q->QQ .normal a w:=by
  intro listed a w ψ Q cB hr I;have cS: ∀i,i<ops.size->mL listed i:=λi hi=>Classical.byContradiction λhn=>S.aal cB (i+1) i (by omega) hi hn hr
  have hm:m=ops.size:=by
   rcases jH m ops.size with h|h
   .have:=I.sub m (cS m h);omega
   .exact Nat.le_antisymm S.hm h
  grind
 intro n;induction n with
 |zero=>
  intro listed a w ψ Q cB hc I;have hr:Region.ready .any ops listed=[]:=by
   cases hr:Region.ready .any ops listed with
   |nil=>rfl
   |cons i r=>
    obtain⟨h1,h2,_⟩:=Zpx (i:=i) (ops:=ops) (listed:=listed) (by rw[hr];simp);have:=ZtH listed.toList i (by rw[jE];exact TB (by omega) h2);omega
  exact⟨hr,all listed a w ψ Q cB hr I⟩
 |succ n ih=>
  intro listed a w ψ Q cB hc I;refine⟨by grind,λi hi=>?_⟩;obtain⟨h1,h2,h3⟩:=Zpx hi;have hp:l[i]? =some (l[i]'(by rw[S.Nx];exact h1)):=bU _;obtain⟨q,x,T⟩:=S.get hp;have Db: ∀j,AA is j i->mL listed j:=by
   rintro j ⟨q',hq,hb⟩;rw[T.iq]at hq;cases hq;obtain⟨e,he,hbi,hj⟩:=T.adP j hb;have hl:=h3 _ T.op e he hbi;rcases hj with rfl|hj
   .exact hl
   .exact I.down _ _ hl hj
  have XZ:=ZtH listed.toList i (by rw[jE];exact TB (by omega) h2);rcases Nat.lt_trichotomy i m with CZ|CZ|CZ
  .refine I.step S CZ hp h2 Db (hd _ (jG _)) λa' w' ψ' Q' I'=>?_
   exact ih _ _ _ ψ' Q' (by simpa using cB) (by rw[Array.toList_setIfInBounds];omega) (I'.congr λj=>(Zxl (by omega) j).symm)
  .grind
  .have:=I.sub m (by grind)
   omega
theorem Rel.drew {E:Env} {s:St} (R:Rel C f ψ E s a w):Rel C f ψ E s a { w with drawn:=w.drawn+1 } where
 eL:=R.eL.more R.gr (gQ.drew w)
 gJ:=R.gJ
 gr:=R.gr
 kF:=R.kF
 jD:=R.jD
 nk:=R.nk
 defs:=R.defs
 sI:=R.sI
 vd:=R.vd
 ext:=R.ext.trans (Ext.more (gQ.drew w))
 news:=R.news
 len:=R.len
 fin:=R.fin
theorem Su.start (S:Su C pr ms ops l is m A B ss) (R:Rel C f ψ (A 0) (ss 0) a w) (hN:(ss m).length<=f.N):Inv C f l is m A B ss ψ (λ_=>False) a w ψ (CR (B 0) (ss 0)):=by
 have R0:=R.iH (S.w 0 (cn _));have XF: ∀h cb,ψ h=some cb->dU (B m) (ss m) h->dU (B 0) (ss 0) h:=by
  intro h cb e hd;cases h with
  |inl i=>
   rcases jH i (ss 0).length with h|h
   .exact h
   .rw[R0.sI i h (lE hd hN)]at e;cases e
  |inr v=>
   rcases jH v (B 0).bO with h|h
   .exact h
   .rw[R0.vd v h]at e;cases e
 refine⟨R0.eL,R0.gr,R0.kF,λt j hj c1 _=>?_,λh j ab cb hj c1 _ c e=>?_,λi h hi _ hn=>?_,λh cb e=> .inl e,R0.ext,R0.nk,R0.defs,λ_ h=>h.elim,λ_ _ h=>h.elim⟩
 .have:=S.bH (j:=0) (ψ:=ψ) (x:=a.tmps.getD t undef) (t:=t) j (by omega) (by grind) (R0.jD t)
  rwa [ej]at this
 .exact S.Ma (cn _) hj (by grind) (XF h cb e (S.ux hj (aL _) (c.qD (S.uz j hj)))) c
 .cases e:ψ h with
  |none=>rfl
  |some cb=>
   have h1:dU (B m) (ss m) h:=S.ux (j:=i+1) (by omega) (aL _) ((Ch (S.w (i+1) (by omega)) h).2 hn.2);exact absurd (S.ux (cn _) (Nat.le_of_lt hi) (XF h cb e h1)) hn.1
theorem Inv.tail (S:Su C pr ms ops l is m A B ss) (R:Rel C f ψi (A 0) (ss 0) a0 w0) (I:Inv C f l is m A B ss ψi L a w ψ Q):
  (∀i,(ss m).length<=i->i<f.N->ψ (.inl i)=none)/\(∀i cb,ψ (.inl i)=some cb->f.il (.inl i)=some cb\/(f.s0.length<=i/\i<(ss m).length))/\f.s0.length<=(ss m).length:=by
 have hlen:(ss 0).length<=(ss m).length:=by
  rcases yl (ss 0).length with h|h
  .omega
  .have:=S.ux (h:= .inl ((ss 0).length-1)) (cn m) (aL m) (by simp only[dU];omega)
   grind[dU]
 refine⟨λi h1 h2=>?_,λi cb e=>?_,gH R.len hlen⟩
 .cases e:ψ (.inl i)with
  |none=>rfl
  |some cb=>
   rcases I.news _ cb e with e|⟨_,e⟩
   .rw[R.sI i (by omega) h2]at e;cases e
   grind[dU]
 .rcases I.news _ cb e with e|⟨h1,h2⟩
  .rcases R.news i cb e with h|⟨h1,h2⟩
   .exact .inl h
   omega
  .simp only[dU]at h1 h2
   exact .inr ⟨by have:=R.len;omega,h2⟩
theorem Inv.done (S:Su C pr ms ops l is m A B ss) (R:Rel C f ψi (A 0) (ss 0) a0 w0) (I:Inv C f l is m A B ss ψi L a w ψ Q) (hL: ∀i,i<m->L i):Rel C f ψ (B m) (ss m) a w:=by
 have ahz:(B 0).bO=(A 0).bO:=(S.w 0 (cn _)).bO;have hlen:(ss 0).length<=(ss m).length:=by
  rcases yl (ss 0).length with h|h
  .omega
  .have:=S.ux (h:= .inl ((ss 0).length-1)) (cn m) (aL m) (by simp only[dU];omega)
   grind[dU]
 have jC: ∀h ab cb,ψ h=some cb->CR (B m) (ss m) h ab->Q h ab:=λh ab cb e c=>I.jC h m ab cb (aL _) (by grind) (λi hi hl=>by have:=I.sub i hl;omega) c e
 refine⟨I.eL.weaken jC,S.uz m (aL _),I.gr,I.kF,λt=>I.jD t m (aL _) (by grind) (λi p hi _ hl=>by have:=I.sub i hl;omega),I.nk,I.defs,λi h1 h2=>?_,λv hv=>?_,I.ext.weaken jC,λi cb e=>?_,gH R.len hlen,R.fin⟩
 .cases e:ψ (.inl i)with
  |none=>rfl
  |some cb=>
   rcases I.news _ cb e with e|⟨_,e⟩
   .rw[R.sI i (by omega) h2]at e;cases e
   grind[dU]
 .cases e:ψ (.inr v)with
  |none=>rfl
  |some cb=>
   rcases I.news _ cb e with e|⟨_,e⟩
   .refine absurd e ?_
    have:v<(B m).bO\/(A 0).bO<=v:= .inr (by
     rcases jH v (A 0).bO with h|h
     .have:=S.ux (h:= .inr v) (cn m) (aL m) (by simp only[dU];omega)
      grind[dU]
     .exact h)
    rw[R.vd v (by omega)];simp
   grind[dU]
 .rcases I.news _ cb e with e|⟨h1,h2⟩
  .rcases R.news i cb e with h|⟨h1,h2⟩
   .exact .inl h
   omega
  .simp only[dU]at h1 h2
   exact .inr ⟨by have:=R.len;omega,h2⟩
end
section
variable {C:bB} {f:Fr} {ψ:Ps} {E E2:Env} {s s2:St} {a:Act} {w:World} {pr ms:al}
theorem nA.fn (h:nA C dst pr ms l E s s2):
  ∃(m:Nat) (p:Oper×Md) (A B:Nat->Env) (ss:Nat->St),l[m]? =some p/\A 0=E/\ss 0=s/\GW dst (B m) p.1/\p.2.x=0/\wL C p.1 (pA p.2 (B m)) (B m) (ss m) s2/\(∀k,k<=m->mh (A k) (B k))/\
   ∀k p,k<m->l[k]? =some p->Step C dst pr ms p (B k) (ss k) (A (k+1)) (ss (k+1)):=by
 induction h with
 | @iH l E E1 s s2 k _ ih=>
  obtain⟨m,p,A,B,ss,h1,h2,h3,h4,h5,h6,h7,h8⟩:=ih;refine⟨m,p,λi=>if i=0 then E else A i,B,ss,h1,rfl,h3,h4,h5,h6,λi hi=>?_,λi q hi hq=>by grind⟩;have:=h7 i hi;by_cases e:i=0
  .subst e
   simp only[kV];rw[h2]at this;exact k.trans this
  grind
 | @here p l E s s' g hx hp=>
  exact⟨0,p,λ_=>E,λ_=>E,λ_=>s,rfl,rfl,rfl,g,hx,hp,λ_ _=> .refl E,λk _ hk=>by omega⟩
 | @next p l E s E1 s1 s2 st _ ih=>
  obtain⟨m,p',A,B,ss,h1,h2,h3,h4,h5,h6,h7,h8⟩:=ih;refine⟨m+1,p',λi=>match i with|0=>E|i+1=>A i,λi=>match i with|0=>E|i+1=>B i,λi=>match i with|0=>s|i+1=>ss i,by simpa using h1,rfl,rfl,h4,h5,h6,λi hi=>?_,λi q hi hq=>?_⟩
  .cases i with
   |zero=>exact .refl E
   |succ i=>exact h7 i (by omega)
  grind
theorem Zro (n:Nat) (i:Nat): ¬mL (Array.replicate n false) i:=by
 grind[mL]
theorem Zyf (yW:is=qX C.P pr ops.toList ops.toList []) (hl:l=flags C.mp is 0 is ops.toList) (fk:Dt 0 is ops.toList=true)
  (t:Tr C (mQ ops) pr ms l E s E2 s2) (R:Rel C f ψ E s a w) (hN:s2.length<=f.N) (hd: ∀p∈l,∀x,p.1.dst=some x->f.ok x=true)
  (h: ∀ψ' a' w',Rel C f ψ' E2 s2 a' w'->QQ .normal a' w'):wpAny C.P .any ops QQ ops.size (Array.replicate ops.size false) a w:=by
 have hlen:l.length=ops.size:=by rw[hl,Kb _ _ _ _ (by rw[yW,Kg])];simp
 obtain⟨A,B,ss,h1,h2,h3,h4,h5⟩:=t.fn;have S:Su C pr ms ops l is ops.size A (λk=>if k=ops.size then E2 else B k) ss:=by
  refine⟨yW,hl,fk,aL _,λk hk=>?_,λk p hk hp=>?_,by rw[h1];exact R.gJ⟩
  .by_cases e:k=ops.size
   .grind
   .simp only[e,jI]
    exact(h5 k _ (bU (by omega))).1
  grind
 rw[<-h1,<-h2]at R;refine Zr5 (f:=f) S hd (λ_=>False) (by omega) (λ_ a' w' ψ' Q' L hL I=>?_) (by omega) _ _ _ _ _ _ (by simp) (by rw[Array.toList_replicate,List.count_replicate_self];exact aL _)
  ((S.start R (by rw[<-hlen,h3];exact hN)).congr λi=>⟨False.elim,Zro _ i⟩)
 have:=I.done S R hL;grind
theorem Zxk (yW:is=qX C.P pr ops.toList ops.toList []) (hl:l=flags C.mp is 0 is ops.toList) (fk:Dt 0 is ops.toList=true)
  (t:nA C (mQ ops) pr ms l E s s2) (R:Rel C f ψ E s a w) (hN:s2.length<=f.N) (hd: ∀p∈l,∀x,p.1.dst=some x->f.ok x=true)
  (h: ∀ch a' w',oi ch->rE C f s2 a' w'->QQ (.panic ch) a' w'):wpAny C.P .any ops QQ ops.size (Array.replicate ops.size false) a w:=by
 have hlen:l.length=ops.size:=by rw[hl,Kb _ _ _ _ (by rw[yW,Kg])];simp
 obtain⟨m,p,A,B,ss,hp,h1,h2,hg,hx,uR,hw,ca⟩:=t.fn;have hm:m<ops.size:=by
  grind
 have S:Su C pr ms ops l is m A B ss:=⟨yW,hl,fk,by omega,hw,ca,by rw[h1];exact R.gJ⟩;have hmN:(ss m).length<=f.N:=gH uR.1 hN;rw[<-h1,<-h2]at R;obtain⟨q,x,T⟩:=S.get hp;have Nk:x=0:=by rw[T.md]at hx;exact hx
 have hz:=T.zero Nk;refine Zr5 (f:=f) (ψi:=ψ) S hd (λi=>∀q',is[i]? =some q'->Cx q'.k=true/\q.bf.testBit i=false/\q'.bf.testBit m=false) (λ_=>⟨λk h1 h2=>?_,λi hi=>?_⟩) (λe=>by omega) (λ_ K a' w' ψ' Q' L hL I=>?_) _ _ _ _ _ _ (by simp) (by rw[Array.toList_replicate,List.count_replicate_self];exact aL _)
  ((S.start R hmN).congr λi=>⟨False.elim,Zro _ i⟩)
 .have hq:is[k]? =some (is[k]'(by rw[S.isLen];exact h2)):=bU _
  rcases hz k _ hq (by omega)with h|h|h
  .exact⟨_,hq,h⟩
  .have:=T.lt k h;omega
  .omega
 .have hq:is[i]? =some (is[i]'(by rw[S.isLen];omega)):=bU _
  have late:(is[i]'(by rw[S.isLen];omega)).bf.testBit m=false:=by
   cases h:(is[i]'(by rw[S.isLen];omega)).bf.testBit m with
   |false=>rfl
   |true=>
    have hpi:l[i]? =some (l[i]'(by omega)):=bU _;obtain⟨q',x',T'⟩:=S.get hpi;have e:=T'.iq;rw[hq]at e;cases e;have:=T'.lt m h;omega
  cases hb:q.bf.testBit i with
  |true=>exact .inl ⟨q,T.iq,hb⟩
  |false=>
   grind
 .have hLm: ¬L m:=λh=>by have:=I.sub m h;omega
  obtain⟨pre,xE⟩:=I.pre S (aL m) hp hLm (λj hb=>by
   obtain⟨q',e,hb⟩:=hb;rw[T.iq]at e;cases e;rcases hL j (T.lt j hb)with h|h
   .exact h
   .have hq:is[j]? =some (is[j]'(by rw[S.isLen];have:=T.lt j hb;omega)):=bU _
    rw[(h _ hq).2.1]at hb;cases hb) (λk p' hk fB hl=>by
   obtain⟨q',x',T'⟩:=S.get fB;rcases hL k hk with h|h
   .exact absurd h hl
   .obtain⟨h1,h2,_⟩:=h q' T'.iq
    refine⟨λt ht=>?_,λy hw=>?_⟩
    .obtain⟨_,_,ha⟩:=K4 S.ok k q' T'.iq
     rcases ha m q hk T.iq with ha|ha
     .rw[ej,h2]at ha;cases ha
     .obtain⟨_,e1,_,_⟩:=ha
      rw[T'.dst,T.lk,ht]at e1;exact e1
    .rw[T'.md]at hw
     generalize q'.k=z at h1 hw;cases z<;>first|exact hw.elim|cases h1) (λk p' hk _ hl=>by have:=I.sub k hl;omega)
  obtain⟨ag5,aaW,ag4⟩:=I.tail S R;unfold wpOp;simp only[T.op];rw[bw (Zoi xE hg)];refine .inl (uR.2 ψ' Q' a' w' K QQ pre (λk hk=>?_) λF9 DX ch wB g0 g1 g2 g3 g4=>h ch a' wB g0 ⟨I.defs,I.nk,_,Go.Gv.yH (s':=s2) R.fin g1 (I.ext.trans g2) g4 λi cb e=>?_⟩)
  .cases k with
   |inl i=>
    have h1:=hk.1;have h2:=hk.2
    grind[dU]
   |inr v=>
    have h1:=hk.1;have h2:=hk.2
    exact absurd h2 h1
  .rcases g3 _ cb e with e|⟨n1,n2⟩
   .rcases aaW i cb e with h|⟨h1,h2⟩
    .exact .inl h
    .exact .inr ⟨h1,lE h2 uR.1⟩
   grind[dU]
end
variable {K:Env->M β}
section
variable {C:bB} {f:Fr} {ψ:Ps} {E E2:Env} {s s2:St} {a:Act} {w:World} {pr:al}
theorem EC: ∀ {l:List Oper} {n:Nat->Bool},okO n l=true->∀o∈l,∀x,o.dst=some x->n x=true
 |[],_,_,o,ho,_,_=>by cases ho
 |y::r,n,h,o,ho,x,hx=>by
  simp only[okO,aR]at h;cases ho with
  |head=>
   have h1:=h.1;rw[hx]at h1;exact h1
  |tail _ ho=>exact EC h.2 o ho x hx
theorem Zt1 (pr:al) (ops:List Oper) (y:Oper) (r:List Oper) (x:Nat) (h:has (match y.dst with|some d=>d::xV pr ops r|none=>xV pr ops r) x=true):has (xV pr ops (y::r)) x=true:=by
 rw[xV];split
 .split
  .simp only[has,lz];exact .inr h
  .exact h
 .simp only[has,lz];exact .inr h
 .exact h
theorem Zvz {ops:List Oper} {x:Nat} (hx:o.dst=some x): ∀(l:List Oper),o∈l->has (xV pr ops l) x=true:=by
 intro l;induction l with
 |nil=>intro ho;cases ho
 |cons y r ih=>
  intro ho;refine Zt1 pr ops y r x ?_;cases ho with
  |head=>rw[hx];simp[has]
  |tail _ ho=>
   have:=ih ho;cases y.dst with
   |none=>exact this
   |some d=>simp[has,this]
theorem Zr7 (hC:og C) (hc:ZQ C c) {d:Bool} (h:NM C pr c ops d E K s=some r):
  (∃E' s',s.length<=s'.length/\K E' s'=some r/\Mod (λu=>has (lW pr (.region 0 ops d)) u=false) E E'/\
   ∀ {f:Fr} {ψ:Ps} {a:Act} {w:World} (QQ:Exit->Act->World->Prop) (id:Nat),Rel C f ψ E s a w->C.P.follows .mixedOrders=true->okO f.ok ops.toList=true->s'.length<=f.N->
    (∀ψ' a' w',Rel C f ψ' E' s' a' w'->QQ .normal a' w')->(Code.region id ops d).wp C.P QQ a w)\/
  (∃s',r=(.eZ,s')/\s.length<=s'.length/\
   ∀ {f:Fr} {ψ:Ps} {a:Act} {w:World} (QQ:Exit->Act->World->Prop) (id:Nat),Rel C f ψ E s a w->C.P.follows .mixedOrders=true->okO f.ok ops.toList=true->s'.length<=f.N->
    (∀ch a' w',oi ch->rE C f s' a' w'->QQ (.panic ch) a' w')->(Code.region id ops d).wp C.P QQ a w):=by
 have afN: ∀(l:List (Oper×Md)),(∀p∈l,p.1∈ops.toList)->∀u,has (lW pr (.region 0 ops d)) u=false->J4 (xV pr ops.toList ops.toList) l u:=by
  intro l hl u hu;refine⟨λp hp e=>?_,hu⟩;have:=Zvz (pr:=pr) (ops:=ops.toList) e _ (hl p hp);simp only[lW]at hu;rw[hu]at this;cases this
 have wk: ∀ {l:List (Oper×Md)} {E':Env},(∀p∈l,p.1∈ops.toList)->Mod (J4 (xV pr ops.toList ops.toList) l) E E'->Mod (λu=>has (lW pr (.region 0 ops d)) u=false) E E':=
  λhl m=>⟨λu hu=>m.get u (afN _ hl u hu),m.bO,m.wA,m.yf⟩
 cases d with
 |false=>
  simp only[NM,af]at h;have hl: ∀p∈ops.toList.map (λo=>(o,Md.s)),p.1∈ops.toList:=by
   simp
  have hi: ∀k p,(ops.toList.map λo=>(o,Md.s))[k]? =some p->ops[0+k]? =some p.1:=by
   simp
  have cB:(ops.toList.map λo=>(o,Md.s)).length=ops.size:=by simp
  rcases Zp1 (dst:=mQ ops) hC hc (ops:=ops.toList) _ _ _ _ _ _ h (λp hp=>by obtain⟨o,_,rfl⟩:=tN.1 hp;exact .inl rfl) (λg hg=>by cases hg)with⟨E',s',t,hk,_,hm⟩|⟨s',e,t⟩
  .refine .inl ⟨E',s',t.len,hk,wk hl hm,λQQ id R _ ho hN hn=>wp_region ?_⟩
   have:=ZwY (QQ:=QQ) t R hN (λp hp x hx=>EC ho p.1 (hl p hp) x hx) hi hn;rw[cB]at this;rwa [List.range_eq_range']
  .refine .inr ⟨s',e,t.len,λQQ id R _ ho hN hn=>wp_region ?_⟩
   have:=Zvb (QQ:=QQ) t R hN (λp hp x hx=>EC ho p.1 (hl p hp) x hx) hi hn;rw[cB]at this;rwa [List.range_eq_range']
 |true=>
  simp only[NM,ae]at h;obtain⟨fk,h⟩:=Zp h;have hl: ∀p∈flags C.mp (qX C.P pr ops.toList ops.toList []) 0 (qX C.P pr ops.toList ops.toList []) ops.toList,p.1∈ops.toList:=by
   intro p hp;obtain⟨k,hk⟩:=DI hp;obtain⟨q,o,_,h2,rfl⟩:=K7 _ _ _ _ _ _ hk;grind
  rcases Zp1 (dst:=mQ ops) hC hc (ops:=ops.toList) _ _ _ _ _ _ h (λp hp=>by
   obtain⟨k,hk⟩:=DI hp;obtain⟨q,o,h1,h2,rfl⟩:=K7 _ _ _ _ _ _ hk;obtain⟨o',g1,_,g3,_,_⟩:=SR _ _ _ _ _ _ _ h1;rw[h2]at g1;cases g1;exact .inr ⟨_,_,_,by rw[g3]⟩) (λg hg=>by cases hg)with⟨E',s',t,hk,_,hm⟩|⟨s',e,t⟩
  .exact .inl ⟨E',s',t.len,hk,wk hl hm,λQQ id R hf ho hN hn=>wp_region_any hf (Zyf rfl rfl fk t R.drew hN (λp hp x hx=>EC ho p.1 (hl p hp) x hx) hn)⟩
  .exact .inr ⟨s',e,t.len,λQQ id R hf ho hN hn=>wp_region_any hf (Zxk rfl rfl fk t R.drew hN (λp hp x hx=>EC ho p.1 (hl p hp) x hx) hn)⟩
end
theorem fa.cast (hS:fa C ψ Q w) (hc: ∀h cb ab,ψ' h=some cb->Q' h ab->ψ h=some cb/\∃cR,Q h cR/\(ab.gO=true->cR.gO=true)/\(Holds C ψ w cb cR->Holds C ψ' w cb ab)):fa C ψ' Q' w:=by
 constructor
 .intro h cb ab e q
  obtain⟨e0,cR,q0,_,hh⟩:=hc h cb ab e q;exact hh (hS.holds h cb cR e0 q0)
 .intro h cb ab h' fM cR e q hs e' q' hn
  obtain⟨e0,x,q0,s0,_⟩:=hc h cb ab e q;obtain⟨e1,y,q1,_,_⟩:=hc h' fM cR e' q';exact hS.tq h cb x h' fM y e0 q0 (s0 hs) e1 q1 hn
theorem Ext.cast (hE:Ext il Q0 w0 ψ Q w) (hm: ∀h cb,il h=some cb->ψ' h=some cb) (hp: ∀h cb,ψ' h=some cb->ψ h=some cb)
  (hc: ∀h cb ab,ψ' h=some cb->Q' h ab->∃cR,Q h cR/\(ab.gO=true->cR.gO=true)):Ext il Q0 w0 ψ' Q' w where
 mono:=hm
 sD:=λh cb e=>hE.sD h cb (hp h cb e)
 size:=hE.size
 jB:=hE.jB
 gO:=λb ⟨h,cb,ab,e,q,hs,hb⟩=>by
  obtain⟨cR,q',iB⟩:=hc h cb ab e q;exact hE.gO b ⟨h,cb,cR,hp h cb e,q',iB hs,hb⟩
 live:=λh cb x e q=>by
  obtain⟨cR,q',_⟩:=hc h cb x (hm h cb e) q;exact hE.live h cb cR e q'
 tape:=hE.tape
 os:=hE.os
 output:=hE.output
def tn (ψ:Ps) (N:Nat):Ps
 | .inl i=>ψ (.inl i)
 | .inr v=>if v<N then ψ (.inr v)else none
theorem RT (e:tn ψ N h=some cb):ψ h=some cb:=by
 grind[tn]
structure Ob (cs cs':List DV):Prop where
 len:cs'.length=cs.length
 rel: ∀(C:bB) ψ vs,bE C ψ cs vs->bE C ψ cs' vs
 one:cs.all one=true->cs'.all one=true
theorem Holds.abc {f:Bool} (k:Ob cs cs') (h:Holds C ψ w cb (.cells f cs)):Holds C ψ w cb (.cells f cs'):=by
 obtain⟨h1,h2,h3,h4⟩:=h;refine⟨by rw[k.len];exact h1,k.one h2,λj d hd=>?_,h4⟩;have hv:bE C ψ cs ((List.range cs.length).map λj=>(w.cell? ⟨cb.b,cb.o+j,none⟩).getD undef):=by
  refine bE.of _ _ (by simp) λj d v g1 g2=>?_
  grind
 obtain⟨v,eJ,hr⟩:=(k.rel C ψ _ hv).get hd;rw[oY]at eJ;have hj:j<cs.length:=by
  grind
 rw[List.getElem?_range hj]at eJ;simp only[mb,fU]at eJ;obtain⟨v',hc,_⟩:=h3 j cs[j] (bU hj);rw[hc]at eJ;grind
inductive Wj (e:eH):eH->Prop
 |u:Wj e .u
 |same:Wj e e
 |v (d d':DV):e= .v d->(∀(C:bB) ψ x,VR C ψ d x->VR C ψ d' x)->Wj e (.v d')
 |loc (v n:Nat) (cs cs':ah):e= .loc v n cs->Ob cs cs'->Wj e (.loc v n cs')
structure zS (E E':Env):Prop where
 bO:E'.bO<=E.bO
 get: ∀t,Wj (E.get t) (E'.get t)
 cX: ∀t v,(E'.get t).cX=some v->v<E'.bO
 pl: ∀t r v o,E'.get t= .pl r v o->v<E'.bO
theorem Wj.cX {e e':eH} (h:Wj e e') {v:Nat} (hv:e'.cX=some v):e.cX=some v:=by
 cases h with
 |u=>cases hv
 |same=>exact hv
 |v d d' _ _=>cases hv
 |loc v' n cs cs' he _=>rw[he];exact hv
section
variable {C:bB} {f:Fr} {ψ:Ps} {E E':Env} {s:St} {a:Act} {w:World}
theorem CR.yg (k:zS E E') (c:CR E' s h ab): ∃cR,CR E s h cR/\(ab.gO=true->cR.gO=true)/\∀(C:bB) ψ w cb,Holds C ψ w cb cR->Holds C ψ w cb ab:=by
 cases h with
 |inl i=>exact⟨ab,c,λh=>h,λ_ _ _ _ h=>h⟩
 |inr v=>
  rcases c with⟨t,n,cs,e,rfl⟩|⟨t,l,p,e,rfl⟩
  .have:=k.get t
   rw[e]at this;generalize he:E.get t=x at this;cases this with
   |same=>exact⟨_,.inl ⟨t,n,cs,he,rfl⟩,λh=>h,λ_ _ _ _ h=>h⟩
   |loc _ _ mo _ h1 h2=>exact⟨_,.inl ⟨t,n,mo,he.trans h1,rfl⟩,λh=>h,λ_ _ _ _ h=>h.abc h2⟩
  .have:=k.get t
   rw[e]at this;generalize he:E.get t=x at this;cases this with
   |same=>exact⟨_,.inr ⟨t,l,p,he,rfl⟩,λh=>h,λ_ _ _ _ h=>h⟩
theorem Holds.tn {N:Nat} {cb:CB} {ab:AB} (h:Holds C ψ w cb ab):Holds C (Go.Gv.tn ψ N) w cb ab:=h.same (ψ:=ψ) (ψ':=Go.Gv.tn ψ N) (λ_ _ e=>e) rfl
theorem jd.yg (h:jd E) (k:zS E E'):jd E':=by
 refine⟨k.cX,k.pl,λt v n cs e=>?_,λt t' v hv eJ=>h.uniq t t' v ((k.get t).cX hv) ((k.get t').cX eJ)⟩;have:=k.get t;rw[e]at this;generalize he:E.get t=x at this;cases this with
 |same=>exact h.len t v n cs he
 |loc _ _ mo _ h1 h2=>rw[h2.len];exact h.len t v n mo (he.trans h1)
theorem Rel.yg (R:Rel C f ψ E s a w) (k:zS E E'):Rel C f (tn ψ E'.bO) E' s a w where
 eL:=R.eL.cast λh cb ab e c=>by
  obtain⟨cR,c',hs,hh⟩:=c.yg k;exact⟨RT e,cR,c',hs,λx=>(hh C ψ w cb x).tn⟩
 gJ:=R.gJ.yg k
 gr:=λh cb e=>R.gr h cb (RT e)
 kF:=λg hg=>R.kF g hg
 jD:=λt=>by
  have h:=R.jD t;have xP:=k.cX t;have lr:=k.pl t;have jB: ∀v cb,v<E'.bO->ψ (.inr v)=some cb->tn ψ E'.bO (.inr v)=some cb:=λv cb hv e=>by grind[tn]
  have:=k.get t;generalize he':E'.get t=x' at this xP lr;generalize he:E.get t=x at this h;have same:fy C ψ x' (a.tmps.getD t Go.undef)->fy C (tn ψ E'.bO) x' (a.tmps.getD t Go.undef):=by
   intro h;cases x' with
   |u=>trivial
   |un=>exact h
   |v d=>exact VR.mono (ψ:=ψ) (ψ':=tn ψ E'.bO) (λ_ _ e=>e) h
   |p9 ds=>obtain⟨vs,e,r⟩:=h;exact⟨vs,e,r.mono (ψ:=ψ) (ψ':=tn ψ E'.bO) λ_ _ e=>e⟩
   |loc v n cs=>obtain⟨cb,e,r⟩:=h;exact⟨cb,jB v cb (xP v rfl) e,r⟩
   |pl q v n=>obtain⟨cb,e,r⟩:=h;exact⟨cb,jB v cb (lr q v n rfl) e,r⟩
   |it v l p=>obtain⟨cb,e,r⟩:=h;exact⟨cb,jB v cb (xP v rfl) e,r⟩
  cases this with
  |u=>trivial
  |same=>exact same h
  |v d d' e hc=>subst e;exact same (hc C ψ _ h)
  |loc v n cs cs' e hc=>subst e;exact same h
 nk:=R.nk
 defs:=R.defs
 sI:=R.sI
 vd:=λv hv=>by grind[tn]
 ext:=R.ext.cast (λh cb e=>by
   cases h with
   |inl i=>exact R.ext.mono _ _ e
   |inr v=>rw[R.fin]at e;cases e) (λh cb e=>RT e) (λh cb ab _ c=>by
   obtain⟨cR,c',hs,_⟩:=c.yg k;exact⟨cR,c',hs⟩)
 news:=λi cb e=>R.news i cb e
 len:=R.len
 fin:=R.fin
inductive GJ (E0 E:Env):List (Nat×JS)->List DV->Prop
 |nil:GJ E0 E [] []
 |v (t:Nat) (x:Sh) (d:DV) (r:List (Nat×JS)) (ds:ah):E.get t= .v d->GJ E0 E r ds->GJ E0 E ((t,.v x)::r) (d::ds)
 |l (t:Nat) (x:List B) (v n n0:Nat) (cs mo:ah) (r:List (Nat×JS)) (ds:ah):E.get t= .loc v n cs->E0.get t= .loc v n0 mo->GJ E0 E r ds->GJ E0 E ((t,.l x)::r) (.agg cs::ds)
 |t (t:Nat) (v:Nat) (l l0:aj) (p p0:Nat) (r:List (Nat×JS)) (ds:ah):E.get t= .it v l p->E0.get t= .it v l0 p0->GJ E0 E r ds->GJ E0 E ((t,.t)::r) (.nat p::ds)
theorem wQ {E0 E:Env} : ∀ {J:List (Nat×JS)} {K:ah->M β} {s:St} {r:Out β×St},rZ E0 E J K s=some r->∃ds,GJ E0 E J ds/\K ds s=some r
 |[],K,s,r,h=>⟨[],.nil,h⟩
 |(t,x)::J,K,s,r,h=>by
  simp only[rZ]at h;cases x with
  |v x=>
   cases e:E.get t with
   |v d=>
    rw[e]at h;obtain⟨ds,g,hk⟩:=wQ h;exact⟨_,.v t x d J ds e g,hk⟩
   |_=>rw[e]at h;cases h
  |l x=>
   cases e:E.get t with
   |loc v n cs=>
    rw[e]at h;cases e0:E0.get t with
    |loc v0 n0 mo=>
     rw[e0]at h;simp only at h;obtain⟨hv,h2⟩:=Zp h;have:=dy hv;subst this;obtain⟨ds,g,hk⟩:=wQ h2;exact⟨_,.l t x v0 n n0 cs mo J ds e e0 g,hk⟩
    |_=>rw[e0]at h;cases h
   |_=>rw[e]at h;cases h
  |t=>
   cases e:E.get t with
   |it v l p=>
    rw[e]at h;cases e0:E0.get t with
    |it v0 l0 p0=>
     rw[e0]at h;simp only at h;obtain⟨hv,h2⟩:=Zp h;have:=dy hv;subst this;obtain⟨ds,g,hk⟩:=wQ h2;exact⟨_,.t t v0 l l0 p p0 J ds e e0 g,hk⟩
    |_=>rw[e0]at h;cases h
   |_=>rw[e]at h;cases h
inductive PJ (E:Env):List (Nat×JS)->List DV->Env->Env->Prop
 |nil (E1:Env):PJ E [] [] E1 E1
 |v (t:Nat) (x:Sh) (d d':DV) (r:List (Nat×JS)) (ds:ah) (E1 E':Env):(∀(C:bB) ψ x,VR C ψ d x->VR C ψ d' x)->PJ E r ds (E1.put t (.v d')) E'->PJ E ((t,.v x)::r) (d::ds) E1 E'
 |l (t:Nat) (x:List B) (v n:Nat) (mo cs cs':ah) (r:List (Nat×JS)) (ds:ah) (E1 E':Env):E.get t= .loc v n mo->Ob cs cs'->PJ E r ds (E1.put t (.loc v n cs')) E'->PJ E ((t,.l x)::r) (.agg cs::ds) E1 E'
 |t (t:Nat) (v:Nat) (l:aj) (p0 p:Nat) (r:List (Nat×JS)) (ds:ah) (E1 E':Env):E.get t= .it v l p0->PJ E r ds (E1.put t (.it v l p)) E'->PJ E ((t,.t)::r) (.nat p::ds) E1 E'
theorem Ca {E:Env} : ∀ {J:List (Nat×JS)} {st:ah} {E1:Env} {K:Env->M β} {s:St} {r:Out β×St},sy E J st E1 K s=some r->∃E',PJ E J st E1 E'/\K E' s=some r
 |[],st,E1,K,s,r,h=>by
  simp only[sy]at h;cases st with
  |nil=>exact⟨E1,.nil E1,h⟩
  |cons _ _=>cases h
 |(t,x)::J,st,E1,K,s,r,h=>by
  simp only[sy]at h;cases st with
  |nil=>cases h
  |cons d rest=>
   simp only[jt]at h;cases x with
   |v x=>
    obtain⟨d',h,hd,_⟩:=La h;obtain⟨E',g,hk⟩:=Ca h;exact⟨E',.v t x d d' J rest E1 E' hd g,hk⟩
   |l x=>
    cases e:E.get t with
    |loc v n mo=>
     rw[e]at h;cases d with
     |agg cs=>
      obtain⟨cs',h,hl,hr,h1⟩:=GH h;obtain⟨E',g,hk⟩:=Ca h;exact⟨E',.l t x v n mo cs cs' J rest E1 E' e ⟨hl,hr,h1⟩ g,hk⟩
     |_=>cases h
    |_=>rw[e]at h;cases h
   |t=>
    cases e:E.get t with
    |it v l p0=>
     rw[e]at h;cases d with
     |nat p=>
      obtain⟨E',g,hk⟩:=Ca h;exact⟨E',.t t v l p0 p J rest E1 E' e g,hk⟩
     |_=>cases h
    |_=>rw[e]at h;cases h
theorem PJ.yg (h0:jd E0) (hv: ∀t v n cs,E2.get t= .loc v n cs->(∃mo,E0.get t= .loc v n mo)\/E0.bO<=v) (hi: ∀t v l p,E2.get t= .it v l p->(∃p0,E0.get t= .it v l p0)\/E0.bO<=v):
  ∀ {J:List (Nat×JS)} {ds:ah} {E1 E':Env},GJ E0 E2 J ds->PJ E0 J ds E1 E'->E1.bO=E0.bO->E0.bO<=E2.bO->zS E2 E1->zS E2 E'/\E'.bO=E0.bO/\(∀gX u,BA gX J=true->has gX u=false->E'.get u=E1.get u):=by
 intro J;induction J with
 |nil=>
  intro ds E1 E' g p h1 _ k;cases g;cases p;grind
 |cons x J ih=>
  intro ds E1 E' g p h1 hn k;obtain⟨t,x⟩:=x;have fin: ∀ {e:eH} {ds:ah},Wj (E2.get t) e->(∀v,e.cX=some v->v<E0.bO)->(∀r v o,e≠ .pl r v o)->GJ E0 E2 J ds->PJ E0 J ds (E1.put t e) E'->zS E2 E'/\E'.bO=E0.bO/\(∀gX u,BA gX ((t,x)::J)=true->has gX u=false->E'.get u=E1.get u):=by
   intro e ds hw xP lr g p;obtain⟨r1,r2,r3⟩:=ih g p (by simpa using h1) hn ⟨by simp[h1,hn],λu=>by
     rw[Env.sa];split
     .grind
     .exact k.get u,λu v e=>by
     rw[Env.sa]at e;rw[Env.aaa,h1];split at e
     .exact xP v e
     .have:=k.cX u v e;omega,λu r v o e=>by
     rw[Env.sa]at e;rw[Env.aaa,h1];split at e
     .grind
     .have:=k.pl u r v o e;omega⟩
   refine⟨r1,r2,λgX u h1 h2=>?_⟩;simp only[BA,aR]at h1;rw[r3 gX u h1.2 h2,Env.sa,aW];grind
  cases p with
  |v _ sx d d' _ ds _ _ hc p=>
   cases g with
   |v _ _ _ _ _ e g=>exact fin (.v d d' e hc) (λv h=>by cases h) (λ_ _ _ h=>by cases h) g p
  |l _ sx v n mo cs cs' _ ds _ _ he hc p=>
   cases g with
   |l _ _ v2 n2 n0 _ cC _ _ e e0 g=>
    rw[he]at e0;cases e0;rcases hv t _ _ _ e with⟨c,e1⟩|e1
    .rw[he]at e1;cases e1
     exact fin (.loc _ _ cs cs' e hc) (λv h=>by cases h;exact h0.lt t _ (by rw[he];rfl)) (λ_ _ _ h=>by cases h) g p
    .have:=h0.lt t _ (by rw[he];rfl);omega
  |t _ v l p0 q _ ds _ _ he p=>
   cases g with
   |t _ v2 l2 l0 _ p2 _ _ e e0 g=>
    rw[he]at e0;cases e0;rcases hi t _ _ _ e with⟨c,e1⟩|e1
    .rw[he]at e1;cases e1
     exact fin (by rw[e];exact .same) (λv h=>by cases h;exact h0.lt t _ (by rw[he];rfl)) (λ_ _ _ h=>by cases h) g p
    .have:=h0.lt t _ (by rw[he];rfl);omega
abbrev Un (l:al) (u:Nat):Prop:=has l u=false
theorem Rz (h0:jd E0) (hm:Mod (Un gX) E0 E2) (g:GJ E0 E2 J ds) (p:PJ E0 J ds (E0.del gX) E') (hj:BA gX J=true):
  zS E2 E'/\Mod (Un gX) E0 E':=by
 have k0:zS E2 (E0.del gX):=by
  refine⟨hm.bO,λt=>?_,λt v e=>?_,λt r v o e=>?_⟩
  .rw[yC]
   cases h:has gX t with
   |true=>exact .u
   |false=>rw[hm.get t h];exact .same
  .rw[yC]at e
   split at e
   .cases e
   .exact h0.lt t v e
  .rw[yC]at e
   split at e
   .cases e
   .exact h0.pl t r v o e
 obtain⟨r1,r2,r3⟩:=PJ.yg h0 hm.wA hm.yf g p rfl hm.bO k0;have und: ∀u,Un gX u->E'.get u=E0.get u:=λu hu=>by
  have hu':has gX u=false:=hu;rw[r3 gX u hj hu,yC,hu'];rfl
 refine⟨r1,und,by omega,λt v n cs e=>?_,λt v l p e=>?_⟩
 .have:=r1.get t
  rw[e]at this;generalize he:E2.get t=x at this;cases this with
  |same=>exact hm.wA t v n cs he
  |loc _ _ mo _ h1 _=>exact hm.wA t v n mo (he.trans h1)
 .have:=r1.get t
  rw[e]at this;generalize he:E2.get t=x at this;cases this with
  |same=>exact hm.yf t v l p he
end
def Lk (K:Env->M β) (r:Out β×St):Prop:=∀E s,K E s=some r->s.length<=r.2.length
theorem KA {g:(Env->M β)->M β} (h:Wf E gX J K g s=some r):
  BA gX J=true/\g (λE1=>rZ E E1 J λst=>sy E J st (E.del gX) K) s=some r:=by
 obtain⟨h1,h⟩:=Zp h;rw[L7]at h;exact⟨h1,h⟩
theorem Rt (h:rZ E0 E1 J (λst=>sy E0 J st (E0.del gX) K) s=some r):
  ∃ds E',GJ E0 E1 J ds/\PJ E0 J ds (E0.del gX) E'/\K E' s=some r:=by
 obtain⟨ds,g,h⟩:=wQ h;obtain⟨E',p,h⟩:=Ca h;exact⟨ds,E',g,p,h⟩
theorem Lk.I7 (h:Lk K r):Lk (λE1=>rZ E0 E1 J λst=>sy E0 J st (E0.del gX) K) r:=by
 intro E1 s hs;obtain⟨_,E',_,_,hs⟩:=Rt hs;exact h E' s hs
theorem Lk.block {kx:Nat->Env->M β} (h:Lk K r) (hx: ∀i,Lk (kx i) r): ∀i,Lk (λE1=>bif Nat.beq i id then K E1 else kx i E1) r:=by
 intro i E s hs;cases hb:Nat.beq i id with
 |true=>simp only[hb]at hs;exact h E s hs
 |false=>simp only[hb]at hs;exact hx i E s hs
section
variable {C:bB} {pr:al} {c:Zf} {n:Nat} {r:Out β×St}
theorem Hd (hC:og C) (hc:ZQ C c): ∀(code:Code) (A:qc) (kn:Env->M β) (kx:Nat->Env->M β) (kr:Env->M β),Lk kn r->(∀i,Lk (kx i) r)->Lk kr r->Lk (exec C pr c n code A kn kx kr) r:=by
 intro code;induction code with
 |skip=>intro A kn kx kr hn hx hr E s h;exact hn E s h
 |region id ops d=>
  intro A kn kx kr hn hx hr E s h;simp only[exec]at h;rcases Zr7 hC hc h with⟨E',s',hl,hk,_,_⟩|⟨s',e,hl,_⟩
  .exact gH hl (hn E' s' hk)
  .rw[e];exact hl
 |seq a b Dk Dl=>
  intro A kn kx kr hn hx hr E s h;simp only[exec]at h;exact Dk A.a _ kx kr (λE' s' h'=>Dl A.b kn kx kr hn hx hr E' s' h') hx hr E s h
 |cond x a b Dk Dl=>
  intro A kn kx kr hn hx hr E s h;simp only[exec]at h;obtain⟨v,_,h⟩:=RJ h;have two: ∀ {A1 A2:qc} {kn:Env->M β},Lk kn r->(bif v then exec C pr c n a A1 kn kx kr E else exec C pr c n b A2 kn kx kr E) s=some r->s.length<=r.2.length:=by
   intro A1 A2 kn hn h;cases v with
   |true=>exact Dk A1 kn kx kr hn hx hr E s h
   |false=>exact Dl A2 kn kx kr hn hx hr E s h
  cases A with
  |j J A1 A2=>exact two (Lk.I7 hn) (KA h).2
  |z=>exact two hn h
  |n A1 A2=>exact two hn h
 |block id body ih=>
  intro A kn kx kr hn hx hr E s h;simp only[exec]at h;cases A with
  |j J A1 A2=>exact ih A1 _ _ kr (Lk.I7 hn) (Lk.block (Lk.I7 hn) hx) hr E s (KA h).2
  |z=>exact ih _ _ _ kr hn (Lk.block hn hx) hr E s h
  |n A1 A2=>exact ih _ _ _ kr hn (Lk.block hn hx) hr E s h
 |loop body ih=>
  intro A kn kx kr hn hx hr E s h;simp only[exec]at h;cases A with
  |j J A1 A2=>
   obtain⟨hj,h⟩:=Zp h;obtain⟨st,_,h⟩:=wQ h;have key: ∀(k:Nat) (st:ah) (s:St),cY (λrec st=>sy E J st (E.del (lW pr body)) λE1=>exec C pr c n body A1 (λE2=>rZ E E2 J rec) kx kr E1) k st s=some r->s.length<=r.2.length:=by
    intro k;induction k with
    |zero=>intro st s h;cases h
    |succ k Wc=>
     intro st s h;simp only[cY]at h;obtain⟨E',_,h⟩:=Ca h;refine ih A1 _ kx kr (λE2 s2 h2=>?_) hx hr E' s h;obtain⟨ga,_,h2⟩:=wQ h2;exact Wc ga s2 h2
   exact key n st s h
  |z=>cases h
  |n A1 A2=>cases h
 |exit id=>intro A kn kx kr hn hx hr E s h;exact hx id E s h
 |ret=>intro A kn kx kr hn hx hr E s h;exact hr E s h
 |_=>intros;intro E s h;cases h
theorem Zoq (l l':al) (u:Nat):has (l++l') u=(has l u||has l' u):=by
 induction l with
 |nil=>rfl
 |cons x l ih=>simp only[nr,has,ih,Bool.or_assoc]
theorem Un.left {l:al} (h:Un (l++l') u):Un l u:=by
 have h':has (l++l') u=false:=h;rw[Zoq,wF]at h';exact h'.1
theorem Un.right {l:al} (h:Un (l++l') u):Un l' u:=by
 have h':has (l++l') u=false:=h;rw[Zoq,wF]at h';exact h'.2
theorem Mod.un {un:Nat->Prop} (h:Mod un E E') (k: ∀u,JB u->un u):Mod JB E E':=⟨λu hu=>h.get u (k u hu),h.bO,h.wA,h.yf⟩
variable {f:Fr}
theorem Rel.eval {ψ:Ps} {E:Env} {s:St} {a:Act} {w:World} (R:Rel C f ψ E s a w) (x:Operand):fy C ψ (E.src C x) (a.eval x):=by
 have p:aD C ⟨none,.move x,0, "", #[],none⟩ (λ_=>True) E s ψ (CR E s) a w:=R.pre;exact p.src (by simp[Op.operands])
theorem TD (hC:og C) (hc:ZQ C c) (AZ:C.P.follows .mixedOrders=true) (hN:r.2.length<=f.N): ∀(code:Code) (A:qc) (kn:Env->M β) (kx:Nat->Env->M β) (kr:Env->M β),xX f.ok code=true->Lk kn r->(∀i,Lk (kx i) r)->Lk kr r->
  ∀(E:Env) (s:St),exec C pr c n code A kn kx kr E s=some r->∀(ψ:Ps) (a:Act) (w:World) (QQ:Exit->Act->World->Prop),Rel C f ψ E s a w->
  (∀E' s' ψ' a' w',kn E' s'=some r->Rel C f ψ' E' s' a' w'->Mod (Un (lW pr code)) E E'->QQ .normal a' w')->
  (∀i E' s' ψ' a' w',kx i E' s'=some r->Rel C f ψ' E' s' a' w'->Mod (Un (lW pr code)) E E'->QQ (.exit i) a' w')->
  (∀E' s' ψ' a' w',kr E' s'=some r->Rel C f ψ' E' s' a' w'->QQ .ret a' w')->
  (∀ch a' w' s',r=(.eZ,s')->oi ch->rE C f s' a' w'->QQ (.panic ch) a' w')->code.wp C.P QQ a w:=by
 intro code;induction code with
 |skip=>intro A kn kx kr ho hn hx hr E s h ψ a w QQ R qn qx qr qp;exact wp_skip (qn E s ψ a w h R (.refl _ _))
 |region id ops d=>
  intro A kn kx kr ho hn hx hr E s h ψ a w QQ R qn qx qr qp;simp only[exec]at h;rcases Zr7 hC hc h with⟨E',s',hl,hk,hm,hw⟩|⟨s',e,hl,hw⟩
  .exact hw QQ id R AZ ho (gH (hn E' s' hk) hN) λψ' a' w' R'=>qn E' s' ψ' a' w' hk R' hm
  .exact hw QQ id R AZ ho (by rw[e]at hN;exact hN) λch a' w' hv hp=>qp ch a' w' s' e hv hp
 |seq a b Dk Dl=>
  intro A kn kx kr ho hn hx hr E s h ψ ac w QQ R qn qx qr qp;simp only[xX,aR]at ho;simp only[exec]at h;refine wp_seq (Dk A.a _ kx kr ho.1 (Hd hC hc b A.b kn kx kr hn hx hr) hx hr E s h ψ ac w _ R ?_ ?_ ?_ ?_)
  .intro E' s' ψ' a' w' h' R' m'
   refine Dl A.b kn kx kr ho.2 hn hx hr E' s' h' ψ' a' w' QQ R' ?_ ?_ qr qp
   .intro E2 s2 jU a2 w2 h2 R2 m2
    exact qn E2 s2 jU a2 w2 h2 R2 (m'.trans m2 (λu hu=>Un.left hu) λu hu=>Un.right hu)
   .intro i E2 s2 jU a2 w2 h2 R2 m2
    exact qx i E2 s2 jU a2 w2 h2 R2 (m'.trans m2 (λu hu=>Un.left hu) λu hu=>Un.right hu)
  .intro i E' s' ψ' a' w' h' R' m'
   exact qx i E' s' ψ' a' w' h' R' (m'.un λu hu=>Un.left hu)
  .exact qr
  .exact qp
 |cond x a b Dk Dl=>
  intro A kn kx kr ho hn hx hr E s h ψ ac w QQ R qn qx qr qp;simp only[xX,aR]at ho;simp only[exec]at h;obtain⟨v,hv,h⟩:=RJ h;have he:ac.eval x= .bool v:=by
   have:=R.eval x;rw[hv]at this;generalize ac.eval x=y at this;cases this;rfl
  have two: ∀ {A1 A2:qc} {kn:Env->M β},Lk kn r->(bif v then exec C pr c n a A1 kn kx kr E else exec C pr c n b A2 kn kx kr E) s=some r->
    (∀E' s' ψ' a' w',kn E' s'=some r->Rel C f ψ' E' s' a' w'->Mod (Un (lW pr a++lW pr b)) E E'->QQ .normal a' w')->(if v then a else b).wp C.P QQ ac w:=by
   intro A1 A2 kn hn h qn;cases v with
   |true=>exact Dk A1 kn kx kr ho.1 hn hx hr E s h ψ ac w QQ R (λE' s' ψ' a' w' h' R' m'=>qn E' s' ψ' a' w' h' R' (m'.un λu hu=>Un.left hu)) (λi E' s' ψ' a' w' h' R' m'=>qx i E' s' ψ' a' w' h' R' (m'.un λu hu=>Un.left hu)) qr qp
   |false=>exact Dl A2 kn kx kr ho.2 hn hx hr E s h ψ ac w QQ R (λE' s' ψ' a' w' h' R' m'=>qn E' s' ψ' a' w' h' R' (m'.un λu hu=>Un.right hu)) (λi E' s' ψ' a' w' h' R' m'=>qx i E' s' ψ' a' w' h' R' (m'.un λu hu=>Un.right hu)) qr qp
  refine wp_cond he ?_;cases A with
  |j J A1 A2=>
   obtain⟨hj,h⟩:=KA h;refine two (Lk.I7 hn) h λE1 s1 iu a1 w1 h1 R1 m1=>?_
   obtain⟨ds,E',g,p,h1⟩:=Rt h1;obtain⟨k,m⟩:=Rz R.gJ m1 g p hj;exact qn E' s1 _ a1 w1 h1 (R1.yg k) m
  |z=>exact two hn h qn
  |n A1 A2=>exact two hn h qn
 |block id body ih=>
  intro A kn kx kr ho hn hx hr E s h ψ ac w QQ R qn qx qr qp;simp only[exec]at h;have go: ∀ {A1:qc} {kn:Env->M β},Lk kn r->exec C pr c n body A1 kn (λi E1=>bif Nat.beq i id then kn E1 else kx i E1) kr E s=some r->
    (∀E' s' ψ' a' w',kn E' s'=some r->Rel C f ψ' E' s' a' w'->Mod (Un (lW pr body)) E E'->QQ .normal a' w')->(Code.block id body).wp C.P QQ ac w:=by
   intro A1 kn hn h qn;refine wp_block (ih A1 kn _ kr ho hn (Lk.block hn hx) hr E s h ψ ac w _ R qn ?_ qr qp);intro i E' s' ψ' a' w' h' R' m';simp only[Exit.inBlock];cases hb:Nat.beq i id with
   |true=>
    rw[hb]at h';rw[bw (dy hb)];exact qn E' s' ψ' a' w' h' R' m'
   |false=>
    rw[hb]at h';rw[aW (JP hb)];exact qx i E' s' ψ' a' w' h' R' m'
  cases A with
  |j J A1 A2=>
   obtain⟨hj,h⟩:=KA h;refine go (Lk.I7 hn) h λE1 s1 iu a1 w1 h1 R1 m1=>?_
   obtain⟨ds,E',g,p,h1⟩:=Rt h1;obtain⟨k,m⟩:=Rz R.gJ m1 g p hj;exact qn E' s1 _ a1 w1 h1 (R1.yg k) m
  |z=>exact go hn h qn
  |n A1 A2=>exact go hn h qn
 |loop body ih=>
  intro A kn kx kr ho hn hx hr E s h ψ ac w QQ R qn qx qr qp;simp only[exec]at h;cases A with
  |j J A1 A2=>
   obtain⟨hj,h⟩:=Zp h;obtain⟨st,g0,h⟩:=wQ h;have lk: ∀(k:Nat) (st:ah) (s:St),cY (λrec st=>sy E J st (E.del (lW pr body)) λE1=>exec C pr c n body A1 (λE2=>rZ E E2 J rec) kx kr E1) k st s=some r->s.length<=r.2.length:=by
    intro k;induction k with
    |zero=>intro st s h;cases h
    |succ k Wc=>
     intro st s h;simp only[cY]at h;obtain⟨E',_,h⟩:=Ca h;refine Hd hC hc body A1 _ kx kr (λE2 s2 h2=>?_) hx hr E' s h;obtain⟨ga,_,h2⟩:=wQ h2;exact Wc ga s2 h2
   refine wp_loop_ghost (λk a' w'=>∃E2 s2 jU ds,GJ E E2 J ds/\Mod (Un (lW pr body)) E E2/\Rel C f jU E2 s2 a' w'/\
    cY (λrec st=>sy E J st (E.del (lW pr body)) λE1=>exec C pr c n body A1 (λE2=>rZ E E2 J rec) kx kr E1) k ds s2=some r) n ⟨E,s,ψ,st,g0,.refl _ _,R,h⟩ ?_
   rintro k a' w' ⟨E2,s2,jU,ds,g,m,R2,h2⟩;cases k with
   |zero=>cases h2
   |succ k=>
    simp only[cY]at h2;obtain⟨E',p,h2⟩:=Ca h2;obtain⟨kw,m'⟩:=Rz R.gJ m g p hj;refine ih A1 _ kx kr ho (λE2 s2 h2=>?_) hx hr E' s2 h2 _ a' w' _ (R2.yg kw) ?_ ?_ qr qp
    .obtain⟨ga,_,h2⟩:=wQ h2
     exact lk k ga s2 h2
    .intro E3 s3 JH a3 w3 h3 R3 m3
     obtain⟨ds3,g3,h3⟩:=wQ h3;exact⟨k,Nat.lt_succ_self k,E3,s3,JH,ds3,g3,m'.trans m3 (λu hu=>hu) (λu hu=>hu),R3,h3⟩
    .intro i E3 s3 JH a3 w3 h3 R3 m3
     exact qx i E3 s3 JH a3 w3 h3 R3 (m'.trans m3 (λu hu=>hu) (λu hu=>hu))
  |z=>cases h
  |n A1 A2=>cases h
 |exit id=>intro A kn kx kr ho hn hx hr E s h ψ a w QQ R qn qx qr qp;exact wp_exit (qx id E s ψ a w h R (.refl _ _))
 |ret=>intro A kn kx kr ho hn hx hr E s h ψ a w QQ R qn qx qr qp;exact wp_ret (qr E s ψ a w h R)
 |_=>intro A kn kx kr ho hn hx hr E s h;cases h
end
theorem K5: ∀(k:Nat) (ds:ah) (t:Nat),look (jK k ds) t=if k<=t then(match ds[t-k]? with|some d=> .v d|none=> .u)else .u
 |k,[],t=>by simp[jK,look]
 |k,d::ds,t=>by
  rw[jK,G5,K5 (k+1) ds t];by_cases h:k=t
  .subst h;simp
  grind
section
variable {C:bB} {f:Fr} {ψ:Ps} {E:Env} {s:St} {a:Act} {w:World} {r:Out β×St}
def LP (tmps:Array Value):ResultVar->Sem Value
 | .tmp t=>pure (tmps.getD t undef)
 | .cell a t=>do loadVar t (<-asAddr (tmps.getD a undef))
theorem He {g:ResultVar->Sem Value} {x:ResultVar} {l:List ResultVar} (h1:(g x).run P w= .ok v w) (h2:(l.mapM g).run P w= .ok vs w):((x::l).mapM g).run P w= .ok (v::vs) w:=by
 rw[List.mapM_cons];simp_all
theorem Lj (R:Rel C f ψ E s a w): ∀ {l:List ResultVar} {K:ah->M β} ,uZ C E l K s=some r->∃ds vs,K ds s=some r/\bE C ψ ds vs/\(l.mapM (LP a.tmps)).run C.P w= .ok vs w
 |[],K,h=>⟨[],[],h,.nil,by simp⟩
 | .tmp t::l,K,h=>by
  simp only[uZ]at h;obtain⟨d,hd,h⟩:=Zt h;obtain⟨ds,vs,hk,hr,dO⟩:=Lj R h;have hv:=R.eval (.tmp t);rw[hd]at hv;exact⟨_,_,hk,.cons _ _ _ _ hv hr,He rfl dO⟩
 | .cell x t::l,K,h=>by
  simp only[uZ]at h;cases hx:E.get x with
  |loc v n cs=>
   rw[hx]at h;simp only at h;obtain⟨td,ht,h⟩:=pD h;have YG:=R.jD x;rw[hx]at YG;obtain⟨cb,e1,e2,e3⟩:=YG;have hh:=R.eL.holds (.inr v) cb _ e1 (.inl ⟨x,n,cs,hx,rfl⟩);have hlen:=R.gJ.len x v n cs hx;cases cN:iS C.P t with
   |true=>
    rw[cN]at h;simp only[ae]at h;obtain⟨hn,h⟩:=Zp h;have hn:=dy hn;obtain⟨ds,vs,hk,hr,dO⟩:=Lj R h;obtain⟨vc,hv,_,lx,h1⟩:=Kl (P:=C.P) hh (p:=0) (n:=C.P.cellsOf t);rw[e2,ej]at hv;rw[dj,dq (by omega)]at lx h1;refine⟨_,_,hk,.cons _ _ _ _ (.agg cs vc lx h1) hr,He ?_ dO⟩;have:=J6 ht cN ⟨cb.b,0,none⟩ w hv;show(do loadVar t (<-asAddr (a.tmps.getD x undef)):Sem Value).run C.P w=_;rw[e3];simp only[asAddr,Sem.run_bind,Sem.run_pure,Result.andThen_ok];exact this
   |false=>
    rw[cN]at h;simp only[af]at h;obtain⟨d,hd,h⟩:=Le h;obtain⟨ds,vs,hk,hr,dO⟩:=Lj R h;obtain⟨y,hv,lx,_⟩:=KS (P:=C.P) hh hd;rw[e2,ej]at hv;refine⟨_,_,hk,.cons _ _ _ _ lx hr,He ?_ dO⟩;have:=Gt ht cN ⟨cb.b,0,none⟩ w hv;show(do loadVar t (<-asAddr (a.tmps.getD x undef)):Sem Value).run C.P w=_;rw[e3];simp only[asAddr,Sem.run_bind,Sem.run_pure,Result.andThen_ok];exact this
  |_=>rw[hx]at h;cases h
theorem Zmt {fn:Func} {tmps:Array Value} (h:(fn.results.toList.mapM (LP tmps)).run P w= .ok vs w):
  (results fn tmps).run P w= .ok (if h:vs.length=1 then vs[0]else .tuple vs.toArray) w:=by
 have e:results fn tmps=(fn.results.mapM (LP tmps)>>= λvs=>pure (if h:vs.size=1 then vs[0]else .tuple vs)):=by
  rfl
 rw[e,Array.mapM_eq_mapM_toList];simp[h]
theorem Zw9 (b:Nat) (s:St) (i:Nat):dc (kB b s) i=if i<b then dc s i else(dc s i).map λab=>match ab with| .cells _ cs=> .cells true cs|x=>x:=by
 unfold dc kB;by_cases h:i<b
 .rw[bw h]
  by_cases h2:i<s.length
  .rw[l8 (by simp;omega),sL,bw h]
  grind
 .rw[aW h]
  by_cases h3:b<=s.length
  .rw[jY (by simp;omega),oY,tM]
   rw[cz,kT h3,show b+(i-b)=i by omega];cases hs:s[i]? with
   |none=>rfl
   |some x=>cases x<;>rfl
  grind
theorem Zor (b:Nat) (s:St):(kB b s).length=s.length:=by
 grind[kB]
theorem jm.fN (b:Nat) (h:jm C il s0 w0 ψ' s w):jm C il s0 w0 ψ' (kB b s) w:=by
 have key: ∀h ab,CS (kB b s) h ab->∃cR,CS s h cR/\(ab.gO=true->cR.gO=true)/\∀(C:bB) ψ w cb,Holds C ψ w cb cR->Holds C ψ w cb ab:=by
  rintro h ab ⟨i,rfl,e⟩;rw[Zw9]at e;split at e
  .exact⟨ab,⟨i,rfl,e⟩,λh=>h,λ_ _ _ _ h=>h⟩
  .cases hs:dc s i with
   |none=>rw[hs]at e;cases e
   |some x=>
    rw[hs]at e;cases x with
    |cells fz cs=>
     simp only[mb,fU]at e;subst e;exact⟨_,⟨i,rfl,hs⟩,(λh=>by cases h),λC ψ w cb h=>⟨h.1,h.2.1,h.2.2.1,(λh=>by cases h)⟩⟩
    |iter l p=>
     simp only[mb,fU]at e;subst e;exact⟨_,⟨i,rfl,hs⟩,λh=>h,λ_ _ _ _ h=>h⟩
 refine⟨h.eL.cast λk cb ab e q=>?_,h.ext.cast h.ext.mono (λ_ _ e=>e) λk cb ab _ q=>?_,λk cb e=>?_⟩
 .grind
 .grind
 .rw[Zor];exact h.news k cb e
def LG (C:bB) (uA:FuncId) (args:ah) (s:St) (out:Out ah×St):Prop:=
 s.length<=out.2.length/\∀ψ w vs,fa C ψ (CS s) w->rz ψ w->Glob C ψ->bE C ψ args vs->(∀v,ψ (.inr v)=none)->(∀i,s.length<=i->i<out.2.length->ψ (.inl i)=none)->
   yx C.P uA vs.toArray w λ
    | .returned v,w'=>∃ds,out.1= .val ds/\∃ψ',jm C ψ s w ψ' out.2 w'/\zP C ψ' ds v
    | .panicked ch,w'=>oi ch/\out.1= .eZ/\∃ψ',jm C ψ s w ψ' out.2 w'
    | .outgrown,_=>False
structure Gl (C:bB):Prop where
 cfg:og C
 Mm:C.P.follows .mixedOrders=true
theorem Zxp (hF:Gl C) (hc:ZQ C c) {fn:Func} (hfn:C.P.funcs[uA]? =some fn) (qN:(fn.name== "runtime.NumGoroutine")=false) {out:Out ah×St} (h:uw C A fn c n args s=some out):LG C uA args s out:=by
 unfold uw at h;cases hb:fn.body with
 |none=>rw[hb]at h;cases h
 |some code=>
  rw[hb]at h;simp only at h;obtain⟨fk,h⟩:=Zp h;rw[aR]at fk;obtain⟨fk,cB⟩:=fk;have cB:=pj cB;obtain⟨ds,h,oP,mW,tw⟩:=GX h;have main: ∀(kr:Env->M ah) (fz:St->St),(∀s,(fz s).length=s.length)->(∀il s0 w0 ψ' s w,jm C il s0 w0 ψ' s w->jm C il s0 w0 ψ' (fz s) w)->
    (∀E s' r,kr E s'=some r->uZ C E fn.results.toList (λds s=>some (.val ds,fz s)) s'=some r)->
    exec C A.pr c n code A.HE kr (λ_ _=>fail) kr ⟨0,jK 0 ds⟩ s=some out->LG C uA args s out:=by
   intro kr fz eu vO Ij h;have ahO: ∀ {E:Env} {s':St} {r:Out ah×St},kr E s'=some r->∃ds,r=(.val ds,fz s'):=by
    intro E s' r h';have h':=Ij E s' r h';generalize fn.results.toList=l at h';have: ∀(l:List ResultVar) (K:ah->M ah),uZ C E l K s'=some r->∃ds,K ds s'=some r:=by
     intro l;induction l with
     |nil=>exact λK h=>⟨[],h⟩
     |cons x l ih=>
      intro K h;cases x with
      |tmp t=>
       simp only[uZ]at h;obtain⟨d,_,h⟩:=Zt h;grind
      |cell x t=>
       simp only[uZ]at h;cases hx:E.get x with
       |loc v n cs=>
        rw[hx]at h;simp only at h;obtain⟨td,_,h⟩:=pD h;cases cN:iS C.P t with
        |true=>
         rw[cN]at h;obtain⟨_,h⟩:=Zp h;grind
        |false=>
         rw[cN]at h;obtain⟨d,_,h⟩:=Le h;grind
       |_=>rw[hx]at h;cases h
    grind
   have lk:Lk kr out:=λE s' h'=>by
    grind
   refine⟨Hd hF.cfg hc code A.HE kr _ kr lk (λi E s h=>by cases h) lk _ s h,λψ w vs zd H2 CY j6 Bb IV=>?_⟩;have mZ:=tw C ψ vs j6;have Br:=mZ.len;unfold yx;have tt:(callFunc uA vs.toArray).run C.P w= .ok (.enter uA vs.toArray) w:=by
    have vS: ¬fn.name= "runtime.NumGoroutine" :=by simpa using qN
    simp[callFunc,hfn,vS,hb]
   rw[tt];refine calls_of_wp hfn hb ?_
   let f:Fr:=⟨out.2.length,fn.ntmps,ψ,s,w,sv fn.ntmps,λx h=>by unfold sv at h;rw[pd]at h;exact h,λt=>(vs.toArray++Array.replicate (fn.ntmps-vs.toArray.size) Go.undef).getD t Go.undef,[]⟩
   have vF: ∀t,(⟨0,jK 0 ds⟩:Env).get t=match ds[t]? with|some d=> .v d|none=> .u:=by
    intro t;have:=K5 0 ds t;simp only[cn,kV,BN]at this;exact this
   have uW: ∀t v,((⟨0,jK 0 ds⟩:Env).get t).cX≠some v:=by
    intro t v;rw[vF];cases ds[t]? <;>simp[eH.cX]
   have AF: ∀h ab,CR ⟨0,jK 0 ds⟩ s h ab->CS s h ab:=by
    intro h ab c;cases h with
    |inl i=>exact⟨i,rfl,c⟩
    |inr v=>
     rcases c with⟨t,n,cs,e,_⟩|⟨t,l,p,e,_⟩
     .grind
     grind
   have R:Rel C f ψ ⟨0,jK 0 ds⟩ s { tmps:=vs.toArray++Array.replicate (fn.ntmps-vs.toArray.size) Go.undef,defers:=[] } w:=by
    refine⟨zd.weaken λ_ _ _ _ c=>AF _ _ c,⟨by grind,λt r v o e=>?_,by grind,by grind⟩,H2,CY,λt=>?_,?_,rfl,IV,λv _=>Bb v,(Ext.refl ψ (CS s) w).weaken λ_ _ _ _ c=>AF _ _ c,λi cb e=> .inl e,aL _,Bb⟩
    .rw[vF]at e
     cases hd:ds[t]? <;>rw[hd]at e<;>cases e
    .rw[vF]
     cases hd:ds[t]? with
     |none=>trivial
     |some d=>
      obtain⟨v,hv,hr⟩:=mZ.get hd;have:(vs.toArray++Array.replicate (fn.ntmps-vs.toArray.size) Go.undef).getD t Go.undef=v:=by
       have ax:=(dB.1 hv).1;rw[rh,N3 (by simpa using ax)];simp[hv]
      show fy C ψ (.v d) _;rw[this];exact hr
    .refine⟨?_,λ_ _=>rfl⟩
     grind
   have done: ∀E' s' ψ' a' w',kr E' s'=some out->Rel C f ψ' E' s' a' w'->a'.defers=[]/\∃v,(results fn a'.tmps).run C.P w'= .ok v w'/\∃ds,out.1= .val ds/\∃ψ',jm C ψ s w ψ' out.2 w'/\zP C ψ' ds v:=by
    intro E' s' ψ' a' w' h' R';obtain⟨lO,iO,hk,hr,dO⟩:=Lj R' (Ij E' s' out h');simp only[fU]at hk;refine⟨R'.defs,_,Zmt dO,lO,by rw[<-hk],na ψ',?_,?_⟩
    .rw[<-hk];exact vO _ _ _ _ _ _ R'.yH
    .have mB:bE C (na ψ') lO iO:=Zq2 hr
     by_cases h1:iO.length=1
     .rw[dif_pos h1]
      cases mB with
      |nil=>cases h1
      |cons d v ds vs a b=>
       cases b with
       |nil=>exact .inl ⟨d,rfl,a⟩
       |cons _ _ _ _ _ _=>simp at h1
     .rw[dif_neg h1]
      exact .inr ⟨by rw[mB.len];exact h1,_,rfl,mB⟩
   refine TD hF.cfg hc hF.Mm (f:=f) (aL _) code A.HE kr _ kr fk lk (λi E s h=>by cases h) lk _ s h ψ _ w _ R ?_ ?_ ?_ ?_
   .intro E' s' ψ' a' w' h' R' _;exact done E' s' ψ' a' w' h' R'
   .intro i E' s' ψ' a' w' h' _ _;cases h'
   .intro E' s' ψ' a' w' h' R';exact done E' s' ψ' a' w' h' R'
   .intro ch a' w' s' e hv hp
    refine⟨hp.defs,hv,by rw[e],?_⟩;obtain⟨ψ',fB⟩:=hp.post;grind
  cases hz:A.fN with
  |true=>
   rw[hz]at h;simp only[ae,iU]at h;exact main _ (kB s.length) (Zor _) (λ_ _ _ _ _ _ h=>h.fN _) (λE s' r h=>h) h
  |false=>
   rw[hz]at h;simp only[af]at h;exact main _ id (λ_=>rfl) (λ_ _ _ _ _ _ h=>h) (λE s' r h=>h) h
end
def tP (C:bB) (b:Zf->Nat->ah->M ah) (f:FuncId):Prop:=
 ∀c n args s out,ZQ C c->b c n args s=some out->LG C f args s out
theorem tP.aab (hF:Gl C) {fn:Func} {b:Zf->Nat->ah->M ah} (hfn:C.P.funcs[f]? =some fn) (qN:(fn.name== "runtime.NumGoroutine")=false) (ht:uw C A fn=b):tP C b f:=
 λc n args s out hc h=>Zxp hF hc hfn qN (by rw[ht];exact h)
theorem LO {C:bB} {Bd:Zh} (hB: ∀f,C.cov f=true->tP C (Bd (C.fn f)) f) (cx: ∀g,(∀f,C.cov f=true->C.fn f≠g)->∀c n args s,Bd g c n args s=none): ∀n,ZQ C (run Bd n)
 |0=>λg args s out h=>by cases h
 |n+1=>λg args s out h=>by
  by_cases e: ∃f,C.cov f=true/\C.fn f=g
  .obtain⟨f,h1,rfl⟩:=e
   refine⟨(hB f h1 _ _ _ _ _ (LO hB cx n) h).1,λf' h2 h3=>?_⟩;have h':Bd (C.fn f') (run Bd n) n args s=some out:=by rw[h3];exact h
   exact(hB f' h2 _ _ _ _ _ (LO hB cx n) h').2
  .have:=cx g (λf h1 h2=>e ⟨f,h1,h2⟩) (run Bd n) n args s
   have h':Bd g (run Bd n) n args s=some out:=h;rw[this]at h';cases h'
end Go.Gv
namespace Go.Gv
def Bw:List (Nat×Nat)->Nat->Nat
 |[],_=>0
 |(k,v)::r,x=>bif Nat.beq k x then v else Bw r x
def NU (l:List (Nat×Nat)) (t:Nat):Nat:=bif has (l.map (·.1)) t then Bw l t else t+1000
abbrev Body:=Zf->Nat->ah->M ah
def Bv:List (Nat×Body)->Nat->Option Body
 |[],_=>none
 |(k,b)::r,g=>bif Nat.beq k g then some b else Bv r g
def bdOf (l:List (Nat×Body)):Zh:=λg=>match Bv l g with|some b=>b|none=>λ_ _ _ _=>none
theorem S6: ∀ {l:List (Nat×Body)} {g:Nat} {b:Body},Bv l g=some b->g∈l.map (·.1)
 |[],_,_,h=>by cases h
 |(k,x)::r,g,b,h=>by
  simp only[Bv]at h;cases hk:Nat.beq k g with
  |true=>simp[dy hk]
  |false=>rw[hk]at h;simp only[af]at h;exact rp _ (S6 h)
variable {next:Act->World->Prop} {eA rA:Array Edge} {ops:Array Oper} {vs:Array Value} {gb yM:Code} {Q:Exit->Act->List Frame->World->Prop} {QQ:Exit->Act->World->Prop} {f g uA:FuncId} {n:Int} {k:IntKind} {cs cs':List Frame} {N fi i id p t3 t4 td:Nat} {o o0 o1 o2 o3 o4 o5 o6 o7:Oper} {P:Program} {s s3:St} {eP rP:String} {e eT rT t ty xp:TypeId} {v:Value} {args ds ds0:ah} {cov rest:al} {C:bB}
theorem Zyc (h:P.underlying P.rt.typeAssertionError=some (.pointer e)) (hs:(P.underlying e).isSome=true): ∃e d,P.underlying P.rt.typeAssertionError=some (.pointer e)/\P.underlying e=some d:=
 ⟨e,_,h,(Option.some_get hs).symm⟩
theorem Zxj (vL:C.cov=has cov) {l:List (Nat×Body)} (hk:l.map (·.1)=cov.map C.fn) (hB: ∀f∈cov,tP C (bdOf l (C.fn f)) f): ∀n,ZQ C (run (bdOf l) n):=by
 refine LO (λf hf=>hB f (by rw[vL]at hf;exact(Hr cov f).1 hf)) λg hg c n args s=>?_
 unfold bdOf;cases hb:Bv l g with
 |none=>rfl
 |some b=>
  have:=S6 hb;rw[hk]at this;obtain⟨f,hf,rfl⟩:=tN.1 this;exact absurd rfl (hg f (by rw[vL];exact(Hr cov f).2 hf))
def aac (l:List (Nat×Nat)):Bool:=decide ((l.map (·.2)).Nodup)&&l.all λx=>Nat.blt x.2 1000
theorem LH: ∀ {l:List (Nat×Nat)} {t:Nat},has (l.map (·.1)) t=true->(t,Bw l t)∈l
 |[],t,h=>by cases h
 |(k,v)::r,t,h=>by
  simp only[nZ,has,lz]at h;cases hk:Nat.beq k t with
  |true=>
   have:=dy hk;subst this;simp[Bw]
  |false=>
   simp only[Bw,hk,af];exact rp _ (LH (h.resolve_left (by rw[hk];simp)))
theorem ZxC {l:List (Nat×Nat)} (h:aac l=true) (t t':Nat) (e:NU l t=NU l t'):t=t':=by
 unfold aac at h;rw[aR,mJ,lA]at h;obtain⟨h1,h2⟩:=h;have lt: ∀ {t},has (l.map (·.1)) t=true->Bw l t<1000:=λ{t} ht=>by
  have:=h2 _ (LH ht);rwa [pd]at this
 unfold NU at e;cases ht:has (l.map (·.1)) t with
 |true=>
  have m:=LH ht;have l1:=lt ht;cases qQ:has (l.map (·.1)) t' with
  |true=>
   have m':=LH qQ;rw[ht,qQ]at e;simp only[ae]at e;rw[e]at m;have inj: ∀ {l:List (Nat×Nat)},(l.map (·.2)).Nodup->∀ {a b c:Nat},(a,c)∈l->(b,c)∈l->a=b:=by
    intro l;induction l with
    |nil=>intro _ a b c h;cases h
    |cons x r ih=>
     intro hn a b c ha hb;simp only[nZ,yk]at hn;rcases dC.1 ha with ha|ha<;>rcases dC.1 hb with hb|hb
     .rw[<-ha]at hb;cases hb;rfl
     .exact absurd (tN.2 ⟨_,hb,by rw[<-ha]⟩) hn.1
     .exact absurd (tN.2 ⟨_,ha,by rw[<-hb]⟩) hn.1
     .exact ih hn.2 ha hb
   exact inj h1 m m'
  |false=>rw[ht,qQ]at e;simp only[ae,af]at e;omega
 |false=>
  cases qQ:has (l.map (·.1)) t' with
  |true=>have:=lt qQ;rw[ht,qQ]at e;simp only[ae,af]at e;omega
  |false=>rw[ht,qQ]at e;simp only[af]at e;omega
variable {β:Type}
variable {Kk:Env->M β}
section
variable {C:bB} {f:Fr} {ψ:Ps} {E:Env} {s:St} {a:Act} {w:World} {c:Zf} {o:Oper} {K:Env->M β} {r:Out β×St}
theorem qg (hC:og C) (hc:ZQ C c) (o:Oper) (h:Lk K r):Lk (λE=>ft C [] [] .s c o E K) r:=by
 intro E s h';rcases Te hC hc (ops:=[]) (.inl rfl) h' with⟨E',s',hk,hF,_⟩|⟨_,s',rfl,hp⟩
 .exact gH hF.len (h E' s' hk)
 .exact hp.1
theorem Lv (hC:og C) (hc:ZQ C c) (h:ft C [] [] .s c o E K s=some r) (hl:Lk K r) (hN:r.2.length<=f.N) (hd: ∀x,o.dst=some x->f.ok x=true):
  (∃E' s',K E' s'=some r/\s.length<=s'.length/\∀(ψ:Ps) (a:Act) (w:World) (QQ:Exit->Act->World->Prop) (next:Act->World->Prop),Rel C f ψ E s a w->
    (∀ψ' v w',Rel C f ψ' E' s' (a.put o.dst v) w'->(∀h cb,ψ h=some cb->ψ' h=some cb)->next (a.put o.dst v) w')->o.wp C.P a w next QQ)\/
  (∃s',r=(.eZ,s')/\∀(ψ:Ps) (a:Act) (w:World) (QQ:Exit->Act->World->Prop) (next:Act->World->Prop),Rel C f ψ E s a w->(∀ch a' w',oi ch->rE C f s' a' w'->QQ (.panic ch) a' w')->o.wp C.P a w next QQ):=by
 rcases Te hC hc (ops:=[]) (.inl rfl) h with⟨E',s',hk,hF,hO⟩|⟨_,s',rfl,hp⟩
 .refine .inl ⟨E',s',hk,hF.len,λψ a w QQ next R hn=>?_⟩
  exact hO ψ (CR E s) a w next QQ R.pre (R.room (gH (hl E' s' hk) hN)) λψ' Q' v w' hP he=>hn ψ' v w' (R.step hF hP he hd) hP.ext.mono
 .exact .inr ⟨s',rfl,λψ a w QQ next R hn=>R.aag hN hp hn⟩
theorem rE.agI {d:Option Nat} (hd: ∀x,d=some x->f.ok x=true) (h:rE C f s (a.put d v) w):rE C f s a w:=by
 refine⟨by rw[<-Kt a d v];exact h.defs,⟨by rw[<-PG a d v];exact h.ks.1,λt ht=>?_⟩,h.post⟩;have:=h.ks.2 t ht;rw[Ho (λx hx=>by rw[<-PG a d v,h.ks.1];exact f.Jh x (hd x hx)),aW (λe=>by rw[hd t e]at ht;cases ht)]at this;exact this
def YU:Sh->Bool
 | .b _=>true
 |_=>false
def Nq:Op->Bool
 | .move (.tmp _)=>true
 |_=>false
def NC (ops:Array Oper):Bool:=
 let l (n:Nat):Array Bool:=(([0,2,3,4,5,1,6,7].take n).foldl (λl i=>l.setIfInBounds i true) (Array.replicate 8 false))
 let fst (n i:Nat):Bool:=Region.free .any ops (l n) i&&(Region.ready .any ops (l n)).contains i
 Region.noSelect ops&&fst 0 0&&fst 1 2&&fst 2 3&&fst 3 4&&fst 4 5&&(Region.ready .any ops (l 5)==[1])&&(Region.ready .any ops (l 6)==[6])&&(Region.ready .any ops (l 7)==[7])&&(Region.ready .any ops (l 8)).isEmpty
def HS:List Oper->Option (Oper×Oper×Oper×Oper×Oper×Oper×Oper×Oper)
 |[o0,o1,o2,o3,o4,o5,o6,o7]=>some (o0,o1,o2,o3,o4,o5,o6,o7)
 |_=>none
theorem ZuR {l:List Oper} (h:HS l=some (o0,o1,o2,o3,o4,o5,o6,o7)):l=[o0,o1,o2,o3,o4,o5,o6,o7]:=by
 unfold HS at h;grind
noncomputable def Js (C:bB) (c:Zf) (ops:Array Oper) (E:Env) (K:Env->M β):M β:=
 match HS ops.toList with
 |some (o0,o1,o2,o3,o4,o5,o6,o7)=>
  bif NC ops&&Nq o0.op&&Nq o2.op&&(o0.guard.isNone&&o1.guard.isNone&&o2.guard.isNone&&o3.guard.isNone&&o4.guard.isNone&&o5.guard.isNone&&o6.guard.isNone&&o7.guard.isNone)then
   match o3.op,o4.op,o5.op with
   | .nilCheck x3,.fieldAddr _ x4 _,.load ty x5=>aC (YU (mG C.P ty))<|
    ft C [] [] .s c o0 E λE0=>ft C [] [] .s c o2 E0 λE2=>zB C E2 x3 λ_ _=>ft C [] [] .s c o3 E2 λE3=>zB C E3 x4 λ_ _=>ft C [] [] .s c o4 E3 λE4=>zB C E4 x5 λi p=>xk i p λk n=>ft C [] [] .s c o5 E4 λE5=>
     ft C [] [] .s c o1 E5 λE1=>hJ i p k n (ft C [] [] .s c o6 E1 λE6=>hJ i p k n (ft C [] [] .s c o7 E6 λE7=>hJ i p k n (K E7)))
   |_,_,_=>fail
  else fail
 |none=>fail
theorem KK {x:Operand} {K:Nat->Nat->M β} (h:zB C E x K s=some r): ∃i p,E.src C x= .v (.ptr (some (i,p)))/\K i p s=some r:=by
 unfold zB at h;cases he:E.src C x with
 |v d=>
  rw[he]at h;cases d with
  |ptr q=>
   cases q with
   |none=>cases h
   |some q=>grind
  |_=>cases h
 |_=>rw[he]at h;cases h
theorem Znt {K:IntKind->Int->M β} (h:xk i p K s=some r): ∃k n,(∃fz cs,dc s i=some (.cells fz cs)/\cs[p]? =some (.int k n))/\K k n s=some r:=by
 unfold xk at h;obtain⟨fz,cs,d,ca,hd,h⟩:=Znw h;cases d with
 |int k n=>grind
 |_=>cases h
theorem Kw {K:M β} (h:hJ i p k n K s=some r):K s=some r/\∃fz cs,dc s i=some (.cells fz cs)/\cs[p]? =some (.int k n):=by
 unfold hJ bG at h;cases hc:s.cells i with
 |none=>rw[hc]at h;cases h
 |some cs=>
  rw[hc]at h;simp only at h;cases hd:cs[p]? with
  |none=>rw[hd]at h;cases h
  |some d=>
   rw[hd]at h;have ca: ∃fz,dc s i=some (.cells fz cs):=by
    unfold St.cells at hc;split at hc
    .rename_i bk yU
     cases hc;simp[dc,yU]
    .cases hc
   obtain⟨fz,ca⟩:=ca;cases d with
   |int k' n'=>
    simp only at h;obtain⟨h0,hK⟩:=Zp h;simp only[aR,kU]at h0;have h1:=Ht h0.1;have h2:=h0.2;rw[<-h1,<-h2]at hd;grind
   |_=>cases h
theorem Rel.num (R:Rel C f ψ E s a w) {cb:CB} (e:ψ (.inl i)=some cb) (h: ∃fz cs,dc s i=some (.cells fz cs)/\cs[p]? =some (.int k n)):w.cell? ⟨cb.b,cb.o+p,none⟩=some (.int k n):=by
 obtain⟨fz,cs,h1,h2⟩:=h;have hh:=R.eL.holds (.inl i) cb _ e h1;obtain⟨v,hv,hr⟩:=hh.2.2.1 p _ h2;cases hr;exact hv
theorem Rel.ptr (R:Rel C f ψ E s a w) {x:Operand} {i p:Nat} (e:E.src C x= .v (.ptr (some (i,p)))): ∃cb:CB,ψ (.inl i)=some cb/\a.eval x= .pointer (some ⟨cb.b,cb.o+p,none⟩):=by
 have h:=R.eval x;rw[e]at h;have h:VR C ψ (.ptr (some (i,p))) (a.eval x):=h;generalize a.eval x=v at h;cases h with
 |ptr _ _ cb e=>exact⟨cb,e,rfl⟩
theorem ZqE {y:Operand} (ho:o.op= .fieldAddr t y fi) (h:ft C [] [] .s c o E Kk s=some r):
  ∃off,∀(a:Act) (w:World) b n,a.eval y= .pointer (some ⟨b,n,none⟩)->(execOp a.eval o).run C.P w= .ok (.value (.pointer (some ⟨b,n+off,none⟩))) w:=by
 unfold ft at h;rw[ho]at h;simp only at h;unfold Ko at h;cases ht:C.P.underlying t with
 |none=>rw[ht]at h;cases h
 |some td=>
  rw[ht]at h;cases td with
  |struct fs=>
   simp only at h;cases hf:fs[fi]? with
   |none=>rw[hf]at h;cases h
   |some fd=>
    rw[hf]at h;simp only at h;obtain⟨hc,h⟩:=G0 h;have hc:=JP hc;have cB: ∀w,(sizeOf fd.type).run C.P w= .ok (C.P.cellsOf fd.type) w:=by
     intro w;unfold Program.cellsOf at hc⊢;cases hi:C.P.info? fd.type with
     |none=>rw[hi]at hc;simp at hc
     |some i=>simp[sizeOf,typeInfo,hi]
    refine⟨fd.offset,λa w b n hy=>?_⟩;simp[execOp,ho,hy,Instr.fieldAt,Zl w ht,hf,vr,fieldPlace,cB,hc,Ae]
  |_=>cases h
theorem Zwv {x:Operand} (ho:o.op= .load t x) (hs:YU (mG C.P t)=true) (h:ft C [] [] .s c o E Kk s=some r) (a:Act) (w:World) (A:Addr) (v:Value) (ha:a.eval x= .pointer (some A)) (hw:w.cell? A=some v):
  (execOp a.eval o).run C.P w= .ok (.value v) w:=by
 unfold ft at h;rw[ho]at h;simp only at h;unfold LU at h;obtain⟨td,ht,h⟩:=pD h;cases iB:mG C.P t with
 |b y'=>simp only[execOp,ho,ha,Instr.loadAt,Sem.run_bind,vr,Result.andThen_ok,Gt ht (TO iB) _ w (by rw[run_load,hw]),Sem.run_pure]
 |agg l=>rw[iB]at hs;cases hs
theorem Tk (hi:ops[i]? =some o) (hg:o.guard=none) (h:o.wp P a w next QQ):wpOp P ops QQ i next a w:=by
 unfold wpOp;simp only[hi];rw[bw (by simp[Region.wanted,hg])];exact .inl h
theorem ZvV (he:(execOp a.eval o).run P w= .ok (.value v) w) (h:o.wp P a w next QQ):next (a.put o.dst v) w:=by
 unfold Oper.wp at h;rw[he]at h;exact h
theorem ED {x:Operand} {K:Env->Nat->Nat->M β} (h: ∀i p,Lk (λE=>K E i p) r):Lk (λE=>zB C E x (K E)) r:=by
 intro E s h';obtain⟨i,p,_,h'⟩:=KK h';exact h i p E s h'
theorem Zte {K:Env->IntKind->Int->M β} (h: ∀k n,Lk (λE=>K E k n) r):Lk (λE=>xk i p (K E)) r:=by
 intro E s h';obtain⟨k,n,_,h'⟩:=Znt h';exact h k n E s h'
theorem Ev {K:Env->M β} (h:Lk K r):Lk (λE=>hJ i p k n (K E)) r:=by
 intro E s h';exact h E s (Kw h').1
theorem ZwJ (hC:og C) (hc:ZQ C c) (fk:okO f.ok ops.toList=true) (h:Js C c ops E K s=some r) (hl:Lk K r) (AZ:C.P.follows .mixedOrders=true) (hN:r.2.length<=f.N) (id:Nat) (R:Rel C f ψ E s a w) (QQ:Exit->Act->World->Prop)
  (qn: ∀E' s' ψ' a' w',K E' s'=some r->Rel C f ψ' E' s' a' w'->QQ .normal a' w') (qp: ∀ch a' w' s',r=(.eZ,s')->oi ch->rE C f s' a' w'->QQ (.panic ch) a' w'):(Code.region id ops true).wp C.P QQ a w:=by
 unfold Js at h;cases cZ:HS ops.toList with
 |none=>rw[cZ]at h;cases h
 |some q=>
 obtain⟨o0,o1,o2,o3,o4,o5,o6,o7⟩:=q;rw[cZ]at h;have xJ:=ZuR cZ;simp only at h;obtain⟨hb,h⟩:=Zp h;simp only[aR,Option.isNone_iff_eq_none]at hb;obtain⟨⟨⟨hy,MT⟩,gK⟩,⟨⟨⟨⟨⟨⟨⟨g0,g1⟩,g2⟩,g3⟩,g4⟩,g5⟩,g6⟩,g7⟩⟩:=hb;obtain⟨x3,NQ,x4,Ml,NT,x5,h3,h4,h5⟩: ∃x3 NQ x4 Ml NT x5,o3.op= .nilCheck x3/\o4.op= .fieldAddr NQ x4 Ml/\o5.op= .load NT x5:=by
  cases h3:o3.op with
  |nilCheck x3=>
   cases h4:o4.op with
   |fieldAddr NQ x4 Ml=>
    cases h5:o5.op with
    |load NT x5=>grind
    |_=>rw[h3,h4,h5]at h;cases h
   |_=>rw[h3,h4]at h;cases h
  |_=>rw[h3]at h;cases h
 rw[h3,h4,h5]at h;simp only at h;obtain⟨M3,h⟩:=lL h;have i0:ops[0]? =some o0:=by rw[<-jE,xJ];rfl
 have i1:ops[1]? =some o1:=by rw[<-jE,xJ];rfl
 have i2:ops[2]? =some o2:=by rw[<-jE,xJ];rfl
 have i3:ops[3]? =some o3:=by rw[<-jE,xJ];rfl
 have i4:ops[4]? =some o4:=by rw[<-jE,xJ];rfl
 have i5:ops[5]? =some o5:=by rw[<-jE,xJ];rfl
 have i6:ops[6]? =some o6:=by rw[<-jE,xJ];rfl
 have i7:ops[7]? =some o7:=by rw[<-jE,xJ];rfl
 have nJ: ∀o∈ops.toList,∀x,o.dst=some x->f.ok x=true:=λo ho x hx=>EC fk o ho x hx
 rw[xJ]at nJ;have afC:ops.size=8:=by rw[<-lZ,xJ];rfl
 have l7: ∀i p k n,Lk (λE7=>hJ i p k n (K E7)) r:=λi p k n=>Ev hl
 have l6: ∀i p k n,Lk (λE6=>hJ i p k n (ft C [] [] .s c o7 E6 λE7=>hJ i p k n (K E7))) r:=λi p k n=>Ev (qg hC hc o7 (l7 i p k n))
 have l1: ∀i p k n,Lk (λE1=>hJ i p k n (ft C [] [] .s c o6 E1 λE6=>hJ i p k n (ft C [] [] .s c o7 E6 λE7=>hJ i p k n (K E7)))) r:=λi p k n=>Ev (qg hC hc o6 (l6 i p k n))
 have l5: ∀i p k n,Lk (λE5=>ft C [] [] .s c o1 E5 λE1=>hJ i p k n (ft C [] [] .s c o6 E1 λE6=>hJ i p k n (ft C [] [] .s c o7 E6 λE7=>hJ i p k n (K E7)))) r:=λi p k n=>qg hC hc o1 (l1 i p k n)
 have l4:=ED (C:=C) (x:=x5) (K:=λE4 i p=>xk i p λk n=>ft C [] [] .s c o5 E4 λE5=>ft C [] [] .s c o1 E5 λE1=>hJ i p k n (ft C [] [] .s c o6 E1 λE6=>hJ i p k n (ft C [] [] .s c o7 E6 λE7=>hJ i p k n (K E7)))) (r:=r) (λi p=>Zte (K:=λE4 k n=>ft C [] [] .s c o5 E4 λE5=>ft C [] [] .s c o1 E5 λE1=>hJ i p k n (ft C [] [] .s c o6 E1 λE6=>hJ i p k n (ft C [] [] .s c o7 E6 λE7=>hJ i p k n (K E7)))) λk n=>qg hC hc o5 (l5 i p k n));have l3:=ED (C:=C) (x:=x4) (r:=r) (K:=λE3 _ _=>ft C [] [] .s c o4 E3 λE4=>zB C E4 x5 λi p=>xk i p λk n=>ft C [] [] .s c o5 E4 λE5=>ft C [] [] .s c o1 E5 λE1=>hJ i p k n (ft C [] [] .s c o6 E1 λE6=>hJ i p k n (ft C [] [] .s c o7 E6 λE7=>hJ i p k n (K E7)))) (λ_ _=>qg hC hc o4 l4);have l2:=ED (C:=C) (x:=x3) (r:=r) (K:=λE2 _ _=>ft C [] [] .s c o3 E2 λE3=>zB C E3 x4 λ_ _=>ft C [] [] .s c o4 E3 λE4=>zB C E4 x5 λi p=>xk i p λk n=>ft C [] [] .s c o5 E4 λE5=>ft C [] [] .s c o1 E5 λE1=>hJ i p k n (ft C [] [] .s c o6 E1 λE6=>hJ i p k n (ft C [] [] .s c o7 E6 λE7=>hJ i p k n (K E7)))) (λ_ _=>qg hC hc o3 l3);have l0:=qg hC hc o2 l2;simp only[NC,aR,kU,List.isEmpty_iff]at hy;obtain⟨⟨⟨⟨⟨⟨⟨⟨⟨Ix,f0,r0⟩,f1,r1⟩,f2,r2⟩,f3,r3⟩,f4,r4⟩,rd5⟩,rd6⟩,rd7⟩,rd8⟩:=hy;have R:=R.drew;generalize cG:({ w with drawn:=w.drawn+1 } :World)=w1 at R;have mv: ∀ {o:Oper},Nq o.op=true->∀(a:Act),∃v,∀w',(execOp a.eval o).run C.P w'= .ok (.value v) w':=by
  intro o ho a;unfold Nq at ho;split at ho
  .rename_i t e
   exact⟨a.eval (.tmp t),λw'=>by simp[execOp,e]⟩
  .cases ho
 have fst: ∀ {o:Oper} {E:Env} {s:St} {ψ:Ps} {a:Act} {K':Env->M β} {v:Value},o∈[o0,o1,o2,o3,o4,o5,o6,o7]->ft C [] [] .s c o E K' s=some r->Lk K' r->Rel C f ψ E s a w1->(execOp a.eval o).run C.P w1= .ok (.value v) w1->
   ∃E' s' ψ',K' E' s'=some r/\Rel C f ψ' E' s' (a.put o.dst v) w1/\∀h cb,ψ h=some cb->ψ' h=some cb:=by
  intro o E s ψ a K' v ho h hl R hv;rcases Lv (f:=f) hC hc h hl hN (nJ o ho)with⟨E',s',hk,_,q⟩|⟨s',_,q⟩
  .obtain⟨ψ',h1,h2⟩:=ZvV (next:=λa' w'=>∃ψ',Rel C f ψ' E' s' a' w'/\∀h cb,ψ h=some cb->ψ' h=some cb) hv (q ψ a w1 (λ_ _ _=>True) _ R λψ' v w' R' m=>⟨ψ',R',m⟩)
   exact⟨E',s',ψ',hk,h1,h2⟩
  .exact(ZvV (next:=λ_ _=>False) hv (q ψ a w1 (λ_ _ _=>True) _ R λ_ _ _ _ _=>trivial)).elim
 obtain⟨v0,y0⟩:=mv MT a;obtain⟨E0,s0,il,h,R0,_⟩:=fst (by simp) h l0 R (y0 w1);obtain⟨v2,y2⟩:=mv gK (a.put o0.dst v0);obtain⟨E2,s2,jU,h,R2,_⟩:=fst (by simp) h l2 R0 (y2 w1);obtain⟨b3,p3,V3,h⟩:=KK h;obtain⟨cb3,_,e3⟩:=R2.ptr V3;have y3: ∀w',(execOp ((a.put o0.dst v0).put o2.dst v2).eval o3).run C.P w'= .ok (.value (.pointer (some ⟨cb3.b,cb3.o+p3,none⟩))) w':=λw'=>by simp[execOp,h3,e3]
 obtain⟨E3,s3,JH,h,R3,_⟩:=fst (by simp) h l3 R2 (y3 w1);obtain⟨b4,p4,hx4,h⟩:=KK h;obtain⟨cb4,_,e4⟩:=R3.ptr hx4;obtain⟨off,y4⟩:=ZqE h4 h;have y4:=λw'=>y4 _ w' _ _ e4
 obtain⟨E4,s4,ψ4,h,R4,_⟩:=fst (by simp) h l4 R3 (y4 w1);obtain⟨i,p,V4,h⟩:=KK h;obtain⟨cb,uy,e5⟩:=R4.ptr V4;obtain⟨k,n,oH,h⟩:=Znt h;have y5:=λw' hw=>Zwv h5 M3 h _ w' _ (.int k n) e5 hw
 have hS:w1.cell? ⟨cb.b,cb.o+p,none⟩=some (.int k n):=R4.num uy oH;obtain⟨E5,s5,ψ5,h,R5,m5⟩:=fst (by simp) h (l5 i p k n) R4 (y5 w1 hS);have uy:=m5 _ _ uy;refine wp_mono (Q:=λe a' w'=>match e with
  | .normal=>∃E' s' ψ',K E' s'=some r/\Rel C f ψ' E' s' a' w'
  | .panic ch=>oi ch/\∃s',r=(.eZ,s')/\rE C f s' a' w'
  |_=>False) (wp_region_held (S:=λw'=>w'.cell? ⟨cb.b,cb.o+p,none⟩=some (.int k n)) AZ ?_) ?_
 rotate_left
 .intro e a' w' he
  cases e with
  |normal=>obtain⟨E',s',ψ',hk,R'⟩:=he;exact qn E' s' ψ' a' w' hk R'
  |panic ch=>obtain⟨hv,s',e,hp⟩:=he;exact qp ch a' w' s' e hv hp
  |_=>exact he.elim
 have wanted: ∀ {o:Oper} {y:Nat->Option Bool},o.guard=none->Region.wanted o y=true:=λhg=>by simp[Region.wanted,hg]
 have hQ: ∀ {o:Oper} {v:Value},o∈[o0,o1,o2,o3,o4,o5,o6,o7]->∀ch a' w',(oi ch/\∃s',r=(.eZ,s')/\rE C f s' (a'.put o.dst v) w')->(oi ch/\∃s',r=(.eZ,s')/\rE C f s' a' w'):=
  λho ch a' w' ⟨hv,s',e,hp⟩=>⟨hv,s',e,hp.agI (nJ _ ho)⟩
 rw[afC,cG];refine wpAnyH_take i0 Ix f0 r0 (hQ (by simp)) (.inl ⟨wanted g0,λw' _=>y0 w'⟩) hS ?_;refine wpAnyH_take i2 Ix f1 r1 (hQ (by simp)) (.inl ⟨wanted g2,λw' _=>y2 w'⟩) hS ?_;refine wpAnyH_take i3 Ix f2 r2 (hQ (by simp)) (.inl ⟨wanted g3,λw' _=>y3 w'⟩) hS ?_;refine wpAnyH_take i4 Ix f3 r3 (hQ (by simp)) (.inl ⟨wanted g4,λw' _=>y4 w'⟩) hS ?_;refine wpAnyH_take i5 Ix f4 r4 (hQ (by simp)) (.inl ⟨wanted g5,λw' hw=>y5 w' hw⟩) hS ?_;refine wpAnyH_all rd5 (by simp) λj hj=>?_
 rw[cj]at hj;subst hj;refine Tk i1 g1 ?_;rcases Lv (f:=f) hC hc h (l1 i p k n) hN (nJ o1 (by simp))with⟨E1,s1,h,_,q1⟩|⟨s',e,q1⟩
 rotate_left
 .exact q1 _ _ _ _ _ R5 λch a' w' hv hp=>⟨hv,s',e,hp⟩
 refine q1 _ _ _ _ _ R5 λiu v1 w2 R1 m1=>?_
 have uy:=m1 _ _ uy;obtain⟨h,iJ⟩:=Kw h;refine⟨R1.num uy iJ,wpAnyH_all rd6 (by simp) λj hj=>?_⟩;rw[cj]at hj;subst hj;refine Tk i6 g6 ?_;rcases Lv (f:=f) hC hc h (l6 i p k n) hN (nJ o6 (by simp))with⟨E6,s6,h,_,q6⟩|⟨s',e,q6⟩
 rotate_left
 .exact q6 _ _ _ _ _ R1 λch a' w' hv hp=>⟨hv,s',e,hp⟩
 refine q6 _ _ _ _ _ R1 λψ6 v6 w6 R6 m6=>?_
 have uy:=m6 _ _ uy;obtain⟨h,hc6⟩:=Kw h;refine⟨R6.num uy hc6,wpAnyH_all rd7 (by simp) λj hj=>?_⟩;rw[cj]at hj;subst hj;refine Tk i7 g7 ?_;rcases Lv (f:=f) hC hc h (l7 i p k n) hN (nJ o7 (by simp))with⟨E7,s7,h,_,q7⟩|⟨s',e,q7⟩
 rotate_left
 .exact q7 _ _ _ _ _ R6 λch a' w' hv hp=>⟨hv,s',e,hp⟩
 refine q7 _ _ _ _ _ R6 λψ7 v7 w7 R7 m7=>?_
 have uy:=m7 _ _ uy;obtain⟨h,hc7⟩:=Kw h;exact⟨R7.num uy hc7,wpAnyH_done rd8 ⟨E7,s7,ψ7,h,R7⟩ _⟩
end
def oF:Code->List Code
 | .seq a b=>oF a++oF b
 |c=>[c]
def sJ (P:Program):List Code->(Exit->Act->World->Prop)->Act->World->Prop
 |[],Q=>Q .normal
 |x::r,Q=>x.wp P (Exit.then (sJ P r Q) Q)
theorem Zvn (n m:Act->World->Prop) (Q:Exit->Act->World->Prop):Exit.then n (Exit.then m Q)=Exit.then n Q:=by
 funext e a w;cases e<;>rfl
theorem Zvm (Q:Exit->Act->World->Prop):Exit.then (Q .normal) Q=Q:=by
 funext e a w;cases e<;>rfl
theorem S7 {P:Program} : ∀(l m:List Code) (Q:Exit->Act->World->Prop),sJ P (l++m) Q=sJ P l (Exit.then (sJ P m Q) Q)
 |[],m,Q=>rfl
 |x::l,m,Q=>by
  show x.wp P (Exit.then (sJ P (l++m) Q) Q)=x.wp P (Exit.then (sJ P l (Exit.then (sJ P m Q) Q)) (Exit.then (sJ P m Q) Q));rw[S7 l m Q,Zvn]
theorem Zxx : ∀(c:Code) (Q:Exit->Act->World->Prop) (a:Act) (w:World),sJ P (oF c) Q a w->c.wp P Q a w:=by
 intro c;induction c with
 |seq x y ihx ihy=>
  intro Q a w h;rw[oF,S7]at h;refine wp_seq (wp_mono (ihx _ a w h) λe a w h=>?_);cases e<;>first|exact ihy Q a w h|exact h
 |_=>intro Q a w h;simp only[oF,sJ,Zvm]at h;exact h
def I5:Code->Option (Array Oper)
 | .region _ ops true=>bif NC ops&&Nat.beq ops.size 8 then some ops else none
 |_=>none
noncomputable def HO (C:bB) (c:Zf) (n:Nat) (x:Code) (kn kr:Env->M β):Env->M β:=match I5 x with
 |some ops=>λE=>Js C c ops E kn
 |none=>exec C [] c n x .z kn (λ_ _=>fail) kr
noncomputable def xu (C:bB) (c:Zf) (n:Nat):List Code->(Env->M β)->(Env->M β)->Env->M β
 |[],kn,_=>kn
 |x::r,kn,kr=>HO C c n x (xu C c n r kn kr) kr
def Jg (ok:Nat->Bool):List Code->Bool
 |[]=>true
 |x::r=>xX ok x&&Jg ok r
section
variable {C:bB} {f:Fr} {c:Zf} {n:Nat} {r:Out β×St}
theorem Zv9 {x:Code} (h:I5 x=some ops): ∃id,x= .region id ops true:=by
 unfold I5 at h;split at h
 .rename_i id aae
  cases hb:NC aae&&Nat.beq aae.size 8 with
  |false=>rw[hb]at h;cases h
  |true=>rw[hb]at h;cases h;exact⟨id,rfl⟩
 .cases h
theorem ZwF (hC:og C) (hc:ZQ C c) {K:Env->M β} (h:Lk K r):Lk (λE=>Js C c ops E K) r:=by
 intro E s h';unfold Js at h';cases cZ:HS ops.toList with
 |none=>rw[cZ]at h';cases h'
 |some q=>
  obtain⟨o0,o1,o2,o3,o4,o5,o6,o7⟩:=q;rw[cZ]at h';simp only at h';obtain⟨_,h'⟩:=Zp h';cases h3:o3.op with
  |nilCheck x3=>
   cases h4:o4.op with
   |fieldAddr NQ x4 Ml=>
    cases h5:o5.op with
    |load NT x5=>
     rw[h3,h4,h5]at h';simp only at h';obtain⟨_,h'⟩:=lL h';refine qg hC hc o0 (qg hC hc o2 (ED (K:=λE2 _ _=>_) λ_ _=>qg hC hc o3 (ED (K:=λE3 _ _=>_) λ_ _=>qg hC hc o4 (ED (K:=λE4 i p=>_) λi p=>Zte (K:=λE4 k n=>_) λk n=>qg hC hc o5 (qg hC hc o1 (Ev (qg hC hc o6 (Ev (qg hC hc o7 (Ev h)))))))))) E s h'
    |_=>rw[h3,h4,h5]at h';cases h'
   |_=>rw[h3,h4]at h';cases h'
  |_=>rw[h3]at h';cases h'
theorem ZvQ (hC:og C) (hc:ZQ C c) (x:Code) (kn kr:Env->M β) (h:Lk kn r) (k:Lk kr r):Lk (HO C c n x kn kr) r:=by
 unfold HO;cases I5 x with
 |some ops=>exact ZwF hC hc h
 |none=>exact Hd hC hc x .z _ _ kr h (λ_ _ _ h=>by cases h) k
theorem Ef (hC:og C) (hc:ZQ C c): ∀(l:List Code) (kn kr:Env->M β),Lk kn r->Lk kr r->Lk (xu C c n l kn kr) r
 |[],_,_,h,_=>h
 |x::l,kn,kr,h,k=>ZvQ hC hc x _ kr (Ef hC hc l kn kr h k) k
theorem SG (hC:og C) (hc:ZQ C c) (AZ:C.P.follows .mixedOrders=true) (hN:r.2.length<=f.N): ∀(l:List Code) (kn kr:Env->M β),Jg f.ok l=true->Lk kn r->Lk kr r->
  ∀(E:Env) (s:St),xu C c n l kn kr E s=some r->∀(ψ:Ps) (a:Act) (w:World) (QQ:Exit->Act->World->Prop),Rel C f ψ E s a w->
  (∀E' s' ψ' a' w',kn E' s'=some r->Rel C f ψ' E' s' a' w'->QQ .normal a' w')->
  (∀E' s' ψ' a' w',kr E' s'=some r->Rel C f ψ' E' s' a' w'->QQ .ret a' w')->
  (∀ch a' w' s',r=(.eZ,s')->oi ch->rE C f s' a' w'->QQ (.panic ch) a' w')->sJ C.P l QQ a w
 |[],kn,kr,_,_,_,E,s,h,ψ,a,w,QQ,R,qn,_,_=>qn E s ψ a w h R
 |x::l,kn,kr,ho,hn,hr,E,s,h,ψ,a,w,QQ,R,qn,qr,qp=>by
  simp only[Jg,aR]at ho;have rest: ∀E' s' ψ' a' w',xu C c n l kn kr E' s'=some r->Rel C f ψ' E' s' a' w'->sJ C.P l QQ a' w':=λE' s' ψ' a' w' h' R'=>
   SG hC hc AZ hN l kn kr ho.2 hn hr E' s' h' ψ' a' w' QQ R' qn qr qp
  have h:HO C c n x (xu C c n l kn kr) kr E s=some r:=h;unfold HO at h;cases hy:I5 x with
  |some ops=>
   rw[hy]at h;obtain⟨id,rfl⟩:=Zv9 hy;exact ZwJ hC hc ho.1 h (Ef hC hc l kn kr hn hr) AZ hN id R _ rest (λch a' w' s' e h1 h2=>qp ch a' w' s' e h1 h2)
  |none=>
   rw[hy]at h;exact TD hC hc AZ hN x .z _ _ kr ho.1 (Ef hC hc l kn kr hn hr) (λ_ _ _ h=>by cases h) hr E s h ψ a w _ R (λE' s' ψ' a' w' h' R' _=>rest E' s' ψ' a' w' h' R') (λ_ _ _ _ _ _ h=>by cases h) (λE' s' ψ' a' w' h' R'=>qr E' s' ψ' a' w' h' R') (λch a' w' s' e h1 h2=>qp ch a' w' s' e h1 h2)
theorem jm.trans {il iu jU:Ps} {s0 s1 s2:St} {w0 w1 w2:World} (hl:s0.length<=s1.length) (mW:s1.length<=s2.length) (h:jm C il s0 w0 iu s1 w1) (k:jm C iu s1 w1 jU s2 w2):jm C il s0 w0 jU s2 w2:=by
 refine⟨k.eL,h.ext.trans k.ext,λx cb e=>?_⟩;rcases k.news x cb e with e|⟨i,rfl,h1,h2⟩
 .rcases h.news x cb e with e|⟨i,rfl,h1,h2⟩
  .exact .inl e
  .exact .inr ⟨i,rfl,h1,by omega⟩
 .exact .inr ⟨i,rfl,by omega,h2⟩
end
def p7 (C:bB) (E:Env):List ResultVar->(ah->M β)->M β
 |[],K=>K []
 | .cell a t::r,K=>match E.get a with
  | .v (.ptr (some (i,o)))=>ra C.P t (bif iS C.P t then bS i o (C.P.cellsOf t) λcs=>p7 C E r λds=>K (.agg cs::ds)else bG i o λd=>p7 C E r λds=>K (d::ds))
  |_=>fail
 | .tmp _::_,_=>fail
def HM:Option Code->Option (Nat×FuncId×List Operand)
 |some (.region _ ⟨[⟨some td,.makeFunc (.func g) ⟨[]⟩ ⟨hY⟩,_,_,_,none⟩,⟨none,.defer ⟨.value (.tmp t'),⟨[]⟩,_⟩,_,_,_,none⟩]⟩ false)=>bif Nat.beq td t' then some (td,g,hY)else none
 |_=>none
def xR (P:Program) (ty:TypeId):Bool:=match P.underlying ty with
 |some (.interface _)=>true
 |_=>false
def ER (P:Program) (m N:Nat):Code->Option Code
 | .seq (.region _ ⟨[⟨some t3,.call ⟨.builtin .recover,⟨[]⟩,_⟩,_,_,_,none⟩,⟨some t4,.binOp .neq ty (.tmp W3) (.const .nilIface) _,_,_,_,none⟩]⟩ false) (.cond (.tmp W4) b .skip)=>
  bif Nat.beq t3 W3&&Nat.beq t4 W4&& !Nat.beq t3 t4&&Nat.ble m t3&&Nat.ble m t4&&Nat.blt t3 N&&Nat.blt t4 N&&xR P ty then some b else none
 |_=>none
def Nr:eH->Bool
 | .u=>true
 |_=>false
def wj:List ResultVar->Nat->Bool
 |[],_=>true
 | .cell a _::r,t=> !Nat.beq a t&&wj r t
 | .tmp _::_,_=>false
noncomputable def Uc (C:bB) (k:Nat) (fn fG:Func) (c:Zf) (n:Nat) (args:ah):M ah:=
 match fn.body,fG.body with
 |some code,some yM=>match HM ((oF code)[k]?),ER C.P fG.nfree fG.ntmps yM with
  |some (td,_,hY),some gb=>
   bif Jg (sv fn.ntmps) ((oF code).take k)&&Jg (λt=>sv fn.ntmps t&&wj fn.results.toList t) ((oF code).drop (k+1))&&xX (sv fG.ntmps) gb&&Nat.ble fn.params.size fn.ntmps&&Nat.blt td fn.ntmps&&wj fn.results.toList td
    &&Nat.beq fn.nfree 0&&Nat.beq fG.params.size 0&&fG.results.isEmpty&&Nat.ble fG.nfree fG.ntmps&&Nat.beq hY.length fG.nfree then
    AH (fn.params.toList.map (mG C.P)) args λds=>
     let fin (E:Env):M ah:=p7 C E fn.results.toList λds=>ay ds
     xu C c n ((oF code).take k) (λE=>aC (Nat.beq E.bO 0&&Nr (E.get td)) (zG C E hY λcs=>
      uv (xu C c n ((oF code).drop (k+1)) (λ_=>ay []) (λ_=>ay []) E)
       λp=>bif p then uv (exec C [] c n gb .z (λ_=>ay []) (λ_ _=>fail) (λ_=>ay []) ⟨0,jK 0 cs⟩) λp=>bif p then fail else fin E
        else fin E)) fin ⟨0,jK 0 ds⟩
   else fail
  |_,_=>fail
 |_,_=>fail
section
variable {C:bB} {ψ:Ps} {s:St} {w:World} {g:FuncId} {fG:Func}
theorem Zqi {m:Nat} {c:Code} (h:ER P m N c=some gb):
  ∃id t3 t4 ty aT rT rP rA eT xp eP eA,c= .seq (.region id #[⟨some t3,.call ⟨.builtin .recover, #[],aT⟩,rT,rP,rA,none⟩,⟨some t4,.binOp .neq ty (.tmp t3) (.const .nilIface) eT,xp,eP,eA,none⟩] false) (.cond (.tmp t4) gb .skip)/\
   t3≠t4/\m<=t3/\m<=t4/\t3<N/\t4<N/\xR P ty=true:=by
 unfold ER at h;split at h
 .rename_i id t3 aT rT rP rA t4 ty W3 eT xp eP eA W4 b
  cases hc:(Nat.beq t3 W3&&Nat.beq t4 W4&& !Nat.beq t3 t4&&Nat.ble m t3&&Nat.ble m t4&&Nat.blt t3 N&&Nat.blt t4 N&&xR P ty)with
  |false=>rw[hc]at h;cases h
  |true=>
   rw[hc]at h;simp only[ae,fU]at h;subst h;simp only[aR]at hc;obtain⟨⟨⟨⟨⟨⟨⟨h1,h2⟩,h3⟩,h4⟩,h5⟩,h6⟩,h7⟩,h8⟩:=hc;cases dy h1;cases dy h2;refine⟨id,t3,t4,ty,aT,rT,rP,rA,eT,xp,eP,eA,rfl,?_,pj h4,pj h5,by rw[pd]at h6;exact h6,by rw[pd]at h7;exact h7,h8⟩;intro e;subst e;simp[BL]at h3
 .cases h
theorem Zof (h:xR P ty=true): ∃ms,P.underlying ty=some (.interface ms):=by
 unfold xR at h;split at h
 .rename_i ms hms;exact⟨ms,hms⟩
 .cases h
theorem Zuj (h:xR P ty=true) (d:Nat) (t:TypeId) (v:Value) (w:World):(Op.equalIn (d+1) ty (.iface t v) .nilIface).run P w= .ok false w:=by
 obtain⟨ms,hu⟩:=Zof h;rw[Op.equalIn.eq_2,Sem.run_bind,Zl w hu];rfl
theorem Zuw (h:xR P ty=true) (d:Nat) (w:World):(Op.equalIn (d+1) ty .nilIface .nilIface).run P w= .ok true w:=by
 obtain⟨ms,hu⟩:=Zof h;rw[Op.equalIn.eq_2,Sem.run_bind,Zl w hu];rfl
theorem ZuS (h:xR P ty=true) (t:TypeId) (v:Value) (w:World):(binOp .neq ty (.iface t v) .nilIface).run P w= .ok (.bool true) w:=by
 have e:binOp .neq ty (.iface t v) .nilIface=(do let b <-Op.equal ty (.iface t v) .nilIface;pure (.bool !b)):=by
  unfold binOp;rfl
 rw[e,Sem.run_bind,show Op.equal ty (.iface t v) .nilIface=Op.equalIn (9999+1) ty (.iface t v) .nilIface from rfl,Zuj h];rfl
theorem Zxo (h:xR P ty=true) (w:World):(binOp .neq ty .nilIface .nilIface).run P w= .ok (.bool false) w:=by
 have e:binOp .neq ty .nilIface .nilIface=(do let b <-Op.equal ty .nilIface .nilIface;pure (.bool !b)):=by
  unfold binOp;rfl
 rw[e,Sem.run_bind,show Op.equal ty .nilIface .nilIface=Op.equalIn (9999+1) ty .nilIface .nilIface from rfl,Zuw h];rfl
theorem Zt4 {a:Act} {x:Value} (ho:ops[i]? =some o) (hg:o.guard=none) (he:(execOp a.eval o).run P w= .ok .recover w)
  (aP:(match recoverD cs with|some (v,cs')=>(v,cs')|none=>(Value.nilIface,cs))=(x,cs')) (h:wpOpsS P ops Q rest (a.put o.dst x) cs' w):wpOpsS P ops Q (i::rest) a cs w:=by
 simp only[wpOpsS,ho];rw[bw (by simp[Region.wanted,hg]),he];simp only;cases hr:recoverD cs with
 |none=>rw[hr]at aP;cases aP;exact h
 |some p=>rw[hr]at aP;cases aP;exact h
theorem Zt6 {a:Act} {x:Value} (ho:ops[i]? =some o) (hg:o.guard=none) (he:(execOp a.eval o).run P w= .ok (.value x) w)
  (h:wpOpsS P ops Q rest (a.put o.dst x) cs w):wpOpsS P ops Q (i::rest) a cs w:=by
 simp only[wpOpsS,ho];rw[bw (by simp[Region.wanted,hg]),he];exact h
def Dx (vs:Array Value) (N t3 t4:Nat) (x:Value) (b:Bool):Array Value:=((vs++Array.replicate (N-vs.size) Go.undef).setIfInBounds t3 x).setIfInBounds t4 (.bool b)
theorem ZjP {aT:Array TypeId} (ag8:t3≠t4) (h3:t3<N) (h4:t4<N) (aha:xR C.P ty=true) {xm:Frame} {x:Value} {b:Bool}
  (aP:(match recoverD (xm::cs)with|some (v,cs')=>(v,cs')|none=>(Value.nilIface,xm::cs))=(x,cs')) (hb:(binOp .neq ty x .nilIface).run C.P w= .ok (.bool b) w) (hx:(∃t v,x= .iface t v)\/x= .nilIface)
  (h:(bif b then gb else .skip).wpS C.P Q { tmps:=Dx vs N t3 t4 x b,defers:=[] } cs' w):
  (Code.seq (.region id #[⟨some t3,.call ⟨.builtin .recover, #[],aT⟩,rT,rP,rA,none⟩,⟨some t4,.binOp .neq ty (.tmp t3) (.const .nilIface) eT,xp,eP,eA,none⟩] false) (.cond (.tmp t4) gb .skip)).wpS C.P Q { tmps:=vs++Array.replicate (N-vs.size) Go.undef,defers:=[] } (xm::cs) w:=by
 have cB:N<=(vs++Array.replicate (N-vs.size) Go.undef).size:=by simp;omega
 refine wpS_seq (wpS_region ?_);have e1: ∀ev:Operand->Value,(execOp ev ⟨some t3,.call ⟨.builtin .recover, #[],aT⟩,rT,rP,rA,none⟩).run C.P w= .ok .recover w:=λ_=>rfl
 have fin:wpOpsS C.P #[⟨some t3,.call ⟨.builtin .recover, #[],aT⟩,rT,rP,rA,none⟩,⟨some t4,.binOp .neq ty (.tmp t3) (.const .nilIface) eT,xp,eP,eA,none⟩] (Exit.thenS ((Code.cond (.tmp t4) gb .skip).wpS C.P Q) Q) [1] (({ tmps:=vs++Array.replicate (N-vs.size) Go.undef,defers:=[] } :Act).put (some t3) x) cs' w:=by
  have U2:(({ tmps:=vs++Array.replicate (N-vs.size) Go.undef,defers:=[] } :Act).put (some t3) x).eval (.tmp t3)=x:=by
   simp only[Act.put,Act.eval];rw[rh,N4 (by omega)];rfl
  have e2:(execOp (({ tmps:=vs++Array.replicate (N-vs.size) Go.undef,defers:=[] } :Act).put (some t3) x).eval ⟨some t4,.binOp .neq ty (.tmp t3) (.const .nilIface) eT,xp,eP,eA,none⟩).run C.P w= .ok (.value (.bool b)) w:=by
   show(do let v <-(do eqGuard .neq ty (.tmp t3) (.const .nilIface) (Act.eval _ (.tmp t3)) (Act.eval _ (.const .nilIface));binOp .neq ty (Act.eval _ (.tmp t3)) (Act.eval _ (.const .nilIface)));pure (Next.value v):Sem Next).run C.P w=_;rw[U2];have hg:(eqGuard .neq ty (.tmp t3) (.const .nilIface) x .nilIface).run C.P w= .ok () w:=by
    rcases hx with⟨t,v,rfl⟩|rfl<;>rfl
   show((do eqGuard .neq ty (.tmp t3) (.const .nilIface) x .nilIface;binOp .neq ty x .nilIface:Sem Value)>>= λv=>pure (Next.value v)).run C.P w=_;rw[Sem.run_bind,Sem.run_bind,hg,Result.andThen_ok,hb];rfl
  refine Zt6 (o:=⟨some t4,.binOp .neq ty (.tmp t3) (.const .nilIface) eT,xp,eP,eA,none⟩) rfl rfl e2 ?_;show Exit.thenS _ Q .normal _ cs' w;refine wpS_cond (t:=b) ?_ ?_
  .simp only[Act.put,Act.eval]
   rw[rh,N4 (by simp;omega)];rfl
  .cases b<;>exact h
 show wpOpsS C.P _ _ [0,1] _ _ _;exact Zt4 (o:=⟨some t3,.call ⟨.builtin .recover, #[],aT⟩,rT,rP,rA,none⟩) rfl rfl (e1 _) aP fin
theorem Zl8 {fn:Func} (h:fn.results.isEmpty=true) (tmps:Array Value) (P:Program) (w:World):(results fn tmps).run P w= .ok (.tuple #[]) w:=by
 have e:fn.results= #[]:=by simpa using h
 simp[results,e]
theorem ZrJ (CX:C.P.funcs[g]? =some fG) (oM:fG.body=some yM) (hd:ER C.P fG.nfree fG.ntmps yM=some gb) (IK:fG.results.isEmpty=true):
  CallsD C.P g vs .returning w λe u' w'=>e= .returned (.tuple #[])/\u'= .returning/\w'=w:=by
 obtain⟨id,t3,t4,ty,aT,rT,rP,rA,eT,xp,eP,eA,rfl,du,_,_,h3,h4,qR⟩:=Zqi hd;refine callsD_of_wpS CX oM λxm cs hu=>?_
 refine ZjP (x:= .nilIface) (b:=false) du h3 h4 qR (cs':=xm::cs) ?_ (Zxo qR w) (.inr rfl) ?_
 .simp only[recoverD,hu]
 .refine wpS_of_wp (wp_skip ?_)
  refine⟨rfl,.returning,?_,_,Zl8 IK _ _ _,rfl,rfl,rfl⟩;cases xm;simp only at hu;subst hu;rfl
theorem Zsv (hF:Gl C) {c:Zf} (hc:ZQ C c) {n:Nat} {vs:List Value} (CX:C.P.funcs[g]? =some fG) (oM:fG.body=some yM) (hd:ER C.P fG.nfree fG.ntmps yM=some gb) (IK:fG.results.isEmpty=true)
  (fk:xX (sv fG.ntmps) gb=true) (hm:vs.length=fG.nfree) (hmN:fG.nfree<=fG.ntmps) (h:exec C [] c n gb .z (λ_=>ay []) (λ_ _=>fail) (λ_=>ay []) ⟨0,jK 0 ds⟩ s=some (.val ds0,s3))
  (zd:fa C ψ (CS s) w) (H2:rz ψ w) (CY:Glob C ψ) (mZ:bE C ψ ds vs) (Bb: ∀v,ψ (.inr v)=none) (IV: ∀i,s.length<=i->i<s3.length->ψ (.inl i)=none) {ch:List PanicEntry} (tx:oi ch):
  CallsD C.P g vs.toArray (.panicking ch) w λe u' w'=>e= .returned (.tuple #[])/\settle u'= .returning/\∃ψ',jm C ψ s w ψ' s3 w':=by
 obtain⟨id,t3,t4,ty,aT,rT,rP,rA,eT,xp,eP,eA,rfl,du,Bk,MU,h3,h4,qR⟩:=Zqi hd;obtain⟨pt,pv,rfl⟩:=tx;refine callsD_of_wpS CX oM λxm cs hu=>?_
 refine ZjP (x:= .iface pt pv) (b:=true) du h3 h4 qR (cs':= { xm with mode:= .panicking [{ v:= .iface pt pv,recovered:=true }] } ::cs) ?_ (ZuS qR _ _ w) (.inl ⟨_,_,rfl⟩) ?_
 .simp only[recoverD,hu]
 simp only[ae];have lk: ∀r:Out ah×St,Lk (λ_:Env=>(ay []:M ah)) r:=by
  intro r E s' h';simp only[ay,fU]at h';subst h';exact aL _
 have kG:ds.length=vs.length:=mZ.len
 let f:Fr:=⟨s3.length,fG.ntmps,ψ,s,w,sv fG.ntmps,λx h=>by unfold sv at h;rw[pd]at h;exact h,λt=>(Dx vs.toArray fG.ntmps t3 t4 (.iface pt pv) true).getD t Go.undef,[]⟩
 have vF: ∀t,(⟨0,jK 0 ds⟩:Env).get t=match ds[t]? with|some d=> .v d|none=> .u:=by
  intro t;have:=K5 0 ds t;simp only[cn,kV,BN]at this;exact this
 have uW: ∀t v,((⟨0,jK 0 ds⟩:Env).get t).cX≠some v:=by
  intro t v;rw[vF];cases ds[t]? <;>simp[eH.cX]
 have AF: ∀h ab,CR ⟨0,jK 0 ds⟩ s h ab->CS s h ab:=by
  intro h ab c;cases h with
  |inl i=>exact⟨i,rfl,c⟩
  |inr v=>
   rcases c with⟨t,n,cs,e,_⟩|⟨t,l,p,e,_⟩
   .exact absurd (by rw[e];rfl) (uW t v)
   .exact absurd (by rw[e];rfl) (uW t v)
 have R:Rel C f ψ ⟨0,jK 0 ds⟩ s { tmps:=Dx vs.toArray fG.ntmps t3 t4 (.iface pt pv) true,defers:=[] } w:=by
  refine⟨zd.weaken λ_ _ _ _ c=>AF _ _ c,⟨λt v e=>absurd e (uW t v),λt r v o e=>?_,λt v n cs e=>absurd (by rw[e];rfl) (uW t v),λt t' v e _=>absurd e (uW t v)⟩,H2,CY,λt=>?_,?_,rfl,IV,λv _=>Bb v,(Ext.refl ψ (CS s) w).weaken λ_ _ _ _ c=>AF _ _ c,λi cb e=> .inl e,aL _,Bb⟩
  .rw[vF]at e
   cases hd:ds[t]? <;>rw[hd]at e<;>cases e
  .rw[vF]
   cases hd:ds[t]? with
   |none=>trivial
   |some d=>
    obtain⟨v,hv,hr⟩:=mZ.get hd;have ax:=(dB.1 hv).1;have:(Dx vs.toArray fG.ntmps t3 t4 (.iface pt pv) true).getD t Go.undef=v:=by
     unfold Dx;rw[rh,Array.getElem?_setIfInBounds_ne (by omega),Array.getElem?_setIfInBounds_ne (by omega),N3 (by simpa using ax)];simp[hv]
    show fy C ψ (.v d) _;rw[this];exact hr
  .refine⟨?_,λ_ _=>rfl⟩
   show(Dx vs.toArray fG.ntmps t3 t4 (.iface pt pv) true).size=fG.ntmps;simp[Dx];omega
 refine wpS_of_wp ?_;have done: ∀ {E':Env} {s':St} {ψ':Ps} {a':Act} {w':World},(ay []:M ah) s'=some (.val ds0,s3)->Rel C f ψ' E' s' a' w'->
   a'.defers=[]/\∃u',({ xm with mode:= .panicking [{ v:= .iface pt pv,recovered:=true }] } ::cs:List Frame)= { xm with mode:=u' } ::cs/\∃v,(results fG a'.tmps).run C.P w'= .ok v w'/\Ending.returned v= .returned (.tuple #[])/\settle u'= .returning/\∃ψ',jm C ψ s w ψ' s3 w':=by
  intro E' s' ψ' a' w' h' R';simp only[ay,fU,DR]at h';obtain⟨_,rfl⟩:=h';exact⟨R'.defs,_,rfl,_,Zl8 IK _ _ _,rfl,rfl,_,R'.yH⟩
 refine TD hF.cfg hc hF.Mm (f:=f) (aL _) gb .z _ _ _ fk (lk _) (λi E s h=>by cases h) (lk _) _ s h ψ _ w _ R ?_ ?_ ?_ ?_
 .intro E' s' ψ' a' w' h' R' _;exact done h' R'
 .intro i E' s' ψ' a' w' h' _ _;cases h'
 .intro E' s' ψ' a' w' h' R';exact done h' R'
 .intro ch a' w' s' e;cases e
end
section
variable {C:bB} {ψ:Ps} {E:Env} {s:St} {w:World}
def Hv (ψ:Ps) (E:Env) (tmps:Array Value) (l:List ResultVar):Prop:=
 ∀a t,ResultVar.cell a t∈l->∀i o,E.get a= .v (.ptr (some (i,o)))->∃cb:CB,ψ (.inl i)=some cb/\tmps.getD a undef= .pointer (some ⟨cb.b,cb.o+o,none⟩)
theorem SN (hs:fa C ψ (CS s) w) {tmps:Array Value} {r:Out β×St} : ∀ {l:List ResultVar} {K:ah->M β},Hv ψ E tmps l->p7 C E l K s=some r->∃ds vs,K ds s=some r/\bE C ψ ds vs/\(l.mapM (LP tmps)).run C.P w= .ok vs w
 |[],K,_,h=>⟨[],[],h,.nil,by simp⟩
 | .tmp t::l,K,_,h=>by cases h
 | .cell a t::l,K,hp,h=>by
  have fB:Hv ψ E tmps l:=λa t hm=>hp a t (rp _ hm)
  simp only[p7]at h;cases hx:E.get a with
  |v d=>
   rw[hx]at h;cases d with
   |ptr p=>
    cases p with
    |none=>cases h
    |some q=>
     obtain⟨i,o⟩:=q;simp only at h;obtain⟨cb,e1,e3⟩:=hp a t (by simp) i o hx;obtain⟨td,ht,h⟩:=pD h;have asA:(asAddr (tmps.getD a undef)).run C.P w= .ok ⟨cb.b,cb.o+o,none⟩ w:=by rw[e3];rfl
     cases cN:iS C.P t with
     |true=>
      rw[cN]at h;simp only[ae]at h;obtain⟨fz,cs,ca,hn,h⟩:=G8 h;have hh:=hs.holds (.inl i) cb _ e1 ⟨i,rfl,ca⟩;obtain⟨ds,vs,hk,hr,dO⟩:=SN hs fB h;obtain⟨vc,hv,_,lx,h1⟩:=Kl (P:=C.P) hh (p:=o) (n:=C.P.cellsOf t) hn;refine⟨_,_,hk,.cons _ _ _ _ (.agg _ vc lx h1) hr,He ?_ dO⟩;show(do loadVar t (<-asAddr (tmps.getD a undef)):Sem Value).run C.P w=_;rw[Sem.run_bind,asA,Result.andThen_ok];exact J6 ht cN _ w hv
     |false=>
      rw[cN]at h;simp only[af]at h;unfold bG at h;cases mq:s.cells i with
      |none=>rw[mq]at h;cases h
      |some cs=>
       rw[mq]at h;simp only at h;cases hd:cs[o]? with
       |none=>rw[hd]at h;cases h
       |some d=>
        rw[hd]at h;simp only at h;have ca: ∃f,dc s i=some (.cells f cs):=by
         unfold St.cells at mq;split at mq
         .rename_i bk yU
          cases mq;exact⟨bk.fN,by simp only[dc,yU]⟩
         .cases mq
        obtain⟨fz,ca⟩:=ca;have hh:=hs.holds (.inl i) cb _ e1 ⟨i,rfl,ca⟩;obtain⟨ds,vs,hk,hr,dO⟩:=SN hs fB h;obtain⟨y,hv,lx,_⟩:=KS (P:=C.P) hh hd;refine⟨_,_,hk,.cons _ _ _ _ lx hr,He ?_ dO⟩;show(do loadVar t (<-asAddr (tmps.getD a undef)):Sem Value).run C.P w=_;rw[Sem.run_bind,asA,Result.andThen_ok];exact Gt ht cN _ w hv
   |_=>cases h
  |_=>rw[hx]at h;cases h
theorem SL {s s':St} {o:Out ah} : ∀ {l:List ResultVar} {K:ah->M ah},p7 C E l K s=some (o,s')->(∀ds s o s',K ds s=some (o,s')->s'=s)->s'=s
 |[],K,h,hK=>hK _ _ _ _ h
 | .tmp t::l,K,h,_=>by cases h
 | .cell a t::l,K,h,hK=>by
  simp only[p7]at h;cases hx:E.get a with
  |v d=>
   rw[hx]at h;cases d with
   |ptr p=>
    cases p with
    |none=>cases h
    |some q=>
     simp only at h;obtain⟨td,ht,h⟩:=pD h;cases cN:iS C.P t with
     |true=>
      rw[cN]at h;simp only[ae]at h;obtain⟨_,_,_,_,h⟩:=G8 h;exact SL h λds s o s' h=>hK _ s o s' h
     |false=>
      rw[cN]at h;simp only[af]at h;unfold bG at h;split at h
      .split at h
       .exact SL h λds s o s' h=>hK _ s o s' h
       .cases h
      .cases h
   |_=>cases h
  |_=>rw[hx]at h;cases h
theorem Zsp: ∀ {l:List ResultVar} {t:Nat},wj l t=true->∀a u,ResultVar.cell a u∈l->a≠t
 |[],_,_,a,u,hm=>by cases hm
 | .tmp _::_,_,h,_,_,_=>by cases h
 | .cell b v::l,t,h,a,u,hm=>by
  simp only[wj,aR,kR]at h;rcases dC.1 hm with e|hm
  .grind[BL]
  .exact Zsp h.2 a u hm
theorem ZpN: ∀ {l:List ResultVar} (_: ∀t,ResultVar.tmp t∉l) {a u:Nat},ResultVar.cell a u∈l->wj l a=false
 |[],_,a,u,hm=>by cases hm
 | .tmp t::_,h,_,_,_=>absurd (by simp) (h t)
 | .cell b v::l,h,a,u,hm=>by
  simp only[wj];rcases dC.1 hm with e|hm
  .simp_all
  .rw[ZpN (by grind) hm,BG]
theorem ZvR {c:Option Code} {hY:List Operand} (h:HM c=some (td,g,hY)):
  ∃id t1 p1 a1 aT t2 p2 a2,c=some (.region id #[⟨some td,.makeFunc (.func g) #[] hY.toArray,t1,p1,a1,none⟩,⟨none,.defer ⟨.value (.tmp td), #[],aT⟩,t2,p2,a2,none⟩] false):=by
 unfold HM at h;split at h
 .rename_i id td' g' ahc t1 p1 a1 t' aT t2 p2 a2
  cases hb:Nat.beq td' t' with
  |false=>rw[hb]at h;cases h
  |true=>
   rw[hb]at h;simp_all
 .cases h
theorem Zvj {Q:Exit->Act->World->Prop} {a:Act} {x:Value} (ho:ops[i]? =some o) (hg:o.guard=none) (he:(execOp a.eval o).run P w= .ok (.value x) w)
  (h:wpOps P ops Q rest (a.put o.dst x) w):wpOps P ops Q (i::rest) a w:=by
 simp only[wpOps,ho];rw[bw (by simp[Region.wanted,hg])];left;unfold Oper.wp;rw[he];exact h
theorem Zs0 {Q:Exit->Act->World->Prop} {a:Act} {d:Deferred} (ho:ops[i]? =some o) (hg:o.guard=none) (he:(execOp a.eval o).run P w= .ok (.defer d) w)
  (h:wpOps P ops Q rest ({ a with defers:=d::a.defers }.put o.dst Go.undef) w):wpOps P ops Q (i::rest) a w:=by
 simp only[wpOps,ho];rw[bw (by simp[Region.wanted,hg])];left;unfold Oper.wp;rw[he];exact h
end
theorem ZnB {m:M ah} {H:Bool->M β} {r:Out β×St} (h:uv m H s=some r):(∃ds s2,m s=some (.val ds,s2)/\H false s2=some r)\/(∃s2,m s=some (.eZ,s2)/\H true s2=some r):=by
 grind[uv]
theorem Zx9 {α:Type} {l:List α} {k:Nat} {x:α} (h:l[k]? =some x):l=l.take k++x::l.drop (k+1):=by
 obtain⟨hk,rfl⟩:=dB.1 h;rw[<-iI hk,nu]
theorem Aq (r:Out ah×St):Lk (λ_:Env=>(ay []:M ah)) r:=by
 intro E s' h';grind[ay,fU]
def isG (k:Nat) (fn:Func) (g:FuncId):Bool:=match fn.body with
 |some code=>match HM ((oF code)[k]?)with
  |some (_,g',_)=>Nat.beq g' g
  |none=>false
 |none=>false
set_option maxHeartbeats 1000000 in
theorem Zw1 (hF:Gl C) {c:Zf} (hc:ZQ C c) {n k:Nat} {fn fG:Func} (hfn:C.P.funcs[uA]? =some fn) (qN:(fn.name== "runtime.NumGoroutine")=false) (CX:C.P.funcs[g]? =some fG) (aer:(fG.name== "runtime.NumGoroutine")=false) (hg:isG k fn g=true) {out:Out ah×St} (h:Uc C k fn fG c n args s=some out):LG C uA args s out:=by
 unfold Uc at h;cases hb:fn.body with
 |none=>rw[hb]at h;cases h
 |some code=>
 cases oM:fG.body with
 |none=>rw[hb,oM]at h;cases h
 |some yM=>
 rw[hb,oM]at h;simp only at h;cases hd:HM ((oF code)[k]?)with
 |none=>rw[hd]at h;cases h
 |some p=>
 obtain⟨td,g',hY⟩:=p;cases CU:ER C.P fG.nfree fG.ntmps yM with
 |none=>rw[hd,CU]at h;cases h
 |some gb=>
 rw[hd,CU]at h;simp only at h;have:g'=g:=by unfold isG at hg;rw[hb]at hg;simp only at hg;rw[hd]at hg;exact dy hg
 subst this;obtain⟨fk,h⟩:=Zp h;simp only[aR]at fk;obtain⟨⟨⟨⟨⟨⟨⟨⟨⟨⟨k1,k2⟩,k3⟩,k4⟩,k5⟩,k6⟩,k7⟩,k8⟩,k9⟩,Wg⟩,Wh⟩:=fk;have k4:=pj k4;have k5:td<fn.ntmps:=by rw[pd]at k5;exact k5
 have k7:=dy k7;have Wg:=pj Wg;have Wh:=dy Wh;obtain⟨ds,h,oP,mW,tw⟩:=GX h;have hlen:ds.length=fn.params.size:=by rw[mW];simp
 obtain⟨id,t1,p1,a1',aT,t2,p2,a2',hx⟩:=ZvR hd;have UT:=Zx9 hx;have Iy: ∀t,ResultVar.tmp t∉fn.results.toList:=by
  intro t hm;have: ∀(l:List ResultVar) (u:Nat),wj l u=true->ResultVar.tmp t∉l:=by
   intro l;induction l with
   |nil=>intro u _ hm;cases hm
   |cons x l ih=>
    intro u hu hm;cases x with
    |tmp y=>cases hu
    |cell a v=>
     simp only[wj,aR]at hu;rcases dC.1 hm with e|hm
     .cases e
     .exact ih u hu.2 hm
  exact this _ _ k6 hm
 have EY: ∀E s' r,p7 C E fn.results.toList (λds=>(ay ds:M ah)) s'=some r->r.2=s':=by
  intro E s' r h';obtain⟨o,s2⟩:=r;exact SL h' λds s o s' h=>by simp only[ay,fU,DR]at h;exact h.2.symm
 have lkf:Lk (λE=>p7 C E fn.results.toList λds=>(ay ds:M ah)) out:=λE s' h'=>by rw[EY E s' out h'];exact aL _
 have half: ∀E s',(aC (Nat.beq E.bO 0&&Nr (E.get td)) (zG C E hY λcs=>
      uv (xu C c n ((oF code).drop (k+1)) (λ_=>ay []) (λ_=>ay []) E)
       λp=>bif p then uv (exec C [] c n gb .z (λ_=>ay []) (λ_ _=>fail) (λ_=>ay []) ⟨0,jK 0 cs⟩) λp=>bif p then fail else p7 C E fn.results.toList λds=>(ay ds:M ah)
        else p7 C E fn.results.toList λds=>(ay ds:M ah))) s'=some out->
   E.bO=0/\E.get td= .u/\∃cs o s2,SV C E hY cs/\xu C c n ((oF code).drop (k+1)) (λ_=>ay []) (λ_=>(ay []:M ah)) E s'=some (o,s2)/\s'.length<=s2.length/\
    (((∃x,o= .val x)/\p7 C E fn.results.toList (λds=>(ay ds:M ah)) s2=some out)\/
     (o= .eZ/\∃x s3,exec C [] c n gb .z (λ_=>ay []) (λ_ _=>fail) (λ_=>(ay []:M ah)) ⟨0,jK 0 cs⟩ s2=some (.val x,s3)/\s2.length<=s3.length/\p7 C E fn.results.toList (λds=>(ay ds:M ah)) s3=some out)):=by
  intro E s' h';obtain⟨mU,h'⟩:=lL h';rw[aR]at mU;have hu:E.get td= .u:=by
   have:=mU.2;unfold Nr at this;cases he:E.get td<;>rw[he]at this<;>first|rfl|cases this
  obtain⟨cs,h',Nh⟩:=GN h';refine⟨dy mU.1,hu,cs,?_⟩;rcases ZnB h' with⟨x,s2,hm,hf⟩|⟨s2,hm,hf⟩
  .exact⟨_,s2,Nh,hm,Ef (r:=(.val x,s2)) hF.cfg hc _ _ _ (Aq _) (Aq _) E s' hm,.inl ⟨⟨x,rfl⟩,hf⟩⟩
  .simp only[ae]at hf
   rcases ZnB hf with⟨x,s3,gK,hf⟩|⟨s3,_,hf⟩
   .exact⟨_,s2,Nh,hm,Ef (r:=(.eZ,s2)) hF.cfg hc _ _ _ (Aq _) (Aq _) E s' hm,.inr ⟨rfl,x,s3,gK,Hd (r:=(.val x,s3)) hF.cfg hc gb .z _ _ _ (Aq _) (λ_ _ _ h=>by cases h) (Aq _) _ s2 gK,hf⟩⟩
   .cases hf
 have lkh:Lk (λE=>aC (Nat.beq E.bO 0&&Nr (E.get td)) (zG C E hY λcs=>
      uv (xu C c n ((oF code).drop (k+1)) (λ_=>ay []) (λ_=>ay []) E)
       λp=>bif p then uv (exec C [] c n gb .z (λ_=>ay []) (λ_ _=>fail) (λ_=>ay []) ⟨0,jK 0 cs⟩) λp=>bif p then fail else p7 C E fn.results.toList λds=>(ay ds:M ah)
        else p7 C E fn.results.toList λds=>(ay ds:M ah))) out:=by
  intro E s' h';obtain⟨_,_,cs,o,s2,_,_,hl,hh⟩:=half E s' h';rcases hh with⟨_,hf⟩|⟨_,x,s3,_,Bi,hf⟩
  .rw[EY E s2 out hf];exact hl
  .rw[EY E s3 out hf];omega
 refine⟨Ef hF.cfg hc _ _ _ lkh lkf _ s h,λψ w vs zd H2 CY j6 Bb IV=>?_⟩;have mZ:=tw C ψ vs j6;have Br:=mZ.len;unfold yx;have tt:(callFunc uA vs.toArray).run C.P w= .ok (.enter uA vs.toArray) w:=by
  have vS: ¬fn.name= "runtime.NumGoroutine" :=by simpa using qN
  simp[callFunc,hfn,vS,hb]
 rw[tt];refine calls_of_wp_defers hfn hb (Zxx _ _ _ _ ?_)
 let f:Fr:=⟨out.2.length,fn.ntmps,ψ,s,w,sv fn.ntmps,λx h=>by unfold sv at h;rw[pd]at h;exact h,λt=>(vs.toArray++Array.replicate (fn.ntmps-vs.toArray.size) Go.undef).getD t Go.undef,[]⟩
 have vF: ∀t,(⟨0,jK 0 ds⟩:Env).get t=match ds[t]? with|some d=> .v d|none=> .u:=by
  intro t;have:=K5 0 ds t;simp only[cn,kV,BN]at this;exact this
 have uW: ∀t v,((⟨0,jK 0 ds⟩:Env).get t).cX≠some v:=by
  intro t v;rw[vF];cases ds[t]? <;>simp[eH.cX]
 have AF: ∀h ab,CR ⟨0,jK 0 ds⟩ s h ab->CS s h ab:=by
  intro h ab c;cases h with
  |inl i=>exact⟨i,rfl,c⟩
  |inr v=>
   rcases c with⟨t,n,cs,e,_⟩|⟨t,l,p,e,_⟩
   .exact absurd (by rw[e];rfl) (uW t v)
   .exact absurd (by rw[e];rfl) (uW t v)
 have R:Rel C f ψ ⟨0,jK 0 ds⟩ s { tmps:=vs.toArray++Array.replicate (fn.ntmps-vs.toArray.size) Go.undef,defers:=[] } w:=by
  refine⟨zd.weaken λ_ _ _ _ c=>AF _ _ c,⟨λt v e=>absurd e (uW t v),λt r v o e=>?_,λt v n cs e=>absurd (by rw[e];rfl) (uW t v),λt t' v e _=>absurd e (uW t v)⟩,H2,CY,λt=>?_,?_,rfl,IV,λv _=>Bb v,(Ext.refl ψ (CS s) w).weaken λ_ _ _ _ c=>AF _ _ c,λi cb e=> .inl e,aL _,Bb⟩
  .rw[vF]at e
   cases hd:ds[t]? <;>rw[hd]at e<;>cases e
  .rw[vF]
   cases hd:ds[t]? with
   |none=>trivial
   |some d=>
    obtain⟨v,hv,hr⟩:=mZ.get hd;have:(vs.toArray++Array.replicate (fn.ntmps-vs.toArray.size) Go.undef).getD t Go.undef=v:=by
     have ax:=(dB.1 hv).1;rw[rh,N3 (by simpa using ax)];simp[hv]
    show fy C ψ (.v d) _;rw[this];exact hr
  .refine⟨?_,λ_ _=>rfl⟩
   show(vs.toArray++Array.replicate (fn.ntmps-vs.toArray.size) Go.undef).size=fn.ntmps;simp only[Array.size_append,Array.size_replicate,List.size_toArray];omega
 have done: ∀ {E':Env} {s':St} {ψ':Ps} {tmps:Array Value} {w':World},p7 C E' fn.results.toList (λds=>(ay ds:M ah)) s'=some out->jm C ψ s w ψ' s' w'->Hv ψ' E' tmps fn.results.toList->
   ∃v,(results fn tmps).run C.P w'= .ok v w'/\∃ds,out.1= .val ds/\∃ψ',jm C ψ s w ψ' out.2 w'/\zP C ψ' ds v:=by
  intro E' s' ψ' tmps w' h' cp hp;obtain⟨lO,iO,hk,hr,dO⟩:=SN cp.eL hp h';simp only[ay,fU]at hk;refine⟨_,Zmt dO,lO,by rw[<-hk],ψ',?_,?_⟩
  .rw[<-hk];exact cp
  .by_cases h1:iO.length=1
   .rw[dif_pos h1]
    cases hr with
    |nil=>cases h1
    |cons d v ds vs a b=>
     cases b with
     |nil=>exact .inl ⟨d,rfl,a⟩
     |cons _ _ _ _ _ _=>simp at h1
   .rw[dif_neg h1]
    exact .inr ⟨by rw[hr.len];exact h1,_,rfl,hr⟩
 have aaj: ∀ {ψ':Ps} {E':Env} {tmps:Array Value},(∀t,fy C ψ' (E'.get t) (tmps.getD t Go.undef))->Hv ψ' E' tmps fn.results.toList:=by
  intro ψ' E' tmps hr a t _ i o he;have:=hr a;rw[he]at this;have this:VR C ψ' (.ptr (some (i,o))) (tmps.getD a Go.undef):=this;generalize tmps.getD a Go.undef=v at this;cases this with
  |ptr _ _ cb e=>exact⟨cb,e,rfl⟩
 rw[UT,S7];refine SG hF.cfg hc hF.Mm (f:=f) (aL _) _ _ _ k1 lkh lkf _ s h ψ _ w _ R ?_ ?_ ?_
 ·
  intro E1 s1 iu a1 w1 h1 R1;obtain⟨FC,hu,cs,o,s2,Nh,hm,MO,hh⟩:=half E1 s1 h1;show Code.wp C.P _ _ a1 w1;have Wd: ∀v,iu (.inr v)=none:=λv=>R1.vd v (by rw[FC];exact cn _)
  have e1:na iu=iu:=by
   funext x;cases x with
   |inl i=>rfl
   |inr v=>exact(Wd v).symm
  have Uf:=R1.yH;rw[e1]at Uf;have MD: ∀h ab,CR E1 s1 h ab->CS s1 h ab:=by
   intro h ab c;cases h with
   |inl i=>exact⟨i,rfl,c⟩
   |inr v=>
    rcases c with⟨t,n,cs,e,_⟩|⟨t,l,p,e,_⟩
    .have:=R1.gJ.lt t v (by rw[e];rfl);omega
    .have:=R1.gJ.lt t v (by rw[e];rfl);omega
  have hN2:s2.length<=out.2.length:=by
   rcases hh with⟨_,hf⟩|⟨_,x,s3,_,Bi,hf⟩
   .rw[EY E1 s2 out hf];exact aL _
   .rw[EY E1 s3 out hf];exact Bi
  have abb:bE C iu cs (hY.map a1.eval):=Ha (o:=⟨some td,.makeFunc (.func g') #[] hY.toArray,t1,p1,a1',none⟩) (D:=λ_=>True) R1.pre (λx hx=>by simp[Op.operands];exact hx) Nh;refine wp_region (Zvj (o:=⟨some td,.makeFunc (.func g') #[] hY.toArray,t1,p1,a1',none⟩) (x:= .func (.func g') #[] (hY.toArray.map a1.eval)) rfl rfl (by simp[execOp,Instr.makeFunc]) ?_);have afK:a1.tmps.size=fn.ntmps:=R1.nk.1;have U2:(a1.put (some td) (.func (.func g') #[] (hY.toArray.map a1.eval))).eval (.tmp td)= .func (.func g') #[] (hY.toArray.map a1.eval):=by
   simp only[Act.put,Act.eval];rw[rh,N4 (by omega)];rfl
  refine Zs0 (o:=⟨none,.defer ⟨.value (.tmp td), #[],aT⟩,t2,p2,a2',none⟩) (d:= { target:= .fn (.func g') (hY.toArray.map a1.eval),args:= #[] }) rfl rfl ?_ ?_
  .simp only[execOp,resolve,U2,Deferred.ofValue]
   simp
  show sJ C.P ((oF code).drop (k+1)) _ _ w1
  let d:Deferred:= { target:= .fn (.func g') (hY.toArray.map a1.eval),args:= #[] }
  let a2:Act:= { tmps:=a1.tmps.setIfInBounds td (.func (.func g') #[] (hY.toArray.map a1.eval)),defers:=[d] }
  have Fg:({ (a1.put (some td) (.func (.func g') #[] (hY.toArray.map a1.eval)))with defers:=d::(a1.put (some td) (.func (.func g') #[] (hY.toArray.map a1.eval))).defers } :Act).put none Go.undef=a2:=by
   have:a1.defers=[]:=R1.defs;simp only[Act.put,this,a2]
  show sJ C.P ((oF code).drop (k+1)) _ (({ (a1.put (some td) (.func (.func g') #[] (hY.toArray.map a1.eval)))with defers:=d::(a1.put (some td) (.func (.func g') #[] (hY.toArray.map a1.eval))).defers } :Act).put none Go.undef) w1;rw[Fg];have Y3: ∀t,t≠td->a2.tmps.getD t Go.undef=a1.tmps.getD t Go.undef:=by
   intro t ht;simp only[a2];rw[rh,rh,Array.getElem?_setIfInBounds_ne (Ne.symm ht)]
  let f2:Fr:=⟨s2.length,fn.ntmps,iu,s1,w1,λt=>sv fn.ntmps t&&wj fn.results.toList t,λx h=>by rw[aR]at h;have h:=h.1;unfold sv at h;rw[pd]at h;exact h,λt=>a2.tmps.getD t Go.undef,[d]⟩
  have R2:Rel C f2 iu E1 s1 a2 w1:=by
   refine⟨R1.eL,R1.gJ,R1.gr,R1.kF,λt=>?_,⟨?_,λ_ _=>rfl⟩,rfl,λi h1 h2=>R1.sI i h1 (lE h2 hN2),R1.vd,(Ext.refl iu (CS s1) w1).weaken λ_ _ _ _ c=>MD _ _ c,λi cb e=> .inl e,aL _,Wd⟩
   .by_cases ht:t=td
    .subst ht;rw[hu];trivial
    .rw[Y3 t ht];exact R1.jD t
   .show(a1.tmps.setIfInBounds _ _).size=fn.ntmps
    simp[afK]
  have hinv:(invoke (.fn (.func g') (hY.toArray.map a1.eval)) #[]).run C.P=λw=> .ok (.enter g' (hY.map a1.eval).toArray) w:=by
   funext w';have vS: ¬fG.name= "runtime.NumGoroutine" :=by simpa using aer
   have:(#[]:Array Value)++hY.toArray.map a1.eval=(hY.map a1.eval).toArray:=by simp
   show(callFunc g' (#[]++hY.toArray.map a1.eval)).run C.P w'=_;rw[this];simp[callFunc,CX,vS,oM]
  have af0: ∀ {a':Act},Ks f2 a'->∀b u,ResultVar.cell b u∈fn.results.toList->a'.tmps.getD b Go.undef=a1.tmps.getD b Go.undef:=by
   intro a' hk b u hm;have fk:f2.ok b=false:=by
    show(sv fn.ntmps b&&wj fn.results.toList b)=false;rw[ZpN Iy hm,BG]
   rw[hk.2 b fk];exact Y3 b (Zsp k6 b u hm)
  have agn:=aaj R1.jD;have aai: ∀ {ψ':Ps} {a':Act},Ks f2 a'->(∀h cb,iu h=some cb->ψ' h=some cb)->Hv ψ' E1 a'.tmps fn.results.toList:=by
   intro ψ' a' hk aeL b u hm i o he;obtain⟨cb,h1,h2⟩:=agn b u hm i o he;exact⟨cb,aeL _ _ h1,by rw[af0 hk b u hm];exact h2⟩
  have yN: ∀ {E':Env} {s':St} {ψ':Ps} {a':Act} {w':World},(ay []:M ah) s'=some (o,s2)->Rel C f2 ψ' E' s' a' w'->Leaves C.P fn a'.tmps (λe w'=>match e,w' with
    | .returned v,w'=>∃ds,out.1= .val ds/\∃ψ',jm C ψ s w ψ' out.2 w'/\zP C ψ' ds v
    | .panicked ch,w'=>oi ch/\out.1= .eZ/\∃ψ',jm C ψ s w ψ' out.2 w'
    | .outgrown,_=>False) a'.defers .returning w':=by
   intro E' s' ψ' a' w' h' R';simp only[ay,fU,DR]at h';obtain⟨ho,iB⟩:=h';have ho:o= .val []:=ho.symm;have iB:s'=s2:=iB;subst iB;have UX:a'.defers=[d]:=R'.defs;rw[UX];refine leaves_cons (by simp) (by rw[hinv]) ?_;refine(ZrJ (vs:=(hY.map a1.eval).toArray) CX oM CU k9).mono ?_;rintro e u' wB ⟨rfl,rfl,rfl⟩;have vB:=R'.yH;rcases hh with⟨_,hf⟩|⟨hp,_⟩
   .exact done hf (Uf.trans R1.len MO vB) (aai R'.nk vB.ext.mono)
   .rw[ho]at hp;cases hp
  refine SG hF.cfg hc hF.Mm (f:=f2) (r:=(o,s2)) (aL _) _ _ _ k2 (Aq _) (Aq _) E1 s1 hm iu a2 w1 _ R2 ?_ ?_ ?_
  .intro E' s' ψ' a' w' h' R';exact yN h' R'
  .intro E' s' ψ' a' w' h' R';exact yN h' R'
  .intro ch a' w' s' e hv hp
   cases e;rcases hh with⟨⟨x,hx⟩,_⟩|⟨_,x,s3,Bk,Bi,hf⟩
   .cases hx
   obtain⟨jU,vB⟩:=hp.post;have UX:a'.defers=[d]:=hp.defs;show Leaves C.P fn a'.tmps _ a'.defers (.panicking ch) w';rw[UX];refine leaves_cons (by simp) (by rw[hinv]) ?_;have vV:out.2=s3:=EY E1 s3 out hf;refine(Zsv hF hc (ψ:=jU) (s:=s2) (w:=w') (vs:=hY.map a1.eval) CX oM CU k9 k3 (by simpa using Wh) Wg Bk vB.eL (vB.ext.gr R1.gr) (vB.ext.kF R1.kF) (abb.mono (ψ:=iu) (ψ':=jU) λ_ _ e=>vB.ext.mono _ _ e) (λv=>?_) (λi h1 h2=>?_) hv).mono ?_
   .cases wa:jU (.inr v)with
    |none=>rfl
    |some cb=>
     rcases vB.news _ _ wa with e|⟨i,e,_⟩
     .have:=Wd v
      rw[show f2.il=iu from rfl]at e;rw[this]at e;cases e
     .cases e
   .cases wa:jU (.inl i)with
    |none=>rfl
    |some cb=>
     rcases vB.news _ _ wa with e|⟨j,e,_,hj⟩
     .have:=R1.sI i (gH MO h1) (by rw[<-vV]at h2;exact h2)
      rw[show f2.il=iu from rfl]at e;rw[this]at e;cases e
     .cases e;omega
   .rintro e u' wB ⟨rfl,db,JH,cp3⟩
    show Leaves C.P fn a'.tmps _ [] (settle u') wB;rw[db];have abd:=(Uf.trans R1.len MO vB).trans (gH R1.len MO) Bi cp3;exact done hf abd (aai hp.ks λ_ _ e=>cp3.ext.mono _ _ (vB.ext.mono _ _ e))
 ·
  intro E' s' ψ' a' w' h' R';show Leaves C.P fn a'.tmps _ a'.defers .returning w';rw[show a'.defers=[]from R'.defs];refine done h' R'.yH λb u hm i o he=>?_
  obtain⟨cb,h1,h2⟩:=aaj R'.jD b u hm i o he;exact⟨cb,h1,h2⟩
 .intro ch a' w' s' e hv hp
  show Leaves C.P fn a'.tmps _ a'.defers (.panicking ch) w';rw[show a'.defers=[]from hp.defs];obtain⟨ψ',fB⟩:=hp.post;exact⟨hv,by rw[e],ψ',by rw[e];exact fB⟩
theorem ZkR {fn:Func} {w:World} {R:Ending->World->Prop} (hfn:P.funcs[f]? =some fn) (qN:(fn.name== "runtime.NumGoroutine")=false) (hb:fn.body.isSome=true)
  (h:Calls P f vs w R):yx P f vs w R:=by
 have vS: ¬fn.name= "runtime.NumGoroutine" :=by simpa using qN
 have e:(callFunc f vs).run P w= .ok (.enter f vs) w:=by
  cases ep:fn.body with
  |none=>rw[ep]at hb;cases hb
  |some c=>simp[callFunc,hfn,vS,ep]
 unfold yx;rw[e];exact h
end Go.Gv
