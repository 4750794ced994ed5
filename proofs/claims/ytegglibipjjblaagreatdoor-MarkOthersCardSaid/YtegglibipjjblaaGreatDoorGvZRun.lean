/- What a region's operations do, one behind the other, as the machine takes them. -/
import Derived.Test.YtegglibipjjblaaGreatDoorGvZOps
import Derived.Laws.Externs
import Derived.Lib.Bytealg
import Derived.OrdersHeld
import Derived.Recover
import Derived.Defers
import Derived.Lib.Join
import Derived.Lib.Repeat
set_option linter.all false
namespace Go.Gv
variable {β:Type}
structure lP (E E':Env):Prop where
 bL:E'.bL=E.bL
 get: ∀t,E'.get t=E.get t\/E'.get t= .u
def GW (dst:Nat->Option Nat) (E:Env) (o:Oper):Prop:=o.guard=none\/∃j w r,o.guard=some (j,w)/\dst j=some r/\E.get r= .v (.bool w)
def GU (dst:Nat->Option Nat) (E:Env) (o:Oper):Prop:=∃j w r,o.guard=some (j,w)/\dst j=some r/\((∃b,E.get r= .v (.bool b)/\b≠w)\/E.get r= .un)
section
variable (C:bx) (dst:Nat->Option Nat) (pr ms:al)
inductive Step:Oper×Md->Env->St->Env->St->Prop
 |act {p:Oper×Md} {E s E' s'} :GW dst E p.1->lO (mm p.2 E) pr ms p.1 E s E' s'->Bw C p.1 (oE p.2 E) (mm p.2 E) E s E' s'->Step p E s E' s'
 |skip {p:Oper×Md} {E s} :GU dst E p.1->Step p E s (E.eR p.1.dst .un) s
inductive Tr:List (Oper×Md)->Env->St->Env->St->Prop
 |nil (E s):Tr [] E s E s
 |iB {l E E1 s E2 s2} :lP E E1->Tr l E1 s E2 s2->Tr l E s E2 s2
 |cons {p l E s E1 s1 E2 s2} :Step C dst pr ms p E s E1 s1->Tr l E1 s1 E2 s2->Tr (p::l) E s E2 s2
inductive nc:List (Oper×Md)->Env->St->St->Prop
 |iB {l E E1 s s2} :lP E E1->nc l E1 s s2->nc l E s s2
 |here {p l E s s'} :GW dst E p.1->p.2.x=0->wm C p.1 (oE p.2 E) E s s'->nc (p::l) E s s'
 |next {p l E s E1 s1 s2} :Step C dst pr ms p E s E1 s1->nc l E1 s1 s2->nc (p::l) E s s2
end
variable {ab cN:AB} {a0:Act} {listed:Array Bool} {ops:Array Oper} {cb:CB} {E E' E0 E1 E2 FW:Env} {QQ:Exit->Act->World->Prop} {A:FA} {f tW:FuncId} {Q Q' Q0:Kn} {J:List (Nat×JS)} {l l1 l2:List (Oper×Md)} {vs:List Value} {is:List gk} {N i id j k m n t u x':Nat} {dst:Nat->Option Nat} {Jd L' WA:Nat->Prop} {o:Oper} {p p':Oper×Md} {r:Out β×St} {P:Program} {ik ψ ψ':Ps} {s s' s0 s1 s2:St} {v:Value} {w w' w0:World} {c:Zg} {args cs cs' ds:ah} {acc gQ l' ms pr:al} {C:bx} {h:du} {k':ll}
section
variable {C:bx} {dst:Nat->Option Nat} {pr ms:al}
theorem Tr.append (h:Tr C dst pr ms l1 E s E1 s1) (k:Tr C dst pr ms l2 E1 s1 E2 s2):Tr C dst pr ms (l1++l2) E s E2 s2:=by
 induction h with
 |nil=>exact k
 |iB w _ ih=>exact .iB w (ih k)
 |cons st _ ih=>exact .cons st (ih k)
theorem nc.left (h:nc C dst pr ms l1 E s s2) (l2:List (Oper×Md)):nc C dst pr ms (l1++l2) E s s2:=by
 induction h with
 |iB w _ ih=>exact .iB w ih
 |here a b c=>exact .here a b c
 |next st _ ih=>exact .next st ih
theorem Tr.eV (h:Tr C dst pr ms l1 E s E1 s1) (k:nc C dst pr ms l2 E1 s1 s2):nc C dst pr ms (l1++l2) E s s2:=by
 induction h with
 |nil=>exact k
 |iB w _ ih=>exact .iB w (ih k)
 |cons st _ ih=>exact .next st (ih k)
theorem ZlP {r:Nat} : ∀ {l acc:List (Oper×Md)} {eu:List (Oper×Md)} {pk:Oper} {rest:List (Oper×Md)},BP r acc l=some (eu,pk,rest)->
  ∃x y z,acc.reverse++l=eu++(pk,x)::rest/\pk.op= .pick (.tmp r) y z
 |[],acc,eu,pk,rest,h=>by cases h
 |(o,x)::l,acc,eu,pk,rest,h=>by
  simp only[BP]at h;have go:BP r ((o,x)::acc) l=some (eu,pk,rest)->∃x' y z,acc.reverse++(o,x)::l=eu++(pk,x')::rest/\pk.op= .pick (.tmp r) y z:=by
   intro h;obtain⟨x',y,z,h1,h2⟩:=ZlP h;exact⟨x',y,z,by rw[<-h1];simp,h2⟩
  split at h
  .rename_i t y z eC
   cases hb:Nat.beq t r with
   |true=>
    rw[hb]at h;simp only[ae,fQ,Dr]at h;obtain⟨rfl,rfl,rfl⟩:=h;have:=dy hb;subst this;exact⟨x,y,z,rfl,eC⟩
   |false=>rw[hb]at h;exact go h
  .exact go h
theorem ZqC: ∀ {act:List (Nat×Bool)} {g:Nat×Bool},LJ act g=true->g∈act
 |[],_,h=>by cases h
 |(k,b)::r,g,h=>by
  simp only[LJ,l9,aW]at h;rcases h with⟨h1,h2⟩|h
  .have e1:=dy h1
   have e2:b=g.2:=by simpa using h2
   have:g=(k,b):=by rw[e1,e2]
   rw[this];exact sb
  .exact wb _ (ZqC h)
theorem J6 {j:Nat} {w:Bool} {r:Nat} : ∀ {l:List (Oper×Md)} {sk:al},Cf pr dst j w r sk l=true->∀p∈l,¬Spec pr p.1/\p.1.dst≠some r
 |[],_,_,p,hp=>by cases hp
 |(o,x)::l,sk,h,p,hp=>by
  simp only[Cf,aW]at h;obtain⟨⟨h1,_⟩,h3⟩:=h;have kX: ¬Spec pr o:=by
   unfold Spec;intro hs;cases eC:o.op<;>rw[eC]at hs h1<;>simp only at hs h1<;>first|exact hs|(cases h1;done)|skip
   all_goals
    obtain⟨d,hd,jb⟩:=hs;rw[hd]at h1;simp only at h1;rw[jb]at h1;cases h1
  cases hd:o.dst with
  |none=>
   rw[hd]at h3;rcases dW.1 hp with rfl|hp
   .exact⟨kX,by simp[hd]⟩
   .exact J6 h3 p hp
  |some d=>
   rw[hd]at h3;simp only[aW]at h3;rcases dW.1 hp with rfl|hp
   .refine⟨kX,?_⟩
    rw[hd];intro e;cases e;have:=h3.1;rw[Dl]at this;cases this
   .exact J6 h3.2 p hp
theorem DM: ∀ {l:List (Oper×Md)} {t:Nat},has (gC l) t=true↔ ∃p∈l,p.1.dst=some t
 |[],t=>by simp[gC,has]
 |(o,x)::l,t=>by
  simp only[gC,dW,exists_eq_or_imp];cases hd:o.dst with
  |none=>simp only[DM];simp
  |some d=>
   simp only[has,l9,DM,fQ];constructor
   .rintro(h|h)
    .exact .inl (dy h)
    .exact .inr h
   .rintro(h|h)
    .exact .inl (by subst h;exact Dl _)
    .exact .inr h
theorem SK {j:Nat} {w:Bool} {r:Nat} (hj:dst j=some r) {b:Bool} (hb:b≠w): ∀ {l:List (Oper×Md)} {sk:al} {E:Env} {s:St},Cf pr dst j w r sk l=true->E.get r= .v (.bool b)->(∀d,has sk d=true->E.get d= .un)->
  ∃E1,Tr C dst pr ms l E s E1 s/\E1.bL=E.bL/\(∀u,has (gC l) u=false->E1.get u=E.get u)
 |[],_,E,s,_,_,_=>⟨E,.nil E s,rfl,λ_ _=>rfl⟩
 |(o,x)::l,sk,E,s,h,hr,Vk=>by
  have Vl:=J6 h (o,x) (by simp);simp only[Cf,aW]at h;obtain⟨⟨_,h2⟩,h3⟩:=h;have hg:GU dst E o:=by
   cases hg:o.guard with
   |none=>rw[hg]at h2;cases h2
   |some g=>
    obtain⟨j',w'⟩:=g;rw[hg]at h2;simp only[l9,aW]at h2;rcases h2 with⟨h4,h5⟩|h4
    .have:=dy h4
     have h5:w'=w:=by simpa using h5
     subst this;subst h5;exact⟨_,_,r,hg,hj,.inl ⟨b,hr,hb⟩⟩
    .cases hd:dst j' with
     |none=>rw[hd]at h4;cases h4
     |some d=>rw[hd]at h4;exact⟨j',w',d,hg,hd,.inr (Vk d h4)⟩
  have lX:(E.eR o.dst .un).get r= .v (.bool b):=by rw[Env.jU,ba Vl.2];exact hr
  cases hd:o.dst with
  |none=>
   rw[hd]at h3;obtain⟨E1,t1,t2,t3⟩:=SK hj hb (E:=E.eR o.dst .un) (s:=s) h3 lX (λd h=>by rw[hd];exact Vk d h);refine⟨E1,.cons (.skip hg) t1,by rw[t2];simp,λu hu=>?_⟩;simp only[gC,hd]at hu;rw[t3 u hu,hd];rfl
  |some d=>
   rw[hd]at h3;simp only[aW]at h3;obtain⟨E1,t1,t2,t3⟩:=SK hj hb (E:=E.eR o.dst .un) (s:=s) h3.2 lX (λd' h=>by
    rw[Env.jU,hd];simp only[has,l9]at h;by_cases e:some d=some d'
    .rw[bG e]
    .rw[ba e]
     rcases h with h|h
     .exact absurd (by rw[dy h]) e
     .exact Vk d' h)
   refine⟨E1,.cons (.skip hg) t1,by rw[t2];simp,λu hu=>?_⟩;simp only[gC,hd,has,Bh]at hu;rw[t3 u hu.2,Env.jU,hd,ba];intro e;cases e;rw[Dl]at hu;cases hu.1
theorem Zpo {md:Md} {r:Nat} {y z:Operand} {b:Bool} (ho:o.op= .pick (.tmp r) y z) (hb:E.get r= .v (.bool b)) (hg:GW dst E o):
  Step C dst pr ms (o,md) E s (E.eR o.dst (E.src C (if b then y else z))) s:=by
 refine .act hg (lO.V5 pr ms _ (Env.I9 C E _) (λhE r v n h=>Env.C2 C hE h)) (Bw.pure (K1 md E) _ (Env.I9 C E _) λψ Q a w p=>⟨a.eval (if b then y else z),w,?_,.refl w,p.src ?_⟩)
 .have:=p.val (x:= .tmp r) (by simp[Op.operands,ho]) (d:= .bool b) (by simp only[Env.src,hb])
  generalize hv:a.eval (.tmp r)=v at this;cases this;cases b<;>simp[execOp,ho,hv,asBool]
 .cases b<;>simp[Op.operands,ho]
structure Mod (un:Nat->Prop) (E E':Env):Prop where
 get: ∀u,un u->E'.get u=E.get u
 bL:E.bL<=E'.bL
 vX: ∀t v n cs,E'.get t= .loc v n cs->(∃lU,E.get t= .loc v n lU)\/E.bL<=v
 xL: ∀t v l p,E'.get t= .it v l p->(∃p0,E.get t= .it v l p0)\/E.bL<=v
theorem Mod.refl (un:Nat->Prop) (E:Env):Mod un E E:=⟨λ_ _=>rfl,aO _,λ_ _ _ cs h=> .inl ⟨cs,h⟩,λ_ _ _ p h=> .inl ⟨p,h⟩⟩
theorem Mod.trans {un:Nat->Prop} (h:Mod un E E') (k:Mod Jd E' FW) (h1: ∀u,WA u->un u) (h2: ∀u,WA u->Jd u):Mod WA E FW:=by
 refine⟨λu hu=>by rw[k.get u (h2 u hu),h.get u (h1 u hu)],gJ h.bL k.bL,λt v n cs e=>?_,λt v l p e=>?_⟩
 .rcases k.vX t v n cs e with⟨c,e⟩|e
  .exact h.vX t v n c e
  .exact .inr (gJ h.bL e)
 .rcases k.xL t v l p e with⟨c,e⟩|e
  .exact h.xL t v l c e
  .exact .inr (gJ h.bL e)
def JB (ms:al) (l:List (Oper×Md)) (u:Nat):Prop:=(∀p∈l,p.1.dst≠some u)/\has ms u=false
def aak (P:Program) (pr:al) (ops:List Oper) (p:Oper×Md):Prop:=p.2= .s\/∃x k m,p.2= .d (uz pr ops k m (cls P pr ops p.1)) x
theorem ZpQ (hC:nJ C) (hc:ZR C c) {ops:List Oper} : ∀(n:Nat) (l:List (Oper×Md)) (act:List (Nat×Bool)) (E:Env) (K:Env->M β) (s:St),
  sD C pr ms c dst n l act E K s=some r->(∀p∈l,aak C.P pr ops p)->
  (∀g∈act,(∃q,dst g.1=some q/\E.get q= .v (.bool g.2)/\∀p∈l,p.1.dst≠some q)/\∀p∈l,¬Spec pr p.1)->
  (∃E' s',Tr C dst pr ms l E s E' s'/\K E' s'=some r/\((∀p∈l,¬Spec pr p.1)->E'.bL=E.bL/\∀u,(∀p∈l,p.1.dst≠some u)->E'.get u=E.get u)/\Mod (JB ms l) E E')\/
  (∃s',r=(.eV,s')/\nc C dst pr ms l E s s'):=by
 intro n;induction n with
 |zero=>
  intro l act E K s h kA Ar;cases l with
  |nil=>exact .inl ⟨E,s,.nil E s,h,λ_=>⟨rfl,λ_ _=>rfl⟩,.refl _ _⟩
  |cons p l=>cases h
 |succ n ih=>
  intro l act E K s h kA Ar;cases l with
  |nil=>exact .inl ⟨E,s,.nil E s,h,λ_=>⟨rfl,λ_ _=>rfl⟩,.refl _ _⟩
  |cons p rest=>
   obtain⟨o,md⟩:=p;simp only[sD]at h;have gw: ∀ {E:Env} {o':Oper},(∀g∈act,∃q,dst g.1=some q/\E.get q= .v (.bool g.2))->LK act o'.guard=true->GW dst E o':=by
    intro E o' ha hg;cases ES:o'.guard with
    |none=>exact .inl ES
    |some g=>
     rw[ES]at hg;obtain⟨q,h1,h2⟩:=ha g (ZqC hg);exact .inr ⟨g.1,g.2,q,ES,h1,h2⟩
   cases hg:LK act o.guard with
   |true=>
    rw[hg]at h;simp only[ae]at h;have qc:=gw (E:=E) (λg hm=>let ⟨⟨q,h1,h2,_⟩,_⟩:=Ar g hm;⟨q,h1,h2⟩) hg;rcases SN hC hc (kA (o,md) (by simp)) h with⟨E1,s1,hk,hF,hO⟩|⟨hx,s',rfl,hp⟩
    .have dS:Step C dst pr ms (o,md) E s E1 s1:= .act qc hF hO
     have jy: ¬Spec pr o->E1.bL=E.bL/\∀u,o.dst≠some u->E1.get u=E.get u:=by
      intro hs;rcases hF.plain with⟨e,_,rfl⟩|h
      .exact⟨by simp,λu hu=>by rw[Env.jU,ba hu]⟩
      .exact absurd h hs
     rcases ih rest act E1 K s1 hk (λp hp=>kA p (by simp[hp])) (λg hm=>by
      obtain⟨⟨q,h1,h2,h3⟩,h4⟩:=Ar g hm;exact⟨⟨q,h1,by rw[(jy (h4 (o,md) (by simp))).2 q (h3 (o,md) (by simp))];exact h2,λp hp=>h3 p (by simp[hp])⟩,λp hp=>h4 p (by simp[hp])⟩)with⟨E2,s2,t,iR,hn,UQ⟩|⟨s2,e,t⟩
     .refine .inl ⟨E2,s2,.cons dS t,iR,λhs=>?_,?_⟩
      rotate_left
      .have m1:Mod (λu=>o.dst≠some u/\has ms u=false) E E1:=⟨λu hu=>hF.other u hu.1 hu.2,hF.bL,λt v n cs h=>(hF.vX t v n cs h).imp id And.left,λt v l p h=>(hF.xL t v l p h).imp id And.left⟩
       exact m1.trans UQ (λu hu=>⟨hu.1 (o,md) (by simp),hu.2⟩) (λu hu=>⟨λp hp=>hu.1 p (by simp[hp]),hu.2⟩)
      obtain⟨k1,k2⟩:=jy (hs (o,md) (by simp));obtain⟨n1,n2⟩:=hn λp hp=>hs p (by simp[hp])
      exact⟨by rw[n1,k1],λu hu=>by rw[n2 u λp hp=>hu p (by simp[hp]),k2 u (hu (o,md) (by simp))]⟩
     .exact .inr ⟨s2,e,.next dS t⟩
    .exact .inr ⟨s',rfl,.here qc hx hp⟩
   |false=>
    rw[hg]at h;simp only[af]at h;cases ES:o.guard with
    |none=>rw[ES]at h;cases h
    |some g=>
     obtain⟨j,w⟩:=g;rw[ES]at h;simp only at h;cases hj:dst j with
     |none=>rw[hj]at h;cases h
     |some q=>
      rw[hj]at h;simp only at h;cases hq:E.get q with
      |v d=>
       cases d with
       |bool b=>
        rw[hq]at h;cases HJ:BP q [] ((o,md)::rest)with
        |none=>rw[HJ]at h;cases h
        |some x=>
         obtain⟨eu,pk,nC⟩:=x;rw[HJ]at h;simp only at h;obtain⟨rH,y,z,hl,oo⟩:=ZlP HJ;simp only[List.reverse_nil,iL]at hl;rw[oo]at h;cases AP:pk.dst with
         |none=>rw[AP]at h;cases h
         |some t=>
          rw[AP]at h;simp only at h;obtain⟨fu,h⟩:=Zp h;rw[aW]at fu;obtain⟨Mu,X1⟩:=fu;have xd:=J6 X1;rw[hl];rw[hl]at kA Ar;have after: ∀(E1:Env) (s1:St) (v:Bool),Tr C dst pr ms (eu++[(pk,rH)]) E s ((E.del (gC eu)).put t (.v (.bool v))) s1->
            sD C pr ms c dst n nC act ((E.del (gC eu)).put t (.v (.bool v))) K s1=some r->
            (∃E' s',Tr C dst pr ms (eu++(pk,rH)::nC) E s E' s'/\K E' s'=some r/\((∀p∈eu++(pk,rH)::nC,¬Spec pr p.1)->E'.bL=E.bL/\∀u,(∀p∈eu++(pk,rH)::nC,p.1.dst≠some u)->E'.get u=E.get u)/\Mod (JB ms (eu++(pk,rH)::nC)) E E')\/
            (∃s',r=(.eV,s')/\nc C dst pr ms (eu++(pk,rH)::nC) E s s'):=by
           intro E1 s1 v ht hr;have e:eu++(pk,rH)::nC=(eu++[(pk,rH)])++nC:=by simp
           have get: ∀u,(∀p∈eu++(pk,rH)::nC,p.1.dst≠some u)->((E.del (gC eu)).put t (.v (.bool v))).get u=E.get u:=by
            intro u hu;rw[Env.rj,ba (λe=>hu (pk,rH) (by simp) (by rw[AP,e])),yb];have:has (gC eu) u=false:=by
             cases hh:has (gC eu) u with
             |false=>rfl
             |true=>
              obtain⟨p,hp,hd⟩:=DM.1 hh;exact absurd hd (hu p (by simp[hp]))
            rw[this];rfl
           rcases ih nC act _ K s1 hr (λp hp=>kA p (by simp[hp])) (λg hm=>by
            obtain⟨⟨q',h1,h2,h3⟩,h4⟩:=Ar g hm;exact⟨⟨q',h1,by rw[get q' h3];exact h2,λp hp=>h3 p (by simp[hp])⟩,λp hp=>h4 p (by simp[hp])⟩)with⟨E2,s2,t2,iR,hn,UQ⟩|⟨s2,e2,t2⟩
           .refine .inl ⟨E2,s2,by rw[e];exact ht.append t2,iR,λhs=>?_,?_⟩
            rotate_left
            .have m1:Mod (λu=>∀p∈eu++(pk,rH)::nC,p.1.dst≠some u) E ((E.del (gC eu)).put t (.v (.bool v))):=by
              refine⟨get,aO _,λu v' n' cs e=>?_,λu v' l' p e=>?_⟩<;>rw[Env.rj,yb]at e<;>split at e
              .cases e
              .split at e
               .cases e
               .exact .inl ⟨cs,e⟩
              .cases e
              .split at e
               .cases e
               .exact .inl ⟨p,e⟩
             exact m1.trans UQ (λu hu=>hu.1) (λu hu=>⟨λp hp=>hu.1 p (by simp[hp]),hu.2⟩)
            obtain⟨n1,n2⟩:=hn λp hp=>hs p (by simp[hp])
            exact⟨by rw[n1];rfl,λu hu=>by rw[n2 u λp hp=>hu p (by simp[hp]),get u hu]⟩
           .exact .inr ⟨s2,e2,by rw[e];exact ht.eV t2⟩
          have nd: ∀u,(∀p∈eu++(pk,rH)::nC,p.1.dst≠some u)->has (gC eu) u=false:=by
           intro u hu;cases hh:has (gC eu) u with
           |false=>rfl
           |true=>
            obtain⟨p,hp,hd⟩:=DM.1 hh;exact absurd hd (hu p (by simp[hp]))
          have nq:has (gC eu) q=false:=by
           cases hh:has (gC eu) q with
           |false=>rfl
           |true=>
            obtain⟨p,hp,hd⟩:=DM.1 hh;exact absurd hd (xd p hp).2
          have jk: ∀(d:DV) (s1:St),(jS [d] λd st=>sJ d λv=>aJ st (sD C pr ms c dst n nC act ((E.del (gC eu)).put t (.v (.bool v))) K)) s1=some r->
            ∃v,d= .bool v/\sD C pr ms c dst n nC act ((E.del (gC eu)).put t (.v (.bool v))) K s1=some r:=by
           intro d s1 h;cases d with
           |bool v=>exact⟨v,rfl,h⟩
           |_=>cases h
          have YT: ∀(v:Bool) u,((E.del (gC eu)).put t (.v (.bool v))).get u=if t=u then .v (.bool v)else if has (gC eu) u then .u else E.get u:=λv u=>by rw[Env.rj,yb]
          simp only[Lq]at h;by_cases ua:b=w
          ·
           subst ua;have h':sD C pr ms c dst n eu ((j,b)::act) (E.put q (.v (.bool b))) (λE1=>fa C E1 (bif b then y else z) λd=>jS [d] λd st=>sJ d λv=>aJ st (sD C pr ms c dst n nC act ((E.del (gC eu)).put t (.v (.bool v))) K)) s=some r:=by
            cases b<;>exact h
           have IW: ∀u,(E.put q (.v (.bool b))).get u=E.get u:=λu=>by
            rw[Env.rj];split
            .rename_i e;subst e;exact hq.symm
            .rfl
           have cD:lP E (E.put q (.v (.bool b))):=⟨rfl,λu=> .inl (IW u)⟩;rcases ih eu ((j,b)::act) _ _ s h' (λp hp=>kA p (by simp[hp])) (λg hm=>by
            refine⟨?_,λp hp=>(xd p hp).1⟩;rcases dW.1 hm with rfl|hm
            .exact⟨q,hj,by rw[IW];exact hq,λp hp=>(xd p hp).2⟩
            .obtain⟨⟨q',h1,h2,h3⟩,_⟩:=Ar g hm
             exact⟨q',h1,by rw[IW];exact h2,λp hp=>h3 p (by simp[hp])⟩)with⟨E1,s1,t1,jG,Cz,_⟩|⟨s1,e1,t1⟩
           .obtain⟨n1,n2⟩:=Cz λp hp=>(xd p hp).1
            obtain⟨d,hd,jG⟩:=Zs jG;obtain⟨v,rfl,jG⟩:=jk d s1 jG;have MA:E1.get q= .v (.bool b):=by rw[n2 q λp hp=>(xd p hp).2,IW];exact hq
            have Xc: ∀u,has (gC eu) u=false->E1.get u=E.get u:=λu hu=>by
             rw[n2 u (λp hp hd=>by rw[DM.2 ⟨p,hp,hd⟩]at hu;cases hu),IW]
            have cc:=Zpo (C:=C) (pr:=pr) (ms:=ms) (md:=rH) (s:=s1) oo MA (gw (E:=E1) (λg hm=>by
             obtain⟨⟨q',h1,h2,h3⟩,_⟩:=Ar g hm;exact⟨q',h1,by rw[Xc q' (nd q' h3)];exact h2⟩) Mu)
            have Vm:E1.src C (if b then y else z)= .v (.bool v):=by cases b<;>exact hd
            rw[Vm,AP]at cc;have fM:lP (E1.eR (some t) (.v (.bool v))) ((E.del (gC eu)).put t (.v (.bool v))):=by
             refine⟨by rw[Env.Fv,n1];rfl,λu=>?_⟩;rw[YT,Env.jU];by_cases e:t=u
             .subst e;simp
             .rw[ba e,ba (λh=>e (Dq h))]
              cases hu:has (gC eu) u with
              |true=>exact .inr rfl
              |false=>exact .inl (Xc u hu).symm
            exact after E1 s1 v (.iB cD (t1.append (.cons cc (.iB fM (.nil _ _))))) jG
           .exact .inr ⟨s1,e1,.iB cD (t1.left _)⟩
          ·
           have h':fa C ((E.del (gC eu)).put q (.v (.bool !w))) (bif w then z else y) (λd=>jS [d] λd st=>sJ d λv=>aJ st (sD C pr ms c dst n nC act ((E.del (gC eu)).put t (.v (.bool v))) K)) s=some r:=by
            cases w<;>cases b<;>first|exact h|exact absurd rfl ua
           obtain⟨d,hd,jG⟩:=Zs h';obtain⟨v,rfl,jG⟩:=jk d s jG;obtain⟨E1,t1,t2,t3⟩:=SK (C:=C) (pr:=pr) (ms:=ms) hj ua (s:=s) X1 hq (λd h=>by cases h);have MA:E1.get q= .v (.bool b):=by rw[t3 q nq];exact hq
           have cc:=Zpo (C:=C) (pr:=pr) (ms:=ms) (md:=rH) (s:=s) oo MA (gw (E:=E1) (λg hm=>by
            obtain⟨⟨q',h1,h2,h3⟩,_⟩:=Ar g hm;exact⟨q',h1,by rw[t3 q' (nd q' h3)];exact h2⟩) Mu)
           have Xq:b= !w:=by cases w<;>cases b<;>first|rfl|exact absurd rfl ua
           have Vm:E1.src C (if b then y else z)= .v (.bool v):=by
            have hx:(if b then y else z)=(bif w then z else y):=by subst Xq;cases w<;>rfl
            rw[hx,<-hd];generalize (bif w then z else y)=x at hd;cases x with
            |tmp u=>
             have hg:E1.get u=((E.del (gC eu)).put q (.v (.bool !w))).get u:=by
              rw[Env.rj,yb];by_cases e:q=u
              .subst e;rw[bG rfl,MA,Xq]
              .rw[ba e]
               cases hu:has (gC eu) u with
               |false=>exact t3 u hu
               |true=>
                simp only[Env.src,Env.rj,yb,ba e,hu,lM]at hd;cases hd
             simp only[Env.src,hg]
            |_=>rfl
           rw[Vm,AP]at cc;have fM:lP (E1.eR (some t) (.v (.bool v))) ((E.del (gC eu)).put t (.v (.bool v))):=by
            refine⟨by rw[Env.Fv,t2];rfl,λu=>?_⟩;rw[YT,Env.jU];by_cases e:t=u
            .subst e;simp
            .rw[ba e,ba (λh=>e (Dq h))]
             cases hu:has (gC eu) u with
             |true=>exact .inr rfl
             |false=>exact .inl (t3 u hu).symm
           exact after E1 s v (t1.append (.cons cc (.iB fM (.nil _ _)))) jG
       |_=>rw[hq]at h;cases h
      |_=>rw[hq]at h;cases h
end
structure Fr where
 N:Nat
 nt:Nat
 ik:Ps
 s0:St
 w0:World
 ok:Nat->Bool
 IQ: ∀x,ok x=true->x<nt
 kv:Nat->Value
 TI:List Deferred
def Ks (f:Fr) (a:Act):Prop:=a.tmps.size=f.nt/\∀t,f.ok t=false->a.tmps.getD t undef=f.kv t
structure Rel (C:bx) (f:Fr) (ψ:Ps) (E:Env) (s:St) (a:Act) (w:World):Prop where
 eG:eX C ψ (CR E s) w
 gD:iY E
 gm:qM ψ w
 ku:Glob C ψ
 jA: ∀t,fp C ψ (E.get t) (a.tmps.getD t undef)
 mQ:Ks f a
 defs:a.defers=f.TI
 rX: ∀i,s.length<=i->i<f.N->ψ (.inl i)=none
 uB: ∀v,E.bL<=v->ψ (.inr v)=none
 ext:Ext f.ik (CS f.s0) f.w0 ψ (CR E s) w
 news: ∀i cb,ψ (.inl i)=some cb->f.ik (.inl i)=some cb\/(f.s0.length<=i/\i<s.length)
 len:f.s0.length<=s.length
 fin: ∀v,f.ik (.inr v)=none
section
variable {C:bx} {f:Fr} {ψ ψ':Ps} {E E':Env} {s s':St} {a:Act} {w w':World} {Q':Kn} {o:Oper} {D W:du->Prop} {pr ms:al}
theorem iY.iB (h:iY E) (k:lP E E'):iY E':=by
 have g: ∀t x,E'.get t=x->x≠ .u->E.get t=x:=λt x e hx=>by
  rcases k.get t with h|h
  .rw[<-h];exact e
  grind
 constructor
 .intro t v hv
  rw[k.bL];rcases k.get t with e|e
  .rw[e]at hv;exact h.lt t v hv
  .rw[e]at hv;cases hv
 .intro t r v n e
  rw[k.bL];exact h.pl t r v n (g t _ e (by simp))
 .intro t v n cs e
  exact h.len t v n cs (g t _ e (by simp))
 .intro t t' v hv eD
  rcases k.get t with e|e
  .rcases k.get t' with e'|e'
   .rw[e]at hv;rw[e']at eD;exact h.uniq t t' v hv eD
   .rw[e']at eD;cases eD
  .rw[e]at hv;cases hv
theorem CR.iB (k:lP E E') {h:du} {ab:AB} (c:CR E' s h ab):CR E s h ab:=by
 have g: ∀t x,E'.get t=x->x≠ .u->E.get t=x:=λt x e hx=>by
  rcases k.get t with h|h
  .rw[<-h];exact e
  grind
 cases h with
 |inl i=>exact c
 |inr v=>
  rcases c with⟨t,n,cs,e,fL⟩|⟨t,l,p,e,fL⟩
  .exact .inl (by grind)
  .exact .inr (by grind)
theorem Rel.iB (R:Rel C f ψ E s a w) (k:lP E E'):Rel C f ψ E' s a w where
 eG:=R.eG.weaken λ_ _ _ _ c=>c.iB k
 gD:=R.gD.iB k
 gm:=R.gm
 ku:=R.ku
 jA:=λt=>by
  rcases k.get t with e|e
  .rw[e];exact R.jA t
  .rw[e];exact trivial
 mQ:=R.mQ
 defs:=R.defs
 rX:=R.rX
 uB:=λv hv=>R.uB v (by rw[<-k.bL];exact hv)
 ext:=R.ext.weaken λ_ _ _ _ c=>c.iB k
 news:=R.news
 len:=R.len
 fin:=R.fin
theorem O9 (a:Act) (d:Option Nat) (v:Value):(a.put d v).tmps.size=a.tmps.size:=by cases d<;>simp[Act.put]
theorem Ka (a:Act) (d:Option Nat) (v:Value):(a.put d v).defers=a.defers:=by cases d<;>rfl
theorem G3 {a:Act} {d:Option Nat} (hd: ∀x,d=some x->x<a.tmps.size):(a.put d v).tmps.getD t undef=if d=some t then v else a.tmps.getD t undef:=by
 cases d with
 |none=>simp[Act.put]
 |some x=>
  simp only[Act.put,fQ,qG];by_cases e:x=t
  .grind
  grind
theorem Ks.put (h:Ks f a) {d:Option Nat} {v:Value} (hd: ∀x,d=some x->f.ok x=true):Ks f (a.put d v):=by
 refine⟨by rw[O9];exact h.1,λt ht=>?_⟩;rw[G3 λx hx=>by rw[h.1];exact f.IQ x (hd x hx),ba λe=>by rw[hd t e]at ht;cases ht];exact h.2 t ht
theorem Rel.room (R:Rel C f ψ E s a w) (hN:s'.length<=f.N):Jz E s E' s' ψ:=by
 rintro h ⟨n1,n2⟩;cases h with
 |inl i=>exact R.rX i (zj.1 n1) (lj n2 hN)
 |inr v=>exact R.uB v (zj.1 n1)
theorem Rel.pre (R:Rel C f ψ E s a w):aC C o D E s ψ (CR E s) a w:=⟨R.eG,R.gm,R.ku,R.gD,λ_ _ _ _ c _=>c,λt _=>R.jA t⟩
theorem Rel.step (R:Rel C f ψ E s a w) (hF:lO W pr ms o E s E' s') (hP:Jw C D W E s E' s' ψ (CR E s) w ψ' Q' w') (he: ∀d,o.dst=some d->fp C ψ' (E'.get d) v) (hd: ∀x,o.dst=some x->f.ok x=true):
  Rel C f ψ' E' s' (a.put o.dst v) w':=by
 have known: ∀h ab cb,ψ' h=some cb->CR E' s' h ab->Q' h ab:=by
  intro h ab cb e c;by_cases hw:W h\/wj E s E' s' h
  .exact hP.p1 h ab cb c hw e
  .have c':CR E s h ab:=by
    rcases hF.back h ab c with x|x|x
    .grind
    .grind
    .exact x
   rcases hP.news h cb e with e|e
   .exact hP.p2 h ab cb e c' (λx=>hw (.inl x)) (λ_ _=>c')
   grind
 refine⟨hP.eG.weaken known,hF.gD R.gD,hP.ext.gm R.gm,hP.ext.ku R.ku,λt=>?_,R.mQ.put hd,by rw[Ka];exact R.defs,λi h1 h2=>?_,λv h1=>?_,R.ext.trans (hP.ext.weaken known),λi cb e=>?_,gJ R.len hF.len,R.fin⟩
 .rw[G3 λx hx=>by rw[R.mQ.1];exact f.IQ x (hd x hx)]
  by_cases e:o.dst=some t
  .rw[bG e];exact he t e
  .rw[ba e];exact(hF.bI t e C ψ _ (R.jA t)).mono hP.ext.mono
 .cases e:ψ' (.inl i)with
  |none=>rfl
  |some cb=>
   rcases hP.news _ cb e with e|⟨_,e⟩
   .rw[R.rX i (gJ hF.len h1) h2]at e;cases e
   .simp only[dQ]at e;omega
 .cases e:ψ' (.inr v)with
  |none=>rfl
  |some cb=>
   rcases hP.news _ cb e with e|⟨_,e⟩
   .rw[R.uB v (gJ hF.bL h1)]at e;cases e
   .simp only[dQ]at e;omega
 .rcases hP.news _ cb e with e|⟨n1,n2⟩
  .rcases R.news i cb e with h|⟨h1,h2⟩
   .exact .inl h
   .exact .inr ⟨h1,lj h2 hF.len⟩
  .exact .inr ⟨gJ R.len (zj.1 n1),n2⟩
structure qP (C:bx) (f:Fr) (s:St) (a:Act) (w:World):Prop where
 defs:a.defers=f.TI
 ks:Ks f a
 post: ∃ψ',jh C f.ik f.s0 f.w0 ψ' s w
theorem Zt8 (b:Bool):undef≠Value.bool b:=by unfold undef;simp
theorem KC (a:Act) (r:Nat) (b:Bool) (h:a.tmps.getD r undef= .bool b):a.tmps[r]? =some (.bool b):=by
 rw[qG]at h;cases e:a.tmps[r]? with
 |none=>rw[e]at h;exact absurd h (Zt8 b)
 |some v=>rw[e]at h;grind
def mw (ops:Array Oper) (j:Nat):Option Nat:=match ops.toList[j]? with|some o=>o.dst|none=>none
theorem KJ (ops:Array Oper) (j:Nat):mw ops j=(ops[j]?).bind (·.dst):=by
 grind[mw]
theorem QV (R: ∀t,fp C ψ (E.get t) (a.tmps.getD t undef)) (h:GW (mw ops) E o):Region.wanted o (yielded ops a.tmps)=true:=by
 unfold Region.wanted;rcases h with h|⟨j,w,r,h1,h2,h3⟩
 .rw[h]
 .rw[h1]
  rw[KJ]at h2;have hr:=R r;rw[h3]at hr;have:a.tmps.getD r undef= .bool w:=by generalize a.tmps.getD r undef=x at hr;cases hr;rfl
  simp[yielded,h2,KC a r w this]
theorem Zmi (R: ∀t,fp C ψ (E.get t) (a.tmps.getD t undef)) (h:GU (mw ops) E o):Region.wanted o (yielded ops a.tmps)=false:=by
 unfold Region.wanted;obtain⟨j,w,r,h1,h2,h3⟩:=h;rw[h1];rw[KJ]at h2;have hr:=R r;rcases h3 with⟨b,h3,hb⟩|h3
 .rw[h3]at hr
  have:a.tmps.getD r undef= .bool b:=by generalize a.tmps.getD r undef=x at hr;cases hr;rfl
  simp[yielded,h2,KC a r b this,hb]
 .rw[h3]at hr
  have hr:a.tmps.getD r undef=undef:=hr;have:a.tmps[r]? =none\/a.tmps[r]? =some undef:=by
   rw[qG]at hr;grind
  have hy:yielded ops a.tmps j=none:=by
   unfold yielded;rw[h2];rcases this with e|e<;>simp[e,undef]
  simp[hy]
theorem Rel.undef (R:Rel C f ψ E s a w) (hd: ∀x,o.dst=some x->f.ok x=true):Rel C f ψ (E.eR o.dst .un) s (a.put o.dst Go.undef) w:=by
 have LY: ∀h ab,CR (E.eR o.dst .un) s h ab->CR E s h ab:=λh ab c=>c.eR rfl
 refine⟨R.eG.weaken λ_ _ _ _ c=>LY _ _ c,R.gD.eR rfl (λ_ _ _ h=>by cases h),R.gm,R.ku,λt=>?_,R.mQ.put hd,by rw[Ka];exact R.defs,R.rX,λv hv=>R.uB v (by simpa using hv),R.ext.weaken λ_ _ _ _ c=>LY _ _ c,R.news,R.len,R.fin⟩;rw[G3 λx hx=>by rw[R.mQ.1];exact f.IQ x (hd x hx),Env.jU];by_cases e:o.dst=some t
 .rw[bG e,bG e];rfl
 .rw[ba e,ba e];exact R.jA t
theorem yj (Az: ∀v,f.ik (.inr v)=none) (yJ:eX C ψ' Q' w') (ue:Ext f.ik (CS f.s0) f.w0 ψ' Q' w')
  (hk: ∀i ab cb,c8 s' i=some ab->ψ' (.inl i)=some cb->Q' (.inl i) ab) (agQ: ∀i cb,ψ' (.inl i)=some cb->f.ik (.inl i)=some cb\/(f.s0.length<=i/\i<s'.length)):
  jh C f.ik f.s0 f.w0 (mH ψ') s' w':=by
 have Nb: ∀b,tA (mH ψ') (CS s') b->tA ψ' Q' b:=by
  rintro b ⟨k,cb,ab,e,⟨i,rfl,q⟩,hs,hb⟩;exact⟨.inl i,cb,ab,e,hk i ab cb q e,hs,hb⟩
 refine⟨ZrJ yJ hk,⟨λh cb e=>?_,λh cb e=>ue.rR h cb (DR e).1,ue.size,ue.jy,λb hb=>ue.gI b (Nb b hb),λh cb x e q=>?_,ue.tape,ue.os,ue.output⟩,λh cb e=>?_⟩
 .cases h with
  |inl i=>exact ue.mono _ _ e
  |inr v=>rw[Az]at e;cases e
 .obtain⟨i,rfl,q⟩:=q
  exact ue.live (.inl i) cb x e (hk i x cb q (ue.mono _ _ e))
 .obtain⟨e,i,rfl⟩:=DR e
  grind
theorem Rel.yj (R:Rel C f ψ E s a w):jh C f.ik f.s0 f.w0 (mH ψ) s w:=
 Go.Gv.yj R.fin R.eG R.ext (λ_ _ _ h _=>h) R.news
theorem Tr.len {dst:Nat->Option Nat} {l:List (Oper×Md)} (h:Tr C dst pr ms l E s E' s'):s.length<=s'.length:=by
 induction h with
 |nil=>exact aO _
 |iB _ _ ih=>exact ih
 |cons st _ ih=>
  refine gJ ?_ ih;cases st with
  |act _ hF _=>exact hF.len
  |skip _=>exact aO _
theorem nc.len {dst:Nat->Option Nat} {l:List (Oper×Md)} (h:nc C dst pr ms l E s s'):s.length<=s'.length:=by
 induction h with
 |iB _ _ ih=>exact ih
 |here _ _ hp=>exact hp.1
 |next st _ ih=>
  refine gJ ?_ ih;cases st with
  |act _ hF _=>exact hF.len
  |skip _=>exact aO _
theorem Rel.YG (R:Rel C f ψ E s a w) (hN:s'.length<=f.N) (hp:wm C o D E s s') {next:Act->World->Prop} (h: ∀ch a' w',nL ch->qP C f s' a' w'->QQ (.panic ch) a' w'):o.wp C.P a w next QQ:=by
 refine hp.2 ψ (CR E s) a w next QQ R.pre (R.room hN) λψ' Q' ch w' h0 h1 h2 h3 h4=>h ch a w' h0 ⟨R.defs,R.mQ,_,Go.Gv.yj (s':=s') R.fin h1 (R.ext.trans h2) h4 λi cb e=>?_⟩
 rcases h3 _ cb e with e|⟨n1,n2⟩
 .rcases R.news i cb e with h|⟨h1,h2⟩
  .exact .inl h
  .exact .inr ⟨h1,lj h2 hp.1⟩
 .exact .inr ⟨gJ R.len (zj.1 n1),n2⟩
theorem ZvT (t:Tr C (mw ops) pr ms l E s E2 s2): ∀ {i:Nat} {a:Act} {w:World} {ψ:Ps},Rel C f ψ E s a w->s2.length<=f.N->
  (∀p∈l,∀x,p.1.dst=some x->f.ok x=true)->(∀k p,l[k]? =some p->ops[i+k]? =some p.1)->(∀ψ' a' w',Rel C f ψ' E2 s2 a' w'->QQ .normal a' w')->wpOps C.P ops QQ (List.range' i l.length) a w:=by
 induction t with
 |nil=>intro i a w ψ R _ _ _ h;exact h ψ a w R
 |iB k _ ih=>intro i a w ψ R hN hd hi h;exact ih (R.iB k) hN hd hi h
 |cons st t ih=>
  rename_i p l E s E1 s1 E2 s2;intro i a w ψ R hN hd hi h;have ug:=hi 0 p rfl;simp only[gV]at ug;have rest: ∀ {il a1 w1},Rel C f il E1 s1 a1 w1->wpOps C.P ops QQ (List.range' (i+1) l.length) a1 w1:=λR1=>
   ih R1 hN (by grind) (λk q hk=>by have:=hi (k+1) q (by simpa using hk);rwa [show i+(k+1)=i+1+k by omega]at this) h
  simp only[cO,Jn,wpOps,ug];cases st with
  |act hg hF hO=>
   rw[bG (QV R.jA hg)];exact .inl (hO ψ (CR E s) a w _ QQ R.pre (R.room (gJ t.len hN)) λψ' Q' v w' hP he=>rest (R.step hF hP he (hd p (by simp))))
  |skip hg=>
   rw[ba (by rw[Zmi R.jA hg];simp)];exact rest (R.undef (hd p (by simp)))
theorem ZuX (t:nc C (mw ops) pr ms l E s s2): ∀ {i:Nat} {a:Act} {w:World} {ψ:Ps},Rel C f ψ E s a w->s2.length<=f.N->
  (∀p∈l,∀x,p.1.dst=some x->f.ok x=true)->(∀k p,l[k]? =some p->ops[i+k]? =some p.1)->(∀ch a' w',nL ch->qP C f s2 a' w'->QQ (.panic ch) a' w')->wpOps C.P ops QQ (List.range' i l.length) a w:=by
 induction t with
 |iB k _ ih=>intro i a w ψ R hN hd hi h;exact ih (R.iB k) hN hd hi h
 |here hg hx hp=>
  rename_i p l E s s2;intro i a w ψ R hN hd hi h;have ug:=hi 0 p rfl;simp only[gV]at ug;simp only[cO,Jn,wpOps,ug];rw[bG (QV R.jA hg)];exact .inl (R.YG hN hp h)
 |next st t ih=>
  rename_i p l E s E1 s1 s2;intro i a w ψ R hN hd hi h;have ug:=hi 0 p rfl;simp only[gV]at ug;have rest: ∀ {il a1 w1},Rel C f il E1 s1 a1 w1->wpOps C.P ops QQ (List.range' (i+1) l.length) a1 w1:=λR1=>
   ih R1 hN (by grind) (λk q hk=>by have:=hi (k+1) q (by simpa using hk);rwa [show i+(k+1)=i+1+k by omega]at this) h
  simp only[cO,Jn,wpOps,ug];cases st with
  |act hg hF hO=>
   rw[bG (QV R.jA hg)];exact .inl (hO ψ (CR E s) a w _ QQ R.pre (R.room (gJ t.len hN)) λψ' Q' v w' hP he=>rest (R.step hF hP he (hd p (by simp))))
  |skip hg=>
   rw[ba (by rw[Zmi R.jA hg];simp)];exact rest (R.undef (hd p (by simp)))
end
theorem lP.refl (E:Env):lP E E:=⟨rfl,λ_=> .inl rfl⟩
theorem lP.trans {E E' FW:Env} (h:lP E E') (k:lP E' FW):lP E FW:=by
 refine⟨k.bL.trans h.bL,λt=>?_⟩;rcases k.get t with e|e
 .rcases h.get t with e'|e'
  .exact .inl (e.trans e')
  grind
 .exact .inr e
section
variable {C:bx} {dst:Nat->Option Nat} {pr ms:al}
theorem Tr.fn (h:Tr C dst pr ms l E s E2 s2):
  ∃(A B:Nat->Env) (ss:Nat->St),A 0=E/\ss 0=s/\ss l.length=s2/\lP (A l.length) E2/\
   ∀k p,l[k]? =some p->lP (A k) (B k)/\Step C dst pr ms p (B k) (ss k) (A (k+1)) (ss (k+1)):=by
 induction h with
 |nil E s=>exact⟨λ_=>E,λ_=>E,λ_=>s,rfl,rfl,rfl,.refl E,λk p h=>by simp at h⟩
 | @iB l E E1 s E2 s2 k _ ih=>
  obtain⟨A,B,ss,h1,h2,h3,h4,h5⟩:=ih;cases l with
  |nil=>
   refine⟨λ_=>E,B,ss,rfl,h2,h3,?_,λk p h=>by simp at h⟩;simp only[Dh]at h4;rw[h1]at h4;exact k.trans h4
  |cons p l=>
   refine⟨λi=>if i=0 then E else A i,B,ss,rfl,h2,h3,by simpa using h4,λi q hq=>?_⟩;obtain⟨a,b⟩:=h5 i q hq;refine⟨?_,by simpa using b⟩;by_cases hi:i=0
   .subst hi
    simp only[lM];rw[h1]at a;exact k.trans a
   grind
 | @cons p l E s E1 s1 E2 s2 st _ ih=>
  obtain⟨A,B,ss,h1,h2,h3,h4,h5⟩:=ih;refine⟨λi=>match i with|0=>E|i+1=>A i,λi=>match i with|0=>E|i+1=>B i,λi=>match i with|0=>s|i+1=>ss i,rfl,rfl,h3,h4,λi q hq=>?_⟩;cases i with
  |zero=>
   simp only[lh,fQ]at hq;subst hq;refine⟨.refl E,?_⟩;grind
  |succ i=>grind
end
theorem ZwA (h:(Ek o acc).testBit j=true): ∃e∈o.after,Region.binds .any e=true/\(j=e.on\/(acc.getD e.on 0).testBit j=true):=by
 unfold Ek at h;have key: ∀(l:List Edge) (m:Nat),(l.foldl (λm e=>bif Region.binds .any e then m|||2^e.on|||acc.getD e.on 0 else m) m).testBit j=true->
   m.testBit j=true\/∃e∈l,Region.binds .any e=true/\(j=e.on\/(acc.getD e.on 0).testBit j=true):=by
  intro l;induction l with
  |nil=>exact λm h=> .inl h
  |cons e l ih=>
   grind
 grind
theorem RQ (P:Program) (pr:al) (ops:List Oper): ∀(r:List Oper) (acc:al) (k:Nat) (p:gk),(qy P pr ops r acc)[k]? =some p->
  ∃o,r[k]? =some o/\p.bf=Ek o (acc++((qy P pr ops r acc).take k).map (·.bf))/\p.k=uz pr ops (acc.length+k) p.bf (cls P pr ops o)/\p.dst=o.dst/\p.lk=qu pr ops o
 |[],acc,k,p,h=>by simp[qy]at h
 |o::r,acc,0,p,h=>by
  grind[qy,lh,fQ]
 |o::r,acc,k+1,p,h=>by
  simp only[qy,pE]at h;obtain⟨o',h1,h2,h3,h4⟩:=RQ P pr ops r _ k p h;refine⟨o',by simpa using h1,?_,?_,h4⟩
  .rw[h2]
   simp[qy]
  grind
theorem JP (P:Program) (pr:al) (ops:List Oper): ∀(r:List Oper) (acc:al),(qy P pr ops r acc).length=r.length
 |[],_=>rfl
 |o::r,acc=>by simp[qy,JP P pr ops r]
def Nx (p q:gk):Prop:=Td p.k q.k=false/\LB p.dst q.lk=false/\LB q.dst p.lk=false/\TJ p.dst q.dst=false
theorem ZnF {i:Nat} {p:gk} : ∀ {l:List gk},Lf i p l=true->∀(k:Nat) (q:gk),l[k]? =some q->q.bf.testBit i=true\/Nx p q
 |[],_,k,q,h=>by simp at h
 |x::l,h,k,q,hq=>by
  simp only[Lf,aW]at h;cases k with
  |zero=>
   simp only[lh,fQ]at hq;subst hq;have h1:=h.1;rw[l9]at h1;refine h1.imp id λh1=>?_
   simp only[aW,lL]at h1;exact⟨h1.1.1.1,h1.1.1.2,h1.1.2,h1.2⟩
  |succ k=>exact ZnF h.2 k q (by simpa using hq)
theorem Kw: ∀ {i:Nat} {l:List gk} {os:List Oper},CZ i l os=true->∀(k:Nat) (p:gk),l[k]? =some p->
  p.bf<2^(i+k)/\(∃o,os[k]? =some o/\∀j w,o.guard=some (j,w)->p.bf.testBit j=true)/\∀(m:Nat) (q:gk),k<m->l[m]? =some q->q.bf.testBit (i+k)=true\/Nx p q
 |i,[],os,_,k,p,hp=>by simp at hp
 |i,_::_,[],h,k,p,hp=>by cases h
 |i,x::l,o::os,h,k,p,hp=>by
  simp only[CZ,aW]at h;obtain⟨⟨⟨h1,h2⟩,h3⟩,h4⟩:=h;cases k with
  |zero=>
   simp only[lh,fQ]at hp;subst hp;refine⟨by rw[pG]at h1;exact h1,⟨o,rfl,by grind⟩,λm q hm hq=>?_⟩;obtain⟨m',rfl⟩: ∃m',m=m'+1:=⟨m-1,by omega⟩;exact ZnF h3 m' q (by simpa using hq)
  |succ k=>
   obtain⟨a,⟨o',b1,b2⟩,c⟩:=Kw h4 k p (by simpa using hp);grind
theorem ZwY {e:Edge} (he:e∈o.after) (hb:Region.binds .any e=true):(Ek o acc).testBit e.on=true:=by
 unfold Ek;have mono: ∀(l:List Edge) (m:Nat),m.testBit e.on=true->(l.foldl (λm e=>bif Region.binds .any e then m|||2^e.on|||acc.getD e.on 0 else m) m).testBit e.on=true:=by
  intro l;induction l with
  |nil=>exact λm h=>h
  |cons x l ih=>
   grind
 have key: ∀(l:List Edge) (m:Nat),e∈l->(l.foldl (λm e=>bif Region.binds .any e then m|||2^e.on|||acc.getD e.on 0 else m) m).testBit e.on=true:=by
  intro l;induction l with
  |nil=>intro m h;cases h
  |cons x l ih=>
   grind
 grind
theorem Kx {mp:Nat->Bool} : ∀(all:List gk) (i:Nat) (is:List gk) (os:List Oper) (k:Nat) (p:Oper×Md),(flags mp all i is os)[k]? =some p->
  ∃q o,is[k]? =some q/\os[k]? =some o/\
   p=(o,.d q.k (bif uW (i+k) q.bf (λ_=>true) 0 all then(bif VP mp o&& !zQ (i+k) q.bf 0 all then 0 else(match q.k with| .call=>(bif uW (i+k) q.bf Fu 0 all then 2 else 1)|_=>1))else 0))
 |all,i,[],os,k,p,h=>by cases os<;>simp[flags]at h
 |all,i,_::_,[],k,p,h=>by simp[flags]at h
 |all,i,q::r,o::os,0,p,h=>by
  grind[flags,lh,fQ]
 |all,i,q::r,o::os,k+1,p,h=>by
  simp only[flags,pE]at h;obtain⟨q',o',h1,h2,h3⟩:=Kx all (i+1) r os k p h;grind
theorem JK {mp:Nat->Bool} : ∀(all:List gk) (i:Nat) (is:List gk) (os:List Oper),is.length=os.length->(flags mp all i is os).length=os.length
 |_,_,[],[],_=>rfl
 |all,i,_::r,_::os,h=>by simp only[flags,cO];rw[JK all (i+1) r os (by simpa using h)]
 |_,_,[],_::_,h=>by simp at h
 |_,_,_::_,[],h=>by simp at h
theorem ZpY {i bi:Nat} {f:ll->Bool} : ∀ {r:List gk} {j0 j:Nat} {q:gk},r[j]? =some q->i≠j0+j->q.bf.testBit i=false->bi.testBit (j0+j)=false->f q.k=true->uW i bi f j0 r=true
 |[],j0,j,q,h,_,_,_,_=>by simp at h
 |x::r,j0,0,q,h,h1,h2,h3,h4=>by
  simp only[lh,fQ]at h;subst h;simp only[gV]at h1 h3;have:Nat.beq i j0=false:=by
   cases e:Nat.beq i j0 with
   |false=>rfl
   |true=>simp_all
  simp[uW,this,h2,h3,h4]
 |x::r,j0,j+1,q,h,h1,h2,h3,h4=>by
  simp only[pE]at h;simp only[uW,l9];exact .inr (ZpY (j0:=j0+1) h (by omega) h2 (by rw[show j0+1+j=j0+(j+1) by omega];exact h3) h4)
theorem Zn3 {i bi:Nat} : ∀ {r:List gk} {j0 j:Nat} {q:gk},r[j]? =some q->i≠j0+j->q.bf.testBit i=false->bi.testBit (j0+j)=false->(Nat.blt (j0+j) i&&B1 q.k)=false->zQ i bi j0 r=true
 |[],j0,j,q,h,_,_,_,_=>by simp at h
 |x::r,j0,0,q,h,h1,h2,h3,h4=>by
  simp only[lh,fQ]at h;subst h;simp only[gV]at h1 h3 h4;have:Nat.beq i j0=false:=by
   cases e:Nat.beq i j0 with
   |false=>rfl
   |true=>simp_all
  simp[zQ,this,h2,h3,h4]
 |x::r,j0,j+1,q,h,h1,h2,h3,h4=>by
  simp only[pE]at h;simp only[zQ,l9];exact .inr (Zn3 (j0:=j0+1) h (by omega) h2 (by rw[show j0+1+j=j0+(j+1) by omega];exact h3) (by rw[show j0+1+j=j0+(j+1) by omega];exact h4))
def Ac (is:List gk) (i k:Nat):Prop:=∃q,is[k]? =some q/\q.bf.testBit i=true
theorem ZrS: ∀(l:List Operand) (m t:Nat),(m.testBit t=true\/Operand.tmp t∈l)->(l.foldl (λm x=>match x with| .tmp t=>m|||2^t|_=>m) m).testBit t=true
 |[],m,t,h=>by
  grind
 |x::l,m,t,h=>by
  simp only[Df];refine ZrS l _ t ?_;grind
theorem Zt9 (pr:al) (ops:List Oper) (o:Oper) (m:Nat) (t:Nat) (h:m.testBit t=true):
  (match o.op with
   | .load _ (.tmp a)=>(match rS pr ops 12 a with|some r=>m|||2^r|none=>m)
   | .store _ (.tmp a) _=>(match rS pr ops 12 a with|some r=>m|||2^r|none=>m)
   |_=>m).testBit t=true:=by
 grind
theorem ZpK {ops:List Oper} (h:Operand.tmp t∈o.op.operands):(qu pr ops o).testBit t=true:=by
 unfold qu;refine Zt9 _ _ _ _ _ ?_;have h1:=ZrS o.op.operands.toList 0 t (.inr (by simpa using h));split
 .grind
 .exact h1
theorem Zuf {ops:List Oper} {g:Oper} {r:Nat} {w:Bool} (h:o.guard=some (j,w)) (hj:ops[j]? =some g) (hr:g.dst=some r):(qu pr ops o).testBit r=true:=by
 grind[qu]
theorem Zvz {ops:List Oper} {r:Nat} (h:cls P pr ops o= .vT r\/cls P pr ops o= .oy r):(qu pr ops o).testBit r=true:=by
 cases ho:o.op with
 |load t a=>
  cases a with
  |tmp a=>
   cases hr:rS pr ops 12 a with
   |none=>simp[cls,ho,hr]at h
   |some q=>
    simp[cls,ho,hr]at h;subst h;simp[qu,ho,hr]
  |_=>simp[cls,ho]at h
 |store t a y=>
  cases a with
  |tmp a=>
   cases hr:rS pr ops 12 a with
   |none=>simp[cls,ho,hr]at h
   |some q=>
    simp[cls,ho,hr]at h;subst h;simp[qu,ho,hr]
  |_=>simp[cls,ho]at h
 |next it b=>
  cases it with
  |tmp t=>
   simp[cls,ho]at h;subst h;exact ZpK (by simp[Op.operands,ho])
  |_=>simp[cls,ho]at h
 |slice t y lo hi mx=>
  simp only[cls,ho]at h;split at h<;>simp at h
 |call q=>
  cases hp:has pr 1000000<;>simp only[cls,ho,hp,ae,af]at h<;>split at h<;>simp at h
 |_=>simp[cls,ho]at h
structure Su (C:bx) (pr ms:List Nat) (ops:Array Oper) (l:List (Oper×Md)) (is:List gk) (m:Nat) (A B:Nat->Env) (ss:Nat->St):Prop where
 yB:is=qy C.P pr ops.toList ops.toList []
 hl:l=flags C.mp is 0 is ops.toList
 ok:CZ 0 is ops.toList=true
 hm:m<=ops.size
 w: ∀k,k<=m->lP (A k) (B k)
 st: ∀k p,k<m->l[k]? =some p->Step C (mw ops) pr ms p (B k) (ss k) (A (k+1)) (ss (k+1))
 e0:iY (A 0)
theorem Step.opF (h:Step C dst pr ms p E s E' s'):lO (mm p.2 E) pr ms p.1 E s E' s':=by
 cases h with
 |act _ hF _=>exact hF
 |skip _=>exact lO.V5 pr ms .un rfl λ_ _ _ _ h=>by cases h
section
variable {C:bx} {pr ms:al} {ops:Array Oper} {l:List (Oper×Md)} {is:List gk} {m:Nat} {A B:Nat->Env} {ss:Nat->St}
theorem Su.isLen (S:Su C pr ms ops l is m A B ss):is.length=ops.size:=by rw[S.yB,JP];simp
theorem Su.MU (S:Su C pr ms ops l is m A B ss):l.length=ops.size:=by rw[S.hl,JK _ _ _ _ (by rw[S.isLen];simp)];simp
structure OpT (C:bx) (pr:List Nat) (ops:Array Oper) (is:List gk) (k:Nat) (p:Oper×Md) (q:gk) (x:Nat):Prop where
 iq:is[k]? =some q
 op:ops[k]? =some p.1
 md:p.2= .d q.k x
 kc:q.k=uz pr ops.toList k q.bf (cls C.P pr ops.toList p.1)
 dst:q.dst=p.1.dst
 lk:q.lk=qu pr ops.toList p.1
 lt: ∀j,q.bf.testBit j=true->j<k
 gd: ∀j w,p.1.guard=some (j,w)->q.bf.testBit j=true
 on: ∀e∈p.1.after,Region.binds .any e=true->q.bf.testBit e.on=true
 ada: ∀j,q.bf.testBit j=true->∃e∈p.1.after,Region.binds .any e=true/\(j=e.on\/Ac is j e.on)
 zero:x=0->∀j q',is[j]? =some q'->k≠j->q'.bf.testBit k=true\/q.bf.testBit j=true\/(j<k/\B1 q'.k=true)
 two:q.k= .call->∀j q',is[j]? =some q'->k≠j->Fu q'.k=true->q'.bf.testBit k=true\/q.bf.testBit j=true\/2<=x
theorem Su.get (S:Su C pr ms ops l is m A B ss) (hp:l[k]? =some p): ∃q x,OpT C pr ops is k p q x:=by
 rw[S.hl]at hp;obtain⟨q,o,h1,h2,h3⟩:=Kx _ _ _ _ _ _ hp;rw[eW]at h3;have h1':=h1;rw[S.yB]at h1';obtain⟨o',g1,g2,g3,g4,g5⟩:=RQ _ _ _ _ _ _ _ h1';rw[h2]at g1;cases g1;obtain⟨k1,⟨o',k2,k3⟩,_⟩:=Kw S.ok k q h1;rw[h2]at k2;cases k2;rw[eW]at k1;have ax: ∀j,q.bf.testBit j=true->j<k:=by
  intro j hj;rcases jC j k with h|h
  .exact h
  .have:q.bf<2^j:=lj k1 (mX (by omega) h)
   rw[FT this]at hj;cases hj
 have bs: ∀f:ll->Bool,∀j q',is[j]? =some q'->k≠j->f q'.k=true->uW k q.bf f 0 is=false->q'.bf.testBit k=true\/q.bf.testBit j=true:=by
  intro f j q' hq dI hf hb;cases e1:q'.bf.testBit k with
  |true=>exact .inl rfl
  |false=>
   cases e2:q.bf.testBit j with
   |true=>exact .inr rfl
   |false=>rw[ZpY (i:=k) (bi:=q.bf) (f:=f) (j0:=0) hq (by omega) e1 (by rw[eW];exact e2) hf]at hb;cases hb
 have uY: ∀j q',is[j]? =some q'->k≠j->zQ k q.bf 0 is=false->q'.bf.testBit k=true\/q.bf.testBit j=true\/(j<k/\B1 q'.k=true):=by
  intro j q' hq dI hb;cases e1:q'.bf.testBit k with
  |true=>exact .inl rfl
  |false=>
   cases e2:q.bf.testBit j with
   |true=>exact .inr (.inl rfl)
   |false=>
    cases e3:(Nat.blt j k&&B1 q'.k)with
    |false=>rw[Zn3 (i:=k) (bi:=q.bf) (j0:=0) hq (by omega) e1 (by rw[eW];exact e2) (by rw[eW];exact e3)]at hb;cases hb
    |true=>
     rw[aW,pG]at e3;exact .inr (.inr e3)
 refine⟨q,_,h1,?_,by rw[h3],by rw[h3];simp_all,by rw[h3];exact g4,by rw[h3];exact g5,ax,by grind,λe he hb=>by rw[g2];exact ZwY (by rw[h3]at he;exact he) hb,λj hj=>?_,λhx j q' hq dI=>?_,λhc j q' hq dI hh=>?_⟩
 .rw[h3,<-kb];exact h2
 .rw[g2]at hj
  obtain⟨e,he,hb,hj⟩:=ZwA hj;rw[h3];refine⟨e,he,hb,hj.imp id λhj=>?_⟩;simp only[iL,dZ]at hj;have AH:((((is.take k).map λx:gk=>x.bf)[e.on]?).getD 0).testBit j=true:=by rw[S.yB];exact hj
  cases hx:((is.take k).map λx:gk=>x.bf)[e.on]? with
  |none=>rw[hx]at AH;simp at AH
  |some b=>
   rw[hx]at AH;rw[xN]at hx;cases hy:(is.take k)[e.on]? with
   |none=>rw[hy]at hx;cases hx
   |some q'=>
    rw[hy]at hx;simp only[me,fQ]at hx;rw[wa]at hy;split at hy
    .exact⟨q',hy,by rw[hx];exact AH⟩
    .cases hy
 .grind
 .cases hb:uW k q.bf Fu 0 is with
  |false=>grind
  |true=>
   cases cU:uW k q.bf (λ_=>true) 0 is with
   |false=>grind
   |true=>
    cases CF:VP C.mp o&& !zQ k q.bf 0 is with
    |true=>
     rw[aW,lL]at CF;rcases uY j q' hq dI CF.2 with h|h|⟨_,h⟩
     .exact .inl h
     .exact .inr (.inl h)
     .exfalso
      generalize q'.k=z at hh h;cases z<;>simp[Fu,B1]at hh h
    |false=>grind
theorem Su.F (S:Su C pr ms ops l is m A B ss) (hk:k<m) (hp:l[k]? =some p):lO (mm p.2 (B k)) pr ms p.1 (B k) (ss k) (A (k+1)) (ss (k+1)):=(S.st k p hk hp).opF
theorem Su.Ba (S:Su C pr ms ops l is m A B ss) (hk:k<m): ∃p,l[k]? =some p:=by
 have:=S.MU;have:=S.hm;exact⟨l[k]'(by omega),cg _⟩
theorem Su.tV (S:Su C pr ms ops l is m A B ss): ∀k,k<=m->iY (B k)
 |0,h=>S.e0.iB (S.w 0 h)
 |k+1,h=>by
  obtain⟨p,hp⟩:=S.Ba (k:=k) (by omega);exact((S.F (by omega) hp).gD (S.tV k (by omega))).iB (S.w (k+1) h)
theorem BJ (h:lP E E') (x:du):dQ E' s x↔dQ E s x:=by
 simp[dQ,h.bL]
theorem Su.aaN (S:Su C pr ms ops l is m A B ss) (hk:k<m) (hd:dQ (B k) (ss k) h):dQ (A (k+1)) (ss (k+1)) h:=by
 obtain⟨p,hp⟩:=S.Ba hk;have hF:=S.F hk hp;cases h with
 |inl i=>exact lj hd hF.len
 |inr v=>exact lj hd hF.bL
theorem Su.pX (S:Su C pr ms ops l is m A B ss) {h:du} {j:Nat} : ∀(d:Nat),j+d<=m->dQ (B j) (ss j) h->dQ (B (j+d)) (ss (j+d)) h
 |0,_,hd=>hd
 |d+1,hk,hd=>(BJ (S.w (j+d+1) hk) h).2 (S.aaN (k:=j+d) (by omega) (S.pX d (by omega) hd))
theorem Su.tT (S:Su C pr ms ops l is m A B ss) (uh:j<=k) (hk:k<=m) (hd:dQ (B j) (ss j) h):dQ (B k) (ss k) h:=by
 have:=S.pX (j:=j) (k-j) (by omega) hd;rwa [show j+(k-j)=k by omega]at this
def Wr (l:List (Oper×Md)) (B:Nat->Env) (i:Nat) (h:du):Prop:=∃p,l[i]? =some p/\mm p.2 (B i) h
theorem Su.back (S:Su C pr ms ops l is m A B ss) {h:du} {ab:AB} {j:Nat} : ∀(d:Nat),j+d<=m->(∀i,j<=i->i<j+d->¬Wr l B i h)->dQ (B j) (ss j) h->CR (B (j+d)) (ss (j+d)) h ab->CR (B j) (ss j) h ab
 |0,_,_,_,c=>c
 |d+1,hk,hw,hd,c=>by
  obtain⟨p,hp⟩:=S.Ba (k:=j+d) (by omega);rcases(S.F (by omega) hp).back h ab (c.iB (S.w _ hk))with x|x|x
  .exact absurd ⟨p,hp,x⟩ (hw (j+d) (by omega) (by omega))
  .exact absurd (S.pX d (by omega) hd) x.1
  .exact S.back d (by omega) (by grind) hd x
theorem Su.Lv (S:Su C pr ms ops l is m A B ss) (uh:j<=k) (hk:k<=m) (hw: ∀i,j<=i->i<k->¬Wr l B i h) (hd:dQ (B j) (ss j) h) (c:CR (B k) (ss k) h ab):CR (B j) (ss j) h ab:=by
 have:=S.back (j:=j) (ab:=ab) (k-j) (by omega) (by grind) hd;rw[show j+(k-j)=k by omega]at this;exact this c
theorem Su.fix (S:Su C pr ms ops l is m A B ss) {x:Nat} {j:Nat} : ∀(d:Nat),j+d<=m->(∀i,j<=i->i<j+d->¬Wr l B i (.inl x))->x<(ss j).length->(ss (j+d))[x]? =(ss j)[x]?
 |0,_,_,_=>rfl
 |d+1,hk,hw,hx=>by
  obtain⟨p,hp⟩:=S.Ba (k:=j+d) (by omega);have hd:x<(ss (j+d)).length:=S.pX (h:= .inl x) d (by omega) hx;have:=(S.F (by omega) hp).YO x (λhi=>hw (j+d) (by omega) (by omega) ⟨p,hp,hi⟩) hd;rw[show j+(d+1)=j+d+1 by omega,this,S.fix d (by omega) (by grind) hx]
theorem Su.bI (S:Su C pr ms ops l is m A B ss) {ψ:Ps} {x:Value} {t:Nat} {j:Nat} : ∀(d:Nat),j+d<=m->(∀i p,j<=i->i<j+d->l[i]? =some p->p.1.dst≠some t)->fp C ψ ((B j).get t) x->fp C ψ ((B (j+d)).get t) x
 |0,_,_,r=>r
 |d+1,hk,hw,r=>by
  obtain⟨p,hp⟩:=S.Ba (k:=j+d) (by omega);have:=(S.F (by omega) hp).bI t (by grind) C ψ x (S.bI d (by omega) (by grind) r);rcases(S.w _ hk).get t with e|e
  .rw[e];exact this
  .rw[e];trivial
theorem Su.val (S:Su C pr ms ops l is m A B ss) {t j:Nat} {x:DV} : ∀(d:Nat),j+d<=m->(∀i p,j<=i->i<j+d->l[i]? =some p->p.1.dst≠some t)->(B (j+d)).get t= .v x->(B j).get t= .v x
 |0,_,_,e=>e
 |d+1,hk,hw,e=>by
  obtain⟨p,hp⟩:=S.Ba (k:=j+d) (by omega);refine S.val d (by omega) (by grind) ((S.F (by omega) hp).val t x (by grind) ?_);rcases(S.w _ hk).get t with e'|e'
  .exact e'.symm.trans e
  grind
theorem ZqA (h:lP E E') {v:Nat} (e:(E'.get t).cS=some v):(E.get t).cS=some v:=by
 rcases h.get t with e'|e'
 .rw[<-e'];exact e
 .rw[e']at e;cases e
theorem lO.cS {W:du->Prop} {o:Oper} {E E':Env} {s s':St} (hF:lO W pr ms o E s E' s') {t v:Nat} (e:(E'.get t).cS=some v):(E.get t).cS=some v\/(E.bL<=v/\o.dst=some t):=by
 cases he:E'.get t with
 |loc v' n cs=>
  rw[he]at e;simp only[ez.cS,fQ]at e;subst e;exact(hF.vX t _ n cs he).imp (λ⟨c,h⟩=>by rw[h];rfl) id
 |it v' s p=>
  rw[he]at e;simp only[ez.cS,fQ]at e;subst e;exact(hF.xL t _ s p he).imp (λ⟨c,h⟩=>by rw[h];rfl) id
 |_=>rw[he]at e;cases e
theorem Su.cS (S:Su C pr ms ops l is m A B ss) {t v j:Nat} : ∀(d:Nat),j+d<=m->v<(B j).bL->((B (j+d)).get t).cS=some v->((B j).get t).cS=some v
 |0,_,_,e=>e
 |d+1,hk,hv,e=>by
  obtain⟨p,hp⟩:=S.Ba (k:=j+d) (by omega);have hd:v<(B (j+d)).bL:=S.pX (h:= .inr v) d (by omega) hv;rcases(S.F (by omega) hp).cS (ZqA (S.w _ hk) e)with h|h
  .exact S.cS d (by omega) hv h
  .omega
theorem Su.Y0 (S:Su C pr ms ops l is m A B ss) {v:Nat} (uh:j<=k) (hk:k<=m) (hv:v<(B j).bL) (e:((B k).get t).cS=some v):((B j).get t).cS=some v:=
 S.cS (j:=j) (k-j) (by omega) hv (by rwa [show j+(k-j)=k by omega])
end
theorem Ztq (k k':ll):yk k k'=yk k' k:=by
 cases k<;>cases k'<;>simp only[yk]<;>(rw[lg];grind[Nat.beq_eq])
theorem ZrX {k:ll} (h:Td k k'=false):yk k k'=false:=by
 cases k<;>cases k'<;>first|exact h|cases h
theorem ZrZ {k:ll} {x:Nat} (c:yk k k'=false) (h2:k= .call->Fu k'=true->2<=x) (hv: ∀r q v,(E.get r).cS=some v->(E'.get q).cS=some v->r=q)
  (hb: ∀bs b,k= .ap bs->k'= .lp b->b∈bs->∀j p,E.get b= .v (.ptr (some (j,p)))->E'.get b= .v (.ptr (some (j,p)))):
  ∀h,mm (.d k x) E h->¬oE (.d k' x') E' h:=by
 intro h hw hd;cases k<;>cases k'<;>first
  |exact hw.elim
  |exact hd.elim
  |(simp[yk]at c;done)
  |(have h3:=h2 rfl rfl;have h4:=hw.1;omega)
  |(obtain⟨i,rfl⟩:=hw;obtain⟨v,e,_⟩:=hd;cases e;done)
  |(obtain⟨_,i,rfl⟩:=hw;obtain⟨v,e,_⟩:=hd;cases e;done)
  |(obtain⟨v,rfl,_⟩:=hw;obtain⟨i,e⟩:=hd;cases e;done)
  |(obtain⟨v,rfl,_⟩:=hw;obtain⟨i,p,_,e⟩:=hd;cases e;done)
  |(obtain⟨i,rfl,_⟩:=hw;obtain⟨v,e,_⟩:=hd;cases e;done)
  |(obtain⟨v,rfl,e1⟩:=hw
    obtain⟨v',e,e2⟩:=hd;cases e;have:=hv _ _ _ e1 e2;subst this;simp[yk]at c)
  |(rename_i bs b
    obtain⟨i,rfl,hw⟩:=hw;obtain⟨i',p',e1,e2⟩:=hd;cases e2;have jc:b∈bs:=by
     have:has bs b=true:=by simpa [yk]using c
     exact(G9 _ _).1 this
    grind)
theorem Zvs {ops:List Oper} (h:sf o):cls P pr ops o= .hp\/cls P pr ops o= .call\/cls P pr ops o= .ap []:=by
 unfold sf at h;cases ho:o.op<;>rw[ho]at h<;>simp only at h
 case call q=>
  split at h
  .rename_i hq
   cases hp:has pr 1000000 with
   |true=>simp[cls,ho,hq,hp]
   |false=>simp[cls,ho,hq,hp]
  .rename_i hq;simp[cls,ho,hq]
  .exact h.elim
 all_goals exact .inl (by simp[cls,ho])
theorem Ztn {ops:List Oper} (h:sf o) (k m:Nat):uz pr ops k m (cls P pr ops o)= .hp\/uz pr ops k m (cls P pr ops o)= .call\/∃bs,uz pr ops k m (cls P pr ops o)= .ap bs:=by
 rcases Zvs (P:=P) (pr:=pr) (ops:=ops) h with e|e|e<;>rw[e]
 .exact .inl rfl
 .exact .inr (.inl rfl)
 .exact .inr (.inr ⟨_,rfl⟩)
theorem Zth {k:ll} {x:Nat} (h:k= .hp\/k= .call\/∃bs,k= .ap bs) (i:Nat):oE (.d k x) E (.inl i):=by
 rcases h with rfl|rfl|⟨bs,rfl⟩<;>exact⟨i,rfl⟩
theorem ZvX {ops:List Oper} {b:Nat} {c:ll} (h:uz pr ops k m c= .lp b):c= .lp b:=by
 cases c<;>first|exact h|cases h
theorem ZuL {ops:List Oper} {b:Nat} {c:ll} (h:uz pr ops k m c= .oy b):c= .oy b:=by
 cases c<;>first|exact h|cases h
theorem Zv7 {ops:List Oper} {c:ll} {bs:al} (h:uz pr ops k m c= .ap bs):bs=(Hk m 0 (ops.take k)).filter λb=>IG b (ops.take k)&&(rS pr ops 12 b).isNone:=by
 cases c<;>cases h
 rfl
theorem Zx4 {ops:List Oper} {b:Nat} (h:cls P pr ops o= .lp b):xz b o=true:=by
 unfold xz;cases ho:o.op with
 |load t a=>
  cases a with
  |tmp a=>
   cases hr:rS pr ops 12 a with
   |none=>simp[cls,ho,hr]at h;simp[h]
   |some q=>simp[cls,ho,hr]at h
  |_=>simp[cls,ho]at h
 |store t a y=>
  cases a with
  |tmp a=>cases hr:rS pr ops 12 a<;>simp[cls,ho,hr]at h
  |_=>simp[cls,ho]at h
 |next it b=>cases it<;>simp[cls,ho]at h
 |slice t y lo hi mx=>
  simp only[cls,ho]at h;split at h<;>simp at h
 |call q=>
  cases hp:has pr 1000000<;>simp only[cls,ho,hp,ae,af]at h<;>split at h<;>simp at h
 |_=>simp[cls,ho]at h
theorem Zpi {b:Nat} : ∀ {L:List Oper},IG b L=true->∀(i j:Nat) (o o':Oper),L[i]? =some o->xz b o=true->i<=j->L[j]? =some o'->o'.dst≠some b
 |[],_,i,j,o,o',h,_,_,_=>by simp at h
 |x::r,h,i,j,o,o',hi,hl,oU,hj=>by
  unfold IG at h;cases hx:xz b x with
  |true=>
   rw[hx]at h;simp only[ae]at h;have:=uF.1 h o' (qJ hj);intro e;rw[e]at this;simp at this
  |false=>
   rw[hx]at h;simp only[af]at h;cases i with
   |zero=>
    grind
   |succ i=>
    obtain⟨j,rfl⟩: ∃j',j=j'+1:=⟨j-1,by omega⟩;exact Zpi h i j o o' (by simpa using hi) hl (by omega) (by simpa using hj)
section
variable {C:bx} {pr ms:al} {ops:Array Oper} {l:List (Oper×Md)} {is:List gk} {m:Nat} {A B:Nat->Env} {ss:Nat->St}
abbrev Dv (A B:Nat->Env) (ss:Nat->St) (i:Nat) (h:du):Prop:=wj (B i) (ss i) (A (i+1)) (ss (i+1)) h
structure Js (pr ms:List Nat) (ops:Array Oper) (l:List (Oper×Md)) (A B:Nat->Env) (ss:Nat->St) (i k:Nat) (p p':Oper×Md):Prop where
 d1: ∀t,p.1.dst=some t->(qu pr ops.toList p'.1).testBit t=false
 d2: ∀t,p'.1.dst=some t->(qu pr ops.toList p.1).testBit t=false
 d3: ∀t,p.1.dst=some t->p'.1.dst≠some t
 w1: ∀h,mm p.2 (B i) h->¬oE p'.2 (B k) h
 w2: ∀h,mm p'.2 (B k) h->¬oE p.2 (B i) h
 n1: ∀h,Dv A B ss i h->¬mm p'.2 (B k) h
 n2: ∀h,Dv A B ss k h->¬mm p.2 (B i) h
theorem Su.W8 (S:Su C pr ms ops l is m A B ss) (EV:i<k) (hk:k<m) (hp:l[i]? =some p) (fw:l[k]? =some p') (hn: ¬Ac is i k):Js pr ms ops l A B ss i k p p':=by
 obtain⟨q,x,T⟩:=S.get hp;obtain⟨q',x',T'⟩:=S.get fw;have w4:Nx q q':=by
  obtain⟨_,_,h⟩:=Kw S.ok i q T.iq;rcases h k q' EV T'.iq with h|h
  .rw[eW]at h;exact absurd ⟨q',T'.iq,h⟩ hn
  .exact h
 obtain⟨ct,e1,e2,e3⟩:=w4;have c:=ZrX ct;rw[T.dst,T'.lk]at e1;rw[T'.dst,T.lk]at e2;rw[T.dst,T'.dst]at e3;have hv: ∀r t v,((B i).get r).cS=some v->((B k).get t).cS=some v->r=t:=λr t v h1 h2=>
  (S.tV i (by omega)).uniq r t v h1 (S.Y0 (by omega) (by omega) ((S.tV i (by omega)).lt r v h1) h2)
 have w1: ∀h,mm p.2 (B i) h->¬oE p'.2 (B k) h:=by
  rw[T.md,T'.md];refine ZrZ c (λh1 h2=>?_) hv (λbs b h1 h2=>by rw[h1,h2]at ct;cases ct);rcases T.two h1 k q' T'.iq (by omega) h2 with h|h|h
  .exact absurd ⟨q',T'.iq,h⟩ hn
  .have:=T.lt k h;omega
  .exact h
 have w2: ∀h,mm p'.2 (B k) h->¬oE p.2 (B i) h:=by
  rw[T.md,T'.md];refine ZrZ (by rw[Ztq];exact c) (λh1 h2=>?_) (by grind) (λbs b h1 h2 jc j pp hg=>?_);rotate_left
  .have w9:=Zv7 (T'.kc.symm.trans h1)
   rw[w9,List.mem_filter]at jc;have sW:xz b p.1=true:=Zx4 (ZvX (T.kc.symm.trans h2));have eC:ops.toList[i]? =some p.1:=by rw[kb];exact T.op
   refine S.val (j:=i) (k-i) (by omega) (λi' Fw g1 g2 g3=>?_) (by rw[show i+(k-i)=k by omega];exact hg);obtain⟨q'',x'',T''⟩:=S.get g3;have aen:ops.toList[i']? =some Fw.1:=by rw[kb];exact T''.op
   exact Zpi (Bool.and_eq_true_iff.1 jc.2).1 i i' p.1 Fw.1 (by rw[wa,bG (by omega)];exact eC) sW g1 (by rw[wa,bG (by omega)];exact aen)
  rcases T'.two h1 i q T.iq (by omega) h2 with h|h|h
  .have:=T.lt k h;omega
  .exact absurd ⟨q',T'.iq,h⟩ hn
  .exact h
 have d1: ∀t,p.1.dst=some t->(qu pr ops.toList p'.1).testBit t=false:=λt h=>by rw[h]at e1;exact e1
 refine⟨d1,λt h=>by rw[h]at e2;exact e2,λt h h'=>?_,w1,w2,λh iS hw=>?_,λh iS hw=>?_⟩
 .rw[h,h']at e3
  grind[TJ,Dl]
 .cases h with
  |inl y=>
   have hF:=S.F (by omega) hp;rcases hF.grow with hg|hg
   .have h1:=iS.1;have h2:=iS.2
    grind[dQ]
   .refine w2 _ hw ?_
    rw[T.md,T.kc];exact Zth (Ztn hg _ _) y
  |inr v=>
   rw[T'.md]at hw;cases hq:q'.k<;>rw[hq]at hw<;>first|exact hw.elim|skip
   .obtain⟨y,e⟩:=hw;cases e
   .obtain⟨_,y,e⟩:=hw;cases e
   .rename_i r
    obtain⟨v',e,eD⟩:=hw;cases e;have ax:v<(B (i+1)).bL:=by rw[(S.w (i+1) (by omega)).bL];exact iS.2
    have h1:=ZqA (S.w (i+1) (by omega)) (S.Y0 (by omega) (by omega) ax eD);rcases(S.F (by omega) hp).cS h1 with h2|⟨_,h2⟩
    .exact iS.1 ((S.tV i (by omega)).lt r v h2)
    .have h3:=d1 r h2
     have h4:=Zvz (P:=C.P) (pr:=pr) (ops:=ops.toList) (o:=p'.1) (r:=r) (.inr (ZuL (T'.kc.symm.trans hq)));rw[h3]at h4;cases h4
   .obtain⟨y,e,_⟩:=hw;cases e
 .cases h with
  |inl y=>
   have hF:=S.F hk fw;rcases hF.grow with hg|hg
   .have h1:=iS.1;have h2:=iS.2
    grind[dQ]
   .refine w1 _ hw ?_
    rw[T'.md,T'.kc];exact Zth (Ztn hg _ _) y
  |inr v=>
   rw[T.md]at hw;cases hq:q.k<;>rw[hq]at hw<;>first|exact hw.elim|skip
   .obtain⟨y,e⟩:=hw;cases e
   .obtain⟨_,y,e⟩:=hw;cases e
   .rename_i r
    obtain⟨v',e,eD⟩:=hw;cases e;have:dQ (B i) (ss i) (.inr v):=(S.tV i (by omega)).lt r v eD;exact iS.1 (S.tT (by omega) (by omega) this)
   .obtain⟨y,e,_⟩:=hw;cases e
theorem ZnX {a:Act} (R: ∀j w r,o.guard=some (j,w)->mw ops j=some r->fp C ψ (E.get r) (a.tmps.getD r undef)) (h:GW (mw ops) E o):Region.wanted o (yielded ops a.tmps)=true:=by
 unfold Region.wanted;rcases h with h|⟨j,w,r,h1,h2,h3⟩
 .rw[h]
 .have hr:=R j w r h1 h2
  rw[h1];rw[KJ]at h2;rw[h3]at hr;have:a.tmps.getD r undef= .bool w:=by generalize a.tmps.getD r undef=x at hr;cases hr;rfl
  simp[yielded,h2,KC a r w this]
theorem Zrz {a:Act} (R: ∀j w r,o.guard=some (j,w)->mw ops j=some r->fp C ψ (E.get r) (a.tmps.getD r undef)) (h:GU (mw ops) E o):Region.wanted o (yielded ops a.tmps)=false:=by
 unfold Region.wanted;obtain⟨j,w,r,h1,h2,h3⟩:=h;have hr:=R j w r h1 h2;rw[h1];rw[KJ]at h2;rcases h3 with⟨b,h3,hb⟩|h3
 .rw[h3]at hr
  have:a.tmps.getD r undef= .bool b:=by generalize a.tmps.getD r undef=x at hr;cases hr;rfl
  simp[yielded,h2,KC a r b this,hb]
 .rw[h3]at hr
  have hr:a.tmps.getD r undef=undef:=hr;have:a.tmps[r]? =none\/a.tmps[r]? =some undef:=by
   rw[qG]at hr;grind
  have hy:yielded ops a.tmps j=none:=by
   unfold yielded;rw[h2];rcases this with e|e<;>simp[e,undef]
  simp[hy]
theorem ZuJ (st:Step C (mw ops) pr ms p E s E' s') {a:Act} (pre:aC C p.1 (oE p.2 E) E s ψ Q a w) (room:Jz E s E' s' ψ)
  (hg: ∀j w r,p.1.guard=some (j,w)->mw ops j=some r->fp C ψ (E.get r) (a.tmps.getD r undef)) (hi:ops[i]? =some p.1) {K:Act->World->Prop}
  (h: ∀ψ' Q' v w',Jw C (oE p.2 E) (mm p.2 E) E s E' s' ψ Q w ψ' Q' w'->(∀d,p.1.dst=some d->fp C ψ' (E'.get d) v)->K (a.put p.1.dst v) w'):wpOp C.P ops QQ i K a w:=by
 unfold wpOp;simp only[hi];cases st with
 |act g hF hO=>
  rw[bG (ZnX hg g)];exact .inl (hO ψ Q a w K QQ pre room h)
 |skip g=>
  rw[ba (by rw[Zrz hg g];simp)];refine h ψ Q undef w ⟨pre.eG,.refl _ _ _,λh cb e=> .inl e,λh ab cb c hw e=>?_,λh ab cb e q _ _=>q⟩ λd hd=>?_
  .rcases hw with hw|⟨n1,n2⟩
   .exact pre.jz h ab cb (K1 _ _ _ hw) (c.eR rfl) e
   .exact absurd (by cases h<;>simpa [dQ]using n2) n1
  .rw[Env.jU,bG hd];rfl
structure Inv (C:bx) (f:Fr) (l:List (Oper×Md)) (is:List gk) (m:Nat) (A B:Nat->Env) (ss:Nat->St) (ψi:Ps) (L:Nat->Prop) (a:Act) (w:World) (ψ:Ps) (Q:Kn):Prop where
 eG:eX C ψ Q w
 gm:qM ψ w
 ku:Glob C ψ
 jA: ∀t j,j<=m->(∀i p,i<j->l[i]? =some p->¬L i->p.1.dst≠some t)->(∀i p,j<=i->l[i]? =some p->L i->p.1.dst≠some t)->fp C ψ ((B j).get t) (a.tmps.getD t undef)
 jz: ∀h j ab cb,j<=m->(∀i,i<j->¬L i->¬Wr l B i h)->(∀i,j<=i->L i->¬Wr l B i h)->CR (B j) (ss j) h ab->ψ h=some cb->Q h ab
 free: ∀i h,i<m->¬L i->Dv A B ss i h->ψ h=none
 news: ∀h cb,ψ h=some cb->ψi h=some cb\/(¬dQ (B 0) (ss 0) h/\dQ (B m) (ss m) h)
 ext:Ext f.ik (CS f.s0) f.w0 ψ Q w
 mQ:Ks f a
 defs:a.defers=f.TI
 sub: ∀i,L i->i<m
 down: ∀i k,L k->Ac is i k->L i
theorem Zx5 (hE:iY E) (c:CR E s h ab) (c':CR E s h cN):ab=cN:=by
 cases h with
 |inl i=>
  have h1:c8 s i=some ab:=c;have h2:c8 s i=some cN:=c';rw[h1]at h2;grind
 |inr v=>
  rcases c with⟨t,n,cs,e,rfl⟩|⟨t,l,p,e,rfl⟩<;>rcases c' with⟨t',n',cs',e',rfl⟩|⟨t',l',p',e',rfl⟩<;>
   (have:=hE.uniq t t' v (by rw[e];rfl) (by rw[e'];rfl);subst this;rw[e]at e';cases e';try rfl)
theorem Su.born (S:Su C pr ms ops l is m A B ss) {h:du} {j:Nat} : ∀(d:Nat),j+d<=m->¬dQ (B j) (ss j) h->dQ (B (j+d)) (ss (j+d)) h->∃k,j<=k/\k<j+d/\Dv A B ss k h
 |0,_,hn,hd=>absurd hd hn
 |d+1,hk,hn,hd=>by
  have oe:dQ (A (j+d+1)) (ss (j+d+1)) h:=(BJ (S.w _ hk) h).1 hd;by_cases e:dQ (B (j+d)) (ss (j+d)) h
  .obtain⟨k,h1,h2,h3⟩:=S.born d (by omega) hn e
   grind
  .exact⟨j+d,by omega,by omega,e,oe⟩
theorem ZxZ {v:Nat} (h:(E.get t).cS=some v): ∃ab,CR E s (.inr v) ab:=by
 cases he:E.get t with
 |loc v' n cs=>
  rw[he]at h;simp only[ez.cS,fQ]at h;subst h;exact⟨_,.inl ⟨t,n,cs,he,rfl⟩⟩
 |it v' x p=>
  rw[he]at h;simp only[ez.cS,fQ]at h;subst h;exact⟨_,.inr ⟨t,x,p,he,rfl⟩⟩
 |_=>rw[he]at h;cases h
variable {f:Fr} {ψi:Ps} {L:Nat->Prop} {a:Act} {w:World} {ψ:Ps} {Q:Kn}
theorem Inv.pre (S:Su C pr ms ops l is m A B ss) (I:Inv C f l is m A B ss ψi L a w ψ Q) (hi:i<=m) (_hp:l[i]? =some p) (hL: ¬L i) (agt: ∀j,Ac is j i->L j)
  (gY: ∀k p',k<i->l[k]? =some p'->¬L k->(∀t,p'.1.dst=some t->(qu pr ops.toList p.1).testBit t=false)/\∀h,mm p'.2 (B k) h->¬oE p.2 (B i) h) (jt: ∀k p',i<k->l[k]? =some p'->L k->Js pr ms ops l A B ss i k p p'):
  aC C p.1 (oE p.2 (B i)) (B i) (ss i) ψ Q a w/\∀j w r,p.1.guard=some (j,w)->mw ops j=some r->fp C ψ ((B i).get r) (a.tmps.getD r undef):=by
 have jA: ∀t,(qu pr ops.toList p.1).testBit t=true->fp C ψ ((B i).get t) (a.tmps.getD t undef):=by
  intro t ht;refine I.jA t i hi (λk p' hk fw hl e=>?_) (λk p' hk fw hl e=>?_)
  .have:=(gY k p' hk fw hl).1 t e
   rw[ht]at this;cases this
  .rcases Nat.eq_or_lt_of_le hk with h|h
   .subst h;exact hL hl
   .have:=(jt k p' h fw hl).d2 t e
    rw[ht]at this;cases this
 refine⟨⟨I.eG,I.gm,I.ku,S.tV i hi,λh ab cb hD c e=>I.jz h i ab cb hi (λk hk hl=>?_) (λk hk hl=>?_) c e,λt ht=>jA t (ZpK ht)⟩,λj w r hg hr=>jA r ?_⟩
 .rintro⟨p',fw,hw⟩
  grind
 .rintro⟨p',fw,hw⟩
  rcases Nat.eq_or_lt_of_le hk with e|e
  .subst e;exact hL hl
  .exact(jt k p' e fw hl).w2 h hw hD
 .unfold mw at hr
  split at hr
  .rename_i o ho;exact Zuf hg ho hr
  .cases hr
theorem Inv.step (S:Su C pr ms ops l is m A B ss) (I:Inv C f l is m A B ss ψi L a w ψ Q) (hi:i<m) (hp:l[i]? =some p) (hL: ¬L i) (CE: ∀j,Ac is j i->L j)
  (hd: ∀x,p.1.dst=some x->f.ok x=true) {K:Act->World->Prop}
  (h: ∀a' w' ψ' Q',Inv C f l is m A B ss ψi (λj=>L j\/j=i) a' w' ψ' Q'->K a' w'):wpOp C.P ops QQ i K a w:=by
 have gY: ∀k p',k<i->l[k]? =some p'->¬L k->Js pr ms ops l A B ss k i p' p:=λk p' hk fw hl=>S.W8 hk hi fw hp λhb=>hl (CE k hb)
 have jt: ∀k p',i<k->l[k]? =some p'->L k->Js pr ms ops l A B ss i k p p':=λk p' hk fw hl=>S.W8 hk (I.sub k hl) hp fw λhb=>hL (I.down i k hl hb)
 obtain⟨pre,hg⟩:=I.pre S (Nat.le_of_lt hi) hp hL CE (λk p' hk fw hl=>⟨(gY k p' hk fw hl).d1,(gY k p' hk fw hl).w1⟩) jt;obtain⟨q,x,T⟩:=S.get hp;refine ZuJ (S.st i p hi hp) pre (λk hk=>I.free i k hi hL hk) hg T.op λψ' Q' v w' P he=>h _ _ ψ' Q' ?_
 have adH: ∀k h,k<m->¬(L k\/k=i)->Dv A B ss k h->ψ' h=none:=by
  intro k h hk hl iS;cases e:ψ' h with
  |none=>rfl
  |some cb=>
   rcases P.news h cb e with e|e
   .rw[I.free k h hk (λx=>hl (.inl x)) iS]at e;cases e
   .rcases Nat.lt_trichotomy i k with EV|EV|EV
    .exact absurd (S.tT (j:=i+1) (by omega) (by omega) ((BJ (S.w (i+1) (by omega)) h).2 e.2)) iS.1
    .omega
    .exact absurd (S.tT (j:=k+1) (by omega) (by omega) ((BJ (S.w (k+1) (by omega)) h).2 iS.2)) e.1
 refine⟨P.eG,P.ext.gm I.gm,P.ext.ku I.ku,λt j hj c1 c2=>?_,λh j ab cb hj c1 c2 c e=>?_,adH,λh cb e=>?_,I.ext.trans P.ext,I.mQ.put hd,by rw[Ka];exact I.defs,λk hk=>?_,λj k hk hb=>?_⟩
 .rw[G3 λx hx=>by rw[I.mQ.1];exact f.IQ x (hd x hx)]
  by_cases EM:p.1.dst=some t
  .rw[bG EM]
   have oU:i<j:=by
    grind
   have h1:fp C ψ' ((B (i+1)).get t) v:=by
    rcases(S.w (i+1) (by omega)).get t with e|e
    .rw[e];exact he t EM
    .rw[e];trivial
   have:=S.bI (j:=i+1) (ψ:=ψ') (x:=v) (t:=t) (j-(i+1)) (by omega) (λk p' h1 h2 fw=>?_) h1
   .rwa [show i+1+(j-(i+1))=j by omega]at this
   .by_cases hl:L k
    .exact(jt k p' (by omega) fw hl).d3 t EM
    grind
  .rw[ba EM]
   refine(I.jA t j hj (λk p' hk fw hl=>?_) (by grind)).mono P.ext.mono;by_cases e:k=i
   .grind
   grind
 .by_cases hw:mm p.2 (B i) h\/Dv A B ss i h
  .have oU:i<j:=by
    rcases jC i j with h'|h'
    .exact h'
    .rcases hw with hw|hw
     .exact absurd ⟨p,hp,hw⟩ (c2 i h' (.inr rfl))
     .exact absurd (S.tT h' (by omega) (c.pX (S.tV j hj))) hw.1
   have gM: ∀k,i+1<=k->k<j->¬Wr l B k h:=by
    rintro k h1 h2 ⟨p',fw,vG⟩;by_cases hl:L k
    .rcases hw with hw|hw
     .exact(jt k p' (by omega) fw hl).w2 h vG (K1 _ _ _ hw)
     .exact(jt k p' (by omega) fw hl).n1 h hw vG
    .exact c1 k (by omega) (by grind) ⟨p',fw,vG⟩
   have adz:dQ (B (i+1)) (ss (i+1)) h:=by
    rcases hw with hw|hw
    .by_cases e0:dQ (B (i+1)) (ss (i+1)) h
     .exact e0
     .obtain⟨k,k1,k2,k3⟩:=S.born (j:=i+1) (j-(i+1)) (by omega) e0 (by rw[show i+1+(j-(i+1))=j by omega];exact c.pX (S.tV j hj))
      obtain⟨p',fw⟩:=S.Ba (k:=k) (by omega);by_cases hl:L k
      .exact absurd hw ((jt k p' (by omega) fw hl).n2 h k3)
      grind
    .exact(BJ (S.w (i+1) (by omega)) h).2 hw.2
   exact P.p1 h ab cb ((S.Lv (by omega) hj gM adz c).iB (S.w (i+1) (by omega))) hw e
  .have e0:ψ h=some cb:=by
    rcases P.news h cb e with e|e
    .exact e
    grind
   have aee: ¬Wr l B i h:=by
    rintro⟨p',fw,vG⟩;rw[hp]at fw;grind
   have hQ:=I.jz h j ab cb hj (λk hk hl=>by
    by_cases e:k=i
    .subst e;exact aee
    grind) (by grind) c e0
   refine P.p2 h ab cb e0 hQ (λx=>hw (.inl x)) λhD adi=>?_
   rcases jC j i with kz|kz
   .have gM: ∀k,j<=k->k<i->¬Wr l B k h:=by
     rintro k h1 h2 ⟨p',fw,vG⟩;by_cases hl:L k
     .exact c2 k h1 (.inl hl) ⟨p',fw,vG⟩
     .exact(gY k p' h2 fw hl).w1 h vG hD
    cases h with
    |inl y=>
     have c':c8 (ss j) y=some ab:=c;have:=S.fix (x:=y) (j:=j) (i-j) (by omega) (by grind) (BR c');rw[show j+(i-j)=i by omega]at this;show c8 (ss i) y=some ab;grind[c8]
    |inr v=>
     have xq: ∃r,((B i).get r).cS=some v:=by
      rw[T.md]at hD;cases hq:q.k<;>rw[hq]at hD<;>first|exact hD.elim|(obtain⟨y,e⟩:=hD;cases e;done)|(obtain⟨y,p',_,e⟩:=hD;cases e;done)|(obtain⟨v',e,hv⟩:=hD;grind)
     obtain⟨r,hr⟩:=xq;obtain⟨cN,c'⟩:=ZxZ (s:=ss i) hr;have c2':=S.Lv (Nat.le_of_lt kz) (Nat.le_of_lt hi) gM (c.pX (S.tV j hj)) c';rw[Zx5 (S.tV j hj) c c2'];exact c'
   .refine S.Lv kz hj (λk h1 h2=>?_) adi c
    rintro⟨p',fw,vG⟩;rcases Nat.eq_or_lt_of_le h1 with e|e
    .grind
    .by_cases hl:L k
     .exact(jt k p' e fw hl).w2 h vG hD
     .exact c1 k h2 (by grind) ⟨p',fw,vG⟩
 .rcases P.news h cb e with e|e
  .exact I.news h cb e
  .exact .inr ⟨λx=>e.1 (S.tT (cE _) (by omega) x),S.tT (j:=i+1) (by omega) (aO _) ((BJ (S.w (i+1) (by omega)) h).2 e.2)⟩
 .rcases hk with hk|hk
  .exact I.sub k hk
  .omega
 .rcases hk with hk|hk
  .exact .inl (I.down j k hk hb)
  grind
end
theorem Ztd: ∀(l:List Bool) (i:Nat),l[i]? =some false->(l.set i true).count false+1=l.count false
 |[],i,h=>by simp at h
 |b::l,0,h=>by
  grind
 |b::l,i+1,h=>by
  grind
def ml (listed:Array Bool) (i:Nat):Prop:=listed[i]? =some true
theorem Zw9 (hi:i<listed.size) (j:Nat):ml (listed.setIfInBounds i true) j↔ml listed j\/j=i:=by
 grind[ml]
theorem SQ (hi:i<listed.size) (h: ¬ml listed i):listed[i]? =some false:=by
 simp_all[ml]
theorem ZpE (h:i∈Region.ready .any ops listed):i<ops.size/\¬ml listed i/\∀o,ops[i]? =some o->∀e∈o.after,Region.binds .any e=true->ml listed e.on:=by
 unfold Region.ready at h;obtain⟨h1,h2⟩:=List.mem_filter.1 h;rw[Di]at h1;simp only[aW,lL]at h2;refine⟨h1,λhl=>?_,λo ho e he hb=>?_⟩
 .simp_all[ml]
 .have h3:=h2.2
  rw[ho]at h3;simp only[me,Option.getD_some]at h3;rw[Array.all_eq_true']at h3;have:=h3 e he;rw[hb]at this;simp only[bp,zd]at this;unfold ml;rw[qG]at this;grind
theorem ZuP (ho:ops[i]? =some o) (hl:listed[i]? =some false) (h: ∀e∈o.after,Region.binds .any e=true->ml listed e.on):i∈Region.ready .any ops listed:=by
 unfold Region.ready;refine List.mem_filter.2 ⟨(by grind),?_⟩;simp only[aW,lL];refine⟨by rw[qG,hl];rfl,?_⟩;rw[ho];simp only[me,Option.getD_some];rw[Array.all_eq_true'];intro e he;cases hb:Region.binds .any e with
 |false=>rfl
 |true=>
  simp_all[ml]
section
variable {C:bx} {pr ms:al} {ops:Array Oper} {l:List (Oper×Md)} {is:List gk} {m:Nat} {A B:Nat->Env} {ss:Nat->St}
variable {f:Fr} {ψi:Ps} {L:Nat->Prop} {a:Act} {w:World} {ψ:Ps} {Q:Kn}
theorem Su.YL (S:Su C pr ms ops l is m A B ss) {listed:Array Bool} (cw:listed.size=ops.size): ∀(n i:Nat),i<n->i<ops.size->¬ml listed i->Region.ready .any ops listed≠[]
 |0,i,h,_,_=>absurd h (Nat.not_lt_zero i)
 |n+1,i,hn,hi,hl=>by
  have hp:l[i]? =some (l[i]'(by rw[S.MU];exact hi)):=cg _;obtain⟨q,x,T⟩:=S.get hp;by_cases h: ∀e∈(l[i]'(by rw[S.MU];exact hi)).1.after,Region.binds .any e=true->ml listed e.on
  .intro e
   have:=ZuP T.op (SQ (by omega) hl) h;rw[e]at this;cases this
  .simp only[Classical.not_forall]at h
   obtain⟨e,he,hb,hle⟩:=h;have:=T.lt _ (T.on e he hb);exact S.YL cw n e.on (by omega) (by omega) hle
theorem Inv.congr (I:Inv C f l is m A B ss ψi L a w ψ Q) (h: ∀i,L i↔L' i):Inv C f l is m A B ss ψi L' a w ψ Q:=by
 have:L=L':=funext λi=>propext (h i)
 rw[<-this];exact I
theorem Zr0 (S:Su C pr ms ops l is m A B ss) (hd: ∀p∈l,∀x,p.1.dst=some x->f.ok x=true)
  (qt:Nat->Prop) (bar:m<ops.size->(∀k,m<k->k<ops.size->Ac is m k)/\∀i,i<m->Ac is i m\/qt i)
  (fin:m=ops.size->∀a w ψ Q L,(∀i,i<m->L i)->Inv C f l is m A B ss ψi L a w ψ Q->QQ .normal a w)
  (eV:m<ops.size->∀K a w ψ Q L,(∀i,i<m->L i\/qt i)->Inv C f l is m A B ss ψi L a w ψ Q->wpOp C.P ops QQ m K a w):
  ∀(n:Nat) (listed:Array Bool) (a:Act) (w:World) (ψ:Ps) (Q:Kn),listed.size=ops.size->listed.toList.count false<=n->Inv C f l is m A B ss ψi (ml listed) a w ψ Q->wpAny C.P .any ops QQ n listed a w:=by
 have all: ∀(listed:Array Bool) (a:Act) (w:World) (ψ:Ps) (Q:Kn),listed.size=ops.size->Region.ready .any ops listed=[]->Inv C f l is m A B ss ψi (ml listed) a w ψ Q->QQ .normal a w:=by
  intro listed a w ψ Q cw hr I;have cQ: ∀i,i<ops.size->ml listed i:=λi hi=>Classical.byContradiction λhn=>S.YL cw (i+1) i (by omega) hi hn hr
  have hm:m=ops.size:=by
   rcases jC m ops.size with h|h
   .have:=I.sub m (cQ m h);omega
   .exact Nat.le_antisymm S.hm h
  grind
 intro n;induction n with
 |zero=>
  intro listed a w ψ Q cw hc I;have hr:Region.ready .any ops listed=[]:=by
   cases hr:Region.ready .any ops listed with
   |nil=>rfl
   |cons i r=>
    obtain⟨h1,h2,_⟩:=ZpE (i:=i) (ops:=ops) (listed:=listed) (by rw[hr];simp);have:=Ztd listed.toList i (by rw[kb];exact SQ (by omega) h2);omega
  exact⟨hr,all listed a w ψ Q cw hr I⟩
 |succ n ih=>
  intro listed a w ψ Q cw hc I;refine⟨by grind,λi hi=>?_⟩;obtain⟨h1,h2,h3⟩:=ZpE hi;have hp:l[i]? =some (l[i]'(by rw[S.MU];exact h1)):=cg _;obtain⟨q,x,T⟩:=S.get hp;have CE: ∀j,Ac is j i->ml listed j:=by
   rintro j ⟨q',hq,hb⟩;rw[T.iq]at hq;cases hq;obtain⟨e,he,hbi,hj⟩:=T.ada j hb;have hl:=h3 _ T.op e he hbi;rcases hj with rfl|hj
   .exact hl
   .exact I.down _ _ hl hj
  have Xv:=Ztd listed.toList i (by rw[kb];exact SQ (by omega) h2);rcases Nat.lt_trichotomy i m with Cs|Cs|Cs
  .refine I.step S Cs hp h2 CE (hd _ (jP _)) λa' w' ψ' Q' I'=>?_
   exact ih _ _ _ ψ' Q' (by simpa using cw) (by rw[Array.toList_setIfInBounds];omega) (I'.congr λj=>(Zw9 (by omega) j).symm)
  .grind
  .have:=I.sub m (by grind)
   omega
theorem Rel.drew {E:Env} {s:St} (R:Rel C f ψ E s a w):Rel C f ψ E s a { w with drawn:=w.drawn+1 } where
 eG:=R.eG.more R.gm (gL.drew w)
 gD:=R.gD
 gm:=R.gm
 ku:=R.ku
 jA:=R.jA
 mQ:=R.mQ
 defs:=R.defs
 rX:=R.rX
 uB:=R.uB
 ext:=R.ext.trans (Ext.more (gL.drew w))
 news:=R.news
 len:=R.len
 fin:=R.fin
theorem Su.start (S:Su C pr ms ops l is m A B ss) (R:Rel C f ψ (A 0) (ss 0) a w) (hN:(ss m).length<=f.N):Inv C f l is m A B ss ψ (λ_=>False) a w ψ (CR (B 0) (ss 0)):=by
 have R0:=R.iB (S.w 0 (cE _));have Xa: ∀h cb,ψ h=some cb->dQ (B m) (ss m) h->dQ (B 0) (ss 0) h:=by
  intro h cb e hd;cases h with
  |inl i=>
   rcases jC i (ss 0).length with h|h
   .exact h
   .rw[R0.rX i h (lj hd hN)]at e;cases e
  |inr v=>
   rcases jC v (B 0).bL with h|h
   .exact h
   .rw[R0.uB v h]at e;cases e
 refine⟨R0.eG,R0.gm,R0.ku,λt j hj c1 _=>?_,λh j ab cb hj c1 _ c e=>?_,λi h hi _ hn=>?_,λh cb e=> .inl e,R0.ext,R0.mQ,R0.defs,λ_ h=>h.elim,λ_ _ h=>h.elim⟩
 .have:=S.bI (j:=0) (ψ:=ψ) (x:=a.tmps.getD t undef) (t:=t) j (by omega) (by grind) (R0.jA t)
  rwa [eW]at this
 .exact S.Lv (cE _) hj (by grind) (Xa h cb e (S.tT hj (aO _) (c.pX (S.tV j hj)))) c
 .cases e:ψ h with
  |none=>rfl
  |some cb=>
   have h1:dQ (B m) (ss m) h:=S.tT (j:=i+1) (by omega) (aO _) ((BJ (S.w (i+1) (by omega)) h).2 hn.2);exact absurd (S.tT (cE _) (Nat.le_of_lt hi) (Xa h cb e h1)) hn.1
theorem Inv.tail (S:Su C pr ms ops l is m A B ss) (R:Rel C f ψi (A 0) (ss 0) a0 w0) (I:Inv C f l is m A B ss ψi L a w ψ Q):
  (∀i,(ss m).length<=i->i<f.N->ψ (.inl i)=none)/\(∀i cb,ψ (.inl i)=some cb->f.ik (.inl i)=some cb\/(f.s0.length<=i/\i<(ss m).length))/\f.s0.length<=(ss m).length:=by
 have hlen:(ss 0).length<=(ss m).length:=by
  rcases zi (ss 0).length with h|h
  .omega
  .have:=S.tT (h:= .inl ((ss 0).length-1)) (cE m) (aO m) (by simp only[dQ];omega)
   grind[dQ]
 refine⟨λi h1 h2=>?_,λi cb e=>?_,gJ R.len hlen⟩
 .cases e:ψ (.inl i)with
  |none=>rfl
  |some cb=>
   rcases I.news _ cb e with e|⟨_,e⟩
   .rw[R.rX i (by omega) h2]at e;cases e
   grind[dQ]
 .rcases I.news _ cb e with e|⟨h1,h2⟩
  .rcases R.news i cb e with h|⟨h1,h2⟩
   .exact .inl h
   omega
  .simp only[dQ]at h1 h2
   exact .inr ⟨by have:=R.len;omega,h2⟩
theorem Inv.done (S:Su C pr ms ops l is m A B ss) (R:Rel C f ψi (A 0) (ss 0) a0 w0) (I:Inv C f l is m A B ss ψi L a w ψ Q) (hL: ∀i,i<m->L i):Rel C f ψ (B m) (ss m) a w:=by
 have agU:(B 0).bL=(A 0).bL:=(S.w 0 (cE _)).bL;have hlen:(ss 0).length<=(ss m).length:=by
  rcases zi (ss 0).length with h|h
  .omega
  .have:=S.tT (h:= .inl ((ss 0).length-1)) (cE m) (aO m) (by simp only[dQ];omega)
   grind[dQ]
 have jz: ∀h ab cb,ψ h=some cb->CR (B m) (ss m) h ab->Q h ab:=λh ab cb e c=>I.jz h m ab cb (aO _) (by grind) (λi hi hl=>by have:=I.sub i hl;omega) c e
 refine⟨I.eG.weaken jz,S.tV m (aO _),I.gm,I.ku,λt=>I.jA t m (aO _) (by grind) (λi p hi _ hl=>by have:=I.sub i hl;omega),I.mQ,I.defs,λi h1 h2=>?_,λv hv=>?_,I.ext.weaken jz,λi cb e=>?_,gJ R.len hlen,R.fin⟩
 .cases e:ψ (.inl i)with
  |none=>rfl
  |some cb=>
   rcases I.news _ cb e with e|⟨_,e⟩
   .rw[R.rX i (by omega) h2]at e;cases e
   grind[dQ]
 .cases e:ψ (.inr v)with
  |none=>rfl
  |some cb=>
   rcases I.news _ cb e with e|⟨_,e⟩
   .refine absurd e ?_
    have:v<(B m).bL\/(A 0).bL<=v:= .inr (by
     rcases jC v (A 0).bL with h|h
     .have:=S.tT (h:= .inr v) (cE m) (aO m) (by simp only[dQ];omega)
      grind[dQ]
     .exact h)
    rw[R.uB v (by omega)];simp
   grind[dQ]
 .rcases I.news _ cb e with e|⟨h1,h2⟩
  .rcases R.news i cb e with h|⟨h1,h2⟩
   .exact .inl h
   omega
  .simp only[dQ]at h1 h2
   exact .inr ⟨by have:=R.len;omega,h2⟩
end
section
variable {C:bx} {f:Fr} {ψ:Ps} {E E2:Env} {s s2:St} {a:Act} {w:World} {pr ms:al}
theorem nc.fn (h:nc C dst pr ms l E s s2):
  ∃(m:Nat) (p:Oper×Md) (A B:Nat->Env) (ss:Nat->St),l[m]? =some p/\A 0=E/\ss 0=s/\GW dst (B m) p.1/\p.2.x=0/\wm C p.1 (oE p.2 (B m)) (B m) (ss m) s2/\(∀k,k<=m->lP (A k) (B k))/\
   ∀k p,k<m->l[k]? =some p->Step C dst pr ms p (B k) (ss k) (A (k+1)) (ss (k+1)):=by
 induction h with
 | @iB l E E1 s s2 k _ ih=>
  obtain⟨m,p,A,B,ss,h1,h2,h3,h4,h5,h6,h7,h8⟩:=ih;refine⟨m,p,λi=>if i=0 then E else A i,B,ss,h1,rfl,h3,h4,h5,h6,λi hi=>?_,λi q hi hq=>by grind⟩;have:=h7 i hi;by_cases e:i=0
  .subst e
   simp only[lM];rw[h2]at this;exact k.trans this
  grind
 | @here p l E s s' g hx hp=>
  exact⟨0,p,λ_=>E,λ_=>E,λ_=>s,rfl,rfl,rfl,g,hx,hp,λ_ _=> .refl E,λk _ hk=>by omega⟩
 | @next p l E s E1 s1 s2 st _ ih=>
  obtain⟨m,p',A,B,ss,h1,h2,h3,h4,h5,h6,h7,h8⟩:=ih;refine⟨m+1,p',λi=>match i with|0=>E|i+1=>A i,λi=>match i with|0=>E|i+1=>B i,λi=>match i with|0=>s|i+1=>ss i,by simpa using h1,rfl,rfl,h4,h5,h6,λi hi=>?_,λi q hi hq=>?_⟩
  .cases i with
   |zero=>exact .refl E
   |succ i=>exact h7 i (by omega)
  grind
theorem ZrP (n:Nat) (i:Nat): ¬ml (Array.replicate n false) i:=by
 grind[ml]
theorem Zyb (yB:is=qy C.P pr ops.toList ops.toList []) (hl:l=flags C.mp is 0 is ops.toList) (fu:CZ 0 is ops.toList=true)
  (t:Tr C (mw ops) pr ms l E s E2 s2) (R:Rel C f ψ E s a w) (hN:s2.length<=f.N) (hd: ∀p∈l,∀x,p.1.dst=some x->f.ok x=true)
  (h: ∀ψ' a' w',Rel C f ψ' E2 s2 a' w'->QQ .normal a' w'):wpAny C.P .any ops QQ ops.size (Array.replicate ops.size false) a w:=by
 have hlen:l.length=ops.size:=by rw[hl,JK _ _ _ _ (by rw[yB,JP])];simp
 obtain⟨A,B,ss,h1,h2,h3,h4,h5⟩:=t.fn;have S:Su C pr ms ops l is ops.size A (λk=>if k=ops.size then E2 else B k) ss:=by
  refine⟨yB,hl,fu,aO _,λk hk=>?_,λk p hk hp=>?_,by rw[h1];exact R.gD⟩
  .by_cases e:k=ops.size
   .grind
   .simp only[e,mg]
    exact(h5 k _ (cg (by omega))).1
  grind
 rw[<-h1,<-h2]at R;refine Zr0 (f:=f) S hd (λ_=>False) (by omega) (λ_ a' w' ψ' Q' L hL I=>?_) (by omega) _ _ _ _ _ _ (by simp) (by rw[Array.toList_replicate,List.count_replicate_self];exact aO _)
  ((S.start R (by rw[<-hlen,h3];exact hN)).congr λi=>⟨False.elim,ZrP _ i⟩)
 have:=I.done S R hL;grind
theorem ZwW (yB:is=qy C.P pr ops.toList ops.toList []) (hl:l=flags C.mp is 0 is ops.toList) (fu:CZ 0 is ops.toList=true)
  (t:nc C (mw ops) pr ms l E s s2) (R:Rel C f ψ E s a w) (hN:s2.length<=f.N) (hd: ∀p∈l,∀x,p.1.dst=some x->f.ok x=true)
  (h: ∀ch a' w',nL ch->qP C f s2 a' w'->QQ (.panic ch) a' w'):wpAny C.P .any ops QQ ops.size (Array.replicate ops.size false) a w:=by
 have hlen:l.length=ops.size:=by rw[hl,JK _ _ _ _ (by rw[yB,JP])];simp
 obtain⟨m,p,A,B,ss,hp,h1,h2,hg,hx,um,hw,cc⟩:=t.fn;have hm:m<ops.size:=by
  grind
 have S:Su C pr ms ops l is m A B ss:=⟨yB,hl,fu,by omega,hw,cc,by rw[h1];exact R.gD⟩;have hmN:(ss m).length<=f.N:=gJ um.1 hN;rw[<-h1,<-h2]at R;obtain⟨q,x,T⟩:=S.get hp;have MK:x=0:=by rw[T.md]at hx;exact hx
 have hz:=T.zero MK;refine Zr0 (f:=f) (ψi:=ψ) S hd (λi=>∀q',is[i]? =some q'->B1 q'.k=true/\q.bf.testBit i=false/\q'.bf.testBit m=false) (λ_=>⟨λk h1 h2=>?_,λi hi=>?_⟩) (λe=>by omega) (λ_ K a' w' ψ' Q' L hL I=>?_) _ _ _ _ _ _ (by simp) (by rw[Array.toList_replicate,List.count_replicate_self];exact aO _)
  ((S.start R hmN).congr λi=>⟨False.elim,ZrP _ i⟩)
 .have hq:is[k]? =some (is[k]'(by rw[S.isLen];exact h2)):=cg _
  rcases hz k _ hq (by omega)with h|h|h
  .exact⟨_,hq,h⟩
  .have:=T.lt k h;omega
  .omega
 .have hq:is[i]? =some (is[i]'(by rw[S.isLen];omega)):=cg _
  have late:(is[i]'(by rw[S.isLen];omega)).bf.testBit m=false:=by
   cases h:(is[i]'(by rw[S.isLen];omega)).bf.testBit m with
   |false=>rfl
   |true=>
    have hpi:l[i]? =some (l[i]'(by omega)):=cg _;obtain⟨q',x',T'⟩:=S.get hpi;have e:=T'.iq;rw[hq]at e;cases e;have:=T'.lt m h;omega
  cases hb:q.bf.testBit i with
  |true=>exact .inl ⟨q,T.iq,hb⟩
  |false=>
   grind
 .have hLm: ¬L m:=λh=>by have:=I.sub m h;omega
  obtain⟨pre,xc⟩:=I.pre S (aO m) hp hLm (λj hb=>by
   obtain⟨q',e,hb⟩:=hb;rw[T.iq]at e;cases e;rcases hL j (T.lt j hb)with h|h
   .exact h
   .have hq:is[j]? =some (is[j]'(by rw[S.isLen];have:=T.lt j hb;omega)):=cg _
    rw[(h _ hq).2.1]at hb;cases hb) (λk p' hk fw hl=>by
   obtain⟨q',x',T'⟩:=S.get fw;rcases hL k hk with h|h
   .exact absurd h hl
   .obtain⟨h1,h2,_⟩:=h q' T'.iq
    refine⟨λt ht=>?_,λy hw=>?_⟩
    .obtain⟨_,_,ha⟩:=Kw S.ok k q' T'.iq
     rcases ha m q hk T.iq with ha|ha
     .rw[eW,h2]at ha;cases ha
     .obtain⟨_,e1,_,_⟩:=ha
      rw[T'.dst,T.lk,ht]at e1;exact e1
    .rw[T'.md]at hw
     generalize q'.k=z at h1 hw;cases z<;>first|exact hw.elim|cases h1) (λk p' hk _ hl=>by have:=I.sub k hl;omega)
  obtain⟨agp,aal,ago⟩:=I.tail S R;unfold wpOp;simp only[T.op];rw[bG (ZnX xc hg)];refine .inl (um.2 ψ' Q' a' w' K QQ pre (λk hk=>?_) λFJ Dw ch vY g0 g1 g2 g3 g4=>h ch a' vY g0 ⟨I.defs,I.mQ,_,Go.Gv.yj (s':=s2) R.fin g1 (I.ext.trans g2) g4 λi cb e=>?_⟩)
  .cases k with
   |inl i=>
    have h1:=hk.1;have h2:=hk.2
    grind[dQ]
   |inr v=>
    have h1:=hk.1;have h2:=hk.2
    exact absurd h2 h1
  .rcases g3 _ cb e with e|⟨n1,n2⟩
   .rcases aal i cb e with h|⟨h1,h2⟩
    .exact .inl h
    .exact .inr ⟨h1,lj h2 um.1⟩
   grind[dQ]
end
variable {K:Env->M β}
section
variable {C:bx} {f:Fr} {ψ:Ps} {E E2:Env} {s s2:St} {a:Act} {w:World} {pr:al}
theorem D7: ∀ {l:List Oper} {n:Nat->Bool},okO n l=true->∀o∈l,∀x,o.dst=some x->n x=true
 |[],_,_,o,ho,_,_=>by cases ho
 |y::r,n,h,o,ho,x,hx=>by
  simp only[okO,aW]at h;cases ho with
  |head=>
   have h1:=h.1;rw[hx]at h1;exact h1
  |tail _ ho=>exact D7 h.2 o ho x hx
theorem ZtT (pr:al) (ops:List Oper) (y:Oper) (r:List Oper) (x:Nat) (h:has (match y.dst with|some d=>d::xA pr ops r|none=>xA pr ops r) x=true):has (xA pr ops (y::r)) x=true:=by
 rw[xA];split
 .split
  .simp only[has,l9];exact .inr h
  .exact h
 .simp only[has,l9];exact .inr h
 .exact h
theorem Zuv {ops:List Oper} {x:Nat} (hx:o.dst=some x): ∀(l:List Oper),o∈l->has (xA pr ops l) x=true:=by
 intro l;induction l with
 |nil=>intro ho;cases ho
 |cons y r ih=>
  intro ho;refine ZtT pr ops y r x ?_;cases ho with
  |head=>rw[hx];simp[has]
  |tail _ ho=>
   have:=ih ho;cases y.dst with
   |none=>exact this
   |some d=>simp[has,this]
theorem ZrH (hC:nJ C) (hc:ZR C c) {d:Bool} (h:M8 C pr c ops d E K s=some r):
  (∃E' s',s.length<=s'.length/\K E' s'=some r/\Mod (λu=>has (lI pr (.region 0 ops d)) u=false) E E'/\
   ∀ {f:Fr} {ψ:Ps} {a:Act} {w:World} (QQ:Exit->Act->World->Prop) (id:Nat),Rel C f ψ E s a w->C.P.follows .mixedOrders=true->okO f.ok ops.toList=true->s'.length<=f.N->
    (∀ψ' a' w',Rel C f ψ' E' s' a' w'->QQ .normal a' w')->(Code.region id ops d).wp C.P QQ a w)\/
  (∃s',r=(.eV,s')/\s.length<=s'.length/\
   ∀ {f:Fr} {ψ:Ps} {a:Act} {w:World} (QQ:Exit->Act->World->Prop) (id:Nat),Rel C f ψ E s a w->C.P.follows .mixedOrders=true->okO f.ok ops.toList=true->s'.length<=f.N->
    (∀ch a' w',nL ch->qP C f s' a' w'->QQ (.panic ch) a' w')->(Code.region id ops d).wp C.P QQ a w):=by
 have ae8: ∀(l:List (Oper×Md)),(∀p∈l,p.1∈ops.toList)->∀u,has (lI pr (.region 0 ops d)) u=false->JB (xA pr ops.toList ops.toList) l u:=by
  intro l hl u hu;refine⟨λp hp e=>?_,hu⟩;have:=Zuv (pr:=pr) (ops:=ops.toList) e _ (hl p hp);simp only[lI]at hu;rw[hu]at this;cases this
 have wk: ∀ {l:List (Oper×Md)} {E':Env},(∀p∈l,p.1∈ops.toList)->Mod (JB (xA pr ops.toList ops.toList) l) E E'->Mod (λu=>has (lI pr (.region 0 ops d)) u=false) E E':=
  λhl m=>⟨λu hu=>m.get u (ae8 _ hl u hu),m.bL,m.vX,m.xL⟩
 cases d with
 |false=>
  simp only[M8,af]at h;have hl: ∀p∈ops.toList.map (λo=>(o,Md.s)),p.1∈ops.toList:=by
   simp
  have hi: ∀k p,(ops.toList.map λo=>(o,Md.s))[k]? =some p->ops[0+k]? =some p.1:=by
   simp
  have cw:(ops.toList.map λo=>(o,Md.s)).length=ops.size:=by simp
  rcases ZpQ (dst:=mw ops) hC hc (ops:=ops.toList) _ _ _ _ _ _ h (λp hp=>by obtain⟨o,_,rfl⟩:=xO.1 hp;exact .inl rfl) (λg hg=>by cases hg)with⟨E',s',t,hk,_,hm⟩|⟨s',e,t⟩
  .refine .inl ⟨E',s',t.len,hk,wk hl hm,λQQ id R _ ho hN hn=>wp_region ?_⟩
   have:=ZvT (QQ:=QQ) t R hN (λp hp x hx=>D7 ho p.1 (hl p hp) x hx) hi hn;rw[cw]at this;rwa [List.range_eq_range']
  .refine .inr ⟨s',e,t.len,λQQ id R _ ho hN hn=>wp_region ?_⟩
   have:=ZuX (QQ:=QQ) t R hN (λp hp x hx=>D7 ho p.1 (hl p hp) x hx) hi hn;rw[cw]at this;rwa [List.range_eq_range']
 |true=>
  simp only[M8,ae]at h;obtain⟨fu,h⟩:=Zp h;have hl: ∀p∈flags C.mp (qy C.P pr ops.toList ops.toList []) 0 (qy C.P pr ops.toList ops.toList []) ops.toList,p.1∈ops.toList:=by
   intro p hp;obtain⟨k,hk⟩:=Dg hp;obtain⟨q,o,_,h2,rfl⟩:=Kx _ _ _ _ _ _ hk;grind
  rcases ZpQ (dst:=mw ops) hC hc (ops:=ops.toList) _ _ _ _ _ _ h (λp hp=>by
   obtain⟨k,hk⟩:=Dg hp;obtain⟨q,o,h1,h2,rfl⟩:=Kx _ _ _ _ _ _ hk;obtain⟨o',g1,_,g3,_,_⟩:=RQ _ _ _ _ _ _ _ h1;rw[h2]at g1;cases g1;exact .inr ⟨_,_,_,by rw[g3]⟩) (λg hg=>by cases hg)with⟨E',s',t,hk,_,hm⟩|⟨s',e,t⟩
  .exact .inl ⟨E',s',t.len,hk,wk hl hm,λQQ id R hf ho hN hn=>wp_region_any hf (Zyb rfl rfl fu t R.drew hN (λp hp x hx=>D7 ho p.1 (hl p hp) x hx) hn)⟩
  .exact .inr ⟨s',e,t.len,λQQ id R hf ho hN hn=>wp_region_any hf (ZwW rfl rfl fu t R.drew hN (λp hp x hx=>D7 ho p.1 (hl p hp) x hx) hn)⟩
end
theorem eX.cast (hS:eX C ψ Q w) (hc: ∀h cb ab,ψ' h=some cb->Q' h ab->ψ h=some cb/\∃cN,Q h cN/\(ab.gI=true->cN.gI=true)/\(Holds C ψ w cb cN->Holds C ψ' w cb ab)):eX C ψ' Q' w:=by
 constructor
 .intro h cb ab e q
  obtain⟨e0,cN,q0,_,hh⟩:=hc h cb ab e q;exact hh (hS.holds h cb cN e0 q0)
 .intro h cb ab h' fR cN e q hs e' q' hn
  obtain⟨e0,x,q0,s0,_⟩:=hc h cb ab e q;obtain⟨e1,y,q1,_,_⟩:=hc h' fR cN e' q';exact hS.sO h cb x h' fR y e0 q0 (s0 hs) e1 q1 hn
theorem Ext.cast (hE:Ext ik Q0 w0 ψ Q w) (hm: ∀h cb,ik h=some cb->ψ' h=some cb) (hp: ∀h cb,ψ' h=some cb->ψ h=some cb)
  (hc: ∀h cb ab,ψ' h=some cb->Q' h ab->∃cN,Q h cN/\(ab.gI=true->cN.gI=true)):Ext ik Q0 w0 ψ' Q' w where
 mono:=hm
 rR:=λh cb e=>hE.rR h cb (hp h cb e)
 size:=hE.size
 jy:=hE.jy
 gI:=λb ⟨h,cb,ab,e,q,hs,hb⟩=>by
  obtain⟨cN,q',iy⟩:=hc h cb ab e q;exact hE.gI b ⟨h,cb,cN,hp h cb e,q',iy hs,hb⟩
 live:=λh cb x e q=>by
  obtain⟨cN,q',_⟩:=hc h cb x (hm h cb e) q;exact hE.live h cb cN e q'
 tape:=hE.tape
 os:=hE.os
 output:=hE.output
def sM (ψ:Ps) (N:Nat):Ps
 | .inl i=>ψ (.inl i)
 | .inr v=>if v<N then ψ (.inr v)else none
theorem Rq (e:sM ψ N h=some cb):ψ h=some cb:=by
 grind[sM]
structure Nz (cs cs':List DV):Prop where
 len:cs'.length=cs.length
 rel: ∀(C:bx) ψ vs,bB C ψ cs vs->bB C ψ cs' vs
 one:cs.all one=true->cs'.all one=true
theorem Holds.aaB {f:Bool} (k:Nz cs cs') (h:Holds C ψ w cb (.cells f cs)):Holds C ψ w cb (.cells f cs'):=by
 obtain⟨h1,h2,h3,h4⟩:=h;refine⟨by rw[k.len];exact h1,k.one h2,λj d hd=>?_,h4⟩;have hv:bB C ψ cs ((List.range cs.length).map λj=>(w.cell? ⟨cb.b,cb.o+j,none⟩).getD undef):=by
  refine bB.of _ _ (by simp) λj d v g1 g2=>?_
  grind
 obtain⟨v,eD,hr⟩:=(k.rel C ψ _ hv).get hd;rw[xN]at eD;have hj:j<cs.length:=by
  grind
 rw[List.getElem?_range hj]at eD;simp only[me,fQ]at eD;obtain⟨v',hc,_⟩:=h3 j cs[j] (cg hj);rw[hc]at eD;grind
inductive Wj (e:ez):ez->Prop
 |u:Wj e .u
 |same:Wj e e
 |v (d d':DV):e= .v d->(∀(C:bx) ψ x,VR C ψ d x->VR C ψ d' x)->Wj e (.v d')
 |loc (v n:Nat) (cs cs':ah):e= .loc v n cs->Nz cs cs'->Wj e (.loc v n cs')
structure zu (E E':Env):Prop where
 bL:E'.bL<=E.bL
 get: ∀t,Wj (E.get t) (E'.get t)
 cS: ∀t v,(E'.get t).cS=some v->v<E'.bL
 pl: ∀t r v o,E'.get t= .pl r v o->v<E'.bL
theorem Wj.cS {e e':ez} (h:Wj e e') {v:Nat} (hv:e'.cS=some v):e.cS=some v:=by
 cases h with
 |u=>cases hv
 |same=>exact hv
 |v d d' _ _=>cases hv
 |loc v' n cs cs' he _=>rw[he];exact hv
section
variable {C:bx} {f:Fr} {ψ:Ps} {E E':Env} {s:St} {a:Act} {w:World}
theorem CR.xM (k:zu E E') (c:CR E' s h ab): ∃cN,CR E s h cN/\(ab.gI=true->cN.gI=true)/\∀(C:bx) ψ w cb,Holds C ψ w cb cN->Holds C ψ w cb ab:=by
 cases h with
 |inl i=>exact⟨ab,c,λh=>h,λ_ _ _ _ h=>h⟩
 |inr v=>
  rcases c with⟨t,n,cs,e,rfl⟩|⟨t,l,p,e,rfl⟩
  .have:=k.get t
   rw[e]at this;generalize he:E.get t=x at this;cases this with
   |same=>exact⟨_,.inl ⟨t,n,cs,he,rfl⟩,λh=>h,λ_ _ _ _ h=>h⟩
   |loc _ _ lU _ h1 h2=>exact⟨_,.inl ⟨t,n,lU,he.trans h1,rfl⟩,λh=>h,λ_ _ _ _ h=>h.aaB h2⟩
  .have:=k.get t
   rw[e]at this;generalize he:E.get t=x at this;cases this with
   |same=>exact⟨_,.inr ⟨t,l,p,he,rfl⟩,λh=>h,λ_ _ _ _ h=>h⟩
theorem Holds.sM {N:Nat} {cb:CB} {ab:AB} (h:Holds C ψ w cb ab):Holds C (Go.Gv.sM ψ N) w cb ab:=h.same (ψ:=ψ) (ψ':=Go.Gv.sM ψ N) (λ_ _ e=>e) rfl
theorem iY.xM (h:iY E) (k:zu E E'):iY E':=by
 refine⟨k.cS,k.pl,λt v n cs e=>?_,λt t' v hv eD=>h.uniq t t' v ((k.get t).cS hv) ((k.get t').cS eD)⟩;have:=k.get t;rw[e]at this;generalize he:E.get t=x at this;cases this with
 |same=>exact h.len t v n cs he
 |loc _ _ lU _ h1 h2=>rw[h2.len];exact h.len t v n lU (he.trans h1)
theorem Rel.xM (R:Rel C f ψ E s a w) (k:zu E E'):Rel C f (sM ψ E'.bL) E' s a w where
 eG:=R.eG.cast λh cb ab e c=>by
  obtain⟨cN,c',hs,hh⟩:=c.xM k;exact⟨Rq e,cN,c',hs,λx=>(hh C ψ w cb x).sM⟩
 gD:=R.gD.xM k
 gm:=λh cb e=>R.gm h cb (Rq e)
 ku:=λg hg=>R.ku g hg
 jA:=λt=>by
  have h:=R.jA t;have xq:=k.cS t;have kW:=k.pl t;have jy: ∀v cb,v<E'.bL->ψ (.inr v)=some cb->sM ψ E'.bL (.inr v)=some cb:=λv cb hv e=>by grind[sM]
  have:=k.get t;generalize he':E'.get t=x' at this xq kW;generalize he:E.get t=x at this h;have same:fp C ψ x' (a.tmps.getD t Go.undef)->fp C (sM ψ E'.bL) x' (a.tmps.getD t Go.undef):=by
   intro h;cases x' with
   |u=>trivial
   |un=>exact h
   |v d=>exact VR.mono (ψ:=ψ) (ψ':=sM ψ E'.bL) (λ_ _ e=>e) h
   |pC ds=>obtain⟨vs,e,r⟩:=h;exact⟨vs,e,r.mono (ψ:=ψ) (ψ':=sM ψ E'.bL) λ_ _ e=>e⟩
   |loc v n cs=>obtain⟨cb,e,r⟩:=h;exact⟨cb,jy v cb (xq v rfl) e,r⟩
   |pl q v n=>obtain⟨cb,e,r⟩:=h;exact⟨cb,jy v cb (kW q v n rfl) e,r⟩
   |it v l p=>obtain⟨cb,e,r⟩:=h;exact⟨cb,jy v cb (xq v rfl) e,r⟩
  cases this with
  |u=>trivial
  |same=>exact same h
  |v d d' e hc=>subst e;exact same (hc C ψ _ h)
  |loc v n cs cs' e hc=>subst e;exact same h
 mQ:=R.mQ
 defs:=R.defs
 rX:=R.rX
 uB:=λv hv=>by grind[sM]
 ext:=R.ext.cast (λh cb e=>by
   cases h with
   |inl i=>exact R.ext.mono _ _ e
   |inr v=>rw[R.fin]at e;cases e) (λh cb e=>Rq e) (λh cb ab _ c=>by
   obtain⟨cN,c',hs,_⟩:=c.xM k;exact⟨cN,c',hs⟩)
 news:=λi cb e=>R.news i cb e
 len:=R.len
 fin:=R.fin
inductive GJ (E0 E:Env):List (Nat×JS)->List DV->Prop
 |nil:GJ E0 E [] []
 |v (t:Nat) (x:Sh) (d:DV) (r:List (Nat×JS)) (ds:ah):E.get t= .v d->GJ E0 E r ds->GJ E0 E ((t,.v x)::r) (d::ds)
 |l (t:Nat) (x:List B) (v n n0:Nat) (cs lU:ah) (r:List (Nat×JS)) (ds:ah):E.get t= .loc v n cs->E0.get t= .loc v n0 lU->GJ E0 E r ds->GJ E0 E ((t,.l x)::r) (.agg cs::ds)
 |t (t:Nat) (v:Nat) (l l0:aj) (p p0:Nat) (r:List (Nat×JS)) (ds:ah):E.get t= .it v l p->E0.get t= .it v l0 p0->GJ E0 E r ds->GJ E0 E ((t,.t)::r) (.nat p::ds)
theorem wz {E0 E:Env} : ∀ {J:List (Nat×JS)} {K:ah->M β} {s:St} {r:Out β×St},ri E0 E J K s=some r->∃ds,GJ E0 E J ds/\K ds s=some r
 |[],K,s,r,h=>⟨[],.nil,h⟩
 |(t,x)::J,K,s,r,h=>by
  simp only[ri]at h;cases x with
  |v x=>
   cases e:E.get t with
   |v d=>
    rw[e]at h;obtain⟨ds,g,hk⟩:=wz h;exact⟨_,.v t x d J ds e g,hk⟩
   |_=>rw[e]at h;cases h
  |l x=>
   cases e:E.get t with
   |loc v n cs=>
    rw[e]at h;cases e0:E0.get t with
    |loc v0 n0 lU=>
     rw[e0]at h;simp only at h;obtain⟨hv,h2⟩:=Zp h;have:=dy hv;subst this;obtain⟨ds,g,hk⟩:=wz h2;exact⟨_,.l t x v0 n n0 cs lU J ds e e0 g,hk⟩
    |_=>rw[e0]at h;cases h
   |_=>rw[e]at h;cases h
  |t=>
   cases e:E.get t with
   |it v l p=>
    rw[e]at h;cases e0:E0.get t with
    |it v0 l0 p0=>
     rw[e0]at h;simp only at h;obtain⟨hv,h2⟩:=Zp h;have:=dy hv;subst this;obtain⟨ds,g,hk⟩:=wz h2;exact⟨_,.t t v0 l l0 p p0 J ds e e0 g,hk⟩
    |_=>rw[e0]at h;cases h
   |_=>rw[e]at h;cases h
inductive PJ (E:Env):List (Nat×JS)->List DV->Env->Env->Prop
 |nil (E1:Env):PJ E [] [] E1 E1
 |v (t:Nat) (x:Sh) (d d':DV) (r:List (Nat×JS)) (ds:ah) (E1 E':Env):(∀(C:bx) ψ x,VR C ψ d x->VR C ψ d' x)->PJ E r ds (E1.put t (.v d')) E'->PJ E ((t,.v x)::r) (d::ds) E1 E'
 |l (t:Nat) (x:List B) (v n:Nat) (lU cs cs':ah) (r:List (Nat×JS)) (ds:ah) (E1 E':Env):E.get t= .loc v n lU->Nz cs cs'->PJ E r ds (E1.put t (.loc v n cs')) E'->PJ E ((t,.l x)::r) (.agg cs::ds) E1 E'
 |t (t:Nat) (v:Nat) (l:aj) (p0 p:Nat) (r:List (Nat×JS)) (ds:ah) (E1 E':Env):E.get t= .it v l p0->PJ E r ds (E1.put t (.it v l p)) E'->PJ E ((t,.t)::r) (.nat p::ds) E1 E'
theorem BF {E:Env} : ∀ {J:List (Nat×JS)} {st:ah} {E1:Env} {K:Env->M β} {s:St} {r:Out β×St},rM E J st E1 K s=some r->∃E',PJ E J st E1 E'/\K E' s=some r
 |[],st,E1,K,s,r,h=>by
  simp only[rM]at h;cases st with
  |nil=>exact⟨E1,.nil E1,h⟩
  |cons _ _=>cases h
 |(t,x)::J,st,E1,K,s,r,h=>by
  simp only[rM]at h;cases st with
  |nil=>cases h
  |cons d rest=>
   simp only[jS]at h;cases x with
   |v x=>
    obtain⟨d',h,hd,_⟩:=KT h;obtain⟨E',g,hk⟩:=BF h;exact⟨E',.v t x d d' J rest E1 E' hd g,hk⟩
   |l x=>
    cases e:E.get t with
    |loc v n lU=>
     rw[e]at h;cases d with
     |agg cs=>
      obtain⟨cs',h,hl,hr,h1⟩:=Gj h;obtain⟨E',g,hk⟩:=BF h;exact⟨E',.l t x v n lU cs cs' J rest E1 E' e ⟨hl,hr,h1⟩ g,hk⟩
     |_=>cases h
    |_=>rw[e]at h;cases h
   |t=>
    cases e:E.get t with
    |it v l p0=>
     rw[e]at h;cases d with
     |nat p=>
      obtain⟨E',g,hk⟩:=BF h;exact⟨E',.t t v l p0 p J rest E1 E' e g,hk⟩
     |_=>cases h
    |_=>rw[e]at h;cases h
theorem PJ.xM (h0:iY E0) (hv: ∀t v n cs,E2.get t= .loc v n cs->(∃lU,E0.get t= .loc v n lU)\/E0.bL<=v) (hi: ∀t v l p,E2.get t= .it v l p->(∃p0,E0.get t= .it v l p0)\/E0.bL<=v):
  ∀ {J:List (Nat×JS)} {ds:ah} {E1 E':Env},GJ E0 E2 J ds->PJ E0 J ds E1 E'->E1.bL=E0.bL->E0.bL<=E2.bL->zu E2 E1->zu E2 E'/\E'.bL=E0.bL/\(∀gQ u,A9 gQ J=true->has gQ u=false->E'.get u=E1.get u):=by
 intro J;induction J with
 |nil=>
  intro ds E1 E' g p h1 _ k;cases g;cases p;grind
 |cons x J ih=>
  intro ds E1 E' g p h1 hn k;obtain⟨t,x⟩:=x;have fin: ∀ {e:ez} {ds:ah},Wj (E2.get t) e->(∀v,e.cS=some v->v<E0.bL)->(∀r v o,e≠ .pl r v o)->GJ E0 E2 J ds->PJ E0 J ds (E1.put t e) E'->zu E2 E'/\E'.bL=E0.bL/\(∀gQ u,A9 gQ ((t,x)::J)=true->has gQ u=false->E'.get u=E1.get u):=by
   intro e ds hw xq kW g p;obtain⟨r1,r2,r3⟩:=ih g p (by simpa using h1) hn ⟨by simp[h1,hn],λu=>by
     rw[Env.rj];split
     .grind
     .exact k.get u,λu v e=>by
     rw[Env.rj]at e;rw[Env.YB,h1];split at e
     .exact xq v e
     .have:=k.cS u v e;omega,λu r v o e=>by
     rw[Env.rj]at e;rw[Env.YB,h1];split at e
     .grind
     .have:=k.pl u r v o e;omega⟩
   refine⟨r1,r2,λgQ u h1 h2=>?_⟩;simp only[A9,aW]at h1;rw[r3 gQ u h1.2 h2,Env.rj,ba];grind
  cases p with
  |v _ sx d d' _ ds _ _ hc p=>
   cases g with
   |v _ _ _ _ _ e g=>exact fin (.v d d' e hc) (λv h=>by cases h) (λ_ _ _ h=>by cases h) g p
  |l _ sx v n lU cs cs' _ ds _ _ he hc p=>
   cases g with
   |l _ _ v2 n2 n0 _ cz _ _ e e0 g=>
    rw[he]at e0;cases e0;rcases hv t _ _ _ e with⟨c,e1⟩|e1
    .rw[he]at e1;cases e1
     exact fin (.loc _ _ cs cs' e hc) (λv h=>by cases h;exact h0.lt t _ (by rw[he];rfl)) (λ_ _ _ h=>by cases h) g p
    .have:=h0.lt t _ (by rw[he];rfl);omega
  |t _ v l p0 q _ ds _ _ he p=>
   cases g with
   |t _ v2 l2 l0 _ p2 _ _ e e0 g=>
    rw[he]at e0;cases e0;rcases hi t _ _ _ e with⟨c,e1⟩|e1
    .rw[he]at e1;cases e1
     exact fin (by rw[e];exact .same) (λv h=>by cases h;exact h0.lt t _ (by rw[he];rfl)) (λ_ _ _ h=>by cases h) g p
    .have:=h0.lt t _ (by rw[he];rfl);omega
abbrev Un (l:al) (u:Nat):Prop:=has l u=false
theorem Q4 (h0:iY E0) (hm:Mod (Un gQ) E0 E2) (g:GJ E0 E2 J ds) (p:PJ E0 J ds (E0.del gQ) E') (hj:A9 gQ J=true):
  zu E2 E'/\Mod (Un gQ) E0 E':=by
 have k0:zu E2 (E0.del gQ):=by
  refine⟨hm.bL,λt=>?_,λt v e=>?_,λt r v o e=>?_⟩
  .rw[yb]
   cases h:has gQ t with
   |true=>exact .u
   |false=>rw[hm.get t h];exact .same
  .rw[yb]at e
   split at e
   .cases e
   .exact h0.lt t v e
  .rw[yb]at e
   split at e
   .cases e
   .exact h0.pl t r v o e
 obtain⟨r1,r2,r3⟩:=PJ.xM h0 hm.vX hm.xL g p rfl hm.bL k0;have und: ∀u,Un gQ u->E'.get u=E0.get u:=λu hu=>by
  have hu':has gQ u=false:=hu;rw[r3 gQ u hj hu,yb,hu'];rfl
 refine⟨r1,und,by omega,λt v n cs e=>?_,λt v l p e=>?_⟩
 .have:=r1.get t
  rw[e]at this;generalize he:E2.get t=x at this;cases this with
  |same=>exact hm.vX t v n cs he
  |loc _ _ lU _ h1 _=>exact hm.vX t v n lU (he.trans h1)
 .have:=r1.get t
  rw[e]at this;generalize he:E2.get t=x at this;cases this with
  |same=>exact hm.xL t v l p he
end
def Lk (K:Env->M β) (r:Out β×St):Prop:=∀E s,K E s=some r->s.length<=r.2.length
theorem J4 {g:(Env->M β)->M β} (h:VG E gQ J K g s=some r):
  A9 gQ J=true/\g (λE1=>ri E E1 J λst=>rM E J st (E.del gQ) K) s=some r:=by
 obtain⟨h1,h⟩:=Zp h;rw[Lq]at h;exact⟨h1,h⟩
theorem Qq (h:ri E0 E1 J (λst=>rM E0 J st (E0.del gQ) K) s=some r):
  ∃ds E',GJ E0 E1 J ds/\PJ E0 J ds (E0.del gQ) E'/\K E' s=some r:=by
 obtain⟨ds,g,h⟩:=wz h;obtain⟨E',p,h⟩:=BF h;grind
theorem Lk.IF (h:Lk K r):Lk (λE1=>ri E0 E1 J λst=>rM E0 J st (E0.del gQ) K) r:=by
 intro E1 s hs;obtain⟨_,E',_,_,hs⟩:=Qq hs;exact h E' s hs
theorem Lk.block {kx:Nat->Env->M β} (h:Lk K r) (hx: ∀i,Lk (kx i) r): ∀i,Lk (λE1=>bif Nat.beq i id then K E1 else kx i E1) r:=by
 intro i E s hs;cases hb:Nat.beq i id with
 |true=>simp only[hb]at hs;exact h E s hs
 |false=>simp only[hb]at hs;exact hx i E s hs
section
variable {C:bx} {pr:al} {c:Zg} {n:Nat} {r:Out β×St}
theorem GL (hC:nJ C) (hc:ZR C c): ∀(code:Code) (A:pI) (kn:Env->M β) (kx:Nat->Env->M β) (kr:Env->M β),Lk kn r->(∀i,Lk (kx i) r)->Lk kr r->Lk (exec C pr c n code A kn kx kr) r:=by
 intro code;induction code with
 |skip=>intro A kn kx kr hn hx hr E s h;exact hn E s h
 |region id ops d=>
  intro A kn kx kr hn hx hr E s h;simp only[exec]at h;rcases ZrH hC hc h with⟨E',s',hl,hk,_,_⟩|⟨s',e,hl,_⟩
  .exact gJ hl (hn E' s' hk)
  .rw[e];exact hl
 |seq a b CO Ft=>
  intro A kn kx kr hn hx hr E s h;simp only[exec]at h;exact CO A.a _ kx kr (by grind) hx hr E s h
 |cond x a b CO Ft=>
  intro A kn kx kr hn hx hr E s h;simp only[exec]at h;obtain⟨v,_,h⟩:=Q8 h;have two: ∀ {A1 A2:pI} {kn:Env->M β},Lk kn r->(bif v then exec C pr c n a A1 kn kx kr E else exec C pr c n b A2 kn kx kr E) s=some r->s.length<=r.2.length:=by
   intro A1 A2 kn hn h;cases v with
   |true=>exact CO A1 kn kx kr hn hx hr E s h
   |false=>exact Ft A2 kn kx kr hn hx hr E s h
  cases A with
  |j J A1 A2=>exact two (Lk.IF hn) (J4 h).2
  |z=>exact two hn h
  |n A1 A2=>exact two hn h
 |block id body ih=>
  intro A kn kx kr hn hx hr E s h;simp only[exec]at h;cases A with
  |j J A1 A2=>exact ih A1 _ _ kr (Lk.IF hn) (Lk.block (Lk.IF hn) hx) hr E s (J4 h).2
  |z=>exact ih _ _ _ kr hn (Lk.block hn hx) hr E s h
  |n A1 A2=>exact ih _ _ _ kr hn (Lk.block hn hx) hr E s h
 |loop body ih=>
  intro A kn kx kr hn hx hr E s h;simp only[exec]at h;cases A with
  |j J A1 A2=>
   obtain⟨hj,h⟩:=Zp h;obtain⟨st,_,h⟩:=wz h;have key: ∀(k:Nat) (st:ah) (s:St),cW (λrec st=>rM E J st (E.del (lI pr body)) λE1=>exec C pr c n body A1 (λE2=>ri E E2 J rec) kx kr E1) k st s=some r->s.length<=r.2.length:=by
    intro k;induction k with
    |zero=>intro st s h;cases h
    |succ k VD=>
     intro st s h;simp only[cW]at h;obtain⟨E',_,h⟩:=BF h;refine ih A1 _ kx kr (λE2 s2 h2=>?_) hx hr E' s h;obtain⟨fU,_,h2⟩:=wz h2;exact VD fU s2 h2
   exact key n st s h
  |z=>cases h
  |n A1 A2=>cases h
 |exit id=>intro A kn kx kr hn hx hr E s h;exact hx id E s h
 |ret=>intro A kn kx kr hn hx hr E s h;exact hr E s h
 |_=>intros;intro E s h;cases h
theorem Zns (l l':al) (u:Nat):has (l++l') u=(has l u||has l' u):=by
 induction l with
 |nil=>rfl
 |cons x l ih=>simp[mU,has,ih,Bool.or_assoc]
theorem Un.left {l:al} (h:Un (l++l') u):Un l u:=by
 have h':has (l++l') u=false:=h;rw[Zns,Bh]at h';exact h'.1
theorem Un.right {l:al} (h:Un (l++l') u):Un l' u:=by
 have h':has (l++l') u=false:=h;rw[Zns,Bh]at h';exact h'.2
theorem Mod.un {un:Nat->Prop} (h:Mod un E E') (k: ∀u,Jd u->un u):Mod Jd E E':=⟨λu hu=>h.get u (k u hu),h.bL,h.vX,h.xL⟩
variable {f:Fr}
theorem Rel.eval {ψ:Ps} {E:Env} {s:St} {a:Act} {w:World} (R:Rel C f ψ E s a w) (x:Operand):fp C ψ (E.src C x) (a.eval x):=by
 have p:aC C ⟨none,.move x,0, "", #[],none⟩ (λ_=>True) E s ψ (CR E s) a w:=R.pre;exact p.src (by simp[Op.operands])
theorem SL (hC:nJ C) (hc:ZR C c) (AA:C.P.follows .mixedOrders=true) (hN:r.2.length<=f.N): ∀(code:Code) (A:pI) (kn:Env->M β) (kx:Nat->Env->M β) (kr:Env->M β),xC f.ok code=true->Lk kn r->(∀i,Lk (kx i) r)->Lk kr r->
  ∀(E:Env) (s:St),exec C pr c n code A kn kx kr E s=some r->∀(ψ:Ps) (a:Act) (w:World) (QQ:Exit->Act->World->Prop),Rel C f ψ E s a w->
  (∀E' s' ψ' a' w',kn E' s'=some r->Rel C f ψ' E' s' a' w'->Mod (Un (lI pr code)) E E'->QQ .normal a' w')->
  (∀i E' s' ψ' a' w',kx i E' s'=some r->Rel C f ψ' E' s' a' w'->Mod (Un (lI pr code)) E E'->QQ (.exit i) a' w')->
  (∀E' s' ψ' a' w',kr E' s'=some r->Rel C f ψ' E' s' a' w'->QQ .ret a' w')->
  (∀ch a' w' s',r=(.eV,s')->nL ch->qP C f s' a' w'->QQ (.panic ch) a' w')->code.wp C.P QQ a w:=by
 intro code;induction code with
 |skip=>intro A kn kx kr ho hn hx hr E s h ψ a w QQ R qn qx qr qp;exact wp_skip (qn E s ψ a w h R (.refl _ _))
 |region id ops d=>
  intro A kn kx kr ho hn hx hr E s h ψ a w QQ R qn qx qr qp;simp only[exec]at h;rcases ZrH hC hc h with⟨E',s',hl,hk,hm,hw⟩|⟨s',e,hl,hw⟩
  .exact hw QQ id R AA ho (gJ (hn E' s' hk) hN) λψ' a' w' R'=>qn E' s' ψ' a' w' hk R' hm
  .exact hw QQ id R AA ho (by rw[e]at hN;exact hN) λch a' w' hv hp=>qp ch a' w' s' e hv hp
 |seq a b CO Ft=>
  intro A kn kx kr ho hn hx hr E s h ψ ac w QQ R qn qx qr qp;simp only[xC,aW]at ho;simp only[exec]at h;refine wp_seq (CO A.a _ kx kr ho.1 (GL hC hc b A.b kn kx kr hn hx hr) hx hr E s h ψ ac w _ R ?_ ?_ ?_ ?_)
  .intro E' s' ψ' a' w' h' R' m'
   refine Ft A.b kn kx kr ho.2 hn hx hr E' s' h' ψ' a' w' QQ R' ?_ ?_ qr qp
   .intro E2 s2 jN a2 w2 h2 R2 m2
    exact qn E2 s2 jN a2 w2 h2 R2 (m'.trans m2 (λu hu=>Un.left hu) λu hu=>Un.right hu)
   .intro i E2 s2 jN a2 w2 h2 R2 m2
    exact qx i E2 s2 jN a2 w2 h2 R2 (m'.trans m2 (λu hu=>Un.left hu) λu hu=>Un.right hu)
  .intro i E' s' ψ' a' w' h' R' m'
   exact qx i E' s' ψ' a' w' h' R' (m'.un λu hu=>Un.left hu)
  .exact qr
  .exact qp
 |cond x a b CO Ft=>
  intro A kn kx kr ho hn hx hr E s h ψ ac w QQ R qn qx qr qp;simp only[xC,aW]at ho;simp only[exec]at h;obtain⟨v,hv,h⟩:=Q8 h;have he:ac.eval x= .bool v:=by
   have:=R.eval x;rw[hv]at this;generalize ac.eval x=y at this;cases this;rfl
  have two: ∀ {A1 A2:pI} {kn:Env->M β},Lk kn r->(bif v then exec C pr c n a A1 kn kx kr E else exec C pr c n b A2 kn kx kr E) s=some r->
    (∀E' s' ψ' a' w',kn E' s'=some r->Rel C f ψ' E' s' a' w'->Mod (Un (lI pr a++lI pr b)) E E'->QQ .normal a' w')->(if v then a else b).wp C.P QQ ac w:=by
   intro A1 A2 kn hn h qn;cases v with
   |true=>exact CO A1 kn kx kr ho.1 hn hx hr E s h ψ ac w QQ R (λE' s' ψ' a' w' h' R' m'=>qn E' s' ψ' a' w' h' R' (m'.un λu hu=>Un.left hu)) (λi E' s' ψ' a' w' h' R' m'=>qx i E' s' ψ' a' w' h' R' (m'.un λu hu=>Un.left hu)) qr qp
   |false=>exact Ft A2 kn kx kr ho.2 hn hx hr E s h ψ ac w QQ R (λE' s' ψ' a' w' h' R' m'=>qn E' s' ψ' a' w' h' R' (m'.un λu hu=>Un.right hu)) (λi E' s' ψ' a' w' h' R' m'=>qx i E' s' ψ' a' w' h' R' (m'.un λu hu=>Un.right hu)) qr qp
  refine wp_cond he ?_;cases A with
  |j J A1 A2=>
   obtain⟨hj,h⟩:=J4 h;refine two (Lk.IF hn) h λE1 s1 il a1 w1 h1 R1 m1=>?_
   obtain⟨ds,E',g,p,h1⟩:=Qq h1;obtain⟨k,m⟩:=Q4 R.gD m1 g p hj;exact qn E' s1 _ a1 w1 h1 (R1.xM k) m
  |z=>exact two hn h qn
  |n A1 A2=>exact two hn h qn
 |block id body ih=>
  intro A kn kx kr ho hn hx hr E s h ψ ac w QQ R qn qx qr qp;simp only[exec]at h;have go: ∀ {A1:pI} {kn:Env->M β},Lk kn r->exec C pr c n body A1 kn (λi E1=>bif Nat.beq i id then kn E1 else kx i E1) kr E s=some r->
    (∀E' s' ψ' a' w',kn E' s'=some r->Rel C f ψ' E' s' a' w'->Mod (Un (lI pr body)) E E'->QQ .normal a' w')->(Code.block id body).wp C.P QQ ac w:=by
   intro A1 kn hn h qn;refine wp_block (ih A1 kn _ kr ho hn (Lk.block hn hx) hr E s h ψ ac w _ R qn ?_ qr qp);intro i E' s' ψ' a' w' h' R' m';simp only[Exit.inBlock];cases hb:Nat.beq i id with
   |true=>
    rw[hb]at h';rw[bG (dy hb)];exact qn E' s' ψ' a' w' h' R' m'
   |false=>
    rw[hb]at h';rw[ba (Jo hb)];exact qx i E' s' ψ' a' w' h' R' m'
  cases A with
  |j J A1 A2=>
   obtain⟨hj,h⟩:=J4 h;refine go (Lk.IF hn) h λE1 s1 il a1 w1 h1 R1 m1=>?_
   obtain⟨ds,E',g,p,h1⟩:=Qq h1;obtain⟨k,m⟩:=Q4 R.gD m1 g p hj;exact qn E' s1 _ a1 w1 h1 (R1.xM k) m
  |z=>exact go hn h qn
  |n A1 A2=>exact go hn h qn
 |loop body ih=>
  intro A kn kx kr ho hn hx hr E s h ψ ac w QQ R qn qx qr qp;simp only[exec]at h;cases A with
  |j J A1 A2=>
   obtain⟨hj,h⟩:=Zp h;obtain⟨st,g0,h⟩:=wz h;have lk: ∀(k:Nat) (st:ah) (s:St),cW (λrec st=>rM E J st (E.del (lI pr body)) λE1=>exec C pr c n body A1 (λE2=>ri E E2 J rec) kx kr E1) k st s=some r->s.length<=r.2.length:=by
    intro k;induction k with
    |zero=>intro st s h;cases h
    |succ k VD=>
     intro st s h;simp only[cW]at h;obtain⟨E',_,h⟩:=BF h;refine GL hC hc body A1 _ kx kr (λE2 s2 h2=>?_) hx hr E' s h;obtain⟨fU,_,h2⟩:=wz h2;exact VD fU s2 h2
   refine wp_loop_ghost (λk a' w'=>∃E2 s2 jN ds,GJ E E2 J ds/\Mod (Un (lI pr body)) E E2/\Rel C f jN E2 s2 a' w'/\
    cW (λrec st=>rM E J st (E.del (lI pr body)) λE1=>exec C pr c n body A1 (λE2=>ri E E2 J rec) kx kr E1) k ds s2=some r) n ⟨E,s,ψ,st,g0,.refl _ _,R,h⟩ ?_
   rintro k a' w' ⟨E2,s2,jN,ds,g,m,R2,h2⟩;cases k with
   |zero=>cases h2
   |succ k=>
    simp only[cW]at h2;obtain⟨E',p,h2⟩:=BF h2;obtain⟨kw,m'⟩:=Q4 R.gD m g p hj;refine ih A1 _ kx kr ho (λE2 s2 h2=>?_) hx hr E' s2 h2 _ a' w' _ (R2.xM kw) ?_ ?_ qr qp
    .obtain⟨fU,_,h2⟩:=wz h2
     exact lk k fU s2 h2
    .intro E3 s3 Ji a3 w3 h3 R3 m3
     obtain⟨ds3,g3,h3⟩:=wz h3;exact⟨k,Nat.lt_succ_self k,E3,s3,Ji,ds3,g3,m'.trans m3 (λu hu=>hu) (λu hu=>hu),R3,h3⟩
    .intro i E3 s3 Ji a3 w3 h3 R3 m3
     exact qx i E3 s3 Ji a3 w3 h3 R3 (m'.trans m3 (λu hu=>hu) (λu hu=>hu))
  |z=>cases h
  |n A1 A2=>cases h
 |exit id=>intro A kn kx kr ho hn hx hr E s h ψ a w QQ R qn qx qr qp;exact wp_exit (qx id E s ψ a w h R (.refl _ _))
 |ret=>intro A kn kx kr ho hn hx hr E s h ψ a w QQ R qn qx qr qp;exact wp_ret (qr E s ψ a w h R)
 |_=>intro A kn kx kr ho hn hx hr E s h;cases h
end
theorem Zip: ∀(k:Nat) (ds:ah) (t:Nat),look (jE k ds) t=if k<=t then(match ds[t-k]? with|some d=> .v d|none=> .u)else .u
 |k,[],t=>by simp[jE,look]
 |k,d::ds,t=>by
  rw[jE,GF,Zip (k+1) ds t];by_cases h:k=t
  .subst h;simp
  grind
section
variable {C:bx} {f:Fr} {ψ:Ps} {E:Env} {s:St} {a:Act} {w:World} {r:Out β×St}
def Ll (tmps:Array Value):ResultVar->Sem Value
 | .tmp t=>pure (tmps.getD t undef)
 | .cell a t=>do loadVar t (<-asAddr (tmps.getD a undef))
theorem GS {g:ResultVar->Sem Value} {x:ResultVar} {l:List ResultVar} (h1:(g x).run P w= .ok v w) (h2:(l.mapM g).run P w= .ok vs w):((x::l).mapM g).run P w= .ok (v::vs) w:=by
 rw[List.mapM_cons];simp_all
theorem KS (R:Rel C f ψ E s a w): ∀ {l:List ResultVar} {K:ah->M β} ,ux C E l K s=some r->∃ds vs,K ds s=some r/\bB C ψ ds vs/\(l.mapM (Ll a.tmps)).run C.P w= .ok vs w
 |[],K,h=>⟨[],[],h,.nil,by simp⟩
 | .tmp t::l,K,h=>by
  simp only[ux]at h;obtain⟨d,hd,h⟩:=Zs h;obtain⟨ds,vs,hk,hr,dJ⟩:=KS R h;have hv:=R.eval (.tmp t);rw[hd]at hv;exact⟨_,_,hk,.cons _ _ _ _ hv hr,GS rfl dJ⟩
 | .cell x t::l,K,h=>by
  simp only[ux]at h;cases hx:E.get x with
  |loc v n cs=>
   rw[hx]at h;simp only at h;obtain⟨td,ht,h⟩:=oI h;have X9:=R.jA x;rw[hx]at X9;obtain⟨cb,e1,e2,e3⟩:=X9;have hh:=R.eG.holds (.inr v) cb _ e1 (.inl ⟨x,n,cs,hx,rfl⟩);have hlen:=R.gD.len x v n cs hx;cases cX:Z9 C.P t with
   |true=>
    rw[cX]at h;simp only[ae]at h;obtain⟨hn,h⟩:=Zp h;have hn:=dy hn;obtain⟨ds,vs,hk,hr,dJ⟩:=KS R h;obtain⟨vc,hv,_,kZ,h1⟩:=JV (P:=C.P) hh (p:=0) (n:=C.P.cellsOf t);rw[e2,eW]at hv;rw[dA,dH (by omega)]at kZ h1;refine⟨_,_,hk,.cons _ _ _ _ (.agg cs vc kZ h1) hr,GS ?_ dJ⟩;have:=JC ht cX ⟨cb.b,0,none⟩ w hv;show(do loadVar t (<-asAddr (a.tmps.getD x undef)):Sem Value).run C.P w=_;rw[e3];simp only[asAddr,Sem.run_bind,Sem.run_pure,Result.andThen_ok];exact this
   |false=>
    rw[cX]at h;simp only[af]at h;obtain⟨d,hd,h⟩:=KE h;obtain⟨ds,vs,hk,hr,dJ⟩:=KS R h;obtain⟨y,hv,kZ,_⟩:=Km (P:=C.P) hh hd;rw[e2,eW]at hv;refine⟨_,_,hk,.cons _ _ _ _ kZ hr,GS ?_ dJ⟩;have:=F7 ht cX ⟨cb.b,0,none⟩ w hv;show(do loadVar t (<-asAddr (a.tmps.getD x undef)):Sem Value).run C.P w=_;rw[e3];simp only[asAddr,Sem.run_bind,Sem.run_pure,Result.andThen_ok];exact this
  |_=>rw[hx]at h;cases h
theorem Zmm {fn:Func} {tmps:Array Value} (h:(fn.results.toList.mapM (Ll tmps)).run P w= .ok vs w):
  (results fn tmps).run P w= .ok (if h:vs.length=1 then vs[0]else .tuple vs.toArray) w:=by
 have e:results fn tmps=(fn.results.mapM (Ll tmps)>>= λvs=>pure (if h:vs.size=1 then vs[0]else .tuple vs)):=by
  rfl
 rw[e,Array.mapM_eq_mapM_toList];simp[h]
theorem Zwy (b:Nat) (s:St) (i:Nat):c8 (kh b s) i=if i<b then c8 s i else(c8 s i).map λab=>match ab with| .cells _ cs=> .cells true cs|x=>x:=by
 unfold c8 kh;by_cases h:i<b
 .rw[bG h]
  by_cases h2:i<s.length
  .rw[oz (by simp;omega),wa,bG h]
  grind
 .rw[ba h]
  by_cases h3:b<=s.length
  .rw[mb (by simp;omega),xN,Bl]
   rw[cV,mW h3,show b+(i-b)=i by omega];cases hs:s[i]? with
   |none=>rfl
   |some x=>cases x<;>rfl
  grind
theorem Zno (b:Nat) (s:St):(kh b s).length=s.length:=by
 grind[kh]
theorem jh.fK (b:Nat) (h:jh C ik s0 w0 ψ' s w):jh C ik s0 w0 ψ' (kh b s) w:=by
 have key: ∀h ab,CS (kh b s) h ab->∃cN,CS s h cN/\(ab.gI=true->cN.gI=true)/\∀(C:bx) ψ w cb,Holds C ψ w cb cN->Holds C ψ w cb ab:=by
  rintro h ab ⟨i,rfl,e⟩;rw[Zwy]at e;split at e
  .exact⟨ab,⟨i,rfl,e⟩,λh=>h,λ_ _ _ _ h=>h⟩
  .cases hs:c8 s i with
   |none=>rw[hs]at e;cases e
   |some x=>
    rw[hs]at e;cases x with
    |cells fz cs=>
     simp only[me,fQ]at e;subst e;exact⟨_,⟨i,rfl,hs⟩,(λh=>by cases h),λC ψ w cb h=>⟨h.1,h.2.1,h.2.2.1,(λh=>by cases h)⟩⟩
    |iter l p=>
     simp only[me,fQ]at e;subst e;exact⟨_,⟨i,rfl,hs⟩,λh=>h,λ_ _ _ _ h=>h⟩
 refine⟨h.eG.cast λk cb ab e q=>?_,h.ext.cast h.ext.mono (λ_ _ e=>e) λk cb ab _ q=>?_,λk cb e=>?_⟩
 .grind
 .grind
 .rw[Zno];exact h.news k cb e
def K2 (C:bx) (tW:FuncId) (args:ah) (s:St) (out:Out ah×St):Prop:=
 s.length<=out.2.length/\∀ψ w vs,eX C ψ (CS s) w->qM ψ w->Glob C ψ->bB C ψ args vs->(∀v,ψ (.inr v)=none)->(∀i,s.length<=i->i<out.2.length->ψ (.inl i)=none)->
   xY C.P tW vs.toArray w λ
    | .returned v,w'=>∃ds,out.1= .val ds/\∃ψ',jh C ψ s w ψ' out.2 w'/\zn C ψ' ds v
    | .panicked ch,w'=>nL ch/\out.1= .eV/\∃ψ',jh C ψ s w ψ' out.2 w'
    | .outgrown,_=>False
structure FX (C:bx):Prop where
 cfg:nJ C
 LI:C.P.follows .mixedOrders=true
theorem Zxs (hF:FX C) (hc:ZR C c) {fn:Func} (hfn:C.P.funcs[tW]? =some fn) (qg:(fn.name== "runtime.NumGoroutine")=false) {out:Out ah×St} (h:tS C A fn c n args s=some out):K2 C tW args s out:=by
 unfold tS at h;cases hb:fn.body with
 |none=>rw[hb]at h;cases h
 |some code=>
  rw[hb]at h;simp only at h;obtain⟨fu,h⟩:=Zp h;rw[aW]at fu;obtain⟨fu,cw⟩:=fu;have cw:=pH cw;obtain⟨ds,h,oj,nu,sR⟩:=Gy h;have main: ∀(kr:Env->M ah) (fz:St->St),(∀s,(fz s).length=s.length)->(∀ik s0 w0 ψ' s w,jh C ik s0 w0 ψ' s w->jh C ik s0 w0 ψ' (fz s) w)->
    (∀E s' r,kr E s'=some r->ux C E fn.results.toList (λds s=>some (.val ds,fz s)) s'=some r)->
    exec C A.pr c n code A.Hi kr (λ_ _=>fail) kr ⟨0,jE 0 ds⟩ s=some out->K2 C tW args s out:=by
   intro kr fz ew vq HU h;have aha: ∀ {E:Env} {s':St} {r:Out ah×St},kr E s'=some r->∃ds,r=(.val ds,fz s'):=by
    intro E s' r h';have h':=HU E s' r h';generalize fn.results.toList=l at h';have: ∀(l:List ResultVar) (K:ah->M ah),ux C E l K s'=some r->∃ds,K ds s'=some r:=by
     intro l;induction l with
     |nil=>exact λK h=>⟨[],h⟩
     |cons x l ih=>
      intro K h;cases x with
      |tmp t=>
       simp only[ux]at h;obtain⟨d,_,h⟩:=Zs h;grind
      |cell x t=>
       simp only[ux]at h;cases hx:E.get x with
       |loc v n cs=>
        rw[hx]at h;simp only at h;obtain⟨td,_,h⟩:=oI h;cases cX:Z9 C.P t with
        |true=>
         rw[cX]at h;obtain⟨_,h⟩:=Zp h;grind
        |false=>
         rw[cX]at h;obtain⟨d,_,h⟩:=KE h;grind
       |_=>rw[hx]at h;cases h
    grind
   have lk:Lk kr out:=λE s' h'=>by
    grind
   refine⟨GL hF.cfg hc code A.Hi kr _ kr lk (λi E s h=>by cases h) lk _ s h,λψ w vs yJ HF Cr jV AG Ix=>?_⟩;have nv:=sR C ψ vs jV;have xr:=nv.len;unfold xY;have sQ:(callFunc tW vs.toArray).run C.P w= .ok (.enter tW vs.toArray) w:=by
    have vy: ¬fn.name= "runtime.NumGoroutine" :=by simpa using qg
    simp[callFunc,hfn,vy,hb]
   rw[sQ];refine calls_of_wp hfn hb ?_
   let f:Fr:=⟨out.2.length,fn.ntmps,ψ,s,w,rJ fn.ntmps,λx h=>by unfold rJ at h;rw[pG]at h;exact h,λt=>(vs.toArray++Array.replicate (fn.ntmps-vs.toArray.size) Go.undef).getD t Go.undef,[]⟩
   have vh: ∀t,(⟨0,jE 0 ds⟩:Env).get t=match ds[t]? with|some d=> .v d|none=> .u:=by
    intro t;have:=Zip 0 ds t;simp only[cE,lM,Nat.sub_zero]at this;exact this
   have CY: ∀t v,((⟨0,jE 0 ds⟩:Env).get t).cS≠some v:=by
    intro t v;rw[vh];cases ds[t]? <;>simp[ez.cS]
   have Ag: ∀h ab,CR ⟨0,jE 0 ds⟩ s h ab->CS s h ab:=by
    intro h ab c;cases h with
    |inl i=>exact⟨i,rfl,c⟩
    |inr v=>
     rcases c with⟨t,n,cs,e,_⟩|⟨t,l,p,e,_⟩
     .grind
     grind
   have R:Rel C f ψ ⟨0,jE 0 ds⟩ s { tmps:=vs.toArray++Array.replicate (fn.ntmps-vs.toArray.size) Go.undef,defers:=[] } w:=by
    refine⟨yJ.weaken λ_ _ _ _ c=>Ag _ _ c,⟨by grind,λt r v o e=>?_,by grind,by grind⟩,HF,Cr,λt=>?_,?_,rfl,Ix,λv _=>AG v,(Ext.refl ψ (CS s) w).weaken λ_ _ _ _ c=>Ag _ _ c,λi cb e=> .inl e,aO _,AG⟩
    .rw[vh]at e
     cases hd:ds[t]? <;>rw[hd]at e<;>cases e
    .rw[vh]
     cases hd:ds[t]? with
     |none=>trivial
     |some d=>
      obtain⟨v,hv,hr⟩:=nv.get hd;have:(vs.toArray++Array.replicate (fn.ntmps-vs.toArray.size) Go.undef).getD t Go.undef=v:=by
       have ax:=(eK.1 hv).1;rw[qG,Ns (by simpa using ax)];simp[hv]
      show fp C ψ (.v d) _;rw[this];exact hr
    .refine⟨?_,λ_ _=>rfl⟩
     grind
   have done: ∀E' s' ψ' a' w',kr E' s'=some out->Rel C f ψ' E' s' a' w'->a'.defers=[]/\∃v,(results fn a'.tmps).run C.P w'= .ok v w'/\∃ds,out.1= .val ds/\∃ψ',jh C ψ s w ψ' out.2 w'/\zn C ψ' ds v:=by
    intro E' s' ψ' a' w' h' R';obtain⟨lz,iI,hk,hr,dJ⟩:=KS R' (HU E' s' out h');simp only[fQ]at hk;refine⟨R'.defs,_,Zmm dJ,lz,by rw[<-hk],mH ψ',?_,?_⟩
    .rw[<-hk];exact vq _ _ _ _ _ _ R'.yj
    .have lX:bB C (mH ψ') lz iI:=Zq3 hr
     by_cases h1:iI.length=1
     .rw[dif_pos h1]
      cases lX with
      |nil=>cases h1
      |cons d v ds vs a b=>
       cases b with
       |nil=>exact .inl ⟨d,rfl,a⟩
       |cons _ _ _ _ _ _=>simp at h1
     .rw[dif_neg h1]
      exact .inr ⟨by rw[lX.len];exact h1,_,rfl,lX⟩
   refine SL hF.cfg hc hF.LI (f:=f) (aO _) code A.Hi kr _ kr fu lk (λi E s h=>by cases h) lk _ s h ψ _ w _ R ?_ ?_ ?_ ?_
   .intro E' s' ψ' a' w' h' R' _;exact done E' s' ψ' a' w' h' R'
   .intro i E' s' ψ' a' w' h' _ _;cases h'
   .intro E' s' ψ' a' w' h' R';exact done E' s' ψ' a' w' h' R'
   .intro ch a' w' s' e hv hp
    refine⟨hp.defs,hv,by rw[e],?_⟩;obtain⟨ψ',fw⟩:=hp.post;grind
  cases hz:A.fK with
  |true=>
   rw[hz]at h;simp only[ae,jn]at h;exact main _ (kh s.length) (Zno _) (λ_ _ _ _ _ _ h=>h.fK _) (λE s' r h=>h) h
  |false=>
   rw[hz]at h;simp only[af]at h;exact main _ id (λ_=>rfl) (λ_ _ _ _ _ _ h=>h) (λE s' r h=>h) h
end
def tl (C:bx) (b:Zg->Nat->ah->M ah) (f:FuncId):Prop:=
 ∀c n args s out,ZR C c->b c n args s=some out->K2 C f args s out
theorem tl.YC (hF:FX C) {fn:Func} {b:Zg->Nat->ah->M ah} (hfn:C.P.funcs[f]? =some fn) (qg:(fn.name== "runtime.NumGoroutine")=false) (ht:tS C A fn=b):tl C b f:=
 λc n args s out hc h=>Zxs hF hc hfn qg (by rw[ht];exact h)
theorem K6 {C:bx} {Bd:Zh} (hB: ∀f,C.cov f=true->tl C (Bd (C.fn f)) f) (cA: ∀g,(∀f,C.cov f=true->C.fn f≠g)->∀c n args s,Bd g c n args s=none): ∀n,ZR C (run Bd n)
 |0=>λg args s out h=>by cases h
 |n+1=>λg args s out h=>by
  by_cases e: ∃f,C.cov f=true/\C.fn f=g
  .obtain⟨f,h1,rfl⟩:=e
   refine⟨(hB f h1 _ _ _ _ _ (K6 hB cA n) h).1,λf' h2 h3=>?_⟩;have h':Bd (C.fn f') (run Bd n) n args s=some out:=by rw[h3];exact h
   exact(hB f' h2 _ _ _ _ _ (K6 hB cA n) h').2
  .have:=cA g (λf h1 h2=>e ⟨f,h1,h2⟩) (run Bd n) n args s
   have h':Bd g (run Bd n) n args s=some out:=h;rw[this]at h';cases h'
end Go.Gv
namespace Go.Gv
def AY:List (Nat×Nat)->Nat->Nat
 |[],_=>0
 |(k,v)::r,x=>bif Nat.beq k x then v else AY r x
def Nh (l:List (Nat×Nat)) (t:Nat):Nat:=bif has (l.map (·.1)) t then AY l t else t+1000
abbrev Body:=Zg->Nat->ah->M ah
def AX:List (Nat×Body)->Nat->Option Body
 |[],_=>none
 |(k,b)::r,g=>bif Nat.beq k g then some b else AX r g
def bdOf (l:List (Nat×Body)):Zh:=λg=>match AX l g with|some b=>b|none=>λ_ _ _ _=>none
theorem Sd: ∀ {l:List (Nat×Body)} {g:Nat} {b:Body},AX l g=some b->g∈l.map (·.1)
 |[],_,_,h=>by cases h
 |(k,x)::r,g,b,h=>by
  simp only[AX]at h;cases hk:Nat.beq k g with
  |true=>simp_all
  |false=>rw[hk]at h;simp only[af]at h;exact wb _ (Sd h)
variable {next:Act->World->Prop} {eA rA:Array Edge} {ops:Array Oper} {vs:Array Value} {gb yp:Code} {Q:Exit->Act->List Frame->World->Prop} {QQ:Exit->Act->World->Prop} {f g tW:FuncId} {n:Int} {k:IntKind} {cs cs':List Frame} {N fi i id p t3 t4 td:Nat} {o o0 o1 o2 o3 o4 o5 o6 o7:Oper} {P:Program} {s s3:St} {eP rP:String} {e eT rT t ty wS:TypeId} {v:Value} {args ds ds0:ah} {cov rest:al} {C:bx}
theorem Zx9 (h:P.underlying P.rt.typeAssertionError=some (.pointer e)) (hs:(P.underlying e).isSome=true): ∃e d,P.underlying P.rt.typeAssertionError=some (.pointer e)/\P.underlying e=some d:=
 ⟨e,_,h,(Option.some_get hs).symm⟩
theorem Zxf (vn:C.cov=has cov) {l:List (Nat×Body)} (hk:l.map (·.1)=cov.map C.fn) (hB: ∀f∈cov,tl C (bdOf l (C.fn f)) f): ∀n,ZR C (run (bdOf l) n):=by
 refine K6 (λf hf=>hB f (by rw[vn]at hf;exact(G9 cov f).1 hf)) λg hg c n args s=>?_
 unfold bdOf;cases hb:AX l g with
 |none=>rfl
 |some b=>
  have:=Sd hb;rw[hk]at this;obtain⟨f,hf,rfl⟩:=xO.1 this;exact absurd rfl (hg f (by rw[vn];exact(G9 cov f).2 hf))
def YD (l:List (Nat×Nat)):Bool:=decide ((l.map (·.2)).Nodup)&&l.all λx=>Nat.blt x.2 1000
theorem KZ: ∀ {l:List (Nat×Nat)} {t:Nat},has (l.map (·.1)) t=true->(t,AY l t)∈l
 |[],t,h=>by cases h
 |(k,v)::r,t,h=>by
  simp only[pF,has,l9]at h;cases hk:Nat.beq k t with
  |true=>
   have:=dy hk;grind[AY]
  |false=>
   simp only[AY,hk,af];exact wb _ (KZ (by grind))
theorem ZxJ {l:List (Nat×Nat)} (h:YD l=true) (t t':Nat) (e:Nh l t=Nh l t'):t=t':=by
 unfold YD at h;rw[aW,xP,uF]at h;obtain⟨h1,h2⟩:=h;have lt: ∀ {t},has (l.map (·.1)) t=true->AY l t<1000:=λ{t} ht=>by
  have:=h2 _ (KZ ht);rwa [pG]at this
 unfold Nh at e;cases ht:has (l.map (·.1)) t with
 |true=>
  have m:=KZ ht;cases vC:has (l.map (·.1)) t' with
  |true=>
   have m':=KZ vC;rw[ht,vC]at e;simp only[ae]at e;rw[e]at m;have inj: ∀ {l:List (Nat×Nat)},(l.map (·.2)).Nodup->∀ {a b c:Nat},(a,c)∈l->(b,c)∈l->a=b:=by
    intro l;induction l with
    |nil=>simp
    |cons x r ih=>
     grind
   exact inj h1 m m'
  |false=>rw[ht,vC]at e;grind
 |false=>
  grind
variable {β:Type}
variable {Kk:Env->M β}
section
variable {C:bx} {f:Fr} {ψ:Ps} {E:Env} {s:St} {a:Act} {w:World} {c:Zg} {o:Oper} {K:Env->M β} {r:Out β×St}
theorem pR (hC:nJ C) (hc:ZR C c) (o:Oper) (h:Lk K r):Lk (λE=>fj C [] [] .s c o E K) r:=by
 intro E s h';rcases SN hC hc (ops:=[]) (.inl rfl) h' with⟨E',s',hk,hF,_⟩|⟨_,s',rfl,hp⟩
 .exact gJ hF.len (h E' s' hk)
 .exact hp.1
theorem K4 (hC:nJ C) (hc:ZR C c) (h:fj C [] [] .s c o E K s=some r) (hl:Lk K r) (hN:r.2.length<=f.N) (hd: ∀x,o.dst=some x->f.ok x=true):
  (∃E' s',K E' s'=some r/\s.length<=s'.length/\∀(ψ:Ps) (a:Act) (w:World) (QQ:Exit->Act->World->Prop) (next:Act->World->Prop),Rel C f ψ E s a w->
    (∀ψ' v w',Rel C f ψ' E' s' (a.put o.dst v) w'->(∀h cb,ψ h=some cb->ψ' h=some cb)->next (a.put o.dst v) w')->o.wp C.P a w next QQ)\/
  (∃s',r=(.eV,s')/\∀(ψ:Ps) (a:Act) (w:World) (QQ:Exit->Act->World->Prop) (next:Act->World->Prop),Rel C f ψ E s a w->(∀ch a' w',nL ch->qP C f s' a' w'->QQ (.panic ch) a' w')->o.wp C.P a w next QQ):=by
 rcases SN hC hc (ops:=[]) (.inl rfl) h with⟨E',s',hk,hF,hO⟩|⟨_,s',rfl,hp⟩
 .refine .inl ⟨E',s',hk,hF.len,λψ a w QQ next R hn=>?_⟩
  exact hO ψ (CR E s) a w next QQ R.pre (R.room (gJ (hl E' s' hk) hN)) λψ' Q' v w' hP he=>hn ψ' v w' (R.step hF hP he hd) hP.ext.mono
 .exact .inr ⟨s',rfl,λψ a w QQ next R hn=>R.YG hN hp hn⟩
theorem qP.af1 {d:Option Nat} (hd: ∀x,d=some x->f.ok x=true) (h:qP C f s (a.put d v) w):qP C f s a w:=by
 refine⟨by rw[<-Ka a d v];exact h.defs,⟨by rw[<-O9 a d v];exact h.ks.1,λt ht=>?_⟩,h.post⟩;have:=h.ks.2 t ht;rw[G3 (λx hx=>by rw[<-O9 a d v,h.ks.1];exact f.IQ x (hd x hx)),ba (λe=>by rw[hd t e]at ht;cases ht)]at this;exact this
def Yn:Sh->Bool
 | .b _=>true
 |_=>false
def MO:Op->Bool
 | .move (.tmp _)=>true
 |_=>false
def VW (ops:Array Oper):Bool:=
 let l (n:Nat):Array Bool:=(([0,2,3,4,5,1,6,7].take n).foldl (λl i=>l.setIfInBounds i true) (Array.replicate 8 false))
 let fst (n i:Nat):Bool:=Region.free .any ops (l n) i&&(Region.ready .any ops (l n)).contains i
 Region.noSelect ops&&fst 0 0&&fst 1 2&&fst 2 3&&fst 3 4&&fst 4 5&&(Region.ready .any ops (l 5)==[1])&&(Region.ready .any ops (l 6)==[6])&&(Region.ready .any ops (l 7)==[7])&&(Region.ready .any ops (l 8)).isEmpty
def Hw:List Oper->Option (Oper×Oper×Oper×Oper×Oper×Oper×Oper×Oper)
 |[o0,o1,o2,o3,o4,o5,o6,o7]=>some (o0,o1,o2,o3,o4,o5,o6,o7)
 |_=>none
theorem Zvw {l:List Oper} (h:Hw l=some (o0,o1,o2,o3,o4,o5,o6,o7)):l=[o0,o1,o2,o3,o4,o5,o6,o7]:=by
 unfold Hw at h;grind
noncomputable def I4 (C:bx) (c:Zg) (ops:Array Oper) (E:Env) (K:Env->M β):M β:=
 match Hw ops.toList with
 |some (o0,o1,o2,o3,o4,o5,o6,o7)=>
  bif VW ops&&MO o0.op&&MO o2.op&&(o0.guard.isNone&&o1.guard.isNone&&o2.guard.isNone&&o3.guard.isNone&&o4.guard.isNone&&o5.guard.isNone&&o6.guard.isNone&&o7.guard.isNone)then
   match o3.op,o4.op,o5.op with
   | .nilCheck x3,.fieldAddr _ x4 _,.load ty x5=>aB (Yn (l8 C.P ty))<|
    fj C [] [] .s c o0 E λE0=>fj C [] [] .s c o2 E0 λE2=>yW C E2 x3 λ_ _=>fj C [] [] .s c o3 E2 λE3=>yW C E3 x4 λ_ _=>fj C [] [] .s c o4 E3 λE4=>yW C E4 x5 λi p=>wO i p λk n=>fj C [] [] .s c o5 E4 λE5=>
     fj C [] [] .s c o1 E5 λE1=>gT i p k n (fj C [] [] .s c o6 E1 λE6=>gT i p k n (fj C [] [] .s c o7 E6 λE7=>gT i p k n (K E7)))
   |_,_,_=>fail
  else fail
 |none=>fail
theorem Kt {x:Operand} {K:Nat->Nat->M β} (h:yW C E x K s=some r): ∃i p,E.src C x= .v (.ptr (some (i,p)))/\K i p s=some r:=by
 unfold yW at h;cases he:E.src C x with
 |v d=>
  rw[he]at h;cases d with
  |ptr q=>
   cases q with
   |none=>cases h
   |some q=>grind
  |_=>cases h
 |_=>rw[he]at h;cases h
theorem Zn7 {K:IntKind->Int->M β} (h:wO i p K s=some r): ∃k n,(∃fz cs,c8 s i=some (.cells fz cs)/\cs[p]? =some (.int k n))/\K k n s=some r:=by
 unfold wO at h;obtain⟨fz,cs,d,cc,hd,h⟩:=ZnY h;cases d with
 |int k n=>grind
 |_=>cases h
theorem J5 {K:M β} (h:gT i p k n K s=some r):K s=some r/\∃fz cs,c8 s i=some (.cells fz cs)/\cs[p]? =some (.int k n):=by
 unfold gT bF at h;cases hc:s.cells i with
 |none=>rw[hc]at h;cases h
 |some cs=>
  rw[hc]at h;simp only at h;cases hd:cs[p]? with
  |none=>rw[hd]at h;cases h
  |some d=>
   rw[hd]at h;have cc: ∃fz,c8 s i=some (.cells fz cs):=by
    unfold St.cells at hc;split at hc
    .rename_i bk yz
     cases hc;simp[c8,yz]
    .cases hc
   obtain⟨fz,cc⟩:=cc;cases d with
   |int k' n'=>
    simp only at h;obtain⟨h0,hK⟩:=Zp h;simp only[aW,sd]at h0;have h1:=G8 h0.1;have h2:=h0.2;rw[<-h1,<-h2]at hd;grind
   |_=>cases h
theorem Rel.num (R:Rel C f ψ E s a w) {cb:CB} (e:ψ (.inl i)=some cb) (h: ∃fz cs,c8 s i=some (.cells fz cs)/\cs[p]? =some (.int k n)):w.cell? ⟨cb.b,cb.o+p,none⟩=some (.int k n):=by
 obtain⟨fz,cs,h1,h2⟩:=h;have hh:=R.eG.holds (.inl i) cb _ e h1;obtain⟨v,hv,hr⟩:=hh.2.2.1 p _ h2;cases hr;exact hv
theorem Rel.ptr (R:Rel C f ψ E s a w) {x:Operand} {i p:Nat} (e:E.src C x= .v (.ptr (some (i,p)))): ∃cb:CB,ψ (.inl i)=some cb/\a.eval x= .pointer (some ⟨cb.b,cb.o+p,none⟩):=by
 have h:=R.eval x;rw[e]at h;have h:VR C ψ (.ptr (some (i,p))) (a.eval x):=h;generalize a.eval x=v at h;cases h with
 |ptr _ _ cb e=>exact⟨cb,e,rfl⟩
theorem Zqc {y:Operand} (ho:o.op= .fieldAddr t y fi) (h:fj C [] [] .s c o E Kk s=some r):
  ∃off,∀(a:Act) (w:World) b n,a.eval y= .pointer (some ⟨b,n,none⟩)->(execOp a.eval o).run C.P w= .ok (.value (.pointer (some ⟨b,n+off,none⟩))) w:=by
 unfold fj at h;rw[ho]at h;simp only at h;unfold JT at h;cases ht:C.P.underlying t with
 |none=>rw[ht]at h;cases h
 |some td=>
  rw[ht]at h;cases td with
  |struct fs=>
   simp only at h;cases hf:fs[fi]? with
   |none=>rw[hf]at h;cases h
   |some fd=>
    rw[hf]at h;simp only at h;obtain⟨hc,h⟩:=Gi h;have hc:=Jo hc;have cw: ∀w,(sizeOf fd.type).run C.P w= .ok (C.P.cellsOf fd.type) w:=by
     intro w;unfold Program.cellsOf at hc⊢;cases hi:C.P.info? fd.type with
     |none=>rw[hi]at hc;simp at hc
     |some i=>simp[sizeOf,typeInfo,hi]
    refine⟨fd.offset,λa w b n hy=>?_⟩;simp[execOp,ho,hy,Instr.fieldAt,Zl w ht,hf,uP,fieldPlace,cw,hc,zK]
  |_=>cases h
theorem Zwo {x:Operand} (ho:o.op= .load t x) (hs:Yn (l8 C.P t)=true) (h:fj C [] [] .s c o E Kk s=some r) (a:Act) (w:World) (A:Addr) (v:Value) (ha:a.eval x= .pointer (some A)) (hw:w.cell? A=some v):
  (execOp a.eval o).run C.P w= .ok (.value v) w:=by
 unfold fj at h;rw[ho]at h;simp only at h;unfold Lh at h;obtain⟨td,ht,h⟩:=oI h;cases iy:l8 C.P t with
 |b y'=>simp only[execOp,ho,ha,Instr.loadAt,Sem.run_bind,uP,Result.andThen_ok,F7 ht (S6 iy) _ w (by rw[run_load,hw]),Sem.run_pure]
 |agg l=>rw[iy]at hs;cases hs
theorem Ss (hi:ops[i]? =some o) (hg:o.guard=none) (h:o.wp P a w next QQ):wpOp P ops QQ i next a w:=by
 unfold wpOp;simp only[hi];rw[bG (by simp[Region.wanted,hg])];exact .inl h
theorem ZvJ (he:(execOp a.eval o).run P w= .ok (.value v) w) (h:o.wp P a w next QQ):next (a.put o.dst v) w:=by
 unfold Oper.wp at h;rw[he]at h;exact h
theorem Eg {x:Operand} {K:Env->Nat->Nat->M β} (h: ∀i p,Lk (λE=>K E i p) r):Lk (λE=>yW C E x (K E)) r:=by
 intro E s h';obtain⟨i,p,_,h'⟩:=Kt h';exact h i p E s h'
theorem Ztj {K:Env->IntKind->Int->M β} (h: ∀k n,Lk (λE=>K E k n) r):Lk (λE=>wO i p (K E)) r:=by
 intro E s h';obtain⟨k,n,_,h'⟩:=Zn7 h';exact h k n E s h'
theorem D5 {K:Env->M β} (h:Lk K r):Lk (λE=>gT i p k n (K E)) r:=by
 intro E s h';exact h E s (J5 h').1
theorem Zwj (hC:nJ C) (hc:ZR C c) (fu:okO f.ok ops.toList=true) (h:I4 C c ops E K s=some r) (hl:Lk K r) (AA:C.P.follows .mixedOrders=true) (hN:r.2.length<=f.N) (id:Nat) (R:Rel C f ψ E s a w) (QQ:Exit->Act->World->Prop)
  (qn: ∀E' s' ψ' a' w',K E' s'=some r->Rel C f ψ' E' s' a' w'->QQ .normal a' w') (qp: ∀ch a' w' s',r=(.eV,s')->nL ch->qP C f s' a' w'->QQ (.panic ch) a' w'):(Code.region id ops true).wp C.P QQ a w:=by
 unfold I4 at h;cases cZ:Hw ops.toList with
 |none=>rw[cZ]at h;cases h
 |some q=>
 obtain⟨o0,o1,o2,o3,o4,o5,o6,o7⟩:=q;rw[cZ]at h;have xh:=Zvw cZ;simp only at h;obtain⟨hb,h⟩:=Zp h;simp only[aW,Option.isNone_iff_eq_none]at hb;obtain⟨⟨⟨hy,Mn⟩,gF⟩,⟨⟨⟨⟨⟨⟨⟨g0,g1⟩,g2⟩,g3⟩,g4⟩,g5⟩,g6⟩,g7⟩⟩:=hb;obtain⟨x3,Nc,x4,LH,Ng,x5,h3,h4,h5⟩: ∃x3 Nc x4 LH Ng x5,o3.op= .nilCheck x3/\o4.op= .fieldAddr Nc x4 LH/\o5.op= .load Ng x5:=by
  cases h3:o3.op with
  |nilCheck x3=>
   cases h4:o4.op with
   |fieldAddr Nc x4 LH=>
    cases h5:o5.op with
    |load Ng x5=>grind
    |_=>rw[h3,h4,h5]at h;cases h
   |_=>rw[h3,h4]at h;cases h
  |_=>rw[h3]at h;cases h
 rw[h3,h4,h5]at h;simp only at h;obtain⟨Mv,h⟩:=Z8 h;have i0:ops[0]? =some o0:=by rw[<-kb,xh];rfl
 have i1:ops[1]? =some o1:=by rw[<-kb,xh];rfl
 have i2:ops[2]? =some o2:=by rw[<-kb,xh];rfl
 have i3:ops[3]? =some o3:=by rw[<-kb,xh];rfl
 have i4:ops[4]? =some o4:=by rw[<-kb,xh];rfl
 have i5:ops[5]? =some o5:=by rw[<-kb,xh];rfl
 have i6:ops[6]? =some o6:=by rw[<-kb,xh];rfl
 have i7:ops[7]? =some o7:=by rw[<-kb,xh];rfl
 have og: ∀o∈ops.toList,∀x,o.dst=some x->f.ok x=true:=λo ho x hx=>D7 fu o ho x hx
 rw[xh]at og;have aeX:ops.size=8:=by rw[<-nI,xh];rfl
 have l7: ∀i p k n,Lk (λE7=>gT i p k n (K E7)) r:=λi p k n=>D5 hl
 have l6: ∀i p k n,Lk (λE6=>gT i p k n (fj C [] [] .s c o7 E6 λE7=>gT i p k n (K E7))) r:=λi p k n=>D5 (pR hC hc o7 (l7 i p k n))
 have l1: ∀i p k n,Lk (λE1=>gT i p k n (fj C [] [] .s c o6 E1 λE6=>gT i p k n (fj C [] [] .s c o7 E6 λE7=>gT i p k n (K E7)))) r:=λi p k n=>D5 (pR hC hc o6 (l6 i p k n))
 have l5: ∀i p k n,Lk (λE5=>fj C [] [] .s c o1 E5 λE1=>gT i p k n (fj C [] [] .s c o6 E1 λE6=>gT i p k n (fj C [] [] .s c o7 E6 λE7=>gT i p k n (K E7)))) r:=λi p k n=>pR hC hc o1 (l1 i p k n)
 have l4:=Eg (C:=C) (x:=x5) (K:=λE4 i p=>wO i p λk n=>fj C [] [] .s c o5 E4 λE5=>fj C [] [] .s c o1 E5 λE1=>gT i p k n (fj C [] [] .s c o6 E1 λE6=>gT i p k n (fj C [] [] .s c o7 E6 λE7=>gT i p k n (K E7)))) (r:=r) (λi p=>Ztj (K:=λE4 k n=>fj C [] [] .s c o5 E4 λE5=>fj C [] [] .s c o1 E5 λE1=>gT i p k n (fj C [] [] .s c o6 E1 λE6=>gT i p k n (fj C [] [] .s c o7 E6 λE7=>gT i p k n (K E7)))) λk n=>pR hC hc o5 (l5 i p k n));have l3:=Eg (C:=C) (x:=x4) (r:=r) (K:=λE3 _ _=>fj C [] [] .s c o4 E3 λE4=>yW C E4 x5 λi p=>wO i p λk n=>fj C [] [] .s c o5 E4 λE5=>fj C [] [] .s c o1 E5 λE1=>gT i p k n (fj C [] [] .s c o6 E1 λE6=>gT i p k n (fj C [] [] .s c o7 E6 λE7=>gT i p k n (K E7)))) (λ_ _=>pR hC hc o4 l4);have l2:=Eg (C:=C) (x:=x3) (r:=r) (K:=λE2 _ _=>fj C [] [] .s c o3 E2 λE3=>yW C E3 x4 λ_ _=>fj C [] [] .s c o4 E3 λE4=>yW C E4 x5 λi p=>wO i p λk n=>fj C [] [] .s c o5 E4 λE5=>fj C [] [] .s c o1 E5 λE1=>gT i p k n (fj C [] [] .s c o6 E1 λE6=>gT i p k n (fj C [] [] .s c o7 E6 λE7=>gT i p k n (K E7)))) (λ_ _=>pR hC hc o3 l3);have l0:=pR hC hc o2 l2;simp only[VW,aW,sd,List.isEmpty_iff]at hy;obtain⟨⟨⟨⟨⟨⟨⟨⟨⟨H8,f0,r0⟩,f1,r1⟩,f2,r2⟩,f3,r3⟩,f4,r4⟩,rd5⟩,rd6⟩,rd7⟩,rd8⟩:=hy;have R:=R.drew;generalize cD:({ w with drawn:=w.drawn+1 } :World)=w1 at R;have mv: ∀ {o:Oper},MO o.op=true->∀(a:Act),∃v,∀w',(execOp a.eval o).run C.P w'= .ok (.value v) w':=by
  intro o ho a;unfold MO at ho;split at ho
  .rename_i t e
   exact⟨a.eval (.tmp t),λw'=>by simp[execOp,e]⟩
  .cases ho
 have fst: ∀ {o:Oper} {E:Env} {s:St} {ψ:Ps} {a:Act} {K':Env->M β} {v:Value},o∈[o0,o1,o2,o3,o4,o5,o6,o7]->fj C [] [] .s c o E K' s=some r->Lk K' r->Rel C f ψ E s a w1->(execOp a.eval o).run C.P w1= .ok (.value v) w1->
   ∃E' s' ψ',K' E' s'=some r/\Rel C f ψ' E' s' (a.put o.dst v) w1/\∀h cb,ψ h=some cb->ψ' h=some cb:=by
  intro o E s ψ a K' v ho h hl R hv;rcases K4 (f:=f) hC hc h hl hN (og o ho)with⟨E',s',hk,_,q⟩|⟨s',_,q⟩
  .obtain⟨ψ',h1,h2⟩:=ZvJ (next:=λa' w'=>∃ψ',Rel C f ψ' E' s' a' w'/\∀h cb,ψ h=some cb->ψ' h=some cb) hv (q ψ a w1 (λ_ _ _=>True) _ R λψ' v w' R' m=>⟨ψ',R',m⟩)
   exact⟨E',s',ψ',hk,h1,h2⟩
  .exact(ZvJ (next:=λ_ _=>False) hv (q ψ a w1 (λ_ _ _=>True) _ R λ_ _ _ _ _=>trivial)).elim
 obtain⟨v0,y0⟩:=mv Mn a;obtain⟨E0,s0,ik,h,R0,_⟩:=fst (by simp) h l0 R (y0 w1);obtain⟨v2,y2⟩:=mv gF (a.put o0.dst v0);obtain⟨E2,s2,jN,h,R2,_⟩:=fst (by simp) h l2 R0 (y2 w1);obtain⟨b3,p3,Vu,h⟩:=Kt h;obtain⟨cb3,_,e3⟩:=R2.ptr Vu;have y3: ∀w',(execOp ((a.put o0.dst v0).put o2.dst v2).eval o3).run C.P w'= .ok (.value (.pointer (some ⟨cb3.b,cb3.o+p3,none⟩))) w':=λw'=>by simp[execOp,h3,e3]
 obtain⟨E3,s3,Ji,h,R3,_⟩:=fst (by simp) h l3 R2 (y3 w1);obtain⟨b4,p4,hx4,h⟩:=Kt h;obtain⟨cb4,_,e4⟩:=R3.ptr hx4;obtain⟨off,y4⟩:=Zqc h4 h;have y4:=λw'=>y4 _ w' _ _ e4
 obtain⟨E4,s4,ψ4,h,R4,_⟩:=fst (by simp) h l4 R3 (y4 w1);obtain⟨i,p,Vv,h⟩:=Kt h;obtain⟨cb,tU,e5⟩:=R4.ptr Vv;obtain⟨k,n,p9,h⟩:=Zn7 h;have y5:=λw' hw=>Zwo h5 Mv h _ w' _ (.int k n) e5 hw
 have hS:w1.cell? ⟨cb.b,cb.o+p,none⟩=some (.int k n):=R4.num tU p9;obtain⟨E5,s5,ψ5,h,R5,m5⟩:=fst (by simp) h (l5 i p k n) R4 (y5 w1 hS);have tU:=m5 _ _ tU;refine wp_mono (Q:=λe a' w'=>match e with
  | .normal=>∃E' s' ψ',K E' s'=some r/\Rel C f ψ' E' s' a' w'
  | .panic ch=>nL ch/\∃s',r=(.eV,s')/\qP C f s' a' w'
  |_=>False) (wp_region_held (S:=λw'=>w'.cell? ⟨cb.b,cb.o+p,none⟩=some (.int k n)) AA ?_) ?_
 rotate_left
 .intro e a' w' he
  cases e with
  |normal=>obtain⟨E',s',ψ',hk,R'⟩:=he;exact qn E' s' ψ' a' w' hk R'
  |panic ch=>obtain⟨hv,s',e,hp⟩:=he;exact qp ch a' w' s' e hv hp
  |_=>exact he.elim
 have wanted: ∀ {o:Oper} {y:Nat->Option Bool},o.guard=none->Region.wanted o y=true:=λhg=>by simp[Region.wanted,hg]
 have hQ: ∀ {o:Oper} {v:Value},o∈[o0,o1,o2,o3,o4,o5,o6,o7]->∀ch a' w',(nL ch/\∃s',r=(.eV,s')/\qP C f s' (a'.put o.dst v) w')->(nL ch/\∃s',r=(.eV,s')/\qP C f s' a' w'):=
  λho ch a' w' ⟨hv,s',e,hp⟩=>⟨hv,s',e,hp.af1 (og _ ho)⟩
 rw[aeX,cD];refine wpAnyH_take i0 H8 f0 r0 (hQ (by simp)) (.inl ⟨wanted g0,λw' _=>y0 w'⟩) hS ?_;refine wpAnyH_take i2 H8 f1 r1 (hQ (by simp)) (.inl ⟨wanted g2,λw' _=>y2 w'⟩) hS ?_;refine wpAnyH_take i3 H8 f2 r2 (hQ (by simp)) (.inl ⟨wanted g3,λw' _=>y3 w'⟩) hS ?_;refine wpAnyH_take i4 H8 f3 r3 (hQ (by simp)) (.inl ⟨wanted g4,λw' _=>y4 w'⟩) hS ?_;refine wpAnyH_take i5 H8 f4 r4 (hQ (by simp)) (.inl ⟨wanted g5,λw' hw=>y5 w' hw⟩) hS ?_;refine wpAnyH_all rd5 (by simp) λj hj=>?_
 rw[cx]at hj;subst hj;refine Ss i1 g1 ?_;rcases K4 (f:=f) hC hc h (l1 i p k n) hN (og o1 (by simp))with⟨E1,s1,h,_,q1⟩|⟨s',e,q1⟩
 rotate_left
 .exact q1 _ _ _ _ _ R5 λch a' w' hv hp=>⟨hv,s',e,hp⟩
 refine q1 _ _ _ _ _ R5 λil v1 w2 R1 m1=>?_
 have tU:=m1 _ _ tU;obtain⟨h,gY⟩:=J5 h;refine⟨R1.num tU gY,wpAnyH_all rd6 (by simp) λj hj=>?_⟩;rw[cx]at hj;subst hj;refine Ss i6 g6 ?_;rcases K4 (f:=f) hC hc h (l6 i p k n) hN (og o6 (by simp))with⟨E6,s6,h,_,q6⟩|⟨s',e,q6⟩
 rotate_left
 .exact q6 _ _ _ _ _ R1 λch a' w' hv hp=>⟨hv,s',e,hp⟩
 refine q6 _ _ _ _ _ R1 λψ6 v6 w6 R6 m6=>?_
 have tU:=m6 _ _ tU;obtain⟨h,hc6⟩:=J5 h;refine⟨R6.num tU hc6,wpAnyH_all rd7 (by simp) λj hj=>?_⟩;rw[cx]at hj;subst hj;refine Ss i7 g7 ?_;rcases K4 (f:=f) hC hc h (l7 i p k n) hN (og o7 (by simp))with⟨E7,s7,h,_,q7⟩|⟨s',e,q7⟩
 rotate_left
 .exact q7 _ _ _ _ _ R6 λch a' w' hv hp=>⟨hv,s',e,hp⟩
 refine q7 _ _ _ _ _ R6 λψ7 v7 w7 R7 m7=>?_
 have tU:=m7 _ _ tU;obtain⟨h,hc7⟩:=J5 h;exact⟨R7.num tU hc7,wpAnyH_done rd8 ⟨E7,s7,ψ7,h,R7⟩ _⟩
end
def nZ:Code->List Code
 | .seq a b=>nZ a++nZ b
 |c=>[c]
def rY (P:Program):List Code->(Exit->Act->World->Prop)->Act->World->Prop
 |[],Q=>Q .normal
 |x::r,Q=>x.wp P (Exit.then (rY P r Q) Q)
theorem Zun (n m:Act->World->Prop) (Q:Exit->Act->World->Prop):Exit.then n (Exit.then m Q)=Exit.then n Q:=by
 funext e a w;cases e<;>rfl
theorem Zuu (Q:Exit->Act->World->Prop):Exit.then (Q .normal) Q=Q:=by
 funext e a w;cases e<;>rfl
theorem SP {P:Program} : ∀(l m:List Code) (Q:Exit->Act->World->Prop),rY P (l++m) Q=rY P l (Exit.then (rY P m Q) Q)
 |[],m,Q=>rfl
 |x::l,m,Q=>by
  show x.wp P (Exit.then (rY P (l++m) Q) Q)=x.wp P (Exit.then (rY P l (Exit.then (rY P m Q) Q)) (Exit.then (rY P m Q) Q));rw[SP l m Q,Zun]
theorem Zxz : ∀(c:Code) (Q:Exit->Act->World->Prop) (a:Act) (w:World),rY P (nZ c) Q a w->c.wp P Q a w:=by
 intro c;induction c with
 |seq x y ihx ihy=>
  intro Q a w h;rw[nZ,SP]at h;refine wp_seq (wp_mono (ihx _ a w h) λe a w h=>?_);cases e<;>first|exact ihy Q a w h|exact h
 |_=>intro Q a w h;simp only[nZ,rY,Zuu]at h;exact h
def ID:Code->Option (Array Oper)
 | .region _ ops true=>bif VW ops&&Nat.beq ops.size 8 then some ops else none
 |_=>none
noncomputable def Hs (C:bx) (c:Zg) (n:Nat) (x:Code) (kn kr:Env->M β):Env->M β:=match ID x with
 |some ops=>λE=>I4 C c ops E kn
 |none=>exec C [] c n x .z kn (λ_ _=>fail) kr
noncomputable def wV (C:bx) (c:Zg) (n:Nat):List Code->(Env->M β)->(Env->M β)->Env->M β
 |[],kn,_=>kn
 |x::r,kn,kr=>Hs C c n x (wV C c n r kn kr) kr
def IP (ok:Nat->Bool):List Code->Bool
 |[]=>true
 |x::r=>xC ok x&&IP ok r
section
variable {C:bx} {f:Fr} {c:Zg} {n:Nat} {r:Out β×St}
theorem ZvW {x:Code} (h:ID x=some ops): ∃id,x= .region id ops true:=by
 unfold ID at h;grind
theorem Zv5 (hC:nJ C) (hc:ZR C c) {K:Env->M β} (h:Lk K r):Lk (λE=>I4 C c ops E K) r:=by
 intro E s h';unfold I4 at h';cases cZ:Hw ops.toList with
 |none=>rw[cZ]at h';cases h'
 |some q=>
  obtain⟨o0,o1,o2,o3,o4,o5,o6,o7⟩:=q;rw[cZ]at h';simp only at h';obtain⟨_,h'⟩:=Zp h';cases h3:o3.op with
  |nilCheck x3=>
   cases h4:o4.op with
   |fieldAddr Nc x4 LH=>
    cases h5:o5.op with
    |load Ng x5=>
     rw[h3,h4,h5]at h';simp only at h';obtain⟨_,h'⟩:=Z8 h';refine pR hC hc o0 (pR hC hc o2 (Eg (K:=λE2 _ _=>_) λ_ _=>pR hC hc o3 (Eg (K:=λE3 _ _=>_) λ_ _=>pR hC hc o4 (Eg (K:=λE4 i p=>_) λi p=>Ztj (K:=λE4 k n=>_) λk n=>pR hC hc o5 (pR hC hc o1 (D5 (pR hC hc o6 (D5 (pR hC hc o7 (D5 h)))))))))) E s h'
    |_=>rw[h3,h4,h5]at h';cases h'
   |_=>rw[h3,h4]at h';cases h'
  |_=>rw[h3]at h';cases h'
theorem Zvo (hC:nJ C) (hc:ZR C c) (x:Code) (kn kr:Env->M β) (h:Lk kn r) (k:Lk kr r):Lk (Hs C c n x kn kr) r:=by
 unfold Hs;cases ID x with
 |some ops=>exact Zv5 hC hc h
 |none=>exact GL hC hc x .z _ _ kr h (λ_ _ _ h=>by cases h) k
theorem DO (hC:nJ C) (hc:ZR C c): ∀(l:List Code) (kn kr:Env->M β),Lk kn r->Lk kr r->Lk (wV C c n l kn kr) r
 |[],_,_,h,_=>h
 |x::l,kn,kr,h,k=>Zvo hC hc x _ kr (DO hC hc l kn kr h k) k
theorem RT (hC:nJ C) (hc:ZR C c) (AA:C.P.follows .mixedOrders=true) (hN:r.2.length<=f.N): ∀(l:List Code) (kn kr:Env->M β),IP f.ok l=true->Lk kn r->Lk kr r->
  ∀(E:Env) (s:St),wV C c n l kn kr E s=some r->∀(ψ:Ps) (a:Act) (w:World) (QQ:Exit->Act->World->Prop),Rel C f ψ E s a w->
  (∀E' s' ψ' a' w',kn E' s'=some r->Rel C f ψ' E' s' a' w'->QQ .normal a' w')->
  (∀E' s' ψ' a' w',kr E' s'=some r->Rel C f ψ' E' s' a' w'->QQ .ret a' w')->
  (∀ch a' w' s',r=(.eV,s')->nL ch->qP C f s' a' w'->QQ (.panic ch) a' w')->rY C.P l QQ a w
 |[],kn,kr,_,_,_,E,s,h,ψ,a,w,QQ,R,qn,_,_=>qn E s ψ a w h R
 |x::l,kn,kr,ho,hn,hr,E,s,h,ψ,a,w,QQ,R,qn,qr,qp=>by
  simp only[IP,aW]at ho;have rest: ∀E' s' ψ' a' w',wV C c n l kn kr E' s'=some r->Rel C f ψ' E' s' a' w'->rY C.P l QQ a' w':=λE' s' ψ' a' w' h' R'=>
   RT hC hc AA hN l kn kr ho.2 hn hr E' s' h' ψ' a' w' QQ R' qn qr qp
  have h:Hs C c n x (wV C c n l kn kr) kr E s=some r:=h;unfold Hs at h;cases hy:ID x with
  |some ops=>
   rw[hy]at h;obtain⟨id,rfl⟩:=ZvW hy;exact Zwj hC hc ho.1 h (DO hC hc l kn kr hn hr) AA hN id R _ rest (λch a' w' s' e h1 h2=>qp ch a' w' s' e h1 h2)
  |none=>
   rw[hy]at h;exact SL hC hc AA hN x .z _ _ kr ho.1 (DO hC hc l kn kr hn hr) (λ_ _ _ h=>by cases h) hr E s h ψ a w _ R (λE' s' ψ' a' w' h' R' _=>rest E' s' ψ' a' w' h' R') (λ_ _ _ _ _ _ h=>by cases h) (λE' s' ψ' a' w' h' R'=>qr E' s' ψ' a' w' h' R') (λch a' w' s' e h1 h2=>qp ch a' w' s' e h1 h2)
theorem jh.trans {ik il jN:Ps} {s0 s1 s2:St} {w0 w1 w2:World} (hl:s0.length<=s1.length) (nu:s1.length<=s2.length) (h:jh C ik s0 w0 il s1 w1) (k:jh C il s1 w1 jN s2 w2):jh C ik s0 w0 jN s2 w2:=by
 refine⟨k.eG,h.ext.trans k.ext,λx cb e=>?_⟩;rcases k.news x cb e with e|⟨i,rfl,h1,h2⟩
 .rcases h.news x cb e with e|⟨i,rfl,h1,h2⟩
  .exact .inl e
  grind
 grind
end
def pA (C:bx) (E:Env):List ResultVar->(ah->M β)->M β
 |[],K=>K []
 | .cell a t::r,K=>match E.get a with
  | .v (.ptr (some (i,o)))=>qC C.P t (bif Z9 C.P t then bQ i o (C.P.cellsOf t) λcs=>pA C E r λds=>K (.agg cs::ds)else bF i o λd=>pA C E r λds=>K (d::ds))
  |_=>fail
 | .tmp _::_,_=>fail
def Hq:Option Code->Option (Nat×FuncId×List Operand)
 |some (.region _ ⟨[⟨some td,.makeFunc (.func g) ⟨[]⟩ ⟨gX⟩,_,_,_,none⟩,⟨none,.defer ⟨.value (.tmp t'),⟨[]⟩,_⟩,_,_,_,none⟩]⟩ false)=>bif Nat.beq td t' then some (td,g,gX)else none
 |_=>none
def xw (P:Program) (ty:TypeId):Bool:=match P.underlying ty with
 |some (.interface _)=>true
 |_=>false
def Ep (P:Program) (m N:Nat):Code->Option Code
 | .seq (.region _ ⟨[⟨some t3,.call ⟨.builtin .recover,⟨[]⟩,_⟩,_,_,_,none⟩,⟨some t4,.binOp .neq ty (.tmp Ws) (.const .nilIface) _,_,_,_,none⟩]⟩ false) (.cond (.tmp Wt) b .skip)=>
  bif Nat.beq t3 Ws&&Nat.beq t4 Wt&& !Nat.beq t3 t4&&Nat.ble m t3&&Nat.ble m t4&&Nat.blt t3 N&&Nat.blt t4 N&&xw P ty then some b else none
 |_=>none
def MP:ez->Bool
 | .u=>true
 |_=>false
def vP:List ResultVar->Nat->Bool
 |[],_=>true
 | .cell a _::r,t=> !Nat.beq a t&&vP r t
 | .tmp _::_,_=>false
noncomputable def TA (C:bx) (k:Nat) (fn fD:Func) (c:Zg) (n:Nat) (args:ah):M ah:=
 match fn.body,fD.body with
 |some code,some yp=>match Hq ((nZ code)[k]?),Ep C.P fD.nfree fD.ntmps yp with
  |some (td,_,gX),some gb=>
   bif IP (rJ fn.ntmps) ((nZ code).take k)&&IP (λt=>rJ fn.ntmps t&&vP fn.results.toList t) ((nZ code).drop (k+1))&&xC (rJ fD.ntmps) gb&&Nat.ble fn.params.size fn.ntmps&&Nat.blt td fn.ntmps&&vP fn.results.toList td
    &&Nat.beq fn.nfree 0&&Nat.beq fD.params.size 0&&fD.results.isEmpty&&Nat.ble fD.nfree fD.ntmps&&Nat.beq gX.length fD.nfree then
    Ai (fn.params.toList.map (l8 C.P)) args λds=>
     let fin (E:Env):M ah:=pA C E fn.results.toList λds=>ay ds
     wV C c n ((nZ code).take k) (λE=>aB (Nat.beq E.bL 0&&MP (E.get td)) (y6 C E gX λcs=>
      tR (wV C c n ((nZ code).drop (k+1)) (λ_=>ay []) (λ_=>ay []) E)
       λp=>bif p then tR (exec C [] c n gb .z (λ_=>ay []) (λ_ _=>fail) (λ_=>ay []) ⟨0,jE 0 cs⟩) λp=>bif p then fail else fin E
        else fin E)) fin ⟨0,jE 0 ds⟩
   else fail
  |_,_=>fail
 |_,_=>fail
section
variable {C:bx} {ψ:Ps} {s:St} {w:World} {g:FuncId} {fD:Func}
theorem Zpq {m:Nat} {c:Code} (h:Ep P m N c=some gb):
  ∃id t3 t4 ty aT rT rP rA eT wS eP eA,c= .seq (.region id #[⟨some t3,.call ⟨.builtin .recover, #[],aT⟩,rT,rP,rA,none⟩,⟨some t4,.binOp .neq ty (.tmp t3) (.const .nilIface) eT,wS,eP,eA,none⟩] false) (.cond (.tmp t4) gb .skip)/\
   t3≠t4/\m<=t3/\m<=t4/\t3<N/\t4<N/\xw P ty=true:=by
 unfold Ep at h;split at h
 .rename_i id t3 aT rT rP rA t4 ty Ws eT wS eP eA Wt b
  cases hc:(Nat.beq t3 Ws&&Nat.beq t4 Wt&& !Nat.beq t3 t4&&Nat.ble m t3&&Nat.ble m t4&&Nat.blt t3 N&&Nat.blt t4 N&&xw P ty)with
  |false=>rw[hc]at h;cases h
  |true=>
   rw[hc]at h;simp only[ae,fQ]at h;subst h;simp only[aW]at hc;obtain⟨⟨⟨⟨⟨⟨⟨h1,h2⟩,h3⟩,h4⟩,h5⟩,h6⟩,h7⟩,h8⟩:=hc;cases dy h1;cases dy h2;refine⟨id,t3,t4,ty,aT,rT,rP,rA,eT,wS,eP,eA,rfl,?_,pH h4,pH h5,by rw[pG]at h6;exact h6,by rw[pG]at h7;exact h7,h8⟩;grind
 .cases h
theorem Znr (h:xw P ty=true): ∃ms,P.underlying ty=some (.interface ms):=by
 grind[xw]
theorem Zua (h:xw P ty=true) (d:Nat) (t:TypeId) (v:Value) (w:World):(Op.equalIn (d+1) ty (.iface t v) .nilIface).run P w= .ok false w:=by
 obtain⟨ms,hu⟩:=Znr h;rw[Op.equalIn.eq_2,Sem.run_bind,Zl w hu];rfl
theorem ZtR (h:xw P ty=true) (d:Nat) (w:World):(Op.equalIn (d+1) ty .nilIface .nilIface).run P w= .ok true w:=by
 obtain⟨ms,hu⟩:=Znr h;rw[Op.equalIn.eq_2,Sem.run_bind,Zl w hu];rfl
theorem Zva (h:xw P ty=true) (t:TypeId) (v:Value) (w:World):(binOp .neq ty (.iface t v) .nilIface).run P w= .ok (.bool true) w:=by
 have e:binOp .neq ty (.iface t v) .nilIface=(do let b <-Op.equal ty (.iface t v) .nilIface;pure (.bool !b)):=by
  unfold binOp;rfl
 rw[e,Sem.run_bind,show Op.equal ty (.iface t v) .nilIface=Op.equalIn (9999+1) ty (.iface t v) .nilIface from rfl,Zua h];rfl
theorem Zw1 (h:xw P ty=true) (w:World):(binOp .neq ty .nilIface .nilIface).run P w= .ok (.bool false) w:=by
 have e:binOp .neq ty .nilIface .nilIface=(do let b <-Op.equal ty .nilIface .nilIface;pure (.bool !b)):=by
  unfold binOp;rfl
 rw[e,Sem.run_bind,show Op.equal ty .nilIface .nilIface=Op.equalIn (9999+1) ty .nilIface .nilIface from rfl,ZtR h];rfl
theorem Zt4 {a:Act} {x:Value} (ho:ops[i]? =some o) (hg:o.guard=none) (he:(execOp a.eval o).run P w= .ok .recover w)
  (aQ:(match recoverD cs with|some (v,cs')=>(v,cs')|none=>(Value.nilIface,cs))=(x,cs')) (h:wpOpsS P ops Q rest (a.put o.dst x) cs' w):wpOpsS P ops Q (i::rest) a cs w:=by
 simp only[wpOpsS,ho];rw[bG (by simp[Region.wanted,hg]),he];grind
theorem Zt1 {a:Act} {x:Value} (ho:ops[i]? =some o) (hg:o.guard=none) (he:(execOp a.eval o).run P w= .ok (.value x) w)
  (h:wpOpsS P ops Q rest (a.put o.dst x) cs w):wpOpsS P ops Q (i::rest) a cs w:=by
 simp only[wpOpsS,ho];rw[bG (by simp[Region.wanted,hg]),he];exact h
def C4 (vs:Array Value) (N t3 t4:Nat) (x:Value) (b:Bool):Array Value:=((vs++Array.replicate (N-vs.size) Go.undef).setIfInBounds t3 x).setIfInBounds t4 (.bool b)
theorem ZjQ {aT:Array TypeId} (ags:t3≠t4) (h3:t3<N) (h4:t4<N) (agu:xw C.P ty=true) {wQ:Frame} {x:Value} {b:Bool}
  (aQ:(match recoverD (wQ::cs)with|some (v,cs')=>(v,cs')|none=>(Value.nilIface,wQ::cs))=(x,cs')) (hb:(binOp .neq ty x .nilIface).run C.P w= .ok (.bool b) w) (hx:(∃t v,x= .iface t v)\/x= .nilIface)
  (h:(bif b then gb else .skip).wpS C.P Q { tmps:=C4 vs N t3 t4 x b,defers:=[] } cs' w):
  (Code.seq (.region id #[⟨some t3,.call ⟨.builtin .recover, #[],aT⟩,rT,rP,rA,none⟩,⟨some t4,.binOp .neq ty (.tmp t3) (.const .nilIface) eT,wS,eP,eA,none⟩] false) (.cond (.tmp t4) gb .skip)).wpS C.P Q { tmps:=vs++Array.replicate (N-vs.size) Go.undef,defers:=[] } (wQ::cs) w:=by
 have cw:N<=(vs++Array.replicate (N-vs.size) Go.undef).size:=by simp;omega
 refine wpS_seq (wpS_region ?_);have e1: ∀ev:Operand->Value,(execOp ev ⟨some t3,.call ⟨.builtin .recover, #[],aT⟩,rT,rP,rA,none⟩).run C.P w= .ok .recover w:=λ_=>rfl
 have fin:wpOpsS C.P #[⟨some t3,.call ⟨.builtin .recover, #[],aT⟩,rT,rP,rA,none⟩,⟨some t4,.binOp .neq ty (.tmp t3) (.const .nilIface) eT,wS,eP,eA,none⟩] (Exit.thenS ((Code.cond (.tmp t4) gb .skip).wpS C.P Q) Q) [1] (({ tmps:=vs++Array.replicate (N-vs.size) Go.undef,defers:=[] } :Act).put (some t3) x) cs' w:=by
  have Us:(({ tmps:=vs++Array.replicate (N-vs.size) Go.undef,defers:=[] } :Act).put (some t3) x).eval (.tmp t3)=x:=by
   simp only[Act.put,Act.eval];rw[qG,Nt (by omega)];rfl
  have e2:(execOp (({ tmps:=vs++Array.replicate (N-vs.size) Go.undef,defers:=[] } :Act).put (some t3) x).eval ⟨some t4,.binOp .neq ty (.tmp t3) (.const .nilIface) eT,wS,eP,eA,none⟩).run C.P w= .ok (.value (.bool b)) w:=by
   show(do let v <-(do eqGuard .neq ty (.tmp t3) (.const .nilIface) (Act.eval _ (.tmp t3)) (Act.eval _ (.const .nilIface));binOp .neq ty (Act.eval _ (.tmp t3)) (Act.eval _ (.const .nilIface)));pure (Next.value v):Sem Next).run C.P w=_;rw[Us];have hg:(eqGuard .neq ty (.tmp t3) (.const .nilIface) x .nilIface).run C.P w= .ok () w:=by
    rcases hx with⟨t,v,rfl⟩|rfl<;>rfl
   show((do eqGuard .neq ty (.tmp t3) (.const .nilIface) x .nilIface;binOp .neq ty x .nilIface:Sem Value)>>= λv=>pure (Next.value v)).run C.P w=_;rw[Sem.run_bind,Sem.run_bind,hg,Result.andThen_ok,hb];rfl
  refine Zt1 (o:=⟨some t4,.binOp .neq ty (.tmp t3) (.const .nilIface) eT,wS,eP,eA,none⟩) rfl rfl e2 ?_;show Exit.thenS _ Q .normal _ cs' w;refine wpS_cond (t:=b) ?_ ?_
  .simp only[Act.put,Act.eval]
   rw[qG,Nt (by simp;omega)];rfl
  .cases b<;>exact h
 show wpOpsS C.P _ _ [0,1] _ _ _;exact Zt4 (o:=⟨some t3,.call ⟨.builtin .recover, #[],aT⟩,rT,rP,rA,none⟩) rfl rfl (e1 _) aQ fin
theorem ZlW {fn:Func} (h:fn.results.isEmpty=true) (tmps:Array Value) (P:Program) (w:World):(results fn tmps).run P w= .ok (.tuple #[]) w:=by
 have e:fn.results= #[]:=by simpa using h
 simp[results,e]
theorem Zq2 (Cq:C.P.funcs[g]? =some fD) (vr:fD.body=some yp) (hd:Ep C.P fD.nfree fD.ntmps yp=some gb) (Im:fD.results.isEmpty=true):
  CallsD C.P g vs .returning w λe u' w'=>e= .returned (.tuple #[])/\u'= .returning/\w'=w:=by
 obtain⟨id,t3,t4,ty,aT,rT,rP,rA,eT,wS,eP,eA,rfl,dI,_,_,h3,h4,ql⟩:=Zpq hd;refine callsD_of_wpS Cq vr λwQ cs hu=>?_
 refine ZjQ (x:= .nilIface) (b:=false) dI h3 h4 ql (cs':=wQ::cs) ?_ (Zw1 ql w) (.inr rfl) ?_
 .simp only[recoverD,hu]
 .refine wpS_of_wp (wp_skip ?_)
  refine⟨rfl,.returning,?_,_,ZlW Im _ _ _,rfl,rfl,rfl⟩;cases wQ;grind
theorem ZsQ (hF:FX C) {c:Zg} (hc:ZR C c) {n:Nat} {vs:List Value} (Cq:C.P.funcs[g]? =some fD) (vr:fD.body=some yp) (hd:Ep C.P fD.nfree fD.ntmps yp=some gb) (Im:fD.results.isEmpty=true)
  (fu:xC (rJ fD.ntmps) gb=true) (hm:vs.length=fD.nfree) (hmN:fD.nfree<=fD.ntmps) (h:exec C [] c n gb .z (λ_=>ay []) (λ_ _=>fail) (λ_=>ay []) ⟨0,jE 0 ds⟩ s=some (.val ds0,s3))
  (yJ:eX C ψ (CS s) w) (HF:qM ψ w) (Cr:Glob C ψ) (nv:bB C ψ ds vs) (AG: ∀v,ψ (.inr v)=none) (Ix: ∀i,s.length<=i->i<s3.length->ψ (.inl i)=none) {ch:List PanicEntry} (uc:nL ch):
  CallsD C.P g vs.toArray (.panicking ch) w λe u' w'=>e= .returned (.tuple #[])/\settle u'= .returning/\∃ψ',jh C ψ s w ψ' s3 w':=by
 obtain⟨id,t3,t4,ty,aT,rT,rP,rA,eT,wS,eP,eA,rfl,dI,AO,Mo,h3,h4,ql⟩:=Zpq hd;obtain⟨pt,pv,rfl⟩:=uc;refine callsD_of_wpS Cq vr λwQ cs hu=>?_
 refine ZjQ (x:= .iface pt pv) (b:=true) dI h3 h4 ql (cs':= { wQ with mode:= .panicking [{ v:= .iface pt pv,recovered:=true }] } ::cs) ?_ (Zva ql _ _ w) (.inl ⟨_,_,rfl⟩) ?_
 .simp only[recoverD,hu]
 simp only[ae];have lk: ∀r:Out ah×St,Lk (λ_:Env=>(ay []:M ah)) r:=by
  intro r E s' h';simp only[ay,fQ]at h';grind
 let f:Fr:=⟨s3.length,fD.ntmps,ψ,s,w,rJ fD.ntmps,λx h=>by unfold rJ at h;rw[pG]at h;exact h,λt=>(C4 vs.toArray fD.ntmps t3 t4 (.iface pt pv) true).getD t Go.undef,[]⟩
 have vh: ∀t,(⟨0,jE 0 ds⟩:Env).get t=match ds[t]? with|some d=> .v d|none=> .u:=by
  intro t;have:=Zip 0 ds t;simp only[cE,lM,Nat.sub_zero]at this;exact this
 have CY: ∀t v,((⟨0,jE 0 ds⟩:Env).get t).cS≠some v:=by
  intro t v;rw[vh];cases ds[t]? <;>simp[ez.cS]
 have Ag: ∀h ab,CR ⟨0,jE 0 ds⟩ s h ab->CS s h ab:=by
  intro h ab c;cases h with
  |inl i=>exact⟨i,rfl,c⟩
  |inr v=>
   rcases c with⟨t,n,cs,e,_⟩|⟨t,l,p,e,_⟩
   .grind
   grind
 have R:Rel C f ψ ⟨0,jE 0 ds⟩ s { tmps:=C4 vs.toArray fD.ntmps t3 t4 (.iface pt pv) true,defers:=[] } w:=by
  refine⟨yJ.weaken λ_ _ _ _ c=>Ag _ _ c,⟨by grind,λt r v o e=>?_,by grind,by grind⟩,HF,Cr,λt=>?_,?_,rfl,Ix,λv _=>AG v,(Ext.refl ψ (CS s) w).weaken λ_ _ _ _ c=>Ag _ _ c,λi cb e=> .inl e,aO _,AG⟩
  .rw[vh]at e
   cases hd:ds[t]? <;>rw[hd]at e<;>cases e
  .rw[vh]
   cases hd:ds[t]? with
   |none=>trivial
   |some d=>
    obtain⟨v,hv,hr⟩:=nv.get hd;have ax:=(eK.1 hv).1;have:(C4 vs.toArray fD.ntmps t3 t4 (.iface pt pv) true).getD t Go.undef=v:=by
     unfold C4;rw[qG,Array.getElem?_setIfInBounds_ne (by omega),Array.getElem?_setIfInBounds_ne (by omega),Ns (by simpa using ax)];simp[hv]
    show fp C ψ (.v d) _;rw[this];exact hr
  .refine⟨?_,λ_ _=>rfl⟩
   show(C4 vs.toArray fD.ntmps t3 t4 (.iface pt pv) true).size=fD.ntmps;simp[C4];omega
 refine wpS_of_wp ?_;have done: ∀ {E':Env} {s':St} {ψ':Ps} {a':Act} {w':World},(ay []:M ah) s'=some (.val ds0,s3)->Rel C f ψ' E' s' a' w'->
   a'.defers=[]/\∃u',({ wQ with mode:= .panicking [{ v:= .iface pt pv,recovered:=true }] } ::cs:List Frame)= { wQ with mode:=u' } ::cs/\∃v,(results fD a'.tmps).run C.P w'= .ok v w'/\Ending.returned v= .returned (.tuple #[])/\settle u'= .returning/\∃ψ',jh C ψ s w ψ' s3 w':=by
  intro E' s' ψ' a' w' h' R';simp only[ay,fQ,Dr]at h';obtain⟨_,rfl⟩:=h';exact⟨R'.defs,_,rfl,_,ZlW Im _ _ _,rfl,rfl,_,R'.yj⟩
 refine SL hF.cfg hc hF.LI (f:=f) (aO _) gb .z _ _ _ fu (lk _) (λi E s h=>by cases h) (lk _) _ s h ψ _ w _ R ?_ ?_ ?_ ?_
 .intro E' s' ψ' a' w' h' R' _;exact done h' R'
 .intro i E' s' ψ' a' w' h' _ _;cases h'
 .intro E' s' ψ' a' w' h' R';exact done h' R'
 grind
end
section
variable {C:bx} {ψ:Ps} {E:Env} {s:St} {w:World}
def He (ψ:Ps) (E:Env) (tmps:Array Value) (l:List ResultVar):Prop:=
 ∀a t,ResultVar.cell a t∈l->∀i o,E.get a= .v (.ptr (some (i,o)))->∃cb:CB,ψ (.inl i)=some cb/\tmps.getD a undef= .pointer (some ⟨cb.b,cb.o+o,none⟩)
theorem RH (hs:eX C ψ (CS s) w) {tmps:Array Value} {r:Out β×St} : ∀ {l:List ResultVar} {K:ah->M β},He ψ E tmps l->pA C E l K s=some r->∃ds vs,K ds s=some r/\bB C ψ ds vs/\(l.mapM (Ll tmps)).run C.P w= .ok vs w
 |[],K,_,h=>⟨[],[],h,.nil,by simp⟩
 | .tmp t::l,K,_,h=>by cases h
 | .cell a t::l,K,hp,h=>by
  have fw:He ψ E tmps l:=λa t hm=>hp a t (wb _ hm)
  simp only[pA]at h;cases hx:E.get a with
  |v d=>
   rw[hx]at h;cases d with
   |ptr p=>
    cases p with
    |none=>cases h
    |some q=>
     obtain⟨i,o⟩:=q;simp only at h;obtain⟨cb,e1,e3⟩:=hp a t (by simp) i o hx;obtain⟨td,ht,h⟩:=oI h;have asA:(asAddr (tmps.getD a undef)).run C.P w= .ok ⟨cb.b,cb.o+o,none⟩ w:=by rw[e3];rfl
     cases cX:Z9 C.P t with
     |true=>
      rw[cX]at h;simp only[ae]at h;obtain⟨fz,cs,cc,hn,h⟩:=GA h;have hh:=hs.holds (.inl i) cb _ e1 ⟨i,rfl,cc⟩;obtain⟨ds,vs,hk,hr,dJ⟩:=RH hs fw h;obtain⟨vc,hv,_,kZ,h1⟩:=JV (P:=C.P) hh (p:=o) (n:=C.P.cellsOf t) hn;refine⟨_,_,hk,.cons _ _ _ _ (.agg _ vc kZ h1) hr,GS ?_ dJ⟩;show(do loadVar t (<-asAddr (tmps.getD a undef)):Sem Value).run C.P w=_;rw[Sem.run_bind,asA,Result.andThen_ok];exact JC ht cX _ w hv
     |false=>
      rw[cX]at h;simp only[af]at h;unfold bF at h;cases kU:s.cells i with
      |none=>rw[kU]at h;cases h
      |some cs=>
       rw[kU]at h;simp only at h;cases hd:cs[o]? with
       |none=>rw[hd]at h;cases h
       |some d=>
        rw[hd]at h;simp only at h;have cc: ∃f,c8 s i=some (.cells f cs):=by
         unfold St.cells at kU;split at kU
         .rename_i bk yz
          cases kU;exact⟨bk.fK,by simp only[c8,yz]⟩
         .cases kU
        obtain⟨fz,cc⟩:=cc;have hh:=hs.holds (.inl i) cb _ e1 ⟨i,rfl,cc⟩;obtain⟨ds,vs,hk,hr,dJ⟩:=RH hs fw h;obtain⟨y,hv,kZ,_⟩:=Km (P:=C.P) hh hd;refine⟨_,_,hk,.cons _ _ _ _ kZ hr,GS ?_ dJ⟩;show(do loadVar t (<-asAddr (tmps.getD a undef)):Sem Value).run C.P w=_;rw[Sem.run_bind,asA,Result.andThen_ok];exact F7 ht cX _ w hv
   |_=>cases h
  |_=>rw[hx]at h;cases h
theorem RJ {s s':St} {o:Out ah} : ∀ {l:List ResultVar} {K:ah->M ah},pA C E l K s=some (o,s')->(∀ds s o s',K ds s=some (o,s')->s'=s)->s'=s
 |[],K,h,hK=>hK _ _ _ _ h
 | .tmp t::l,K,h,_=>by cases h
 | .cell a t::l,K,h,hK=>by
  simp only[pA]at h;cases hx:E.get a with
  |v d=>
   rw[hx]at h;cases d with
   |ptr p=>
    cases p with
    |none=>cases h
    |some q=>
     simp only at h;obtain⟨td,ht,h⟩:=oI h;cases cX:Z9 C.P t with
     |true=>
      rw[cX]at h;simp only[ae]at h;obtain⟨_,_,_,_,h⟩:=GA h;exact RJ h λds s o s' h=>hK _ s o s' h
     |false=>
      rw[cX]at h;simp only[af]at h;unfold bF at h;split at h
      .split at h
       .exact RJ h λds s o s' h=>hK _ s o s' h
       .cases h
      .cases h
   |_=>cases h
  |_=>rw[hx]at h;cases h
theorem ZqF: ∀ {l:List ResultVar} {t:Nat},vP l t=true->∀a u,ResultVar.cell a u∈l->a≠t
 |[],_,_,a,u,hm=>by cases hm
 | .tmp _::_,_,h,_,_,_=>by cases h
 | .cell b v::l,t,h,a,u,hm=>by
  simp only[vP,aW,lL]at h;rcases dW.1 hm with e|hm
  .grind[Dl]
  .exact ZqF h.2 a u hm
theorem ZpX: ∀ {l:List ResultVar} (_: ∀t,ResultVar.tmp t∉l) {a u:Nat},ResultVar.cell a u∈l->vP l a=false
 |[],_,a,u,hm=>by cases hm
 | .tmp t::_,h,_,_,_=>absurd (by simp) (h t)
 | .cell b v::l,h,a,u,hm=>by
  simp only[vP];rcases dW.1 hm with e|hm
  .simp_all
  .rw[ZpX (by grind) hm,Bg]
theorem Zux {c:Option Code} {gX:List Operand} (h:Hq c=some (td,g,gX)):
  ∃id t1 p1 a1 aT t2 p2 a2,c=some (.region id #[⟨some td,.makeFunc (.func g) #[] gX.toArray,t1,p1,a1,none⟩,⟨none,.defer ⟨.value (.tmp td), #[],aT⟩,t2,p2,a2,none⟩] false):=by
 unfold Hq at h;split at h
 .rename_i id td' g' agw t1 p1 a1 t' aT t2 p2 a2
  cases hb:Nat.beq td' t' with
  |false=>rw[hb]at h;cases h
  |true=>
   rw[hb]at h;simp_all
 .cases h
theorem Zuo {Q:Exit->Act->World->Prop} {a:Act} {x:Value} (ho:ops[i]? =some o) (hg:o.guard=none) (he:(execOp a.eval o).run P w= .ok (.value x) w)
  (h:wpOps P ops Q rest (a.put o.dst x) w):wpOps P ops Q (i::rest) a w:=by
 simp only[wpOps,ho];rw[bG (by simp[Region.wanted,hg])];left;unfold Oper.wp;rw[he];exact h
theorem Zsm {Q:Exit->Act->World->Prop} {a:Act} {d:Deferred} (ho:ops[i]? =some o) (hg:o.guard=none) (he:(execOp a.eval o).run P w= .ok (.defer d) w)
  (h:wpOps P ops Q rest ({ a with defers:=d::a.defers }.put o.dst Go.undef) w):wpOps P ops Q (i::rest) a w:=by
 simp only[wpOps,ho];rw[bG (by simp[Region.wanted,hg])];left;unfold Oper.wp;rw[he];exact h
end
theorem Znd {m:M ah} {H:Bool->M β} {r:Out β×St} (h:tR m H s=some r):(∃ds s2,m s=some (.val ds,s2)/\H false s2=some r)\/(∃s2,m s=some (.eV,s2)/\H true s2=some r):=by
 grind[tR]
theorem ZxU {α:Type} {l:List α} {k:Nat} {x:α} (h:l[k]? =some x):l=l.take k++x::l.drop (k+1):=by
 obtain⟨hk,rfl⟩:=eK.1 h;rw[<-iC hk,oA]
theorem zZ (r:Out ah×St):Lk (λ_:Env=>(ay []:M ah)) r:=by
 intro E s' h';grind[ay,fQ]
def isG (k:Nat) (fn:Func) (g:FuncId):Bool:=match fn.body with
 |some code=>match Hq ((nZ code)[k]?)with
  |some (_,g',_)=>Nat.beq g' g
  |none=>false
 |none=>false
set_option maxHeartbeats 1000000 in
theorem Zwb (hF:FX C) {c:Zg} (hc:ZR C c) {n k:Nat} {fn fD:Func} (hfn:C.P.funcs[tW]? =some fn) (qg:(fn.name== "runtime.NumGoroutine")=false) (Cq:C.P.funcs[g]? =some fD) (adM:(fD.name== "runtime.NumGoroutine")=false) (hg:isG k fn g=true) {out:Out ah×St} (h:TA C k fn fD c n args s=some out):K2 C tW args s out:=by
 unfold TA at h;cases hb:fn.body with
 |none=>rw[hb]at h;cases h
 |some code=>
 cases vr:fD.body with
 |none=>rw[hb,vr]at h;cases h
 |some yp=>
 rw[hb,vr]at h;simp only at h;cases hd:Hq ((nZ code)[k]?)with
 |none=>rw[hd]at h;cases h
 |some p=>
 obtain⟨td,g',gX⟩:=p;cases Co:Ep C.P fD.nfree fD.ntmps yp with
 |none=>rw[hd,Co]at h;cases h
 |some gb=>
 rw[hd,Co]at h;simp only at h;have:g'=g:=by unfold isG at hg;rw[hb]at hg;simp only at hg;rw[hd]at hg;exact dy hg
 subst this;obtain⟨fu,h⟩:=Zp h;simp only[aW]at fu;obtain⟨⟨⟨⟨⟨⟨⟨⟨⟨⟨k1,k2⟩,k3⟩,k4⟩,k5⟩,k6⟩,k7⟩,k8⟩,k9⟩,VH⟩,VI⟩:=fu;have k4:=pH k4;have k5:td<fn.ntmps:=by rw[pG]at k5;exact k5
 have k7:=dy k7;have VH:=pH VH;have VI:=dy VI;obtain⟨ds,h,oj,nu,sR⟩:=Gy h;have hlen:ds.length=fn.params.size:=by rw[nu];simp
 obtain⟨id,t1,p1,a1',aT,t2,p2,a2',hx⟩:=Zux hd;have Uj:=ZxU hx;have H9: ∀t,ResultVar.tmp t∉fn.results.toList:=by
  intro t hm;have: ∀(l:List ResultVar) (u:Nat),vP l u=true->ResultVar.tmp t∉l:=by
   intro l;induction l with
   |nil=>intro u _ hm;cases hm
   |cons x l ih=>
    intro u hu hm;cases x with
    |tmp y=>cases hu
    |cell a v=>
     simp only[vP,aW]at hu;rcases dW.1 hm with e|hm
     .cases e
     .exact ih u hu.2 hm
  exact this _ _ k6 hm
 have Ey: ∀E s' r,pA C E fn.results.toList (λds=>(ay ds:M ah)) s'=some r->r.2=s':=by
  intro E s' r h';obtain⟨o,s2⟩:=r;exact RJ h' λds s o s' h=>by simp only[ay,fQ,Dr]at h;exact h.2.symm
 have lkf:Lk (λE=>pA C E fn.results.toList λds=>(ay ds:M ah)) out:=λE s' h'=>by rw[Ey E s' out h'];exact aO _
 have half: ∀E s',(aB (Nat.beq E.bL 0&&MP (E.get td)) (y6 C E gX λcs=>
      tR (wV C c n ((nZ code).drop (k+1)) (λ_=>ay []) (λ_=>ay []) E)
       λp=>bif p then tR (exec C [] c n gb .z (λ_=>ay []) (λ_ _=>fail) (λ_=>ay []) ⟨0,jE 0 cs⟩) λp=>bif p then fail else pA C E fn.results.toList λds=>(ay ds:M ah)
        else pA C E fn.results.toList λds=>(ay ds:M ah))) s'=some out->
   E.bL=0/\E.get td= .u/\∃cs o s2,SV C E gX cs/\wV C c n ((nZ code).drop (k+1)) (λ_=>ay []) (λ_=>(ay []:M ah)) E s'=some (o,s2)/\s'.length<=s2.length/\
    (((∃x,o= .val x)/\pA C E fn.results.toList (λds=>(ay ds:M ah)) s2=some out)\/
     (o= .eV/\∃x s3,exec C [] c n gb .z (λ_=>ay []) (λ_ _=>fail) (λ_=>(ay []:M ah)) ⟨0,jE 0 cs⟩ s2=some (.val x,s3)/\s2.length<=s3.length/\pA C E fn.results.toList (λds=>(ay ds:M ah)) s3=some out)):=by
  intro E s' h';obtain⟨mD,h'⟩:=Z8 h';rw[aW]at mD;have hu:E.get td= .u:=by
   have:=mD.2;unfold MP at this;cases he:E.get td<;>rw[he]at this<;>first|rfl|cases this
  obtain⟨cs,h',MI⟩:=Gr h';refine⟨dy mD.1,hu,cs,?_⟩;rcases Znd h' with⟨x,s2,hm,hf⟩|⟨s2,hm,hf⟩
  .exact⟨_,s2,MI,hm,DO (r:=(.val x,s2)) hF.cfg hc _ _ _ (zZ _) (zZ _) E s' hm,.inl ⟨⟨x,rfl⟩,hf⟩⟩
  .simp only[ae]at hf
   rcases Znd hf with⟨x,s3,gF,hf⟩|⟨s3,_,hf⟩
   .exact⟨_,s2,MI,hm,DO (r:=(.eV,s2)) hF.cfg hc _ _ _ (zZ _) (zZ _) E s' hm,.inr ⟨rfl,x,s3,gF,GL (r:=(.val x,s3)) hF.cfg hc gb .z _ _ _ (zZ _) (λ_ _ _ h=>by cases h) (zZ _) _ s2 gF,hf⟩⟩
   .cases hf
 have lkh:Lk (λE=>aB (Nat.beq E.bL 0&&MP (E.get td)) (y6 C E gX λcs=>
      tR (wV C c n ((nZ code).drop (k+1)) (λ_=>ay []) (λ_=>ay []) E)
       λp=>bif p then tR (exec C [] c n gb .z (λ_=>ay []) (λ_ _=>fail) (λ_=>ay []) ⟨0,jE 0 cs⟩) λp=>bif p then fail else pA C E fn.results.toList λds=>(ay ds:M ah)
        else pA C E fn.results.toList λds=>(ay ds:M ah))) out:=by
  intro E s' h';obtain⟨_,_,cs,o,s2,_,_,hl,hh⟩:=half E s' h';rcases hh with⟨_,hf⟩|⟨_,x,s3,_,AM,hf⟩
  .rw[Ey E s2 out hf];exact hl
  .rw[Ey E s3 out hf];omega
 refine⟨DO hF.cfg hc _ _ _ lkh lkf _ s h,λψ w vs yJ HF Cr jV AG Ix=>?_⟩;have nv:=sR C ψ vs jV;have xr:=nv.len;unfold xY;have sQ:(callFunc tW vs.toArray).run C.P w= .ok (.enter tW vs.toArray) w:=by
  have vy: ¬fn.name= "runtime.NumGoroutine" :=by simpa using qg
  simp[callFunc,hfn,vy,hb]
 rw[sQ];refine calls_of_wp_defers hfn hb (Zxz _ _ _ _ ?_)
 let f:Fr:=⟨out.2.length,fn.ntmps,ψ,s,w,rJ fn.ntmps,λx h=>by unfold rJ at h;rw[pG]at h;exact h,λt=>(vs.toArray++Array.replicate (fn.ntmps-vs.toArray.size) Go.undef).getD t Go.undef,[]⟩
 have vh: ∀t,(⟨0,jE 0 ds⟩:Env).get t=match ds[t]? with|some d=> .v d|none=> .u:=by
  intro t;have:=Zip 0 ds t;simp only[cE,lM,Nat.sub_zero]at this;exact this
 have CY: ∀t v,((⟨0,jE 0 ds⟩:Env).get t).cS≠some v:=by
  intro t v;rw[vh];cases ds[t]? <;>simp[ez.cS]
 have Ag: ∀h ab,CR ⟨0,jE 0 ds⟩ s h ab->CS s h ab:=by
  intro h ab c;cases h with
  |inl i=>exact⟨i,rfl,c⟩
  |inr v=>
   rcases c with⟨t,n,cs,e,_⟩|⟨t,l,p,e,_⟩
   .exact absurd (by rw[e];rfl) (CY t v)
   .exact absurd (by rw[e];rfl) (CY t v)
 have R:Rel C f ψ ⟨0,jE 0 ds⟩ s { tmps:=vs.toArray++Array.replicate (fn.ntmps-vs.toArray.size) Go.undef,defers:=[] } w:=by
  refine⟨yJ.weaken λ_ _ _ _ c=>Ag _ _ c,⟨λt v e=>absurd e (CY t v),λt r v o e=>?_,λt v n cs e=>absurd (by rw[e];rfl) (CY t v),λt t' v e _=>absurd e (CY t v)⟩,HF,Cr,λt=>?_,?_,rfl,Ix,λv _=>AG v,(Ext.refl ψ (CS s) w).weaken λ_ _ _ _ c=>Ag _ _ c,λi cb e=> .inl e,aO _,AG⟩
  .rw[vh]at e
   cases hd:ds[t]? <;>rw[hd]at e<;>cases e
  .rw[vh]
   cases hd:ds[t]? with
   |none=>trivial
   |some d=>
    obtain⟨v,hv,hr⟩:=nv.get hd;have:(vs.toArray++Array.replicate (fn.ntmps-vs.toArray.size) Go.undef).getD t Go.undef=v:=by
     have ax:=(eK.1 hv).1;rw[qG,Ns (by simpa using ax)];simp[hv]
    show fp C ψ (.v d) _;rw[this];exact hr
  .refine⟨?_,λ_ _=>rfl⟩
   show(vs.toArray++Array.replicate (fn.ntmps-vs.toArray.size) Go.undef).size=fn.ntmps;simp only[Array.size_append,Array.size_replicate,List.size_toArray];omega
 have done: ∀ {E':Env} {s':St} {ψ':Ps} {tmps:Array Value} {w':World},pA C E' fn.results.toList (λds=>(ay ds:M ah)) s'=some out->jh C ψ s w ψ' s' w'->He ψ' E' tmps fn.results.toList->
   ∃v,(results fn tmps).run C.P w'= .ok v w'/\∃ds,out.1= .val ds/\∃ψ',jh C ψ s w ψ' out.2 w'/\zn C ψ' ds v:=by
  intro E' s' ψ' tmps w' h' cp hp;obtain⟨lz,iI,hk,hr,dJ⟩:=RH cp.eG hp h';simp only[ay,fQ]at hk;refine⟨_,Zmm dJ,lz,by rw[<-hk],ψ',?_,?_⟩
  .rw[<-hk];exact cp
  .by_cases h1:iI.length=1
   .rw[dif_pos h1]
    cases hr with
    |nil=>cases h1
    |cons d v ds vs a b=>
     cases b with
     |nil=>exact .inl ⟨d,rfl,a⟩
     |cons _ _ _ _ _ _=>simp at h1
   .rw[dif_neg h1]
    exact .inr ⟨by rw[hr.len];exact h1,_,rfl,hr⟩
 have YJ: ∀ {ψ':Ps} {E':Env} {tmps:Array Value},(∀t,fp C ψ' (E'.get t) (tmps.getD t Go.undef))->He ψ' E' tmps fn.results.toList:=by
  intro ψ' E' tmps hr a t _ i o he;have:=hr a;rw[he]at this;have this:VR C ψ' (.ptr (some (i,o))) (tmps.getD a Go.undef):=this;generalize tmps.getD a Go.undef=v at this;cases this with
  |ptr _ _ cb e=>exact⟨cb,e,rfl⟩
 rw[Uj,SP];refine RT hF.cfg hc hF.LI (f:=f) (aO _) _ _ _ k1 lkh lkf _ s h ψ _ w _ R ?_ ?_ ?_
 ·
  intro E1 s1 il a1 w1 h1 R1;obtain⟨E8,hu,cs,o,s2,MI,hm,Mi,hh⟩:=half E1 s1 h1;show Code.wp C.P _ _ a1 w1;have VE: ∀v,il (.inr v)=none:=λv=>R1.uB v (by rw[E8];exact cE _)
  have e1:mH il=il:=by
   funext x;cases x with
   |inl i=>rfl
   |inr v=>exact(VE v).symm
  have TD:=R1.yj;rw[e1]at TD;have LY: ∀h ab,CR E1 s1 h ab->CS s1 h ab:=by
   intro h ab c;cases h with
   |inl i=>exact⟨i,rfl,c⟩
   |inr v=>
    rcases c with⟨t,n,cs,e,_⟩|⟨t,l,p,e,_⟩
    .have:=R1.gD.lt t v (by rw[e];rfl);omega
    .have:=R1.gD.lt t v (by rw[e];rfl);omega
  have hN2:s2.length<=out.2.length:=by
   rcases hh with⟨_,hf⟩|⟨_,x,s3,_,AM,hf⟩
   .rw[Ey E1 s2 out hf];exact aO _
   .rw[Ey E1 s3 out hf];exact AM
  have aaA:bB C il cs (gX.map a1.eval):=GI (o:=⟨some td,.makeFunc (.func g') #[] gX.toArray,t1,p1,a1',none⟩) (D:=λ_=>True) R1.pre (λx hx=>by simp[Op.operands];exact hx) MI;refine wp_region (Zuo (o:=⟨some td,.makeFunc (.func g') #[] gX.toArray,t1,p1,a1',none⟩) (x:= .func (.func g') #[] (gX.toArray.map a1.eval)) rfl rfl (by simp[execOp,Instr.makeFunc]) ?_);have ae5:a1.tmps.size=fn.ntmps:=R1.mQ.1;have Us:(a1.put (some td) (.func (.func g') #[] (gX.toArray.map a1.eval))).eval (.tmp td)= .func (.func g') #[] (gX.toArray.map a1.eval):=by
   simp only[Act.put,Act.eval];rw[qG,Nt (by omega)];rfl
  refine Zsm (o:=⟨none,.defer ⟨.value (.tmp td), #[],aT⟩,t2,p2,a2',none⟩) (d:= { target:= .fn (.func g') (gX.toArray.map a1.eval),args:= #[] }) rfl rfl ?_ ?_
  .simp only[execOp,resolve,Us,Deferred.ofValue]
   simp
  show rY C.P ((nZ code).drop (k+1)) _ _ w1
  let d:Deferred:= { target:= .fn (.func g') (gX.toArray.map a1.eval),args:= #[] }
  let a2:Act:= { tmps:=a1.tmps.setIfInBounds td (.func (.func g') #[] (gX.toArray.map a1.eval)),defers:=[d] }
  have EG:({ (a1.put (some td) (.func (.func g') #[] (gX.toArray.map a1.eval)))with defers:=d::(a1.put (some td) (.func (.func g') #[] (gX.toArray.map a1.eval))).defers } :Act).put none Go.undef=a2:=by
   have:a1.defers=[]:=R1.defs;simp only[Act.put,this,a2]
  show rY C.P ((nZ code).drop (k+1)) _ (({ (a1.put (some td) (.func (.func g') #[] (gX.toArray.map a1.eval)))with defers:=d::(a1.put (some td) (.func (.func g') #[] (gX.toArray.map a1.eval))).defers } :Act).put none Go.undef) w1;rw[EG];have Yw: ∀t,t≠td->a2.tmps.getD t Go.undef=a1.tmps.getD t Go.undef:=by
   intro t ht;simp only[a2];rw[qG,qG,Array.getElem?_setIfInBounds_ne (Ne.symm ht)]
  let f2:Fr:=⟨s2.length,fn.ntmps,il,s1,w1,λt=>rJ fn.ntmps t&&vP fn.results.toList t,λx h=>by rw[aW]at h;have h:=h.1;unfold rJ at h;rw[pG]at h;exact h,λt=>a2.tmps.getD t Go.undef,[d]⟩
  have R2:Rel C f2 il E1 s1 a2 w1:=by
   refine⟨R1.eG,R1.gD,R1.gm,R1.ku,λt=>?_,⟨?_,λ_ _=>rfl⟩,rfl,λi h1 h2=>R1.rX i h1 (lj h2 hN2),R1.uB,(Ext.refl il (CS s1) w1).weaken λ_ _ _ _ c=>LY _ _ c,λi cb e=> .inl e,aO _,VE⟩
   .by_cases ht:t=td
    .subst ht;rw[hu];trivial
    .rw[Yw t ht];exact R1.jA t
   .show(a1.tmps.setIfInBounds _ _).size=fn.ntmps
    simp[ae5]
  have hinv:(invoke (.fn (.func g') (gX.toArray.map a1.eval)) #[]).run C.P=λw=> .ok (.enter g' (gX.map a1.eval).toArray) w:=by
   funext w';have vy: ¬fD.name= "runtime.NumGoroutine" :=by simpa using adM
   have:(#[]:Array Value)++gX.toArray.map a1.eval=(gX.map a1.eval).toArray:=by simp
   show(callFunc g' (#[]++gX.toArray.map a1.eval)).run C.P w'=_;rw[this];simp[callFunc,Cq,vy,vr]
  have afl: ∀ {a':Act},Ks f2 a'->∀b u,ResultVar.cell b u∈fn.results.toList->a'.tmps.getD b Go.undef=a1.tmps.getD b Go.undef:=by
   intro a' hk b u hm;have fu:f2.ok b=false:=by
    show(rJ fn.ntmps b&&vP fn.results.toList b)=false;rw[ZpX H9 hm,Bg]
   rw[hk.2 b fu];exact Yw b (ZqF k6 b u hm)
  have afI:=YJ R1.jA;have YI: ∀ {ψ':Ps} {a':Act},Ks f2 a'->(∀h cb,il h=some cb->ψ' h=some cb)->He ψ' E1 a'.tmps fn.results.toList:=by
   intro ψ' a' hk ad5 b u hm i o he;obtain⟨cb,h1,h2⟩:=afI b u hm i o he;exact⟨cb,ad5 _ _ h1,by rw[afl hk b u hm];exact h2⟩
  have yq: ∀ {E':Env} {s':St} {ψ':Ps} {a':Act} {w':World},(ay []:M ah) s'=some (o,s2)->Rel C f2 ψ' E' s' a' w'->Leaves C.P fn a'.tmps (λe w'=>match e,w' with
    | .returned v,w'=>∃ds,out.1= .val ds/\∃ψ',jh C ψ s w ψ' out.2 w'/\zn C ψ' ds v
    | .panicked ch,w'=>nL ch/\out.1= .eV/\∃ψ',jh C ψ s w ψ' out.2 w'
    | .outgrown,_=>False) a'.defers .returning w':=by
   intro E' s' ψ' a' w' h' R';simp only[ay,fQ,Dr]at h';obtain⟨ho,iy⟩:=h';have ho:o= .val []:=ho.symm;have iy:s'=s2:=iy;subst iy;have Um:a'.defers=[d]:=R'.defs;rw[Um];refine leaves_cons (by simp) (by rw[hinv]) ?_;refine(Zq2 (vs:=(gX.map a1.eval).toArray) Cq vr Co k9).mono ?_;rintro e u' vY ⟨rfl,rfl,rfl⟩;have u7:=R'.yj;rcases hh with⟨_,hf⟩|⟨hp,_⟩
   .exact done hf (TD.trans R1.len Mi u7) (YI R'.mQ u7.ext.mono)
   .rw[ho]at hp;cases hp
  refine RT hF.cfg hc hF.LI (f:=f2) (r:=(o,s2)) (aO _) _ _ _ k2 (zZ _) (zZ _) E1 s1 hm il a2 w1 _ R2 ?_ ?_ ?_
  .intro E' s' ψ' a' w' h' R';exact yq h' R'
  .intro E' s' ψ' a' w' h' R';exact yq h' R'
  .intro ch a' w' s' e hv hp
   cases e;rcases hh with⟨⟨x,hx⟩,_⟩|⟨_,x,s3,AO,AM,hf⟩
   .cases hx
   obtain⟨jN,u7⟩:=hp.post;have Um:a'.defers=[d]:=hp.defs;show Leaves C.P fn a'.tmps _ a'.defers (.panicking ch) w';rw[Um];refine leaves_cons (by simp) (by rw[hinv]) ?_;have vB:out.2=s3:=Ey E1 s3 out hf;refine(ZsQ hF hc (ψ:=jN) (s:=s2) (w:=w') (vs:=gX.map a1.eval) Cq vr Co k9 k3 (by simpa using VI) VH AO u7.eG (u7.ext.gm R1.gm) (u7.ext.ku R1.ku) (aaA.mono (ψ:=il) (ψ':=jN) λ_ _ e=>u7.ext.mono _ _ e) (λv=>?_) (λi h1 h2=>?_) hv).mono ?_
   .cases vI:jN (.inr v)with
    |none=>rfl
    |some cb=>
     rcases u7.news _ _ vI with e|⟨i,e,_⟩
     .have:=VE v
      rw[show f2.ik=il from rfl]at e;rw[this]at e;cases e
     .cases e
   .cases vI:jN (.inl i)with
    |none=>rfl
    |some cb=>
     rcases u7.news _ _ vI with e|⟨j,e,_,hj⟩
     .have:=R1.rX i (gJ Mi h1) (by rw[<-vB]at h2;exact h2)
      rw[show f2.ik=il from rfl]at e;rw[this]at e;cases e
     .cases e;omega
   .rintro e u' vY ⟨rfl,db,Ji,cp3⟩
    show Leaves C.P fn a'.tmps _ [] (settle u') vY;rw[db];have aaC:=(TD.trans R1.len Mi u7).trans (gJ R1.len Mi) AM cp3;exact done hf aaC (YI hp.ks λ_ _ e=>cp3.ext.mono _ _ (u7.ext.mono _ _ e))
 ·
  intro E' s' ψ' a' w' h' R';show Leaves C.P fn a'.tmps _ a'.defers .returning w';rw[show a'.defers=[]from R'.defs];refine done h' R'.yj λb u hm i o he=>?_
  obtain⟨cb,h1,h2⟩:=YJ R'.jA b u hm i o he;exact⟨cb,h1,h2⟩
 .intro ch a' w' s' e hv hp
  show Leaves C.P fn a'.tmps _ a'.defers (.panicking ch) w';rw[show a'.defers=[]from hp.defs];obtain⟨ψ',fw⟩:=hp.post;exact⟨hv,by rw[e],ψ',by rw[e];exact fw⟩
theorem ZkN {fn:Func} {w:World} {R:Ending->World->Prop} (hfn:P.funcs[f]? =some fn) (qg:(fn.name== "runtime.NumGoroutine")=false) (hb:fn.body.isSome=true)
  (h:Calls P f vs w R):xY P f vs w R:=by
 have vy: ¬fn.name= "runtime.NumGoroutine" :=by simpa using qg
 have e:(callFunc f vs).run P w= .ok (.enter f vs) w:=by
  cases ec:fn.body with
  |none=>rw[ec]at hb;cases hb
  |some c=>simp[callFunc,hfn,vy,ec]
 grind[xY]
end Go.Gv
