/- What a region's operations do, one behind the other, as the machine takes them. -/
import Derived.Test.YtegglibipjjblaaGreatDoorGvZOps
import Derived.Laws.Externs
import Derived.Lib.Bytealg
import Derived.OrdersHeld
import Derived.Recover
import Derived.Defers
import Derived.Lib.Join
import Derived.Lib.Repeat
set_option linter.all false
namespace Go.Gv
variable {β:Type}
structure mN (E E':Env):Prop where
 bQ:E'.bQ=E.bQ
 get: ∀t,E'.get t=E.get t\/E'.get t= .u
def GW (dst:Nat->Option Nat) (E:Env) (o:Oper):Prop:=o.guard=none\/∃j w r,o.guard=some (j,w)/\dst j=some r/\E.get r= .v (.bool w)
def GU (dst:Nat->Option Nat) (E:Env) (o:Oper):Prop:=∃j w r,o.guard=some (j,w)/\dst j=some r/\((∃b,E.get r= .v (.bool b)/\b≠w)\/E.get r= .un)
section
variable (C:bC) (dst:Nat->Option Nat) (pr ms:al)
inductive Step:Oper×Md->Env->St->Env->St->Prop
 |act {p:Oper×Md} {E s E' s'} :GW dst E p.1->mM (nj p.2 E) pr ms p.1 E s E' s'->Dk C p.1 (pO p.2 E) (nj p.2 E) E s E' s'->Step p E s E' s'
 |skip {p:Oper×Md} {E s} :GU dst E p.1->Step p E s (E.fg p.1.dst .un) s
inductive Tr:List (Oper×Md)->Env->St->Env->St->Prop
 |nil (E s):Tr [] E s E s
 |iU {l E E1 s E2 s2} :mN E E1->Tr l E1 s E2 s2->Tr l E s E2 s2
 |cons {p l E s E1 s1 E2 s2} :Step C dst pr ms p E s E1 s1->Tr l E1 s1 E2 s2->Tr (p::l) E s E2 s2
inductive nV:List (Oper×Md)->Env->St->St->Prop
 |iU {l E E1 s s2} :mN E E1->nV l E1 s s2->nV l E s s2
 |here {p l E s s'} :GW dst E p.1->p.2.x=0->xx C p.1 (pO p.2 E) E s s'->nV (p::l) E s s'
 |next {p l E s E1 s1 s2} :Step C dst pr ms p E s E1 s1->nV l E1 s1 s2->nV (p::l) E s s2
end
variable {ab cZ:AB} {a0:Act} {listed:Array Bool} {ops:Array Oper} {cb:CB} {E E' E0 E1 E2 HL:Env} {QQ:Exit->Act->World->Prop} {A:FA} {f vg:FuncId} {Q Q' Q0:Kn} {J:List (Nat×JS)} {l l1 l2:List (Oper×Md)} {vs:List Value} {is:List gB} {N i id j k m n t u x':Nat} {dst:Nat->Option Nat} {L' Lf aan:Nat->Prop} {o:Oper} {p p':Oper×Md} {r:Out β×St} {P:Program} {iI ψ ψ':Ps} {s s' s0 s1 s2:St} {v:Value} {w w' w0:World} {c:Zf} {args cs cs' ds:ah} {acc hU l' ms pr:al} {C:bC} {h:dH} {k':lZ}
section
variable {C:bC} {dst:Nat->Option Nat} {pr ms:al}
theorem Tr.append (h:Tr C dst pr ms l1 E s E1 s1) (k:Tr C dst pr ms l2 E1 s1 E2 s2):Tr C dst pr ms (l1++l2) E s E2 s2:=by
 induction h with
 |nil=>exact k
 |iU w _ ih=>exact .iU w (ih k)
 |cons st _ ih=>exact .cons st (ih k)
theorem nV.left (h:nV C dst pr ms l1 E s s2) (l2:List (Oper×Md)):nV C dst pr ms (l1++l2) E s s2:=by
 induction h with
 |iU w _ ih=>exact .iU w ih
 |here a b c=>exact .here a b c
 |next st _ ih=>exact .next st ih
theorem Tr.fp (h:Tr C dst pr ms l1 E s E1 s1) (k:nV C dst pr ms l2 E1 s1 s2):nV C dst pr ms (l1++l2) E s s2:=by
 induction h with
 |nil=>exact k
 |iU w _ ih=>exact .iU w (ih k)
 |cons st _ ih=>exact .next st (ih k)
theorem Zmx {r:Nat} : ∀ {l acc:List (Oper×Md)} {eM:List (Oper×Md)} {pk:Oper} {rest:List (Oper×Md)},DJ r acc l=some (eM,pk,rest)->
  ∃x y z,acc.reverse++l=eM++(pk,x)::rest/\pk.op= .pick (.tmp r) y z
 |[],acc,eM,pk,rest,h=>by cases h
 |(o,x)::l,acc,eM,pk,rest,h=>by
  simp only[DJ]at h;have go:DJ r ((o,x)::acc) l=some (eM,pk,rest)->∃x' y z,acc.reverse++(o,x)::l=eM++(pk,x')::rest/\pk.op= .pick (.tmp r) y z:=by
   intro h;have⟨x',y,z,h1,h2⟩:=Zmx h;exact⟨x',y,z,by rw[<-h1];simp,h2⟩
  split at h
  .rename_i t y z eC
   cases hb:Nat.beq t r with
   |true=>
    rw[hb]at h;simp only[ae,fT,Fk]at h;obtain⟨rfl,rfl,rfl⟩:=h;have:=dL hb;subst this;exact⟨x,y,z,rfl,eC⟩
   |false=>rw[hb]at h;exact go h
  .exact go h
theorem ZsH: ∀ {act:List (Nat×Bool)} {g:Nat×Bool},N0 act g=true->g∈act
 |[],_,h=>by cases h
 |(k,b)::r,g,h=>by
  simp only[N0,lV,aY]at h;rcases h with⟨h1,h2⟩|h
  .have e1:=dL h1
   have e2:b=g.2:=by simpa using h2
   have:g=(k,b):=by rw[e1,e2]
   rw[this];exact uv
  .exact zy _ (ZsH h)
theorem Mk {j:Nat} {w:Bool} {r:Nat} : ∀ {l:List (Oper×Md)} {sk:al},D5 pr dst j w r sk l=true->∀p∈l,¬Spec pr p.1/\p.1.dst≠some r
 |[],_,_,p,hp=>by cases hp
 |(o,x)::l,sk,h,p,hp=>by
  simp only[D5,aY]at h;have⟨⟨h1,_⟩,h3⟩:=h;have lR: ¬Spec pr o:=by
   unfold Spec;intro hs;cases eC:o.op<;>rw[eC]at hs h1<;>simp only at hs h1<;>first|exact hs|(cases h1;done)|skip
   all_goals
    have⟨d,hd,jb⟩:=hs;rw[hd]at h1;simp only at h1;rw[jb]at h1;cases h1
  cases hd:o.dst with
  |none=>
   rw[hd]at h3;rcases eF.1 hp with rfl|hp
   .exact⟨lR,by simp[hd]⟩
   .exact Mk h3 p hp
  |some d=>
   rw[hd]at h3;simp only[aY]at h3;rcases eF.1 hp with rfl|hp
   .refine⟨lR,?_⟩
    rw[hd];intro e;cases e;have:=h3.1;rw[Fe]at this;cases this
   .exact Mk h3.2 p hp
theorem FL: ∀ {l:List (Oper×Md)} {t:Nat},has (gQ l) t=true↔ ∃p∈l,p.1.dst=some t
 |[],t=>by simp[gQ,has]
 |(o,x)::l,t=>by
  simp only[gQ,eF,exists_eq_or_imp];cases hd:o.dst with
  |none=>rw[FL];simp
  |some d=>
   rw[has,lV,FL,fT];constructor
   .rintro(h|h)
    .exact .inl (dL h)
    .exact .inr h
   .rintro(h|h)
    .exact .inl (by subst h;exact Fe _)
    .exact .inr h
theorem VV {j:Nat} {w:Bool} {r:Nat} (hj:dst j=some r) {b:Bool} (hb:b≠w): ∀ {l:List (Oper×Md)} {sk:al} {E:Env} {s:St},D5 pr dst j w r sk l=true->E.get r= .v (.bool b)->(∀d,has sk d=true->E.get d= .un)->
  ∃E1,Tr C dst pr ms l E s E1 s/\E1.bQ=E.bQ/\(∀u,has (gQ l) u=false->E1.get u=E.get u)
 |[],_,E,s,_,_,_=>⟨E,.nil E s,rfl,λ_ _=>rfl⟩
 |(o,x)::l,sk,E,s,h,hr,Yf=>by
  have Yg:=Mk h (o,x) (by simp);simp only[D5,aY]at h;have⟨⟨_,h2⟩,h3⟩:=h;have hg:GU dst E o:=by
   cases hg:o.guard with
   |none=>rw[hg]at h2;cases h2
   |some g=>
    have⟨j',w'⟩:=g;rw[hg]at h2;simp only[lV,aY]at h2;rcases h2 with⟨h4,h5⟩|h4
    .have:=dL h4
     have h5:w'=w:=by simpa using h5
     subst this;subst h5;exact⟨_,_,r,hg,hj,.inl ⟨b,hr,hb⟩⟩
    .cases hd:dst j' with
     |none=>rw[hd]at h4;cases h4
     |some d=>rw[hd]at h4;exact⟨j',w',d,hg,hd,.inr (Yf d h4)⟩
  have kN:(E.fg o.dst .un).get r= .v (.bool b):=by rw[Env.kG,bj Yg.2];exact hr
  cases hd:o.dst with
  |none=>
   rw[hd]at h3;have⟨E1,t1,t2,t3⟩:=VV hj hb (E:=E.fg o.dst .un) (s:=s) h3 kN (λd h=>by rw[hd];exact Yf d h);refine⟨E1,.cons (.skip hg) t1,by rw[t2];simp,λu hu=>?_⟩;simp only[gQ,hd]at hu;rw[t3 u hu,hd];rfl
  |some d=>
   rw[hd]at h3;simp only[aY]at h3;have⟨E1,t1,t2,t3⟩:=VV hj hb (E:=E.fg o.dst .un) (s:=s) h3.2 kN (λd' h=>by
    rw[Env.kG,hd];simp only[has,lV]at h;by_cases e:some d=some d'
    .rw[bE e]
    .rw[bj e]
     rcases h with h|h
     .exact absurd (by rw[dL h]) e
     .exact Yf d' h)
   refine⟨E1,.cons (.skip hg) t1,by rw[t2];simp,λu hu=>?_⟩;simp only[gQ,hd,has,C6]at hu;rw[t3 u hu.2,Env.kG,hd,bj];intro e;cases e;rw[Fe]at hu;cases hu.1
theorem ZqH {md:Md} {r:Nat} {y z:Operand} {b:Bool} (ho:o.op= .pick (.tmp r) y z) (hb:E.get r= .v (.bool b)) (hg:GW dst E o):
  Step C dst pr ms (o,md) E s (E.fg o.dst (E.src C (if b then y else z))) s:=by
 refine .act hg (mM.Y2 pr ms _ (Env.K9 C E _) (λhE r v n h=>Env.ET C hE h)) (Dk.pure (Ni md E) _ (Env.K9 C E _) λψ Q a w p=>⟨a.eval (if b then y else z),w,?_,.refl w,p.src ?_⟩)
 .have:=p.val (x:= .tmp r) (by simp[Op.operands,ho]) (d:= .bool b) (by rw[Env.src,hb])
  generalize hv:a.eval (.tmp r)=v at this;cases this;cases b<;>simp[execOp,ho,hv,asBool]
 .cases b<;>simp[Op.operands,ho]
structure Mod (un:Nat->Prop) (E E':Env):Prop where
 get: ∀u,un u->E'.get u=E.get u
 bQ:E.bQ<=E'.bQ
 xl: ∀t v n cs,E'.get t= .loc v n cs->(∃mT,E.get t= .loc v n mT)\/E.bQ<=v
 zd: ∀t v l p,E'.get t= .it v l p->(∃p0,E.get t= .it v l p0)\/E.bQ<=v
theorem Mod.refl (un:Nat->Prop) (E:Env):Mod un E E:=⟨λ_ _=>rfl,aO _,λ_ _ _ cs h=> .inl ⟨cs,h⟩,λ_ _ _ p h=> .inl ⟨p,h⟩⟩
theorem Mod.trans {un:Nat->Prop} (h:Mod un E E') (k:Mod Lf E' HL) (h1: ∀u,aan u->un u) (h2: ∀u,aan u->Lf u):Mod aan E HL:=by
 refine⟨λu hu=>by rw[k.get u (h2 u hu),h.get u (h1 u hu)],gY h.bQ k.bQ,λt v n cs e=>?_,λt v l p e=>?_⟩
 .rcases k.xl t v n cs e with⟨c,e⟩|e
  .exact h.xl t v n c e
  .exact .inr (gY h.bQ e)
 .rcases k.zd t v l p e with⟨c,e⟩|e
  .exact h.zd t v l c e
  .exact .inr (gY h.bQ e)
def LO (ms:al) (l:List (Oper×Md)) (u:Nat):Prop:=(∀p∈l,p.1.dst≠some u)/\has ms u=false
def adp (P:Program) (pr:al) (ops:List Oper) (p:Oper×Md):Prop:=p.2= .s\/∃x k m,p.2= .d (vM pr ops k m (cls P pr ops p.1)) x
theorem Zrj (hC:oI C) (hc:ZT C c) {ops:List Oper} : ∀(n:Nat) (l:List (Oper×Md)) (act:List (Nat×Bool)) (E:Env) (K:Env->M β) (s:St),
  tI C pr ms c dst n l act E K s=some r->(∀p∈l,adp C.P pr ops p)->
  (∀g∈act,(∃q,dst g.1=some q/\E.get q= .v (.bool g.2)/\∀p∈l,p.1.dst≠some q)/\∀p∈l,¬Spec pr p.1)->
  (∃E' s',Tr C dst pr ms l E s E' s'/\K E' s'=some r/\((∀p∈l,¬Spec pr p.1)->E'.bQ=E.bQ/\∀u,(∀p∈l,p.1.dst≠some u)->E'.get u=E.get u)/\Mod (LO ms l) E E')\/
  (∃s',r=(.fp,s')/\nV C dst pr ms l E s s'):=by
 intro n;induction n with
 |zero=>
  intro l act E K s h ly Cg;cases l with
  |nil=>exact .inl ⟨E,s,.nil E s,h,λ_=>⟨rfl,λ_ _=>rfl⟩,.refl _ _⟩
  |cons p l=>cases h
 |succ n ih=>
  intro l act E K s h ly Cg;cases l with
  |nil=>exact .inl ⟨E,s,.nil E s,h,λ_=>⟨rfl,λ_ _=>rfl⟩,.refl _ _⟩
  |cons p rest=>
   have⟨o,md⟩:=p;simp only[tI]at h;have gw: ∀ {E:Env} {o':Oper},(∀g∈act,∃q,dst g.1=some q/\E.get q= .v (.bool g.2))->N1 act o'.guard=true->GW dst E o':=by
    intro E o' ha hg;cases GO:o'.guard with
    |none=>exact .inl GO
    |some g=>
     rw[GO]at hg;have⟨q,h1,h2⟩:=ha g (ZsH hg);exact .inr ⟨g.1,g.2,q,GO,h1,h2⟩
   cases hg:N1 act o.guard with
   |true=>
    rw[hg]at h;simp only[ae]at h;have ri:=gw (E:=E) (λg hm=>let ⟨⟨q,h1,h2,_⟩,_⟩:=Cg g hm;⟨q,h1,h2⟩) hg;rcases VE hC hc (ly (o,md) (by simp)) h with⟨E1,s1,hk,hF,hO⟩|⟨hx,s',rfl,hp⟩
    .have eu:Step C dst pr ms (o,md) E s E1 s1:= .act ri hF hO
     have j6: ¬Spec pr o->E1.bQ=E.bQ/\∀u,o.dst≠some u->E1.get u=E.get u:=by
      intro hs;rcases hF.plain with⟨e,_,rfl⟩|h
      .exact⟨by simp,λu hu=>by rw[Env.kG,bj hu]⟩
      .exact absurd h hs
     rcases ih rest act E1 K s1 hk (λp hp=>ly p (by simp[hp])) (λg hm=>by
      have⟨⟨q,h1,h2,h3⟩,h4⟩:=Cg g hm;exact⟨⟨q,h1,by rw[(j6 (h4 (o,md) (by simp))).2 q (h3 (o,md) (by simp))];exact h2,λp hp=>h3 p (by simp[hp])⟩,λp hp=>h4 p (by simp[hp])⟩)with⟨E2,s2,t,jn,hn,XQ⟩|⟨s2,e,t⟩
     .refine .inl ⟨E2,s2,.cons eu t,jn,λhs=>?_,?_⟩
      rotate_left
      .have m1:Mod (λu=>o.dst≠some u/\has ms u=false) E E1:=⟨λu hu=>hF.other u hu.1 hu.2,hF.bQ,λt v n cs h=>(hF.xl t v n cs h).imp id And.left,λt v l p h=>(hF.zd t v l p h).imp id And.left⟩
       exact m1.trans XQ (λu hu=>⟨hu.1 (o,md) (by simp),hu.2⟩) (λu hu=>⟨λp hp=>hu.1 p (by simp[hp]),hu.2⟩)
      have⟨k1,k2⟩:=j6 (hs (o,md) (by simp));have⟨n1,n2⟩:=hn λp hp=>hs p (by simp[hp])
      exact⟨by rw[n1,k1],λu hu=>by rw[n2 u λp hp=>hu p (by simp[hp]),k2 u (hu (o,md) (by simp))]⟩
     .exact .inr ⟨s2,e,.next eu t⟩
    .exact .inr ⟨s',rfl,.here ri hx hp⟩
   |false=>
    rw[hg]at h;simp only[af]at h;cases GO:o.guard with
    |none=>rw[GO]at h;cases h
    |some g=>
     have⟨j,w⟩:=g;rw[GO]at h;simp only at h;cases hj:dst j with
     |none=>rw[hj]at h;cases h
     |some q=>
      rw[hj]at h;simp only at h;cases hq:E.get q with
      |v d=>
       cases d with
       |bool b=>
        rw[hq]at h;cases JG:DJ q [] ((o,md)::rest)with
        |none=>rw[JG]at h;cases h
        |some x=>
         have⟨eM,pk,oB⟩:=x;rw[JG]at h;simp only at h;have⟨sT,y,z,hl,j1⟩:=Zmx JG;simp only[List.reverse_nil,jH]at hl;rw[j1]at h;cases Cz:pk.dst with
         |none=>rw[Cz]at h;cases h
         |some t=>
          rw[Cz]at h;simp only at h;have⟨fP,h⟩:=Zs h;rw[aY]at fP;have⟨OL,ab1⟩:=fP;have yy:=Mk ab1;rw[hl];rw[hl]at ly Cg;have after: ∀(E1:Env) (s1:St) (v:Bool),Tr C dst pr ms (eM++[(pk,sT)]) E s ((E.del (gQ eM)).put t (.v (.bool v))) s1->
            tI C pr ms c dst n oB act ((E.del (gQ eM)).put t (.v (.bool v))) K s1=some r->
            (∃E' s',Tr C dst pr ms (eM++(pk,sT)::oB) E s E' s'/\K E' s'=some r/\((∀p∈eM++(pk,sT)::oB,¬Spec pr p.1)->E'.bQ=E.bQ/\∀u,(∀p∈eM++(pk,sT)::oB,p.1.dst≠some u)->E'.get u=E.get u)/\Mod (LO ms (eM++(pk,sT)::oB)) E E')\/
            (∃s',r=(.fp,s')/\nV C dst pr ms (eM++(pk,sT)::oB) E s s'):=by
           intro E1 s1 v ht hr;have e:eM++(pk,sT)::oB=(eM++[(pk,sT)])++oB:=by simp
           have get: ∀u,(∀p∈eM++(pk,sT)::oB,p.1.dst≠some u)->((E.del (gQ eM)).put t (.v (.bool v))).get u=E.get u:=by
            intro u hu;rw[Env.sG,bj (λe=>hu (pk,sT) (by simp) (by rw[Cz,e])),zV];have:has (gQ eM) u=false:=by
             cases hh:has (gQ eM) u with
             |false=>rfl
             |true=>
              have⟨p,hp,hd⟩:=FL.1 hh;exact absurd hd (hu p (by simp[hp]))
            rw[this];rfl
           rcases ih oB act _ K s1 hr (λp hp=>ly p (by simp[hp])) (λg hm=>by
            have⟨⟨q',h1,h2,h3⟩,h4⟩:=Cg g hm;exact⟨⟨q',h1,by rw[get q' h3];exact h2,λp hp=>h3 p (by simp[hp])⟩,λp hp=>h4 p (by simp[hp])⟩)with⟨E2,s2,t2,jn,hn,XQ⟩|⟨s2,e2,t2⟩
           .refine .inl ⟨E2,s2,by rw[e];exact ht.append t2,jn,λhs=>?_,?_⟩
            rotate_left
            .have m1:Mod (λu=>∀p∈eM++(pk,sT)::oB,p.1.dst≠some u) E ((E.del (gQ eM)).put t (.v (.bool v))):=by
              refine⟨get,aO _,λu v' n' cs e=>?_,λu v' l' p e=>?_⟩<;>rw[Env.sG,zV]at e<;>split at e
              .cases e
              .split at e
               .cases e
               .exact .inl ⟨cs,e⟩
              .cases e
              .split at e
               .cases e
               .exact .inl ⟨p,e⟩
             exact m1.trans XQ (λu hu=>hu.1) (λu hu=>⟨λp hp=>hu.1 p (by simp[hp]),hu.2⟩)
            have⟨n1,n2⟩:=hn λp hp=>hs p (by simp[hp])
            exact⟨by rw[n1];rfl,λu hu=>by rw[n2 u λp hp=>hu p (by simp[hp]),get u hu]⟩
           .exact .inr ⟨s2,e2,by rw[e];exact ht.fp t2⟩
          have nd: ∀u,(∀p∈eM++(pk,sT)::oB,p.1.dst≠some u)->has (gQ eM) u=false:=by
           intro u hu;cases hh:has (gQ eM) u with
           |false=>rfl
           |true=>
            have⟨p,hp,hd⟩:=FL.1 hh;exact absurd hd (hu p (by simp[hp]))
          have nq:has (gQ eM) q=false:=by
           cases hh:has (gQ eM) q with
           |false=>rfl
           |true=>
            have⟨p,hp,hd⟩:=FL.1 hh;exact absurd hd (yy p hp).2
          have jk: ∀(d:DV) (s1:St),(kE [d] λd st=>tM d λv=>aL st (tI C pr ms c dst n oB act ((E.del (gQ eM)).put t (.v (.bool v))) K)) s1=some r->
            ∃v,d= .bool v/\tI C pr ms c dst n oB act ((E.del (gQ eM)).put t (.v (.bool v))) K s1=some r:=by
           intro d s1 h;cases d with
           |bool v=>exact⟨v,rfl,h⟩
           |_=>cases h
          have acS: ∀(v:Bool) u,((E.del (gQ eM)).put t (.v (.bool v))).get u=if t=u then .v (.bool v)else if has (gQ eM) u then .u else E.get u:=λv u=>by rw[Env.sG,zV]
          simp only[NF]at h;by_cases vk:b=w
          ·
           subst vk;have h':tI C pr ms c dst n eM ((j,b)::act) (E.put q (.v (.bool b))) (λE1=>fA C E1 (bif b then y else z) λd=>kE [d] λd st=>tM d λv=>aL st (tI C pr ms c dst n oB act ((E.del (gQ eM)).put t (.v (.bool v))) K)) s=some r:=by
            cases b<;>exact h
           have K0: ∀u,(E.put q (.v (.bool b))).get u=E.get u:=λu=>by
            rw[Env.sG];split
            .rename_i e;subst e;exact hq.symm
            .rfl
           have cG:mN E (E.put q (.v (.bool b))):=⟨rfl,λu=> .inl (K0 u)⟩;rcases ih eM ((j,b)::act) _ _ s h' (λp hp=>ly p (by simp[hp])) (λg hm=>by
            refine⟨?_,λp hp=>(yy p hp).1⟩;rcases eF.1 hm with rfl|hm
            .exact⟨q,hj,by rw[K0];exact hq,λp hp=>(yy p hp).2⟩
            .have⟨⟨q',h1,h2,h3⟩,_⟩:=Cg g hm
             exact⟨q',h1,by rw[K0];exact h2,λp hp=>h3 p (by simp[hp])⟩)with⟨E1,s1,t1,kh,En,_⟩|⟨s1,e1,t1⟩
           .have⟨n1,n2⟩:=En λp hp=>(yy p hp).1
            have⟨d,hd,kh⟩:=Zw kh;obtain⟨v,rfl,kh⟩:=jk d s1 kh;have OT:E1.get q= .v (.bool b):=by rw[n2 q λp hp=>(yy p hp).2,K0];exact hq
            have aba: ∀u,has (gQ eM) u=false->E1.get u=E.get u:=λu hu=>by
             rw[n2 u (λp hp hd=>by rw[FL.2 ⟨p,hp,hd⟩]at hu;cases hu),K0]
            have cg:=ZqH (C:=C) (pr:=pr) (ms:=ms) (md:=sT) (s:=s1) j1 OT (gw (E:=E1) (λg hm=>by
             have⟨⟨q',h1,h2,h3⟩,_⟩:=Cg g hm;exact⟨q',h1,by rw[aba q' (nd q' h3)];exact h2⟩) OL)
            have Yi:E1.src C (if b then y else z)= .v (.bool v):=by cases b<;>exact hd
            rw[Yi,Cz]at cg;have fR:mN (E1.fg (some t) (.v (.bool v))) ((E.del (gQ eM)).put t (.v (.bool v))):=by
             refine⟨by rw[Env.Hk,n1];rfl,λu=>?_⟩;rw[acS,Env.kG];by_cases e:t=u
             .subst e;simp
             .rw[bj e,bj (λh=>e (HJ h))]
              cases hu:has (gQ eM) u with
              |true=>exact .inr rfl
              |false=>exact .inl (aba u hu).symm
            exact after E1 s1 v (.iU cG (t1.append (.cons cg (.iU fR (.nil _ _))))) kh
           .exact .inr ⟨s1,e1,.iU cG (t1.left _)⟩
          ·
           have h':fA C ((E.del (gQ eM)).put q (.v (.bool !w))) (bif w then z else y) (λd=>kE [d] λd st=>tM d λv=>aL st (tI C pr ms c dst n oB act ((E.del (gQ eM)).put t (.v (.bool v))) K)) s=some r:=by
            cases w<;>cases b<;>first|exact h|exact absurd rfl vk
           have⟨d,hd,kh⟩:=Zw h';obtain⟨v,rfl,kh⟩:=jk d s kh;have⟨E1,t1,t2,t3⟩:=VV (C:=C) (pr:=pr) (ms:=ms) hj vk (s:=s) ab1 hq (λd h=>by cases h);have OT:E1.get q= .v (.bool b):=by rw[t3 q nq];exact hq
           have cg:=ZqH (C:=C) (pr:=pr) (ms:=ms) (md:=sT) (s:=s) j1 OT (gw (E:=E1) (λg hm=>by
            have⟨⟨q',h1,h2,h3⟩,_⟩:=Cg g hm;exact⟨q',h1,by rw[t3 q' (nd q' h3)];exact h2⟩) OL)
           have abr:b= !w:=by cases w<;>cases b<;>first|rfl|exact absurd rfl vk
           have Yi:E1.src C (if b then y else z)= .v (.bool v):=by
            have hx:(if b then y else z)=(bif w then z else y):=by subst abr;cases w<;>rfl
            rw[hx,<-hd];generalize (bif w then z else y)=x at hd;cases x with
            |tmp u=>
             have hg:E1.get u=((E.del (gQ eM)).put q (.v (.bool !w))).get u:=by
              rw[Env.sG,zV];by_cases e:q=u
              .subst e;rw[bE rfl,OT,abr]
              .rw[bj e]
               cases hu:has (gQ eM) u with
               |false=>exact t3 u hu
               |true=>
                simp only[Env.src,Env.sG,zV,bj e,hu,mJ]at hd;cases hd
             simp only[Env.src,hg]
            |_=>rfl
           rw[Yi,Cz]at cg;have fR:mN (E1.fg (some t) (.v (.bool v))) ((E.del (gQ eM)).put t (.v (.bool v))):=by
            refine⟨by rw[Env.Hk,t2];rfl,λu=>?_⟩;rw[acS,Env.kG];by_cases e:t=u
            .subst e;simp
            .rw[bj e,bj (λh=>e (HJ h))]
             cases hu:has (gQ eM) u with
             |true=>exact .inr rfl
             |false=>exact .inl (t3 u hu).symm
           exact after E1 s v (t1.append (.cons cg (.iU fR (.nil _ _)))) kh
       |_=>rw[hq]at h;cases h
      |_=>rw[hq]at h;cases h
end
structure Fr where
 N:Nat
 nt:Nat
 iI:Ps
 s0:St
 w0:World
 ok:Nat->Bool
 KW: ∀x,ok x=true->x<nt
 kv:Nat->Value
 WB:List Deferred
def Ks (f:Fr) (a:Act):Prop:=a.tmps.size=f.nt/\∀t,f.ok t=false->a.tmps.getD t undef=f.kv t
structure Rel (C:bC) (f:Fr) (ψ:Ps) (E:Env) (s:St) (a:Act) (w:World):Prop where
 eW:ft C ψ (CR E s) w
 gR:jx E
 gE:rV ψ w
 lx:Glob C ψ
 j8: ∀t,gI C ψ (E.get t) (a.tmps.getD t undef)
 nN:Ks f a
 defs:a.defers=f.WB
 tg: ∀i,s.length<=i->i<f.N->ψ (.inl i)=none
 vN: ∀v,E.bQ<=v->ψ (.inr v)=none
 ext:Ext f.iI (CS f.s0) f.w0 ψ (CR E s) w
 news: ∀i cb,ψ (.inl i)=some cb->f.iI (.inl i)=some cb\/(f.s0.length<=i/\i<s.length)
 len:f.s0.length<=s.length
 fin: ∀v,f.iI (.inr v)=none
section
variable {C:bC} {f:Fr} {ψ ψ':Ps} {E E':Env} {s s':St} {a:Act} {w w':World} {Q':Kn} {o:Oper} {D W:dH->Prop} {pr ms:al}
theorem jx.iU (h:jx E) (k:mN E E'):jx E':=by
 have g: ∀t x,E'.get t=x->x≠ .u->E.get t=x:=λt x e hx=>by
  rcases k.get t with h|h
  .rw[<-h];exact e
  grind
 constructor
 .intro t v hv
  rw[k.bQ];rcases k.get t with e|e
  .rw[e]at hv;exact h.lt t v hv
  .rw[e]at hv;cases hv
 .intro t r v n e
  rw[k.bQ];exact h.pl t r v n (g t _ e (by simp))
 .intro t v n cs e
  exact h.len t v n cs (g t _ e (by simp))
 .intro t t' v hv eU
  rcases k.get t with e|e
  .rcases k.get t' with e'|e'
   .rw[e]at hv;rw[e']at eU;exact h.uniq t t' v hv eU
   .rw[e']at eU;cases eU
  .rw[e]at hv;cases hv
theorem CR.iU (k:mN E E') {h:dH} {ab:AB} (c:CR E' s h ab):CR E s h ab:=by
 have g: ∀t x,E'.get t=x->x≠ .u->E.get t=x:=λt x e hx=>by
  rcases k.get t with h|h
  .rw[<-h];exact e
  grind
 cases h with
 |inl i=>exact c
 |inr v=>
  rcases c with⟨t,n,cs,e,fV⟩|⟨t,l,p,e,fV⟩
  .exact .inl (by grind)
  .exact .inr (by grind)
theorem Rel.iU (R:Rel C f ψ E s a w) (k:mN E E'):Rel C f ψ E' s a w where
 eW:=R.eW.weaken λ_ _ _ _ c=>c.iU k
 gR:=R.gR.iU k
 gE:=R.gE
 lx:=R.lx
 j8:=λt=>by
  rcases k.get t with e|e
  .rw[e];exact R.j8 t
  .rw[e];exact trivial
 nN:=R.nN
 defs:=R.defs
 tg:=R.tg
 vN:=λv hv=>R.vN v (by rw[<-k.bQ];exact hv)
 ext:=R.ext.weaken λ_ _ _ _ c=>c.iU k
 news:=R.news
 len:=R.len
 fin:=R.fin
theorem RY (a:Act) (d:Option Nat) (v:Value):(a.put d v).tmps.size=a.tmps.size:=by cases d<;>simp[Act.put]
theorem Mu (a:Act) (d:Option Nat) (v:Value):(a.put d v).defers=a.defers:=by cases d<;>rfl
theorem I3 {a:Act} {d:Option Nat} (hd: ∀x,d=some x->x<a.tmps.size):(a.put d v).tmps.getD t undef=if d=some t then v else a.tmps.getD t undef:=by
 cases d with
 |none=>simp[Act.put]
 |some x=>
  simp only[Act.put,fT,rO];by_cases e:x=t
  .grind
  grind
theorem Ks.put (h:Ks f a) {d:Option Nat} {v:Value} (hd: ∀x,d=some x->f.ok x=true):Ks f (a.put d v):=by
 refine⟨by rw[RY];exact h.1,λt ht=>?_⟩;rw[I3 λx hx=>by rw[h.1];exact f.KW x (hd x hx),bj λe=>by rw[hd t e]at ht;cases ht];exact h.2 t ht
theorem Rel.room (R:Rel C f ψ E s a w) (hN:s'.length<=f.N):LM E s E' s' ψ:=by
 rintro h ⟨n1,n2⟩;cases h with
 |inl i=>exact R.tg i (Bj.1 n1) (mI n2 hN)
 |inr v=>exact R.vN v (Bj.1 n1)
theorem Rel.pre (R:Rel C f ψ E s a w):aB C o D E s ψ (CR E s) a w:=⟨R.eW,R.gE,R.lx,R.gR,λ_ _ _ _ c _=>c,λt _=>R.j8 t⟩
theorem Rel.step (R:Rel C f ψ E s a w) (hF:mM W pr ms o E s E' s') (hP:LJ C D W E s E' s' ψ (CR E s) w ψ' Q' w') (he: ∀d,o.dst=some d->gI C ψ' (E'.get d) v) (hd: ∀x,o.dst=some x->f.ok x=true):
  Rel C f ψ' E' s' (a.put o.dst v) w':=by
 have known: ∀h ab cb,ψ' h=some cb->CR E' s' h ab->Q' h ab:=by
  intro h ab cb e c;by_cases hw:W h\/xw E s E' s' h
  .exact hP.p1 h ab cb c hw e
  .have c':CR E s h ab:=by
    rcases hF.back h ab c with x|x|x
    .grind
    .grind
    .exact x
   rcases hP.news h cb e with e|e
   .exact hP.p2 h ab cb e c' (λx=>hw (.inl x)) (λ_ _=>c')
   grind
 refine⟨hP.eW.weaken known,hF.gR R.gR,hP.ext.gE R.gE,hP.ext.lx R.lx,λt=>?_,R.nN.put hd,by rw[Mu];exact R.defs,λi h1 h2=>?_,λv h1=>?_,R.ext.trans (hP.ext.weaken known),λi cb e=>?_,gY R.len hF.len,R.fin⟩
 .rw[I3 λx hx=>by rw[R.nN.1];exact f.KW x (hd x hx)]
  by_cases e:o.dst=some t
  .rw[bE e];exact he t e
  .rw[bj e];exact(hF.bJ t e C ψ _ (R.j8 t)).mono hP.ext.mono
 .cases e:ψ' (.inl i)with
  |none=>rfl
  |some cb=>
   rcases hP.news _ cb e with e|⟨_,e⟩
   .rw[R.tg i (gY hF.len h1) h2]at e;cases e
   .simp only[ej]at e;omega
 .cases e:ψ' (.inr v)with
  |none=>rfl
  |some cb=>
   rcases hP.news _ cb e with e|⟨_,e⟩
   .rw[R.vN v (gY hF.bQ h1)]at e;cases e
   .simp only[ej]at e;omega
 .rcases hP.news _ cb e with e|⟨n1,n2⟩
  .rcases R.news i cb e with h|⟨h1,h2⟩
   .exact .inl h
   .exact .inr ⟨h1,mI h2 hF.len⟩
  .exact .inr ⟨gY R.len (Bj.1 n1),n2⟩
structure sb (C:bC) (f:Fr) (s:St) (a:Act) (w:World):Prop where
 defs:a.defers=f.WB
 ks:Ks f a
 post: ∃ψ',jJ C f.iI f.s0 f.w0 ψ' s w
theorem Zu8 (b:Bool):undef≠Value.bool b:=by unfold undef;simp
theorem MV (a:Act) (r:Nat) (b:Bool) (h:a.tmps.getD r undef= .bool b):a.tmps[r]? =some (.bool b):=by
 rw[rO]at h;cases e:a.tmps[r]? with
 |none=>rw[e]at h;exact absurd h (Zu8 b)
 |some v=>rw[e]at h;grind
def nu (ops:Array Oper) (j:Nat):Option Nat:=match ops.toList[j]? with|some o=>o.dst|none=>none
theorem MZ (ops:Array Oper) (j:Nat):nu ops j=(ops[j]?).bind (·.dst):=by
 grind[nu]
theorem T3 (R: ∀t,gI C ψ (E.get t) (a.tmps.getD t undef)) (h:GW (nu ops) E o):Region.wanted o (yielded ops a.tmps)=true:=by
 unfold Region.wanted;rcases h with h|⟨j,w,r,h1,h2,h3⟩
 .rw[h]
 .rw[h1]
  rw[MZ]at h2;have hr:=R r;rw[h3]at hr;have:a.tmps.getD r undef= .bool w:=by generalize a.tmps.getD r undef=x at hr;cases hr;rfl
  simp[yielded,h2,MV a r w this]
theorem Znz (R: ∀t,gI C ψ (E.get t) (a.tmps.getD t undef)) (h:GU (nu ops) E o):Region.wanted o (yielded ops a.tmps)=false:=by
 unfold Region.wanted;have⟨j,w,r,h1,h2,h3⟩:=h;rw[h1];rw[MZ]at h2;have hr:=R r;rcases h3 with⟨b,h3,hb⟩|h3
 .rw[h3]at hr
  have:a.tmps.getD r undef= .bool b:=by generalize a.tmps.getD r undef=x at hr;cases hr;rfl
  simp[yielded,h2,MV a r b this,hb]
 .rw[h3]at hr
  have hr:a.tmps.getD r undef=undef:=hr;have:a.tmps[r]? =none\/a.tmps[r]? =some undef:=by
   rw[rO]at hr;grind
  have hy:yielded ops a.tmps j=none:=by
   unfold yielded;rw[h2];rcases this with e|e<;>simp[e,undef]
  simp[hy]
theorem Rel.undef (R:Rel C f ψ E s a w) (hd: ∀x,o.dst=some x->f.ok x=true):Rel C f ψ (E.fg o.dst .un) s (a.put o.dst Go.undef) w:=by
 have Eb: ∀h ab,CR (E.fg o.dst .un) s h ab->CR E s h ab:=λh ab c=>c.fg rfl
 refine⟨R.eW.weaken λ_ _ _ _ c=>Eb _ _ c,R.gR.fg rfl (λ_ _ _ h=>by cases h),R.gE,R.lx,λt=>?_,R.nN.put hd,by rw[Mu];exact R.defs,R.tg,λv hv=>R.vN v (by simpa using hv),R.ext.weaken λ_ _ _ _ c=>Eb _ _ c,R.news,R.len,R.fin⟩;rw[I3 λx hx=>by rw[R.nN.1];exact f.KW x (hd x hx),Env.kG];by_cases e:o.dst=some t
 .rw[bE e,bE e];rfl
 .rw[bj e,bj e];exact R.j8 t
theorem Ah (Cp: ∀v,f.iI (.inr v)=none) (AL:ft C ψ' Q' w') (vn:Ext f.iI (CS f.s0) f.w0 ψ' Q' w')
  (hk: ∀i ab cb,dx s' i=some ab->ψ' (.inl i)=some cb->Q' (.inl i) ab) (akv: ∀i cb,ψ' (.inl i)=some cb->f.iI (.inl i)=some cb\/(f.s0.length<=i/\i<s'.length)):
  jJ C f.iI f.s0 f.w0 (nF ψ') s' w':=by
 have PG: ∀b,uI (nF ψ') (CS s') b->uI ψ' Q' b:=by
  rintro b ⟨k,cb,ab,e,⟨i,rfl,q⟩,hs,hb⟩;exact⟨.inl i,cb,ab,e,hk i ab cb q e,hs,hb⟩
 refine⟨ZtJ AL hk,⟨λh cb e=>?_,λh cb e=>vn.sZ h cb (FP e).1,vn.size,vn.j6,λb hb=>vn.gU b (PG b hb),λh cb x e q=>?_,vn.tape,vn.os,vn.output⟩,λh cb e=>?_⟩
 .cases h with
  |inl i=>exact vn.mono _ _ e
  |inr v=>rw[Cp]at e;cases e
 .obtain⟨i,rfl,q⟩:=q
  exact vn.live (.inl i) cb x e (hk i x cb q (vn.mono _ _ e))
 .obtain⟨e,i,rfl⟩:=FP e
  grind
theorem Rel.Ah (R:Rel C f ψ E s a w):jJ C f.iI f.s0 f.w0 (nF ψ) s w:=
 Go.Gv.Ah R.fin R.eW R.ext (λ_ _ _ h _=>h) R.news
theorem Tr.len {dst:Nat->Option Nat} {l:List (Oper×Md)} (h:Tr C dst pr ms l E s E' s'):s.length<=s'.length:=by
 induction h with
 |nil=>exact aO _
 |iU _ _ ih=>exact ih
 |cons st _ ih=>
  refine gY ?_ ih;cases st with
  |act _ hF _=>exact hF.len
  |skip _=>exact aO _
theorem nV.len {dst:Nat->Option Nat} {l:List (Oper×Md)} (h:nV C dst pr ms l E s s'):s.length<=s'.length:=by
 induction h with
 |iU _ _ ih=>exact ih
 |here _ _ hp=>exact hp.1
 |next st _ ih=>
  refine gY ?_ ih;cases st with
  |act _ hF _=>exact hF.len
  |skip _=>exact aO _
theorem Rel.acI (R:Rel C f ψ E s a w) (hN:s'.length<=f.N) (hp:xx C o D E s s') {next:Act->World->Prop} (h: ∀ch a' w',oK ch->sb C f s' a' w'->QQ (.panic ch) a' w'):o.wp C.P a w next QQ:=by
 refine hp.2 ψ (CR E s) a w next QQ R.pre (R.room hN) λψ' Q' ch w' h0 h1 h2 h3 h4=>h ch a w' h0 ⟨R.defs,R.nN,_,Go.Gv.Ah (s':=s') R.fin h1 (R.ext.trans h2) h4 λi cb e=>?_⟩
 rcases h3 _ cb e with e|⟨n1,n2⟩
 .rcases R.news i cb e with h|⟨h1,h2⟩
  .exact .inl h
  .exact .inr ⟨h1,mI h2 hp.1⟩
 .exact .inr ⟨gY R.len (Bj.1 n1),n2⟩
theorem Zx3 (t:Tr C (nu ops) pr ms l E s E2 s2): ∀ {i:Nat} {a:Act} {w:World} {ψ:Ps},Rel C f ψ E s a w->s2.length<=f.N->
  (∀p∈l,∀x,p.1.dst=some x->f.ok x=true)->(∀k p,l[k]? =some p->ops[i+k]? =some p.1)->(∀ψ' a' w',Rel C f ψ' E2 s2 a' w'->QQ .normal a' w')->wpOps C.P ops QQ (List.range' i l.length) a w:=by
 induction t with
 |nil=>intro i a w ψ R _ _ _ h;exact h ψ a w R
 |iU k _ ih=>intro i a w ψ R hN hd hi h;exact ih (R.iU k) hN hd hi h
 |cons st t ih=>
  rename_i p l E s E1 s1 E2 s2;intro i a w ψ R hN hd hi h;have vr:=hi 0 p rfl;simp only[gV]at vr;have rest: ∀ {iJ a1 w1},Rel C f iJ E1 s1 a1 w1->wpOps C.P ops QQ (List.range' (i+1) l.length) a1 w1:=λR1=>
   ih R1 hN (by grind) (λk q hk=>by have:=hi (k+1) q (by simpa using hk);rwa [show i+(k+1)=i+1+k by omega]at this) h
  simp only[cO,Lv,wpOps,vr];cases st with
  |act hg hF hO=>
   rw[bE (T3 R.j8 hg)];exact .inl (hO ψ (CR E s) a w _ QQ R.pre (R.room (gY t.len hN)) λψ' Q' v w' hP he=>rest (R.step hF hP he (hd p (by simp))))
  |skip hg=>
   rw[bj (by rw[Znz R.j8 hg];simp)];exact rest (R.undef (hd p (by simp)))
theorem ZwG (t:nV C (nu ops) pr ms l E s s2): ∀ {i:Nat} {a:Act} {w:World} {ψ:Ps},Rel C f ψ E s a w->s2.length<=f.N->
  (∀p∈l,∀x,p.1.dst=some x->f.ok x=true)->(∀k p,l[k]? =some p->ops[i+k]? =some p.1)->(∀ch a' w',oK ch->sb C f s2 a' w'->QQ (.panic ch) a' w')->wpOps C.P ops QQ (List.range' i l.length) a w:=by
 induction t with
 |iU k _ ih=>intro i a w ψ R hN hd hi h;exact ih (R.iU k) hN hd hi h
 |here hg hx hp=>
  rename_i p l E s s2;intro i a w ψ R hN hd hi h;have vr:=hi 0 p rfl;simp only[gV]at vr;simp only[cO,Lv,wpOps,vr];rw[bE (T3 R.j8 hg)];exact .inl (R.acI hN hp h)
 |next st t ih=>
  rename_i p l E s E1 s1 s2;intro i a w ψ R hN hd hi h;have vr:=hi 0 p rfl;simp only[gV]at vr;have rest: ∀ {iJ a1 w1},Rel C f iJ E1 s1 a1 w1->wpOps C.P ops QQ (List.range' (i+1) l.length) a1 w1:=λR1=>
   ih R1 hN (by grind) (λk q hk=>by have:=hi (k+1) q (by simpa using hk);rwa [show i+(k+1)=i+1+k by omega]at this) h
  simp only[cO,Lv,wpOps,vr];cases st with
  |act hg hF hO=>
   rw[bE (T3 R.j8 hg)];exact .inl (hO ψ (CR E s) a w _ QQ R.pre (R.room (gY t.len hN)) λψ' Q' v w' hP he=>rest (R.step hF hP he (hd p (by simp))))
  |skip hg=>
   rw[bj (by rw[Znz R.j8 hg];simp)];exact rest (R.undef (hd p (by simp)))
end
theorem mN.refl (E:Env):mN E E:=⟨rfl,λ_=> .inl rfl⟩
theorem mN.trans {E E' HL:Env} (h:mN E E') (k:mN E' HL):mN E HL:=by
 refine⟨k.bQ.trans h.bQ,λt=>?_⟩;rcases k.get t with e|e
 .rcases h.get t with e'|e'
  .exact .inl (e.trans e')
  grind
 .exact .inr e
section
variable {C:bC} {dst:Nat->Option Nat} {pr ms:al}
theorem Tr.fn (h:Tr C dst pr ms l E s E2 s2):
  ∃(A B:Nat->Env) (ss:Nat->St),A 0=E/\ss 0=s/\ss l.length=s2/\mN (A l.length) E2/\
   ∀k p,l[k]? =some p->mN (A k) (B k)/\Step C dst pr ms p (B k) (ss k) (A (k+1)) (ss (k+1)):=by
 induction h with
 |nil E s=>exact⟨λ_=>E,λ_=>E,λ_=>s,rfl,rfl,rfl,.refl E,λk p h=>by simp at h⟩
 | @iU l E E1 s E2 s2 k _ ih=>
  have⟨A,B,ss,h1,h2,h3,h4,h5⟩:=ih;cases l with
  |nil=>
   refine⟨λ_=>E,B,ss,rfl,h2,h3,?_,λk p h=>by simp at h⟩;simp only[Bh]at h4;rw[h1]at h4;exact k.trans h4
  |cons p l=>
   refine⟨λi=>if i=0 then E else A i,B,ss,rfl,h2,h3,by simpa using h4,λi q hq=>?_⟩;have⟨a,b⟩:=h5 i q hq;refine⟨?_,by simpa using b⟩;by_cases hi:i=0
   .subst hi
    simp only[mJ];rw[h1]at a;exact k.trans a
   grind
 | @cons p l E s E1 s1 E2 s2 st _ ih=>
  have⟨A,B,ss,h1,h2,h3,h4,h5⟩:=ih;refine⟨λi=>match i with|0=>E|i+1=>A i,λi=>match i with|0=>E|i+1=>B i,λi=>match i with|0=>s|i+1=>ss i,rfl,rfl,h3,h4,λi q hq=>?_⟩;cases i with
  |zero=>
   simp only[kY,fT]at hq;subst hq;refine⟨.refl E,?_⟩;grind
  |succ i=>grind
end
theorem ZxJ (h:(Gd o acc).testBit j=true): ∃e∈o.after,Region.binds .any e=true/\(j=e.on\/(acc.getD e.on 0).testBit j=true):=by
 unfold Gd at h;have key: ∀(l:List Edge) (m:Nat),(l.foldl (λm e=>bif Region.binds .any e then m|||2^e.on|||acc.getD e.on 0 else m) m).testBit j=true->
   m.testBit j=true\/∃e∈l,Region.binds .any e=true/\(j=e.on\/(acc.getD e.on 0).testBit j=true):=by
  intro l;induction l with
  |nil=>exact λm h=> .inl h
  |cons e l ih=>
   grind
 grind
theorem Va (P:Program) (pr:al) (ops:List Oper): ∀(r:List Oper) (acc:al) (k:Nat) (p:gB),(rE P pr ops r acc)[k]? =some p->
  ∃o,r[k]? =some o/\p.bf=Gd o (acc++((rE P pr ops r acc).take k).map (·.bf))/\p.k=vM pr ops (acc.length+k) p.bf (cls P pr ops o)/\p.dst=o.dst/\p.lk=rC pr ops o
 |[],acc,k,p,h=>by simp[rE]at h
 |o::r,acc,0,p,h=>by
  grind[rE,kY,fT]
 |o::r,acc,k+1,p,h=>by
  simp only[rE,qw]at h;have⟨o',h1,h2,h3,h4⟩:=Va P pr ops r _ k p h;refine⟨o',by simpa using h1,?_,?_,h4⟩
  .rw[h2]
   simp[rE]
  grind
theorem L7 (P:Program) (pr:al) (ops:List Oper): ∀(r:List Oper) (acc:al),(rE P pr ops r acc).length=r.length
 |[],_=>rfl
 |o::r,acc=>by simp[rE,L7 P pr ops r]
def P5 (p q:gB):Prop:=V9 p.k q.k=false/\NT p.dst q.lk=false/\NT q.dst p.lk=false/\WC p.dst q.dst=false
theorem Zo7 {i:Nat} {p:gB} : ∀ {l:List gB},Nq i p l=true->∀(k:Nat) (q:gB),l[k]? =some q->q.bf.testBit i=true\/P5 p q
 |[],_,k,q,h=>by simp at h
 |x::l,h,k,q,hq=>by
  simp only[Nq,aY]at h;cases k with
  |zero=>
   simp only[kY,fT]at hq;subst hq;have h1:=h.1;rw[lV]at h1;refine h1.imp id λh1=>?_
   simp only[aY,lF]at h1;exact⟨h1.1.1.1,h1.1.1.2,h1.1.2,h1.2⟩
  |succ k=>exact Zo7 h.2 k q (by simpa using hq)
theorem MH: ∀ {i:Nat} {l:List gB} {os:List Oper},EO i l os=true->∀(k:Nat) (p:gB),l[k]? =some p->
  p.bf<2^(i+k)/\(∃o,os[k]? =some o/\∀j w,o.guard=some (j,w)->p.bf.testBit j=true)/\∀(m:Nat) (q:gB),k<m->l[m]? =some q->q.bf.testBit (i+k)=true\/P5 p q
 |i,[],os,_,k,p,hp=>by simp at hp
 |i,_::_,[],h,k,p,hp=>by cases h
 |i,x::l,o::os,h,k,p,hp=>by
  simp only[EO,aY]at h;have⟨⟨⟨h1,h2⟩,h3⟩,h4⟩:=h;cases k with
  |zero=>
   simp only[kY,fT]at hp;subst hp;refine⟨by rw[qz]at h1;exact h1,⟨o,rfl,by grind⟩,λm q hm hq=>?_⟩;obtain⟨m',rfl⟩: ∃m',m=m'+1:=⟨m-1,by omega⟩;exact Zo7 h3 m' q (by simpa using hq)
  |succ k=>
   have⟨a,⟨o',b1,b2⟩,c⟩:=MH h4 k p (by simpa using hp);grind
theorem Zza {e:Edge} (he:e∈o.after) (hb:Region.binds .any e=true):(Gd o acc).testBit e.on=true:=by
 unfold Gd;have mono: ∀(l:List Edge) (m:Nat),m.testBit e.on=true->(l.foldl (λm e=>bif Region.binds .any e then m|||2^e.on|||acc.getD e.on 0 else m) m).testBit e.on=true:=by
  intro l;induction l with
  |nil=>exact λm h=>h
  |cons x l ih=>
   grind
 have key: ∀(l:List Edge) (m:Nat),e∈l->(l.foldl (λm e=>bif Region.binds .any e then m|||2^e.on|||acc.getD e.on 0 else m) m).testBit e.on=true:=by
  intro l;induction l with
  |nil=>intro m h;cases h
  |cons x l ih=>
   grind
 grind
theorem MO {mp:Nat->Bool} : ∀(all:List gB) (i:Nat) (is:List gB) (os:List Oper) (k:Nat) (p:Oper×Md),(flags mp all i is os)[k]? =some p->
  ∃q o,is[k]? =some q/\os[k]? =some o/\
   p=(o,.d q.k (bif we (i+k) q.bf (λ_=>true) 0 all then(bif YM mp o&& !BM (i+k) q.bf 0 all then 0 else(match q.k with| .call=>(bif we (i+k) q.bf Hj 0 all then 2 else 1)|_=>1))else 0))
 |all,i,[],os,k,p,h=>by cases os<;>simp[flags]at h
 |all,i,_::_,[],k,p,h=>by simp[flags]at h
 |all,i,q::r,o::os,0,p,h=>by
  grind[flags,kY,fT]
 |all,i,q::r,o::os,k+1,p,h=>by
  simp only[flags,qw]at h;have⟨q',o',h1,h2,h3⟩:=MO all (i+1) r os k p h;grind
theorem Mh {mp:Nat->Bool} : ∀(all:List gB) (i:Nat) (is:List gB) (os:List Oper),is.length=os.length->(flags mp all i is os).length=os.length
 |_,_,[],[],_=>rfl
 |all,i,_::r,_::os,h=>by simp only[flags,cO];rw[Mh all (i+1) r os (by simpa using h)]
 |_,_,[],_::_,h=>by simp at h
 |_,_,_::_,[],h=>by simp at h
theorem Zrw {i bi:Nat} {f:lZ->Bool} : ∀ {r:List gB} {j0 j:Nat} {q:gB},r[j]? =some q->i≠j0+j->q.bf.testBit i=false->bi.testBit (j0+j)=false->f q.k=true->we i bi f j0 r=true
 |[],j0,j,q,h,_,_,_,_=>by simp at h
 |x::r,j0,0,q,h,h1,h2,h3,h4=>by
  simp only[kY,fT]at h;subst h;simp only[gV]at h1 h3;have:Nat.beq i j0=false:=by
   cases e:Nat.beq i j0 with
   |false=>rfl
   |true=>simp_all
  simp[we,this,h2,h3,h4]
 |x::r,j0,j+1,q,h,h1,h2,h3,h4=>by
  simp only[qw]at h;rw[we,lV];exact .inr (Zrw (j0:=j0+1) h (by omega) h2 (by rw[show j0+1+j=j0+(j+1) by omega];exact h3) h4)
theorem Zon {i bi:Nat} : ∀ {r:List gB} {j0 j:Nat} {q:gB},r[j]? =some q->i≠j0+j->q.bf.testBit i=false->bi.testBit (j0+j)=false->(Nat.blt (j0+j) i&&DW q.k)=false->BM i bi j0 r=true
 |[],j0,j,q,h,_,_,_,_=>by simp at h
 |x::r,j0,0,q,h,h1,h2,h3,h4=>by
  simp only[kY,fT]at h;subst h;simp only[gV]at h1 h3 h4;have:Nat.beq i j0=false:=by
   cases e:Nat.beq i j0 with
   |false=>rfl
   |true=>simp_all
  simp[BM,this,h2,h3,h4]
 |x::r,j0,j+1,q,h,h1,h2,h3,h4=>by
  simp only[qw]at h;rw[BM,lV];exact .inr (Zon (j0:=j0+1) h (by omega) h2 (by rw[show j0+1+j=j0+(j+1) by omega];exact h3) (by rw[show j0+1+j=j0+(j+1) by omega];exact h4))
def BZ (is:List gB) (i k:Nat):Prop:=∃q,is[k]? =some q/\q.bf.testBit i=true
theorem ZsS: ∀(l:List Operand) (m t:Nat),(m.testBit t=true\/Operand.tmp t∈l)->(l.foldl (λm x=>match x with| .tmp t=>m|||2^t|_=>m) m).testBit t=true
 |[],m,t,h=>by
  grind
 |x::l,m,t,h=>by
  rw[Bf];refine ZsS l _ t ?_;grind
theorem Zvr (pr:al) (ops:List Oper) (o:Oper) (m:Nat) (t:Nat) (h:m.testBit t=true):
  (match o.op with
   | .load _ (.tmp a)=>(match ta pr ops 12 a with|some r=>m|||2^r|none=>m)
   | .store _ (.tmp a) _=>(match ta pr ops 12 a with|some r=>m|||2^r|none=>m)
   |_=>m).testBit t=true:=by
 grind
theorem Zrb {ops:List Oper} (h:Operand.tmp t∈o.op.operands):(rC pr ops o).testBit t=true:=by
 unfold rC;refine Zvr _ _ _ _ _ ?_;have h1:=ZsS o.op.operands.toList 0 t (.inr (by simpa using h));split
 .grind
 .exact h1
theorem Zvl {ops:List Oper} {g:Oper} {r:Nat} {w:Bool} (h:o.guard=some (j,w)) (hj:ops[j]? =some g) (hr:g.dst=some r):(rC pr ops o).testBit r=true:=by
 grind[rC]
theorem Zv2 {ops:List Oper} {r:Nat} (h:cls P pr ops o= .xh r\/cls P pr ops o= .pH r):(rC pr ops o).testBit r=true:=by
 cases ho:o.op with
 |load t a=>
  cases a with
  |tmp a=>
   cases hr:ta pr ops 12 a with
   |none=>simp[cls,ho,hr]at h
   |some q=>
    simp[cls,ho,hr]at h;subst h;simp[rC,ho,hr]
  |_=>simp[cls,ho]at h
 |store t a y=>
  cases a with
  |tmp a=>
   cases hr:ta pr ops 12 a with
   |none=>simp[cls,ho,hr]at h
   |some q=>
    simp[cls,ho,hr]at h;subst h;simp[rC,ho,hr]
  |_=>simp[cls,ho]at h
 |next it b=>
  cases it with
  |tmp t=>
   simp[cls,ho]at h;subst h;exact Zrb (by simp[Op.operands,ho])
  |_=>simp[cls,ho]at h
 |slice t y lo hi mx=>
  simp only[cls,ho]at h;split at h<;>simp at h
 |call q=>
  cases hp:has pr 1000000<;>simp only[cls,ho,hp,ae,af]at h<;>split at h<;>simp at h
 |_=>simp[cls,ho]at h
structure Su (C:bC) (pr ms:List Nat) (ops:Array Oper) (l:List (Oper×Md)) (is:List gB) (m:Nat) (A B:Nat->Env) (ss:Nat->St):Prop where
 AE:is=rE C.P pr ops.toList ops.toList []
 hl:l=flags C.mp is 0 is ops.toList
 ok:EO 0 is ops.toList=true
 hm:m<=ops.size
 w: ∀k,k<=m->mN (A k) (B k)
 st: ∀k p,k<m->l[k]? =some p->Step C (nu ops) pr ms p (B k) (ss k) (A (k+1)) (ss (k+1))
 e0:jx (A 0)
theorem Step.opF (h:Step C dst pr ms p E s E' s'):mM (nj p.2 E) pr ms p.1 E s E' s':=by
 cases h with
 |act _ hF _=>exact hF
 |skip _=>exact mM.Y2 pr ms .un rfl λ_ _ _ _ h=>by cases h
section
variable {C:bC} {pr ms:al} {ops:Array Oper} {l:List (Oper×Md)} {is:List gB} {m:Nat} {A B:Nat->Env} {ss:Nat->St}
theorem Su.isLen (S:Su C pr ms ops l is m A B ss):is.length=ops.size:=by rw[S.AE,L7];simp
theorem Su.Pj (S:Su C pr ms ops l is m A B ss):l.length=ops.size:=by rw[S.hl,Mh _ _ _ _ (by rw[S.isLen];simp)];simp
structure OpT (C:bC) (pr:List Nat) (ops:Array Oper) (is:List gB) (k:Nat) (p:Oper×Md) (q:gB) (x:Nat):Prop where
 iq:is[k]? =some q
 op:ops[k]? =some p.1
 md:p.2= .d q.k x
 kc:q.k=vM pr ops.toList k q.bf (cls C.P pr ops.toList p.1)
 dst:q.dst=p.1.dst
 lk:q.lk=rC pr ops.toList p.1
 lt: ∀j,q.bf.testBit j=true->j<k
 gd: ∀j w,p.1.guard=some (j,w)->q.bf.testBit j=true
 on: ∀e∈p.1.after,Region.binds .any e=true->q.bf.testBit e.on=true
 agM: ∀j,q.bf.testBit j=true->∃e∈p.1.after,Region.binds .any e=true/\(j=e.on\/BZ is j e.on)
 zero:x=0->∀j q',is[j]? =some q'->k≠j->q'.bf.testBit k=true\/q.bf.testBit j=true\/(j<k/\DW q'.k=true)
 two:q.k= .call->∀j q',is[j]? =some q'->k≠j->Hj q'.k=true->q'.bf.testBit k=true\/q.bf.testBit j=true\/2<=x
theorem Su.get (S:Su C pr ms ops l is m A B ss) (hp:l[k]? =some p): ∃q x,OpT C pr ops is k p q x:=by
 rw[S.hl]at hp;have⟨q,o,h1,h2,h3⟩:=MO _ _ _ _ _ _ hp;rw[eO]at h3;have h1':=h1;rw[S.AE]at h1';have⟨o',g1,g2,g3,g4,g5⟩:=Va _ _ _ _ _ _ _ h1';rw[h2]at g1;cases g1;have⟨k1,⟨o',k2,k3⟩,_⟩:=MH S.ok k q h1;rw[h2]at k2;cases k2;rw[eO]at k1;have aw: ∀j,q.bf.testBit j=true->j<k:=by
  intro j hj;rcases jI j k with h|h
  .exact h
  .have:q.bf<2^j:=mI k1 (nT (by omega) h)
   rw[HH this]at hj;cases hj
 have bs: ∀f:lZ->Bool,∀j q',is[j]? =some q'->k≠j->f q'.k=true->we k q.bf f 0 is=false->q'.bf.testBit k=true\/q.bf.testBit j=true:=by
  intro f j q' hq dM hf hb;cases e1:q'.bf.testBit k with
  |true=>exact .inl rfl
  |false=>
   cases e2:q.bf.testBit j with
   |true=>exact .inr rfl
   |false=>rw[Zrw (i:=k) (bi:=q.bf) (f:=f) (j0:=0) hq (by omega) e1 (by rw[eO];exact e2) hf]at hb;cases hb
 have wu: ∀j q',is[j]? =some q'->k≠j->BM k q.bf 0 is=false->q'.bf.testBit k=true\/q.bf.testBit j=true\/(j<k/\DW q'.k=true):=by
  intro j q' hq dM hb;cases e1:q'.bf.testBit k with
  |true=>exact .inl rfl
  |false=>
   cases e2:q.bf.testBit j with
   |true=>exact .inr (.inl rfl)
   |false=>
    cases e3:(Nat.blt j k&&DW q'.k)with
    |false=>rw[Zon (i:=k) (bi:=q.bf) (j0:=0) hq (by omega) e1 (by rw[eO];exact e2) (by rw[eO];exact e3)]at hb;cases hb
    |true=>
     rw[aY,qz]at e3;exact .inr (.inr e3)
 refine⟨q,_,h1,?_,by rw[h3],by rw[h3];simp_all,by rw[h3];exact g4,by rw[h3];exact g5,aw,by grind,λe he hb=>by rw[g2];exact Zza (by rw[h3]at he;exact he) hb,λj hj=>?_,λhx j q' hq dM=>?_,λhc j q' hq dM hh=>?_⟩
 .rw[h3,<-kV];exact h2
 .rw[g2]at hj
  have⟨e,he,hb,hj⟩:=ZxJ hj;rw[h3];refine⟨e,he,hb,hj.imp id λhj=>?_⟩;simp only[jH,dW]at hj;have Cu:((((is.take k).map λx:gB=>x.bf)[e.on]?).getD 0).testBit j=true:=by rw[S.AE];exact hj
  cases hx:((is.take k).map λx:gB=>x.bf)[e.on]? with
  |none=>rw[hx]at Cu;simp at Cu
  |some b=>
   rw[hx]at Cu;rw[rQ]at hx;cases hy:(is.take k)[e.on]? with
   |none=>rw[hy]at hx;cases hx
   |some q'=>
    rw[hy]at hx;simp only[nf,fT]at hx;rw[xo]at hy;split at hy
    .exact⟨q',hy,by rw[hx];exact Cu⟩
    .cases hy
 .grind
 .cases hb:we k q.bf Hj 0 is with
  |false=>grind
  |true=>
   cases c9:we k q.bf (λ_=>true) 0 is with
   |false=>grind
   |true=>
    cases Ew:YM C.mp o&& !BM k q.bf 0 is with
    |true=>
     rw[aY,lF]at Ew;rcases wu j q' hq dM Ew.2 with h|h|⟨_,h⟩
     .exact .inl h
     .exact .inr (.inl h)
     .exfalso
      generalize q'.k=z at hh h;cases z<;>simp[Hj,DW]at hh h
    |false=>grind
theorem Su.F (S:Su C pr ms ops l is m A B ss) (hk:k<m) (hp:l[k]? =some p):mM (nj p.2 (B k)) pr ms p.1 (B k) (ss k) (A (k+1)) (ss (k+1)):=(S.st k p hk hp).opF
theorem Su.CQ (S:Su C pr ms ops l is m A B ss) (hk:k<m): ∃p,l[k]? =some p:=by
 have:=S.Pj;have:=S.hm;exact⟨l[k]'(by omega),cq _⟩
theorem Su.ve (S:Su C pr ms ops l is m A B ss): ∀k,k<=m->jx (B k)
 |0,h=>S.e0.iU (S.w 0 h)
 |k+1,h=>by
  have⟨p,hp⟩:=S.CQ (k:=k) (by omega);exact((S.F (by omega) hp).gR (S.ve k (by omega))).iU (S.w (k+1) h)
theorem DD (h:mN E E') (x:dH):ej E' s x↔ej E s x:=by
 simp[ej,h.bQ]
theorem Su.aeg (S:Su C pr ms ops l is m A B ss) (hk:k<m) (hd:ej (B k) (ss k) h):ej (A (k+1)) (ss (k+1)) h:=by
 have⟨p,hp⟩:=S.CQ hk;have hF:=S.F hk hp;cases h with
 |inl i=>exact mI hd hF.len
 |inr v=>exact mI hd hF.bQ
theorem Su.qV (S:Su C pr ms ops l is m A B ss) {h:dH} {j:Nat} : ∀(d:Nat),j+d<=m->ej (B j) (ss j) h->ej (B (j+d)) (ss (j+d)) h
 |0,_,hd=>hd
 |d+1,hk,hd=>(DD (S.w (j+d+1) hk) h).2 (S.aeg (k:=j+d) (by omega) (S.qV d (by omega) hd))
theorem Su.vb (S:Su C pr ms ops l is m A B ss) (vu:j<=k) (hk:k<=m) (hd:ej (B j) (ss j) h):ej (B k) (ss k) h:=by
 have:=S.qV (j:=j) (k-j) (by omega) hd;rwa [show j+(k-j)=k by omega]at this
def Wr (l:List (Oper×Md)) (B:Nat->Env) (i:Nat) (h:dH):Prop:=∃p,l[i]? =some p/\nj p.2 (B i) h
theorem Su.back (S:Su C pr ms ops l is m A B ss) {h:dH} {ab:AB} {j:Nat} : ∀(d:Nat),j+d<=m->(∀i,j<=i->i<j+d->¬Wr l B i h)->ej (B j) (ss j) h->CR (B (j+d)) (ss (j+d)) h ab->CR (B j) (ss j) h ab
 |0,_,_,_,c=>c
 |d+1,hk,hw,hd,c=>by
  have⟨p,hp⟩:=S.CQ (k:=j+d) (by omega);rcases(S.F (by omega) hp).back h ab (c.iU (S.w _ hk))with x|x|x
  .exact absurd ⟨p,hp,x⟩ (hw (j+d) (by omega) (by omega))
  .exact absurd (S.qV d (by omega) hd) x.1
  .exact S.back d (by omega) (by grind) hd x
theorem Su.NK (S:Su C pr ms ops l is m A B ss) (vu:j<=k) (hk:k<=m) (hw: ∀i,j<=i->i<k->¬Wr l B i h) (hd:ej (B j) (ss j) h) (c:CR (B k) (ss k) h ab):CR (B j) (ss j) h ab:=by
 have:=S.back (j:=j) (ab:=ab) (k-j) (by omega) (by grind) hd;rw[show j+(k-j)=k by omega]at this;exact this c
theorem Su.fix (S:Su C pr ms ops l is m A B ss) {x:Nat} {j:Nat} : ∀(d:Nat),j+d<=m->(∀i,j<=i->i<j+d->¬Wr l B i (.inl x))->x<(ss j).length->(ss (j+d))[x]? =(ss j)[x]?
 |0,_,_,_=>rfl
 |d+1,hk,hw,hx=>by
  have⟨p,hp⟩:=S.CQ (k:=j+d) (by omega);have hd:x<(ss (j+d)).length:=S.qV (h:= .inl x) d (by omega) hx;have:=(S.F (by omega) hp).acO x (λhi=>hw (j+d) (by omega) (by omega) ⟨p,hp,hi⟩) hd;rw[show j+(d+1)=j+d+1 by omega,this,S.fix d (by omega) (by grind) hx]
theorem Su.bJ (S:Su C pr ms ops l is m A B ss) {ψ:Ps} {x:Value} {t:Nat} {j:Nat} : ∀(d:Nat),j+d<=m->(∀i p,j<=i->i<j+d->l[i]? =some p->p.1.dst≠some t)->gI C ψ ((B j).get t) x->gI C ψ ((B (j+d)).get t) x
 |0,_,_,r=>r
 |d+1,hk,hw,r=>by
  have⟨p,hp⟩:=S.CQ (k:=j+d) (by omega);have:=(S.F (by omega) hp).bJ t (by grind) C ψ x (S.bJ d (by omega) (by grind) r);rcases(S.w _ hk).get t with e|e
  .rw[e];exact this
  .rw[e];trivial
theorem Su.val (S:Su C pr ms ops l is m A B ss) {t j:Nat} {x:DV} : ∀(d:Nat),j+d<=m->(∀i p,j<=i->i<j+d->l[i]? =some p->p.1.dst≠some t)->(B (j+d)).get t= .v x->(B j).get t= .v x
 |0,_,_,e=>e
 |d+1,hk,hw,e=>by
  have⟨p,hp⟩:=S.CQ (k:=j+d) (by omega);refine S.val d (by omega) (by grind) ((S.F (by omega) hp).val t x (by grind) ?_);rcases(S.w _ hk).get t with e'|e'
  .exact e'.symm.trans e
  grind
theorem Zs2 (h:mN E E') {v:Nat} (e:(E'.get t).df=some v):(E.get t).df=some v:=by
 rcases h.get t with e'|e'
 .rw[<-e'];exact e
 .rw[e']at e;cases e
theorem mM.df {W:dH->Prop} {o:Oper} {E E':Env} {s s':St} (hF:mM W pr ms o E s E' s') {t v:Nat} (e:(E'.get t).df=some v):(E.get t).df=some v\/(E.bQ<=v/\o.dst=some t):=by
 cases he:E'.get t with
 |loc v' n cs=>
  rw[he]at e;simp only[eQ.df,fT]at e;subst e;exact(hF.xl t _ n cs he).imp (λ⟨c,h⟩=>by rw[h];rfl) id
 |it v' s p=>
  rw[he]at e;simp only[eQ.df,fT]at e;subst e;exact(hF.zd t _ s p he).imp (λ⟨c,h⟩=>by rw[h];rfl) id
 |_=>rw[he]at e;cases e
theorem Su.df (S:Su C pr ms ops l is m A B ss) {t v j:Nat} : ∀(d:Nat),j+d<=m->v<(B j).bQ->((B (j+d)).get t).df=some v->((B j).get t).df=some v
 |0,_,_,e=>e
 |d+1,hk,hv,e=>by
  have⟨p,hp⟩:=S.CQ (k:=j+d) (by omega);have hd:v<(B (j+d)).bQ:=S.qV (h:= .inr v) d (by omega) hv;rcases(S.F (by omega) hp).df (Zs2 (S.w _ hk) e)with h|h
  .exact S.df d (by omega) hv h
  .omega
theorem Su.acZ (S:Su C pr ms ops l is m A B ss) {v:Nat} (vu:j<=k) (hk:k<=m) (hv:v<(B j).bQ) (e:((B k).get t).df=some v):((B j).get t).df=some v:=
 S.df (j:=j) (k-j) (by omega) hv (by rwa [show j+(k-j)=k by omega])
end
theorem ZvA (k k':lZ):Ai k k'=Ai k' k:=by
 cases k<;>cases k'<;>simp only[Ai]<;>(rw[lE];grind[Nat.beq_eq])
theorem Zs5 {k:lZ} (h:V9 k k'=false):Ai k k'=false:=by
 cases k<;>cases k'<;>first|exact h|cases h
theorem Ztp {k:lZ} {x:Nat} (c:Ai k k'=false) (h2:k= .call->Hj k'=true->2<=x) (hv: ∀r q v,(E.get r).df=some v->(E'.get q).df=some v->r=q)
  (hb: ∀bs b,k= .ap bs->k'= .lp b->b∈bs->∀j p,E.get b= .v (.ptr (some (j,p)))->E'.get b= .v (.ptr (some (j,p)))):
  ∀h,nj (.d k x) E h->¬pO (.d k' x') E' h:=by
 intro h hw hd;cases k<;>cases k'<;>first
  |exact hw.elim
  |exact hd.elim
  |(simp[Ai]at c;done)
  |(have h3:=h2 rfl rfl;have h4:=hw.1;omega)
  |(obtain⟨i,rfl⟩:=hw;have⟨v,e,_⟩:=hd;cases e;done)
  |(obtain⟨_,i,rfl⟩:=hw;have⟨v,e,_⟩:=hd;cases e;done)
  |(obtain⟨v,rfl,_⟩:=hw;have⟨i,e⟩:=hd;cases e;done)
  |(obtain⟨v,rfl,_⟩:=hw;have⟨i,p,_,e⟩:=hd;cases e;done)
  |(obtain⟨i,rfl,_⟩:=hw;have⟨v,e,_⟩:=hd;cases e;done)
  |(obtain⟨v,rfl,e1⟩:=hw
    have⟨v',e,e2⟩:=hd;cases e;have:=hv _ _ _ e1 e2;subst this;simp[Ai]at c)
  |(rename_i bs b
    obtain⟨i,rfl,hw⟩:=hw;have⟨i',p',e1,e2⟩:=hd;cases e2;have iO:b∈bs:=by
     have:has bs b=true:=by simpa [Ai]using c
     exact(IV _ _).1 this
    grind)
theorem Zxq {ops:List Oper} (h:tr o):cls P pr ops o= .hp\/cls P pr ops o= .call\/cls P pr ops o= .ap []:=by
 unfold tr at h;cases ho:o.op<;>rw[ho]at h<;>simp only at h
 case call q=>
  split at h
  .rename_i hq
   cases hp:has pr 1000000 with
   |true=>simp[cls,ho,hq,hp]
   |false=>simp[cls,ho,hq,hp]
  .rename_i hq;simp[cls,ho,hq]
  .exact h.elim
 all_goals exact .inl (by simp[cls,ho])
theorem Zu3 {ops:List Oper} (h:tr o) (k m:Nat):vM pr ops k m (cls P pr ops o)= .hp\/vM pr ops k m (cls P pr ops o)= .call\/∃bs,vM pr ops k m (cls P pr ops o)= .ap bs:=by
 rcases Zxq (P:=P) (pr:=pr) (ops:=ops) h with e|e|e<;>rw[e]
 .exact .inl rfl
 .exact .inr (.inl rfl)
 .exact .inr (.inr ⟨_,rfl⟩)
theorem ZuM {k:lZ} {x:Nat} (h:k= .hp\/k= .call\/∃bs,k= .ap bs) (i:Nat):pO (.d k x) E (.inl i):=by
 rcases h with rfl|rfl|⟨bs,rfl⟩<;>exact⟨i,rfl⟩
theorem ZyQ {ops:List Oper} {b:Nat} {c:lZ} (h:vM pr ops k m c= .lp b):c= .lp b:=by
 cases c<;>first|exact h|cases h
theorem Zwu {ops:List Oper} {b:Nat} {c:lZ} (h:vM pr ops k m c= .pH b):c= .pH b:=by
 cases c<;>first|exact h|cases h
theorem ZxT {ops:List Oper} {c:lZ} {bs:al} (h:vM pr ops k m c= .ap bs):bs=(Ji m 0 (ops.take k)).filter λb=>KK b (ops.take k)&&(ta pr ops 12 b).isNone:=by
 cases c<;>cases h
 rfl
theorem ZzX {ops:List Oper} {b:Nat} (h:cls P pr ops o= .lp b):yO b o=true:=by
 unfold yO;cases ho:o.op with
 |load t a=>
  cases a with
  |tmp a=>
   cases hr:ta pr ops 12 a with
   |none=>simp[cls,ho,hr]at h;simp[h]
   |some q=>simp[cls,ho,hr]at h
  |_=>simp[cls,ho]at h
 |store t a y=>
  cases a with
  |tmp a=>cases hr:ta pr ops 12 a<;>simp[cls,ho,hr]at h
  |_=>simp[cls,ho]at h
 |next it b=>cases it<;>simp[cls,ho]at h
 |slice t y lo hi mx=>
  simp only[cls,ho]at h;split at h<;>simp at h
 |call q=>
  cases hp:has pr 1000000<;>simp only[cls,ho,hp,ae,af]at h<;>split at h<;>simp at h
 |_=>simp[cls,ho]at h
theorem Zrm {b:Nat} : ∀ {L:List Oper},KK b L=true->∀(i j:Nat) (o o':Oper),L[i]? =some o->yO b o=true->i<=j->L[j]? =some o'->o'.dst≠some b
 |[],_,i,j,o,o',h,_,_,_=>by simp at h
 |x::r,h,i,j,o,o',hi,hl,mn,hj=>by
  unfold KK at h;cases hx:yO b x with
  |true=>
   rw[hx]at h;simp only[ae]at h;have:=vT.1 h o' (uw hj);intro e;rw[e]at this;simp at this
  |false=>
   rw[hx]at h;simp only[af]at h;cases i with
   |zero=>
    grind
   |succ i=>
    obtain⟨j,rfl⟩: ∃j',j=j'+1:=⟨j-1,by omega⟩;exact Zrm h i j o o' (by simpa using hi) hl (by omega) (by simpa using hj)
section
variable {C:bC} {pr ms:al} {ops:Array Oper} {l:List (Oper×Md)} {is:List gB} {m:Nat} {A B:Nat->Env} {ss:Nat->St}
abbrev Fo (A B:Nat->Env) (ss:Nat->St) (i:Nat) (h:dH):Prop:=xw (B i) (ss i) (A (i+1)) (ss (i+1)) h
structure LF (pr ms:List Nat) (ops:Array Oper) (l:List (Oper×Md)) (A B:Nat->Env) (ss:Nat->St) (i k:Nat) (p p':Oper×Md):Prop where
 d1: ∀t,p.1.dst=some t->(rC pr ops.toList p'.1).testBit t=false
 d2: ∀t,p'.1.dst=some t->(rC pr ops.toList p.1).testBit t=false
 d3: ∀t,p.1.dst=some t->p'.1.dst≠some t
 w1: ∀h,nj p.2 (B i) h->¬pO p'.2 (B k) h
 w2: ∀h,nj p'.2 (B k) h->¬pO p.2 (B i) h
 n1: ∀h,Fo A B ss i h->¬nj p'.2 (B k) h
 n2: ∀h,Fo A B ss k h->¬nj p.2 (B i) h
theorem Su.aa6 (S:Su C pr ms ops l is m A B ss) (GR:i<k) (hk:k<m) (hp:l[i]? =some p) (fQ:l[k]? =some p') (hn: ¬BZ is i k):LF pr ms ops l A B ss i k p p':=by
 have⟨q,x,T⟩:=S.get hp;have⟨q',x',T'⟩:=S.get fQ;have yl:P5 q q':=by
  have⟨_,_,h⟩:=MH S.ok i q T.iq;rcases h k q' GR T'.iq with h|h
  .rw[eO]at h;exact absurd ⟨q',T'.iq,h⟩ hn
  .exact h
 have⟨ct,e1,e2,e3⟩:=yl;have c:=Zs5 ct;rw[T.dst,T'.lk]at e1;rw[T'.dst,T.lk]at e2;rw[T.dst,T'.dst]at e3;have hv: ∀r t v,((B i).get r).df=some v->((B k).get t).df=some v->r=t:=λr t v h1 h2=>
  (S.ve i (by omega)).uniq r t v h1 (S.acZ (by omega) (by omega) ((S.ve i (by omega)).lt r v h1) h2)
 have w1: ∀h,nj p.2 (B i) h->¬pO p'.2 (B k) h:=by
  rw[T.md,T'.md];refine Ztp c (λh1 h2=>?_) hv (λbs b h1 h2=>by rw[h1,h2]at ct;cases ct);rcases T.two h1 k q' T'.iq (by omega) h2 with h|h|h
  .exact absurd ⟨q',T'.iq,h⟩ hn
  .have:=T.lt k h;omega
  .exact h
 have w2: ∀h,nj p'.2 (B k) h->¬pO p.2 (B i) h:=by
  rw[T.md,T'.md];refine Ztp (by rw[ZvA];exact c) (λh1 h2=>?_) (by grind) (λbs b h1 h2 iO j pp hg=>?_);rotate_left
  .have vj:=ZxT (T'.kc.symm.trans h1)
   rw[vj,Fb]at iO;have qa:yO b p.1=true:=ZzX (ZyQ (T.kc.symm.trans h2));have eC:ops.toList[i]? =some p.1:=by rw[kV];exact T.op
   refine S.val (j:=i) (k-i) (by omega) (λi' Hl g1 g2 g3=>?_) (by rw[show i+(k-i)=k by omega];exact hg);have⟨q'',x'',T''⟩:=S.get g3;have ah3:ops.toList[i']? =some Hl.1:=by rw[kV];exact T''.op
   exact Zrm (Bool.and_eq_true_iff.1 iO.2).1 i i' p.1 Hl.1 (by rw[xo,bE (by omega)];exact eC) qa g1 (by rw[xo,bE (by omega)];exact ah3)
  rcases T'.two h1 i q T.iq (by omega) h2 with h|h|h
  .have:=T.lt k h;omega
  .exact absurd ⟨q',T'.iq,h⟩ hn
  .exact h
 have d1: ∀t,p.1.dst=some t->(rC pr ops.toList p'.1).testBit t=false:=λt h=>by rw[h]at e1;exact e1
 refine⟨d1,λt h=>by rw[h]at e2;exact e2,λt h h'=>?_,w1,w2,λh iA hw=>?_,λh iA hw=>?_⟩
 .rw[h,h']at e3
  grind[WC,Fe]
 .cases h with
  |inl y=>
   have hF:=S.F (by omega) hp;rcases hF.grow with hg|hg
   .have h1:=iA.1;have h2:=iA.2
    grind[ej]
   .refine w2 _ hw ?_
    rw[T.md,T.kc];exact ZuM (Zu3 hg _ _) y
  |inr v=>
   rw[T'.md]at hw;cases hq:q'.k<;>rw[hq]at hw<;>first|exact hw.elim|skip
   .have⟨y,e⟩:=hw;cases e
   .have⟨_,y,e⟩:=hw;cases e
   .rename_i r
    have⟨v',e,eU⟩:=hw;cases e;have aw:v<(B (i+1)).bQ:=by rw[(S.w (i+1) (by omega)).bQ];exact iA.2
    have h1:=Zs2 (S.w (i+1) (by omega)) (S.acZ (by omega) (by omega) aw eU);rcases(S.F (by omega) hp).df h1 with h2|⟨_,h2⟩
    .exact iA.1 ((S.ve i (by omega)).lt r v h2)
    .have h3:=d1 r h2
     have h4:=Zv2 (P:=C.P) (pr:=pr) (ops:=ops.toList) (o:=p'.1) (r:=r) (.inr (Zwu (T'.kc.symm.trans hq)));rw[h3]at h4;cases h4
   .have⟨y,e,_⟩:=hw;cases e
 .cases h with
  |inl y=>
   have hF:=S.F hk fQ;rcases hF.grow with hg|hg
   .have h1:=iA.1;have h2:=iA.2
    grind[ej]
   .refine w1 _ hw ?_
    rw[T'.md,T'.kc];exact ZuM (Zu3 hg _ _) y
  |inr v=>
   rw[T.md]at hw;cases hq:q.k<;>rw[hq]at hw<;>first|exact hw.elim|skip
   .have⟨y,e⟩:=hw;cases e
   .have⟨_,y,e⟩:=hw;cases e
   .rename_i r
    have⟨v',e,eU⟩:=hw;cases e;have:ej (B i) (ss i) (.inr v):=(S.ve i (by omega)).lt r v eU;exact iA.1 (S.vb (by omega) (by omega) this)
   .have⟨y,e,_⟩:=hw;cases e
theorem Zo1 {a:Act} (R: ∀j w r,o.guard=some (j,w)->nu ops j=some r->gI C ψ (E.get r) (a.tmps.getD r undef)) (h:GW (nu ops) E o):Region.wanted o (yielded ops a.tmps)=true:=by
 unfold Region.wanted;rcases h with h|⟨j,w,r,h1,h2,h3⟩
 .rw[h]
 .have hr:=R j w r h1 h2
  rw[h1];rw[MZ]at h2;rw[h3]at hr;have:a.tmps.getD r undef= .bool w:=by generalize a.tmps.getD r undef=x at hr;cases hr;rfl
  simp[yielded,h2,MV a r w this]
theorem ZsF {a:Act} (R: ∀j w r,o.guard=some (j,w)->nu ops j=some r->gI C ψ (E.get r) (a.tmps.getD r undef)) (h:GU (nu ops) E o):Region.wanted o (yielded ops a.tmps)=false:=by
 unfold Region.wanted;have⟨j,w,r,h1,h2,h3⟩:=h;have hr:=R j w r h1 h2;rw[h1];rw[MZ]at h2;rcases h3 with⟨b,h3,hb⟩|h3
 .rw[h3]at hr
  have:a.tmps.getD r undef= .bool b:=by generalize a.tmps.getD r undef=x at hr;cases hr;rfl
  simp[yielded,h2,MV a r b this,hb]
 .rw[h3]at hr
  have hr:a.tmps.getD r undef=undef:=hr;have:a.tmps[r]? =none\/a.tmps[r]? =some undef:=by
   rw[rO]at hr;grind
  have hy:yielded ops a.tmps j=none:=by
   unfold yielded;rw[h2];rcases this with e|e<;>simp[e,undef]
  simp[hy]
theorem Zxf (st:Step C (nu ops) pr ms p E s E' s') {a:Act} (pre:aB C p.1 (pO p.2 E) E s ψ Q a w) (room:LM E s E' s' ψ)
  (hg: ∀j w r,p.1.guard=some (j,w)->nu ops j=some r->gI C ψ (E.get r) (a.tmps.getD r undef)) (hi:ops[i]? =some p.1) {K:Act->World->Prop}
  (h: ∀ψ' Q' v w',LJ C (pO p.2 E) (nj p.2 E) E s E' s' ψ Q w ψ' Q' w'->(∀d,p.1.dst=some d->gI C ψ' (E'.get d) v)->K (a.put p.1.dst v) w'):wpOp C.P ops QQ i K a w:=by
 unfold wpOp;simp only[hi];cases st with
 |act g hF hO=>
  rw[bE (Zo1 hg g)];exact .inl (hO ψ Q a w K QQ pre room h)
 |skip g=>
  rw[bj (by rw[ZsF hg g];simp)];refine h ψ Q undef w ⟨pre.eW,.refl _ _ _,λh cb e=> .inl e,λh ab cb c hw e=>?_,λh ab cb e q _ _=>q⟩ λd hd=>?_
  .rcases hw with hw|⟨n1,n2⟩
   .exact pre.j7 h ab cb (Ni _ _ _ hw) (c.fg rfl) e
   .exact absurd (by cases h<;>simpa [ej]using n2) n1
  .rw[Env.kG,bE hd];rfl
structure Inv (C:bC) (f:Fr) (l:List (Oper×Md)) (is:List gB) (m:Nat) (A B:Nat->Env) (ss:Nat->St) (ψi:Ps) (L:Nat->Prop) (a:Act) (w:World) (ψ:Ps) (Q:Kn):Prop where
 eW:ft C ψ Q w
 gE:rV ψ w
 lx:Glob C ψ
 j8: ∀t j,j<=m->(∀i p,i<j->l[i]? =some p->¬L i->p.1.dst≠some t)->(∀i p,j<=i->l[i]? =some p->L i->p.1.dst≠some t)->gI C ψ ((B j).get t) (a.tmps.getD t undef)
 j7: ∀h j ab cb,j<=m->(∀i,i<j->¬L i->¬Wr l B i h)->(∀i,j<=i->L i->¬Wr l B i h)->CR (B j) (ss j) h ab->ψ h=some cb->Q h ab
 free: ∀i h,i<m->¬L i->Fo A B ss i h->ψ h=none
 news: ∀h cb,ψ h=some cb->ψi h=some cb\/(¬ej (B 0) (ss 0) h/\ej (B m) (ss m) h)
 ext:Ext f.iI (CS f.s0) f.w0 ψ Q w
 nN:Ks f a
 defs:a.defers=f.WB
 sub: ∀i,L i->i<m
 down: ∀i k,L k->BZ is i k->L i
theorem ZAb (hE:jx E) (c:CR E s h ab) (c':CR E s h cZ):ab=cZ:=by
 cases h with
 |inl i=>
  have h1:dx s i=some ab:=c;have h2:dx s i=some cZ:=c';rw[h1]at h2;grind
 |inr v=>
  rcases c with⟨t,n,cs,e,rfl⟩|⟨t,l,p,e,rfl⟩<;>rcases c' with⟨t',n',cs',e',rfl⟩|⟨t',l',p',e',rfl⟩<;>
   (have:=hE.uniq t t' v (by rw[e];rfl) (by rw[e'];rfl);subst this;rw[e]at e';cases e';try rfl)
theorem Su.born (S:Su C pr ms ops l is m A B ss) {h:dH} {j:Nat} : ∀(d:Nat),j+d<=m->¬ej (B j) (ss j) h->ej (B (j+d)) (ss (j+d)) h->∃k,j<=k/\k<j+d/\Fo A B ss k h
 |0,_,hn,hd=>absurd hd hn
 |d+1,hk,hn,hd=>by
  have kK:ej (A (j+d+1)) (ss (j+d+1)) h:=(DD (S.w _ hk) h).1 hd;by_cases e:ej (B (j+d)) (ss (j+d)) h
  .have⟨k,h1,h2,h3⟩:=S.born d (by omega) hn e
   grind
  .exact⟨j+d,by omega,by omega,e,kK⟩
theorem ZAc {v:Nat} (h:(E.get t).df=some v): ∃ab,CR E s (.inr v) ab:=by
 cases he:E.get t with
 |loc v' n cs=>
  rw[he]at h;simp only[eQ.df,fT]at h;subst h;exact⟨_,.inl ⟨t,n,cs,he,rfl⟩⟩
 |it v' x p=>
  rw[he]at h;simp only[eQ.df,fT]at h;subst h;exact⟨_,.inr ⟨t,x,p,he,rfl⟩⟩
 |_=>rw[he]at h;cases h
variable {f:Fr} {ψi:Ps} {L:Nat->Prop} {a:Act} {w:World} {ψ:Ps} {Q:Kn}
theorem Inv.pre (S:Su C pr ms ops l is m A B ss) (I:Inv C f l is m A B ss ψi L a w ψ Q) (hi:i<=m) (_hp:l[i]? =some p) (hL: ¬L i) (aj7: ∀j,BZ is j i->L j)
  (iZ: ∀k p',k<i->l[k]? =some p'->¬L k->(∀t,p'.1.dst=some t->(rC pr ops.toList p.1).testBit t=false)/\∀h,nj p'.2 (B k) h->¬pO p.2 (B i) h) (kJ: ∀k p',i<k->l[k]? =some p'->L k->LF pr ms ops l A B ss i k p p'):
  aB C p.1 (pO p.2 (B i)) (B i) (ss i) ψ Q a w/\∀j w r,p.1.guard=some (j,w)->nu ops j=some r->gI C ψ ((B i).get r) (a.tmps.getD r undef):=by
 have j8: ∀t,(rC pr ops.toList p.1).testBit t=true->gI C ψ ((B i).get t) (a.tmps.getD t undef):=by
  intro t ht;refine I.j8 t i hi (λk p' hk fQ hl e=>?_) (λk p' hk fQ hl e=>?_)
  .have:=(iZ k p' hk fQ hl).1 t e
   rw[ht]at this;cases this
  .rcases Nat.eq_or_lt_of_le hk with h|h
   .subst h;exact hL hl
   .have:=(kJ k p' h fQ hl).d2 t e
    rw[ht]at this;cases this
 refine⟨⟨I.eW,I.gE,I.lx,S.ve i hi,λh ab cb hD c e=>I.j7 h i ab cb hi (λk hk hl=>?_) (λk hk hl=>?_) c e,λt ht=>j8 t (Zrb ht)⟩,λj w r hg hr=>j8 r ?_⟩
 .rintro⟨p',fQ,hw⟩
  grind
 .rintro⟨p',fQ,hw⟩
  rcases Nat.eq_or_lt_of_le hk with e|e
  .subst e;exact hL hl
  .exact(kJ k p' e fQ hl).w2 h hw hD
 .unfold nu at hr
  split at hr
  .rename_i o ho;exact Zvl hg ho hr
  .cases hr
theorem Inv.step (S:Su C pr ms ops l is m A B ss) (I:Inv C f l is m A B ss ψi L a w ψ Q) (hi:i<m) (hp:l[i]? =some p) (hL: ¬L i) (Ev: ∀j,BZ is j i->L j)
  (hd: ∀x,p.1.dst=some x->f.ok x=true) {K:Act->World->Prop}
  (h: ∀a' w' ψ' Q',Inv C f l is m A B ss ψi (λj=>L j\/j=i) a' w' ψ' Q'->K a' w'):wpOp C.P ops QQ i K a w:=by
 have iZ: ∀k p',k<i->l[k]? =some p'->¬L k->LF pr ms ops l A B ss k i p' p:=λk p' hk fQ hl=>S.aa6 hk hi fQ hp λhb=>hl (Ev k hb)
 have kJ: ∀k p',i<k->l[k]? =some p'->L k->LF pr ms ops l A B ss i k p p':=λk p' hk fQ hl=>S.aa6 hk (I.sub k hl) hp fQ λhb=>hL (I.down i k hl hb)
 have⟨pre,hg⟩:=I.pre S (Nat.le_of_lt hi) hp hL Ev (λk p' hk fQ hl=>⟨(iZ k p' hk fQ hl).d1,(iZ k p' hk fQ hl).w1⟩) kJ;have⟨q,x,T⟩:=S.get hp;refine Zxf (S.st i p hi hp) pre (λk hk=>I.free i k hi hL hk) hg T.op λψ' Q' v w' P he=>h _ _ ψ' Q' ?_
 have ahl: ∀k h,k<m->¬(L k\/k=i)->Fo A B ss k h->ψ' h=none:=by
  intro k h hk hl iA;cases e:ψ' h with
  |none=>rfl
  |some cb=>
   rcases P.news h cb e with e|e
   .rw[I.free k h hk (λx=>hl (.inl x)) iA]at e;cases e
   .rcases Nat.lt_trichotomy i k with GR|GR|GR
    .exact absurd (S.vb (j:=i+1) (by omega) (by omega) ((DD (S.w (i+1) (by omega)) h).2 e.2)) iA.1
    .omega
    .exact absurd (S.vb (j:=k+1) (by omega) (by omega) ((DD (S.w (k+1) (by omega)) h).2 iA.2)) e.1
 refine⟨P.eW,P.ext.gE I.gE,P.ext.lx I.lx,λt j hj c1 c2=>?_,λh j ab cb hj c1 c2 c e=>?_,ahl,λh cb e=>?_,I.ext.trans P.ext,I.nN.put hd,by rw[Mu];exact I.defs,λk hk=>?_,λj k hk hb=>?_⟩
 .rw[I3 λx hx=>by rw[I.nN.1];exact f.KW x (hd x hx)]
  by_cases GI:p.1.dst=some t
  .rw[bE GI]
   have mn:i<j:=by
    grind
   have h1:gI C ψ' ((B (i+1)).get t) v:=by
    rcases(S.w (i+1) (by omega)).get t with e|e
    .rw[e];exact he t GI
    .rw[e];trivial
   have:=S.bJ (j:=i+1) (ψ:=ψ') (x:=v) (t:=t) (j-(i+1)) (by omega) (λk p' h1 h2 fQ=>?_) h1
   .rwa [show i+1+(j-(i+1))=j by omega]at this
   .by_cases hl:L k
    .exact(kJ k p' (by omega) fQ hl).d3 t GI
    grind
  .rw[bj GI]
   refine(I.j8 t j hj (λk p' hk fQ hl=>?_) (by grind)).mono P.ext.mono;by_cases e:k=i
   .grind
   grind
 .by_cases hw:nj p.2 (B i) h\/Fo A B ss i h
  .have mn:i<j:=by
    rcases jI i j with h'|h'
    .exact h'
    .rcases hw with hw|hw
     .exact absurd ⟨p,hp,hw⟩ (c2 i h' (.inr rfl))
     .exact absurd (S.vb h' (by omega) (c.qV (S.ve j hj))) hw.1
   have gX: ∀k,i+1<=k->k<j->¬Wr l B k h:=by
    rintro k h1 h2 ⟨p',fQ,sR⟩;by_cases hl:L k
    .rcases hw with hw|hw
     .exact(kJ k p' (by omega) fQ hl).w2 h sR (Ni _ _ _ hw)
     .exact(kJ k p' (by omega) fQ hl).n1 h hw sR
    .exact c1 k (by omega) (by grind) ⟨p',fQ,sR⟩
   have ahd:ej (B (i+1)) (ss (i+1)) h:=by
    rcases hw with hw|hw
    .by_cases e0:ej (B (i+1)) (ss (i+1)) h
     .exact e0
     .have⟨k,k1,k2,k3⟩:=S.born (j:=i+1) (j-(i+1)) (by omega) e0 (by rw[show i+1+(j-(i+1))=j by omega];exact c.qV (S.ve j hj))
      have⟨p',fQ⟩:=S.CQ (k:=k) (by omega);by_cases hl:L k
      .exact absurd hw ((kJ k p' (by omega) fQ hl).n2 h k3)
      grind
    .exact(DD (S.w (i+1) (by omega)) h).2 hw.2
   exact P.p1 h ab cb ((S.NK (by omega) hj gX ahd c).iU (S.w (i+1) (by omega))) hw e
  .have e0:ψ h=some cb:=by
    rcases P.news h cb e with e|e
    .exact e
    grind
   have ahU: ¬Wr l B i h:=by
    rintro⟨p',fQ,sR⟩;rw[hp]at fQ;grind
   have hQ:=I.j7 h j ab cb hj (λk hk hl=>by
    by_cases e:k=i
    .subst e;exact ahU
    grind) (by grind) c e0
   refine P.p2 h ab cb e0 hQ (λx=>hw (.inl x)) λhD agT=>?_
   rcases jI j i with nA|nA
   .have gX: ∀k,j<=k->k<i->¬Wr l B k h:=by
     rintro k h1 h2 ⟨p',fQ,sR⟩;by_cases hl:L k
     .exact c2 k h1 (.inl hl) ⟨p',fQ,sR⟩
     .exact(iZ k p' h2 fQ hl).w1 h sR hD
    cases h with
    |inl y=>
     have c':dx (ss j) y=some ab:=c;have:=S.fix (x:=y) (j:=j) (i-j) (by omega) (by grind) (DL c');rw[show j+(i-j)=i by omega]at this;show dx (ss i) y=some ab;grind[dx]
    |inr v=>
     have yG: ∃r,((B i).get r).df=some v:=by
      rw[T.md]at hD;cases hq:q.k<;>rw[hq]at hD<;>first|exact hD.elim|(have⟨y,e⟩:=hD;cases e;done)|(have⟨y,p',_,e⟩:=hD;cases e;done)|(have⟨v',e,hv⟩:=hD;grind)
     have⟨r,hr⟩:=yG;have⟨cZ,c'⟩:=ZAc (s:=ss i) hr;have c2':=S.NK (Nat.le_of_lt nA) (Nat.le_of_lt hi) gX (c.qV (S.ve j hj)) c';rw[ZAb (S.ve j hj) c c2'];exact c'
   .refine S.NK nA hj (λk h1 h2=>?_) agT c
    rintro⟨p',fQ,sR⟩;rcases Nat.eq_or_lt_of_le h1 with e|e
    .grind
    .by_cases hl:L k
     .exact(kJ k p' e fQ hl).w2 h sR hD
     .exact c1 k h2 (by grind) ⟨p',fQ,sR⟩
 .rcases P.news h cb e with e|e
  .exact I.news h cb e
  .exact .inr ⟨λx=>e.1 (S.vb (cz _) (by omega) x),S.vb (j:=i+1) (by omega) (aO _) ((DD (S.w (i+1) (by omega)) h).2 e.2)⟩
 .rcases hk with hk|hk
  .exact I.sub k hk
  .omega
 .rcases hk with hk|hk
  .exact .inl (I.down j k hk hb)
  grind
end
theorem ZuD: ∀(l:List Bool) (i:Nat),l[i]? =some false->(l.set i true).count false+1=l.count false
 |[],i,h=>by simp at h
 |b::l,0,h=>by
  grind
 |b::l,i+1,h=>by
  grind
def nh (listed:Array Bool) (i:Nat):Prop:=listed[i]? =some true
theorem ZzR (hi:i<listed.size) (j:Nat):nh (listed.setIfInBounds i true) j↔nh listed j\/j=i:=by
 grind[nh]
theorem VD (hi:i<listed.size) (h: ¬nh listed i):listed[i]? =some false:=by
 simp_all[nh]
theorem Zrg (h:i∈Region.ready .any ops listed):i<ops.size/\¬nh listed i/\∀o,ops[i]? =some o->∀e∈o.after,Region.binds .any e=true->nh listed e.on:=by
 unfold Region.ready at h;have⟨h1,h2⟩:=Fb.1 h;rw[ux]at h1;simp only[aY,lF]at h2;refine⟨h1,λhl=>?_,λo ho e he hb=>?_⟩
 .simp_all[nh]
 .have h3:=h2.2
  rw[ho]at h3;simp only[nf,Option.getD_some]at h3;rw[Array.all_eq_true']at h3;have:=h3 e he;rw[hb]at this;simp only[bu,vR]at this;unfold nh;rw[rO]at this;grind
theorem Zxg (ho:ops[i]? =some o) (hl:listed[i]? =some false) (h: ∀e∈o.after,Region.binds .any e=true->nh listed e.on):i∈Region.ready .any ops listed:=by
 unfold Region.ready;refine Fb.2 ⟨(by grind),?_⟩;rw[aY,lF];refine⟨by rw[rO,hl];rfl,?_⟩;rw[ho];rw[nf,Option.getD_some];rw[Array.all_eq_true'];intro e he;cases hb:Region.binds .any e with
 |false=>rfl
 |true=>
  simp_all[nh]
section
variable {C:bC} {pr ms:al} {ops:Array Oper} {l:List (Oper×Md)} {is:List gB} {m:Nat} {A B:Nat->Env} {ss:Nat->St}
variable {f:Fr} {ψi:Ps} {L:Nat->Prop} {a:Act} {w:World} {ψ:Ps} {Q:Kn}
theorem Su.acL (S:Su C pr ms ops l is m A B ss) {listed:Array Bool} (cF:listed.size=ops.size): ∀(n i:Nat),i<n->i<ops.size->¬nh listed i->Region.ready .any ops listed≠[]
 |0,i,h,_,_=>absurd h (Nat.not_lt_zero i)
 |n+1,i,hn,hi,hl=>by
  have hp:l[i]? =some (l[i]'(by rw[S.Pj];exact hi)):=cq _;have⟨q,x,T⟩:=S.get hp;by_cases h: ∀e∈(l[i]'(by rw[S.Pj];exact hi)).1.after,Region.binds .any e=true->nh listed e.on
  .intro e
   have:=Zxg T.op (VD (by omega) hl) h;rw[e]at this;cases this
  .simp only[Classical.not_forall]at h
   have⟨e,he,hb,hle⟩:=h;have:=T.lt _ (T.on e he hb);exact S.acL cF n e.on (by omega) (by omega) hle
theorem Inv.congr (I:Inv C f l is m A B ss ψi L a w ψ Q) (h: ∀i,L i↔L' i):Inv C f l is m A B ss ψi L' a w ψ Q:=by
 have:L=L':=funext λi=>propext (h i)
 rw[<-this];exact I
theorem Ztx (S:Su C pr ms ops l is m A B ss) (hd: ∀p∈l,∀x,p.1.dst=some x->f.ok x=true)
  (qt:Nat->Prop) (bar:m<ops.size->(∀k,m<k->k<ops.size->BZ is m k)/\∀i,i<m->BZ is i m\/qt i)
  (fin:m=ops.size->∀a w ψ Q L,(∀i,i<m->L i)->Inv C f l is m A B ss ψi L a w ψ Q->QQ .normal a w)
  (fp:m<ops.size->∀K a w ψ Q L,(∀i,i<m->L i\/qt i)->Inv C f l is m A B ss ψi L a w ψ Q->wpOp C.P ops QQ m K a w):
  ∀(n:Nat) (listed:Array Bool) (a:Act) (w:World) (ψ:Ps) (Q:Kn),listed.size=ops.size->listed.toList.count false<=n->Inv C f l is m A B ss ψi (nh listed) a w ψ Q->wpAny C.P .any ops QQ n listed a w:=by
 have all: ∀(listed:Array Bool) (a:Act) (w:World) (ψ:Ps) (Q:Kn),listed.size=ops.size->Region.ready .any ops listed=[]->Inv C f l is m A B ss ψi (nh listed) a w ψ Q->QQ .normal a w:=by
  intro listed a w ψ Q cF hr I;have dt: ∀i,i<ops.size->nh listed i:=λi hi=>Classical.byContradiction λhn=>S.acL cF (i+1) i (by omega) hi hn hr
  have hm:m=ops.size:=by
   rcases jI m ops.size with h|h
   .have:=I.sub m (dt m h);omega
   .exact Nat.le_antisymm S.hm h
  grind
 intro n;induction n with
 |zero=>
  intro listed a w ψ Q cF hc I;have hr:Region.ready .any ops listed=[]:=by
   cases hr:Region.ready .any ops listed with
   |nil=>rfl
   |cons i r=>
    have⟨h1,h2,_⟩:=Zrg (i:=i) (ops:=ops) (listed:=listed) (by rw[hr];simp);have:=ZuD listed.toList i (by rw[kV];exact VD (by omega) h2);omega
  exact⟨hr,all listed a w ψ Q cF hr I⟩
 |succ n ih=>
  intro listed a w ψ Q cF hc I;refine⟨by grind,λi hi=>?_⟩;have⟨h1,h2,h3⟩:=Zrg hi;have hp:l[i]? =some (l[i]'(by rw[S.Pj];exact h1)):=cq _;have⟨q,x,T⟩:=S.get hp;have Ev: ∀j,BZ is j i->nh listed j:=by
   rintro j ⟨q',hq,hb⟩;rw[T.iq]at hq;cases hq;have⟨e,he,hbi,hj⟩:=T.agM j hb;have hl:=h3 _ T.op e he hbi;rcases hj with rfl|hj
   .exact hl
   .exact I.down _ _ hl hj
  have akg:=ZuD listed.toList i (by rw[kV];exact VD (by omega) h2);rcases Nat.lt_trichotomy i m with Eh|Eh|Eh
  .refine I.step S Eh hp h2 Ev (hd _ (kA _)) λa' w' ψ' Q' I'=>?_
   exact ih _ _ _ ψ' Q' (by simpa using cF) (by rw[Array.toList_setIfInBounds];omega) (I'.congr λj=>(ZzR (by omega) j).symm)
  .grind
  .have:=I.sub m (by grind)
   omega
theorem Rel.drew {E:Env} {s:St} (R:Rel C f ψ E s a w):Rel C f ψ E s a { w with drawn:=w.drawn+1 } where
 eW:=R.eW.more R.gE (gW.drew w)
 gR:=R.gR
 gE:=R.gE
 lx:=R.lx
 j8:=R.j8
 nN:=R.nN
 defs:=R.defs
 tg:=R.tg
 vN:=R.vN
 ext:=R.ext.trans (Ext.more (gW.drew w))
 news:=R.news
 len:=R.len
 fin:=R.fin
theorem Su.start (S:Su C pr ms ops l is m A B ss) (R:Rel C f ψ (A 0) (ss 0) a w) (hN:(ss m).length<=f.N):Inv C f l is m A B ss ψ (λ_=>False) a w ψ (CR (B 0) (ss 0)):=by
 have R0:=R.iU (S.w 0 (cz _));have aa8: ∀h cb,ψ h=some cb->ej (B m) (ss m) h->ej (B 0) (ss 0) h:=by
  intro h cb e hd;cases h with
  |inl i=>
   rcases jI i (ss 0).length with h|h
   .exact h
   .rw[R0.tg i h (mI hd hN)]at e;cases e
  |inr v=>
   rcases jI v (B 0).bQ with h|h
   .exact h
   .rw[R0.vN v h]at e;cases e
 refine⟨R0.eW,R0.gE,R0.lx,λt j hj c1 _=>?_,λh j ab cb hj c1 _ c e=>?_,λi h hi _ hn=>?_,λh cb e=> .inl e,R0.ext,R0.nN,R0.defs,λ_ h=>h.elim,λ_ _ h=>h.elim⟩
 .have:=S.bJ (j:=0) (ψ:=ψ) (x:=a.tmps.getD t undef) (t:=t) j (by omega) (by grind) (R0.j8 t)
  rwa [eO]at this
 .exact S.NK (cz _) hj (by grind) (aa8 h cb e (S.vb hj (aO _) (c.qV (S.ve j hj)))) c
 .cases e:ψ h with
  |none=>rfl
  |some cb=>
   have h1:ej (B m) (ss m) h:=S.vb (j:=i+1) (by omega) (aO _) ((DD (S.w (i+1) (by omega)) h).2 hn.2);exact absurd (S.vb (cz _) (Nat.le_of_lt hi) (aa8 h cb e h1)) hn.1
theorem Inv.tail (S:Su C pr ms ops l is m A B ss) (R:Rel C f ψi (A 0) (ss 0) a0 w0) (I:Inv C f l is m A B ss ψi L a w ψ Q):
  (∀i,(ss m).length<=i->i<f.N->ψ (.inl i)=none)/\(∀i cb,ψ (.inl i)=some cb->f.iI (.inl i)=some cb\/(f.s0.length<=i/\i<(ss m).length))/\f.s0.length<=(ss m).length:=by
 have hlen:(ss 0).length<=(ss m).length:=by
  rcases Bi (ss 0).length with h|h
  .omega
  .have:=S.vb (h:= .inl ((ss 0).length-1)) (cz m) (aO m) (by rw[ej];omega)
   grind[ej]
 refine⟨λi h1 h2=>?_,λi cb e=>?_,gY R.len hlen⟩
 .cases e:ψ (.inl i)with
  |none=>rfl
  |some cb=>
   rcases I.news _ cb e with e|⟨_,e⟩
   .rw[R.tg i (by omega) h2]at e;cases e
   grind[ej]
 .rcases I.news _ cb e with e|⟨h1,h2⟩
  .rcases R.news i cb e with h|⟨h1,h2⟩
   .exact .inl h
   omega
  .simp only[ej]at h1 h2
   exact .inr ⟨by have:=R.len;omega,h2⟩
theorem Inv.done (S:Su C pr ms ops l is m A B ss) (R:Rel C f ψi (A 0) (ss 0) a0 w0) (I:Inv C f l is m A B ss ψi L a w ψ Q) (hL: ∀i,i<m->L i):Rel C f ψ (B m) (ss m) a w:=by
 have akz:(B 0).bQ=(A 0).bQ:=(S.w 0 (cz _)).bQ;have hlen:(ss 0).length<=(ss m).length:=by
  rcases Bi (ss 0).length with h|h
  .omega
  .have:=S.vb (h:= .inl ((ss 0).length-1)) (cz m) (aO m) (by rw[ej];omega)
   grind[ej]
 have j7: ∀h ab cb,ψ h=some cb->CR (B m) (ss m) h ab->Q h ab:=λh ab cb e c=>I.j7 h m ab cb (aO _) (by grind) (λi hi hl=>by have:=I.sub i hl;omega) c e
 refine⟨I.eW.weaken j7,S.ve m (aO _),I.gE,I.lx,λt=>I.j8 t m (aO _) (by grind) (λi p hi _ hl=>by have:=I.sub i hl;omega),I.nN,I.defs,λi h1 h2=>?_,λv hv=>?_,I.ext.weaken j7,λi cb e=>?_,gY R.len hlen,R.fin⟩
 .cases e:ψ (.inl i)with
  |none=>rfl
  |some cb=>
   rcases I.news _ cb e with e|⟨_,e⟩
   .rw[R.tg i (by omega) h2]at e;cases e
   grind[ej]
 .cases e:ψ (.inr v)with
  |none=>rfl
  |some cb=>
   rcases I.news _ cb e with e|⟨_,e⟩
   .refine absurd e ?_
    have:v<(B m).bQ\/(A 0).bQ<=v:= .inr (by
     rcases jI v (A 0).bQ with h|h
     .have:=S.vb (h:= .inr v) (cz m) (aO m) (by rw[ej];omega)
      grind[ej]
     .exact h)
    rw[R.vN v (by omega)];simp
   grind[ej]
 .rcases I.news _ cb e with e|⟨h1,h2⟩
  .rcases R.news i cb e with h|⟨h1,h2⟩
   .exact .inl h
   omega
  .simp only[ej]at h1 h2
   exact .inr ⟨by have:=R.len;omega,h2⟩
end
section
variable {C:bC} {f:Fr} {ψ:Ps} {E E2:Env} {s s2:St} {a:Act} {w:World} {pr ms:al}
theorem nV.fn (h:nV C dst pr ms l E s s2):
  ∃(m:Nat) (p:Oper×Md) (A B:Nat->Env) (ss:Nat->St),l[m]? =some p/\A 0=E/\ss 0=s/\GW dst (B m) p.1/\p.2.x=0/\xx C p.1 (pO p.2 (B m)) (B m) (ss m) s2/\(∀k,k<=m->mN (A k) (B k))/\
   ∀k p,k<m->l[k]? =some p->Step C dst pr ms p (B k) (ss k) (A (k+1)) (ss (k+1)):=by
 induction h with
 | @iU l E E1 s s2 k _ ih=>
  have⟨m,p,A,B,ss,h1,h2,h3,h4,h5,h6,h7,h8⟩:=ih;refine⟨m,p,λi=>if i=0 then E else A i,B,ss,h1,rfl,h3,h4,h5,h6,λi hi=>?_,λi q hi hq=>by grind⟩;have:=h7 i hi;by_cases e:i=0
  .subst e
   simp only[mJ];rw[h2]at this;exact k.trans this
  grind
 | @here p l E s s' g hx hp=>
  exact⟨0,p,λ_=>E,λ_=>E,λ_=>s,rfl,rfl,rfl,g,hx,hp,λ_ _=> .refl E,λk _ hk=>by omega⟩
 | @next p l E s E1 s1 s2 st _ ih=>
  have⟨m,p',A,B,ss,h1,h2,h3,h4,h5,h6,h7,h8⟩:=ih;refine⟨m+1,p',λi=>match i with|0=>E|i+1=>A i,λi=>match i with|0=>E|i+1=>B i,λi=>match i with|0=>s|i+1=>ss i,by simpa using h1,rfl,rfl,h4,h5,h6,λi hi=>?_,λi q hi hq=>?_⟩
  .cases i with
   |zero=>exact .refl E
   |succ i=>exact h7 i (by omega)
  grind
theorem Ztr (n:Nat) (i:Nat): ¬nh (Array.replicate n false) i:=by
 grind[nh]
theorem ZAe (AE:is=rE C.P pr ops.toList ops.toList []) (hl:l=flags C.mp is 0 is ops.toList) (fP:EO 0 is ops.toList=true)
  (t:Tr C (nu ops) pr ms l E s E2 s2) (R:Rel C f ψ E s a w) (hN:s2.length<=f.N) (hd: ∀p∈l,∀x,p.1.dst=some x->f.ok x=true)
  (h: ∀ψ' a' w',Rel C f ψ' E2 s2 a' w'->QQ .normal a' w'):wpAny C.P .any ops QQ ops.size (Array.replicate ops.size false) a w:=by
 have hlen:l.length=ops.size:=by rw[hl,Mh _ _ _ _ (by rw[AE,L7])];simp
 have⟨A,B,ss,h1,h2,h3,h4,h5⟩:=t.fn;have S:Su C pr ms ops l is ops.size A (λk=>if k=ops.size then E2 else B k) ss:=by
  refine⟨AE,hl,fP,aO _,λk hk=>?_,λk p hk hp=>?_,by rw[h1];exact R.gR⟩
  .by_cases e:k=ops.size
   .grind
   .simp only[e,ng]
    exact(h5 k _ (cq (by omega))).1
  grind
 rw[<-h1,<-h2]at R;refine Ztx (f:=f) S hd (λ_=>False) (by omega) (λ_ a' w' ψ' Q' L hL I=>?_) (by omega) _ _ _ _ _ _ (by simp) (by rw[Array.toList_replicate,List.count_replicate_self];exact aO _)
  ((S.start R (by rw[<-hlen,h3];exact hN)).congr λi=>⟨False.elim,Ztr _ i⟩)
 have:=I.done S R hL;grind
theorem Zzx (AE:is=rE C.P pr ops.toList ops.toList []) (hl:l=flags C.mp is 0 is ops.toList) (fP:EO 0 is ops.toList=true)
  (t:nV C (nu ops) pr ms l E s s2) (R:Rel C f ψ E s a w) (hN:s2.length<=f.N) (hd: ∀p∈l,∀x,p.1.dst=some x->f.ok x=true)
  (h: ∀ch a' w',oK ch->sb C f s2 a' w'->QQ (.panic ch) a' w'):wpAny C.P .any ops QQ ops.size (Array.replicate ops.size false) a w:=by
 have hlen:l.length=ops.size:=by rw[hl,Mh _ _ _ _ (by rw[AE,L7])];simp
 have⟨m,p,A,B,ss,hp,h1,h2,hg,hx,vy,hw,cg⟩:=t.fn;have hm:m<ops.size:=by
  grind
 have S:Su C pr ms ops l is m A B ss:=⟨AE,hl,fP,by omega,hw,cg,by rw[h1];exact R.gR⟩;have hmN:(ss m).length<=f.N:=gY vy.1 hN;rw[<-h1,<-h2]at R;have⟨q,x,T⟩:=S.get hp;have O9:x=0:=by rw[T.md]at hx;exact hx
 have hz:=T.zero O9;refine Ztx (f:=f) (ψi:=ψ) S hd (λi=>∀q',is[i]? =some q'->DW q'.k=true/\q.bf.testBit i=false/\q'.bf.testBit m=false) (λ_=>⟨λk h1 h2=>?_,λi hi=>?_⟩) (λe=>by omega) (λ_ K a' w' ψ' Q' L hL I=>?_) _ _ _ _ _ _ (by simp) (by rw[Array.toList_replicate,List.count_replicate_self];exact aO _)
  ((S.start R hmN).congr λi=>⟨False.elim,Ztr _ i⟩)
 .have hq:is[k]? =some (is[k]'(by rw[S.isLen];exact h2)):=cq _
  rcases hz k _ hq (by omega)with h|h|h
  .exact⟨_,hq,h⟩
  .have:=T.lt k h;omega
  .omega
 .have hq:is[i]? =some (is[i]'(by rw[S.isLen];omega)):=cq _
  have late:(is[i]'(by rw[S.isLen];omega)).bf.testBit m=false:=by
   cases h:(is[i]'(by rw[S.isLen];omega)).bf.testBit m with
   |false=>rfl
   |true=>
    have hpi:l[i]? =some (l[i]'(by omega)):=cq _;have⟨q',x',T'⟩:=S.get hpi;have e:=T'.iq;rw[hq]at e;cases e;have:=T'.lt m h;omega
  cases hb:q.bf.testBit i with
  |true=>exact .inl ⟨q,T.iq,hb⟩
  |false=>
   grind
 .have hLm: ¬L m:=λh=>by have:=I.sub m h;omega
  have⟨pre,yw⟩:=I.pre S (aO m) hp hLm (λj hb=>by
   have⟨q',e,hb⟩:=hb;rw[T.iq]at e;cases e;rcases hL j (T.lt j hb)with h|h
   .exact h
   .have hq:is[j]? =some (is[j]'(by rw[S.isLen];have:=T.lt j hb;omega)):=cq _
    rw[(h _ hq).2.1]at hb;cases hb) (λk p' hk fQ hl=>by
   have⟨q',x',T'⟩:=S.get fQ;rcases hL k hk with h|h
   .exact absurd h hl
   .have⟨h1,h2,_⟩:=h q' T'.iq
    refine⟨λt ht=>?_,λy hw=>?_⟩
    .have⟨_,_,ha⟩:=MH S.ok k q' T'.iq
     rcases ha m q hk T.iq with ha|ha
     .rw[eO,h2]at ha;cases ha
     .have⟨_,e1,_,_⟩:=ha
      rw[T'.dst,T.lk,ht]at e1;exact e1
    .rw[T'.md]at hw
     generalize q'.k=z at h1 hw;cases z<;>first|exact hw.elim|cases h1) (λk p' hk _ hl=>by have:=I.sub k hl;omega)
  have⟨aj3,adr,aj2⟩:=I.tail S R;unfold wpOp;simp only[T.op];rw[bE (Zo1 yw hg)];refine .inl (vy.2 ψ' Q' a' w' K QQ pre (λk hk=>?_) λHz Fp ch xm g0 g1 g2 g3 g4=>h ch a' xm g0 ⟨I.defs,I.nN,_,Go.Gv.Ah (s':=s2) R.fin g1 (I.ext.trans g2) g4 λi cb e=>?_⟩)
  .cases k with
   |inl i=>
    have h1:=hk.1;have h2:=hk.2
    grind[ej]
   |inr v=>
    have h1:=hk.1;have h2:=hk.2
    exact absurd h2 h1
  .rcases g3 _ cb e with e|⟨n1,n2⟩
   .rcases adr i cb e with h|⟨h1,h2⟩
    .exact .inl h
    .exact .inr ⟨h1,mI h2 vy.1⟩
   grind[ej]
end
variable {K:Env->M β}
section
variable {C:bC} {f:Fr} {ψ:Ps} {E E2:Env} {s s2:St} {a:Act} {w:World} {pr:al}
theorem FY: ∀ {l:List Oper} {n:Nat->Bool},okO n l=true->∀o∈l,∀x,o.dst=some x->n x=true
 |[],_,_,o,ho,_,_=>by cases ho
 |y::r,n,h,o,ho,x,hx=>by
  simp only[okO,aY]at h;cases ho with
  |head=>
   have h1:=h.1;rw[hx]at h1;exact h1
  |tail _ ho=>exact FY h.2 o ho x hx
theorem Zu9 (pr:al) (ops:List Oper) (y:Oper) (r:List Oper) (x:Nat) (h:has (match y.dst with|some d=>d::yQ pr ops r|none=>yQ pr ops r) x=true):has (yQ pr ops (y::r)) x=true:=by
 rw[yQ];split
 .split
  .rw[has,lV];exact .inr h
  .exact h
 .rw[has,lV];exact .inr h
 .exact h
theorem Zwl {ops:List Oper} {x:Nat} (hx:o.dst=some x): ∀(l:List Oper),o∈l->has (yQ pr ops l) x=true:=by
 intro l;induction l with
 |nil=>intro ho;cases ho
 |cons y r ih=>
  intro ho;refine Zu9 pr ops y r x ?_;cases ho with
  |head=>rw[hx];simp[has]
  |tail _ ho=>
   have:=ih ho;cases y.dst with
   |none=>exact this
   |some d=>simp[has,this]
theorem Zsr (hC:oI C) (hc:ZT C c) {d:Bool} (h:PC C pr c ops d E K s=some r):
  (∃E' s',s.length<=s'.length/\K E' s'=some r/\Mod (λu=>has (mD pr (.region 0 ops d)) u=false) E E'/\
   ∀ {f:Fr} {ψ:Ps} {a:Act} {w:World} (QQ:Exit->Act->World->Prop) (id:Nat),Rel C f ψ E s a w->C.P.follows .mixedOrders=true->okO f.ok ops.toList=true->s'.length<=f.N->
    (∀ψ' a' w',Rel C f ψ' E' s' a' w'->QQ .normal a' w')->(Code.region id ops d).wp C.P QQ a w)\/
  (∃s',r=(.fp,s')/\s.length<=s'.length/\
   ∀ {f:Fr} {ψ:Ps} {a:Act} {w:World} (QQ:Exit->Act->World->Prop) (id:Nat),Rel C f ψ E s a w->C.P.follows .mixedOrders=true->okO f.ok ops.toList=true->s'.length<=f.N->
    (∀ch a' w',oK ch->sb C f s' a' w'->QQ (.panic ch) a' w')->(Code.region id ops d).wp C.P QQ a w):=by
 have aiS: ∀(l:List (Oper×Md)),(∀p∈l,p.1∈ops.toList)->∀u,has (mD pr (.region 0 ops d)) u=false->LO (yQ pr ops.toList ops.toList) l u:=by
  intro l hl u hu;refine⟨λp hp e=>?_,hu⟩;have:=Zwl (pr:=pr) (ops:=ops.toList) e _ (hl p hp);simp only[mD]at hu;rw[hu]at this;cases this
 have wk: ∀ {l:List (Oper×Md)} {E':Env},(∀p∈l,p.1∈ops.toList)->Mod (LO (yQ pr ops.toList ops.toList) l) E E'->Mod (λu=>has (mD pr (.region 0 ops d)) u=false) E E':=
  λhl m=>⟨λu hu=>m.get u (aiS _ hl u hu),m.bQ,m.xl,m.zd⟩
 cases d with
 |false=>
  simp only[PC,af]at h;have hl: ∀p∈ops.toList.map (λo=>(o,Md.s)),p.1∈ops.toList:=by
   simp
  have hi: ∀k p,(ops.toList.map λo=>(o,Md.s))[k]? =some p->ops[0+k]? =some p.1:=by
   simp
  have cF:(ops.toList.map λo=>(o,Md.s)).length=ops.size:=by simp
  rcases Zrj (dst:=nu ops) hC hc (ops:=ops.toList) _ _ _ _ _ _ h (λp hp=>by obtain⟨o,_,rfl⟩:=pK.1 hp;exact .inl rfl) (λg hg=>by cases hg)with⟨E',s',t,hk,_,hm⟩|⟨s',e,t⟩
  .refine .inl ⟨E',s',t.len,hk,wk hl hm,λQQ id R _ ho hN hn=>wp_region ?_⟩
   have:=Zx3 (QQ:=QQ) t R hN (λp hp x hx=>FY ho p.1 (hl p hp) x hx) hi hn;rw[cF]at this;rwa [List.range_eq_range']
  .refine .inr ⟨s',e,t.len,λQQ id R _ ho hN hn=>wp_region ?_⟩
   have:=ZwG (QQ:=QQ) t R hN (λp hp x hx=>FY ho p.1 (hl p hp) x hx) hi hn;rw[cF]at this;rwa [List.range_eq_range']
 |true=>
  simp only[PC,ae]at h;have⟨fP,h⟩:=Zs h;have hl: ∀p∈flags C.mp (rE C.P pr ops.toList ops.toList []) 0 (rE C.P pr ops.toList ops.toList []) ops.toList,p.1∈ops.toList:=by
   intro p hp;have⟨k,hk⟩:=Fa hp;obtain⟨q,o,_,h2,rfl⟩:=MO _ _ _ _ _ _ hk;grind
  rcases Zrj (dst:=nu ops) hC hc (ops:=ops.toList) _ _ _ _ _ _ h (λp hp=>by
   have⟨k,hk⟩:=Fa hp;obtain⟨q,o,h1,h2,rfl⟩:=MO _ _ _ _ _ _ hk;have⟨o',g1,_,g3,_,_⟩:=Va _ _ _ _ _ _ _ h1;rw[h2]at g1;cases g1;exact .inr ⟨_,_,_,by rw[g3]⟩) (λg hg=>by cases hg)with⟨E',s',t,hk,_,hm⟩|⟨s',e,t⟩
  .exact .inl ⟨E',s',t.len,hk,wk hl hm,λQQ id R hf ho hN hn=>wp_region_any hf (ZAe rfl rfl fP t R.drew hN (λp hp x hx=>FY ho p.1 (hl p hp) x hx) hn)⟩
  .exact .inr ⟨s',e,t.len,λQQ id R hf ho hN hn=>wp_region_any hf (Zzx rfl rfl fP t R.drew hN (λp hp x hx=>FY ho p.1 (hl p hp) x hx) hn)⟩
end
theorem ft.cast (hS:ft C ψ Q w) (hc: ∀h cb ab,ψ' h=some cb->Q' h ab->ψ h=some cb/\∃cZ,Q h cZ/\(ab.gU=true->cZ.gU=true)/\(Holds C ψ w cb cZ->Holds C ψ' w cb ab)):ft C ψ' Q' w:=by
 constructor
 .intro h cb ab e q
  have⟨e0,cZ,q0,_,hh⟩:=hc h cb ab e q;exact hh (hS.holds h cb cZ e0 q0)
 .intro h cb ab h' gm cZ e q hs e' q' hn
  have⟨e0,x,q0,s0,_⟩:=hc h cb ab e q;have⟨e1,y,q1,_,_⟩:=hc h' gm cZ e' q';exact hS.tR h cb x h' gm y e0 q0 (s0 hs) e1 q1 hn
theorem Ext.cast (hE:Ext iI Q0 w0 ψ Q w) (hm: ∀h cb,iI h=some cb->ψ' h=some cb) (hp: ∀h cb,ψ' h=some cb->ψ h=some cb)
  (hc: ∀h cb ab,ψ' h=some cb->Q' h ab->∃cZ,Q h cZ/\(ab.gU=true->cZ.gU=true)):Ext iI Q0 w0 ψ' Q' w where
 mono:=hm
 sZ:=λh cb e=>hE.sZ h cb (hp h cb e)
 size:=hE.size
 j6:=hE.j6
 gU:=λb ⟨h,cb,ab,e,q,hs,hb⟩=>by
  have⟨cZ,q',iQ⟩:=hc h cb ab e q;exact hE.gU b ⟨h,cb,cZ,hp h cb e,q',iQ hs,hb⟩
 live:=λh cb x e q=>by
  have⟨cZ,q',_⟩:=hc h cb x (hm h cb e) q;exact hE.live h cb cZ e q'
 tape:=hE.tape
 os:=hE.os
 output:=hE.output
def tO (ψ:Ps) (N:Nat):Ps
 | .inl i=>ψ (.inl i)
 | .inr v=>if v<N then ψ (.inr v)else none
theorem UO (e:tO ψ N h=some cb):ψ h=some cb:=by
 grind[tO]
structure P8 (cs cs':List DV):Prop where
 len:cs'.length=cs.length
 rel: ∀(C:bC) ψ vs,bG C ψ cs vs->bG C ψ cs' vs
 one:cs.all one=true->cs'.all one=true
theorem Holds.ad3 {f:Bool} (k:P8 cs cs') (h:Holds C ψ w cb (.cells f cs)):Holds C ψ w cb (.cells f cs'):=by
 have⟨h1,h2,h3,h4⟩:=h;refine⟨by rw[k.len];exact h1,k.one h2,λj d hd=>?_,h4⟩;have hv:bG C ψ cs ((List.range cs.length).map λj=>(w.cell? ⟨cb.b,cb.o+j,none⟩).getD undef):=by
  refine bG.of _ _ (by simp) λj d v g1 g2=>?_
  grind
 have⟨v,eU,hr⟩:=(k.rel C ψ _ hv).get hd;rw[rQ]at eU;have hj:j<cs.length:=by
  grind
 rw[List.getElem?_range hj]at eU;simp only[nf,fT]at eU;have⟨v',hc,_⟩:=h3 j cs[j] (cq hj);rw[hc]at eU;grind
inductive Wj (e:eQ):eQ->Prop
 |u:Wj e .u
 |same:Wj e e
 |v (d d':DV):e= .v d->(∀(C:bC) ψ x,VR C ψ d x->VR C ψ d' x)->Wj e (.v d')
 |loc (v n:Nat) (cs cs':ah):e= .loc v n cs->P8 cs cs'->Wj e (.loc v n cs')
structure Bo (E E':Env):Prop where
 bQ:E'.bQ<=E.bQ
 get: ∀t,Wj (E.get t) (E'.get t)
 df: ∀t v,(E'.get t).df=some v->v<E'.bQ
 pl: ∀t r v o,E'.get t= .pl r v o->v<E'.bQ
theorem Wj.df {e e':eQ} (h:Wj e e') {v:Nat} (hv:e'.df=some v):e.df=some v:=by
 cases h with
 |u=>cases hv
 |same=>exact hv
 |v d d' _ _=>cases hv
 |loc v' n cs cs' he _=>rw[he];exact hv
section
variable {C:bC} {f:Fr} {ψ:Ps} {E E':Env} {s:St} {a:Act} {w:World}
theorem CR.ze (k:Bo E E') (c:CR E' s h ab): ∃cZ,CR E s h cZ/\(ab.gU=true->cZ.gU=true)/\∀(C:bC) ψ w cb,Holds C ψ w cb cZ->Holds C ψ w cb ab:=by
 cases h with
 |inl i=>exact⟨ab,c,λh=>h,λ_ _ _ _ h=>h⟩
 |inr v=>
  rcases c with⟨t,n,cs,e,rfl⟩|⟨t,l,p,e,rfl⟩
  .have:=k.get t
   rw[e]at this;generalize he:E.get t=x at this;cases this with
   |same=>exact⟨_,.inl ⟨t,n,cs,he,rfl⟩,λh=>h,λ_ _ _ _ h=>h⟩
   |loc _ _ mT _ h1 h2=>exact⟨_,.inl ⟨t,n,mT,he.trans h1,rfl⟩,λh=>h,λ_ _ _ _ h=>h.ad3 h2⟩
  .have:=k.get t
   rw[e]at this;generalize he:E.get t=x at this;cases this with
   |same=>exact⟨_,.inr ⟨t,l,p,he,rfl⟩,λh=>h,λ_ _ _ _ h=>h⟩
theorem Holds.tO {N:Nat} {cb:CB} {ab:AB} (h:Holds C ψ w cb ab):Holds C (Go.Gv.tO ψ N) w cb ab:=h.same (ψ:=ψ) (ψ':=Go.Gv.tO ψ N) (λ_ _ e=>e) rfl
theorem jx.ze (h:jx E) (k:Bo E E'):jx E':=by
 refine⟨k.df,k.pl,λt v n cs e=>?_,λt t' v hv eU=>h.uniq t t' v ((k.get t).df hv) ((k.get t').df eU)⟩;have:=k.get t;rw[e]at this;generalize he:E.get t=x at this;cases this with
 |same=>exact h.len t v n cs he
 |loc _ _ mT _ h1 h2=>rw[h2.len];exact h.len t v n mT (he.trans h1)
theorem Rel.ze (R:Rel C f ψ E s a w) (k:Bo E E'):Rel C f (tO ψ E'.bQ) E' s a w where
 eW:=R.eW.cast λh cb ab e c=>by
  have⟨cZ,c',hs,hh⟩:=c.ze k;exact⟨UO e,cZ,c',hs,λx=>(hh C ψ w cb x).tO⟩
 gR:=R.gR.ze k
 gE:=λh cb e=>R.gE h cb (UO e)
 lx:=λg hg=>R.lx g hg
 j8:=λt=>by
  have h:=R.j8 t;have yG:=k.df t;have lP:=k.pl t;have j6: ∀v cb,v<E'.bQ->ψ (.inr v)=some cb->tO ψ E'.bQ (.inr v)=some cb:=λv cb hv e=>by grind[tO]
  have:=k.get t;generalize he':E'.get t=x' at this yG lP;generalize he:E.get t=x at this h;have same:gI C ψ x' (a.tmps.getD t Go.undef)->gI C (tO ψ E'.bQ) x' (a.tmps.getD t Go.undef):=by
   intro h;cases x' with
   |u=>trivial
   |un=>exact h
   |v d=>exact VR.mono (ψ:=ψ) (ψ':=tO ψ E'.bQ) (λ_ _ e=>e) h
   |qm ds=>have⟨vs,e,r⟩:=h;exact⟨vs,e,r.mono (ψ:=ψ) (ψ':=tO ψ E'.bQ) λ_ _ e=>e⟩
   |loc v n cs=>have⟨cb,e,r⟩:=h;exact⟨cb,j6 v cb (yG v rfl) e,r⟩
   |pl q v n=>have⟨cb,e,r⟩:=h;exact⟨cb,j6 v cb (lP q v n rfl) e,r⟩
   |it v l p=>have⟨cb,e,r⟩:=h;exact⟨cb,j6 v cb (yG v rfl) e,r⟩
  cases this with
  |u=>trivial
  |same=>exact same h
  |v d d' e hc=>subst e;exact same (hc C ψ _ h)
  |loc v n cs cs' e hc=>subst e;exact same h
 nN:=R.nN
 defs:=R.defs
 tg:=R.tg
 vN:=λv hv=>by grind[tO]
 ext:=R.ext.cast (λh cb e=>by
   cases h with
   |inl i=>exact R.ext.mono _ _ e
   |inr v=>rw[R.fin]at e;cases e) (λh cb e=>UO e) (λh cb ab _ c=>by
   have⟨cZ,c',hs,_⟩:=c.ze k;exact⟨cZ,c',hs⟩)
 news:=λi cb e=>R.news i cb e
 len:=R.len
 fin:=R.fin
inductive GJ (E0 E:Env):List (Nat×JS)->List DV->Prop
 |nil:GJ E0 E [] []
 |v (t:Nat) (x:Sh) (d:DV) (r:List (Nat×JS)) (ds:ah):E.get t= .v d->GJ E0 E r ds->GJ E0 E ((t,.v x)::r) (d::ds)
 |l (t:Nat) (x:List B) (v n n0:Nat) (cs mT:ah) (r:List (Nat×JS)) (ds:ah):E.get t= .loc v n cs->E0.get t= .loc v n0 mT->GJ E0 E r ds->GJ E0 E ((t,.l x)::r) (.agg cs::ds)
 |t (t:Nat) (v:Nat) (l l0:aj) (p p0:Nat) (r:List (Nat×JS)) (ds:ah):E.get t= .it v l p->E0.get t= .it v l0 p0->GJ E0 E r ds->GJ E0 E ((t,.t)::r) (.nat p::ds)
theorem xF {E0 E:Env} : ∀ {J:List (Nat×JS)} {K:ah->M β} {s:St} {r:Out β×St},sF E0 E J K s=some r->∃ds,GJ E0 E J ds/\K ds s=some r
 |[],K,s,r,h=>⟨[],.nil,h⟩
 |(t,x)::J,K,s,r,h=>by
  simp only[sF]at h;cases x with
  |v x=>
   cases e:E.get t with
   |v d=>
    rw[e]at h;have⟨ds,g,hk⟩:=xF h;exact⟨_,.v t x d J ds e g,hk⟩
   |_=>rw[e]at h;cases h
  |l x=>
   cases e:E.get t with
   |loc v n cs=>
    rw[e]at h;cases e0:E0.get t with
    |loc v0 n0 mT=>
     rw[e0]at h;simp only at h;have⟨hv,h2⟩:=Zs h;have:=dL hv;subst this;have⟨ds,g,hk⟩:=xF h2;exact⟨_,.l t x v0 n n0 cs mT J ds e e0 g,hk⟩
    |_=>rw[e0]at h;cases h
   |_=>rw[e]at h;cases h
  |t=>
   cases e:E.get t with
   |it v l p=>
    rw[e]at h;cases e0:E0.get t with
    |it v0 l0 p0=>
     rw[e0]at h;simp only at h;have⟨hv,h2⟩:=Zs h;have:=dL hv;subst this;have⟨ds,g,hk⟩:=xF h2;exact⟨_,.t t v0 l l0 p p0 J ds e e0 g,hk⟩
    |_=>rw[e0]at h;cases h
   |_=>rw[e]at h;cases h
inductive PJ (E:Env):List (Nat×JS)->List DV->Env->Env->Prop
 |nil (E1:Env):PJ E [] [] E1 E1
 |v (t:Nat) (x:Sh) (d d':DV) (r:List (Nat×JS)) (ds:ah) (E1 E':Env):(∀(C:bC) ψ x,VR C ψ d x->VR C ψ d' x)->PJ E r ds (E1.put t (.v d')) E'->PJ E ((t,.v x)::r) (d::ds) E1 E'
 |l (t:Nat) (x:List B) (v n:Nat) (mT cs cs':ah) (r:List (Nat×JS)) (ds:ah) (E1 E':Env):E.get t= .loc v n mT->P8 cs cs'->PJ E r ds (E1.put t (.loc v n cs')) E'->PJ E ((t,.l x)::r) (.agg cs::ds) E1 E'
 |t (t:Nat) (v:Nat) (l:aj) (p0 p:Nat) (r:List (Nat×JS)) (ds:ah) (E1 E':Env):E.get t= .it v l p0->PJ E r ds (E1.put t (.it v l p)) E'->PJ E ((t,.t)::r) (.nat p::ds) E1 E'
theorem Dy {E:Env} : ∀ {J:List (Nat×JS)} {st:ah} {E1:Env} {K:Env->M β} {s:St} {r:Out β×St},sW E J st E1 K s=some r->∃E',PJ E J st E1 E'/\K E' s=some r
 |[],st,E1,K,s,r,h=>by
  simp only[sW]at h;cases st with
  |nil=>exact⟨E1,.nil E1,h⟩
  |cons _ _=>cases h
 |(t,x)::J,st,E1,K,s,r,h=>by
  simp only[sW]at h;cases st with
  |nil=>cases h
  |cons d rest=>
   simp only[kE]at h;cases x with
   |v x=>
    have⟨d',h,hd,_⟩:=M2 h;have⟨E',g,hk⟩:=Dy h;exact⟨E',.v t x d d' J rest E1 E' hd g,hk⟩
   |l x=>
    cases e:E.get t with
    |loc v n mT=>
     rw[e]at h;cases d with
     |agg cs=>
      have⟨cs',h,hl,hr,h1⟩:=H4 h;have⟨E',g,hk⟩:=Dy h;exact⟨E',.l t x v n mT cs cs' J rest E1 E' e ⟨hl,hr,h1⟩ g,hk⟩
     |_=>cases h
    |_=>rw[e]at h;cases h
   |t=>
    cases e:E.get t with
    |it v l p0=>
     rw[e]at h;cases d with
     |nat p=>
      have⟨E',g,hk⟩:=Dy h;exact⟨E',.t t v l p0 p J rest E1 E' e g,hk⟩
     |_=>cases h
    |_=>rw[e]at h;cases h
theorem PJ.ze (h0:jx E0) (hv: ∀t v n cs,E2.get t= .loc v n cs->(∃mT,E0.get t= .loc v n mT)\/E0.bQ<=v) (hi: ∀t v l p,E2.get t= .it v l p->(∃p0,E0.get t= .it v l p0)\/E0.bQ<=v):
  ∀ {J:List (Nat×JS)} {ds:ah} {E1 E':Env},GJ E0 E2 J ds->PJ E0 J ds E1 E'->E1.bQ=E0.bQ->E0.bQ<=E2.bQ->Bo E2 E1->Bo E2 E'/\E'.bQ=E0.bQ/\(∀hU u,CP hU J=true->has hU u=false->E'.get u=E1.get u):=by
 intro J;induction J with
 |nil=>
  intro ds E1 E' g p h1 _ k;cases g;cases p;grind
 |cons x J ih=>
  intro ds E1 E' g p h1 hn k;obtain⟨t,x⟩:=x;have fin: ∀ {e:eQ} {ds:ah},Wj (E2.get t) e->(∀v,e.df=some v->v<E0.bQ)->(∀r v o,e≠ .pl r v o)->GJ E0 E2 J ds->PJ E0 J ds (E1.put t e) E'->Bo E2 E'/\E'.bQ=E0.bQ/\(∀hU u,CP hU ((t,x)::J)=true->has hU u=false->E'.get u=E1.get u):=by
   intro e ds hw yG lP g p;have⟨r1,r2,r3⟩:=ih g p (by simpa using h1) hn ⟨by simp[h1,hn],λu=>by
     rw[Env.sG];split
     .grind
     .exact k.get u,λu v e=>by
     rw[Env.sG]at e;rw[Env.acD,h1];split at e
     .exact yG v e
     .have:=k.df u v e;omega,λu r v o e=>by
     rw[Env.sG]at e;rw[Env.acD,h1];split at e
     .grind
     .have:=k.pl u r v o e;omega⟩
   refine⟨r1,r2,λhU u h1 h2=>?_⟩;simp only[CP,aY]at h1;rw[r3 hU u h1.2 h2,Env.sG,bj];grind
  cases p with
  |v _ sx d d' _ ds _ _ hc p=>
   cases g with
   |v _ _ _ _ _ e g=>exact fin (.v d d' e hc) (λv h=>by cases h) (λ_ _ _ h=>by cases h) g p
  |l _ sx v n mT cs cs' _ ds _ _ he hc p=>
   cases g with
   |l _ _ v2 n2 n0 _ cC _ _ e e0 g=>
    rw[he]at e0;cases e0;rcases hv t _ _ _ e with⟨c,e1⟩|e1
    .rw[he]at e1;cases e1
     exact fin (.loc _ _ cs cs' e hc) (λv h=>by cases h;exact h0.lt t _ (by rw[he];rfl)) (λ_ _ _ h=>by cases h) g p
    .have:=h0.lt t _ (by rw[he];rfl);omega
  |t _ v l p0 q _ ds _ _ he p=>
   cases g with
   |t _ v2 l2 l0 _ p2 _ _ e e0 g=>
    rw[he]at e0;cases e0;rcases hi t _ _ _ e with⟨c,e1⟩|e1
    .rw[he]at e1;cases e1
     exact fin (by rw[e];exact .same) (λv h=>by cases h;exact h0.lt t _ (by rw[he];rfl)) (λ_ _ _ h=>by cases h) g p
    .have:=h0.lt t _ (by rw[he];rfl);omega
abbrev Un (l:al) (u:Nat):Prop:=has l u=false
theorem TG (h0:jx E0) (hm:Mod (Un hU) E0 E2) (g:GJ E0 E2 J ds) (p:PJ E0 J ds (E0.del hU) E') (hj:CP hU J=true):
  Bo E2 E'/\Mod (Un hU) E0 E':=by
 have k0:Bo E2 (E0.del hU):=by
  refine⟨hm.bQ,λt=>?_,λt v e=>?_,λt r v o e=>?_⟩
  .rw[zV]
   cases h:has hU t with
   |true=>exact .u
   |false=>rw[hm.get t h];exact .same
  .rw[zV]at e
   split at e
   .cases e
   .exact h0.lt t v e
  .rw[zV]at e
   split at e
   .cases e
   .exact h0.pl t r v o e
 have⟨r1,r2,r3⟩:=PJ.ze h0 hm.xl hm.zd g p rfl hm.bQ k0;have und: ∀u,Un hU u->E'.get u=E0.get u:=λu hu=>by
  have hu':has hU u=false:=hu;rw[r3 hU u hj hu,zV,hu'];rfl
 refine⟨r1,und,by omega,λt v n cs e=>?_,λt v l p e=>?_⟩
 .have:=r1.get t
  rw[e]at this;generalize he:E2.get t=x at this;cases this with
  |same=>exact hm.xl t v n cs he
  |loc _ _ mT _ h1 _=>exact hm.xl t v n mT (he.trans h1)
 .have:=r1.get t
  rw[e]at this;generalize he:E2.get t=x at this;cases this with
  |same=>exact hm.zd t v l p he
end
def Lk (K:Env->M β) (r:Out β×St):Prop:=∀E s,K E s=some r->s.length<=r.2.length
theorem Mt {g:(Env->M β)->M β} (h:YD E hU J K g s=some r):
  CP hU J=true/\g (λE1=>sF E E1 J λst=>sW E J st (E.del hU) K) s=some r:=by
 have⟨h1,h⟩:=Zs h;rw[NF]at h;exact⟨h1,h⟩
theorem T8 (h:sF E0 E1 J (λst=>sW E0 J st (E0.del hU) K) s=some r):
  ∃ds E',GJ E0 E1 J ds/\PJ E0 J ds (E0.del hU) E'/\K E' s=some r:=by
 have⟨ds,g,h⟩:=xF h;have⟨E',p,h⟩:=Dy h;grind
theorem Lk.KJ (h:Lk K r):Lk (λE1=>sF E0 E1 J λst=>sW E0 J st (E0.del hU) K) r:=by
 intro E1 s hs;have⟨_,E',_,_,hs⟩:=T8 hs;exact h E' s hs
theorem Lk.block {kx:Nat->Env->M β} (h:Lk K r) (hx: ∀i,Lk (kx i) r): ∀i,Lk (λE1=>bif Nat.beq i id then K E1 else kx i E1) r:=by
 intro i E s hs;cases hb:Nat.beq i id with
 |true=>simp only[hb]at hs;exact h E s hs
 |false=>simp only[hb]at hs;exact hx i E s hs
section
variable {C:bC} {pr:al} {c:Zf} {n:Nat} {r:Out β×St}
theorem ID (hC:oI C) (hc:ZT C c): ∀(code:Code) (A:qB) (kn:Env->M β) (kx:Nat->Env->M β) (kr:Env->M β),Lk kn r->(∀i,Lk (kx i) r)->Lk kr r->Lk (exec C pr c n code A kn kx kr) r:=by
 intro code;induction code with
 |skip=>intro A kn kx kr hn hx hr E s h;exact hn E s h
 |region id ops d=>
  intro A kn kx kr hn hx hr E s h;simp only[exec]at h;rcases Zsr hC hc h with⟨E',s',hl,hk,_,_⟩|⟨s',e,hl,_⟩
  .exact gY hl (hn E' s' hk)
  .rw[e];exact hl
 |seq a b EH Hi=>
  intro A kn kx kr hn hx hr E s h;simp only[exec]at h;exact EH A.a _ kx kr (by grind) hx hr E s h
 |cond x a b EH Hi=>
  intro A kn kx kr hn hx hr E s h;simp only[exec]at h;have⟨v,_,h⟩:=Ul h;have two: ∀ {A1 A2:qB} {kn:Env->M β},Lk kn r->(bif v then exec C pr c n a A1 kn kx kr E else exec C pr c n b A2 kn kx kr E) s=some r->s.length<=r.2.length:=by
   intro A1 A2 kn hn h;cases v with
   |true=>exact EH A1 kn kx kr hn hx hr E s h
   |false=>exact Hi A2 kn kx kr hn hx hr E s h
  cases A with
  |j J A1 A2=>exact two (Lk.KJ hn) (Mt h).2
  |z=>exact two hn h
  |n A1 A2=>exact two hn h
 |block id body ih=>
  intro A kn kx kr hn hx hr E s h;simp only[exec]at h;cases A with
  |j J A1 A2=>exact ih A1 _ _ kr (Lk.KJ hn) (Lk.block (Lk.KJ hn) hx) hr E s (Mt h).2
  |z=>exact ih _ _ _ kr hn (Lk.block hn hx) hr E s h
  |n A1 A2=>exact ih _ _ _ kr hn (Lk.block hn hx) hr E s h
 |loop body ih=>
  intro A kn kx kr hn hx hr E s h;simp only[exec]at h;cases A with
  |j J A1 A2=>
   have⟨hj,h⟩:=Zs h;have⟨st,_,h⟩:=xF h;have key: ∀(k:Nat) (st:ah) (s:St),cS (λrec st=>sW E J st (E.del (mD pr body)) λE1=>exec C pr c n body A1 (λE2=>sF E E2 J rec) kx kr E1) k st s=some r->s.length<=r.2.length:=by
    intro k;induction k with
    |zero=>intro st s h;cases h
    |succ k YB=>
     intro st s h;simp only[cS]at h;have⟨E',_,h⟩:=Dy h;refine ih A1 _ kx kr (λE2 s2 h2=>?_) hx hr E' s h;have⟨gv,_,h2⟩:=xF h2;exact YB gv s2 h2
   exact key n st s h
  |z=>cases h
  |n A1 A2=>cases h
 |exit id=>intro A kn kx kr hn hx hr E s h;exact hx id E s h
 |ret=>intro A kn kx kr hn hx hr E s h;exact hr E s h
 |_=>intros;intro E s h;cases h
theorem Zot (l l':al) (u:Nat):has (l++l') u=(has l u||has l' u):=by
 induction l with
 |nil=>rfl
 |cons x l ih=>simp[nQ,has,ih,Bool.or_assoc]
theorem Un.left {l:al} (h:Un (l++l') u):Un l u:=by
 have h':has (l++l') u=false:=h;rw[Zot,C6]at h';exact h'.1
theorem Un.right {l:al} (h:Un (l++l') u):Un l' u:=by
 have h':has (l++l') u=false:=h;rw[Zot,C6]at h';exact h'.2
theorem Mod.un {un:Nat->Prop} (h:Mod un E E') (k: ∀u,Lf u->un u):Mod Lf E E':=⟨λu hu=>h.get u (k u hu),h.bQ,h.xl,h.zd⟩
variable {f:Fr}
theorem Rel.eval {ψ:Ps} {E:Env} {s:St} {a:Act} {w:World} (R:Rel C f ψ E s a w) (x:Operand):gI C ψ (E.src C x) (a.eval x):=by
 have p:aB C ⟨none,.move x,0, "", #[],none⟩ (λ_=>True) E s ψ (CR E s) a w:=R.pre;exact p.src (by simp[Op.operands])
theorem Vo (hC:oI C) (hc:ZT C c) (Cq:C.P.follows .mixedOrders=true) (hN:r.2.length<=f.N): ∀(code:Code) (A:qB) (kn:Env->M β) (kx:Nat->Env->M β) (kr:Env->M β),yS f.ok code=true->Lk kn r->(∀i,Lk (kx i) r)->Lk kr r->
  ∀(E:Env) (s:St),exec C pr c n code A kn kx kr E s=some r->∀(ψ:Ps) (a:Act) (w:World) (QQ:Exit->Act->World->Prop),Rel C f ψ E s a w->
  (∀E' s' ψ' a' w',kn E' s'=some r->Rel C f ψ' E' s' a' w'->Mod (Un (mD pr code)) E E'->QQ .normal a' w')->
  (∀i E' s' ψ' a' w',kx i E' s'=some r->Rel C f ψ' E' s' a' w'->Mod (Un (mD pr code)) E E'->QQ (.exit i) a' w')->
  (∀E' s' ψ' a' w',kr E' s'=some r->Rel C f ψ' E' s' a' w'->QQ .ret a' w')->
  (∀ch a' w' s',r=(.fp,s')->oK ch->sb C f s' a' w'->QQ (.panic ch) a' w')->code.wp C.P QQ a w:=by
 intro code;induction code with
 |skip=>intro A kn kx kr ho hn hx hr E s h ψ a w QQ R qn qx qr qp;exact wp_skip (qn E s ψ a w h R (.refl _ _))
 |region id ops d=>
  intro A kn kx kr ho hn hx hr E s h ψ a w QQ R qn qx qr qp;simp only[exec]at h;rcases Zsr hC hc h with⟨E',s',hl,hk,hm,hw⟩|⟨s',e,hl,hw⟩
  .exact hw QQ id R Cq ho (gY (hn E' s' hk) hN) λψ' a' w' R'=>qn E' s' ψ' a' w' hk R' hm
  .exact hw QQ id R Cq ho (by rw[e]at hN;exact hN) λch a' w' hv hp=>qp ch a' w' s' e hv hp
 |seq a b EH Hi=>
  intro A kn kx kr ho hn hx hr E s h ψ ac w QQ R qn qx qr qp;simp only[yS,aY]at ho;simp only[exec]at h;refine wp_seq (EH A.a _ kx kr ho.1 (ID hC hc b A.b kn kx kr hn hx hr) hx hr E s h ψ ac w _ R ?_ ?_ ?_ ?_)
  .intro E' s' ψ' a' w' h' R' m'
   refine Hi A.b kn kx kr ho.2 hn hx hr E' s' h' ψ' a' w' QQ R' ?_ ?_ qr qp
   .intro E2 s2 ky a2 w2 h2 R2 m2
    exact qn E2 s2 ky a2 w2 h2 R2 (m'.trans m2 (λu hu=>Un.left hu) λu hu=>Un.right hu)
   .intro i E2 s2 ky a2 w2 h2 R2 m2
    exact qx i E2 s2 ky a2 w2 h2 R2 (m'.trans m2 (λu hu=>Un.left hu) λu hu=>Un.right hu)
  .intro i E' s' ψ' a' w' h' R' m'
   exact qx i E' s' ψ' a' w' h' R' (m'.un λu hu=>Un.left hu)
  .exact qr
  .exact qp
 |cond x a b EH Hi=>
  intro A kn kx kr ho hn hx hr E s h ψ ac w QQ R qn qx qr qp;simp only[yS,aY]at ho;simp only[exec]at h;have⟨v,hv,h⟩:=Ul h;have he:ac.eval x= .bool v:=by
   have:=R.eval x;rw[hv]at this;generalize ac.eval x=y at this;cases this;rfl
  have two: ∀ {A1 A2:qB} {kn:Env->M β},Lk kn r->(bif v then exec C pr c n a A1 kn kx kr E else exec C pr c n b A2 kn kx kr E) s=some r->
    (∀E' s' ψ' a' w',kn E' s'=some r->Rel C f ψ' E' s' a' w'->Mod (Un (mD pr a++mD pr b)) E E'->QQ .normal a' w')->(if v then a else b).wp C.P QQ ac w:=by
   intro A1 A2 kn hn h qn;cases v with
   |true=>exact EH A1 kn kx kr ho.1 hn hx hr E s h ψ ac w QQ R (λE' s' ψ' a' w' h' R' m'=>qn E' s' ψ' a' w' h' R' (m'.un λu hu=>Un.left hu)) (λi E' s' ψ' a' w' h' R' m'=>qx i E' s' ψ' a' w' h' R' (m'.un λu hu=>Un.left hu)) qr qp
   |false=>exact Hi A2 kn kx kr ho.2 hn hx hr E s h ψ ac w QQ R (λE' s' ψ' a' w' h' R' m'=>qn E' s' ψ' a' w' h' R' (m'.un λu hu=>Un.right hu)) (λi E' s' ψ' a' w' h' R' m'=>qx i E' s' ψ' a' w' h' R' (m'.un λu hu=>Un.right hu)) qr qp
  refine wp_cond he ?_;cases A with
  |j J A1 A2=>
   have⟨hj,h⟩:=Mt h;refine two (Lk.KJ hn) h λE1 s1 iJ a1 w1 h1 R1 m1=>?_
   have⟨ds,E',g,p,h1⟩:=T8 h1;have⟨k,m⟩:=TG R.gR m1 g p hj;exact qn E' s1 _ a1 w1 h1 (R1.ze k) m
  |z=>exact two hn h qn
  |n A1 A2=>exact two hn h qn
 |block id body ih=>
  intro A kn kx kr ho hn hx hr E s h ψ ac w QQ R qn qx qr qp;simp only[exec]at h;have go: ∀ {A1:qB} {kn:Env->M β},Lk kn r->exec C pr c n body A1 kn (λi E1=>bif Nat.beq i id then kn E1 else kx i E1) kr E s=some r->
    (∀E' s' ψ' a' w',kn E' s'=some r->Rel C f ψ' E' s' a' w'->Mod (Un (mD pr body)) E E'->QQ .normal a' w')->(Code.block id body).wp C.P QQ ac w:=by
   intro A1 kn hn h qn;refine wp_block (ih A1 kn _ kr ho hn (Lk.block hn hx) hr E s h ψ ac w _ R qn ?_ qr qp);intro i E' s' ψ' a' w' h' R' m';rw[Exit.inBlock];cases hb:Nat.beq i id with
   |true=>
    rw[hb]at h';rw[bE (dL hb)];exact qn E' s' ψ' a' w' h' R' m'
   |false=>
    rw[hb]at h';rw[bj (Ly hb)];exact qx i E' s' ψ' a' w' h' R' m'
  cases A with
  |j J A1 A2=>
   have⟨hj,h⟩:=Mt h;refine go (Lk.KJ hn) h λE1 s1 iJ a1 w1 h1 R1 m1=>?_
   have⟨ds,E',g,p,h1⟩:=T8 h1;have⟨k,m⟩:=TG R.gR m1 g p hj;exact qn E' s1 _ a1 w1 h1 (R1.ze k) m
  |z=>exact go hn h qn
  |n A1 A2=>exact go hn h qn
 |loop body ih=>
  intro A kn kx kr ho hn hx hr E s h ψ ac w QQ R qn qx qr qp;simp only[exec]at h;cases A with
  |j J A1 A2=>
   have⟨hj,h⟩:=Zs h;have⟨st,g0,h⟩:=xF h;have lk: ∀(k:Nat) (st:ah) (s:St),cS (λrec st=>sW E J st (E.del (mD pr body)) λE1=>exec C pr c n body A1 (λE2=>sF E E2 J rec) kx kr E1) k st s=some r->s.length<=r.2.length:=by
    intro k;induction k with
    |zero=>intro st s h;cases h
    |succ k YB=>
     intro st s h;simp only[cS]at h;have⟨E',_,h⟩:=Dy h;refine ID hC hc body A1 _ kx kr (λE2 s2 h2=>?_) hx hr E' s h;have⟨gv,_,h2⟩:=xF h2;exact YB gv s2 h2
   refine wp_loop_ghost (λk a' w'=>∃E2 s2 ky ds,GJ E E2 J ds/\Mod (Un (mD pr body)) E E2/\Rel C f ky E2 s2 a' w'/\
    cS (λrec st=>sW E J st (E.del (mD pr body)) λE1=>exec C pr c n body A1 (λE2=>sF E E2 J rec) kx kr E1) k ds s2=some r) n ⟨E,s,ψ,st,g0,.refl _ _,R,h⟩ ?_
   rintro k a' w' ⟨E2,s2,ky,ds,g,m,R2,h2⟩;cases k with
   |zero=>cases h2
   |succ k=>
    simp only[cS]at h2;have⟨E',p,h2⟩:=Dy h2;have⟨kw,m'⟩:=TG R.gR m g p hj;refine ih A1 _ kx kr ho (λE2 s2 h2=>?_) hx hr E' s2 h2 _ a' w' _ (R2.ze kw) ?_ ?_ qr qp
    .have⟨gv,_,h2⟩:=xF h2
     exact lk k gv s2 h2
    .intro E3 s3 Lj a3 w3 h3 R3 m3
     have⟨ds3,g3,h3⟩:=xF h3;exact⟨k,Nat.lt_succ_self k,E3,s3,Lj,ds3,g3,m'.trans m3 (λu hu=>hu) (λu hu=>hu),R3,h3⟩
    .intro i E3 s3 Lj a3 w3 h3 R3 m3
     exact qx i E3 s3 Lj a3 w3 h3 R3 (m'.trans m3 (λu hu=>hu) (λu hu=>hu))
  |z=>cases h
  |n A1 A2=>cases h
 |exit id=>intro A kn kx kr ho hn hx hr E s h ψ a w QQ R qn qx qr qp;exact wp_exit (qx id E s ψ a w h R (.refl _ _))
 |ret=>intro A kn kx kr ho hn hx hr E s h ψ a w QQ R qn qx qr qp;exact wp_ret (qr E s ψ a w h R)
 |_=>intro A kn kx kr ho hn hx hr E s h;cases h
end
theorem MQ: ∀(k:Nat) (ds:ah) (t:Nat),look (kf k ds) t=if k<=t then(match ds[t-k]? with|some d=> .v d|none=> .u)else .u
 |k,[],t=>by simp[kf,look]
 |k,d::ds,t=>by
  rw[kf,Ix,MQ (k+1) ds t];by_cases h:k=t
  .subst h;simp
  grind
section
variable {C:bC} {f:Fr} {ψ:Ps} {E:Env} {s:St} {a:Act} {w:World} {r:Out β×St}
def Nx (tmps:Array Value):ResultVar->Sem Value
 | .tmp t=>pure (tmps.getD t undef)
 | .cell a t=>do loadVar t (<-asAddr (tmps.getD a undef))
theorem IL {g:ResultVar->Sem Value} {x:ResultVar} {l:List ResultVar} (h1:(g x).run P w= .ok v w) (h2:(l.mapM g).run P w= .ok vs w):((x::l).mapM g).run P w= .ok (v::vs) w:=by
 rw[List.mapM_cons];simp_all
theorem Na (R:Rel C f ψ E s a w): ∀ {l:List ResultVar} {K:ah->M β} ,vK C E l K s=some r->∃ds vs,K ds s=some r/\bG C ψ ds vs/\(l.mapM (Nx a.tmps)).run C.P w= .ok vs w
 |[],K,h=>⟨[],[],h,.nil,by simp⟩
 | .tmp t::l,K,h=>by
  simp only[vK]at h;have⟨d,hd,h⟩:=Zw h;have⟨ds,vs,hk,hr,dV⟩:=Na R h;have hv:=R.eval (.tmp t);rw[hd]at hv;exact⟨_,_,hk,.cons _ _ _ _ hv hr,IL rfl dV⟩
 | .cell x t::l,K,h=>by
  simp only[vK]at h;cases hx:E.get x with
  |loc v n cs=>
   rw[hx]at h;simp only at h;have⟨td,ht,h⟩:=pU h;have ab9:=R.j8 x;rw[hx]at ab9;have⟨cb,e1,e2,e3⟩:=ab9;have hh:=R.eW.holds (.inr v) cb _ e1 (.inl ⟨x,n,cs,hx,rfl⟩);have hlen:=R.gR.len x v n cs hx;cases cI:jj C.P t with
   |true=>
    rw[cI]at h;simp only[ae]at h;have⟨hn,h⟩:=Zs h;have hn:=dL hn;have⟨ds,vs,hk,hr,dV⟩:=Na R h;have⟨vc,hv,_,lS,h1⟩:=L9 (P:=C.P) hh (p:=0) (n:=C.P.cellsOf t);rw[e2,eO]at hv;rw[dK,dG (by omega)]at lS h1;refine⟨_,_,hk,.cons _ _ _ _ (.agg cs vc lS h1) hr,IL ?_ dV⟩;have:=LW ht cI ⟨cb.b,0,none⟩ w hv;show(do loadVar t (<-asAddr (a.tmps.getD x undef)):Sem Value).run C.P w=_;rw[e3];rw[asAddr,Sem.run_bind,Sem.run_pure,Result.andThen_ok];exact this
   |false=>
    rw[cI]at h;simp only[af]at h;have⟨d,hd,h⟩:=MU h;have⟨ds,vs,hk,hr,dV⟩:=Na R h;have⟨y,hv,lS,_⟩:=My (P:=C.P) hh hd;rw[e2,eO]at hv;refine⟨_,_,hk,.cons _ _ _ _ lS hr,IL ?_ dV⟩;have:=H0 ht cI ⟨cb.b,0,none⟩ w hv;show(do loadVar t (<-asAddr (a.tmps.getD x undef)):Sem Value).run C.P w=_;rw[e3];rw[asAddr,Sem.run_bind,Sem.run_pure,Result.andThen_ok];exact this
  |_=>rw[hx]at h;cases h
theorem Znr {fn:Func} {tmps:Array Value} (h:(fn.results.toList.mapM (Nx tmps)).run P w= .ok vs w):
  (results fn tmps).run P w= .ok (if h:vs.length=1 then vs[0]else .tuple vs.toArray) w:=by
 have e:results fn tmps=(fn.results.mapM (Nx tmps)>>= λvs=>pure (if h:vs.size=1 then vs[0]else .tuple vs)):=by
  rfl
 rw[e,Array.mapM_eq_mapM_toList];simp[h]
theorem Zyl (b:Nat) (s:St) (i:Nat):dx (Z1 b s) i=if i<b then dx s i else(dx s i).map λab=>match ab with| .cells _ cs=> .cells true cs|x=>x:=by
 unfold dx Z1;by_cases h:i<b
 .rw[bE h]
  by_cases h2:i<s.length
  .rw[mH (by simp;omega),xo,bE h]
  grind
 .rw[bj h]
  by_cases h3:b<=s.length
  .rw[kX (by simp;omega),rQ,Bg]
   rw[cX,nS h3,show b+(i-b)=i by omega];cases hs:s[i]? with
   |none=>rfl
   |some x=>cases x<;>rfl
  grind
theorem Zpj (b:Nat) (s:St):(Z1 b s).length=s.length:=by
 grind[Z1]
theorem jJ.dQ (b:Nat) (h:jJ C iI s0 w0 ψ' s w):jJ C iI s0 w0 ψ' (Z1 b s) w:=by
 have key: ∀h ab,CS (Z1 b s) h ab->∃cZ,CS s h cZ/\(ab.gU=true->cZ.gU=true)/\∀(C:bC) ψ w cb,Holds C ψ w cb cZ->Holds C ψ w cb ab:=by
  rintro h ab ⟨i,rfl,e⟩;rw[Zyl]at e;split at e
  .exact⟨ab,⟨i,rfl,e⟩,λh=>h,λ_ _ _ _ h=>h⟩
  .cases hs:dx s i with
   |none=>rw[hs]at e;cases e
   |some x=>
    rw[hs]at e;cases x with
    |cells fz cs=>
     simp only[nf,fT]at e;subst e;exact⟨_,⟨i,rfl,hs⟩,(λh=>by cases h),λC ψ w cb h=>⟨h.1,h.2.1,h.2.2.1,(λh=>by cases h)⟩⟩
    |iter l p=>
     simp only[nf,fT]at e;subst e;exact⟨_,⟨i,rfl,hs⟩,λh=>h,λ_ _ _ _ h=>h⟩
 refine⟨h.eW.cast λk cb ab e q=>?_,h.ext.cast h.ext.mono (λ_ _ e=>e) λk cb ab _ q=>?_,λk cb e=>?_⟩
 .grind
 .grind
 .rw[Zpj];exact h.news k cb e
def Nj (C:bC) (vg:FuncId) (args:ah) (s:St) (out:Out ah×St):Prop:=
 s.length<=out.2.length/\∀ψ w vs,ft C ψ (CS s) w->rV ψ w->Glob C ψ->bG C ψ args vs->(∀v,ψ (.inr v)=none)->(∀i,s.length<=i->i<out.2.length->ψ (.inl i)=none)->
   zW C.P vg vs.toArray w λ
    | .returned v,w'=>∃ds,out.1= .val ds/\∃ψ',jJ C ψ s w ψ' out.2 w'/\Bm C ψ' ds v
    | .panicked ch,w'=>oK ch/\out.1= .fp/\∃ψ',jJ C ψ s w ψ' out.2 w'
    | .outgrown,_=>False
structure HM (C:bC):Prop where
 cfg:oI C
 NY:C.P.follows .mixedOrders=true
theorem ZzE (hF:HM C) (hc:ZT C c) {fn:Func} (hfn:C.P.funcs[vg]? =some fn) (rp:(fn.name== "runtime.NumGoroutine")=false) {out:Out ah×St} (h:va C A fn c n args s=some out):Nj C vg args s out:=by
 unfold va at h;cases hb:fn.body with
 |none=>rw[hb]at h;cases h
 |some code=>
  rw[hb]at h;simp only at h;have⟨fP,h⟩:=Zs h;rw[aY]at fP;have⟨fP,cF⟩:=fP;have cF:=qA cF;have⟨ds,h,pw,rk,tW⟩:=Iu h;have main: ∀(kr:Env->M ah) (fz:St->St),(∀s,(fz s).length=s.length)->(∀iI s0 w0 ψ' s w,jJ C iI s0 w0 ψ' s w->jJ C iI s0 w0 ψ' (fz s) w)->
    (∀E s' r,kr E s'=some r->vK C E fn.results.toList (λds s=>some (.val ds,fz s)) s'=some r)->
    exec C A.pr c n code A.Jh kr (λ_ _=>fail) kr ⟨0,kf 0 ds⟩ s=some out->Nj C vg args s out:=by
   intro kr fz ep vp JQ h;have akQ: ∀ {E:Env} {s':St} {r:Out ah×St},kr E s'=some r->∃ds,r=(.val ds,fz s'):=by
    intro E s' r h';have h':=JQ E s' r h';generalize fn.results.toList=l at h';have: ∀(l:List ResultVar) (K:ah->M ah),vK C E l K s'=some r->∃ds,K ds s'=some r:=by
     intro l;induction l with
     |nil=>exact λK h=>⟨[],h⟩
     |cons x l ih=>
      intro K h;cases x with
      |tmp t=>
       simp only[vK]at h;have⟨d,_,h⟩:=Zw h;grind
      |cell x t=>
       simp only[vK]at h;cases hx:E.get x with
       |loc v n cs=>
        rw[hx]at h;simp only at h;have⟨td,_,h⟩:=pU h;cases cI:jj C.P t with
        |true=>
         rw[cI]at h;have⟨_,h⟩:=Zs h;grind
        |false=>
         rw[cI]at h;have⟨d,_,h⟩:=MU h;grind
       |_=>rw[hx]at h;cases h
    grind
   have lk:Lk kr out:=λE s' h'=>by
    grind
   refine⟨ID hF.cfg hc code A.Jh kr _ kr lk (λi E s h=>by cases h) lk _ s h,λψ w vs AL JB Eg kH Ct Kz=>?_⟩;have ow:=tW C ψ vs kH;have CE:=ow.len;unfold zW;have tV:(callFunc vg vs.toArray).run C.P w= .ok (.enter vg vs.toArray) w:=by
    have wP: ¬fn.name= "runtime.NumGoroutine" :=by simpa using rp
    simp[callFunc,hfn,wP,hb]
   rw[tV];refine calls_of_wp hfn hb ?_
   let f:Fr:=⟨out.2.length,fn.ntmps,ψ,s,w,sU fn.ntmps,λx h=>by unfold sU at h;rw[qz]at h;exact h,λt=>(vs.toArray++Array.replicate (fn.ntmps-vs.toArray.size) Go.undef).getD t Go.undef,[]⟩
   have wE: ∀t,(⟨0,kf 0 ds⟩:Env).get t=match ds[t]? with|some d=> .v d|none=> .u:=by
    intro t;have:=MQ 0 ds t;simp only[cz,mJ,Fi]at this;exact this
   have EN: ∀t v,((⟨0,kf 0 ds⟩:Env).get t).df≠some v:=by
    intro t v;rw[wE];cases ds[t]? <;>simp[eQ.df]
   have B3: ∀h ab,CR ⟨0,kf 0 ds⟩ s h ab->CS s h ab:=by
    intro h ab c;cases h with
    |inl i=>exact⟨i,rfl,c⟩
    |inr v=>
     rcases c with⟨t,n,cs,e,_⟩|⟨t,l,p,e,_⟩
     .grind
     grind
   have R:Rel C f ψ ⟨0,kf 0 ds⟩ s { tmps:=vs.toArray++Array.replicate (fn.ntmps-vs.toArray.size) Go.undef,defers:=[] } w:=by
    refine⟨AL.weaken λ_ _ _ _ c=>B3 _ _ c,⟨by grind,λt r v o e=>?_,by grind,by grind⟩,JB,Eg,λt=>?_,?_,rfl,Kz,λv _=>Ct v,(Ext.refl ψ (CS s) w).weaken λ_ _ _ _ c=>B3 _ _ c,λi cb e=> .inl e,aO _,Ct⟩
    .rw[wE]at e
     cases hd:ds[t]? <;>rw[hd]at e<;>cases e
    .rw[wE]
     cases hd:ds[t]? with
     |none=>trivial
     |some d=>
      have⟨v,hv,hr⟩:=ow.get hd;have:(vs.toArray++Array.replicate (fn.ntmps-vs.toArray.size) Go.undef).getD t Go.undef=v:=by
       have aw:=(ef.1 hv).1;rw[rO,PX (by simpa using aw)];simp[hv]
      show gI C ψ (.v d) _;rw[this];exact hr
    .refine⟨?_,λ_ _=>rfl⟩
     grind
   have done: ∀E' s' ψ' a' w',kr E' s'=some out->Rel C f ψ' E' s' a' w'->a'.defers=[]/\∃v,(results fn a'.tmps).run C.P w'= .ok v w'/\∃ds,out.1= .val ds/\∃ψ',jJ C ψ s w ψ' out.2 w'/\Bm C ψ' ds v:=by
    intro E' s' ψ' a' w' h' R';have⟨mg,je,hk,hr,dV⟩:=Na R' (JQ E' s' out h');simp only[fT]at hk;refine⟨R'.defs,_,Znr dV,mg,by rw[<-hk],nF ψ',?_,?_⟩
    .rw[<-hk];exact vp _ _ _ _ _ _ R'.Ah
    .have kN:bG C (nF ψ') mg je:=ZtK hr
     by_cases h1:je.length=1
     .rw[dif_pos h1]
      cases kN with
      |nil=>cases h1
      |cons d v ds vs a b=>
       cases b with
       |nil=>exact .inl ⟨d,rfl,a⟩
       |cons _ _ _ _ _ _=>simp at h1
     .rw[dif_neg h1]
      exact .inr ⟨by rw[kN.len];exact h1,_,rfl,kN⟩
   refine Vo hF.cfg hc hF.NY (f:=f) (aO _) code A.Jh kr _ kr fP lk (λi E s h=>by cases h) lk _ s h ψ _ w _ R ?_ ?_ ?_ ?_
   .intro E' s' ψ' a' w' h' R' _;exact done E' s' ψ' a' w' h' R'
   .intro i E' s' ψ' a' w' h' _ _;cases h'
   .intro E' s' ψ' a' w' h' R';exact done E' s' ψ' a' w' h' R'
   .intro ch a' w' s' e hv hp
    refine⟨hp.defs,hv,by rw[e],?_⟩;have⟨ψ',fQ⟩:=hp.post;grind
  cases hz:A.dQ with
  |true=>
   rw[hz]at h;simp only[ae,gD]at h;exact main _ (Z1 s.length) (Zpj _) (λ_ _ _ _ _ _ h=>h.dQ _) (λE s' r h=>h) h
  |false=>
   rw[hz]at h;simp only[af]at h;exact main _ id (λ_=>rfl) (λ_ _ _ _ _ _ h=>h) (λE s' r h=>h) h
end
def uB (C:bC) (b:Zf->Nat->ah->M ah) (f:FuncId):Prop:=
 ∀c n args s out,ZT C c->b c n args s=some out->Nj C f args s out
theorem uB.acE (hF:HM C) {fn:Func} {b:Zf->Nat->ah->M ah} (hfn:C.P.funcs[f]? =some fn) (rp:(fn.name== "runtime.NumGoroutine")=false) (ht:va C A fn=b):uB C b f:=
 λc n args s out hc h=>ZzE hF hc hfn rp (by rw[ht];exact h)
theorem ND {C:bC} {Bd:Zh} (hB: ∀f,C.cov f=true->uB C (Bd (C.fn f)) f) (cA: ∀g,(∀f,C.cov f=true->C.fn f≠g)->∀c n args s,Bd g c n args s=none): ∀n,ZT C (run Bd n)
 |0=>λg args s out h=>by cases h
 |n+1=>λg args s out h=>by
  by_cases e: ∃f,C.cov f=true/\C.fn f=g
  .obtain⟨f,h1,rfl⟩:=e
   refine⟨(hB f h1 _ _ _ _ _ (ND hB cA n) h).1,λf' h2 h3=>?_⟩;have h':Bd (C.fn f') (run Bd n) n args s=some out:=by rw[h3];exact h
   exact(hB f' h2 _ _ _ _ _ (ND hB cA n) h').2
  .have:=cA g (λf h1 h2=>e ⟨f,h1,h2⟩) (run Bd n) n args s
   have h':Bd g (run Bd n) n args s=some out:=h;rw[this]at h';cases h'
end Go.Gv
namespace Go.Gv
def CK:List (Nat×Nat)->Nat->Nat
 |[],_=>0
 |(k,v)::r,x=>bif Nat.beq k x then v else CK r x
def PM (l:List (Nat×Nat)) (t:Nat):Nat:=bif has (l.map (·.1)) t then CK l t else t+1000
abbrev Body:=Zf->Nat->ah->M ah
def CJ:List (Nat×Body)->Nat->Option Body
 |[],_=>none
 |(k,b)::r,g=>bif Nat.beq k g then some b else CJ r g
def bdOf (l:List (Nat×Body)):Zh:=λg=>match CJ l g with|some b=>b|none=>λ_ _ _ _=>none
theorem Vx: ∀ {l:List (Nat×Body)} {g:Nat} {b:Body},CJ l g=some b->g∈l.map (·.1)
 |[],_,_,h=>by cases h
 |(k,x)::r,g,b,h=>by
  simp only[CJ]at h;cases hk:Nat.beq k g with
  |true=>simp_all
  |false=>rw[hk]at h;simp only[af]at h;exact zy _ (Vx h)
variable {next:Act->World->Prop} {eA rA:Array Edge} {ops:Array Oper} {vs:Array Value} {Am gb:Code} {Q:Exit->Act->List Frame->World->Prop} {QQ:Exit->Act->World->Prop} {f g vg:FuncId} {n:Int} {k:IntKind} {cs cs':List Frame} {N fi i id p t3 t4 td:Nat} {o o0 o1 o2 o3 o4 o5 o6 o7:Oper} {P:Program} {s s3:St} {eP rP:String} {e eT rT t ty yc:TypeId} {v:Value} {args ds ds0:ah} {cov rest:al} {C:bC}
theorem ZAm (h:P.underlying P.rt.typeAssertionError=some (.pointer e)) (hs:(P.underlying e).isSome=true): ∃e d,P.underlying P.rt.typeAssertionError=some (.pointer e)/\P.underlying e=some d:=
 ⟨e,_,h,(Option.some_get hs).symm⟩
theorem ZyY (wJ:C.cov=has cov) {l:List (Nat×Body)} (hk:l.map (·.1)=cov.map C.fn) (hB: ∀f∈cov,uB C (bdOf l (C.fn f)) f): ∀n,ZT C (run (bdOf l) n):=by
 refine ND (λf hf=>hB f (by rw[wJ]at hf;exact(IV cov f).1 hf)) λg hg c n args s=>?_
 unfold bdOf;cases hb:CJ l g with
 |none=>rfl
 |some b=>
  have:=Vx hb;rw[hk]at this;obtain⟨f,hf,rfl⟩:=pK.1 this;exact absurd rfl (hg f (by rw[wJ];exact(IV cov f).2 hf))
def acF (l:List (Nat×Nat)):Bool:=decide ((l.map (·.2)).Nodup)&&l.all λx=>Nat.blt x.2 1000
theorem Nd: ∀ {l:List (Nat×Nat)} {t:Nat},has (l.map (·.1)) t=true->(t,CK l t)∈l
 |[],t,h=>by cases h
 |(k,v)::r,t,h=>by
  simp only[oG,has,lV]at h;cases hk:Nat.beq k t with
  |true=>
   have:=dL hk;grind[CK]
  |false=>
   rw[CK,hk,af];exact zy _ (Nd (by grind))
theorem ZzW {l:List (Nat×Nat)} (h:acF l=true) (t t':Nat) (e:PM l t=PM l t'):t=t':=by
 unfold acF at h;rw[aY,zC,vT]at h;have⟨h1,h2⟩:=h;have lt: ∀ {t},has (l.map (·.1)) t=true->CK l t<1000:=λ{t} ht=>by
  have:=h2 _ (Nd ht);rwa [qz]at this
 unfold PM at e;cases ht:has (l.map (·.1)) t with
 |true=>
  have m:=Nd ht;cases wV:has (l.map (·.1)) t' with
  |true=>
   have m':=Nd wV;rw[ht,wV]at e;simp only[ae]at e;rw[e]at m;have inj: ∀ {l:List (Nat×Nat)},(l.map (·.2)).Nodup->∀ {a b c:Nat},(a,c)∈l->(b,c)∈l->a=b:=by
    intro l;induction l with
    |nil=>simp
    |cons x r ih=>
     grind
   exact inj h1 m m'
  |false=>rw[ht,wV]at e;grind
 |false=>
  grind
variable {β:Type}
variable {Kk:Env->M β}
section
variable {C:bC} {f:Fr} {ψ:Ps} {E:Env} {s:St} {a:Act} {w:World} {c:Zf} {o:Oper} {K:Env->M β} {r:Out β×St}
theorem qN (hC:oI C) (hc:ZT C c) (o:Oper) (h:Lk K r):Lk (λE=>fG C [] [] .s c o E K) r:=by
 intro E s h';rcases VE hC hc (ops:=[]) (.inl rfl) h' with⟨E',s',hk,hF,_⟩|⟨_,s',rfl,hp⟩
 .exact gY hF.len (h E' s' hk)
 .exact hp.1
theorem Nl (hC:oI C) (hc:ZT C c) (h:fG C [] [] .s c o E K s=some r) (hl:Lk K r) (hN:r.2.length<=f.N) (hd: ∀x,o.dst=some x->f.ok x=true):
  (∃E' s',K E' s'=some r/\s.length<=s'.length/\∀(ψ:Ps) (a:Act) (w:World) (QQ:Exit->Act->World->Prop) (next:Act->World->Prop),Rel C f ψ E s a w->
    (∀ψ' v w',Rel C f ψ' E' s' (a.put o.dst v) w'->(∀h cb,ψ h=some cb->ψ' h=some cb)->next (a.put o.dst v) w')->o.wp C.P a w next QQ)\/
  (∃s',r=(.fp,s')/\∀(ψ:Ps) (a:Act) (w:World) (QQ:Exit->Act->World->Prop) (next:Act->World->Prop),Rel C f ψ E s a w->(∀ch a' w',oK ch->sb C f s' a' w'->QQ (.panic ch) a' w')->o.wp C.P a w next QQ):=by
 rcases VE hC hc (ops:=[]) (.inl rfl) h with⟨E',s',hk,hF,hO⟩|⟨_,s',rfl,hp⟩
 .refine .inl ⟨E',s',hk,hF.len,λψ a w QQ next R hn=>?_⟩
  exact hO ψ (CR E s) a w next QQ R.pre (R.room (gY (hl E' s' hk) hN)) λψ' Q' v w' hP he=>hn ψ' v w' (R.step hF hP he hd) hP.ext.mono
 .exact .inr ⟨s',rfl,λψ a w QQ next R hn=>R.acI hN hp hn⟩
theorem sb.ajL {d:Option Nat} (hd: ∀x,d=some x->f.ok x=true) (h:sb C f s (a.put d v) w):sb C f s a w:=by
 refine⟨by rw[<-Mu a d v];exact h.defs,⟨by rw[<-RY a d v];exact h.ks.1,λt ht=>?_⟩,h.post⟩;have:=h.ks.2 t ht;rw[I3 (λx hx=>by rw[<-RY a d v,h.ks.1];exact f.KW x (hd x hx)),bj (λe=>by rw[hd t e]at ht;cases ht)]at this;exact this
def aco:Sh->Bool
 | .b _=>true
 |_=>false
def Pc:Op->Bool
 | .move (.tmp _)=>true
 |_=>false
def YS (ops:Array Oper):Bool:=
 let l (n:Nat):Array Bool:=(([0,2,3,4,5,1,6,7].take n).foldl (λl i=>l.setIfInBounds i true) (Array.replicate 8 false))
 let fst (n i:Nat):Bool:=Region.free .any ops (l n) i&&(Region.ready .any ops (l n)).contains i
 Region.noSelect ops&&fst 0 0&&fst 1 2&&fst 2 3&&fst 3 4&&fst 4 5&&(Region.ready .any ops (l 5)==[1])&&(Region.ready .any ops (l 6)==[6])&&(Region.ready .any ops (l 7)==[7])&&(Region.ready .any ops (l 8)).isEmpty
def Ju:List Oper->Option (Oper×Oper×Oper×Oper×Oper×Oper×Oper×Oper)
 |[o0,o1,o2,o3,o4,o5,o6,o7]=>some (o0,o1,o2,o3,o4,o5,o6,o7)
 |_=>none
theorem ZwV {l:List Oper} (h:Ju l=some (o0,o1,o2,o3,o4,o5,o6,o7)):l=[o0,o1,o2,o3,o4,o5,o6,o7]:=by
 unfold Ju at h;grind
noncomputable def K5 (C:bC) (c:Zf) (ops:Array Oper) (E:Env) (K:Env->M β):M β:=
 match Ju ops.toList with
 |some (o0,o1,o2,o3,o4,o5,o6,o7)=>
  bif YS ops&&Pc o0.op&&Pc o2.op&&(o0.guard.isNone&&o1.guard.isNone&&o2.guard.isNone&&o3.guard.isNone&&o4.guard.isNone&&o5.guard.isNone&&o6.guard.isNone&&o7.guard.isNone)then
   match o3.op,o4.op,o5.op with
   | .nilCheck x3,.fieldAddr _ x4 _,.load ty x5=>aC (aco (nb C.P ty))<|
    fG C [] [] .s c o0 E λE0=>fG C [] [] .s c o2 E0 λE2=>AV C E2 x3 λ_ _=>fG C [] [] .s c o3 E2 λE3=>AV C E3 x4 λ_ _=>fG C [] [] .s c o4 E3 λE4=>AV C E4 x5 λi p=>xX i p λk n=>fG C [] [] .s c o5 E4 λE5=>
     fG C [] [] .s c o1 E5 λE1=>iu i p k n (fG C [] [] .s c o6 E1 λE6=>iu i p k n (fG C [] [] .s c o7 E6 λE7=>iu i p k n (K E7)))
   |_,_,_=>fail
  else fail
 |none=>fail
theorem MN {x:Operand} {K:Nat->Nat->M β} (h:AV C E x K s=some r): ∃i p,E.src C x= .v (.ptr (some (i,p)))/\K i p s=some r:=by
 unfold AV at h;cases he:E.src C x with
 |v d=>
  rw[he]at h;cases d with
  |ptr q=>
   cases q with
   |none=>cases h
   |some q=>grind
  |_=>cases h
 |_=>rw[he]at h;cases h
theorem Zo2 {K:IntKind->Int->M β} (h:xX i p K s=some r): ∃k n,(∃fz cs,dx s i=some (.cells fz cs)/\cs[p]? =some (.int k n))/\K k n s=some r:=by
 unfold xX at h;have⟨fz,cs,d,cg,hd,h⟩:=Zo0 h;cases d with
 |int k n=>grind
 |_=>cases h
theorem Mm {K:M β} (h:iu i p k n K s=some r):K s=some r/\∃fz cs,dx s i=some (.cells fz cs)/\cs[p]? =some (.int k n):=by
 unfold iu bD at h;cases hc:s.cells i with
 |none=>rw[hc]at h;cases h
 |some cs=>
  rw[hc]at h;simp only at h;cases hd:cs[p]? with
  |none=>rw[hd]at h;cases h
  |some d=>
   rw[hd]at h;have cg: ∃fz,dx s i=some (.cells fz cs):=by
    unfold St.cells at hc;split at hc
    .rename_i bk Ax
     cases hc;simp[dx,Ax]
    .cases hc
   have⟨fz,cg⟩:=cg;cases d with
   |int k' n'=>
    simp only at h;have⟨h0,hK⟩:=Zs h;simp only[aY,uA]at h0;have h1:=IQ h0.1;have h2:=h0.2;rw[<-h1,<-h2]at hd;grind
   |_=>cases h
theorem Rel.num (R:Rel C f ψ E s a w) {cb:CB} (e:ψ (.inl i)=some cb) (h: ∃fz cs,dx s i=some (.cells fz cs)/\cs[p]? =some (.int k n)):w.cell? ⟨cb.b,cb.o+p,none⟩=some (.int k n):=by
 have⟨fz,cs,h1,h2⟩:=h;have hh:=R.eW.holds (.inl i) cb _ e h1;have⟨v,hv,hr⟩:=hh.2.2.1 p _ h2;cases hr;exact hv
theorem Rel.ptr (R:Rel C f ψ E s a w) {x:Operand} {i p:Nat} (e:E.src C x= .v (.ptr (some (i,p)))): ∃cb:CB,ψ (.inl i)=some cb/\a.eval x= .pointer (some ⟨cb.b,cb.o+p,none⟩):=by
 have h:=R.eval x;rw[e]at h;have h:VR C ψ (.ptr (some (i,p))) (a.eval x):=h;generalize a.eval x=v at h;cases h with
 |ptr _ _ cb e=>exact⟨cb,e,rfl⟩
theorem ZrJ {y:Operand} (ho:o.op= .fieldAddr t y fi) (h:fG C [] [] .s c o E Kk s=some r):
  ∃off,∀(a:Act) (w:World) b n,a.eval y= .pointer (some ⟨b,n,none⟩)->(execOp a.eval o).run C.P w= .ok (.value (.pointer (some ⟨b,n+off,none⟩))) w:=by
 unfold fG at h;rw[ho]at h;simp only at h;unfold L8 at h;cases ht:C.P.underlying t with
 |none=>rw[ht]at h;cases h
 |some td=>
  rw[ht]at h;cases td with
  |struct fs=>
   simp only at h;cases hf:fs[fi]? with
   |none=>rw[hf]at h;cases h
   |some fd=>
    rw[hf]at h;simp only at h;have⟨hc,h⟩:=H9 h;have hc:=Ly hc;have cF: ∀w,(sizeOf fd.type).run C.P w= .ok (C.P.cellsOf fd.type) w:=by
     intro w;unfold Program.cellsOf at hc⊢;cases hi:C.P.info? fd.type with
     |none=>rw[hi]at hc;simp at hc
     |some i=>simp[sizeOf,typeInfo,hi]
    refine⟨fd.offset,λa w b n hy=>?_⟩;simp[execOp,ho,hy,Instr.fieldAt,Zl w ht,hf,vY,fieldPlace,cF,hc,BG]
  |_=>cases h
theorem ZxM {x:Operand} (ho:o.op= .load t x) (hs:aco (nb C.P t)=true) (h:fG C [] [] .s c o E Kk s=some r) (a:Act) (w:World) (A:Addr) (v:Value) (ha:a.eval x= .pointer (some A)) (hw:w.cell? A=some v):
  (execOp a.eval o).run C.P w= .ok (.value v) w:=by
 unfold fG at h;rw[ho]at h;simp only at h;unfold NA at h;have⟨td,ht,h⟩:=pU h;cases iQ:nb C.P t with
 |b y'=>simp only[execOp,ho,ha,Instr.loadAt,Sem.run_bind,vY,Result.andThen_ok,H0 ht (V7 iQ) _ w (by rw[run_load,hw]),Sem.run_pure]
 |agg l=>rw[iQ]at hs;cases hs
theorem VB (hi:ops[i]? =some o) (hg:o.guard=none) (h:o.wp P a w next QQ):wpOp P ops QQ i next a w:=by
 unfold wpOp;simp only[hi];rw[bE (by simp[Region.wanted,hg])];exact .inl h
theorem ZwF (he:(execOp a.eval o).run P w= .ok (.value v) w) (h:o.wp P a w next QQ):next (a.put o.dst v) w:=by
 unfold Oper.wp at h;rw[he]at h;exact h
theorem F9 {x:Operand} {K:Env->Nat->Nat->M β} (h: ∀i p,Lk (λE=>K E i p) r):Lk (λE=>AV C E x (K E)) r:=by
 intro E s h';have⟨i,p,_,h'⟩:=MN h';exact h i p E s h'
theorem ZuH {K:Env->IntKind->Int->M β} (h: ∀k n,Lk (λE=>K E k n) r):Lk (λE=>xX i p (K E)) r:=by
 intro E s h';have⟨k,n,_,h'⟩:=Zo2 h';exact h k n E s h'
theorem F4 {K:Env->M β} (h:Lk K r):Lk (λE=>iu i p k n (K E)) r:=by
 intro E s h';exact h E s (Mm h').1
theorem Zx6 (hC:oI C) (hc:ZT C c) (fP:okO f.ok ops.toList=true) (h:K5 C c ops E K s=some r) (hl:Lk K r) (Cq:C.P.follows .mixedOrders=true) (hN:r.2.length<=f.N) (id:Nat) (R:Rel C f ψ E s a w) (QQ:Exit->Act->World->Prop)
  (qn: ∀E' s' ψ' a' w',K E' s'=some r->Rel C f ψ' E' s' a' w'->QQ .normal a' w') (qp: ∀ch a' w' s',r=(.fp,s')->oK ch->sb C f s' a' w'->QQ (.panic ch) a' w'):(Code.region id ops true).wp C.P QQ a w:=by
 unfold K5 at h;cases da:Ju ops.toList with
 |none=>rw[da]at h;cases h
 |some q=>
 have⟨o0,o1,o2,o3,o4,o5,o6,o7⟩:=q;rw[da]at h;have yB:=ZwV da;simp only at h;have⟨hb,h⟩:=Zs h;simp only[aY,Option.isNone_iff_eq_none]at hb;have⟨⟨⟨hy,GY⟩,fw⟩,⟨⟨⟨⟨⟨⟨⟨g0,g1⟩,g2⟩,g3⟩,g4⟩,g5⟩,g6⟩,g7⟩⟩:=hb;have⟨x3,PH,x4,NX,PL,x5,h3,h4,h5⟩: ∃x3 PH x4 NX PL x5,o3.op= .nilCheck x3/\o4.op= .fieldAddr PH x4 NX/\o5.op= .load PL x5:=by
  cases h3:o3.op with
  |nilCheck x3=>
   cases h4:o4.op with
   |fieldAddr PH x4 NX=>
    cases h5:o5.op with
    |load PL x5=>grind
    |_=>rw[h3,h4,h5]at h;cases h
   |_=>rw[h3,h4]at h;cases h
  |_=>rw[h3]at h;cases h
 rw[h3,h4,h5]at h;simp only at h;have⟨OM,h⟩:=me h;have i0:ops[0]? =some o0:=by rw[<-kV,yB];rfl
 have i1:ops[1]? =some o1:=by rw[<-kV,yB];rfl
 have i2:ops[2]? =some o2:=by rw[<-kV,yB];rfl
 have i3:ops[3]? =some o3:=by rw[<-kV,yB];rfl
 have i4:ops[4]? =some o4:=by rw[<-kV,yB];rfl
 have i5:ops[5]? =some o5:=by rw[<-kV,yB];rfl
 have i6:ops[6]? =some o6:=by rw[<-kV,yB];rfl
 have i7:ops[7]? =some o7:=by rw[<-kV,yB];rfl
 have oZ: ∀o∈ops.toList,∀x,o.dst=some x->f.ok x=true:=λo ho x hx=>FY fP o ho x hx
 rw[yB]at oZ;have aiG:ops.size=8:=by rw[<-oE,yB];rfl
 have l7: ∀i p k n,Lk (λE7=>iu i p k n (K E7)) r:=λi p k n=>F4 hl
 have l6: ∀i p k n,Lk (λE6=>iu i p k n (fG C [] [] .s c o7 E6 λE7=>iu i p k n (K E7))) r:=λi p k n=>F4 (qN hC hc o7 (l7 i p k n))
 have l1: ∀i p k n,Lk (λE1=>iu i p k n (fG C [] [] .s c o6 E1 λE6=>iu i p k n (fG C [] [] .s c o7 E6 λE7=>iu i p k n (K E7)))) r:=λi p k n=>F4 (qN hC hc o6 (l6 i p k n))
 have l5: ∀i p k n,Lk (λE5=>fG C [] [] .s c o1 E5 λE1=>iu i p k n (fG C [] [] .s c o6 E1 λE6=>iu i p k n (fG C [] [] .s c o7 E6 λE7=>iu i p k n (K E7)))) r:=λi p k n=>qN hC hc o1 (l1 i p k n)
 have l4:=F9 (C:=C) (x:=x5) (K:=λE4 i p=>xX i p λk n=>fG C [] [] .s c o5 E4 λE5=>fG C [] [] .s c o1 E5 λE1=>iu i p k n (fG C [] [] .s c o6 E1 λE6=>iu i p k n (fG C [] [] .s c o7 E6 λE7=>iu i p k n (K E7)))) (r:=r) (λi p=>ZuH (K:=λE4 k n=>fG C [] [] .s c o5 E4 λE5=>fG C [] [] .s c o1 E5 λE1=>iu i p k n (fG C [] [] .s c o6 E1 λE6=>iu i p k n (fG C [] [] .s c o7 E6 λE7=>iu i p k n (K E7)))) λk n=>qN hC hc o5 (l5 i p k n));have l3:=F9 (C:=C) (x:=x4) (r:=r) (K:=λE3 _ _=>fG C [] [] .s c o4 E3 λE4=>AV C E4 x5 λi p=>xX i p λk n=>fG C [] [] .s c o5 E4 λE5=>fG C [] [] .s c o1 E5 λE1=>iu i p k n (fG C [] [] .s c o6 E1 λE6=>iu i p k n (fG C [] [] .s c o7 E6 λE7=>iu i p k n (K E7)))) (λ_ _=>qN hC hc o4 l4);have l2:=F9 (C:=C) (x:=x3) (r:=r) (K:=λE2 _ _=>fG C [] [] .s c o3 E2 λE3=>AV C E3 x4 λ_ _=>fG C [] [] .s c o4 E3 λE4=>AV C E4 x5 λi p=>xX i p λk n=>fG C [] [] .s c o5 E4 λE5=>fG C [] [] .s c o1 E5 λE1=>iu i p k n (fG C [] [] .s c o6 E1 λE6=>iu i p k n (fG C [] [] .s c o7 E6 λE7=>iu i p k n (K E7)))) (λ_ _=>qN hC hc o3 l3);have l0:=qN hC hc o2 l2;simp only[YS,aY,uA,List.isEmpty_iff]at hy;have⟨⟨⟨⟨⟨⟨⟨⟨⟨J7,f0,r0⟩,f1,r1⟩,f2,r2⟩,f3,r3⟩,f4,r4⟩,rd5⟩,rd6⟩,rd7⟩,rd8⟩:=hy;have R:=R.drew;generalize cG:({ w with drawn:=w.drawn+1 } :World)=w1 at R;have mv: ∀ {o:Oper},Pc o.op=true->∀(a:Act),∃v,∀w',(execOp a.eval o).run C.P w'= .ok (.value v) w':=by
  intro o ho a;unfold Pc at ho;split at ho
  .rename_i t e
   exact⟨a.eval (.tmp t),λw'=>by simp[execOp,e]⟩
  .cases ho
 have fst: ∀ {o:Oper} {E:Env} {s:St} {ψ:Ps} {a:Act} {K':Env->M β} {v:Value},o∈[o0,o1,o2,o3,o4,o5,o6,o7]->fG C [] [] .s c o E K' s=some r->Lk K' r->Rel C f ψ E s a w1->(execOp a.eval o).run C.P w1= .ok (.value v) w1->
   ∃E' s' ψ',K' E' s'=some r/\Rel C f ψ' E' s' (a.put o.dst v) w1/\∀h cb,ψ h=some cb->ψ' h=some cb:=by
  intro o E s ψ a K' v ho h hl R hv;rcases Nl (f:=f) hC hc h hl hN (oZ o ho)with⟨E',s',hk,_,q⟩|⟨s',_,q⟩
  .have⟨ψ',h1,h2⟩:=ZwF (next:=λa' w'=>∃ψ',Rel C f ψ' E' s' a' w'/\∀h cb,ψ h=some cb->ψ' h=some cb) hv (q ψ a w1 (λ_ _ _=>True) _ R λψ' v w' R' m=>⟨ψ',R',m⟩)
   exact⟨E',s',ψ',hk,h1,h2⟩
  .exact(ZwF (next:=λ_ _=>False) hv (q ψ a w1 (λ_ _ _=>True) _ R λ_ _ _ _ _=>trivial)).elim
 have⟨v0,y0⟩:=mv GY a;have⟨E0,s0,iI,h,R0,_⟩:=fst (by simp) h l0 R (y0 w1);have⟨v2,y2⟩:=mv fw (a.put o0.dst v0);have⟨E2,s2,ky,h,R2,_⟩:=fst (by simp) h l2 R0 (y2 w1);have⟨b3,p3,Ys,h⟩:=MN h;have⟨cb3,_,e3⟩:=R2.ptr Ys;have y3: ∀w',(execOp ((a.put o0.dst v0).put o2.dst v2).eval o3).run C.P w'= .ok (.value (.pointer (some ⟨cb3.b,cb3.o+p3,none⟩))) w':=λw'=>by simp[execOp,h3,e3]
 have⟨E3,s3,Lj,h,R3,_⟩:=fst (by simp) h l3 R2 (y3 w1);have⟨b4,p4,hx4,h⟩:=MN h;have⟨cb4,_,e4⟩:=R3.ptr hx4;have⟨off,y4⟩:=ZrJ h4 h;have y4:=λw'=>y4 _ w' _ _ e4
 have⟨E4,s4,ψ4,h,R4,_⟩:=fst (by simp) h l4 R3 (y4 w1);have⟨i,p,Yt,h⟩:=MN h;have⟨cb,vd,e5⟩:=R4.ptr Yt;have⟨k,n,ny,h⟩:=Zo2 h;have y5:=λw' hw=>ZxM h5 OM h _ w' _ (.int k n) e5 hw
 have hS:w1.cell? ⟨cb.b,cb.o+p,none⟩=some (.int k n):=R4.num vd ny;have⟨E5,s5,ψ5,h,R5,m5⟩:=fst (by simp) h (l5 i p k n) R4 (y5 w1 hS);have vd:=m5 _ _ vd;refine wp_mono (Q:=λe a' w'=>match e with
  | .normal=>∃E' s' ψ',K E' s'=some r/\Rel C f ψ' E' s' a' w'
  | .panic ch=>oK ch/\∃s',r=(.fp,s')/\sb C f s' a' w'
  |_=>False) (wp_region_held (S:=λw'=>w'.cell? ⟨cb.b,cb.o+p,none⟩=some (.int k n)) Cq ?_) ?_
 rotate_left
 .intro e a' w' he
  cases e with
  |normal=>have⟨E',s',ψ',hk,R'⟩:=he;exact qn E' s' ψ' a' w' hk R'
  |panic ch=>have⟨hv,s',e,hp⟩:=he;exact qp ch a' w' s' e hv hp
  |_=>exact he.elim
 have wanted: ∀ {o:Oper} {y:Nat->Option Bool},o.guard=none->Region.wanted o y=true:=λhg=>by simp[Region.wanted,hg]
 have hQ: ∀ {o:Oper} {v:Value},o∈[o0,o1,o2,o3,o4,o5,o6,o7]->∀ch a' w',(oK ch/\∃s',r=(.fp,s')/\sb C f s' (a'.put o.dst v) w')->(oK ch/\∃s',r=(.fp,s')/\sb C f s' a' w'):=
  λho ch a' w' ⟨hv,s',e,hp⟩=>⟨hv,s',e,hp.ajL (oZ _ ho)⟩
 rw[aiG,cG];refine wpAnyH_take i0 J7 f0 r0 (hQ (by simp)) (.inl ⟨wanted g0,λw' _=>y0 w'⟩) hS ?_;refine wpAnyH_take i2 J7 f1 r1 (hQ (by simp)) (.inl ⟨wanted g2,λw' _=>y2 w'⟩) hS ?_;refine wpAnyH_take i3 J7 f2 r2 (hQ (by simp)) (.inl ⟨wanted g3,λw' _=>y3 w'⟩) hS ?_;refine wpAnyH_take i4 J7 f3 r3 (hQ (by simp)) (.inl ⟨wanted g4,λw' _=>y4 w'⟩) hS ?_;refine wpAnyH_take i5 J7 f4 r4 (hQ (by simp)) (.inl ⟨wanted g5,λw' hw=>y5 w' hw⟩) hS ?_;refine wpAnyH_all rd5 (by simp) λj hj=>?_
 rw[cB]at hj;subst hj;refine VB i1 g1 ?_;rcases Nl (f:=f) hC hc h (l1 i p k n) hN (oZ o1 (by simp))with⟨E1,s1,h,_,q1⟩|⟨s',e,q1⟩
 rotate_left
 .exact q1 _ _ _ _ _ R5 λch a' w' hv hp=>⟨hv,s',e,hp⟩
 refine q1 _ _ _ _ _ R5 λiJ v1 w2 R1 m1=>?_
 have vd:=m1 _ _ vd;have⟨h,iZ⟩:=Mm h;refine⟨R1.num vd iZ,wpAnyH_all rd6 (by simp) λj hj=>?_⟩;rw[cB]at hj;subst hj;refine VB i6 g6 ?_;rcases Nl (f:=f) hC hc h (l6 i p k n) hN (oZ o6 (by simp))with⟨E6,s6,h,_,q6⟩|⟨s',e,q6⟩
 rotate_left
 .exact q6 _ _ _ _ _ R1 λch a' w' hv hp=>⟨hv,s',e,hp⟩
 refine q6 _ _ _ _ _ R1 λψ6 v6 w6 R6 m6=>?_
 have vd:=m6 _ _ vd;have⟨h,hc6⟩:=Mm h;refine⟨R6.num vd hc6,wpAnyH_all rd7 (by simp) λj hj=>?_⟩;rw[cB]at hj;subst hj;refine VB i7 g7 ?_;rcases Nl (f:=f) hC hc h (l7 i p k n) hN (oZ o7 (by simp))with⟨E7,s7,h,_,q7⟩|⟨s',e,q7⟩
 rotate_left
 .exact q7 _ _ _ _ _ R6 λch a' w' hv hp=>⟨hv,s',e,hp⟩
 refine q7 _ _ _ _ _ R6 λψ7 v7 w7 R7 m7=>?_
 have vd:=m7 _ _ vd;have⟨h,hc7⟩:=Mm h;exact⟨R7.num vd hc7,wpAnyH_done rd8 ⟨E7,s7,ψ7,h,R7⟩ _⟩
end
def oX:Code->List Code
 | .seq a b=>oX a++oX b
 |c=>[c]
def th (P:Program):List Code->(Exit->Act->World->Prop)->Act->World->Prop
 |[],Q=>Q .normal
 |x::r,Q=>x.wp P (Exit.then (th P r Q) Q)
theorem ZxD (n m:Act->World->Prop) (Q:Exit->Act->World->Prop):Exit.then n (Exit.then m Q)=Exit.then n Q:=by
 funext e a w;cases e<;>rfl
theorem Zxd (Q:Exit->Act->World->Prop):Exit.then (Q .normal) Q=Q:=by
 funext e a w;cases e<;>rfl
theorem VK {P:Program} : ∀(l m:List Code) (Q:Exit->Act->World->Prop),th P (l++m) Q=th P l (Exit.then (th P m Q) Q)
 |[],m,Q=>rfl
 |x::l,m,Q=>by
  show x.wp P (Exit.then (th P (l++m) Q) Q)=x.wp P (Exit.then (th P l (Exit.then (th P m Q) Q)) (Exit.then (th P m Q) Q));rw[VK l m Q,ZxD]
theorem ZzK : ∀(c:Code) (Q:Exit->Act->World->Prop) (a:Act) (w:World),th P (oX c) Q a w->c.wp P Q a w:=by
 intro c;induction c with
 |seq x y ihx ihy=>
  intro Q a w h;rw[oX,VK]at h;refine wp_seq (wp_mono (ihx _ a w h) λe a w h=>?_);cases e<;>first|exact ihy Q a w h|exact h
 |_=>intro Q a w h;simp only[oX,th,Zxd]at h;exact h
def KG:Code->Option (Array Oper)
 | .region _ ops true=>bif YS ops&&Nat.beq ops.size 8 then some ops else none
 |_=>none
noncomputable def Jr (C:bC) (c:Zf) (n:Nat) (x:Code) (kn kr:Env->M β):Env->M β:=match KG x with
 |some ops=>λE=>K5 C c ops E kn
 |none=>exec C [] c n x .z kn (λ_ _=>fail) kr
noncomputable def yf (C:bC) (c:Zf) (n:Nat):List Code->(Env->M β)->(Env->M β)->Env->M β
 |[],kn,_=>kn
 |x::r,kn,kr=>Jr C c n x (yf C c n r kn kr) kr
def KV (ok:Nat->Bool):List Code->Bool
 |[]=>true
 |x::r=>yS ok x&&KV ok r
section
variable {C:bC} {f:Fr} {c:Zf} {n:Nat} {r:Out β×St}
theorem Zx4 {x:Code} (h:KG x=some ops): ∃id,x= .region id ops true:=by
 unfold KG at h;grind
theorem Zx0 (hC:oI C) (hc:ZT C c) {K:Env->M β} (h:Lk K r):Lk (λE=>K5 C c ops E K) r:=by
 intro E s h';unfold K5 at h';cases da:Ju ops.toList with
 |none=>rw[da]at h';cases h'
 |some q=>
  have⟨o0,o1,o2,o3,o4,o5,o6,o7⟩:=q;rw[da]at h';simp only at h';have⟨_,h'⟩:=Zs h';cases h3:o3.op with
  |nilCheck x3=>
   cases h4:o4.op with
   |fieldAddr PH x4 NX=>
    cases h5:o5.op with
    |load PL x5=>
     rw[h3,h4,h5]at h';simp only at h';have⟨_,h'⟩:=me h';refine qN hC hc o0 (qN hC hc o2 (F9 (K:=λE2 _ _=>_) λ_ _=>qN hC hc o3 (F9 (K:=λE3 _ _=>_) λ_ _=>qN hC hc o4 (F9 (K:=λE4 i p=>_) λi p=>ZuH (K:=λE4 k n=>_) λk n=>qN hC hc o5 (qN hC hc o1 (F4 (qN hC hc o6 (F4 (qN hC hc o7 (F4 h)))))))))) E s h'
    |_=>rw[h3,h4,h5]at h';cases h'
   |_=>rw[h3,h4]at h';cases h'
  |_=>rw[h3]at h';cases h'
theorem Zwm (hC:oI C) (hc:ZT C c) (x:Code) (kn kr:Env->M β) (h:Lk kn r) (k:Lk kr r):Lk (Jr C c n x kn kr) r:=by
 unfold Jr;cases KG x with
 |some ops=>exact Zx0 hC hc h
 |none=>exact ID hC hc x .z _ _ kr h (λ_ _ _ h=>by cases h) k
theorem FR (hC:oI C) (hc:ZT C c): ∀(l:List Code) (kn kr:Env->M β),Lk kn r->Lk kr r->Lk (yf C c n l kn kr) r
 |[],_,_,h,_=>h
 |x::l,kn,kr,h,k=>Zwm hC hc x _ kr (FR hC hc l kn kr h k) k
theorem U9 (hC:oI C) (hc:ZT C c) (Cq:C.P.follows .mixedOrders=true) (hN:r.2.length<=f.N): ∀(l:List Code) (kn kr:Env->M β),KV f.ok l=true->Lk kn r->Lk kr r->
  ∀(E:Env) (s:St),yf C c n l kn kr E s=some r->∀(ψ:Ps) (a:Act) (w:World) (QQ:Exit->Act->World->Prop),Rel C f ψ E s a w->
  (∀E' s' ψ' a' w',kn E' s'=some r->Rel C f ψ' E' s' a' w'->QQ .normal a' w')->
  (∀E' s' ψ' a' w',kr E' s'=some r->Rel C f ψ' E' s' a' w'->QQ .ret a' w')->
  (∀ch a' w' s',r=(.fp,s')->oK ch->sb C f s' a' w'->QQ (.panic ch) a' w')->th C.P l QQ a w
 |[],kn,kr,_,_,_,E,s,h,ψ,a,w,QQ,R,qn,_,_=>qn E s ψ a w h R
 |x::l,kn,kr,ho,hn,hr,E,s,h,ψ,a,w,QQ,R,qn,qr,qp=>by
  simp only[KV,aY]at ho;have rest: ∀E' s' ψ' a' w',yf C c n l kn kr E' s'=some r->Rel C f ψ' E' s' a' w'->th C.P l QQ a' w':=λE' s' ψ' a' w' h' R'=>
   U9 hC hc Cq hN l kn kr ho.2 hn hr E' s' h' ψ' a' w' QQ R' qn qr qp
  have h:Jr C c n x (yf C c n l kn kr) kr E s=some r:=h;unfold Jr at h;cases hy:KG x with
  |some ops=>
   rw[hy]at h;obtain⟨id,rfl⟩:=Zx4 hy;exact Zx6 hC hc ho.1 h (FR hC hc l kn kr hn hr) Cq hN id R _ rest (λch a' w' s' e h1 h2=>qp ch a' w' s' e h1 h2)
  |none=>
   rw[hy]at h;exact Vo hC hc Cq hN x .z _ _ kr ho.1 (FR hC hc l kn kr hn hr) (λ_ _ _ h=>by cases h) hr E s h ψ a w _ R (λE' s' ψ' a' w' h' R' _=>rest E' s' ψ' a' w' h' R') (λ_ _ _ _ _ _ h=>by cases h) (λE' s' ψ' a' w' h' R'=>qr E' s' ψ' a' w' h' R') (λch a' w' s' e h1 h2=>qp ch a' w' s' e h1 h2)
theorem jJ.trans {iI iJ ky:Ps} {s0 s1 s2:St} {w0 w1 w2:World} (hl:s0.length<=s1.length) (rk:s1.length<=s2.length) (h:jJ C iI s0 w0 iJ s1 w1) (k:jJ C iJ s1 w1 ky s2 w2):jJ C iI s0 w0 ky s2 w2:=by
 refine⟨k.eW,h.ext.trans k.ext,λx cb e=>?_⟩;rcases k.news x cb e with e|⟨i,rfl,h1,h2⟩
 .rcases h.news x cb e with e|⟨i,rfl,h1,h2⟩
  .exact .inl e
  grind
 grind
end
def qk (C:bC) (E:Env):List ResultVar->(ah->M β)->M β
 |[],K=>K []
 | .cell a t::r,K=>match E.get a with
  | .v (.ptr (some (i,o)))=>rI C.P t (bif jj C.P t then bS i o (C.P.cellsOf t) λcs=>qk C E r λds=>K (.agg cs::ds)else bD i o λd=>qk C E r λds=>K (d::ds))
  |_=>fail
 | .tmp _::_,_=>fail
def Jn:Option Code->Option (Nat×FuncId×List Operand)
 |some (.region _ ⟨[⟨some td,.makeFunc (.func g) ⟨[]⟩ ⟨iy⟩,_,_,_,none⟩,⟨none,.defer ⟨.value (.tmp t'),⟨[]⟩,_⟩,_,_,_,none⟩]⟩ false)=>bif Nat.beq td t' then some (td,g,iy)else none
 |_=>none
def yK (P:Program) (ty:TypeId):Bool:=match P.underlying ty with
 |some (.interface _)=>true
 |_=>false
def Gk (P:Program) (m N:Nat):Code->Option Code
 | .seq (.region _ ⟨[⟨some t3,.call ⟨.builtin .recover,⟨[]⟩,_⟩,_,_,_,none⟩,⟨some t4,.binOp .neq ty (.tmp t3') (.const .nilIface) _,_,_,_,none⟩]⟩ false) (.cond (.tmp t4') b .skip)=>
  bif Nat.beq t3 t3'&&Nat.beq t4 t4'&& !Nat.beq t3 t4&&Nat.ble m t3&&Nat.ble m t4&&Nat.blt t3 N&&Nat.blt t4 N&&yK P ty then some b else none
 |_=>none
def Pd:eQ->Bool
 | .u=>true
 |_=>false
def xa:List ResultVar->Nat->Bool
 |[],_=>true
 | .cell a _::r,t=> !Nat.beq a t&&xa r t
 | .tmp _::_,_=>false
noncomputable def Wt (C:bC) (k:Nat) (fn fU:Func) (c:Zf) (n:Nat) (args:ah):M ah:=
 match fn.body,fU.body with
 |some code,some Am=>match Jn ((oX code)[k]?),Gk C.P fU.nfree fU.ntmps Am with
  |some (td,_,iy),some gb=>
   bif KV (sU fn.ntmps) ((oX code).take k)&&KV (λt=>sU fn.ntmps t&&xa fn.results.toList t) ((oX code).drop (k+1))&&yS (sU fU.ntmps) gb&&Nat.ble fn.params.size fn.ntmps&&Nat.blt td fn.ntmps&&xa fn.results.toList td
    &&Nat.beq fn.nfree 0&&Nat.beq fU.params.size 0&&fU.results.isEmpty&&Nat.ble fU.nfree fU.ntmps&&Nat.beq iy.length fU.nfree then
    B4 (fn.params.toList.map (nb C.P)) args λds=>
     let fin (E:Env):M ah:=qk C E fn.results.toList λds=>ay ds
     yf C c n ((oX code).take k) (λE=>aC (Nat.beq E.bQ 0&&Pd (E.get td)) (A9 C E iy λcs=>
      u7 (yf C c n ((oX code).drop (k+1)) (λ_=>ay []) (λ_=>ay []) E)
       λp=>bif p then u7 (exec C [] c n gb .z (λ_=>ay []) (λ_ _=>fail) (λ_=>ay []) ⟨0,kf 0 cs⟩) λp=>bif p then fail else fin E
        else fin E)) fin ⟨0,kf 0 ds⟩
   else fail
  |_,_=>fail
 |_,_=>fail
section
variable {C:bC} {ψ:Ps} {s:St} {w:World} {g:FuncId} {fU:Func}
theorem Zry {m:Nat} {c:Code} (h:Gk P m N c=some gb):
  ∃id t3 t4 ty aT rT rP rA eT yc eP eA,c= .seq (.region id #[⟨some t3,.call ⟨.builtin .recover, #[],aT⟩,rT,rP,rA,none⟩,⟨some t4,.binOp .neq ty (.tmp t3) (.const .nilIface) eT,yc,eP,eA,none⟩] false) (.cond (.tmp t4) gb .skip)/\
   t3≠t4/\m<=t3/\m<=t4/\t3<N/\t4<N/\yK P ty=true:=by
 unfold Gk at h;split at h
 .rename_i id t3 aT rT rP rA t4 ty t3' eT yc eP eA t4' b
  cases hc:(Nat.beq t3 t3'&&Nat.beq t4 t4'&& !Nat.beq t3 t4&&Nat.ble m t3&&Nat.ble m t4&&Nat.blt t3 N&&Nat.blt t4 N&&yK P ty)with
  |false=>rw[hc]at h;cases h
  |true=>
   rw[hc]at h;simp only[ae,fT]at h;subst h;simp only[aY]at hc;have⟨⟨⟨⟨⟨⟨⟨h1,h2⟩,h3⟩,h4⟩,h5⟩,h6⟩,h7⟩,h8⟩:=hc;cases dL h1;cases dL h2;refine⟨id,t3,t4,ty,aT,rT,rP,rA,eT,yc,eP,eA,rfl,?_,qA h4,qA h5,by rw[qz]at h6;exact h6,by rw[qz]at h7;exact h7,h8⟩;grind
 .cases h
theorem Zom (h:yK P ty=true): ∃ms,P.underlying ty=some (.interface ms):=by
 grind[yK]
theorem ZvW (h:yK P ty=true) (d:Nat) (t:TypeId) (v:Value) (w:World):(Op.equalIn (d+1) ty (.iface t v) .nilIface).run P w= .ok false w:=by
 have⟨ms,hu⟩:=Zom h;rw[Op.equalIn.eq_2,Sem.run_bind,Zl w hu];rfl
theorem ZvD (h:yK P ty=true) (d:Nat) (w:World):(Op.equalIn (d+1) ty .nilIface .nilIface).run P w= .ok true w:=by
 have⟨ms,hu⟩:=Zom h;rw[Op.equalIn.eq_2,Sem.run_bind,Zl w hu];rfl
theorem ZwY (h:yK P ty=true) (t:TypeId) (v:Value) (w:World):(binOp .neq ty (.iface t v) .nilIface).run P w= .ok (.bool true) w:=by
 have e:binOp .neq ty (.iface t v) .nilIface=(do let b <-Op.equal ty (.iface t v) .nilIface;pure (.bool !b)):=by
  unfold binOp;rfl
 rw[e,Sem.run_bind,show Op.equal ty (.iface t v) .nilIface=Op.equalIn (9999+1) ty (.iface t v) .nilIface from rfl,ZvW h];rfl
theorem ZzB (h:yK P ty=true) (w:World):(binOp .neq ty .nilIface .nilIface).run P w= .ok (.bool false) w:=by
 have e:binOp .neq ty .nilIface .nilIface=(do let b <-Op.equal ty .nilIface .nilIface;pure (.bool !b)):=by
  unfold binOp;rfl
 rw[e,Sem.run_bind,show Op.equal ty .nilIface .nilIface=Op.equalIn (9999+1) ty .nilIface .nilIface from rfl,ZvD h];rfl
theorem ZvS {a:Act} {x:Value} (ho:ops[i]? =some o) (hg:o.guard=none) (he:(execOp a.eval o).run P w= .ok .recover w)
  (aN:(match recoverD cs with|some (v,cs')=>(v,cs')|none=>(Value.nilIface,cs))=(x,cs')) (h:wpOpsS P ops Q rest (a.put o.dst x) cs' w):wpOpsS P ops Q (i::rest) a cs w:=by
 simp only[wpOpsS,ho];rw[bE (by simp[Region.wanted,hg]),he];grind
theorem ZvQ {a:Act} {x:Value} (ho:ops[i]? =some o) (hg:o.guard=none) (he:(execOp a.eval o).run P w= .ok (.value x) w)
  (h:wpOpsS P ops Q rest (a.put o.dst x) cs w):wpOpsS P ops Q (i::rest) a cs w:=by
 simp only[wpOpsS,ho];rw[bE (by simp[Region.wanted,hg]),he];exact h
def EW (vs:Array Value) (N t3 t4:Nat) (x:Value) (b:Bool):Array Value:=((vs++Array.replicate (N-vs.size) Go.undef).setIfInBounds t3 x).setIfInBounds t4 (.bool b)
theorem ZkV {aT:Array TypeId} (aj6:t3≠t4) (h3:t3<N) (h4:t4<N) (aj8:yK C.P ty=true) {ya:Frame} {x:Value} {b:Bool}
  (aN:(match recoverD (ya::cs)with|some (v,cs')=>(v,cs')|none=>(Value.nilIface,ya::cs))=(x,cs')) (hb:(binOp .neq ty x .nilIface).run C.P w= .ok (.bool b) w) (hx:(∃t v,x= .iface t v)\/x= .nilIface)
  (h:(bif b then gb else .skip).wpS C.P Q { tmps:=EW vs N t3 t4 x b,defers:=[] } cs' w):
  (Code.seq (.region id #[⟨some t3,.call ⟨.builtin .recover, #[],aT⟩,rT,rP,rA,none⟩,⟨some t4,.binOp .neq ty (.tmp t3) (.const .nilIface) eT,yc,eP,eA,none⟩] false) (.cond (.tmp t4) gb .skip)).wpS C.P Q { tmps:=vs++Array.replicate (N-vs.size) Go.undef,defers:=[] } (ya::cs) w:=by
 have cF:N<=(vs++Array.replicate (N-vs.size) Go.undef).size:=by simp;omega
 refine wpS_seq (wpS_region ?_);have e1: ∀ev:Operand->Value,(execOp ev ⟨some t3,.call ⟨.builtin .recover, #[],aT⟩,rT,rP,rA,none⟩).run C.P w= .ok .recover w:=λ_=>rfl
 have fin:wpOpsS C.P #[⟨some t3,.call ⟨.builtin .recover, #[],aT⟩,rT,rP,rA,none⟩,⟨some t4,.binOp .neq ty (.tmp t3) (.const .nilIface) eT,yc,eP,eA,none⟩] (Exit.thenS ((Code.cond (.tmp t4) gb .skip).wpS C.P Q) Q) [1] (({ tmps:=vs++Array.replicate (N-vs.size) Go.undef,defers:=[] } :Act).put (some t3) x) cs' w:=by
  have Xm:(({ tmps:=vs++Array.replicate (N-vs.size) Go.undef,defers:=[] } :Act).put (some t3) x).eval (.tmp t3)=x:=by
   simp only[Act.put,Act.eval];rw[rO,PY (by omega)];rfl
  have e2:(execOp (({ tmps:=vs++Array.replicate (N-vs.size) Go.undef,defers:=[] } :Act).put (some t3) x).eval ⟨some t4,.binOp .neq ty (.tmp t3) (.const .nilIface) eT,yc,eP,eA,none⟩).run C.P w= .ok (.value (.bool b)) w:=by
   show(do let v <-(do eqGuard .neq ty (.tmp t3) (.const .nilIface) (Act.eval _ (.tmp t3)) (Act.eval _ (.const .nilIface));binOp .neq ty (Act.eval _ (.tmp t3)) (Act.eval _ (.const .nilIface)));pure (Next.value v):Sem Next).run C.P w=_;rw[Xm];have hg:(eqGuard .neq ty (.tmp t3) (.const .nilIface) x .nilIface).run C.P w= .ok () w:=by
    rcases hx with⟨t,v,rfl⟩|rfl<;>rfl
   show((do eqGuard .neq ty (.tmp t3) (.const .nilIface) x .nilIface;binOp .neq ty x .nilIface:Sem Value)>>= λv=>pure (Next.value v)).run C.P w=_;rw[Sem.run_bind,Sem.run_bind,hg,Result.andThen_ok,hb];rfl
  refine ZvQ (o:=⟨some t4,.binOp .neq ty (.tmp t3) (.const .nilIface) eT,yc,eP,eA,none⟩) rfl rfl e2 ?_;show Exit.thenS _ Q .normal _ cs' w;refine wpS_cond (t:=b) ?_ ?_
  .simp only[Act.put,Act.eval]
   rw[rO,PY (by simp;omega)];rfl
  .cases b<;>exact h
 show wpOpsS C.P _ _ [0,1] _ _ _;exact ZvS (o:=⟨some t3,.call ⟨.builtin .recover, #[],aT⟩,rT,rP,rA,none⟩) rfl rfl (e1 _) aN fin
theorem Zmo {fn:Func} (h:fn.results.isEmpty=true) (tmps:Array Value) (P:Program) (w:World):(results fn tmps).run P w= .ok (.tuple #[]) w:=by
 have e:fn.results= #[]:=by simpa using h
 simp[results,e]
theorem Zsp (Ef:C.P.funcs[g]? =some fU) (yv:fU.body=some Am) (hd:Gk C.P fU.nfree fU.ntmps Am=some gb) (Km:fU.results.isEmpty=true):
  CallsD C.P g vs .returning w λe u' w'=>e= .returned (.tuple #[])/\u'= .returning/\w'=w:=by
 obtain⟨id,t3,t4,ty,aT,rT,rP,rA,eT,yc,eP,eA,rfl,dM,_,_,h3,h4,rz⟩:=Zry hd;refine callsD_of_wpS Ef yv λya cs hu=>?_
 refine ZkV (x:= .nilIface) (b:=false) dM h3 h4 rz (cs':=ya::cs) ?_ (ZzB rz w) (.inr rfl) ?_
 .rw[recoverD,hu]
 .refine wpS_of_wp (wp_skip ?_)
  refine⟨rfl,.returning,?_,_,Zmo Km _ _ _,rfl,rfl,rfl⟩;cases ya;grind
theorem ZtT (hF:HM C) {c:Zf} (hc:ZT C c) {n:Nat} {vs:List Value} (Ef:C.P.funcs[g]? =some fU) (yv:fU.body=some Am) (hd:Gk C.P fU.nfree fU.ntmps Am=some gb) (Km:fU.results.isEmpty=true)
  (fP:yS (sU fU.ntmps) gb=true) (hm:vs.length=fU.nfree) (hmN:fU.nfree<=fU.ntmps) (h:exec C [] c n gb .z (λ_=>ay []) (λ_ _=>fail) (λ_=>ay []) ⟨0,kf 0 ds⟩ s=some (.val ds0,s3))
  (AL:ft C ψ (CS s) w) (JB:rV ψ w) (Eg:Glob C ψ) (ow:bG C ψ ds vs) (Ct: ∀v,ψ (.inr v)=none) (Kz: ∀i,s.length<=i->i<s3.length->ψ (.inl i)=none) {ch:List PanicEntry} (tX:oK ch):
  CallsD C.P g vs.toArray (.panicking ch) w λe u' w'=>e= .returned (.tuple #[])/\settle u'= .returning/\∃ψ',jJ C ψ s w ψ' s3 w':=by
 obtain⟨id,t3,t4,ty,aT,rT,rP,rA,eT,yc,eP,eA,rfl,dM,sL,AI,h3,h4,rz⟩:=Zry hd;obtain⟨pt,pv,rfl⟩:=tX;refine callsD_of_wpS Ef yv λya cs hu=>?_
 refine ZkV (x:= .iface pt pv) (b:=true) dM h3 h4 rz (cs':= { ya with mode:= .panicking [{ v:= .iface pt pv,recovered:=true }] } ::cs) ?_ (ZwY rz _ _ w) (.inl ⟨_,_,rfl⟩) ?_
 .rw[recoverD,hu]
 rw[ae];have lk: ∀r:Out ah×St,Lk (λ_:Env=>(ay []:M ah)) r:=by
  intro r E s' h';simp only[ay,fT]at h';grind
 let f:Fr:=⟨s3.length,fU.ntmps,ψ,s,w,sU fU.ntmps,λx h=>by unfold sU at h;rw[qz]at h;exact h,λt=>(EW vs.toArray fU.ntmps t3 t4 (.iface pt pv) true).getD t Go.undef,[]⟩
 have wE: ∀t,(⟨0,kf 0 ds⟩:Env).get t=match ds[t]? with|some d=> .v d|none=> .u:=by
  intro t;have:=MQ 0 ds t;simp only[cz,mJ,Fi]at this;exact this
 have EN: ∀t v,((⟨0,kf 0 ds⟩:Env).get t).df≠some v:=by
  intro t v;rw[wE];cases ds[t]? <;>simp[eQ.df]
 have B3: ∀h ab,CR ⟨0,kf 0 ds⟩ s h ab->CS s h ab:=by
  intro h ab c;cases h with
  |inl i=>exact⟨i,rfl,c⟩
  |inr v=>
   rcases c with⟨t,n,cs,e,_⟩|⟨t,l,p,e,_⟩
   .grind
   grind
 have R:Rel C f ψ ⟨0,kf 0 ds⟩ s { tmps:=EW vs.toArray fU.ntmps t3 t4 (.iface pt pv) true,defers:=[] } w:=by
  refine⟨AL.weaken λ_ _ _ _ c=>B3 _ _ c,⟨by grind,λt r v o e=>?_,by grind,by grind⟩,JB,Eg,λt=>?_,?_,rfl,Kz,λv _=>Ct v,(Ext.refl ψ (CS s) w).weaken λ_ _ _ _ c=>B3 _ _ c,λi cb e=> .inl e,aO _,Ct⟩
  .rw[wE]at e
   cases hd:ds[t]? <;>rw[hd]at e<;>cases e
  .rw[wE]
   cases hd:ds[t]? with
   |none=>trivial
   |some d=>
    have⟨v,hv,hr⟩:=ow.get hd;have aw:=(ef.1 hv).1;have:(EW vs.toArray fU.ntmps t3 t4 (.iface pt pv) true).getD t Go.undef=v:=by
     unfold EW;rw[rO,Array.getElem?_setIfInBounds_ne (by omega),Array.getElem?_setIfInBounds_ne (by omega),PX (by simpa using aw)];simp[hv]
    show gI C ψ (.v d) _;rw[this];exact hr
  .refine⟨?_,λ_ _=>rfl⟩
   show(EW vs.toArray fU.ntmps t3 t4 (.iface pt pv) true).size=fU.ntmps;simp[EW];omega
 refine wpS_of_wp ?_;have done: ∀ {E':Env} {s':St} {ψ':Ps} {a':Act} {w':World},(ay []:M ah) s'=some (.val ds0,s3)->Rel C f ψ' E' s' a' w'->
   a'.defers=[]/\∃u',({ ya with mode:= .panicking [{ v:= .iface pt pv,recovered:=true }] } ::cs:List Frame)= { ya with mode:=u' } ::cs/\∃v,(results fU a'.tmps).run C.P w'= .ok v w'/\Ending.returned v= .returned (.tuple #[])/\settle u'= .returning/\∃ψ',jJ C ψ s w ψ' s3 w':=by
  intro E' s' ψ' a' w' h' R';simp only[ay,fT,Fk]at h';obtain⟨_,rfl⟩:=h';exact⟨R'.defs,_,rfl,_,Zmo Km _ _ _,rfl,rfl,_,R'.Ah⟩
 refine Vo hF.cfg hc hF.NY (f:=f) (aO _) gb .z _ _ _ fP (lk _) (λi E s h=>by cases h) (lk _) _ s h ψ _ w _ R ?_ ?_ ?_ ?_
 .intro E' s' ψ' a' w' h' R' _;exact done h' R'
 .intro i E' s' ψ' a' w' h' _ _;cases h'
 .intro E' s' ψ' a' w' h' R';exact done h' R'
 grind
end
section
variable {C:bC} {ψ:Ps} {E:Env} {s:St} {w:World}
def I9 (ψ:Ps) (E:Env) (tmps:Array Value) (l:List ResultVar):Prop:=
 ∀a t,ResultVar.cell a t∈l->∀i o,E.get a= .v (.ptr (some (i,o)))->∃cb:CB,ψ (.inl i)=some cb/\tmps.getD a undef= .pointer (some ⟨cb.b,cb.o+o,none⟩)
theorem Vg (hs:ft C ψ (CS s) w) {tmps:Array Value} {r:Out β×St} : ∀ {l:List ResultVar} {K:ah->M β},I9 ψ E tmps l->qk C E l K s=some r->∃ds vs,K ds s=some r/\bG C ψ ds vs/\(l.mapM (Nx tmps)).run C.P w= .ok vs w
 |[],K,_,h=>⟨[],[],h,.nil,by simp⟩
 | .tmp t::l,K,_,h=>by cases h
 | .cell a t::l,K,hp,h=>by
  have fQ:I9 ψ E tmps l:=λa t hm=>hp a t (zy _ hm)
  simp only[qk]at h;cases hx:E.get a with
  |v d=>
   rw[hx]at h;cases d with
   |ptr p=>
    cases p with
    |none=>cases h
    |some q=>
     have⟨i,o⟩:=q;simp only at h;have⟨cb,e1,e3⟩:=hp a t (by simp) i o hx;have⟨td,ht,h⟩:=pU h;have asA:(asAddr (tmps.getD a undef)).run C.P w= .ok ⟨cb.b,cb.o+o,none⟩ w:=by rw[e3];rfl
     cases cI:jj C.P t with
     |true=>
      rw[cI]at h;simp only[ae]at h;have⟨fz,cs,cg,hn,h⟩:=IA h;have hh:=hs.holds (.inl i) cb _ e1 ⟨i,rfl,cg⟩;have⟨ds,vs,hk,hr,dV⟩:=Vg hs fQ h;have⟨vc,hv,_,lS,h1⟩:=L9 (P:=C.P) hh (p:=o) (n:=C.P.cellsOf t) hn;refine⟨_,_,hk,.cons _ _ _ _ (.agg _ vc lS h1) hr,IL ?_ dV⟩;show(do loadVar t (<-asAddr (tmps.getD a undef)):Sem Value).run C.P w=_;rw[Sem.run_bind,asA,Result.andThen_ok];exact LW ht cI _ w hv
     |false=>
      rw[cI]at h;simp only[af]at h;unfold bD at h;cases mV:s.cells i with
      |none=>rw[mV]at h;cases h
      |some cs=>
       rw[mV]at h;simp only at h;cases hd:cs[o]? with
       |none=>rw[hd]at h;cases h
       |some d=>
        rw[hd]at h;simp only at h;have cg: ∃f,dx s i=some (.cells f cs):=by
         unfold St.cells at mV;split at mV
         .rename_i bk Ax
          cases mV;exact⟨bk.dQ,by rw[dx,Ax]⟩
         .cases mV
        have⟨fz,cg⟩:=cg;have hh:=hs.holds (.inl i) cb _ e1 ⟨i,rfl,cg⟩;have⟨ds,vs,hk,hr,dV⟩:=Vg hs fQ h;have⟨y,hv,lS,_⟩:=My (P:=C.P) hh hd;refine⟨_,_,hk,.cons _ _ _ _ lS hr,IL ?_ dV⟩;show(do loadVar t (<-asAddr (tmps.getD a undef)):Sem Value).run C.P w=_;rw[Sem.run_bind,asA,Result.andThen_ok];exact H0 ht cI _ w hv
   |_=>cases h
  |_=>rw[hx]at h;cases h
theorem U7 {s s':St} {o:Out ah} : ∀ {l:List ResultVar} {K:ah->M ah},qk C E l K s=some (o,s')->(∀ds s o s',K ds s=some (o,s')->s'=s)->s'=s
 |[],K,h,hK=>hK _ _ _ _ h
 | .tmp t::l,K,h,_=>by cases h
 | .cell a t::l,K,h,hK=>by
  simp only[qk]at h;cases hx:E.get a with
  |v d=>
   rw[hx]at h;cases d with
   |ptr p=>
    cases p with
    |none=>cases h
    |some q=>
     simp only at h;have⟨td,ht,h⟩:=pU h;cases cI:jj C.P t with
     |true=>
      rw[cI]at h;simp only[ae]at h;have⟨_,_,_,_,h⟩:=IA h;exact U7 h λds s o s' h=>hK _ s o s' h
     |false=>
      rw[cI]at h;simp only[af]at h;unfold bD at h;split at h
      .split at h
       .exact U7 h λds s o s' h=>hK _ s o s' h
       .cases h
      .cases h
   |_=>cases h
  |_=>rw[hx]at h;cases h
theorem Ztc: ∀ {l:List ResultVar} {t:Nat},xa l t=true->∀a u,ResultVar.cell a u∈l->a≠t
 |[],_,_,a,u,hm=>by cases hm
 | .tmp _::_,_,h,_,_,_=>by cases h
 | .cell b v::l,t,h,a,u,hm=>by
  simp only[xa,aY,lF]at h;rcases eF.1 hm with e|hm
  .grind[Fe]
  .exact Ztc h.2 a u hm
theorem ZqY: ∀ {l:List ResultVar} (_: ∀t,ResultVar.tmp t∉l) {a u:Nat},ResultVar.cell a u∈l->xa l a=false
 |[],_,a,u,hm=>by cases hm
 | .tmp t::_,h,_,_,_=>absurd (by simp) (h t)
 | .cell b v::l,h,a,u,hm=>by
  rw[xa];rcases eF.1 hm with e|hm
  .simp_all
  .rw[ZqY (by grind) hm,C5]
theorem Zwc {c:Option Code} {iy:List Operand} (h:Jn c=some (td,g,iy)):
  ∃id t1 p1 a1 aT t2 p2 a2,c=some (.region id #[⟨some td,.makeFunc (.func g) #[] iy.toArray,t1,p1,a1,none⟩,⟨none,.defer ⟨.value (.tmp td), #[],aT⟩,t2,p2,a2,none⟩] false):=by
 unfold Jn at h;split at h
 .rename_i id td' g' aka t1 p1 a1 t' aT t2 p2 a2
  cases hb:Nat.beq td' t' with
  |false=>rw[hb]at h;cases h
  |true=>
   rw[hb]at h;simp_all
 .cases h
theorem ZwB {Q:Exit->Act->World->Prop} {a:Act} {x:Value} (ho:ops[i]? =some o) (hg:o.guard=none) (he:(execOp a.eval o).run P w= .ok (.value x) w)
  (h:wpOps P ops Q rest (a.put o.dst x) w):wpOps P ops Q (i::rest) a w:=by
 simp only[wpOps,ho];rw[bE (by simp[Region.wanted,hg])];left;unfold Oper.wp;rw[he];exact h
theorem Zup {Q:Exit->Act->World->Prop} {a:Act} {d:Deferred} (ho:ops[i]? =some o) (hg:o.guard=none) (he:(execOp a.eval o).run P w= .ok (.defer d) w)
  (h:wpOps P ops Q rest ({ a with defers:=d::a.defers }.put o.dst Go.undef) w):wpOps P ops Q (i::rest) a w:=by
 simp only[wpOps,ho];rw[bE (by simp[Region.wanted,hg])];left;unfold Oper.wp;rw[he];exact h
end
theorem Zpf {m:M ah} {H:Bool->M β} {r:Out β×St} (h:u7 m H s=some r):(∃ds s2,m s=some (.val ds,s2)/\H false s2=some r)\/(∃s2,m s=some (.fp,s2)/\H true s2=some r):=by
 grind[u7]
theorem Zz9 {α:Type} {l:List α} {k:Nat} {x:α} (h:l[k]? =some x):l=l.take k++x::l.drop (k+1):=by
 obtain⟨hk,rfl⟩:=ef.1 h;rw[<-iV hk,rS]
theorem BT (r:Out ah×St):Lk (λ_:Env=>(ay []:M ah)) r:=by
 intro E s' h';grind[ay,fT]
def isG (k:Nat) (fn:Func) (g:FuncId):Bool:=match fn.body with
 |some code=>match Jn ((oX code)[k]?)with
  |some (_,g',_)=>Nat.beq g' g
  |none=>false
 |none=>false
set_option maxHeartbeats 1000000 in
theorem Zym (hF:HM C) {c:Zf} (hc:ZT C c) {n k:Nat} {fn fU:Func} (hfn:C.P.funcs[vg]? =some fn) (rp:(fn.name== "runtime.NumGoroutine")=false) (Ef:C.P.funcs[g]? =some fU) (ahs:(fU.name== "runtime.NumGoroutine")=false) (hg:isG k fn g=true) {out:Out ah×St} (h:Wt C k fn fU c n args s=some out):Nj C vg args s out:=by
 unfold Wt at h;cases hb:fn.body with
 |none=>rw[hb]at h;cases h
 |some code=>
 cases yv:fU.body with
 |none=>rw[hb,yv]at h;cases h
 |some Am=>
 rw[hb,yv]at h;simp only at h;cases hd:Jn ((oX code)[k]?)with
 |none=>rw[hd]at h;cases h
 |some p=>
 have⟨td,g',iy⟩:=p;cases Ed:Gk C.P fU.nfree fU.ntmps Am with
 |none=>rw[hd,Ed]at h;cases h
 |some gb=>
 rw[hd,Ed]at h;simp only at h;have:g'=g:=by unfold isG at hg;rw[hb]at hg;simp only at hg;rw[hd]at hg;exact dL hg
 subst this;have⟨fP,h⟩:=Zs h;simp only[aY]at fP;have⟨⟨⟨⟨⟨⟨⟨⟨⟨⟨k1,k2⟩,k3⟩,k4⟩,k5⟩,k6⟩,k7⟩,k8⟩,k9⟩,YE⟩,YF⟩:=fP;have k4:=qA k4;have k5:td<fn.ntmps:=by rw[qz]at k5;exact k5
 have k7:=dL k7;have YE:=qA YE;have YF:=dL YF;have⟨ds,h,pw,rk,tW⟩:=Iu h;have hlen:ds.length=fn.params.size:=by rw[rk];simp
 have⟨id,t1,p1,a1',aT,t2,p2,a2',hx⟩:=Zwc hd;have Xf:=Zz9 hx;have J8: ∀t,ResultVar.tmp t∉fn.results.toList:=by
  intro t hm;have: ∀(l:List ResultVar) (u:Nat),xa l u=true->ResultVar.tmp t∉l:=by
   intro l;induction l with
   |nil=>intro u _ hm;cases hm
   |cons x l ih=>
    intro u hu hm;cases x with
    |tmp y=>cases hu
    |cell a v=>
     simp only[xa,aY]at hu;rcases eF.1 hm with e|hm
     .cases e
     .exact ih u hu.2 hm
  exact this _ _ k6 hm
 have Gr: ∀E s' r,qk C E fn.results.toList (λds=>(ay ds:M ah)) s'=some r->r.2=s':=by
  intro E s' r h';have⟨o,s2⟩:=r;exact U7 h' λds s o s' h=>by simp only[ay,fT,Fk]at h;exact h.2.symm
 have lkf:Lk (λE=>qk C E fn.results.toList λds=>(ay ds:M ah)) out:=λE s' h'=>by rw[Gr E s' out h'];exact aO _
 have half: ∀E s',(aC (Nat.beq E.bQ 0&&Pd (E.get td)) (A9 C E iy λcs=>
      u7 (yf C c n ((oX code).drop (k+1)) (λ_=>ay []) (λ_=>ay []) E)
       λp=>bif p then u7 (exec C [] c n gb .z (λ_=>ay []) (λ_ _=>fail) (λ_=>ay []) ⟨0,kf 0 cs⟩) λp=>bif p then fail else qk C E fn.results.toList λds=>(ay ds:M ah)
        else qk C E fn.results.toList λds=>(ay ds:M ah))) s'=some out->
   E.bQ=0/\E.get td= .u/\∃cs o s2,SV C E iy cs/\yf C c n ((oX code).drop (k+1)) (λ_=>ay []) (λ_=>(ay []:M ah)) E s'=some (o,s2)/\s'.length<=s2.length/\
    (((∃x,o= .val x)/\qk C E fn.results.toList (λds=>(ay ds:M ah)) s2=some out)\/
     (o= .fp/\∃x s3,exec C [] c n gb .z (λ_=>ay []) (λ_ _=>fail) (λ_=>(ay []:M ah)) ⟨0,kf 0 cs⟩ s2=some (.val x,s3)/\s2.length<=s3.length/\qk C E fn.results.toList (λds=>(ay ds:M ah)) s3=some out)):=by
  intro E s' h';have⟨kI,h'⟩:=me h';rw[aY]at kI;have hu:E.get td= .u:=by
   have:=kI.2;unfold Pd at this;cases he:E.get td<;>rw[he]at this<;>first|rfl|cases this
  have⟨cs,h',O4⟩:=Ic h';refine⟨dL kI.1,hu,cs,?_⟩;rcases Zpf h' with⟨x,s2,hm,hf⟩|⟨s2,hm,hf⟩
  .exact⟨_,s2,O4,hm,FR (r:=(.val x,s2)) hF.cfg hc _ _ _ (BT _) (BT _) E s' hm,.inl ⟨⟨x,rfl⟩,hf⟩⟩
  .simp only[ae]at hf
   rcases Zpf hf with⟨x,s3,fw,hf⟩|⟨s3,_,hf⟩
   .exact⟨_,s2,O4,hm,FR (r:=(.fp,s2)) hF.cfg hc _ _ _ (BT _) (BT _) E s' hm,.inr ⟨rfl,x,s3,fw,ID (r:=(.val x,s3)) hF.cfg hc gb .z _ _ _ (BT _) (λ_ _ _ h=>by cases h) (BT _) _ s2 fw,hf⟩⟩
   .cases hf
 have lkh:Lk (λE=>aC (Nat.beq E.bQ 0&&Pd (E.get td)) (A9 C E iy λcs=>
      u7 (yf C c n ((oX code).drop (k+1)) (λ_=>ay []) (λ_=>ay []) E)
       λp=>bif p then u7 (exec C [] c n gb .z (λ_=>ay []) (λ_ _=>fail) (λ_=>ay []) ⟨0,kf 0 cs⟩) λp=>bif p then fail else qk C E fn.results.toList λds=>(ay ds:M ah)
        else qk C E fn.results.toList λds=>(ay ds:M ah))) out:=by
  intro E s' h';have⟨_,_,cs,o,s2,_,_,hl,hh⟩:=half E s' h';rcases hh with⟨_,hf⟩|⟨_,x,s3,_,JU,hf⟩
  .rw[Gr E s2 out hf];exact hl
  .rw[Gr E s3 out hf];omega
 refine⟨FR hF.cfg hc _ _ _ lkh lkf _ s h,λψ w vs AL JB Eg kH Ct Kz=>?_⟩;have ow:=tW C ψ vs kH;have CE:=ow.len;unfold zW;have tV:(callFunc vg vs.toArray).run C.P w= .ok (.enter vg vs.toArray) w:=by
  have wP: ¬fn.name= "runtime.NumGoroutine" :=by simpa using rp
  simp[callFunc,hfn,wP,hb]
 rw[tV];refine calls_of_wp_defers hfn hb (ZzK _ _ _ _ ?_)
 let f:Fr:=⟨out.2.length,fn.ntmps,ψ,s,w,sU fn.ntmps,λx h=>by unfold sU at h;rw[qz]at h;exact h,λt=>(vs.toArray++Array.replicate (fn.ntmps-vs.toArray.size) Go.undef).getD t Go.undef,[]⟩
 have wE: ∀t,(⟨0,kf 0 ds⟩:Env).get t=match ds[t]? with|some d=> .v d|none=> .u:=by
  intro t;have:=MQ 0 ds t;simp only[cz,mJ,Fi]at this;exact this
 have EN: ∀t v,((⟨0,kf 0 ds⟩:Env).get t).df≠some v:=by
  intro t v;rw[wE];cases ds[t]? <;>simp[eQ.df]
 have B3: ∀h ab,CR ⟨0,kf 0 ds⟩ s h ab->CS s h ab:=by
  intro h ab c;cases h with
  |inl i=>exact⟨i,rfl,c⟩
  |inr v=>
   rcases c with⟨t,n,cs,e,_⟩|⟨t,l,p,e,_⟩
   .exact absurd (by rw[e];rfl) (EN t v)
   .exact absurd (by rw[e];rfl) (EN t v)
 have R:Rel C f ψ ⟨0,kf 0 ds⟩ s { tmps:=vs.toArray++Array.replicate (fn.ntmps-vs.toArray.size) Go.undef,defers:=[] } w:=by
  refine⟨AL.weaken λ_ _ _ _ c=>B3 _ _ c,⟨λt v e=>absurd e (EN t v),λt r v o e=>?_,λt v n cs e=>absurd (by rw[e];rfl) (EN t v),λt t' v e _=>absurd e (EN t v)⟩,JB,Eg,λt=>?_,?_,rfl,Kz,λv _=>Ct v,(Ext.refl ψ (CS s) w).weaken λ_ _ _ _ c=>B3 _ _ c,λi cb e=> .inl e,aO _,Ct⟩
  .rw[wE]at e
   cases hd:ds[t]? <;>rw[hd]at e<;>cases e
  .rw[wE]
   cases hd:ds[t]? with
   |none=>trivial
   |some d=>
    have⟨v,hv,hr⟩:=ow.get hd;have:(vs.toArray++Array.replicate (fn.ntmps-vs.toArray.size) Go.undef).getD t Go.undef=v:=by
     have aw:=(ef.1 hv).1;rw[rO,PX (by simpa using aw)];simp[hv]
    show gI C ψ (.v d) _;rw[this];exact hr
  .refine⟨?_,λ_ _=>rfl⟩
   show(vs.toArray++Array.replicate (fn.ntmps-vs.toArray.size) Go.undef).size=fn.ntmps;rw[Array.size_append,Array.size_replicate,List.size_toArray];omega
 have done: ∀ {E':Env} {s':St} {ψ':Ps} {tmps:Array Value} {w':World},qk C E' fn.results.toList (λds=>(ay ds:M ah)) s'=some out->jJ C ψ s w ψ' s' w'->I9 ψ' E' tmps fn.results.toList->
   ∃v,(results fn tmps).run C.P w'= .ok v w'/\∃ds,out.1= .val ds/\∃ψ',jJ C ψ s w ψ' out.2 w'/\Bm C ψ' ds v:=by
  intro E' s' ψ' tmps w' h' cp hp;have⟨mg,je,hk,hr,dV⟩:=Vg cp.eW hp h';simp only[ay,fT]at hk;refine⟨_,Znr dV,mg,by rw[<-hk],ψ',?_,?_⟩
  .rw[<-hk];exact cp
  .by_cases h1:je.length=1
   .rw[dif_pos h1]
    cases hr with
    |nil=>cases h1
    |cons d v ds vs a b=>
     cases b with
     |nil=>exact .inl ⟨d,rfl,a⟩
     |cons _ _ _ _ _ _=>simp at h1
   .rw[dif_neg h1]
    exact .inr ⟨by rw[hr.len];exact h1,_,rfl,hr⟩
 have acK: ∀ {ψ':Ps} {E':Env} {tmps:Array Value},(∀t,gI C ψ' (E'.get t) (tmps.getD t Go.undef))->I9 ψ' E' tmps fn.results.toList:=by
  intro ψ' E' tmps hr a t _ i o he;have:=hr a;rw[he]at this;have this:VR C ψ' (.ptr (some (i,o))) (tmps.getD a Go.undef):=this;generalize tmps.getD a Go.undef=v at this;cases this with
  |ptr _ _ cb e=>exact⟨cb,e,rfl⟩
 rw[Xf,VK];refine U9 hF.cfg hc hF.NY (f:=f) (aO _) _ _ _ k1 lkh lkf _ s h ψ _ w _ R ?_ ?_ ?_
 ·
  intro E1 s1 iJ a1 w1 h1 R1;have⟨G0,hu,cs,o,s2,O4,hm,Ox,hh⟩:=half E1 s1 h1;show Code.wp C.P _ _ a1 w1;have YC: ∀v,iJ (.inr v)=none:=λv=>R1.vN v (by rw[G0];exact cz _)
  have e1:nF iJ=iJ:=by
   funext x;cases x with
   |inl i=>rfl
   |inr v=>exact(YC v).symm
  have Ww:=R1.Ah;rw[e1]at Ww;have Eb: ∀h ab,CR E1 s1 h ab->CS s1 h ab:=by
   intro h ab c;cases h with
   |inl i=>exact⟨i,rfl,c⟩
   |inr v=>
    rcases c with⟨t,n,cs,e,_⟩|⟨t,l,p,e,_⟩
    .have:=R1.gR.lt t v (by rw[e];rfl);omega
    .have:=R1.gR.lt t v (by rw[e];rfl);omega
  have hN2:s2.length<=out.2.length:=by
   rcases hh with⟨_,hf⟩|⟨_,x,s3,_,JU,hf⟩
   .rw[Gr E1 s2 out hf];exact aO _
   .rw[Gr E1 s3 out hf];exact JU
  have ad2:bG C iJ cs (iy.map a1.eval):=IN (o:=⟨some td,.makeFunc (.func g') #[] iy.toArray,t1,p1,a1',none⟩) (D:=λ_=>True) R1.pre (λx hx=>by simp[Op.operands];exact hx) O4;refine wp_region (ZwB (o:=⟨some td,.makeFunc (.func g') #[] iy.toArray,t1,p1,a1',none⟩) (x:= .func (.func g') #[] (iy.toArray.map a1.eval)) rfl rfl (by simp[execOp,Instr.makeFunc]) ?_);have aiP:a1.tmps.size=fn.ntmps:=R1.nN.1;have Xm:(a1.put (some td) (.func (.func g') #[] (iy.toArray.map a1.eval))).eval (.tmp td)= .func (.func g') #[] (iy.toArray.map a1.eval):=by
   rw[Act.put,Act.eval];rw[rO,PY (by omega)];rfl
  refine Zup (o:=⟨none,.defer ⟨.value (.tmp td), #[],aT⟩,t2,p2,a2',none⟩) (d:= { target:= .fn (.func g') (iy.toArray.map a1.eval),args:= #[] }) rfl rfl ?_ ?_
  .simp only[execOp,resolve,Xm,Deferred.ofValue]
   simp
  show th C.P ((oX code).drop (k+1)) _ _ w1
  let d:Deferred:= { target:= .fn (.func g') (iy.toArray.map a1.eval),args:= #[] }
  let a2:Act:= { tmps:=a1.tmps.setIfInBounds td (.func (.func g') #[] (iy.toArray.map a1.eval)),defers:=[d] }
  have Av:({ (a1.put (some td) (.func (.func g') #[] (iy.toArray.map a1.eval)))with defers:=d::(a1.put (some td) (.func (.func g') #[] (iy.toArray.map a1.eval))).defers } :Act).put none Go.undef=a2:=by
   have:a1.defers=[]:=R1.defs;simp only[Act.put,this,a2]
  show th C.P ((oX code).drop (k+1)) _ (({ (a1.put (some td) (.func (.func g') #[] (iy.toArray.map a1.eval)))with defers:=d::(a1.put (some td) (.func (.func g') #[] (iy.toArray.map a1.eval))).defers } :Act).put none Go.undef) w1;rw[Av];have acy: ∀t,t≠td->a2.tmps.getD t Go.undef=a1.tmps.getD t Go.undef:=by
   intro t ht;simp only[a2];rw[rO,rO,Array.getElem?_setIfInBounds_ne (Ne.symm ht)]
  let f2:Fr:=⟨s2.length,fn.ntmps,iJ,s1,w1,λt=>sU fn.ntmps t&&xa fn.results.toList t,λx h=>by rw[aY]at h;have h:=h.1;unfold sU at h;rw[qz]at h;exact h,λt=>a2.tmps.getD t Go.undef,[d]⟩
  have R2:Rel C f2 iJ E1 s1 a2 w1:=by
   refine⟨R1.eW,R1.gR,R1.gE,R1.lx,λt=>?_,⟨?_,λ_ _=>rfl⟩,rfl,λi h1 h2=>R1.tg i h1 (mI h2 hN2),R1.vN,(Ext.refl iJ (CS s1) w1).weaken λ_ _ _ _ c=>Eb _ _ c,λi cb e=> .inl e,aO _,YC⟩
   .by_cases ht:t=td
    .subst ht;rw[hu];trivial
    .rw[acy t ht];exact R1.j8 t
   .show(a1.tmps.setIfInBounds _ _).size=fn.ntmps
    simp[aiP]
  have hinv:(invoke (.fn (.func g') (iy.toArray.map a1.eval)) #[]).run C.P=λw=> .ok (.enter g' (iy.map a1.eval).toArray) w:=by
   funext w';have wP: ¬fU.name= "runtime.NumGoroutine" :=by simpa using ahs
   have:(#[]:Array Value)++iy.toArray.map a1.eval=(iy.map a1.eval).toArray:=by simp
   show(callFunc g' (#[]++iy.toArray.map a1.eval)).run C.P w'=_;rw[this];simp[callFunc,Ef,wP,yv]
  have ai8: ∀ {a':Act},Ks f2 a'->∀b u,ResultVar.cell b u∈fn.results.toList->a'.tmps.getD b Go.undef=a1.tmps.getD b Go.undef:=by
   intro a' hk b u hm;have fP:f2.ok b=false:=by
    show(sU fn.ntmps b&&xa fn.results.toList b)=false;rw[ZqY J8 hm,C5]
   rw[hk.2 b fP];exact acy b (Ztc k6 b u hm)
  have aju:=acK R1.j8;have acJ: ∀ {ψ':Ps} {a':Act},Ks f2 a'->(∀h cb,iJ h=some cb->ψ' h=some cb)->I9 ψ' E1 a'.tmps fn.results.toList:=by
   intro ψ' a' hk ahK b u hm i o he;have⟨cb,h1,h2⟩:=aju b u hm i o he;exact⟨cb,ahK _ _ h1,by rw[ai8 hk b u hm];exact h2⟩
  have An: ∀ {E':Env} {s':St} {ψ':Ps} {a':Act} {w':World},(ay []:M ah) s'=some (o,s2)->Rel C f2 ψ' E' s' a' w'->Leaves C.P fn a'.tmps (λe w'=>match e,w' with
    | .returned v,w'=>∃ds,out.1= .val ds/\∃ψ',jJ C ψ s w ψ' out.2 w'/\Bm C ψ' ds v
    | .panicked ch,w'=>oK ch/\out.1= .fp/\∃ψ',jJ C ψ s w ψ' out.2 w'
    | .outgrown,_=>False) a'.defers .returning w':=by
   intro E' s' ψ' a' w' h' R';simp only[ay,fT,Fk]at h';have⟨ho,iQ⟩:=h';have ho:o= .val []:=ho.symm;have iQ:s'=s2:=iQ;subst iQ;have Xi:a'.defers=[d]:=R'.defs;rw[Xi];refine leaves_cons (by simp) (by rw[hinv]) ?_;refine(Zsp (vs:=(iy.map a1.eval).toArray) Ef yv Ed k9).mono ?_;rintro e u' xm ⟨rfl,rfl,rfl⟩;have wx:=R'.Ah;rcases hh with⟨_,hf⟩|⟨hp,_⟩
   .exact done hf (Ww.trans R1.len Ox wx) (acJ R'.nN wx.ext.mono)
   .rw[ho]at hp;cases hp
  refine U9 hF.cfg hc hF.NY (f:=f2) (r:=(o,s2)) (aO _) _ _ _ k2 (BT _) (BT _) E1 s1 hm iJ a2 w1 _ R2 ?_ ?_ ?_
  .intro E' s' ψ' a' w' h' R';exact An h' R'
  .intro E' s' ψ' a' w' h' R';exact An h' R'
  .intro ch a' w' s' e hv hp
   cases e;rcases hh with⟨⟨x,hx⟩,_⟩|⟨_,x,s3,sL,JU,hf⟩
   .cases hx
   have⟨ky,wx⟩:=hp.post;have Xi:a'.defers=[d]:=hp.defs;show Leaves C.P fn a'.tmps _ a'.defers (.panicking ch) w';rw[Xi];refine leaves_cons (by simp) (by rw[hinv]) ?_;have wT:out.2=s3:=Gr E1 s3 out hf;refine(ZtT hF hc (ψ:=ky) (s:=s2) (w:=w') (vs:=iy.map a1.eval) Ef yv Ed k9 k3 (by simpa using YF) YE sL wx.eW (wx.ext.gE R1.gE) (wx.ext.lx R1.lx) (ad2.mono (ψ:=iJ) (ψ':=ky) λ_ _ e=>wx.ext.mono _ _ e) (λv=>?_) (λi h1 h2=>?_) hv).mono ?_
   .cases wY:ky (.inr v)with
    |none=>rfl
    |some cb=>
     rcases wx.news _ _ wY with e|⟨i,e,_⟩
     .have:=YC v
      rw[show f2.iI=iJ from rfl]at e;rw[this]at e;cases e
     .cases e
   .cases wY:ky (.inl i)with
    |none=>rfl
    |some cb=>
     rcases wx.news _ _ wY with e|⟨j,e,_,hj⟩
     .have:=R1.tg i (gY Ox h1) (by rw[<-wT]at h2;exact h2)
      rw[show f2.iI=iJ from rfl]at e;rw[this]at e;cases e
     .cases e;omega
   .rintro e u' xm ⟨rfl,dh,Lj,cp3⟩
    show Leaves C.P fn a'.tmps _ [] (settle u') xm;rw[dh];have ad4:=(Ww.trans R1.len Ox wx).trans (gY R1.len Ox) JU cp3;exact done hf ad4 (acJ hp.ks λ_ _ e=>cp3.ext.mono _ _ (wx.ext.mono _ _ e))
 ·
  intro E' s' ψ' a' w' h' R';show Leaves C.P fn a'.tmps _ a'.defers .returning w';rw[show a'.defers=[]from R'.defs];refine done h' R'.Ah λb u hm i o he=>?_
  have⟨cb,h1,h2⟩:=acK R'.j8 b u hm i o he;exact⟨cb,h1,h2⟩
 .intro ch a' w' s' e hv hp
  show Leaves C.P fn a'.tmps _ a'.defers (.panicking ch) w';rw[show a'.defers=[]from hp.defs];have⟨ψ',fQ⟩:=hp.post;exact⟨hv,by rw[e],ψ',by rw[e];exact fQ⟩
theorem ZlH {fn:Func} {w:World} {R:Ending->World->Prop} (hfn:P.funcs[f]? =some fn) (rp:(fn.name== "runtime.NumGoroutine")=false) (hb:fn.body.isSome=true)
  (h:Calls P f vs w R):zW P f vs w R:=by
 have wP: ¬fn.name= "runtime.NumGoroutine" :=by simpa using rp
 have e:(callFunc f vs).run P w= .ok (.enter f vs) w:=by
  cases dR:fn.body with
  |none=>rw[dR]at hb;cases hb
  |some c=>simp[callFunc,hfn,wP,dR]
 grind[zW]
end Go.Gv
