/- What a region's operations do, one behind the other, as the machine takes them. -/
import Derived.Test.YtegglibipjjblaaGreatDoorGvZOps
import Derived.Laws.Externs
import Derived.Lib.Bytealg
import Derived.OrdersHeld
import Derived.Recover
import Derived.Defers
import Derived.Lib.Join
import Derived.Lib.Repeat
namespace Go.Gv
variable {β:Type}
structure j8 (E E':Env):Prop where
 aZ:E'.aZ=E.aZ
 get: ∀t,E'.get t=E.get t\/E'.get t= .u
def GW (dst:Nat->Option Nat) (E:Env) (o:Oper):Prop:=o.guard=none\/∃j w r,o.guard=some (j,w)/\dst j=some r/\E.get r= .v (.bool w)
def GU (dst:Nat->Option Nat) (E:Env) (o:Oper):Prop:=∃j w r,o.guard=some (j,w)/\dst j=some r/\((∃b,E.get r= .v (.bool b)/\b≠w)\/E.get r= .un)
section
variable (C:aP) (dst:Nat->Option Nat) (pr ms:List Nat)
inductive Step:Oper×Md->Env->St->Env->St->Prop
 |act {p:Oper×Md} {E s E' s'} :GW dst E p.1->j7 (kD p.2 E) pr ms p.1 E s E' s'->ya C p.1 (mA p.2 E) (kD p.2 E) E s E' s'->Step p E s E' s'
 |skip {p:Oper×Md} {E s} :GU dst E p.1->Step p E s (E.dN p.1.dst .un) s
inductive Tr:List (Oper×Md)->Env->St->Env->St->Prop
 |nil (E s):Tr [] E s E s
 |gC {l E E1 s E2 s2} :j8 E E1->Tr l E1 s E2 s2->Tr l E s E2 s2
 |cons {p l E s E1 s1 E2 s2} :Step C dst pr ms p E s E1 s1->Tr l E1 s1 E2 s2->Tr (p::l) E s E2 s2
inductive lq:List (Oper×Md)->Env->St->St->Prop
 |gC {l E E1 s s2} :j8 E E1->lq l E1 s s2->lq l E s s2
 |here {p l E s s'} :GW dst E p.1->p.2.x=0->sR C p.1 (mA p.2 E) E s s'->lq (p::l) E s s'
 |next {p l E s E1 s1 s2} :Step C dst pr ms p E s E1 s1->lq l E1 s1 s2->lq (p::l) E s s2
end
section
variable {C:aP} {dst:Nat->Option Nat} {pr ms:List Nat}
theorem Tr.append {l1 l2:List (Oper×Md)} {E E1 E2:Env} {s s1 s2:St} (h:Tr C dst pr ms l1 E s E1 s1) (k:Tr C dst pr ms l2 E1 s1 E2 s2):Tr C dst pr ms (l1++l2) E s E2 s2:=by
 induction h with
 |nil=>exact k
 |gC w _ ih=>exact .gC w (ih k)
 |cons st _ ih=>exact .cons st (ih k)
theorem lq.left {l1:List (Oper×Md)} {E:Env} {s s2:St} (h:lq C dst pr ms l1 E s s2) (l2:List (Oper×Md)):lq C dst pr ms (l1++l2) E s s2:=by
 induction h with
 |gC w _ ih=>exact .gC w ih
 |here a b c=>exact .here a b c
 |next st _ ih=>exact .next st ih
theorem Tr.cC {l1 l2:List (Oper×Md)} {E E1:Env} {s s1 s2:St} (h:Tr C dst pr ms l1 E s E1 s1) (k:lq C dst pr ms l2 E1 s1 s2):lq C dst pr ms (l1++l2) E s s2:=by
 induction h with
 |nil=>exact k
 |gC w _ ih=>exact .gC w (ih k)
 |cons st _ ih=>exact .next st (ih k)
theorem Zml {r:Nat} : ∀ {l acc:List (Oper×Md)} {dB:List (Oper×Md)} {pk:Oper} {rest:List (Oper×Md)},yr r acc l=some (dB,pk,rest)->
  ∃x y z,acc.reverse++l=dB++(pk,x)::rest/\pk.op= .pick (.tmp r) y z
 |[],acc,dB,pk,rest,h=>by cases h
 |(o,x)::l,acc,dB,pk,rest,h=>by
  simp only[yr]at h;have go:yr r ((o,x)::acc) l=some (dB,pk,rest)->∃x' y z,acc.reverse++(o,x)::l=dB++(pk,x')::rest/\pk.op= .pick (.tmp r) y z:=by
   intro h;obtain⟨x',y,z,h1,h2⟩:=Zml h;exact⟨x',y,z,by rw[<-h1];simp,h2⟩
  split at h
  ·rename_i t y z de
   cases hb:Nat.beq t r with
   |true=>
    rw[hb]at h;simp only[cond_true,cX,xX]at h;obtain⟨rfl,rfl,rfl⟩:=h;have:=cc hb;subst this;exact⟨x,y,z,rfl,de⟩
   |false=>rw[hb]at h;exact go h
  ·exact go h
theorem ZtC: ∀ {act:List (Nat×Bool)} {g:Nat×Bool},J9 act g=true->g∈act
 |[],_,h=>by cases h
 |(k,b)::r,g,h=>by
  simp only[J9,jD,aH]at h;rcases h with⟨h1,h2⟩|h
  ·have e1:=cc h1
   have e2:b=g.2:=by simpa using h2
   have:g=(k,b):=by rw[e1,e2]
   rw[this];exact jZ
  ·exact lT _ (ZtC h)
theorem IG {j:Nat} {w:Bool} {r:Nat} : ∀ {l:List (Oper×Md)} {sk:List Nat},yE pr dst j w r sk l=true->∀p∈l,¬Spec pr p.1/\p.1.dst≠some r
 |[],_,_,p,hp=>by cases hp
 |(o,x)::l,sk,h,p,hp=>by
  simp only[yE,aH]at h;obtain⟨⟨h1,_⟩,h3⟩:=h;have eR: ¬Spec pr o:=by
   unfold Spec;intro hs;cases de:o.op<;>rw[de]at hs h1<;>simp only at hs h1<;>first|exact hs|(cases h1;done)|skip
   all_goals
    obtain⟨d,hd,jx⟩:=hs;rw[hd]at h1;simp only at h1;rw[jx]at h1;cases h1
  cases hd:o.dst with
  |none=>
   rw[hd]at h3;rcases bX.1 hp with rfl|hp
   ·exact⟨eR,by simp[hd]⟩
   ·exact IG h3 p hp
  |some d=>
   rw[hd]at h3;simp only[aH]at h3;rcases bX.1 hp with rfl|hp
   ·refine⟨eR,?_⟩
    rw[hd];intro e;cases e;have:=h3.1;rw[uo]at this;cases this
   ·exact IG h3.2 p hp
theorem AD: ∀ {l:List (Oper×Md)} {t:Nat},has (fy l) t=true↔ ∃p∈l,p.1.dst=some t
 |[],t=>by simp[fy,has]
 |(o,x)::l,t=>by
  simp only[fy,bX,exists_eq_or_imp];cases hd:o.dst with
  |none=>simp only[AD];simp
  |some d=>
   simp only[has,jD,AD,cX];constructor
   ·rintro(h|h)
    ·exact .inl (cc h)
    ·exact .inr h
   ·rintro(h|h)
    ·exact .inl (by subst h;exact uo _)
    ·exact .inr h
theorem P5 {j:Nat} {w:Bool} {r:Nat} (hj:dst j=some r) {b:Bool} (hb:b≠w): ∀ {l:List (Oper×Md)} {sk:List Nat} {E:Env} {s:St},yE pr dst j w r sk l=true->E.get r= .v (.bool b)->(∀d,has sk d=true->E.get d= .un)->
  ∃E1,Tr C dst pr ms l E s E1 s/\E1.aZ=E.aZ/\(∀u,has (fy l) u=false->E1.get u=E.get u)
 |[],_,E,s,_,_,_=>⟨E,.nil E s,rfl,fun _ _=>rfl⟩
 |(o,x)::l,sk,E,s,h,hr,SD=>by
  have SF:=IG h (o,x) (by simp);simp only[yE,aH]at h;obtain⟨⟨_,h2⟩,h3⟩:=h;have hg:GU dst E o:=by
   cases hg:o.guard with
   |none=>rw[hg]at h2;cases h2
   |some g=>
    obtain⟨j',w'⟩:=g;rw[hg]at h2;simp only[jD,aH]at h2;rcases h2 with⟨h4,h5⟩|h4
    ·have:=cc h4
     have h5:w'=w:=by simpa using h5
     subst this;subst h5;exact⟨_,_,r,hg,hj,.inl ⟨b,hr,hb⟩⟩
    ·cases hd:dst j' with
     |none=>rw[hd]at h4;cases h4
     |some d=>rw[hd]at h4;exact⟨j',w',d,hg,hd,.inr (SD d h4)⟩
  have jj:(E.dN o.dst .un).get r= .v (.bool b):=by rw[Env.iQ,ax SF.2];exact hr
  cases hd:o.dst with
  |none=>
   rw[hd]at h3;obtain⟨E1,t1,t2,t3⟩:=P5 hj hb (E:=E.dN o.dst .un) (s:=s) h3 jj (fun d h=>by rw[hd];exact SD d h);refine⟨E1,.cons (.skip hg) t1,by rw[t2];simp,fun u hu=>?_⟩;simp only[fy,hd]at hu;rw[t3 u hu,hd];rfl
  |some d=>
   rw[hd]at h3;simp only[aH]at h3;obtain⟨E1,t1,t2,t3⟩:=P5 hj hb (E:=E.dN o.dst .un) (s:=s) h3.2 jj (fun d' h=>by
    rw[Env.iQ,hd];simp only[has,jD]at h;by_cases e:some d=some d'
    ·rw[aG e]
    ·rw[ax e]
     rcases h with h|h
     ·exact absurd (by rw[cc h]) e
     ·exact SD d' h)
   refine⟨E1,.cons (.skip hg) t1,by rw[t2];simp,fun u hu=>?_⟩;simp only[fy,hd,has,kZ]at hu;rw[t3 u hu.2,Env.iQ,hd,ax];intro e;cases e;rw[uo]at hu;cases hu.1
theorem Zr7 {o:Oper} {md:Md} {r:Nat} {y z:Operand} {E:Env} {s:St} {b:Bool} (ho:o.op= .pick (.tmp r) y z) (hb:E.get r= .v (.bool b)) (hg:GW dst E o):
  Step C dst pr ms (o,md) E s (E.dN o.dst (E.src C (if b then y else z))) s:=by
 refine .act hg (j7.Tm pr ms _ (Env.E9 C E _) (fun hE r v n h=>Env.zB C hE h)) (ya.pure (JC md E) _ (Env.E9 C E _) fun ψ Q a w p=>⟨a.eval (if b then y else z),w,?_,.refl w,p.src ?_⟩)
 ·have:=p.val (x:= .tmp r) (by simp[Op.operands,ho]) (d:= .bool b) (by simp only[Env.src,hb])
  generalize hv:a.eval (.tmp r)=v at this;cases this;cases b<;>simp[execOp,ho,hv,asBool]
 ·cases b<;>simp[Op.operands,ho]
structure Mod (un:Nat->Prop) (E E':Env):Prop where
 get: ∀u,un u->E'.get u=E.get u
 aZ:E.aZ<=E'.aZ
 sG: ∀t v n cs,E'.get t= .loc v n cs->(∃kd,E.get t= .loc v n kd)\/E.aZ<=v
 uf: ∀t v l p,E'.get t= .it v l p->(∃p0,E.get t= .it v l p0)\/E.aZ<=v
theorem Mod.refl (un:Nat->Prop) (E:Env):Mod un E E:=⟨fun _ _=>rfl,ay _,fun _ _ _ cs h=> .inl ⟨cs,h⟩,fun _ _ _ p h=> .inl ⟨p,h⟩⟩
theorem Mod.trans {un Fc T5:Nat->Prop} {E E' Cd:Env} (h:Mod un E E') (k:Mod Fc E' Cd) (h1: ∀u,T5 u->un u) (h2: ∀u,T5 u->Fc u):Mod T5 E Cd:=by
 refine⟨fun u hu=>by rw[k.get u (h2 u hu),h.get u (h1 u hu)],fw h.aZ k.aZ,fun t v n cs e=>?_,fun t v l p e=>?_⟩
 ·rcases k.sG t v n cs e with⟨c,e⟩|e
  ·exact h.sG t v n c e
  ·exact .inr (fw h.aZ e)
 ·rcases k.uf t v l p e with⟨c,e⟩|e
  ·exact h.uf t v l c e
  ·exact .inr (fw h.aZ e)
def FM (ms:List Nat) (l:List (Oper×Md)) (u:Nat):Prop:=(∀p∈l,p.1.dst≠some u)/\has ms u=false
def Ww (P:Program) (pr:List Nat) (ops:List Oper) (p:Oper×Md):Prop:=p.2= .s\/∃x k m,p.2= .d (rB pr ops k m (cls P pr ops p.1)) x
theorem Zsl (hC:lZ C) {c:Zg} (hc:ZC C c) {ops:List Oper} {r:Out β×St} : ∀(n:Nat) (l:List (Oper×Md)) (act:List (Nat×Bool)) (E:Env) (K:Env->M β) (s:St),
  pG C pr ms c dst n l act E K s=some r->(∀p∈l,Ww C.P pr ops p)->
  (∀g∈act,(∃q,dst g.1=some q/\E.get q= .v (.bool g.2)/\∀p∈l,p.1.dst≠some q)/\∀p∈l,¬Spec pr p.1)->
  (∃E' s',Tr C dst pr ms l E s E' s'/\K E' s'=some r/\((∀p∈l,¬Spec pr p.1)->E'.aZ=E.aZ/\∀u,(∀p∈l,p.1.dst≠some u)->E'.get u=E.get u)/\Mod (FM ms l) E E')\/
  (∃s',r=(.cC,s')/\lq C dst pr ms l E s s'):=by
 intro n;induction n with
 |zero=>
  intro l act E K s h jh wQ;cases l with
  |nil=>exact .inl ⟨E,s,.nil E s,h,fun _=>⟨rfl,fun _ _=>rfl⟩,.refl _ _⟩
  |cons p l=>cases h
 |succ n ih=>
  intro l act E K s h jh wQ;cases l with
  |nil=>exact .inl ⟨E,s,.nil E s,h,fun _=>⟨rfl,fun _ _=>rfl⟩,.refl _ _⟩
  |cons p rest=>
   obtain⟨o,md⟩:=p;simp only[pG]at h;have gw: ∀ {E:Env} {o':Oper},(∀g∈act,∃q,dst g.1=some q/\E.get q= .v (.bool g.2))->Ka act o'.guard=true->GW dst E o':=by
    intro E o' ha hg;cases BA:o'.guard with
    |none=>exact .inl BA
    |some g=>
     rw[BA]at hg;obtain⟨q,h1,h2⟩:=ha g (ZtC hg);exact .inr ⟨g.1,g.2,q,BA,h1,h2⟩
   cases hg:Ka act o.guard with
   |true=>
    rw[hg]at h;simp only[cond_true]at h;have hgw:=gw (E:=E) (fun g hm=>let ⟨⟨q,h1,h2,_⟩,_⟩:=wQ g hm;⟨q,h1,h2⟩) hg;rcases P1 hC hc (jh (o,md) (by simp)) h with⟨E1,s1,hk,hF,hO⟩|⟨hx,s',rfl,hp⟩
    ·have Em:Step C dst pr ms (o,md) E s E1 s1:= .act hgw hF hO
     have gF: ¬Spec pr o->E1.aZ=E.aZ/\∀u,o.dst≠some u->E1.get u=E.get u:=by
      intro hs;rcases hF.plain with⟨e,_,rfl⟩|h
      ·exact⟨by simp,fun u hu=>by rw[Env.iQ,ax hu]⟩
      ·exact absurd h hs
     rcases ih rest act E1 K s1 hk (fun p hp=>jh p (by simp[hp])) (fun g hm=>by
      obtain⟨⟨q,h1,h2,h3⟩,h4⟩:=wQ g hm;exact⟨⟨q,h1,by rw[(gF (h4 (o,md) (by simp))).2 q (h3 (o,md) (by simp))];exact h2,fun p hp=>h3 p (by simp[hp])⟩,fun p hp=>h4 p (by simp[hp])⟩)with⟨E2,s2,t,gX,hn,Sf⟩|⟨s2,e,t⟩
     ·refine .inl ⟨E2,s2,.cons Em t,gX,fun hs=>?_,?_⟩
      rotate_left
      ·have m1:Mod (fun u=>o.dst≠some u/\has ms u=false) E E1:=⟨fun u hu=>hF.other u hu.1 hu.2,hF.aZ,fun t v n cs h=>(hF.sG t v n cs h).imp id And.left,fun t v l p h=>(hF.uf t v l p h).imp id And.left⟩
       exact m1.trans Sf (fun u hu=>⟨hu.1 (o,md) (by simp),hu.2⟩) (fun u hu=>⟨fun p hp=>hu.1 p (by simp[hp]),hu.2⟩)
      obtain⟨k1,k2⟩:=gF (hs (o,md) (by simp));obtain⟨n1,n2⟩:=hn fun p hp=>hs p (by simp[hp])
      exact⟨by rw[n1,k1],fun u hu=>by rw[n2 u fun p hp=>hu p (by simp[hp]),k2 u (hu (o,md) (by simp))]⟩
     ·exact .inr ⟨s2,e,.next Em t⟩
    ·exact .inr ⟨s',rfl,.here hgw hx hp⟩
   |false=>
    rw[hg]at h;simp only[cond_false]at h;cases BA:o.guard with
    |none=>rw[BA]at h;cases h
    |some g=>
     obtain⟨j,w⟩:=g;rw[BA]at h;simp only at h;cases hj:dst j with
     |none=>rw[hj]at h;cases h
     |some q=>
      rw[hj]at h;simp only at h;cases hq:E.get q with
      |v d=>
       cases d with
       |bool b=>
        rw[hq]at h;cases DL:yr q [] ((o,md)::rest)with
        |none=>rw[DL]at h;cases h
        |some x=>
         obtain⟨dB,pk,lK⟩:=x;rw[DL]at h;simp only at h;obtain⟨oN,y,z,hl,Sv⟩:=Zml DL;simp only[List.reverse_nil,fe]at hl;rw[Sv]at h;cases xi:pk.dst with
         |none=>rw[xi]at h;cases h
         |some t=>
          rw[xi]at h;simp only at h;obtain⟨dQ,h⟩:=Zp h;rw[aH]at dQ;obtain⟨K3,Vi⟩:=dQ;have yN:=IG Vi;rw[hl];rw[hl]at jh wQ;have after: ∀(E1:Env) (s1:St) (v:Bool),Tr C dst pr ms (dB++[(pk,oN)]) E s ((E.del (fy dB)).put t (.v (.bool v))) s1->
            pG C pr ms c dst n lK act ((E.del (fy dB)).put t (.v (.bool v))) K s1=some r->
            (∃E' s',Tr C dst pr ms (dB++(pk,oN)::lK) E s E' s'/\K E' s'=some r/\((∀p∈dB++(pk,oN)::lK,¬Spec pr p.1)->E'.aZ=E.aZ/\∀u,(∀p∈dB++(pk,oN)::lK,p.1.dst≠some u)->E'.get u=E.get u)/\Mod (FM ms (dB++(pk,oN)::lK)) E E')\/
            (∃s',r=(.cC,s')/\lq C dst pr ms (dB++(pk,oN)::lK) E s s'):=by
           intro E1 s1 v ht hr;have e:dB++(pk,oN)::lK=(dB++[(pk,oN)])++lK:=by simp
           have get: ∀u,(∀p∈dB++(pk,oN)::lK,p.1.dst≠some u)->((E.del (fy dB)).put t (.v (.bool v))).get u=E.get u:=by
            intro u hu;rw[Env.oD,ax (fun e=>hu (pk,oN) (by simp) (by rw[xi,e])),uI];have:has (fy dB) u=false:=by
             cases hh:has (fy dB) u with
             |false=>rfl
             |true=>
              obtain⟨p,hp,hd⟩:=AD.1 hh;exact absurd hd (hu p (by simp[hp]))
            rw[this];rfl
           rcases ih lK act _ K s1 hr (fun p hp=>jh p (by simp[hp])) (fun g hm=>by
            obtain⟨⟨q',h1,h2,h3⟩,h4⟩:=wQ g hm;exact⟨⟨q',h1,by rw[get q' h3];exact h2,fun p hp=>h3 p (by simp[hp])⟩,fun p hp=>h4 p (by simp[hp])⟩)with⟨E2,s2,t2,gX,hn,Sf⟩|⟨s2,e2,t2⟩
           ·refine .inl ⟨E2,s2,by rw[e];exact ht.append t2,gX,fun hs=>?_,?_⟩
            rotate_left
            ·have m1:Mod (fun u=>∀p∈dB++(pk,oN)::lK,p.1.dst≠some u) E ((E.del (fy dB)).put t (.v (.bool v))):=by
              refine⟨get,ay _,fun u v' n' cs e=>?_,fun u v' l' p e=>?_⟩<;>rw[Env.oD,uI]at e<;>split at e
              ·cases e
              ·split at e
               ·cases e
               ·exact .inl ⟨cs,e⟩
              ·cases e
              ·split at e
               ·cases e
               ·exact .inl ⟨p,e⟩
             exact m1.trans Sf (fun u hu=>hu.1) (fun u hu=>⟨fun p hp=>hu.1 p (by simp[hp]),hu.2⟩)
            obtain⟨n1,n2⟩:=hn fun p hp=>hs p (by simp[hp])
            exact⟨by rw[n1];rfl,fun u hu=>by rw[n2 u fun p hp=>hu p (by simp[hp]),get u hu]⟩
           ·exact .inr ⟨s2,e2,by rw[e];exact ht.cC t2⟩
          have nd: ∀u,(∀p∈dB++(pk,oN)::lK,p.1.dst≠some u)->has (fy dB) u=false:=by
           intro u hu;cases hh:has (fy dB) u with
           |false=>rfl
           |true=>
            obtain⟨p,hp,hd⟩:=AD.1 hh;exact absurd hd (hu p (by simp[hp]))
          have nq:has (fy dB) q=false:=by
           cases hh:has (fy dB) q with
           |false=>rfl
           |true=>
            obtain⟨p,hp,hd⟩:=AD.1 hh;exact absurd hd (yN p hp).2
          have jk: ∀(d:DV) (s1:St),(D.cons [d] fun d st=>D.bool d fun v=>D.nil st (pG C pr ms c dst n lK act ((E.del (fy dB)).put t (.v (.bool v))) K)) s1=some r->
            ∃v,d= .bool v/\pG C pr ms c dst n lK act ((E.del (fy dB)).put t (.v (.bool v))) K s1=some r:=by
           intro d s1 h;cases d with
           |bool v=>exact⟨v,rfl,h⟩
           |_=>cases h
          have Wf: ∀(v:Bool) u,((E.del (fy dB)).put t (.v (.bool v))).get u=if t=u then .v (.bool v)else if has (fy dB) u then .u else E.get u:=fun v u=>by rw[Env.oD,uI]
          simp only[M.Ls]at h;by_cases qU:b=w
          ·
           subst qU;have h':pG C pr ms c dst n dB ((j,b)::act) (E.put q (.v (.bool b))) (fun E1=>dZ C E1 (bif b then y else z) fun d=>D.cons [d] fun d st=>D.bool d fun v=>D.nil st (pG C pr ms c dst n lK act ((E.del (fy dB)).put t (.v (.bool v))) K)) s=some r:=by
            cases b<;>exact h
           have EN: ∀u,(E.put q (.v (.bool b))).get u=E.get u:=fun u=>by
            rw[Env.oD];split
            ·rename_i e;subst e;exact hq.symm
            ·rfl
           have cj:j8 E (E.put q (.v (.bool b))):=⟨rfl,fun u=> .inl (EN u)⟩;rcases ih dB ((j,b)::act) _ _ s h' (fun p hp=>jh p (by simp[hp])) (fun g hm=>by
            refine⟨?_,fun p hp=>(yN p hp).1⟩;rcases bX.1 hm with rfl|hm
            ·exact⟨q,hj,by rw[EN];exact hq,fun p hp=>(yN p hp).2⟩
            ·obtain⟨⟨q',h1,h2,h3⟩,_⟩:=wQ g hm
             exact⟨q',h1,by rw[EN];exact h2,fun p hp=>h3 p (by simp[hp])⟩)with⟨E1,s1,t1,ig,oK,_⟩|⟨s1,e1,t1⟩
           ·obtain⟨n1,n2⟩:=oK fun p hp=>(yN p hp).1
            obtain⟨d,hd,ig⟩:=Zs ig;obtain⟨v,rfl,ig⟩:=jk d s1 ig;have Ef:E1.get q= .v (.bool b):=by rw[n2 q fun p hp=>(yN p hp).2,EN];exact hq
            have Ut: ∀u,has (fy dB) u=false->E1.get u=E.get u:=fun u hu=>by
             rw[n2 u (fun p hp hd=>by rw[AD.2 ⟨p,hp,hd⟩]at hu;cases hu),EN]
            have bB:=Zr7 (C:=C) (pr:=pr) (ms:=ms) (md:=oN) (s:=s1) Sv Ef (gw (E:=E1) (fun g hm=>by
             obtain⟨⟨q',h1,h2,h3⟩,_⟩:=wQ g hm;exact⟨q',h1,by rw[Ut q' (nd q' h3)];exact h2⟩) K3)
            have SH:E1.src C (if b then y else z)= .v (.bool v):=by cases b<;>exact hd
            rw[SH,xi]at bB;have fU:j8 (E1.dN (some t) (.v (.bool v))) ((E.del (fy dB)).put t (.v (.bool v))):=by
             refine⟨by rw[Env.BM,n1];rfl,fun u=>?_⟩;rw[Wf,Env.iQ];by_cases e:t=u
             ·subst e;simp
             ·rw[ax e,ax (fun h=>e (sP h))]
              cases hu:has (fy dB) u with
              |true=>exact .inr rfl
              |false=>exact .inl (Ut u hu).symm
            exact after E1 s1 v (.gC cj (t1.append (.cons bB (.gC fU (.nil _ _))))) ig
           ·exact .inr ⟨s1,e1,.gC cj (t1.left _)⟩
          ·
           have h':dZ C ((E.del (fy dB)).put q (.v (.bool !w))) (bif w then z else y) (fun d=>D.cons [d] fun d st=>D.bool d fun v=>D.nil st (pG C pr ms c dst n lK act ((E.del (fy dB)).put t (.v (.bool v))) K)) s=some r:=by
            cases w<;>cases b<;>first|exact h|exact absurd rfl qU
           obtain⟨d,hd,ig⟩:=Zs h';obtain⟨v,rfl,ig⟩:=jk d s ig;obtain⟨E1,t1,t2,t3⟩:=P5 (C:=C) (pr:=pr) (ms:=ms) hj qU (s:=s) Vi hq (fun d h=>by cases h);have Ef:E1.get q= .v (.bool b):=by rw[t3 q nq];exact hq
           have bB:=Zr7 (C:=C) (pr:=pr) (ms:=ms) (md:=oN) (s:=s) Sv Ef (gw (E:=E1) (fun g hm=>by
            obtain⟨⟨q',h1,h2,h3⟩,_⟩:=wQ g hm;exact⟨q',h1,by rw[t3 q' (nd q' h3)];exact h2⟩) K3)
           have UE:b= !w:=by cases w<;>cases b<;>first|rfl|exact absurd rfl qU
           have SH:E1.src C (if b then y else z)= .v (.bool v):=by
            have hx:(if b then y else z)=(bif w then z else y):=by subst UE;cases w<;>rfl
            rw[hx,<-hd];generalize (bif w then z else y)=x at hd;cases x with
            |tmp u=>
             have hg:E1.get u=((E.del (fy dB)).put q (.v (.bool !w))).get u:=by
              rw[Env.oD,uI];by_cases e:q=u
              ·subst e;rw[aG rfl,Ef,UE]
              ·rw[ax e]
               cases hu:has (fy dB) u with
               |false=>exact t3 u hu
               |true=>
                simp only[Env.src,Env.oD,uI,ax e,hu,iM]at hd;cases hd
             simp only[Env.src,hg]
            |_=>rfl
           rw[SH,xi]at bB;have fU:j8 (E1.dN (some t) (.v (.bool v))) ((E.del (fy dB)).put t (.v (.bool v))):=by
            refine⟨by rw[Env.BM,t2];rfl,fun u=>?_⟩;rw[Wf,Env.iQ];by_cases e:t=u
            ·subst e;simp
            ·rw[ax e,ax (fun h=>e (sP h))]
             cases hu:has (fy dB) u with
             |true=>exact .inr rfl
             |false=>exact .inl (t3 u hu).symm
           exact after E1 s v (t1.append (.cons bB (.gC fU (.nil _ _)))) ig
       |_=>rw[hq]at h;cases h
      |_=>rw[hq]at h;cases h
end
end Go.Gv
namespace Go.Gv
structure Fr where
 N:Nat
 nt:Nat
 gq:Ps
 s0:St
 w0:World
 ok:Nat->Bool
 EK: ∀x,ok x=true->x<nt
 kv:Nat->Value
 QR:List Deferred
def Ks (f:Fr) (a:Act):Prop:=a.tmps.size=f.nt/\∀t,f.ok t=false->a.tmps.getD t undef=f.kv t
structure Rel (C:aP) (f:Fr) (ψ:Ps) (E:Env) (s:St) (a:Act) (w:World):Prop where
 dH:dU C ψ (CR E s) w
 fA:gW E
 fh:oi ψ w
 jd:Glob C ψ
 iu: ∀t,eB C ψ (E.get t) (a.tmps.getD t undef)
 kV:Ks f a
 defs:a.defers=f.QR
 oV: ∀i,s.length<=i->i<f.N->ψ (.inl i)=none
 rC: ∀v,E.aZ<=v->ψ (.inr v)=none
 ext:Ext f.gq (CS f.s0) f.w0 ψ (CR E s) w
 news: ∀i cb,ψ (.inl i)=some cb->f.gq (.inl i)=some cb\/(f.s0.length<=i/\i<s.length)
 len:f.s0.length<=s.length
 fin: ∀v,f.gq (.inr v)=none
section
variable {C:aP} {f:Fr} {ψ ψ':Ps} {E E':Env} {s s':St} {a:Act} {w w':World} {Q':Kn} {o:Oper} {D W:cB->Prop} {pr ms:List Nat}
theorem gW.gC (h:gW E) (k:j8 E E'):gW E':=by
 have g: ∀t x,E'.get t=x->x≠ .u->E.get t=x:=fun t x e hx=>by
  rcases k.get t with h|h
  ·rw[<-h];exact e
  ·rw[h]at e;exact absurd e.symm hx
 constructor
 ·intro t v hv
  rw[k.aZ];rcases k.get t with e|e
  ·rw[e]at hv;exact h.lt t v hv
  ·rw[e]at hv;cases hv
 ·intro t r v n e
  rw[k.aZ];exact h.pl t r v n (g t _ e (by simp))
 ·intro t v n cs e
  exact h.len t v n cs (g t _ e (by simp))
 ·intro t t' v hv cQ
  rcases k.get t with e|e
  ·rcases k.get t' with e'|e'
   ·rw[e]at hv;rw[e']at cQ;exact h.uniq t t' v hv cQ
   ·rw[e']at cQ;cases cQ
  ·rw[e]at hv;cases hv
theorem CR.gC (k:j8 E E') {h:cB} {ab:AB} (c:CR E' s h ab):CR E s h ab:=by
 have g: ∀t x,E'.get t=x->x≠ .u->E.get t=x:=fun t x e hx=>by
  rcases k.get t with h|h
  ·rw[<-h];exact e
  ·rw[h]at e;exact absurd e.symm hx
 cases h with
 |inl i=>exact c
 |inr v=>
  rcases c with⟨t,n,cs,e,dc⟩|⟨t,l,p,e,dc⟩
  ·exact .inl ⟨t,n,cs,g t _ e (by simp),dc⟩
  ·exact .inr ⟨t,l,p,g t _ e (by simp),dc⟩
theorem Rel.gC (R:Rel C f ψ E s a w) (k:j8 E E'):Rel C f ψ E' s a w where
 dH:=R.dH.weaken fun _ _ _ _ c=>c.gC k
 fA:=R.fA.gC k
 fh:=R.fh
 jd:=R.jd
 iu:=fun t=>by
  rcases k.get t with e|e
  ·rw[e];exact R.iu t
  ·rw[e];exact trivial
 kV:=R.kV
 defs:=R.defs
 oV:=R.oV
 rC:=fun v hv=>R.rC v (by rw[<-k.aZ];exact hv)
 ext:=R.ext.weaken fun _ _ _ _ c=>c.gC k
 news:=R.news
 len:=R.len
 fin:=R.fin
theorem M0 (a:Act) (d:Option Nat) (v:Value):(a.put d v).tmps.size=a.tmps.size:=by cases d<;>simp[Act.put]
theorem IB (a:Act) (d:Option Nat) (v:Value):(a.put d v).defers=a.defers:=by cases d<;>rfl
theorem C3 {a:Act} {d:Option Nat} {v:Value} {t:Nat} (hd: ∀x,d=some x->x<a.tmps.size):(a.put d v).tmps.getD t undef=if d=some t then v else a.tmps.getD t undef:=by
 cases d with
 |none=>simp[Act.put]
 |some x=>
  simp only[Act.put,cX,mn];by_cases e:x=t
  ·subst e
   rw[aG rfl,zL (hd x rfl)];rfl
  ·rw[ax e,xP e]
theorem Ks.put (h:Ks f a) {d:Option Nat} {v:Value} (hd: ∀x,d=some x->f.ok x=true):Ks f (a.put d v):=by
 refine⟨by rw[M0];exact h.1,fun t ht=>?_⟩;rw[C3 fun x hx=>by rw[h.1];exact f.EK x (hd x hx),ax fun e=>by rw[hd t e]at ht;cases ht];exact h.2 t ht
theorem Rel.room (R:Rel C f ψ E s a w) (hN:s'.length<=f.N):FK E s E' s' ψ:=by
 rintro h ⟨n1,n2⟩;cases h with
 |inl i=>exact R.oV i (ur.1 n1) (jH n2 hN)
 |inr v=>exact R.rC v (ur.1 n1)
theorem Rel.pre (R:Rel C f ψ E s a w):ar C o D E s ψ (CR E s) a w:=⟨R.dH,R.fh,R.jd,R.fA,fun _ _ _ _ c _=>c,fun t _=>R.iu t⟩
theorem Rel.step (R:Rel C f ψ E s a w) (hF:j7 W pr ms o E s E' s') (hP:FI C D W E s E' s' ψ (CR E s) w ψ' Q' w') {v:Value} (he: ∀d,o.dst=some d->eB C ψ' (E'.get d) v) (hd: ∀x,o.dst=some x->f.ok x=true):
  Rel C f ψ' E' s' (a.put o.dst v) w':=by
 have known: ∀h ab cb,ψ' h=some cb->CR E' s' h ab->Q' h ab:=by
  intro h ab cb e c;by_cases hw:W h\/sQ E s E' s' h
  ·exact hP.p1 h ab cb c hw e
  ·have c':CR E s h ab:=by
    rcases hF.back h ab c with x|x|x
    ·exact absurd (.inl x) hw
    ·exact absurd (.inr x) hw
    ·exact x
   rcases hP.news h cb e with e|e
   ·exact hP.p2 h ab cb e c' (fun x=>hw (.inl x)) (fun _ _=>c')
   ·exact absurd (.inr e) hw
 refine⟨hP.dH.weaken known,hF.fA R.fA,hP.ext.fh R.fh,hP.ext.jd R.jd,fun t=>?_,R.kV.put hd,by rw[IB];exact R.defs,fun i h1 h2=>?_,fun v h1=>?_,R.ext.trans (hP.ext.weaken known),fun i cb e=>?_,fw R.len hF.len,R.fin⟩
 ·rw[C3 fun x hx=>by rw[R.kV.1];exact f.EK x (hd x hx)]
  by_cases e:o.dst=some t
  ·rw[aG e];exact he t e
  ·rw[ax e];exact(hF.bI t e C ψ _ (R.iu t)).mono hP.ext.mono
 ·cases e:ψ' (.inl i)with
  |none=>rfl
  |some cb=>
   rcases hP.news _ cb e with e|⟨_,e⟩
   ·rw[R.oV i (fw hF.len h1) h2]at e;cases e
   ·simp only[cS]at e;omega
 ·cases e:ψ' (.inr v)with
  |none=>rfl
  |some cb=>
   rcases hP.news _ cb e with e|⟨_,e⟩
   ·rw[R.rC v (fw hF.aZ h1)]at e;cases e
   ·simp only[cS]at e;omega
 ·rcases hP.news _ cb e with e|⟨n1,n2⟩
  ·rcases R.news i cb e with h|⟨h1,h2⟩
   ·exact .inl h
   ·exact .inr ⟨h1,jH h2 hF.len⟩
  ·exact .inr ⟨fw R.len (ur.1 n1),n2⟩
structure oo (C:aP) (f:Fr) (s:St) (a:Act) (w:World):Prop where
 defs:a.defers=f.QR
 ks:Ks f a
 post: ∃ψ',hZ C f.gq f.s0 f.w0 ψ' s w
theorem Zxr (b:Bool):undef≠Value.bool b:=by unfold undef;simp
theorem Jt (a:Act) (r:Nat) (b:Bool) (h:a.tmps.getD r undef= .bool b):a.tmps[r]? =some (.bool b):=by
 rw[mn]at h;cases e:a.tmps[r]? with
 |none=>rw[e]at h;exact absurd h (Zxr b)
 |some v=>rw[e]at h;simp only[sO]at h;rw[h]
def kI (ops:Array Oper) (j:Nat):Option Nat:=match ops.toList[j]? with|some o=>o.dst|none=>none
theorem Jn (ops:Array Oper) (j:Nat):kI ops j=(ops[j]?).bind (·.dst):=by
 unfold kI;rw[gK];cases ops[j]? <;>rfl
theorem Og {ops:Array Oper} (R: ∀t,eB C ψ (E.get t) (a.tmps.getD t undef)) (h:GW (kI ops) E o):Region.wanted o (yielded ops a.tmps)=true:=by
 unfold Region.wanted;rcases h with h|⟨j,w,r,h1,h2,h3⟩
 ·rw[h]
 ·rw[h1]
  rw[Jn]at h2;have hr:=R r;rw[h3]at hr;have:a.tmps.getD r undef= .bool w:=by generalize a.tmps.getD r undef=x at hr;cases hr;rfl
  simp[yielded,h2,Jt a r w this]
theorem Zn9 {ops:Array Oper} (R: ∀t,eB C ψ (E.get t) (a.tmps.getD t undef)) (h:GU (kI ops) E o):Region.wanted o (yielded ops a.tmps)=false:=by
 unfold Region.wanted;obtain⟨j,w,r,h1,h2,h3⟩:=h;rw[h1];rw[Jn]at h2;have hr:=R r;rcases h3 with⟨b,h3,hb⟩|h3
 ·rw[h3]at hr
  have:a.tmps.getD r undef= .bool b:=by generalize a.tmps.getD r undef=x at hr;cases hr;rfl
  simp[yielded,h2,Jt a r b this,hb]
 ·rw[h3]at hr
  have hr:a.tmps.getD r undef=undef:=hr;have:a.tmps[r]? =none\/a.tmps[r]? =some undef:=by
   rw[mn]at hr;cases e:a.tmps[r]? with
   |none=>exact .inl rfl
   |some v=>rw[e]at hr;simp only[sO]at hr;rw[hr];exact .inr rfl
  have hy:yielded ops a.tmps j=none:=by
   unfold yielded;rw[h2];rcases this with e|e<;>simp[e,undef]
  simp[hy]
theorem Rel.undef (R:Rel C f ψ E s a w) (hd: ∀x,o.dst=some x->f.ok x=true):Rel C f ψ (E.dN o.dst .un) s (a.put o.dst Go.undef) w:=by
 have KG: ∀h ab,CR (E.dN o.dst .un) s h ab->CR E s h ab:=fun h ab c=>c.dN rfl
 refine⟨R.dH.weaken fun _ _ _ _ c=>KG _ _ c,R.fA.dN rfl (fun _ _ _ h=>by cases h),R.fh,R.jd,fun t=>?_,R.kV.put hd,by rw[IB];exact R.defs,R.oV,fun v hv=>R.rC v (by simpa using hv),R.ext.weaken fun _ _ _ _ c=>KG _ _ c,R.news,R.len,R.fin⟩;rw[C3 fun x hx=>by rw[R.kV.1];exact f.EK x (hd x hx),Env.iQ];by_cases e:o.dst=some t
 ·rw[aG e,aG e];rfl
 ·rw[ax e,ax e];exact R.iu t
theorem uQ {ψ':Ps} {Q':Kn} {w':World} {s':St} (wV: ∀v,f.gq (.inr v)=none) (vx:dU C ψ' Q' w') (qY:Ext f.gq (CS f.s0) f.w0 ψ' Q' w')
  (hk: ∀i ab cb,cq s' i=some ab->ψ' (.inl i)=some cb->Q' (.inl i) ab) (XR: ∀i cb,ψ' (.inl i)=some cb->f.gq (.inl i)=some cb\/(f.s0.length<=i/\i<s'.length)):
  hZ C f.gq f.s0 f.w0 (kN ψ') s' w':=by
 have LK: ∀b,qA (kN ψ') (CS s') b->qA ψ' Q' b:=by
  rintro b ⟨k,cb,ab,e,⟨i,rfl,q⟩,hs,hb⟩;exact⟨.inl i,cb,ab,e,hk i ab cb q e,hs,hb⟩
 refine⟨ZtY vx hk,⟨fun h cb e=>?_,fun h cb e=>qY.oS h cb (Au e).1,qY.size,qY.gF,fun b hb=>qY.fE b (LK b hb),fun h cb x e q=>?_,qY.tape,qY.os,qY.output⟩,fun h cb e=>?_⟩
 ·cases h with
  |inl i=>exact qY.mono _ _ e
  |inr v=>rw[wV]at e;cases e
 ·obtain⟨i,rfl,q⟩:=q
  exact qY.live (.inl i) cb x e (hk i x cb q (qY.mono _ _ e))
 ·obtain⟨e,i,rfl⟩:=Au e
  rcases XR i cb e with h|⟨h1,h2⟩
  ·exact .inl h
  ·exact .inr ⟨i,rfl,h1,h2⟩
theorem Rel.uQ (R:Rel C f ψ E s a w):hZ C f.gq f.s0 f.w0 (kN ψ) s w:=
 Go.Gv.uQ R.fin R.dH R.ext (fun _ _ _ h _=>h) R.news
theorem Tr.len {dst:Nat->Option Nat} {l:List (Oper×Md)} (h:Tr C dst pr ms l E s E' s'):s.length<=s'.length:=by
 induction h with
 |nil=>exact ay _
 |gC _ _ ih=>exact ih
 |cons st _ ih=>
  refine fw ?_ ih;cases st with
  |act _ hF _=>exact hF.len
  |skip _=>exact ay _
theorem lq.len {dst:Nat->Option Nat} {l:List (Oper×Md)} (h:lq C dst pr ms l E s s'):s.length<=s'.length:=by
 induction h with
 |gC _ _ ih=>exact ih
 |here _ _ hp=>exact hp.1
 |next st _ ih=>
  refine fw ?_ ih;cases st with
  |act _ hF _=>exact hF.len
  |skip _=>exact ay _
theorem Rel.V4 (R:Rel C f ψ E s a w) (hN:s'.length<=f.N) (hp:sR C o D E s s') {next:Act->World->Prop} {QQ:Exit->Act->World->Prop} (h: ∀ch a' w',l8 ch->oo C f s' a' w'->QQ (.panic ch) a' w'):o.wp C.P a w next QQ:=by
 refine hp.2 ψ (CR E s) a w next QQ R.pre (R.room hN) fun ψ' Q' ch w' h0 h1 h2 h3 h4=>h ch a w' h0 ⟨R.defs,R.kV,_,Go.Gv.uQ (s':=s') R.fin h1 (R.ext.trans h2) h4 fun i cb e=>?_⟩
 rcases h3 _ cb e with e|⟨n1,n2⟩
 ·rcases R.news i cb e with h|⟨h1,h2⟩
  ·exact .inl h
  ·exact .inr ⟨h1,jH h2 hp.1⟩
 ·exact .inr ⟨fw R.len (ur.1 n1),n2⟩
theorem Zz0 {ops:Array Oper} {QQ:Exit->Act->World->Prop} {l:List (Oper×Md)} {E2:Env} {s2:St} (t:Tr C (kI ops) pr ms l E s E2 s2): ∀ {i:Nat} {a:Act} {w:World} {ψ:Ps},Rel C f ψ E s a w->s2.length<=f.N->
  (∀p∈l,∀x,p.1.dst=some x->f.ok x=true)->(∀k p,l[k]? =some p->ops[i+k]? =some p.1)->(∀ψ' a' w',Rel C f ψ' E2 s2 a' w'->QQ .normal a' w')->wpOps C.P ops QQ (List.range' i l.length) a w:=by
 induction t with
 |nil=>intro i a w ψ R _ _ _ h;exact h ψ a w R
 |gC k _ ih=>intro i a w ψ R hN hd hi h;exact ih (R.gC k) hN hd hi h
 |cons st t ih=>
  rename_i p l E s E1 s1 E2 s2;intro i a w ψ R hN hd hi h;have sh:=hi 0 p rfl;simp only[dG]at sh;have rest: ∀ {gr a1 w1},Rel C f gr E1 s1 a1 w1->wpOps C.P ops QQ (List.range' (i+1) l.length) a1 w1:=fun R1=>
   ih R1 hN (fun q hq=>hd q (by simp[hq])) (fun k q hk=>by have:=hi (k+1) q (by simpa using hk);rwa [show i+(k+1)=i+1+k by omega]at this) h
  simp only[dF,B2,wpOps,sh];cases st with
  |act hg hF hO=>
   rw[aG (Og R.iu hg)];exact .inl (hO ψ (CR E s) a w _ QQ R.pre (R.room (fw t.len hN)) fun ψ' Q' v w' hP he=>rest (R.step hF hP he (hd p (by simp))))
  |skip hg=>
   rw[ax (by rw[Zn9 R.iu hg];simp)];exact rest (R.undef (hd p (by simp)))
theorem ZyG {ops:Array Oper} {QQ:Exit->Act->World->Prop} {l:List (Oper×Md)} {s2:St} (t:lq C (kI ops) pr ms l E s s2): ∀ {i:Nat} {a:Act} {w:World} {ψ:Ps},Rel C f ψ E s a w->s2.length<=f.N->
  (∀p∈l,∀x,p.1.dst=some x->f.ok x=true)->(∀k p,l[k]? =some p->ops[i+k]? =some p.1)->(∀ch a' w',l8 ch->oo C f s2 a' w'->QQ (.panic ch) a' w')->wpOps C.P ops QQ (List.range' i l.length) a w:=by
 induction t with
 |gC k _ ih=>intro i a w ψ R hN hd hi h;exact ih (R.gC k) hN hd hi h
 |here hg hx hp=>
  rename_i p l E s s2;intro i a w ψ R hN hd hi h;have sh:=hi 0 p rfl;simp only[dG]at sh;simp only[dF,B2,wpOps,sh];rw[aG (Og R.iu hg)];exact .inl (R.V4 hN hp h)
 |next st t ih=>
  rename_i p l E s E1 s1 s2;intro i a w ψ R hN hd hi h;have sh:=hi 0 p rfl;simp only[dG]at sh;have rest: ∀ {gr a1 w1},Rel C f gr E1 s1 a1 w1->wpOps C.P ops QQ (List.range' (i+1) l.length) a1 w1:=fun R1=>
   ih R1 hN (fun q hq=>hd q (by simp[hq])) (fun k q hk=>by have:=hi (k+1) q (by simpa using hk);rwa [show i+(k+1)=i+1+k by omega]at this) h
  simp only[dF,B2,wpOps,sh];cases st with
  |act hg hF hO=>
   rw[aG (Og R.iu hg)];exact .inl (hO ψ (CR E s) a w _ QQ R.pre (R.room (fw t.len hN)) fun ψ' Q' v w' hP he=>rest (R.step hF hP he (hd p (by simp))))
  |skip hg=>
   rw[ax (by rw[Zn9 R.iu hg];simp)];exact rest (R.undef (hd p (by simp)))
end
end Go.Gv
namespace Go.Gv
theorem j8.refl (E:Env):j8 E E:=⟨rfl,fun _=> .inl rfl⟩
theorem j8.trans {E E' Cd:Env} (h:j8 E E') (k:j8 E' Cd):j8 E Cd:=by
 refine⟨k.aZ.trans h.aZ,fun t=>?_⟩;rcases k.get t with e|e
 ·rcases h.get t with e'|e'
  ·exact .inl (e.trans e')
  ·exact .inr (e.trans e')
 ·exact .inr e
section
variable {C:aP} {dst:Nat->Option Nat} {pr ms:List Nat}
theorem Tr.fn {l:List (Oper×Md)} {E E2:Env} {s s2:St} (h:Tr C dst pr ms l E s E2 s2):
  ∃(A B:Nat->Env) (ss:Nat->St),A 0=E/\ss 0=s/\ss l.length=s2/\j8 (A l.length) E2/\
   ∀k p,l[k]? =some p->j8 (A k) (B k)/\Step C dst pr ms p (B k) (ss k) (A (k+1)) (ss (k+1)):=by
 induction h with
 |nil E s=>exact⟨fun _=>E,fun _=>E,fun _=>s,rfl,rfl,rfl,.refl E,fun k p h=>by simp at h⟩
 | @gC l E E1 s E2 s2 k _ ih=>
  obtain⟨A,B,ss,h1,h2,h3,h4,h5⟩:=ih;cases l with
  |nil=>
   refine⟨fun _=>E,B,ss,rfl,h2,h3,?_,fun k p h=>by simp at h⟩;simp only[uk]at h4;rw[h1]at h4;exact k.trans h4
  |cons p l=>
   refine⟨fun i=>if i=0 then E else A i,B,ss,rfl,h2,h3,by simpa using h4,fun i q hq=>?_⟩;obtain⟨a,b⟩:=h5 i q hq;refine⟨?_,by simpa using b⟩;by_cases hi:i=0
   ·subst hi
    simp only[iM];rw[h1]at a;exact k.trans a
   ·simp only[hi,iY];exact a
 | @cons p l E s E1 s1 E2 s2 st _ ih=>
  obtain⟨A,B,ss,h1,h2,h3,h4,h5⟩:=ih;refine⟨fun i=>match i with|0=>E|i+1=>A i,fun i=>match i with|0=>E|i+1=>B i,fun i=>match i with|0=>s|i+1=>ss i,rfl,rfl,h3,h4,fun i q hq=>?_⟩;cases i with
  |zero=>
   simp only[gV,cX]at hq;subst hq;refine⟨.refl E,?_⟩;simp only[h1,h2];exact st
  |succ i=>exact h5 i q (by simpa using hq)
end
theorem ZzI {o:Oper} {acc:List Nat} {j:Nat} (h:(A0 o acc).testBit j=true): ∃e∈o.after,Region.binds .any e=true/\(j=e.on\/(acc.getD e.on 0).testBit j=true):=by
 unfold A0 at h;have key: ∀(l:List Edge) (m:Nat),(l.foldl (fun m e=>bif Region.binds .any e then m|||2^e.on|||acc.getD e.on 0 else m) m).testBit j=true->
   m.testBit j=true\/∃e∈l,Region.binds .any e=true/\(j=e.on\/(acc.getD e.on 0).testBit j=true):=by
  intro l;induction l with
  |nil=>exact fun m h=> .inl h
  |cons e l ih=>
   intro m h;simp only[zR]at h;rcases ih _ h with h|⟨e',he,h⟩
   ·cases hb:Region.binds .any e with
    |false=>rw[hb]at h;exact .inl h
    |true=>
     rw[hb]at h;simp only[cond_true,vV,jD,Nat.testBit_two_pow,j4]at h;rcases h with(h|h)|h
     ·exact .inl h
     ·exact .inr ⟨e,by simp,hb,.inl h.symm⟩
     ·exact .inr ⟨e,by simp,hb,.inr h⟩
   ·exact .inr ⟨e',by simp[he],h⟩
 rcases key _ 0 h with h|⟨e,he,h⟩
 ·simp at h
 ·exact⟨e,by simpa using he,h⟩
theorem Pt (P:Program) (pr:List Nat) (ops:List Oper): ∀(r:List Oper) (acc:List Nat) (k:Nat) (p:fg),(nU P pr ops r acc)[k]? =some p->
  ∃o,r[k]? =some o/\p.bf=A0 o (acc++((nU P pr ops r acc).take k).map (·.bf))/\p.k=rB pr ops (acc.length+k) p.bf (cls P pr ops o)/\p.dst=o.dst/\p.lk=nT pr ops o
 |[],acc,k,p,h=>by simp[nU]at h
 |o::r,acc,0,p,h=>by
  simp only[nU,gV,cX]at h;subst h;exact⟨o,rfl,by simp,rfl,rfl,rfl⟩
 |o::r,acc,k+1,p,h=>by
  simp only[nU,mq]at h;obtain⟨o',h1,h2,h3,h4⟩:=Pt P pr ops r _ k p h;refine⟨o',by simpa using h1,?_,?_,h4⟩
  ·rw[h2]
   simp[nU]
  ·rw[h3,bg,rG,show acc.length+1+k=acc.length+(k+1) by omega]
theorem Il (P:Program) (pr:List Nat) (ops:List Oper): ∀(r:List Oper) (acc:List Nat),(nU P pr ops r acc).length=r.length
 |[],_=>rfl
 |o::r,acc=>by simp[nU,Il P pr ops r]
def LV (p q:fg):Prop:=Qo p.k q.k=false/\J0 p.dst q.lk=false/\J0 q.dst p.lk=false/\QS p.dst q.dst=false
theorem Zpl {i:Nat} {p:fg} : ∀ {l:List fg},JU i p l=true->∀(k:Nat) (q:fg),l[k]? =some q->q.bf.testBit i=true\/LV p q
 |[],_,k,q,h=>by simp at h
 |x::l,h,k,q,hq=>by
  simp only[JU,aH]at h;cases k with
  |zero=>
   simp only[gV,cX]at hq;subst hq;have h1:=h.1;rw[jD]at h1;refine h1.imp id fun h1=>?_
   simp only[aH,hJ]at h1;exact⟨h1.1.1.1,h1.1.1.2,h1.1.2,h1.2⟩
  |succ k=>exact Zpl h.2 k q (by simpa using hq)
theorem Jf: ∀ {i:Nat} {l:List fg} {os:List Oper},zs i l os=true->∀(k:Nat) (p:fg),l[k]? =some p->
  p.bf<2^(i+k)/\(∃o,os[k]? =some o/\∀j w,o.guard=some (j,w)->p.bf.testBit j=true)/\∀(m:Nat) (q:fg),k<m->l[m]? =some q->q.bf.testBit (i+k)=true\/LV p q
 |i,[],os,_,k,p,hp=>by simp at hp
 |i,_::_,[],h,k,p,hp=>by cases h
 |i,x::l,o::os,h,k,p,hp=>by
  simp only[zs,aH]at h;obtain⟨⟨⟨h1,h2⟩,h3⟩,h4⟩:=h;cases k with
  |zero=>
   simp only[gV,cX]at hp;subst hp;refine⟨by rw[lV]at h1;exact h1,⟨o,rfl,fun j w hg=>by rw[hg]at h2;exact h2⟩,fun m q hm hq=>?_⟩;obtain⟨m',rfl⟩: ∃m',m=m'+1:=⟨m-1,by omega⟩;exact Zpl h3 m' q (by simpa using hq)
  |succ k=>
   obtain⟨a,⟨o',b1,b2⟩,c⟩:=Jf h4 k p (by simpa using hp);refine⟨by rw[show i+(k+1)=i+1+k by omega];exact a,⟨o',by simpa using b1,b2⟩,fun m q hm hq=>?_⟩;obtain⟨m',rfl⟩: ∃m',m=m'+1:=⟨m-1,by omega⟩;rw[show i+(k+1)=i+1+k by omega];exact c m' q (by omega) (by simpa using hq)
theorem ZAo {o:Oper} {acc:List Nat} {e:Edge} (he:e∈o.after) (hb:Region.binds .any e=true):(A0 o acc).testBit e.on=true:=by
 unfold A0;have mono: ∀(l:List Edge) (m:Nat),m.testBit e.on=true->(l.foldl (fun m e=>bif Region.binds .any e then m|||2^e.on|||acc.getD e.on 0 else m) m).testBit e.on=true:=by
  intro l;induction l with
  |nil=>exact fun m h=>h
  |cons x l ih=>
   intro m h;simp only[zR];refine ih _ ?_;cases Region.binds .any x with
   |false=>exact h
   |true=>simp only[cond_true,vV,h,ui]
 have key: ∀(l:List Edge) (m:Nat),e∈l->(l.foldl (fun m e=>bif Region.binds .any e then m|||2^e.on|||acc.getD e.on 0 else m) m).testBit e.on=true:=by
  intro l;induction l with
  |nil=>intro m h;cases h
  |cons x l ih=>
   intro m h;simp only[zR];cases h with
   |head=>
    refine mono l _ ?_;rw[hb];simp[vV]
   |tail _ h=>exact ih _ h
 exact key _ 0 (by simpa using he)
theorem IX {mp:Nat->Bool} : ∀(all:List fg) (i:Nat) (is:List fg) (os:List Oper) (k:Nat) (p:Oper×Md),(flags mp all i is os)[k]? =some p->
  ∃q o,is[k]? =some q/\os[k]? =some o/\
   p=(o,.d q.k (bif pE (i+k) q.bf (fun _=>true) 0 all then(bif LA mp o&& !uE (i+k) q.bf 0 all then 0 else(match q.k with| .call=>(bif pE (i+k) q.bf zl 0 all then 2 else 1)|_=>1))else 0))
 |all,i,[],os,k,p,h=>by cases os<;>simp[flags]at h
 |all,i,_::_,[],k,p,h=>by simp[flags]at h
 |all,i,q::r,o::os,0,p,h=>by
  simp only[flags,gV,cX]at h;exact⟨q,o,rfl,rfl,h.symm⟩
 |all,i,q::r,o::os,k+1,p,h=>by
  simp only[flags,mq]at h;obtain⟨q',o',h1,h2,h3⟩:=IX all (i+1) r os k p h;refine⟨q',o',by simpa using h1,by simpa using h2,?_⟩;rw[h3,show i+1+k=i+(k+1) by omega]
theorem HY {mp:Nat->Bool} : ∀(all:List fg) (i:Nat) (is:List fg) (os:List Oper),is.length=os.length->(flags mp all i is os).length=os.length
 |_,_,[],[],_=>rfl
 |all,i,_::r,_::os,h=>by simp only[flags,dF];rw[HY all (i+1) r os (by simpa using h)]
 |_,_,[],_::_,h=>by simp at h
 |_,_,_::_,[],h=>by simp at h
theorem ZrT {i bi:Nat} {f:jI->Bool} : ∀ {r:List fg} {j0 j:Nat} {q:fg},r[j]? =some q->i≠j0+j->q.bf.testBit i=false->bi.testBit (j0+j)=false->f q.k=true->pE i bi f j0 r=true
 |[],j0,j,q,h,_,_,_,_=>by simp at h
 |x::r,j0,0,q,h,h1,h2,h3,h4=>by
  simp only[gV,cX]at h;subst h;simp only[dG]at h1 h3;have:Nat.beq i j0=false:=by
   cases e:Nat.beq i j0 with
   |false=>rfl
   |true=>exact absurd (cc e) h1
  simp only[pE,this,h2,h3,h4];rfl
 |x::r,j0,j+1,q,h,h1,h2,h3,h4=>by
  simp only[mq]at h;simp only[pE,jD];exact .inr (ZrT (j0:=j0+1) h (by omega) h2 (by rw[show j0+1+j=j0+(j+1) by omega];exact h3) h4)
theorem Zpo {i bi:Nat} : ∀ {r:List fg} {j0 j:Nat} {q:fg},r[j]? =some q->i≠j0+j->q.bf.testBit i=false->bi.testBit (j0+j)=false->(Nat.blt (j0+j) i&&yu q.k)=false->uE i bi j0 r=true
 |[],j0,j,q,h,_,_,_,_=>by simp at h
 |x::r,j0,0,q,h,h1,h2,h3,h4=>by
  simp only[gV,cX]at h;subst h;simp only[dG]at h1 h3 h4;have:Nat.beq i j0=false:=by
   cases e:Nat.beq i j0 with
   |false=>rfl
   |true=>exact absurd (cc e) h1
  simp only[uE,this,h2,h3,h4];rfl
 |x::r,j0,j+1,q,h,h1,h2,h3,h4=>by
  simp only[mq]at h;simp only[uE,jD];exact .inr (Zpo (j0:=j0+1) h (by omega) h2 (by rw[show j0+1+j=j0+(j+1) by omega];exact h3) (by rw[show j0+1+j=j0+(j+1) by omega];exact h4))
def wF (is:List fg) (i k:Nat):Prop:=∃q,is[k]? =some q/\q.bf.testBit i=true
theorem Zuh: ∀(l:List Operand) (m t:Nat),(m.testBit t=true\/Operand.tmp t∈l)->(l.foldl (fun m x=>match x with| .tmp t=>m|||2^t|_=>m) m).testBit t=true
 |[],m,t,h=>by
  rcases h with h|h
  ·exact h
  ·cases h
 |x::l,m,t,h=>by
  simp only[zR];refine Zuh l _ t ?_;rcases h with h|h
  ·refine .inl ?_
   cases x with
   |tmp u=>simp only[vV,h,ui]
   |_=>exact h
  ·cases h with
   |head=>exact .inl (by simp[vV])
   |tail _ h=>exact .inr h
theorem AY (m r t:Nat) (h:m.testBit t=true\/r=t):(m|||2^r).testBit t=true:=by
 rcases h with h|rfl
 ·simp[vV,h]
 ·simp[vV]
theorem Zqr (pr:List Nat) (ops:List Oper) (o:Oper) (m:Nat) (t:Nat) (h:m.testBit t=true):
  (match o.op with
   | .load _ (.tmp a)=>(match mX pr ops 12 a with|some r=>m|||2^r|none=>m)
   | .store _ (.tmp a) _=>(match mX pr ops 12 a with|some r=>m|||2^r|none=>m)
   |_=>m).testBit t=true:=by
 split
 ·split
  ·exact AY _ _ _ (.inl h)
  ·exact h
 ·split
  ·exact AY _ _ _ (.inl h)
  ·exact h
 ·exact h
theorem Zr9 {pr:List Nat} {ops:List Oper} {o:Oper} {t:Nat} (h:Operand.tmp t∈o.op.operands):(nT pr ops o).testBit t=true:=by
 unfold nT;refine Zqr _ _ _ _ _ ?_;have h1:=Zuh o.op.operands.toList 0 t (.inr (by simpa using h));split
 ·split
  ·split
   ·exact AY _ _ _ (.inl h1)
   ·exact h1
  ·exact h1
 ·exact h1
theorem ZxE {pr:List Nat} {ops:List Oper} {o g:Oper} {j r:Nat} {w:Bool} (h:o.guard=some (j,w)) (hj:ops[j]? =some g) (hr:g.dst=some r):(nT pr ops o).testBit r=true:=by
 unfold nT;refine Zqr _ _ _ _ _ ?_;simp only[h,hj,hr];exact AY _ _ _ (.inr rfl)
theorem Zx9 {P:Program} {pr:List Nat} {ops:List Oper} {o:Oper} {r:Nat} (h:cls P pr ops o= .sE r\/cls P pr ops o= .mm r):(nT pr ops o).testBit r=true:=by
 cases ho:o.op with
 |load t a=>
  cases a with
  |tmp a=>
   cases hr:mX pr ops 12 a with
   |none=>simp[cls,ho,hr]at h
   |some q=>
    simp[cls,ho,hr]at h;subst h;simp only[nT,ho,hr];exact AY _ _ _ (.inr rfl)
  |_=>simp[cls,ho]at h
 |store t a y=>
  cases a with
  |tmp a=>
   cases hr:mX pr ops 12 a with
   |none=>simp[cls,ho,hr]at h
   |some q=>
    simp[cls,ho,hr]at h;subst h;simp only[nT,ho,hr];exact AY _ _ _ (.inr rfl)
  |_=>simp[cls,ho]at h
 |next it b=>
  cases it with
  |tmp t=>
   simp[cls,ho]at h;subst h;exact Zr9 (by simp[Op.operands,ho])
  |_=>simp[cls,ho]at h
 |slice t y lo hi mx=>
  simp only[cls,ho]at h;split at h<;>simp at h
 |call q=>
  cases hp:has pr 1000000<;>simp only[cls,ho,hp,cond_true,cond_false]at h<;>split at h<;>simp at h
 |_=>simp[cls,ho]at h
structure Su (C:aP) (pr ms:List Nat) (ops:Array Oper) (l:List (Oper×Md)) (is:List fg) (m:Nat) (A B:Nat->Env) (ss:Nat->St):Prop where
 vm:is=nU C.P pr ops.toList ops.toList []
 hl:l=flags C.mp is 0 is ops.toList
 ok:zs 0 is ops.toList=true
 hm:m<=ops.size
 w: ∀k,k<=m->j8 (A k) (B k)
 st: ∀k p,k<m->l[k]? =some p->Step C (kI ops) pr ms p (B k) (ss k) (A (k+1)) (ss (k+1))
 e0:gW (A 0)
theorem Step.opF {C:aP} {dst:Nat->Option Nat} {pr ms:List Nat} {p:Oper×Md} {E E':Env} {s s':St} (h:Step C dst pr ms p E s E' s'):j7 (kD p.2 E) pr ms p.1 E s E' s':=by
 cases h with
 |act _ hF _=>exact hF
 |skip _=>exact j7.Tm pr ms .un rfl fun _ _ _ _ h=>by cases h
section
variable {C:aP} {pr ms:List Nat} {ops:Array Oper} {l:List (Oper×Md)} {is:List fg} {m:Nat} {A B:Nat->Env} {ss:Nat->St}
theorem Su.isLen (S:Su C pr ms ops l is m A B ss):is.length=ops.size:=by rw[S.vm,Il];simp
theorem Su.Lv (S:Su C pr ms ops l is m A B ss):l.length=ops.size:=by rw[S.hl,HY _ _ _ _ (by rw[S.isLen];simp)];simp
structure OpT (C:aP) (pr:List Nat) (ops:Array Oper) (is:List fg) (k:Nat) (p:Oper×Md) (q:fg) (x:Nat):Prop where
 iq:is[k]? =some q
 op:ops[k]? =some p.1
 md:p.2= .d q.k x
 kc:q.k=rB pr ops.toList k q.bf (cls C.P pr ops.toList p.1)
 dst:q.dst=p.1.dst
 lk:q.lk=nT pr ops.toList p.1
 lt: ∀j,q.bf.testBit j=true->j<k
 gd: ∀j w,p.1.guard=some (j,w)->q.bf.testBit j=true
 on: ∀e∈p.1.after,Region.binds .any e=true->q.bf.testBit e.on=true
 WS: ∀j,q.bf.testBit j=true->∃e∈p.1.after,Region.binds .any e=true/\(j=e.on\/wF is j e.on)
 zero:x=0->∀j q',is[j]? =some q'->k≠j->q'.bf.testBit k=true\/q.bf.testBit j=true\/(j<k/\yu q'.k=true)
 two:q.k= .call->∀j q',is[j]? =some q'->k≠j->zl q'.k=true->q'.bf.testBit k=true\/q.bf.testBit j=true\/2<=x
theorem Su.get (S:Su C pr ms ops l is m A B ss) {k:Nat} {p:Oper×Md} (hp:l[k]? =some p): ∃q x,OpT C pr ops is k p q x:=by
 rw[S.hl]at hp;obtain⟨q,o,h1,h2,h3⟩:=IX _ _ _ _ _ _ hp;rw[dj]at h3;have h1':=h1;rw[S.vm]at h1';obtain⟨o',g1,g2,g3,g4,g5⟩:=Pt _ _ _ _ _ _ _ h1';rw[h2]at g1;cases g1;obtain⟨k1,⟨o',k2,k3⟩,_⟩:=Jf S.ok k q h1;rw[h2]at k2;cases k2;rw[dj]at k1;have aj: ∀j,q.bf.testBit j=true->j<k:=by
  intro j hj;rcases eM j k with h|h
  ·exact h
  ·have:q.bf<2^j:=jH k1 (oh (by omega) h)
   rw[Cb this]at hj;cases hj
 have bs: ∀f:jI->Bool,∀j q',is[j]? =some q'->k≠j->f q'.k=true->pE k q.bf f 0 is=false->q'.bf.testBit k=true\/q.bf.testBit j=true:=by
  intro f j q' hq bn hf hb;cases e1:q'.bf.testBit k with
  |true=>exact .inl rfl
  |false=>
   cases e2:q.bf.testBit j with
   |true=>exact .inr rfl
   |false=>rw[ZrT (i:=k) (bi:=q.bf) (f:=f) (j0:=0) hq (by omega) e1 (by rw[dj];exact e2) hf]at hb;cases hb
 have bs2: ∀j q',is[j]? =some q'->k≠j->uE k q.bf 0 is=false->q'.bf.testBit k=true\/q.bf.testBit j=true\/(j<k/\yu q'.k=true):=by
  intro j q' hq bn hb;cases e1:q'.bf.testBit k with
  |true=>exact .inl rfl
  |false=>
   cases e2:q.bf.testBit j with
   |true=>exact .inr (.inl rfl)
   |false=>
    cases e3:(Nat.blt j k&&yu q'.k)with
    |false=>rw[Zpo (i:=k) (bi:=q.bf) (j0:=0) hq (by omega) e1 (by rw[dj];exact e2) (by rw[dj];exact e3)]at hb;cases hb
    |true=>
     rw[aH,lV]at e3;exact .inr (.inr e3)
 refine⟨q,_,h1,?_,by rw[h3],by rw[h3];simp only[uk,dj]at g3;exact g3,by rw[h3];exact g4,by rw[h3];exact g5,aj,fun j w hg=>k3 j w (by rw[h3]at hg;exact hg),fun e he hb=>by rw[g2];exact ZAo (by rw[h3]at he;exact he) hb,fun j hj=>?_,fun hx j q' hq bn=>?_,fun hc j q' hq bn hh=>?_⟩
 ·rw[h3,<-gK];exact h2
 ·rw[g2]at hj
  obtain⟨e,he,hb,hj⟩:=ZzI hj;rw[h3];refine⟨e,he,hb,hj.imp id fun hj=>?_⟩;simp only[fe,bJ]at hj;have oH:((((is.take k).map fun x:fg=>x.bf)[e.on]?).getD 0).testBit j=true:=by rw[S.vm];exact hj
  cases hx:((is.take k).map fun x:fg=>x.bf)[e.on]? with
  |none=>rw[hx]at oH;simp at oH
  |some b=>
   rw[hx]at oH;rw[gL]at hx;cases hy:(is.take k)[e.on]? with
   |none=>rw[hy]at hx;cases hx
   |some q'=>
    rw[hy]at hx;simp only[lX,cX]at hx;rw[lg]at hy;split at hy
    ·exact⟨q',hy,by rw[hx];exact oH⟩
    ·cases hy
 ·cases hb:pE k q.bf (fun _=>true) 0 is with
  |false=>exact(bs _ j q' hq bn rfl hb).imp id .inl
  |true=>
   rw[hb]at hx;simp only[cond_true]at hx;cases tQ:LA C.mp o&& !uE k q.bf 0 is with
   |true=>
    rw[aH,hJ]at tQ;exact bs2 j q' hq bn tQ.2
   |false=>
    rw[tQ]at hx;simp only[cond_false]at hx;split at hx
    ·cases hc:pE k q.bf zl 0 is<;>rw[hc]at hx<;>cases hx
    ·cases hx
 ·cases hb:pE k q.bf zl 0 is with
  |false=>exact(bs _ j q' hq bn hh hb).imp id .inl
  |true=>
   cases eQ:pE k q.bf (fun _=>true) 0 is with
   |false=>exact(bs _ j q' hq bn rfl eQ).imp id .inl
   |true=>
    cases tQ:LA C.mp o&& !uE k q.bf 0 is with
    |true=>
     rw[aH,hJ]at tQ;rcases bs2 j q' hq bn tQ.2 with h|h|⟨_,h⟩
     ·exact .inl h
     ·exact .inr (.inl h)
     ·exfalso
      generalize q'.k=z at hh h;cases z<;>simp[zl,yu]at hh h
    |false=>exact .inr (.inr (by simp[hc]))
theorem Su.F (S:Su C pr ms ops l is m A B ss) {k:Nat} {p:Oper×Md} (hk:k<m) (hp:l[k]? =some p):j7 (kD p.2 (B k)) pr ms p.1 (B k) (ss k) (A (k+1)) (ss (k+1)):=(S.st k p hk hp).opF
theorem Su.xH (S:Su C pr ms ops l is m A B ss) {k:Nat} (hk:k<m): ∃p,l[k]? =some p:=by
 have:=S.Lv;have:=S.hm;exact⟨l[k]'(by omega),ba _⟩
theorem Su.qQ (S:Su C pr ms ops l is m A B ss): ∀k,k<=m->gW (B k)
 |0,h=>S.e0.gC (S.w 0 h)
 |k+1,h=>by
  obtain⟨p,hp⟩:=S.xH (k:=k) (by omega);exact((S.F (by omega) hp).fA (S.qQ k (by omega))).gC (S.w (k+1) h)
theorem yk {E E':Env} {s:St} (h:j8 E E') (x:cB):cS E' s x↔cS E s x:=by
 cases x with
 |inl i=>exact Iff.rfl
 |inr v=>simp only[cS,h.aZ]
theorem Su.WR (S:Su C pr ms ops l is m A B ss) {k:Nat} (hk:k<m) {h:cB} (hd:cS (B k) (ss k) h):cS (A (k+1)) (ss (k+1)) h:=by
 obtain⟨p,hp⟩:=S.xH hk;have hF:=S.F hk hp;cases h with
 |inl i=>exact jH hd hF.len
 |inr v=>exact jH hd hF.aZ
theorem Su.nB (S:Su C pr ms ops l is m A B ss) {h:cB} {j:Nat} : ∀(d:Nat),j+d<=m->cS (B j) (ss j) h->cS (B (j+d)) (ss (j+d)) h
 |0,_,hd=>hd
 |d+1,hk,hd=>(yk (S.w (j+d+1) hk) h).2 (S.WR (k:=j+d) (by omega) (S.nB d (by omega) hd))
theorem Su.qN (S:Su C pr ms ops l is m A B ss) {h:cB} {j k:Nat} (rj:j<=k) (hk:k<=m) (hd:cS (B j) (ss j) h):cS (B k) (ss k) h:=by
 have:=S.nB (j:=j) (k-j) (by omega) hd
 rwa [show j+(k-j)=k by omega]at this
def Wr (l:List (Oper×Md)) (B:Nat->Env) (i:Nat) (h:cB):Prop:=∃p,l[i]? =some p/\kD p.2 (B i) h
theorem Su.back (S:Su C pr ms ops l is m A B ss) {h:cB} {ab:AB} {j:Nat} : ∀(d:Nat),j+d<=m->(∀i,j<=i->i<j+d->¬Wr l B i h)->cS (B j) (ss j) h->CR (B (j+d)) (ss (j+d)) h ab->CR (B j) (ss j) h ab
 |0,_,_,_,c=>c
 |d+1,hk,hw,hd,c=>by
  obtain⟨p,hp⟩:=S.xH (k:=j+d) (by omega);rcases(S.F (by omega) hp).back h ab (c.gC (S.w _ hk))with x|x|x
  ·exact absurd ⟨p,hp,x⟩ (hw (j+d) (by omega) (by omega))
  ·exact absurd (S.nB d (by omega) hd) x.1
  ·exact S.back d (by omega) (fun i h1 h2=>hw i h1 (by omega)) hd x
theorem Su.JW (S:Su C pr ms ops l is m A B ss) {h:cB} {ab:AB} {j k:Nat} (rj:j<=k) (hk:k<=m) (hw: ∀i,j<=i->i<k->¬Wr l B i h) (hd:cS (B j) (ss j) h) (c:CR (B k) (ss k) h ab):CR (B j) (ss j) h ab:=by
 have:=S.back (j:=j) (ab:=ab) (k-j) (by omega) (fun i h1 h2=>hw i h1 (by omega)) hd;rw[show j+(k-j)=k by omega]at this;exact this c
theorem Su.fix (S:Su C pr ms ops l is m A B ss) {x:Nat} {j:Nat} : ∀(d:Nat),j+d<=m->(∀i,j<=i->i<j+d->¬Wr l B i (.inl x))->x<(ss j).length->(ss (j+d))[x]? =(ss j)[x]?
 |0,_,_,_=>rfl
 |d+1,hk,hw,hx=>by
  obtain⟨p,hp⟩:=S.xH (k:=j+d) (by omega);have hd:x<(ss (j+d)).length:=S.nB (h:= .inl x) d (by omega) hx;have:=(S.F (by omega) hp).Wd x (fun hi=>hw (j+d) (by omega) (by omega) ⟨p,hp,hi⟩) hd;rw[show j+(d+1)=j+d+1 by omega,this,S.fix d (by omega) (fun i h1 h2=>hw i h1 (by omega)) hx]
theorem Su.bI (S:Su C pr ms ops l is m A B ss) {ψ:Ps} {x:Value} {t:Nat} {j:Nat} : ∀(d:Nat),j+d<=m->(∀i p,j<=i->i<j+d->l[i]? =some p->p.1.dst≠some t)->eB C ψ ((B j).get t) x->eB C ψ ((B (j+d)).get t) x
 |0,_,_,r=>r
 |d+1,hk,hw,r=>by
  obtain⟨p,hp⟩:=S.xH (k:=j+d) (by omega);have:=(S.F (by omega) hp).bI t (hw _ p (by omega) (by omega) hp) C ψ x (S.bI d (by omega) (fun i p h1 h2=>hw i p h1 (by omega)) r);rcases(S.w _ hk).get t with e|e
  ·rw[e];exact this
  ·rw[e];trivial
theorem Su.val (S:Su C pr ms ops l is m A B ss) {t j:Nat} {x:DV} : ∀(d:Nat),j+d<=m->(∀i p,j<=i->i<j+d->l[i]? =some p->p.1.dst≠some t)->(B (j+d)).get t= .v x->(B j).get t= .v x
 |0,_,_,e=>e
 |d+1,hk,hw,e=>by
  obtain⟨p,hp⟩:=S.xH (k:=j+d) (by omega);refine S.val d (by omega) (fun i p h1 h2=>hw i p h1 (by omega)) ((S.F (by omega) hp).val t x (hw _ p (by omega) (by omega) hp) ?_);rcases(S.w _ hk).get t with e'|e'
  ·exact e'.symm.trans e
  ·exact absurd (e'.symm.trans e) (by simp)
theorem Zvt {E E':Env} (h:j8 E E') {t v:Nat} (e:(E'.get t).bY=some v):(E.get t).bY=some v:=by
 rcases h.get t with e'|e'
 ·rw[<-e'];exact e
 ·rw[e']at e;cases e
theorem j7.bY {W:cB->Prop} {o:Oper} {E E':Env} {s s':St} (hF:j7 W pr ms o E s E' s') {t v:Nat} (e:(E'.get t).bY=some v):(E.get t).bY=some v\/(E.aZ<=v/\o.dst=some t):=by
 cases he:E'.get t with
 |loc v' n cs=>
  rw[he]at e;simp only[dx.bY,cX]at e;subst e;exact(hF.sG t _ n cs he).imp (fun⟨c,h⟩=>by rw[h];rfl) id
 |it v' s p=>
  rw[he]at e;simp only[dx.bY,cX]at e;subst e;exact(hF.uf t _ s p he).imp (fun⟨c,h⟩=>by rw[h];rfl) id
 |_=>rw[he]at e;cases e
theorem Su.bY (S:Su C pr ms ops l is m A B ss) {t v j:Nat} : ∀(d:Nat),j+d<=m->v<(B j).aZ->((B (j+d)).get t).bY=some v->((B j).get t).bY=some v
 |0,_,_,e=>e
 |d+1,hk,hv,e=>by
  obtain⟨p,hp⟩:=S.xH (k:=j+d) (by omega);have hd:v<(B (j+d)).aZ:=S.nB (h:= .inr v) d (by omega) hv;rcases(S.F (by omega) hp).bY (Zvt (S.w _ hk) e)with h|h
  ·exact S.bY d (by omega) hv h
  ·omega
theorem Su.Wn (S:Su C pr ms ops l is m A B ss) {t v j k:Nat} (rj:j<=k) (hk:k<=m) (hv:v<(B j).aZ) (e:((B k).get t).bY=some v):((B j).get t).bY=some v:=
 S.bY (j:=j) (k-j) (by omega) hv (by rwa [show j+(k-j)=k by omega])
end
theorem ZxT (k k':jI):uR k k'=uR k' k:=by
 cases k<;>cases k'<;>simp only[uR]<;>(rw[jY];simp only[Nat.beq_eq];exact eq_comm)
theorem Zuc {k k':jI} (h:Qo k k'=false):uR k k'=false:=by
 cases k<;>cases k'<;>first|exact h|cases h
theorem ZuL {k k':jI} {x x':Nat} {E E':Env} (c:uR k k'=false) (h2:k= .call->zl k'=true->2<=x) (hv: ∀r q v,(E.get r).bY=some v->(E'.get q).bY=some v->r=q)
  (hb: ∀bs b,k= .ap bs->k'= .lp b->b∈bs->∀j p,E.get b= .v (.ptr (some (j,p)))->E'.get b= .v (.ptr (some (j,p)))):
  ∀h,kD (.d k x) E h->¬mA (.d k' x') E' h:=by
 intro h hw hd;cases k<;>cases k'<;>first
  |exact hw.elim
  |exact hd.elim
  |(simp[uR]at c;done)
  |(have h3:=h2 rfl rfl;have h4:=hw.1;omega)
  |(obtain⟨i,rfl⟩:=hw;obtain⟨v,e,_⟩:=hd;cases e;done)
  |(obtain⟨_,i,rfl⟩:=hw;obtain⟨v,e,_⟩:=hd;cases e;done)
  |(obtain⟨v,rfl,_⟩:=hw;obtain⟨i,e⟩:=hd;cases e;done)
  |(obtain⟨v,rfl,_⟩:=hw;obtain⟨i,p,_,e⟩:=hd;cases e;done)
  |(obtain⟨i,rfl,_⟩:=hw;obtain⟨v,e,_⟩:=hd;cases e;done)
  |(obtain⟨v,rfl,e1⟩:=hw
    obtain⟨v',e,e2⟩:=hd;cases e;have:=hv _ _ _ e1 e2;subst this;simp[uR]at c)
  |(rename_i bs b
    obtain⟨i,rfl,hw⟩:=hw;obtain⟨i',p',e1,e2⟩:=hd;cases e2;have dy:b∈bs:=by
     have:has bs b=true:=by simpa [uR]using c
     exact(Db _ _).1 this
    obtain⟨j,p,e3,e4⟩:=hw b dy;have:=hb bs b rfl rfl dy j p e3;rw[e1]at this;cases this;exact e4 rfl)
theorem Zx5 {P:Program} {pr:List Nat} {ops:List Oper} {o:Oper} (h:pA o):cls P pr ops o= .hp\/cls P pr ops o= .call\/cls P pr ops o= .ap []:=by
 unfold pA at h;cases ho:o.op<;>rw[ho]at h<;>simp only at h
 case call q=>
  split at h
  ·rename_i hq
   cases hp:has pr 1000000 with
   |true=>exact .inr (.inr (by simp[cls,ho,hq,hp]))
   |false=>exact .inr (.inl (by simp[cls,ho,hq,hp]))
  ·rename_i hq;exact .inr (.inr (by simp[cls,ho,hq]))
  ·exact h.elim
 all_goals exact .inl (by simp[cls,ho])
theorem Zw0 {P:Program} {pr:List Nat} {ops:List Oper} {o:Oper} (h:pA o) (k m:Nat):rB pr ops k m (cls P pr ops o)= .hp\/rB pr ops k m (cls P pr ops o)= .call\/∃bs,rB pr ops k m (cls P pr ops o)= .ap bs:=by
 rcases Zx5 (P:=P) (pr:=pr) (ops:=ops) h with e|e|e<;>rw[e]
 ·exact .inl rfl
 ·exact .inr (.inl rfl)
 ·exact .inr (.inr ⟨_,rfl⟩)
theorem Zw2 {k:jI} {x:Nat} {E:Env} (h:k= .hp\/k= .call\/∃bs,k= .ap bs) (i:Nat):mA (.d k x) E (.inl i):=by
 rcases h with rfl|rfl|⟨bs,rfl⟩<;>exact⟨i,rfl⟩
theorem Zz2 {pr:List Nat} {ops:List Oper} {k m b:Nat} {c:jI} (h:rB pr ops k m c= .lp b):c= .lp b:=by
 cases c<;>first|exact h|cases h
theorem ZyL {pr:List Nat} {ops:List Oper} {k m b:Nat} {c:jI} (h:rB pr ops k m c= .mm b):c= .mm b:=by
 cases c<;>first|exact h|cases h
theorem ZzR {pr:List Nat} {ops:List Oper} {k m:Nat} {c:jI} {bs:List Nat} (h:rB pr ops k m c= .ap bs):bs=(Dh m 0 (ops.take k)).filter fun b=>EE b (ops.take k)&&(mX pr ops 12 b).isNone:=by
 cases c<;>cases h
 rfl
theorem ZBt {P:Program} {pr:List Nat} {ops:List Oper} {o:Oper} {b:Nat} (h:cls P pr ops o= .lp b):tV b o=true:=by
 unfold tV;cases ho:o.op with
 |load t a=>
  cases a with
  |tmp a=>
   cases hr:mX pr ops 12 a with
   |none=>simp[cls,ho,hr]at h;simp[h]
   |some q=>simp[cls,ho,hr]at h
  |_=>simp[cls,ho]at h
 |store t a y=>
  cases a with
  |tmp a=>cases hr:mX pr ops 12 a<;>simp[cls,ho,hr]at h
  |_=>simp[cls,ho]at h
 |next it b=>cases it<;>simp[cls,ho]at h
 |slice t y lo hi mx=>
  simp only[cls,ho]at h;split at h<;>simp at h
 |call q=>
  cases hp:has pr 1000000<;>simp only[cls,ho,hp,cond_true,cond_false]at h<;>split at h<;>simp at h
 |_=>simp[cls,ho]at h
theorem Zsg {b:Nat} : ∀ {L:List Oper},EE b L=true->∀(i j:Nat) (o o':Oper),L[i]? =some o->tV b o=true->i<=j->L[j]? =some o'->o'.dst≠some b
 |[],_,i,j,o,o',h,_,_,_=>by simp at h
 |x::r,h,i,j,o,o',hi,hl,nK,hj=>by
  unfold EE at h;cases hx:tV b x with
  |true=>
   rw[hx]at h;simp only[cond_true]at h;have:=gv.1 h o' (lh hj);intro e;rw[e]at this;simp at this
  |false=>
   rw[hx]at h;simp only[cond_false]at h;cases i with
   |zero=>
    simp only[gV,cX]at hi;subst hi;rw[hx]at hl;cases hl
   |succ i=>
    obtain⟨j,rfl⟩: ∃j',j=j'+1:=⟨j-1,by omega⟩;exact Zsg h i j o o' (by simpa using hi) hl (by omega) (by simpa using hj)
section
variable {C:aP} {pr ms:List Nat} {ops:Array Oper} {l:List (Oper×Md)} {is:List fg} {m:Nat} {A B:Nat->Env} {ss:Nat->St}
abbrev Ab (A B:Nat->Env) (ss:Nat->St) (i:Nat) (h:cB):Prop:=sQ (B i) (ss i) (A (i+1)) (ss (i+1)) h
structure FG (pr ms:List Nat) (ops:Array Oper) (l:List (Oper×Md)) (A B:Nat->Env) (ss:Nat->St) (i k:Nat) (p p':Oper×Md):Prop where
 d1: ∀t,p.1.dst=some t->(nT pr ops.toList p'.1).testBit t=false
 d2: ∀t,p'.1.dst=some t->(nT pr ops.toList p.1).testBit t=false
 d3: ∀t,p.1.dst=some t->p'.1.dst≠some t
 w1: ∀h,kD p.2 (B i) h->¬mA p'.2 (B k) h
 w2: ∀h,kD p'.2 (B k) h->¬mA p.2 (B i) h
 n1: ∀h,Ab A B ss i h->¬kD p'.2 (B k) h
 n2: ∀h,Ab A B ss k h->¬kD p.2 (B i) h
theorem Su.Uq (S:Su C pr ms ops l is m A B ss) {i k:Nat} (yO:i<k) (hk:k<m) {p p':Oper×Md} (hp:l[i]? =some p) (du:l[k]? =some p') (hn: ¬wF is i k):FG pr ms ops l A B ss i k p p':=by
 obtain⟨q,x,T⟩:=S.get hp;obtain⟨q',x',T'⟩:=S.get du;have tx:LV q q':=by
  obtain⟨_,_,h⟩:=Jf S.ok i q T.iq;rcases h k q' yO T'.iq with h|h
  ·rw[dj]at h;exact absurd ⟨q',T'.iq,h⟩ hn
  ·exact h
 obtain⟨ct,e1,e2,e3⟩:=tx;have c:=Zuc ct;rw[T.dst,T'.lk]at e1;rw[T'.dst,T.lk]at e2;rw[T.dst,T'.dst]at e3;have hv: ∀r t v,((B i).get r).bY=some v->((B k).get t).bY=some v->r=t:=fun r t v h1 h2=>
  (S.qQ i (by omega)).uniq r t v h1 (S.Wn (by omega) (by omega) ((S.qQ i (by omega)).lt r v h1) h2)
 have w1: ∀h,kD p.2 (B i) h->¬mA p'.2 (B k) h:=by
  rw[T.md,T'.md];refine ZuL c (fun h1 h2=>?_) hv (fun bs b h1 h2=>by rw[h1,h2]at ct;cases ct);rcases T.two h1 k q' T'.iq (by omega) h2 with h|h|h
  ·exact absurd ⟨q',T'.iq,h⟩ hn
  ·have:=T.lt k h;omega
  ·exact h
 have w2: ∀h,kD p'.2 (B k) h->¬mA p.2 (B i) h:=by
  rw[T.md,T'.md];refine ZuL (by rw[ZxT];exact c) (fun h1 h2=>?_) (fun r t v h1 h2=>(hv t r v h2 h1).symm) (fun bs b h1 h2 dy j pp hg=>?_);rotate_left
  ·have wS:=ZzR (T'.kc.symm.trans h1)
   rw[wS,xU]at dy;have pV:tV b p.1=true:=ZBt (Zz2 (T.kc.symm.trans h2));have de:ops.toList[i]? =some p.1:=by rw[gK];exact T.op
   refine S.val (j:=i) (k-i) (by omega) (fun i' BN g1 g2 g3=>?_) (by rw[show i+(k-i)=k by omega];exact hg);obtain⟨q'',x'',T''⟩:=S.get g3;have X2:ops.toList[i']? =some BN.1:=by rw[gK];exact T''.op
   exact Zsg (Bool.and_eq_true_iff.1 dy.2).1 i i' p.1 BN.1 (by rw[lg,aG (by omega)];exact de) pV g1 (by rw[lg,aG (by omega)];exact X2)
  rcases T'.two h1 i q T.iq (by omega) h2 with h|h|h
  ·have:=T.lt k h;omega
  ·exact absurd ⟨q',T'.iq,h⟩ hn
  ·exact h
 have d1: ∀t,p.1.dst=some t->(nT pr ops.toList p'.1).testBit t=false:=fun t h=>by rw[h]at e1;exact e1
 refine⟨d1,fun t h=>by rw[h]at e2;exact e2,fun t h h'=>?_,w1,w2,fun h fS hw=>?_,fun h fS hw=>?_⟩
 ·rw[h,h']at e3
  simp only[QS,uo]at e3;cases e3
 ·cases h with
  |inl y=>
   have hF:=S.F (by omega) hp;rcases hF.grow with hg|hg
   ·have h1:=fS.1;have h2:=fS.2
    simp only[cS]at h1 h2;omega
   ·refine w2 _ hw ?_
    rw[T.md,T.kc];exact Zw2 (Zw0 hg _ _) y
  |inr v=>
   rw[T'.md]at hw;cases hq:q'.k<;>rw[hq]at hw<;>first|exact hw.elim|skip
   ·obtain⟨y,e⟩:=hw;cases e
   ·obtain⟨_,y,e⟩:=hw;cases e
   ·rename_i r
    obtain⟨v',e,cQ⟩:=hw;cases e;have aj:v<(B (i+1)).aZ:=by rw[(S.w (i+1) (by omega)).aZ];exact fS.2
    have h1:=Zvt (S.w (i+1) (by omega)) (S.Wn (by omega) (by omega) aj cQ);rcases(S.F (by omega) hp).bY h1 with h2|⟨_,h2⟩
    ·exact fS.1 ((S.qQ i (by omega)).lt r v h2)
    ·have h3:=d1 r h2
     have h4:=Zx9 (P:=C.P) (pr:=pr) (ops:=ops.toList) (o:=p'.1) (r:=r) (.inr (ZyL (T'.kc.symm.trans hq)));rw[h3]at h4;cases h4
   ·obtain⟨y,e,_⟩:=hw;cases e
 ·cases h with
  |inl y=>
   have hF:=S.F hk du;rcases hF.grow with hg|hg
   ·have h1:=fS.1;have h2:=fS.2
    simp only[cS]at h1 h2;omega
   ·refine w1 _ hw ?_
    rw[T'.md,T'.kc];exact Zw2 (Zw0 hg _ _) y
  |inr v=>
   rw[T.md]at hw;cases hq:q.k<;>rw[hq]at hw<;>first|exact hw.elim|skip
   ·obtain⟨y,e⟩:=hw;cases e
   ·obtain⟨_,y,e⟩:=hw;cases e
   ·rename_i r
    obtain⟨v',e,cQ⟩:=hw;cases e;have:cS (B i) (ss i) (.inr v):=(S.qQ i (by omega)).lt r v cQ;exact fS.1 (S.qN (by omega) (by omega) this)
   ·obtain⟨y,e,_⟩:=hw;cases e
theorem Zp0 {ops:Array Oper} {o:Oper} {E:Env} {ψ:Ps} {a:Act} (R: ∀j w r,o.guard=some (j,w)->kI ops j=some r->eB C ψ (E.get r) (a.tmps.getD r undef)) (h:GW (kI ops) E o):Region.wanted o (yielded ops a.tmps)=true:=by
 unfold Region.wanted;rcases h with h|⟨j,w,r,h1,h2,h3⟩
 ·rw[h]
 ·have hr:=R j w r h1 h2
  rw[h1];rw[Jn]at h2;rw[h3]at hr;have:a.tmps.getD r undef= .bool w:=by generalize a.tmps.getD r undef=x at hr;cases hr;rfl
  simp[yielded,h2,Jt a r w this]
theorem Zud {ops:Array Oper} {o:Oper} {E:Env} {ψ:Ps} {a:Act} (R: ∀j w r,o.guard=some (j,w)->kI ops j=some r->eB C ψ (E.get r) (a.tmps.getD r undef)) (h:GU (kI ops) E o):Region.wanted o (yielded ops a.tmps)=false:=by
 unfold Region.wanted;obtain⟨j,w,r,h1,h2,h3⟩:=h;have hr:=R j w r h1 h2;rw[h1];rw[Jn]at h2;rcases h3 with⟨b,h3,hb⟩|h3
 ·rw[h3]at hr
  have:a.tmps.getD r undef= .bool b:=by generalize a.tmps.getD r undef=x at hr;cases hr;rfl
  simp[yielded,h2,Jt a r b this,hb]
 ·rw[h3]at hr
  have hr:a.tmps.getD r undef=undef:=hr;have:a.tmps[r]? =none\/a.tmps[r]? =some undef:=by
   rw[mn]at hr;cases e:a.tmps[r]? with
   |none=>exact .inl rfl
   |some v=>rw[e]at hr;simp only[sO]at hr;rw[hr];exact .inr rfl
  have hy:yielded ops a.tmps j=none:=by
   unfold yielded;rw[h2];rcases this with e|e<;>simp[e,undef]
  simp[hy]
theorem ZyR {QQ:Exit->Act->World->Prop} {p:Oper×Md} {E E':Env} {s s':St} (st:Step C (kI ops) pr ms p E s E' s') {ψ:Ps} {Q:Kn} {a:Act} {w:World} (pre:ar C p.1 (mA p.2 E) E s ψ Q a w) (room:FK E s E' s' ψ)
  (hg: ∀j w r,p.1.guard=some (j,w)->kI ops j=some r->eB C ψ (E.get r) (a.tmps.getD r undef)) {i:Nat} (hi:ops[i]? =some p.1) {K:Act->World->Prop}
  (h: ∀ψ' Q' v w',FI C (mA p.2 E) (kD p.2 E) E s E' s' ψ Q w ψ' Q' w'->(∀d,p.1.dst=some d->eB C ψ' (E'.get d) v)->K (a.put p.1.dst v) w'):wpOp C.P ops QQ i K a w:=by
 unfold wpOp;simp only[hi];cases st with
 |act g hF hO=>
  rw[aG (Zp0 hg g)];exact .inl (hO ψ Q a w K QQ pre room h)
 |skip g=>
  rw[ax (by rw[Zud hg g];simp)];refine h ψ Q undef w ⟨pre.dH,.refl _ _ _,fun h cb e=> .inl e,fun h ab cb c hw e=>?_,fun h ab cb e q _ _=>q⟩ fun d hd=>?_
  ·rcases hw with hw|⟨n1,n2⟩
   ·exact pre.il h ab cb (JC _ _ _ hw) (c.dN rfl) e
   ·exact absurd (by cases h<;>simpa [cS]using n2) n1
  ·rw[Env.iQ,aG hd];rfl
structure Inv (C:aP) (f:Fr) (l:List (Oper×Md)) (is:List fg) (m:Nat) (A B:Nat->Env) (ss:Nat->St) (ψi:Ps) (L:Nat->Prop) (a:Act) (w:World) (ψ:Ps) (Q:Kn):Prop where
 dH:dU C ψ Q w
 fh:oi ψ w
 jd:Glob C ψ
 iu: ∀t j,j<=m->(∀i p,i<j->l[i]? =some p->¬L i->p.1.dst≠some t)->(∀i p,j<=i->l[i]? =some p->L i->p.1.dst≠some t)->eB C ψ ((B j).get t) (a.tmps.getD t undef)
 il: ∀h j ab cb,j<=m->(∀i,i<j->¬L i->¬Wr l B i h)->(∀i,j<=i->L i->¬Wr l B i h)->CR (B j) (ss j) h ab->ψ h=some cb->Q h ab
 free: ∀i h,i<m->¬L i->Ab A B ss i h->ψ h=none
 news: ∀h cb,ψ h=some cb->ψi h=some cb\/(¬cS (B 0) (ss 0) h/\cS (B m) (ss m) h)
 ext:Ext f.gq (CS f.s0) f.w0 ψ Q w
 kV:Ks f a
 defs:a.defers=f.QR
 sub: ∀i,L i->i<m
 down: ∀i k,L k->wF is i k->L i
theorem ZBq {E:Env} (hE:gW E) {s:St} {h:cB} {ab bO:AB} (c:CR E s h ab) (c':CR E s h bO):ab=bO:=by
 cases h with
 |inl i=>
  have h1:cq s i=some ab:=c;have h2:cq s i=some bO:=c';rw[h1]at h2;exact sP h2
 |inr v=>
  rcases c with⟨t,n,cs,e,rfl⟩|⟨t,l,p,e,rfl⟩<;>rcases c' with⟨t',n',cs',e',rfl⟩|⟨t',l',p',e',rfl⟩<;>
   (have:=hE.uniq t t' v (by rw[e];rfl) (by rw[e'];rfl);subst this;rw[e]at e';cases e';try rfl)
theorem Su.born (S:Su C pr ms ops l is m A B ss) {h:cB} {j:Nat} : ∀(d:Nat),j+d<=m->¬cS (B j) (ss j) h->cS (B (j+d)) (ss (j+d)) h->∃k,j<=k/\k<j+d/\Ab A B ss k h
 |0,_,hn,hd=>absurd hd hn
 |d+1,hk,hn,hd=>by
  have jw:cS (A (j+d+1)) (ss (j+d+1)) h:=(yk (S.w _ hk) h).1 hd;by_cases e:cS (B (j+d)) (ss (j+d)) h
  ·obtain⟨k,h1,h2,h3⟩:=S.born d (by omega) hn e
   exact⟨k,h1,by omega,h3⟩
  ·exact⟨j+d,by omega,by omega,e,jw⟩
theorem ZBr {E:Env} {s:St} {t v:Nat} (h:(E.get t).bY=some v): ∃ab,CR E s (.inr v) ab:=by
 cases he:E.get t with
 |loc v' n cs=>
  rw[he]at h;simp only[dx.bY,cX]at h;subst h;exact⟨_,.inl ⟨t,n,cs,he,rfl⟩⟩
 |it v' x p=>
  rw[he]at h;simp only[dx.bY,cX]at h;subst h;exact⟨_,.inr ⟨t,x,p,he,rfl⟩⟩
 |_=>rw[he]at h;cases h
variable {f:Fr} {ψi:Ps} {L:Nat->Prop} {a:Act} {w:World} {ψ:Ps} {Q:Kn}
theorem Inv.pre (S:Su C pr ms ops l is m A B ss) (I:Inv C f l is m A B ss ψi L a w ψ Q) {i:Nat} {p:Oper×Md} (hi:i<=m) (_hp:l[i]? =some p) (hL: ¬L i) (aa1: ∀j,wF is j i->L j)
  (fQ: ∀k p',k<i->l[k]? =some p'->¬L k->(∀t,p'.1.dst=some t->(nT pr ops.toList p.1).testBit t=false)/\∀h,kD p'.2 (B k) h->¬mA p.2 (B i) h) (jv: ∀k p',i<k->l[k]? =some p'->L k->FG pr ms ops l A B ss i k p p'):
  ar C p.1 (mA p.2 (B i)) (B i) (ss i) ψ Q a w/\∀j w r,p.1.guard=some (j,w)->kI ops j=some r->eB C ψ ((B i).get r) (a.tmps.getD r undef):=by
 have iu: ∀t,(nT pr ops.toList p.1).testBit t=true->eB C ψ ((B i).get t) (a.tmps.getD t undef):=by
  intro t ht;refine I.iu t i hi (fun k p' hk du hl e=>?_) (fun k p' hk du hl e=>?_)
  ·have:=(fQ k p' hk du hl).1 t e
   rw[ht]at this;cases this
  ·rcases Nat.eq_or_lt_of_le hk with h|h
   ·subst h;exact hL hl
   ·have:=(jv k p' h du hl).d2 t e
    rw[ht]at this;cases this
 refine⟨⟨I.dH,I.fh,I.jd,S.qQ i hi,fun h ab cb hD c e=>I.il h i ab cb hi (fun k hk hl=>?_) (fun k hk hl=>?_) c e,fun t ht=>iu t (Zr9 ht)⟩,fun j w r hg hr=>iu r ?_⟩
 ·rintro⟨p',du,hw⟩
  exact(fQ k p' hk du hl).2 h hw hD
 ·rintro⟨p',du,hw⟩
  rcases Nat.eq_or_lt_of_le hk with e|e
  ·subst e;exact hL hl
  ·exact(jv k p' e du hl).w2 h hw hD
 ·unfold kI at hr
  split at hr
  ·rename_i o ho;exact ZxE hg ho hr
  ·cases hr
theorem Inv.step (S:Su C pr ms ops l is m A B ss) (I:Inv C f l is m A B ss ψi L a w ψ Q) {i:Nat} {p:Oper×Md} (hi:i<m) (hp:l[i]? =some p) (hL: ¬L i) (tO: ∀j,wF is j i->L j)
  (hd: ∀x,p.1.dst=some x->f.ok x=true) {QQ:Exit->Act->World->Prop} {K:Act->World->Prop}
  (h: ∀a' w' ψ' Q',Inv C f l is m A B ss ψi (fun j=>L j\/j=i) a' w' ψ' Q'->K a' w'):wpOp C.P ops QQ i K a w:=by
 have fQ: ∀k p',k<i->l[k]? =some p'->¬L k->FG pr ms ops l A B ss k i p' p:=fun k p' hk du hl=>S.Uq hk hi du hp fun hb=>hl (tO k hb)
 have jv: ∀k p',i<k->l[k]? =some p'->L k->FG pr ms ops l A B ss i k p p':=fun k p' hk du hl=>S.Uq hk (I.sub k hl) hp du fun hb=>hL (I.down i k hl hb)
 obtain⟨pre,hg⟩:=I.pre S (Nat.le_of_lt hi) hp hL tO (fun k p' hk du hl=>⟨(fQ k p' hk du hl).d1,(fQ k p' hk du hl).w1⟩) jv;obtain⟨q,x,T⟩:=S.get hp;refine ZyR (S.st i p hi hp) pre (fun k hk=>I.free i k hi hL hk) hg T.op fun ψ' Q' v w' P he=>h _ _ ψ' Q' ?_
 have US: ∀k h,k<m->¬(L k\/k=i)->Ab A B ss k h->ψ' h=none:=by
  intro k h hk hl fS;cases e:ψ' h with
  |none=>rfl
  |some cb=>
   rcases P.news h cb e with e|e
   ·rw[I.free k h hk (fun x=>hl (.inl x)) fS]at e;cases e
   ·rcases Nat.lt_trichotomy i k with yO|yO|yO
    ·exact absurd (S.qN (j:=i+1) (by omega) (by omega) ((yk (S.w (i+1) (by omega)) h).2 e.2)) fS.1
    ·exact absurd (.inr yO.symm) hl
    ·exact absurd (S.qN (j:=k+1) (by omega) (by omega) ((yk (S.w (k+1) (by omega)) h).2 fS.2)) e.1
 refine⟨P.dH,P.ext.fh I.fh,P.ext.jd I.jd,fun t j hj c1 c2=>?_,fun h j ab cb hj c1 c2 c e=>?_,US,fun h cb e=>?_,I.ext.trans P.ext,I.kV.put hd,by rw[IB];exact I.defs,fun k hk=>?_,fun j k hk hb=>?_⟩
 ·rw[C3 fun x hx=>by rw[I.kV.1];exact f.EK x (hd x hx)]
  by_cases wT:p.1.dst=some t
  ·rw[aG wT]
   have nK:i<j:=by
    rcases eM i j with h|h
    ·exact h
    ·exact absurd wT (c2 i p h hp (.inr rfl))
   have h1:eB C ψ' ((B (i+1)).get t) v:=by
    rcases(S.w (i+1) (by omega)).get t with e|e
    ·rw[e];exact he t wT
    ·rw[e];trivial
   have:=S.bI (j:=i+1) (ψ:=ψ') (x:=v) (t:=t) (j-(i+1)) (by omega) (fun k p' h1 h2 du=>?_) h1
   ·rwa [show i+1+(j-(i+1))=j by omega]at this
   ·by_cases hl:L k
    ·exact(jv k p' (by omega) du hl).d3 t wT
    ·exact c1 k p' (by omega) du (by rintro(h|h);exact hl h;omega)
  ·rw[ax wT]
   refine(I.iu t j hj (fun k p' hk du hl=>?_) (fun k p' hk du hl=>c2 k p' hk du (.inl hl))).mono P.ext.mono;by_cases e:k=i
   ·subst e;rw[hp]at du;cases du;exact wT
   ·exact c1 k p' hk du (by rintro(h|h);exact hl h;exact e h)
 ·by_cases hw:kD p.2 (B i) h\/Ab A B ss i h
  ·have nK:i<j:=by
    rcases eM i j with h'|h'
    ·exact h'
    ·rcases hw with hw|hw
     ·exact absurd ⟨p,hp,hw⟩ (c2 i h' (.inr rfl))
     ·exact absurd (S.qN h' (by omega) (c.nB (S.qQ j hj))) hw.1
   have eV: ∀k,i+1<=k->k<j->¬Wr l B k h:=by
    rintro k h1 h2 ⟨p',du,qa⟩;by_cases hl:L k
    ·rcases hw with hw|hw
     ·exact(jv k p' (by omega) du hl).w2 h qa (JC _ _ _ hw)
     ·exact(jv k p' (by omega) du hl).n1 h hw qa
    ·exact c1 k (by omega) (by rintro(h|h);exact hl h;omega) ⟨p',du,qa⟩
   have Xp:cS (B (i+1)) (ss (i+1)) h:=by
    rcases hw with hw|hw
    ·by_cases e0:cS (B (i+1)) (ss (i+1)) h
     ·exact e0
     ·obtain⟨k,k1,k2,k3⟩:=S.born (j:=i+1) (j-(i+1)) (by omega) e0 (by rw[show i+1+(j-(i+1))=j by omega];exact c.nB (S.qQ j hj))
      obtain⟨p',du⟩:=S.xH (k:=k) (by omega);by_cases hl:L k
      ·exact absurd hw ((jv k p' (by omega) du hl).n2 h k3)
      ·have:=US k h (by omega) (by rintro(h|h);exact hl h;omega) k3
       rw[this]at e;cases e
    ·exact(yk (S.w (i+1) (by omega)) h).2 hw.2
   exact P.p1 h ab cb ((S.JW (by omega) hj eV Xp c).gC (S.w (i+1) (by omega))) hw e
  ·have e0:ψ h=some cb:=by
    rcases P.news h cb e with e|e
    ·exact e
    ·exact absurd (.inr e) hw
   have Vf: ¬Wr l B i h:=by
    rintro⟨p',du,qa⟩;rw[hp]at du;cases du;exact hw (.inl qa)
   have hQ:=I.il h j ab cb hj (fun k hk hl=>by
    by_cases e:k=i
    ·subst e;exact Vf
    ·exact c1 k hk (by rintro(h|h);exact hl h;exact e h)) (fun k hk hl=>c2 k hk (.inl hl)) c e0
   refine P.p2 h ab cb e0 hQ (fun x=>hw (.inl x)) fun hD WZ=>?_
   rcases eM j i with jf|jf
   ·have eV: ∀k,j<=k->k<i->¬Wr l B k h:=by
     rintro k h1 h2 ⟨p',du,qa⟩;by_cases hl:L k
     ·exact c2 k h1 (.inl hl) ⟨p',du,qa⟩
     ·exact(fQ k p' h2 du hl).w1 h qa hD
    cases h with
    |inl y=>
     have c':cq (ss j) y=some ab:=c;have:=S.fix (x:=y) (j:=j) (i-j) (by omega) (fun k h1 h2=>eV k h1 (by omega)) (yp c');rw[show j+(i-j)=i by omega]at this;show cq (ss i) y=some ab;unfold cq at c'⊢;rw[this];exact c'
    |inr v=>
     have tS: ∃r,((B i).get r).bY=some v:=by
      rw[T.md]at hD;cases hq:q.k<;>rw[hq]at hD<;>first|exact hD.elim|(obtain⟨y,e⟩:=hD;cases e;done)|(obtain⟨y,p',_,e⟩:=hD;cases e;done)|(obtain⟨v',e,hv⟩:=hD;cases e;exact⟨_,hv⟩)
     obtain⟨r,hr⟩:=tS;obtain⟨bO,c'⟩:=ZBr (s:=ss i) hr;have c2':=S.JW (Nat.le_of_lt jf) (Nat.le_of_lt hi) eV (c.nB (S.qQ j hj)) c';rw[ZBq (S.qQ j hj) c c2'];exact c'
   ·refine S.JW jf hj (fun k h1 h2=>?_) WZ c
    rintro⟨p',du,qa⟩;rcases Nat.eq_or_lt_of_le h1 with e|e
    ·subst e;exact Vf ⟨p',du,qa⟩
    ·by_cases hl:L k
     ·exact(jv k p' e du hl).w2 h qa hD
     ·exact c1 k h2 (by rintro(h|h);exact hl h;omega) ⟨p',du,qa⟩
 ·rcases P.news h cb e with e|e
  ·exact I.news h cb e
  ·exact .inr ⟨fun x=>e.1 (S.qN (bH _) (by omega) x),S.qN (j:=i+1) (by omega) (ay _) ((yk (S.w (i+1) (by omega)) h).2 e.2)⟩
 ·rcases hk with hk|hk
  ·exact I.sub k hk
  ·omega
 ·rcases hk with hk|hk
  ·exact .inl (I.down j k hk hb)
  ·subst hk;exact .inl (tO j hb)
end
theorem Qe: ∀(l:List Bool) (i:Nat),l[i]? =some false->(l.set i true).count false+1=l.count false
 |[],i,h=>by simp at h
 |b::l,0,h=>by
  simp only[gV,cX]at h;subst h;simp
 |b::l,i+1,h=>by
  simp only[mq]at h;have:=Qe l i h;simp only[List.set_cons_succ,List.count_cons];omega
def kC (listed:Array Bool) (i:Nat):Prop:=listed[i]? =some true
theorem ZA3 {listed:Array Bool} {i:Nat} (hi:i<listed.size) (j:Nat):kC (listed.setIfInBounds i true) j↔kC listed j\/j=i:=by
 unfold kC;by_cases e:i=j
 ·subst e
  rw[zL hi];simp
 ·rw[xP e]
  constructor
  ·exact .inl
  ·rintro(h|h)
   ·exact h
   ·exact absurd h.symm e
theorem PW {listed:Array Bool} {i:Nat} (hi:i<listed.size) (h: ¬kC listed i):listed[i]? =some false:=by
 unfold kC at h;rw[Fq hi]at h⊢;cases hb:listed[i]with
 |false=>rfl
 |true=>rw[hb]at h;exact absurd rfl h
theorem Zsk {ops:Array Oper} {listed:Array Bool} {i:Nat} (h:i∈Region.ready .any ops listed):i<ops.size/\¬kC listed i/\∀o,ops[i]? =some o->∀e∈o.after,Region.binds .any e=true->kC listed e.on:=by
 unfold Region.ready at h;obtain⟨h1,h2⟩:=xU.1 h;rw[jE]at h1;simp only[aH,hJ]at h2;refine⟨h1,fun hl=>?_,fun o ho e he hb=>?_⟩
 ·unfold kC at hl
  have:=h2.1;rw[mn,hl]at this;cases this
 ·have h3:=h2.2
  rw[ho]at h3;simp only[lX,sO]at h3;rw[Array.all_eq_true']at h3;have:=h3 e he;rw[hb]at this;simp only[bx,ql]at this;unfold kC;rw[mn]at this;cases hx:listed[e.on]? with
  |none=>rw[hx]at this;cases this
  |some b=>rw[hx]at this;simp only[sO]at this;rw[this]
theorem Zy1 {ops:Array Oper} {listed:Array Bool} {i:Nat} {o:Oper} (ho:ops[i]? =some o) (hl:listed[i]? =some false) (h: ∀e∈o.after,Region.binds .any e=true->kC listed e.on):i∈Region.ready .any ops listed:=by
 unfold Region.ready;refine xU.2 ⟨jE.2 (rL ho),?_⟩;simp only[aH,hJ];refine⟨by rw[mn,hl];rfl,?_⟩;rw[ho];simp only[lX,sO];rw[Array.all_eq_true'];intro e he;cases hb:Region.binds .any e with
 |false=>rfl
 |true=>
  have:=h e he hb;unfold kC at this;simp[mn,this]
section
variable {C:aP} {pr ms:List Nat} {ops:Array Oper} {l:List (Oper×Md)} {is:List fg} {m:Nat} {A B:Nat->Env} {ss:Nat->St}
variable {f:Fr} {ψi:Ps} {L:Nat->Prop} {a:Act} {w:World} {ψ:Ps} {Q:Kn}
theorem Su.Wb (S:Su C pr ms ops l is m A B ss) {listed:Array Bool} (bG:listed.size=ops.size): ∀(n i:Nat),i<n->i<ops.size->¬kC listed i->Region.ready .any ops listed≠[]
 |0,i,h,_,_=>absurd h (uu i)
 |n+1,i,hn,hi,hl=>by
  have hp:l[i]? =some (l[i]'(by rw[S.Lv];exact hi)):=ba _;obtain⟨q,x,T⟩:=S.get hp;by_cases h: ∀e∈(l[i]'(by rw[S.Lv];exact hi)).1.after,Region.binds .any e=true->kC listed e.on
  ·intro e
   have:=Zy1 T.op (PW (by omega) hl) h;rw[e]at this;cases this
  ·simp only[Classical.not_forall]at h
   obtain⟨e,he,hb,hle⟩:=h;have:=T.lt _ (T.on e he hb);exact S.Wb bG n e.on (by omega) (by omega) hle
theorem Inv.congr {L':Nat->Prop} (I:Inv C f l is m A B ss ψi L a w ψ Q) (h: ∀i,L i↔L' i):Inv C f l is m A B ss ψi L' a w ψ Q:=by
 have:L=L':=funext fun i=>propext (h i)
 rw[<-this];exact I
theorem ZtW (S:Su C pr ms ops l is m A B ss) (hd: ∀p∈l,∀x,p.1.dst=some x->f.ok x=true) {QQ:Exit->Act->World->Prop}
  (qt:Nat->Prop) (bar:m<ops.size->(∀k,m<k->k<ops.size->wF is m k)/\∀i,i<m->wF is i m\/qt i)
  (fin:m=ops.size->∀a w ψ Q L,(∀i,i<m->L i)->Inv C f l is m A B ss ψi L a w ψ Q->QQ .normal a w)
  (cC:m<ops.size->∀K a w ψ Q L,(∀i,i<m->L i\/qt i)->Inv C f l is m A B ss ψi L a w ψ Q->wpOp C.P ops QQ m K a w):
  ∀(n:Nat) (listed:Array Bool) (a:Act) (w:World) (ψ:Ps) (Q:Kn),listed.size=ops.size->listed.toList.count false<=n->Inv C f l is m A B ss ψi (kC listed) a w ψ Q->wpAny C.P .any ops QQ n listed a w:=by
 have all: ∀(listed:Array Bool) (a:Act) (w:World) (ψ:Ps) (Q:Kn),listed.size=ops.size->Region.ready .any ops listed=[]->Inv C f l is m A B ss ψi (kC listed) a w ψ Q->QQ .normal a w:=by
  intro listed a w ψ Q bG hr I;have ca: ∀i,i<ops.size->kC listed i:=fun i hi=>Classical.byContradiction fun hn=>S.Wb bG (i+1) i (by omega) hi hn hr
  have hm:m=ops.size:=by
   rcases eM m ops.size with h|h
   ·have:=I.sub m (ca m h);omega
   ·exact Nat.le_antisymm S.hm h
  exact fin hm a w ψ Q _ (fun i hi=>ca i (by omega)) I
 intro n;induction n with
 |zero=>
  intro listed a w ψ Q bG hc I;have hr:Region.ready .any ops listed=[]:=by
   cases hr:Region.ready .any ops listed with
   |nil=>rfl
   |cons i r=>
    obtain⟨h1,h2,_⟩:=Zsk (i:=i) (ops:=ops) (listed:=listed) (by rw[hr];exact jZ);have:=Qe listed.toList i (by rw[gK];exact PW (by omega) h2);omega
  exact⟨hr,all listed a w ψ Q bG hr I⟩
 |succ n ih=>
  intro listed a w ψ Q bG hc I;refine⟨fun hr=>all listed a w ψ Q bG hr I,fun i hi=>?_⟩;obtain⟨h1,h2,h3⟩:=Zsk hi;have hp:l[i]? =some (l[i]'(by rw[S.Lv];exact h1)):=ba _;obtain⟨q,x,T⟩:=S.get hp;have tO: ∀j,wF is j i->kC listed j:=by
   rintro j ⟨q',hq,hb⟩;rw[T.iq]at hq;cases hq;obtain⟨e,he,Rp,hj⟩:=T.WS j hb;have hl:=h3 _ T.op e he Rp;rcases hj with rfl|hj
   ·exact hl
   ·exact I.down _ _ hl hj
  have DK:=Qe listed.toList i (by rw[gK];exact PW (by omega) h2);rcases Nat.lt_trichotomy i m with BC|BC|BC
  ·refine I.step S BC hp h2 tO (hd _ (fK _)) fun a' w' ψ' Q' I'=>?_
   exact ih _ _ _ ψ' Q' (by simpa using bG) (by rw[Array.toList_setIfInBounds];omega) (I'.congr fun j=>(ZA3 (by omega) j).symm)
  ·subst BC
   exact cC h1 _ a w ψ Q _ (fun k hk=>((bar h1).2 k hk).imp (tO k) id) I
  ·have:=I.sub m (tO m ((bar (by omega)).1 i BC h1))
   omega
theorem Rel.drew {E:Env} {s:St} (R:Rel C f ψ E s a w):Rel C f ψ E s a { w with drawn:=w.drawn+1 } where
 dH:=R.dH.more R.fh (fF.drew w)
 fA:=R.fA
 fh:=R.fh
 jd:=R.jd
 iu:=R.iu
 kV:=R.kV
 defs:=R.defs
 oV:=R.oV
 rC:=R.rC
 ext:=R.ext.trans (Ext.more (fF.drew w))
 news:=R.news
 len:=R.len
 fin:=R.fin
theorem Su.start (S:Su C pr ms ops l is m A B ss) (R:Rel C f ψ (A 0) (ss 0) a w) (hN:(ss m).length<=f.N):Inv C f l is m A B ss ψ (fun _=>False) a w ψ (CR (B 0) (ss 0)):=by
 have R0:=R.gC (S.w 0 (bH _));have Us: ∀h cb,ψ h=some cb->cS (B m) (ss m) h->cS (B 0) (ss 0) h:=by
  intro h cb e hd;cases h with
  |inl i=>
   rcases eM i (ss 0).length with h|h
   ·exact h
   ·rw[R0.oV i h (jH hd hN)]at e;cases e
  |inr v=>
   rcases eM v (B 0).aZ with h|h
   ·exact h
   ·rw[R0.rC v h]at e;cases e
 refine⟨R0.dH,R0.fh,R0.jd,fun t j hj c1 _=>?_,fun h j ab cb hj c1 _ c e=>?_,fun i h hi _ hn=>?_,fun h cb e=> .inl e,R0.ext,R0.kV,R0.defs,fun _ h=>h.elim,fun _ _ h=>h.elim⟩
 ·have:=S.bI (j:=0) (ψ:=ψ) (x:=a.tmps.getD t undef) (t:=t) j (by omega) (fun i p _ h hp=>c1 i p (by omega) hp (fun h=>h)) (R0.iu t)
  rwa [dj]at this
 ·exact S.JW (bH _) hj (fun i _ hi=>c1 i hi (fun h=>h)) (Us h cb e (S.qN hj (ay _) (c.nB (S.qQ j hj)))) c
 ·cases e:ψ h with
  |none=>rfl
  |some cb=>
   have h1:cS (B m) (ss m) h:=S.qN (j:=i+1) (by omega) (ay _) ((yk (S.w (i+1) (by omega)) h).2 hn.2);exact absurd (S.qN (bH _) (Nat.le_of_lt hi) (Us h cb e h1)) hn.1
theorem Inv.tail (S:Su C pr ms ops l is m A B ss) {w0:World} {a0:Act} (R:Rel C f ψi (A 0) (ss 0) a0 w0) (I:Inv C f l is m A B ss ψi L a w ψ Q):
  (∀i,(ss m).length<=i->i<f.N->ψ (.inl i)=none)/\(∀i cb,ψ (.inl i)=some cb->f.gq (.inl i)=some cb\/(f.s0.length<=i/\i<(ss m).length))/\f.s0.length<=(ss m).length:=by
 have hlen:(ss 0).length<=(ss m).length:=by
  rcases vU (ss 0).length with h|h
  ·omega
  ·have:=S.qN (h:= .inl ((ss 0).length-1)) (bH m) (ay m) (by simp only[cS];omega)
   simp only[cS]at this;omega
 refine⟨fun i h1 h2=>?_,fun i cb e=>?_,fw R.len hlen⟩
 ·cases e:ψ (.inl i)with
  |none=>rfl
  |some cb=>
   rcases I.news _ cb e with e|⟨_,e⟩
   ·rw[R.oV i (by omega) h2]at e;cases e
   ·simp only[cS]at e;omega
 ·rcases I.news _ cb e with e|⟨h1,h2⟩
  ·rcases R.news i cb e with h|⟨h1,h2⟩
   ·exact .inl h
   ·exact .inr ⟨h1,by omega⟩
  ·simp only[cS]at h1 h2
   exact .inr ⟨by have:=R.len;omega,h2⟩
theorem Inv.done (S:Su C pr ms ops l is m A B ss) {w0:World} {a0:Act} (R:Rel C f ψi (A 0) (ss 0) a0 w0) (I:Inv C f l is m A B ss ψi L a w ψ Q) (hL: ∀i,i<m->L i):Rel C f ψ (B m) (ss m) a w:=by
 have abo:(B 0).aZ=(A 0).aZ:=(S.w 0 (bH _)).aZ;have hlen:(ss 0).length<=(ss m).length:=by
  rcases vU (ss 0).length with h|h
  ·omega
  ·have:=S.qN (h:= .inl ((ss 0).length-1)) (bH m) (ay m) (by simp only[cS];omega)
   simp only[cS]at this;omega
 have il: ∀h ab cb,ψ h=some cb->CR (B m) (ss m) h ab->Q h ab:=fun h ab cb e c=>I.il h m ab cb (ay _) (fun i hi hl=>absurd (hL i hi) hl) (fun i hi hl=>by have:=I.sub i hl;omega) c e
 refine⟨I.dH.weaken il,S.qQ m (ay _),I.fh,I.jd,fun t=>I.iu t m (ay _) (fun i p hi _ hl=>absurd (hL i hi) hl) (fun i p hi _ hl=>by have:=I.sub i hl;omega),I.kV,I.defs,fun i h1 h2=>?_,fun v hv=>?_,I.ext.weaken il,fun i cb e=>?_,fw R.len hlen,R.fin⟩
 ·cases e:ψ (.inl i)with
  |none=>rfl
  |some cb=>
   rcases I.news _ cb e with e|⟨_,e⟩
   ·rw[R.oV i (by omega) h2]at e;cases e
   ·simp only[cS]at e;omega
 ·cases e:ψ (.inr v)with
  |none=>rfl
  |some cb=>
   rcases I.news _ cb e with e|⟨_,e⟩
   ·refine absurd e ?_
    have:v<(B m).aZ\/(A 0).aZ<=v:= .inr (by
     rcases eM v (A 0).aZ with h|h
     ·have:=S.qN (h:= .inr v) (bH m) (ay m) (by simp only[cS];omega)
      simp only[cS]at this;omega
     ·exact h)
    rw[R.rC v (by omega)];simp
   ·simp only[cS]at e;omega
 ·rcases I.news _ cb e with e|⟨h1,h2⟩
  ·rcases R.news i cb e with h|⟨h1,h2⟩
   ·exact .inl h
   ·exact .inr ⟨h1,by omega⟩
  ·simp only[cS]at h1 h2
   exact .inr ⟨by have:=R.len;omega,h2⟩
end
section
variable {C:aP} {f:Fr} {ψ:Ps} {E E2:Env} {s s2:St} {a:Act} {w:World} {pr ms:List Nat}
theorem lq.fn {dst:Nat->Option Nat} {l:List (Oper×Md)} (h:lq C dst pr ms l E s s2):
  ∃(m:Nat) (p:Oper×Md) (A B:Nat->Env) (ss:Nat->St),l[m]? =some p/\A 0=E/\ss 0=s/\GW dst (B m) p.1/\p.2.x=0/\sR C p.1 (mA p.2 (B m)) (B m) (ss m) s2/\(∀k,k<=m->j8 (A k) (B k))/\
   ∀k p,k<m->l[k]? =some p->Step C dst pr ms p (B k) (ss k) (A (k+1)) (ss (k+1)):=by
 induction h with
 | @gC l E E1 s s2 k _ ih=>
  obtain⟨m,p,A,B,ss,h1,h2,h3,h4,h5,h6,h7,h8⟩:=ih;refine⟨m,p,fun i=>if i=0 then E else A i,B,ss,h1,rfl,h3,h4,h5,h6,fun i hi=>?_,fun i q hi hq=>by simpa using h8 i q hi hq⟩;have:=h7 i hi;by_cases e:i=0
  ·subst e
   simp only[iM];rw[h2]at this;exact k.trans this
  ·simp only[e,iY];exact this
 | @here p l E s s' g hx hp=>
  exact⟨0,p,fun _=>E,fun _=>E,fun _=>s,rfl,rfl,rfl,g,hx,hp,fun _ _=> .refl E,fun k _ hk=>by omega⟩
 | @next p l E s E1 s1 s2 st _ ih=>
  obtain⟨m,p',A,B,ss,h1,h2,h3,h4,h5,h6,h7,h8⟩:=ih;refine⟨m+1,p',fun i=>match i with|0=>E|i+1=>A i,fun i=>match i with|0=>E|i+1=>B i,fun i=>match i with|0=>s|i+1=>ss i,by simpa using h1,rfl,rfl,h4,h5,h6,fun i hi=>?_,fun i q hi hq=>?_⟩
  ·cases i with
   |zero=>exact .refl E
   |succ i=>exact h7 i (by omega)
  ·cases i with
   |zero=>
    simp only[gV,cX]at hq;subst hq;simp only[h2,h3];exact st
   |succ i=>exact h8 i q (by omega) (by simpa using hq)
theorem Zui (n:Nat) (i:Nat): ¬kC (Array.replicate n false) i:=by
 unfold kC;rw[Array.getElem?_replicate];split<;>simp
theorem ZBB {ops:Array Oper} {QQ:Exit->Act->World->Prop} {l:List (Oper×Md)} {is:List fg} (vm:is=nU C.P pr ops.toList ops.toList []) (hl:l=flags C.mp is 0 is ops.toList) (dQ:zs 0 is ops.toList=true)
  (t:Tr C (kI ops) pr ms l E s E2 s2) (R:Rel C f ψ E s a w) (hN:s2.length<=f.N) (hd: ∀p∈l,∀x,p.1.dst=some x->f.ok x=true)
  (h: ∀ψ' a' w',Rel C f ψ' E2 s2 a' w'->QQ .normal a' w'):wpAny C.P .any ops QQ ops.size (Array.replicate ops.size false) a w:=by
 have hlen:l.length=ops.size:=by rw[hl,HY _ _ _ _ (by rw[vm,Il])];simp
 obtain⟨A,B,ss,h1,h2,h3,h4,h5⟩:=t.fn;have S:Su C pr ms ops l is ops.size A (fun k=>if k=ops.size then E2 else B k) ss:=by
  refine⟨vm,hl,dQ,ay _,fun k hk=>?_,fun k p hk hp=>?_,by rw[h1];exact R.fA⟩
  ·by_cases e:k=ops.size
   ·simp only[e,iM];rw[<-hlen];exact h4
   ·simp only[e,iY]
    exact(h5 k _ (ba (by omega))).1
  ·simp only[show ¬k=ops.size by omega,iY]
   exact(h5 k p hp).2
 rw[<-h1,<-h2]at R;refine ZtW (f:=f) S hd (fun _=>False) (fun h=>absurd h (Nat.lt_irrefl _)) (fun _ a' w' ψ' Q' L hL I=>?_) (fun h=>absurd h (Nat.lt_irrefl _)) _ _ _ _ _ _ (by simp) (by rw[Array.toList_replicate,List.count_replicate_self];exact ay _)
  ((S.start R (by rw[<-hlen,h3];exact hN)).congr fun i=>⟨False.elim,Zui _ i⟩)
 have:=I.done S R hL;simp only[iM]at this;rw[<-hlen,h3]at this;exact h _ _ _ this
theorem ZBe {ops:Array Oper} {QQ:Exit->Act->World->Prop} {l:List (Oper×Md)} {is:List fg} (vm:is=nU C.P pr ops.toList ops.toList []) (hl:l=flags C.mp is 0 is ops.toList) (dQ:zs 0 is ops.toList=true)
  (t:lq C (kI ops) pr ms l E s s2) (R:Rel C f ψ E s a w) (hN:s2.length<=f.N) (hd: ∀p∈l,∀x,p.1.dst=some x->f.ok x=true)
  (h: ∀ch a' w',l8 ch->oo C f s2 a' w'->QQ (.panic ch) a' w'):wpAny C.P .any ops QQ ops.size (Array.replicate ops.size false) a w:=by
 have hlen:l.length=ops.size:=by rw[hl,HY _ _ _ _ (by rw[vm,Il])];simp
 obtain⟨m,p,A,B,ss,hp,h1,h2,hg,hx,rk,hw,bB⟩:=t.fn;have hm:m<ops.size:=by
  rcases eM m l.length with h|h
  ·omega
  ·rw[dT h]at hp;cases hp
 have S:Su C pr ms ops l is m A B ss:=⟨vm,hl,dQ,by omega,hw,bB,by rw[h1];exact R.fA⟩;have hmN:(ss m).length<=f.N:=fw rk.1 hN;rw[<-h1,<-h2]at R;obtain⟨q,x,T⟩:=S.get hp;have vA:x=0:=by rw[T.md]at hx;exact hx
 have hz:=T.zero vA;refine ZtW (f:=f) (ψi:=ψ) S hd (fun i=>∀q',is[i]? =some q'->yu q'.k=true/\q.bf.testBit i=false/\q'.bf.testBit m=false) (fun _=>⟨fun k h1 h2=>?_,fun i hi=>?_⟩) (fun e=>by omega) (fun _ K a' w' ψ' Q' L hL I=>?_) _ _ _ _ _ _ (by simp) (by rw[Array.toList_replicate,List.count_replicate_self];exact ay _)
  ((S.start R hmN).congr fun i=>⟨False.elim,Zui _ i⟩)
 ·have hq:is[k]? =some (is[k]'(by rw[S.isLen];exact h2)):=ba _
  rcases hz k _ hq (by omega)with h|h|h
  ·exact⟨_,hq,h⟩
  ·have:=T.lt k h;omega
  ·omega
 ·have hq:is[i]? =some (is[i]'(by rw[S.isLen];omega)):=ba _
  have late:(is[i]'(by rw[S.isLen];omega)).bf.testBit m=false:=by
   cases h:(is[i]'(by rw[S.isLen];omega)).bf.testBit m with
   |false=>rfl
   |true=>
    have hpi:l[i]? =some (l[i]'(by omega)):=ba _;obtain⟨q',x',T'⟩:=S.get hpi;have e:=T'.iq;rw[hq]at e;cases e;have:=T'.lt m h;omega
  cases hb:q.bf.testBit i with
  |true=>exact .inl ⟨q,T.iq,hb⟩
  |false=>
   rcases hz i _ hq (by omega)with h|h|⟨_,h⟩
   ·rw[late]at h;cases h
   ·rw[hb]at h;cases h
   ·refine .inr fun q' e=>?_
    rw[hq]at e;cases e;exact⟨h,rfl,late⟩
 ·have hLm: ¬L m:=fun h=>by have:=I.sub m h;omega
  obtain⟨pre,rh⟩:=I.pre S (ay m) hp hLm (fun j hb=>by
   obtain⟨q',e,hb⟩:=hb;rw[T.iq]at e;cases e;rcases hL j (T.lt j hb)with h|h
   ·exact h
   ·have hq:is[j]? =some (is[j]'(by rw[S.isLen];have:=T.lt j hb;omega)):=ba _
    rw[(h _ hq).2.1]at hb;cases hb) (fun k p' hk du hl=>by
   obtain⟨q',x',T'⟩:=S.get du;rcases hL k hk with h|h
   ·exact absurd h hl
   ·obtain⟨h1,h2,_⟩:=h q' T'.iq
    refine⟨fun t ht=>?_,fun y hw=>?_⟩
    ·obtain⟨_,_,ha⟩:=Jf S.ok k q' T'.iq
     rcases ha m q hk T.iq with ha|ha
     ·rw[dj,h2]at ha;cases ha
     ·obtain⟨_,e1,_,_⟩:=ha
      rw[T'.dst,T.lk,ht]at e1;exact e1
    ·rw[T'.md]at hw
     generalize q'.k=z at h1 hw;cases z<;>first|exact hw.elim|cases h1) (fun k p' hk _ hl=>by have:=I.sub k hl;omega)
  obtain⟨Wy,Wx,aaX⟩:=I.tail S R;unfold wpOp;simp only[T.op];rw[aG (Zp0 rh hg)];refine .inl (rk.2 ψ' Q' a' w' K QQ pre (fun k hk=>?_) fun BW Ac ch qj g0 g1 g2 g3 g4=>h ch a' qj g0 ⟨I.defs,I.kV,_,Go.Gv.uQ (s':=s2) R.fin g1 (I.ext.trans g2) g4 fun i cb e=>?_⟩)
  ·cases k with
   |inl i=>
    have h1:=hk.1;have h2:=hk.2
    simp only[cS]at h1 h2;exact Wy i (by omega) (by omega)
   |inr v=>
    have h1:=hk.1;have h2:=hk.2
    exact absurd h2 h1
  ·rcases g3 _ cb e with e|⟨n1,n2⟩
   ·rcases Wx i cb e with h|⟨h1,h2⟩
    ·exact .inl h
    ·exact .inr ⟨h1,jH h2 rk.1⟩
   ·simp only[cS]at n1 n2
    exact .inr ⟨by omega,n2⟩
end
end Go.Gv
namespace Go.Gv
variable {β:Type}
section
variable {C:aP} {f:Fr} {ψ:Ps} {E E2:Env} {s s2:St} {a:Act} {w:World} {pr:List Nat}
theorem AM: ∀ {l:List Oper} {n:Nat->Bool},okO n l=true->∀o∈l,∀x,o.dst=some x->n x=true
 |[],_,_,o,ho,_,_=>by cases ho
 |y::r,n,h,o,ho,x,hx=>by
  simp only[okO,aH]at h;cases ho with
  |head=>
   have h1:=h.1;rw[hx]at h1;exact h1
  |tail _ ho=>exact AM h.2 o ho x hx
theorem Zxi (pr:List Nat) (ops:List Oper) (y:Oper) (r:List Oper) (x:Nat) (h:has (match y.dst with|some d=>d::tW pr ops r|none=>tW pr ops r) x=true):has (tW pr ops (y::r)) x=true:=by
 rw[tW];split
 ·split
  ·simp only[has,jD];exact .inr h
  ·exact h
 ·simp only[has,jD];exact .inr h
 ·exact h
theorem ZyA {pr:List Nat} {ops:List Oper} {o:Oper} {x:Nat} (hx:o.dst=some x): ∀(l:List Oper),o∈l->has (tW pr ops l) x=true:=by
 intro l;induction l with
 |nil=>intro ho;cases ho
 |cons y r ih=>
  intro ho;refine Zxi pr ops y r x ?_;cases ho with
  |head=>rw[hx];simp[has]
  |tail _ ho=>
   have:=ih ho;cases y.dst with
   |none=>exact this
   |some d=>simp[has,this]
theorem ZuH (hC:lZ C) {c:Zg} (hc:ZC C c) {ops:Array Oper} {d:Bool} {K:Env->M β} {r:Out β×St} (h:LH C pr c ops d E K s=some r):
  (∃E' s',s.length<=s'.length/\K E' s'=some r/\Mod (fun u=>has (jT pr (.region 0 ops d)) u=false) E E'/\
   ∀ {f:Fr} {ψ:Ps} {a:Act} {w:World} (QQ:Exit->Act->World->Prop) (id:Nat),Rel C f ψ E s a w->C.P.follows .mixedOrders=true->okO f.ok ops.toList=true->s'.length<=f.N->
    (∀ψ' a' w',Rel C f ψ' E' s' a' w'->QQ .normal a' w')->(Code.region id ops d).wp C.P QQ a w)\/
  (∃s',r=(.cC,s')/\s.length<=s'.length/\
   ∀ {f:Fr} {ψ:Ps} {a:Act} {w:World} (QQ:Exit->Act->World->Prop) (id:Nat),Rel C f ψ E s a w->C.P.follows .mixedOrders=true->okO f.ok ops.toList=true->s'.length<=f.N->
    (∀ch a' w',l8 ch->oo C f s' a' w'->QQ (.panic ch) a' w')->(Code.region id ops d).wp C.P QQ a w):=by
 have Yy: ∀(l:List (Oper×Md)),(∀p∈l,p.1∈ops.toList)->∀u,has (jT pr (.region 0 ops d)) u=false->FM (tW pr ops.toList ops.toList) l u:=by
  intro l hl u hu;refine⟨fun p hp e=>?_,hu⟩;have:=ZyA (pr:=pr) (ops:=ops.toList) e _ (hl p hp);simp only[jT]at hu;rw[hu]at this;cases this
 have wk: ∀ {l:List (Oper×Md)} {E':Env},(∀p∈l,p.1∈ops.toList)->Mod (FM (tW pr ops.toList ops.toList) l) E E'->Mod (fun u=>has (jT pr (.region 0 ops d)) u=false) E E':=
  fun hl m=>⟨fun u hu=>m.get u (Yy _ hl u hu),m.aZ,m.sG,m.uf⟩
 cases d with
 |false=>
  simp only[LH,cond_false]at h;have hl: ∀p∈ops.toList.map (fun o=>(o,Md.s)),p.1∈ops.toList:=by
   intro p hp;obtain⟨o,ho,rfl⟩:=dP.1 hp;exact ho
  have hi: ∀k p,(ops.toList.map fun o=>(o,Md.s))[k]? =some p->ops[0+k]? =some p.1:=by
   intro k p hp;rw[gL]at hp;cases ho:ops.toList[k]? with
   |none=>rw[ho]at hp;cases hp
   |some o=>
    rw[ho]at hp;simp only[lX,cX]at hp;subst hp;rw[dj,<-gK];exact ho
  have bG:(ops.toList.map fun o=>(o,Md.s)).length=ops.size:=by simp
  rcases Zsl (dst:=kI ops) hC hc (ops:=ops.toList) _ _ _ _ _ _ h (fun p hp=>by obtain⟨o,_,rfl⟩:=dP.1 hp;exact .inl rfl) (fun g hg=>by cases hg)with⟨E',s',t,hk,_,hm⟩|⟨s',e,t⟩
  ·refine .inl ⟨E',s',t.len,hk,wk hl hm,fun QQ id R _ ho hN hn=>wp_region ?_⟩
   have:=Zz0 (QQ:=QQ) t R hN (fun p hp x hx=>AM ho p.1 (hl p hp) x hx) hi hn;rw[bG]at this
   rwa [Fy]
  ·refine .inr ⟨s',e,t.len,fun QQ id R _ ho hN hn=>wp_region ?_⟩
   have:=ZyG (QQ:=QQ) t R hN (fun p hp x hx=>AM ho p.1 (hl p hp) x hx) hi hn;rw[bG]at this
   rwa [Fy]
 |true=>
  simp only[LH,cond_true]at h;obtain⟨dQ,h⟩:=Zp h;have hl: ∀p∈flags C.mp (nU C.P pr ops.toList ops.toList []) 0 (nU C.P pr ops.toList ops.toList []) ops.toList,p.1∈ops.toList:=by
   intro p hp;obtain⟨k,hk⟩:=xR hp;obtain⟨q,o,_,h2,rfl⟩:=IX _ _ _ _ _ _ hk;exact lh h2
  rcases Zsl (dst:=kI ops) hC hc (ops:=ops.toList) _ _ _ _ _ _ h (fun p hp=>by
   obtain⟨k,hk⟩:=xR hp;obtain⟨q,o,h1,h2,rfl⟩:=IX _ _ _ _ _ _ hk;obtain⟨o',g1,_,g3,_,_⟩:=Pt _ _ _ _ _ _ _ h1;rw[h2]at g1;cases g1;exact .inr ⟨_,_,_,by rw[g3]⟩) (fun g hg=>by cases hg)with⟨E',s',t,hk,_,hm⟩|⟨s',e,t⟩
  ·exact .inl ⟨E',s',t.len,hk,wk hl hm,fun QQ id R hf ho hN hn=>wp_region_any hf (ZBB rfl rfl dQ t R.drew hN (fun p hp x hx=>AM ho p.1 (hl p hp) x hx) hn)⟩
  ·exact .inr ⟨s',e,t.len,fun QQ id R hf ho hN hn=>wp_region_any hf (ZBe rfl rfl dQ t R.drew hN (fun p hp x hx=>AM ho p.1 (hl p hp) x hx) hn)⟩
end
theorem dU.cast {C:aP} {ψ ψ':Ps} {Q Q':Kn} {w:World} (hS:dU C ψ Q w) (hc: ∀h cb ab,ψ' h=some cb->Q' h ab->ψ h=some cb/\∃bO,Q h bO/\(ab.fE=true->bO.fE=true)/\(Holds C ψ w cb bO->Holds C ψ' w cb ab)):dU C ψ' Q' w:=by
 constructor
 ·intro h cb ab e q
  obtain⟨e0,bO,q0,_,hh⟩:=hc h cb ab e q;exact hh (hS.holds h cb bO e0 q0)
 ·intro h cb ab h' eN bO e q hs e' q' hn
  obtain⟨e0,x,q0,s0,_⟩:=hc h cb ab e q;obtain⟨e1,y,q1,_,_⟩:=hc h' eN bO e' q';exact hS.pJ h cb x h' eN y e0 q0 (s0 hs) e1 q1 hn
theorem Ext.cast {gq ψ ψ':Ps} {Q0 Q Q':Kn} {w0 w:World} (hE:Ext gq Q0 w0 ψ Q w) (hm: ∀h cb,gq h=some cb->ψ' h=some cb) (hp: ∀h cb,ψ' h=some cb->ψ h=some cb)
  (hc: ∀h cb ab,ψ' h=some cb->Q' h ab->∃bO,Q h bO/\(ab.fE=true->bO.fE=true)):Ext gq Q0 w0 ψ' Q' w where
 mono:=hm
 oS:=fun h cb e=>hE.oS h cb (hp h cb e)
 size:=hE.size
 gF:=hE.gF
 fE:=fun b ⟨h,cb,ab,e,q,hs,hb⟩=>by
  obtain⟨bO,q',gY⟩:=hc h cb ab e q;exact hE.fE b ⟨h,cb,bO,hp h cb e,q',gY hs,hb⟩
 live:=fun h cb x e q=>by
  obtain⟨bO,q',_⟩:=hc h cb x (hm h cb e) q;exact hE.live h cb bO e q'
 tape:=hE.tape
 os:=hE.os
 output:=hE.output
def pI (ψ:Ps) (N:Nat):Ps
 | .inl i=>ψ (.inl i)
 | .inr v=>if v<N then ψ (.inr v)else none
theorem O6 {ψ:Ps} {N:Nat} {h:cB} {cb:CB} (e:pI ψ N h=some cb):ψ h=some cb:=by
 cases h with
 |inl i=>exact e
 |inr v=>simp only[pI]at e;split at e;exact e;cases e
structure LY (cs cs':List DV):Prop where
 len:cs'.length=cs.length
 rel: ∀(C:aP) ψ vs,aS C ψ cs vs->aS C ψ cs' vs
 one:cs.all one=true->cs'.all one=true
theorem Holds.WL {C:aP} {ψ:Ps} {w:World} {cb:CB} {f:Bool} {cs cs':List DV} (k:LY cs cs') (h:Holds C ψ w cb (.cells f cs)):Holds C ψ w cb (.cells f cs'):=by
 obtain⟨h1,h2,h3,h4⟩:=h;refine⟨by rw[k.len];exact h1,k.one h2,fun j d hd=>?_,h4⟩;have hv:aS C ψ cs ((List.range cs.length).map fun j=>(w.cell? ⟨cb.b,cb.o+j,none⟩).getD undef):=by
  refine aS.of _ _ (by simp) fun j d v g1 g2=>?_
  obtain⟨v',cQ,hr⟩:=h3 j d g1;rw[gL]at g2;have hj:j<cs.length:=by
   rcases eM j cs.length with h|h
   ·exact h
   ·rw[dT h]at g1;cases g1
  rw[og hj]at g2;simp only[lX,cX,cQ,sO]at g2;rw[<-g2];exact hr
 obtain⟨v,cQ,hr⟩:=(k.rel C ψ _ hv).get hd;rw[gL]at cQ;have hj:j<cs.length:=by
  rcases eM j cs.length with h|h
  ·exact h
  ·rw[dT (by rw[k.len];exact h)]at hd;cases hd
 rw[og hj]at cQ;simp only[lX,cX]at cQ;obtain⟨v',hc,_⟩:=h3 j cs[j] (ba hj);rw[hc]at cQ;simp only[sO]at cQ;exact⟨v,by rw[hc,cQ],hr⟩
inductive Wj (e:dx):dx->Prop
 |u:Wj e .u
 |same:Wj e e
 |v (d d':DV):e= .v d->(∀(C:aP) ψ x,VR C ψ d x->VR C ψ d' x)->Wj e (.v d')
 |loc (v n:Nat) (cs cs':List DV):e= .loc v n cs->LY cs cs'->Wj e (.loc v n cs')
structure wa (E E':Env):Prop where
 aZ:E'.aZ<=E.aZ
 get: ∀t,Wj (E.get t) (E'.get t)
 bY: ∀t v,(E'.get t).bY=some v->v<E'.aZ
 pl: ∀t r v o,E'.get t= .pl r v o->v<E'.aZ
theorem Wj.bY {e e':dx} (h:Wj e e') {v:Nat} (hv:e'.bY=some v):e.bY=some v:=by
 cases h with
 |u=>cases hv
 |same=>exact hv
 |v d d' _ _=>cases hv
 |loc v' n cs cs' he _=>rw[he];exact hv
section
variable {C:aP} {f:Fr} {ψ:Ps} {E E':Env} {s:St} {a:Act} {w:World}
theorem CR.ug (k:wa E E') {h:cB} {ab:AB} (c:CR E' s h ab): ∃bO,CR E s h bO/\(ab.fE=true->bO.fE=true)/\∀(C:aP) ψ w cb,Holds C ψ w cb bO->Holds C ψ w cb ab:=by
 cases h with
 |inl i=>exact⟨ab,c,fun h=>h,fun _ _ _ _ h=>h⟩
 |inr v=>
  rcases c with⟨t,n,cs,e,rfl⟩|⟨t,l,p,e,rfl⟩
  ·have:=k.get t
   rw[e]at this;generalize he:E.get t=x at this;cases this with
   |same=>exact⟨_,.inl ⟨t,n,cs,he,rfl⟩,fun h=>h,fun _ _ _ _ h=>h⟩
   |loc _ _ kd _ h1 h2=>exact⟨_,.inl ⟨t,n,kd,he.trans h1,rfl⟩,fun h=>h,fun _ _ _ _ h=>h.WL h2⟩
  ·have:=k.get t
   rw[e]at this;generalize he:E.get t=x at this;cases this with
   |same=>exact⟨_,.inr ⟨t,l,p,he,rfl⟩,fun h=>h,fun _ _ _ _ h=>h⟩
theorem Holds.pI {N:Nat} {cb:CB} {ab:AB} (h:Holds C ψ w cb ab):Holds C (Go.Gv.pI ψ N) w cb ab:=h.same (ψ:=ψ) (ψ':=Go.Gv.pI ψ N) (fun _ _ e=>e) rfl
theorem gW.ug (h:gW E) (k:wa E E'):gW E':=by
 refine⟨k.bY,k.pl,fun t v n cs e=>?_,fun t t' v hv cQ=>h.uniq t t' v ((k.get t).bY hv) ((k.get t').bY cQ)⟩;have:=k.get t;rw[e]at this;generalize he:E.get t=x at this;cases this with
 |same=>exact h.len t v n cs he
 |loc _ _ kd _ h1 h2=>rw[h2.len];exact h.len t v n kd (he.trans h1)
theorem Rel.ug (R:Rel C f ψ E s a w) (k:wa E E'):Rel C f (pI ψ E'.aZ) E' s a w where
 dH:=R.dH.cast fun h cb ab e c=>by
  obtain⟨bO,c',hs,hh⟩:=c.ug k;exact⟨O6 e,bO,c',hs,fun x=>(hh C ψ w cb x).pI⟩
 fA:=R.fA.ug k
 fh:=fun h cb e=>R.fh h cb (O6 e)
 jd:=fun g hg=>R.jd g hg
 iu:=fun t=>by
  have h:=R.iu t;have tS:=k.bY t;have kl:=k.pl t;have gF: ∀v cb,v<E'.aZ->ψ (.inr v)=some cb->pI ψ E'.aZ (.inr v)=some cb:=fun v cb hv e=>by simp only[pI,aG hv];exact e
  have:=k.get t;generalize nI:E'.get t=x' at this tS kl;generalize he:E.get t=x at this h;have same:eB C ψ x' (a.tmps.getD t Go.undef)->eB C (pI ψ E'.aZ) x' (a.tmps.getD t Go.undef):=by
   intro h;cases x' with
   |u=>trivial
   |un=>exact h
   |v d=>exact VR.mono (ψ:=ψ) (ψ':=pI ψ E'.aZ) (fun _ _ e=>e) h
   |mY ds=>obtain⟨vs,e,r⟩:=h;exact⟨vs,e,r.mono (ψ:=ψ) (ψ':=pI ψ E'.aZ) fun _ _ e=>e⟩
   |loc v n cs=>obtain⟨cb,e,r⟩:=h;exact⟨cb,gF v cb (tS v rfl) e,r⟩
   |pl q v n=>obtain⟨cb,e,r⟩:=h;exact⟨cb,gF v cb (kl q v n rfl) e,r⟩
   |it v l p=>obtain⟨cb,e,r⟩:=h;exact⟨cb,gF v cb (tS v rfl) e,r⟩
  cases this with
  |u=>trivial
  |same=>exact same h
  |v d d' e hc=>subst e;exact same (hc C ψ _ h)
  |loc v n cs cs' e hc=>subst e;exact same h
 kV:=R.kV
 defs:=R.defs
 oV:=R.oV
 rC:=fun v hv=>by simp only[pI];rw[ax (by omega)]
 ext:=R.ext.cast (fun h cb e=>by
   cases h with
   |inl i=>exact R.ext.mono _ _ e
   |inr v=>rw[R.fin]at e;cases e) (fun h cb e=>O6 e) (fun h cb ab _ c=>by
   obtain⟨bO,c',hs,_⟩:=c.ug k;exact⟨bO,c',hs⟩)
 news:=fun i cb e=>R.news i cb e
 len:=R.len
 fin:=R.fin
inductive GJ (E0 E:Env):List (Nat×JS)->List DV->Prop
 |nil:GJ E0 E [] []
 |v (t:Nat) (x:Sh) (d:DV) (r:List (Nat×JS)) (ds:List DV):E.get t= .v d->GJ E0 E r ds->GJ E0 E ((t,.v x)::r) (d::ds)
 |l (t:Nat) (x:List B) (v n n0:Nat) (cs kd:List DV) (r:List (Nat×JS)) (ds:List DV):E.get t= .loc v n cs->E0.get t= .loc v n0 kd->GJ E0 E r ds->GJ E0 E ((t,.l x)::r) (.agg cs::ds)
 |t (t:Nat) (v:Nat) (l l0:List UInt8) (p p0:Nat) (r:List (Nat×JS)) (ds:List DV):E.get t= .it v l p->E0.get t= .it v l0 p0->GJ E0 E r ds->GJ E0 E ((t,.t)::r) (.nat p::ds)
theorem sW {E0 E:Env} : ∀ {J:List (Nat×JS)} {K:List DV->M β} {s:St} {r:Out β×St},oC E0 E J K s=some r->∃ds,GJ E0 E J ds/\K ds s=some r
 |[],K,s,r,h=>⟨[],.nil,h⟩
 |(t,x)::J,K,s,r,h=>by
  simp only[oC]at h;cases x with
  |v x=>
   cases e:E.get t with
   |v d=>
    rw[e]at h;obtain⟨ds,g,hk⟩:=sW h;exact⟨_,.v t x d J ds e g,hk⟩
   |_=>rw[e]at h;cases h
  |l x=>
   cases e:E.get t with
   |loc v n cs=>
    rw[e]at h;cases e0:E0.get t with
    |loc v0 n0 kd=>
     rw[e0]at h;simp only at h;obtain⟨hv,h2⟩:=Zp h;have:=cc hv;subst this;obtain⟨ds,g,hk⟩:=sW h2;exact⟨_,.l t x v0 n n0 cs kd J ds e e0 g,hk⟩
    |_=>rw[e0]at h;cases h
   |_=>rw[e]at h;cases h
  |t=>
   cases e:E.get t with
   |it v l p=>
    rw[e]at h;cases e0:E0.get t with
    |it v0 l0 p0=>
     rw[e0]at h;simp only at h;obtain⟨hv,h2⟩:=Zp h;have:=cc hv;subst this;obtain⟨ds,g,hk⟩:=sW h2;exact⟨_,.t t v0 l l0 p p0 J ds e e0 g,hk⟩
    |_=>rw[e0]at h;cases h
   |_=>rw[e]at h;cases h
inductive PJ (E:Env):List (Nat×JS)->List DV->Env->Env->Prop
 |nil (E1:Env):PJ E [] [] E1 E1
 |v (t:Nat) (x:Sh) (d d':DV) (r:List (Nat×JS)) (ds:List DV) (E1 E':Env):(∀(C:aP) ψ x,VR C ψ d x->VR C ψ d' x)->PJ E r ds (E1.put t (.v d')) E'->PJ E ((t,.v x)::r) (d::ds) E1 E'
 |l (t:Nat) (x:List B) (v n:Nat) (kd cs cs':List DV) (r:List (Nat×JS)) (ds:List DV) (E1 E':Env):E.get t= .loc v n kd->LY cs cs'->PJ E r ds (E1.put t (.loc v n cs')) E'->PJ E ((t,.l x)::r) (.agg cs::ds) E1 E'
 |t (t:Nat) (v:Nat) (l:List UInt8) (p0 p:Nat) (r:List (Nat×JS)) (ds:List DV) (E1 E':Env):E.get t= .it v l p0->PJ E r ds (E1.put t (.it v l p)) E'->PJ E ((t,.t)::r) (.nat p::ds) E1 E'
theorem yg {E:Env} : ∀ {J:List (Nat×JS)} {st:List DV} {E1:Env} {K:Env->M β} {s:St} {r:Out β×St},oP E J st E1 K s=some r->∃E',PJ E J st E1 E'/\K E' s=some r
 |[],st,E1,K,s,r,h=>by
  simp only[oP]at h;cases st with
  |nil=>exact⟨E1,.nil E1,h⟩
  |cons _ _=>cases h
 |(t,x)::J,st,E1,K,s,r,h=>by
  simp only[oP]at h;cases st with
  |nil=>cases h
  |cons d rest=>
   simp only[D.cons]at h;cases x with
   |v x=>
    obtain⟨d',h,hd,_⟩:=Jl h;obtain⟨E',g,hk⟩:=yg h;exact⟨E',.v t x d d' J rest E1 E' hd g,hk⟩
   |l x=>
    cases e:E.get t with
    |loc v n kd=>
     rw[e]at h;cases d with
     |agg cs=>
      obtain⟨cs',h,hl,hr,h1⟩:=Cw h;obtain⟨E',g,hk⟩:=yg h;exact⟨E',.l t x v n kd cs cs' J rest E1 E' e ⟨hl,hr,h1⟩ g,hk⟩
     |_=>cases h
    |_=>rw[e]at h;cases h
   |t=>
    cases e:E.get t with
    |it v l p0=>
     rw[e]at h;cases d with
     |nat p=>
      obtain⟨E',g,hk⟩:=yg h;exact⟨E',.t t v l p0 p J rest E1 E' e g,hk⟩
     |_=>cases h
    |_=>rw[e]at h;cases h
theorem PJ.ug {E0 E2:Env} (h0:gW E0) (hv: ∀t v n cs,E2.get t= .loc v n cs->(∃kd,E0.get t= .loc v n kd)\/E0.aZ<=v) (hi: ∀t v l p,E2.get t= .it v l p->(∃p0,E0.get t= .it v l p0)\/E0.aZ<=v):
  ∀ {J:List (Nat×JS)} {ds:List DV} {E1 E':Env},GJ E0 E2 J ds->PJ E0 J ds E1 E'->E1.aZ=E0.aZ->E0.aZ<=E2.aZ->wa E2 E1->wa E2 E'/\E'.aZ=E0.aZ/\(∀fM u,xG fM J=true->has fM u=false->E'.get u=E1.get u):=by
 intro J;induction J with
 |nil=>
  intro ds E1 E' g p h1 _ k;cases g;cases p;exact⟨k,h1,fun _ _ _ _=>rfl⟩
 |cons x J ih=>
  intro ds E1 E' g p h1 hn k;obtain⟨t,x⟩:=x;have fin: ∀ {e:dx} {ds:List DV},Wj (E2.get t) e->(∀v,e.bY=some v->v<E0.aZ)->(∀r v o,e≠ .pl r v o)->GJ E0 E2 J ds->PJ E0 J ds (E1.put t e) E'->wa E2 E'/\E'.aZ=E0.aZ/\(∀fM u,xG fM ((t,x)::J)=true->has fM u=false->E'.get u=E1.get u):=by
   intro e ds hw tS kl g p;obtain⟨r1,r2,r3⟩:=ih g p (by simpa using h1) hn ⟨by simp[h1,hn],fun u=>by
     rw[Env.oD];split
     ·rename_i e;subst e;exact hw
     ·exact k.get u,fun u v e=>by
     rw[Env.oD]at e;rw[Env.VY,h1];split at e
     ·exact tS v e
     ·have:=k.bY u v e;omega,fun u r v o e=>by
     rw[Env.oD]at e;rw[Env.VY,h1];split at e
     ·exact absurd e (kl r v o)
     ·have:=k.pl u r v o e;omega⟩
   refine⟨r1,r2,fun fM u h1 h2=>?_⟩;simp only[xG,aH]at h1;rw[r3 fM u h1.2 h2,Env.oD,ax];intro e;subst e;rw[h1.1]at h2;cases h2
  cases p with
  |v _ sx d d' _ ds _ _ hc p=>
   cases g with
   |v _ _ _ _ _ e g=>exact fin (.v d d' e hc) (fun v h=>by cases h) (fun _ _ _ h=>by cases h) g p
  |l _ sx v n kd cs cs' _ ds _ _ he hc p=>
   cases g with
   |l _ _ v2 n2 n0 _ cU _ _ e e0 g=>
    rw[he]at e0;cases e0;rcases hv t _ _ _ e with⟨c,e1⟩|e1
    ·rw[he]at e1;cases e1
     exact fin (.loc _ _ cs cs' e hc) (fun v h=>by cases h;exact h0.lt t _ (by rw[he];rfl)) (fun _ _ _ h=>by cases h) g p
    ·have:=h0.lt t _ (by rw[he];rfl);omega
  |t _ v l p0 q _ ds _ _ he p=>
   cases g with
   |t _ v2 l2 l0 _ p2 _ _ e e0 g=>
    rw[he]at e0;cases e0;rcases hi t _ _ _ e with⟨c,e1⟩|e1
    ·rw[he]at e1;cases e1
     exact fin (by rw[e];exact .same) (fun v h=>by cases h;exact h0.lt t _ (by rw[he];rfl)) (fun _ _ _ h=>by cases h) g p
    ·have:=h0.lt t _ (by rw[he];rfl);omega
abbrev Un (l:List Nat) (u:Nat):Prop:=has l u=false
theorem Oq {E0 E2 E':Env} {J:List (Nat×JS)} {ds:List DV} {fM:List Nat} (h0:gW E0) (hm:Mod (Un fM) E0 E2) (g:GJ E0 E2 J ds) (p:PJ E0 J ds (E0.del fM) E') (hj:xG fM J=true):
  wa E2 E'/\Mod (Un fM) E0 E':=by
 have k0:wa E2 (E0.del fM):=by
  refine⟨hm.aZ,fun t=>?_,fun t v e=>?_,fun t r v o e=>?_⟩
  ·rw[uI]
   cases h:has fM t with
   |true=>exact .u
   |false=>rw[hm.get t h];exact .same
  ·rw[uI]at e
   split at e
   ·cases e
   ·exact h0.lt t v e
  ·rw[uI]at e
   split at e
   ·cases e
   ·exact h0.pl t r v o e
 obtain⟨r1,r2,r3⟩:=PJ.ug h0 hm.sG hm.uf g p rfl hm.aZ k0;have und: ∀u,Un fM u->E'.get u=E0.get u:=fun u hu=>by
  have hu':has fM u=false:=hu;rw[r3 fM u hj hu,uI,hu'];rfl
 refine⟨r1,und,by omega,fun t v n cs e=>?_,fun t v l p e=>?_⟩
 ·have:=r1.get t
  rw[e]at this;generalize he:E2.get t=x at this;cases this with
  |same=>exact hm.sG t v n cs he
  |loc _ _ kd _ h1 _=>exact hm.sG t v n kd (he.trans h1)
 ·have:=r1.get t
  rw[e]at this;generalize he:E2.get t=x at this;cases this with
  |same=>exact hm.uf t v l p he
end
end Go.Gv
namespace Go.Gv
variable {β:Type}
def Lk (K:Env->M β) (r:Out β×St):Prop:=∀E s,K E s=some r->s.length<=r.2.length
theorem IK {E:Env} {fM:List Nat} {J:List (Nat×JS)} {K:Env->M β} {g:(Env->M β)->M β} {s:St} {r:Out β×St} (h:SZ E fM J K g s=some r):
  xG fM J=true/\g (fun E1=>oC E E1 J fun st=>oP E J st (E.del fM) K) s=some r:=by
 obtain⟨h1,h⟩:=Zp h;rw[M.Ls]at h;exact⟨h1,h⟩
theorem Oo {E0 E1:Env} {fM:List Nat} {J:List (Nat×JS)} {K:Env->M β} {s:St} {r:Out β×St} (h:oC E0 E1 J (fun st=>oP E0 J st (E0.del fM) K) s=some r):
  ∃ds E',GJ E0 E1 J ds/\PJ E0 J ds (E0.del fM) E'/\K E' s=some r:=by
 obtain⟨ds,g,h⟩:=sW h;obtain⟨E',p,h⟩:=yg h;exact⟨ds,E',g,p,h⟩
theorem Lk.ED {E0:Env} {fM:List Nat} {J:List (Nat×JS)} {K:Env->M β} {r:Out β×St} (h:Lk K r):Lk (fun E1=>oC E0 E1 J fun st=>oP E0 J st (E0.del fM) K) r:=by
 intro E1 s hs;obtain⟨_,E',_,_,hs⟩:=Oo hs;exact h E' s hs
theorem Lk.block {id:Nat} {K:Env->M β} {kx:Nat->Env->M β} {r:Out β×St} (h:Lk K r) (hx: ∀i,Lk (kx i) r): ∀i,Lk (fun E1=>bif Nat.beq i id then K E1 else kx i E1) r:=by
 intro i E s hs;cases hb:Nat.beq i id with
 |true=>simp only[hb]at hs;exact h E s hs
 |false=>simp only[hb]at hs;exact hx i E s hs
section
variable {C:aP} {pr:List Nat} {c:Zg} {n:Nat} {r:Out β×St}
theorem C2 (hC:lZ C) (hc:ZC C c): ∀(code:Code) (A:ng) (kn:Env->M β) (kx:Nat->Env->M β) (kr:Env->M β),Lk kn r->(∀i,Lk (kx i) r)->Lk kr r->Lk (exec C pr c n code A kn kx kr) r:=by
 intro code;induction code with
 |skip=>intro A kn kx kr hn hx hr E s h;exact hn E s h
 |region id ops d=>
  intro A kn kx kr hn hx hr E s h;simp only[exec]at h;rcases ZuH hC hc h with⟨E',s',hl,hk,_,_⟩|⟨s',e,hl,_⟩
  ·exact fw hl (hn E' s' hk)
  ·rw[e];exact hl
 |seq a b zg zh=>
  intro A kn kx kr hn hx hr E s h;simp only[exec]at h;exact zg A.a _ kx kr (fun E' s' h'=>zh A.b kn kx kr hn hx hr E' s' h') hx hr E s h
 |cond x a b zg zh=>
  intro A kn kx kr hn hx hr E s h;simp only[exec]at h;obtain⟨v,_,h⟩:=Ol h;have two: ∀ {A1 A2:ng} {kn:Env->M β},Lk kn r->(bif v then exec C pr c n a A1 kn kx kr E else exec C pr c n b A2 kn kx kr E) s=some r->s.length<=r.2.length:=by
   intro A1 A2 kn hn h;cases v with
   |true=>exact zg A1 kn kx kr hn hx hr E s h
   |false=>exact zh A2 kn kx kr hn hx hr E s h
  cases A with
  |j J A1 A2=>exact two (Lk.ED hn) (IK h).2
  |z=>exact two hn h
  |n A1 A2=>exact two hn h
 |block id body ih=>
  intro A kn kx kr hn hx hr E s h;simp only[exec]at h;cases A with
  |j J A1 A2=>exact ih A1 _ _ kr (Lk.ED hn) (Lk.block (Lk.ED hn) hx) hr E s (IK h).2
  |z=>exact ih _ _ _ kr hn (Lk.block hn hx) hr E s h
  |n A1 A2=>exact ih _ _ _ kr hn (Lk.block hn hx) hr E s h
 |loop body ih=>
  intro A kn kx kr hn hx hr E s h;simp only[exec]at h;cases A with
  |j J A1 A2=>
   obtain⟨hj,h⟩:=Zp h;obtain⟨st,_,h⟩:=sW h;have key: ∀(k:Nat) (st:List DV) (s:St),M.loop (fun rec st=>oP E J st (E.del (jT pr body)) fun E1=>exec C pr c n body A1 (fun E2=>oC E E2 J rec) kx kr E1) k st s=some r->s.length<=r.2.length:=by
    intro k;induction k with
    |zero=>intro st s h;cases h
    |succ k SU=>
     intro st s h;simp only[M.loop]at h;obtain⟨E',_,h⟩:=yg h;refine ih A1 _ kx kr (fun E2 s2 h2=>?_) hx hr E' s h;obtain⟨eW,_,h2⟩:=sW h2;exact SU eW s2 h2
   exact key n st s h
  |z=>cases h
  |n A1 A2=>cases h
 |exit id=>intro A kn kx kr hn hx hr E s h;exact hx id E s h
 |ret=>intro A kn kx kr hn hx hr E s h;exact hr E s h
 |_=>intros;intro E s h;cases h
theorem Zph (l l':List Nat) (u:Nat):has (l++l') u=(has l u||has l' u):=by
 induction l with
 |nil=>rfl
 |cons x l ih=>simp only[kz,has,ih,Bool.or_assoc]
theorem Un.left {l l':List Nat} {u:Nat} (h:Un (l++l') u):Un l u:=by
 have h':has (l++l') u=false:=h;rw[Zph,kZ]at h';exact h'.1
theorem Un.right {l l':List Nat} {u:Nat} (h:Un (l++l') u):Un l' u:=by
 have h':has (l++l') u=false:=h;rw[Zph,kZ]at h';exact h'.2
theorem Mod.un {un Fc:Nat->Prop} {E E':Env} (h:Mod un E E') (k: ∀u,Fc u->un u):Mod Fc E E':=⟨fun u hu=>h.get u (k u hu),h.aZ,h.sG,h.uf⟩
variable {f:Fr}
theorem Rel.eval {ψ:Ps} {E:Env} {s:St} {a:Act} {w:World} (R:Rel C f ψ E s a w) (x:Operand):eB C ψ (E.src C x) (a.eval x):=by
 have p:ar C ⟨none,.move x,0, "", #[],none⟩ (fun _=>True) E s ψ (CR E s) a w:=R.pre;exact p.src (by simp[Op.operands])
theorem PX (hC:lZ C) (hc:ZC C c) (ra:C.P.follows .mixedOrders=true) (hN:r.2.length<=f.N): ∀(code:Code) (A:ng) (kn:Env->M β) (kx:Nat->Env->M β) (kr:Env->M β),tX f.ok code=true->Lk kn r->(∀i,Lk (kx i) r)->Lk kr r->
  ∀(E:Env) (s:St),exec C pr c n code A kn kx kr E s=some r->∀(ψ:Ps) (a:Act) (w:World) (QQ:Exit->Act->World->Prop),Rel C f ψ E s a w->
  (∀E' s' ψ' a' w',kn E' s'=some r->Rel C f ψ' E' s' a' w'->Mod (Un (jT pr code)) E E'->QQ .normal a' w')->
  (∀i E' s' ψ' a' w',kx i E' s'=some r->Rel C f ψ' E' s' a' w'->Mod (Un (jT pr code)) E E'->QQ (.exit i) a' w')->
  (∀E' s' ψ' a' w',kr E' s'=some r->Rel C f ψ' E' s' a' w'->QQ .ret a' w')->
  (∀ch a' w' s',r=(.cC,s')->l8 ch->oo C f s' a' w'->QQ (.panic ch) a' w')->code.wp C.P QQ a w:=by
 intro code;induction code with
 |skip=>intro A kn kx kr ho hn hx hr E s h ψ a w QQ R qn qx qr qp;exact wp_skip (qn E s ψ a w h R (.refl _ _))
 |region id ops d=>
  intro A kn kx kr ho hn hx hr E s h ψ a w QQ R qn qx qr qp;simp only[exec]at h;rcases ZuH hC hc h with⟨E',s',hl,hk,hm,hw⟩|⟨s',e,hl,hw⟩
  ·exact hw QQ id R ra ho (fw (hn E' s' hk) hN) fun ψ' a' w' R'=>qn E' s' ψ' a' w' hk R' hm
  ·exact hw QQ id R ra ho (by rw[e]at hN;exact hN) fun ch a' w' hv hp=>qp ch a' w' s' e hv hp
 |seq a b zg zh=>
  intro A kn kx kr ho hn hx hr E s h ψ ac w QQ R qn qx qr qp;simp only[tX,aH]at ho;simp only[exec]at h;refine wp_seq (zg A.a _ kx kr ho.1 (C2 hC hc b A.b kn kx kr hn hx hr) hx hr E s h ψ ac w _ R ?_ ?_ ?_ ?_)
  ·intro E' s' ψ' a' w' h' R' m'
   refine zh A.b kn kx kr ho.2 hn hx hr E' s' h' ψ' a' w' QQ R' ?_ ?_ qr qp
   ·intro E2 s2 iJ a2 w2 h2 R2 m2
    exact qn E2 s2 iJ a2 w2 h2 R2 (m'.trans m2 (fun u hu=>Un.left hu) fun u hu=>Un.right hu)
   ·intro i E2 s2 iJ a2 w2 h2 R2 m2
    exact qx i E2 s2 iJ a2 w2 h2 R2 (m'.trans m2 (fun u hu=>Un.left hu) fun u hu=>Un.right hu)
  ·intro i E' s' ψ' a' w' h' R' m'
   exact qx i E' s' ψ' a' w' h' R' (m'.un fun u hu=>Un.left hu)
  ·exact qr
  ·exact qp
 |cond x a b zg zh=>
  intro A kn kx kr ho hn hx hr E s h ψ ac w QQ R qn qx qr qp;simp only[tX,aH]at ho;simp only[exec]at h;obtain⟨v,hv,h⟩:=Ol h;have he:ac.eval x= .bool v:=by
   have:=R.eval x;rw[hv]at this;generalize ac.eval x=y at this;cases this;rfl
  have two: ∀ {A1 A2:ng} {kn:Env->M β},Lk kn r->(bif v then exec C pr c n a A1 kn kx kr E else exec C pr c n b A2 kn kx kr E) s=some r->
    (∀E' s' ψ' a' w',kn E' s'=some r->Rel C f ψ' E' s' a' w'->Mod (Un (jT pr a++jT pr b)) E E'->QQ .normal a' w')->(if v then a else b).wp C.P QQ ac w:=by
   intro A1 A2 kn hn h qn;cases v with
   |true=>exact zg A1 kn kx kr ho.1 hn hx hr E s h ψ ac w QQ R (fun E' s' ψ' a' w' h' R' m'=>qn E' s' ψ' a' w' h' R' (m'.un fun u hu=>Un.left hu)) (fun i E' s' ψ' a' w' h' R' m'=>qx i E' s' ψ' a' w' h' R' (m'.un fun u hu=>Un.left hu)) qr qp
   |false=>exact zh A2 kn kx kr ho.2 hn hx hr E s h ψ ac w QQ R (fun E' s' ψ' a' w' h' R' m'=>qn E' s' ψ' a' w' h' R' (m'.un fun u hu=>Un.right hu)) (fun i E' s' ψ' a' w' h' R' m'=>qx i E' s' ψ' a' w' h' R' (m'.un fun u hu=>Un.right hu)) qr qp
  refine wp_cond he ?_;cases A with
  |j J A1 A2=>
   obtain⟨hj,h⟩:=IK h;refine two (Lk.ED hn) h fun E1 s1 gr a1 w1 h1 R1 m1=>?_
   obtain⟨ds,E',g,p,h1⟩:=Oo h1;obtain⟨k,m⟩:=Oq R.fA m1 g p hj;exact qn E' s1 _ a1 w1 h1 (R1.ug k) m
  |z=>exact two hn h qn
  |n A1 A2=>exact two hn h qn
 |block id body ih=>
  intro A kn kx kr ho hn hx hr E s h ψ ac w QQ R qn qx qr qp;simp only[exec]at h;have go: ∀ {A1:ng} {kn:Env->M β},Lk kn r->exec C pr c n body A1 kn (fun i E1=>bif Nat.beq i id then kn E1 else kx i E1) kr E s=some r->
    (∀E' s' ψ' a' w',kn E' s'=some r->Rel C f ψ' E' s' a' w'->Mod (Un (jT pr body)) E E'->QQ .normal a' w')->(Code.block id body).wp C.P QQ ac w:=by
   intro A1 kn hn h qn;refine wp_block (ih A1 kn _ kr ho hn (Lk.block hn hx) hr E s h ψ ac w _ R qn ?_ qr qp);intro i E' s' ψ' a' w' h' R' m';simp only[Exit.inBlock];cases hb:Nat.beq i id with
   |true=>
    rw[hb]at h';rw[aG (cc hb)];exact qn E' s' ψ' a' w' h' R' m'
   |false=>
    rw[hb]at h';rw[ax (zY hb)];exact qx i E' s' ψ' a' w' h' R' m'
  cases A with
  |j J A1 A2=>
   obtain⟨hj,h⟩:=IK h;refine go (Lk.ED hn) h fun E1 s1 gr a1 w1 h1 R1 m1=>?_
   obtain⟨ds,E',g,p,h1⟩:=Oo h1;obtain⟨k,m⟩:=Oq R.fA m1 g p hj;exact qn E' s1 _ a1 w1 h1 (R1.ug k) m
  |z=>exact go hn h qn
  |n A1 A2=>exact go hn h qn
 |loop body ih=>
  intro A kn kx kr ho hn hx hr E s h ψ ac w QQ R qn qx qr qp;simp only[exec]at h;cases A with
  |j J A1 A2=>
   obtain⟨hj,h⟩:=Zp h;obtain⟨st,g0,h⟩:=sW h;have lk: ∀(k:Nat) (st:List DV) (s:St),M.loop (fun rec st=>oP E J st (E.del (jT pr body)) fun E1=>exec C pr c n body A1 (fun E2=>oC E E2 J rec) kx kr E1) k st s=some r->s.length<=r.2.length:=by
    intro k;induction k with
    |zero=>intro st s h;cases h
    |succ k SU=>
     intro st s h;simp only[M.loop]at h;obtain⟨E',_,h⟩:=yg h;refine C2 hC hc body A1 _ kx kr (fun E2 s2 h2=>?_) hx hr E' s h;obtain⟨eW,_,h2⟩:=sW h2;exact SU eW s2 h2
   refine wp_loop_ghost (fun k a' w'=>∃E2 s2 iJ ds,GJ E E2 J ds/\Mod (Un (jT pr body)) E E2/\Rel C f iJ E2 s2 a' w'/\
    M.loop (fun rec st=>oP E J st (E.del (jT pr body)) fun E1=>exec C pr c n body A1 (fun E2=>oC E E2 J rec) kx kr E1) k ds s2=some r) n ⟨E,s,ψ,st,g0,.refl _ _,R,h⟩ ?_
   rintro k a' w' ⟨E2,s2,iJ,ds,g,m,R2,h2⟩;cases k with
   |zero=>cases h2
   |succ k=>
    simp only[M.loop]at h2;obtain⟨E',p,h2⟩:=yg h2;obtain⟨kw,m'⟩:=Oq R.fA m g p hj;refine ih A1 _ kx kr ho (fun E2 s2 h2=>?_) hx hr E' s2 h2 _ a' w' _ (R2.ug kw) ?_ ?_ qr qp
    ·obtain⟨eW,_,h2⟩:=sW h2
     exact lk k eW s2 h2
    ·intro E3 s3 Fm a3 w3 h3 R3 m3
     obtain⟨ds3,g3,h3⟩:=sW h3;exact⟨k,Nat.lt_succ_self k,E3,s3,Fm,ds3,g3,m'.trans m3 (fun u hu=>hu) (fun u hu=>hu),R3,h3⟩
    ·intro i E3 s3 Fm a3 w3 h3 R3 m3
     exact qx i E3 s3 Fm a3 w3 h3 R3 (m'.trans m3 (fun u hu=>hu) (fun u hu=>hu))
  |z=>cases h
  |n A1 A2=>cases h
 |exit id=>intro A kn kx kr ho hn hx hr E s h ψ a w QQ R qn qx qr qp;exact wp_exit (qx id E s ψ a w h R (.refl _ _))
 |ret=>intro A kn kx kr ho hn hx hr E s h ψ a w QQ R qn qx qr qp;exact wp_ret (qr E s ψ a w h R)
 |_=>intro A kn kx kr ho hn hx hr E s h;cases h
end
end Go.Gv
namespace Go.Gv
variable {β:Type}
theorem IW: ∀(k:Nat) (ds:List DV) (t:Nat),look (iB k ds) t=if k<=t then(match ds[t-k]? with|some d=> .v d|none=> .u)else .u
 |k,[],t=>by simp[iB,look]
 |k,d::ds,t=>by
  rw[iB,CQ,IW (k+1) ds t];by_cases h:k=t
  ·subst h;simp
  ·rw[ax h]
   by_cases h2:k<=t
   ·rw[aG h2,aG (by omega),show t-k=(t-(k+1))+1 by omega,mq]
   ·rw[ax h2,ax (by omega)]
section
variable {C:aP} {f:Fr} {ψ:Ps} {E:Env} {s:St} {a:Act} {w:World} {r:Out β×St}
def JK (tmps:Array Value):ResultVar->Sem Value
 | .tmp t=>pure (tmps.getD t undef)
 | .cell a t=>do loadVar t (<-asAddr (tmps.getD a undef))
theorem C1 {P:Program} {g:ResultVar->Sem Value} {x:ResultVar} {l:List ResultVar} {v:Value} {vs:List Value} {w:World} (h1:(g x).run P w= .ok v w) (h2:(l.mapM g).run P w= .ok vs w):((x::l).mapM g).run P w= .ok (v::vs) w:=by
 rw[List.mapM_cons];simp only[Sem.run_bind,h1,Result.andThen_ok,h2,Sem.run_pure]
theorem Jq (R:Rel C f ψ E s a w): ∀ {l:List ResultVar} {K:List DV->M β} ,ry C E l K s=some r->∃ds vs,K ds s=some r/\aS C ψ ds vs/\(l.mapM (JK a.tmps)).run C.P w= .ok vs w
 |[],K,h=>⟨[],[],h,.nil,by simp⟩
 | .tmp t::l,K,h=>by
  simp only[ry]at h;obtain⟨d,hd,h⟩:=Zs h;obtain⟨ds,vs,hk,hr,cH⟩:=Jq R h;have hv:=R.eval (.tmp t);rw[hd]at hv;exact⟨_,_,hk,.cons _ _ _ _ hv hr,C1 rfl cH⟩
 | .cell x t::l,K,h=>by
  simp only[ry]at h;cases hx:E.get x with
  |loc v n cs=>
   rw[hx]at h;simp only at h;obtain⟨td,ht,h⟩:=mC h;have Vs:=R.iu x;rw[hx]at Vs;obtain⟨cb,e1,e2,e3⟩:=Vs;have hh:=R.dH.holds (.inr v) cb _ e1 (.inl ⟨x,n,cs,hx,rfl⟩);have hlen:=R.fA.len x v n cs hx;cases fP:ZL C.P t with
   |true=>
    rw[fP]at h;simp only[cond_true]at h;obtain⟨hn,h⟩:=Zp h;have hn:=cc hn;obtain⟨ds,vs,hk,hr,cH⟩:=Jq R h;obtain⟨vc,hv,_,iT,h1⟩:=Ir (P:=C.P) hh (p:=0) (n:=C.P.cellsOf t) (by omega);rw[e2,dj]at hv;rw[dE,cA (by omega)]at iT h1;refine⟨_,_,hk,.cons _ _ _ _ (.agg cs vc iT h1) hr,C1 ?_ cH⟩;have:=Gl ht fP ⟨cb.b,0,none⟩ w hv;show(do loadVar t (<-asAddr (a.tmps.getD x undef)):Sem Value).run C.P w=_;rw[e3];simp only[asAddr,Sem.run_bind,Sem.run_pure,Result.andThen_ok];exact this
   |false=>
    rw[fP]at h;simp only[cond_false]at h;obtain⟨d,hd,h⟩:=Jr h;obtain⟨ds,vs,hk,hr,cH⟩:=Jq R h;obtain⟨y,hv,iT,_⟩:=I8 (P:=C.P) hh hd;rw[e2,dj]at hv;refine⟨_,_,hk,.cons _ _ _ _ iT hr,C1 ?_ cH⟩;have:=Cm ht fP ⟨cb.b,0,none⟩ w hv;show(do loadVar t (<-asAddr (a.tmps.getD x undef)):Sem Value).run C.P w=_;rw[e3];simp only[asAddr,Sem.run_bind,Sem.run_pure,Result.andThen_ok];exact this
  |_=>rw[hx]at h;cases h
theorem ZnL {fn:Func} {tmps:Array Value} {P:Program} {w:World} {vs:List Value} (h:(fn.results.toList.mapM (JK tmps)).run P w= .ok vs w):
  (results fn tmps).run P w= .ok (if h:vs.length=1 then vs[0]else .tuple vs.toArray) w:=by
 have e:results fn tmps=(fn.results.mapM (JK tmps)>>= fun vs=>pure (if h:vs.size=1 then vs[0]else .tuple vs)):=by
  unfold results;congr 1
 rw[e,Array.mapM_eq_mapM_toList];simp[h]
theorem Zz7 (b:Nat) (s:St) (i:Nat):cq (ZV b s) i=if i<b then cq s i else(cq s i).map fun ab=>match ab with| .cells _ cs=> .cells true cs|x=>x:=by
 unfold cq ZV;by_cases h:i<b
 ·rw[aG h]
  by_cases h2:i<s.length
  ·rw[iL (by simp;omega),lg,aG h]
  ·rw[gU (by simp;omega),dT (by simp;omega),dT (by omega)]
 ·rw[ax h]
  by_cases h3:b<=s.length
  ·rw[gU (by simp;omega),gL,lR]
   rw[bW,j1 h3,show b+(i-b)=i by omega];cases hs:s[i]? with
   |none=>rfl
   |some x=>cases x<;>rfl
  ·rw[gU (by simp;omega),dT (by simp;omega),dT (by omega)];rfl
theorem Zo0 (b:Nat) (s:St):(ZV b s).length=s.length:=by
 unfold ZV;simp;omega
theorem hZ.jc {gq:Ps} {s0:St} {w0:World} {ψ':Ps} (b:Nat) (h:hZ C gq s0 w0 ψ' s w):hZ C gq s0 w0 ψ' (ZV b s) w:=by
 have key: ∀h ab,CS (ZV b s) h ab->∃bO,CS s h bO/\(ab.fE=true->bO.fE=true)/\∀(C:aP) ψ w cb,Holds C ψ w cb bO->Holds C ψ w cb ab:=by
  rintro h ab ⟨i,rfl,e⟩;rw[Zz7]at e;split at e
  ·exact⟨ab,⟨i,rfl,e⟩,fun h=>h,fun _ _ _ _ h=>h⟩
  ·cases hs:cq s i with
   |none=>rw[hs]at e;cases e
   |some x=>
    rw[hs]at e;cases x with
    |cells fz cs=>
     simp only[lX,cX]at e;subst e;exact⟨_,⟨i,rfl,hs⟩,(fun h=>by cases h),fun C ψ w cb h=>⟨h.1,h.2.1,h.2.2.1,(fun h=>by cases h)⟩⟩
    |iter l p=>
     simp only[lX,cX]at e;subst e;exact⟨_,⟨i,rfl,hs⟩,fun h=>h,fun _ _ _ _ h=>h⟩
 refine⟨h.dH.cast fun k cb ab e q=>?_,h.ext.cast h.ext.mono (fun _ _ e=>e) fun k cb ab _ q=>?_,fun k cb e=>?_⟩
 ·obtain⟨bO,q',h1,h2⟩:=key k ab q
  exact⟨e,bO,q',h1,h2 C ψ' w cb⟩
 ·obtain⟨bO,q',h1,_⟩:=key k ab q
  exact⟨bO,q',h1⟩
 ·rw[Zo0];exact h.news k cb e
def JG (C:aP) (qR:FuncId) (args:List DV) (s:St) (out:Out (List DV)×St):Prop:=
 s.length<=out.2.length/\∀ψ w vs,dU C ψ (CS s) w->oi ψ w->Glob C ψ->aS C ψ args vs->(∀v,ψ (.inr v)=none)->(∀i,s.length<=i->i<out.2.length->ψ (.inl i)=none)->
   uK C.P qR vs.toArray w fun
    | .returned v,w'=>∃ds,out.1= .val ds/\∃ψ',hZ C ψ s w ψ' out.2 w'/\vY C ψ' ds v
    | .panicked ch,w'=>l8 ch/\out.1= .cC/\∃ψ',hZ C ψ s w ψ' out.2 w'
    | .outgrown,_=>False
structure Ce (C:aP):Prop where
 cfg:lZ C
 J8:C.P.follows .mixedOrders=true
theorem ZA9 {C:aP} (hF:Ce C) {c:Zg} (hc:ZC C c) {n:Nat} {A:FA} {fn:Func} {qR:FuncId} (hfn:C.P.funcs[qR]? =some fn) (nM:(fn.name== "runtime.NumGoroutine")=false)
  {args:List DV} {s:St} {out:Out (List DV)×St} (h:aQ C A fn c n args s=some out):JG C qR args s out:=by
 unfold aQ at h;cases hb:fn.body with
 |none=>rw[hb]at h;cases h
 |some code=>
  rw[hb]at h;simp only at h;obtain⟨dQ,h⟩:=Zp h;rw[aH]at dQ;obtain⟨dQ,bG⟩:=dQ;have bG:=lW bG;obtain⟨ds,h,oI,kh,nG⟩:=CH h;have hlen:ds.length=fn.params.size+fn.nfree:=by rw[kh];simp
  have main: ∀(kr:Env->M (List DV)) (fz:St->St),(∀s,(fz s).length=s.length)->(∀gq s0 w0 ψ' s w,hZ C gq s0 w0 ψ' s w->hZ C gq s0 w0 ψ' (fz s) w)->
    (∀E s' r,kr E s'=some r->ry C E fn.results.toList (fun ds s=>some (.val ds,fz s)) s'=some r)->
    exec C A.pr c n code A.Dg kr (fun _ _=>fail) kr ⟨0,iB 0 ds⟩ s=some out->JG C qR args s out:=by
   intro kr fz eC rf yP h;have aar: ∀ {E:Env} {s':St} {r:Out (List DV)×St},kr E s'=some r->∃ds,r=(.val ds,fz s'):=by
    intro E s' r h';have h':=yP E s' r h';generalize fn.results.toList=l at h';have: ∀(l:List ResultVar) (K:List DV->M (List DV)),ry C E l K s'=some r->∃ds,K ds s'=some r:=by
     intro l;induction l with
     |nil=>exact fun K h=>⟨[],h⟩
     |cons x l ih=>
      intro K h;cases x with
      |tmp t=>
       simp only[ry]at h;obtain⟨d,_,h⟩:=Zs h;obtain⟨ds,h⟩:=ih _ h;exact⟨_,h⟩
      |cell x t=>
       simp only[ry]at h;cases hx:E.get x with
       |loc v n cs=>
        rw[hx]at h;simp only at h;obtain⟨td,_,h⟩:=mC h;cases fP:ZL C.P t with
        |true=>
         rw[fP]at h;obtain⟨_,h⟩:=Zp h;obtain⟨ds,h⟩:=ih _ h;exact⟨_,h⟩
        |false=>
         rw[fP]at h;obtain⟨d,_,h⟩:=Jr h;obtain⟨ds,h⟩:=ih _ h;exact⟨_,h⟩
       |_=>rw[hx]at h;cases h
    obtain⟨ds,h'⟩:=this l _ h';simp only[cX]at h';exact⟨ds,h'.symm⟩
   have lk:Lk kr out:=fun E s' h'=>by
    obtain⟨ds,e⟩:=aar h';rw[e,eC];exact ay _
   refine⟨C2 hF.cfg hc code A.Dg kr _ kr lk (fun i E s h=>by cases h) lk _ s h,fun ψ w vs vx DG yM iR wZ Es=>?_⟩;have kM:=nG C ψ vs iR;have vy:=kM.len;unfold uK;have pO:(callFunc qR vs.toArray).run C.P w= .ok (.enter qR vs.toArray) w:=by
    have sj: ¬fn.name= "runtime.NumGoroutine" :=by simpa using nM
    simp[callFunc,hfn,sj,hb]
   rw[pO];refine calls_of_wp hfn hb ?_
   let f:Fr:=⟨out.2.length,fn.ntmps,ψ,s,w,oO fn.ntmps,fun x h=>by unfold oO at h;rw[lV]at h;exact h,fun t=>(vs.toArray++Array.replicate (fn.ntmps-vs.toArray.size) Go.undef).getD t Go.undef,[]⟩
   have sa: ∀t,(⟨0,iB 0 ds⟩:Env).get t=match ds[t]? with|some d=> .v d|none=> .u:=by
    intro t;have:=IW 0 ds t;simp only[bH,iM,qy]at this;exact this
   have ml: ∀t v,((⟨0,iB 0 ds⟩:Env).get t).bY≠some v:=by
    intro t v;rw[sa];cases ds[t]? <;>simp[dx.bY]
   have wG: ∀h ab,CR ⟨0,iB 0 ds⟩ s h ab->CS s h ab:=by
    intro h ab c;cases h with
    |inl i=>exact⟨i,rfl,c⟩
    |inr v=>
     rcases c with⟨t,n,cs,e,_⟩|⟨t,l,p,e,_⟩
     ·exact absurd (by rw[e];rfl) (ml t v)
     ·exact absurd (by rw[e];rfl) (ml t v)
   have R:Rel C f ψ ⟨0,iB 0 ds⟩ s { tmps:=vs.toArray++Array.replicate (fn.ntmps-vs.toArray.size) Go.undef,defers:=[] } w:=by
    refine⟨vx.weaken fun _ _ _ _ c=>wG _ _ c,⟨fun t v e=>absurd e (ml t v),fun t r v o e=>?_,fun t v n cs e=>absurd (by rw[e];rfl) (ml t v),fun t t' v e _=>absurd e (ml t v)⟩,DG,yM,fun t=>?_,?_,rfl,Es,fun v _=>wZ v,(Ext.refl ψ (CS s) w).weaken fun _ _ _ _ c=>wG _ _ c,fun i cb e=> .inl e,ay _,wZ⟩
    ·rw[sa]at e
     cases hd:ds[t]? <;>rw[hd]at e<;>cases e
    ·rw[sa]
     cases hd:ds[t]? with
     |none=>trivial
     |some d=>
      obtain⟨v,hv,hr⟩:=kM.get hd;have:(vs.toArray++Array.replicate (fn.ntmps-vs.toArray.size) Go.undef).getD t Go.undef=v:=by
       have aj:=(cd.1 hv).1;rw[mn,Fp (by simpa using aj)];simp[hv]
      show eB C ψ (.v d) _;rw[this];exact hr
    ·refine⟨?_,fun _ _=>rfl⟩
     show(vs.toArray++Array.replicate (fn.ntmps-vs.toArray.size) Go.undef).size=fn.ntmps;simp only[Array.size_append,Array.size_replicate,List.size_toArray];omega
   have done: ∀E' s' ψ' a' w',kr E' s'=some out->Rel C f ψ' E' s' a' w'->a'.defers=[]/\∃v,(results fn a'.tmps).run C.P w'= .ok v w'/\∃ds,out.1= .val ds/\∃ψ',hZ C ψ s w ψ' out.2 w'/\vY C ψ' ds v:=by
    intro E' s' ψ' a' w' h' R';obtain⟨ja,gI,hk,hr,cH⟩:=Jq R' (yP E' s' out h');simp only[cX]at hk;refine⟨R'.defs,_,ZnL cH,ja,by rw[<-hk],kN ψ',?_,?_⟩
    ·rw[<-hk];exact rf _ _ _ _ _ _ R'.uQ
    ·have jj:aS C (kN ψ') ja gI:=Zvg hr
     by_cases h1:gI.length=1
     ·rw[dif_pos h1]
      cases jj with
      |nil=>cases h1
      |cons d v ds vs a b=>
       cases b with
       |nil=>exact .inl ⟨d,rfl,a⟩
       |cons _ _ _ _ _ _=>simp at h1
     ·rw[dif_neg h1]
      exact .inr ⟨by rw[jj.len];exact h1,_,rfl,jj⟩
   refine PX hF.cfg hc hF.J8 (f:=f) (ay _) code A.Dg kr _ kr dQ lk (fun i E s h=>by cases h) lk _ s h ψ _ w _ R ?_ ?_ ?_ ?_
   ·intro E' s' ψ' a' w' h' R' _;exact done E' s' ψ' a' w' h' R'
   ·intro i E' s' ψ' a' w' h' _ _;cases h'
   ·intro E' s' ψ' a' w' h' R';exact done E' s' ψ' a' w' h' R'
   ·intro ch a' w' s' e hv hp
    refine⟨hp.defs,hv,by rw[e],?_⟩;obtain⟨ψ',du⟩:=hp.post;exact⟨ψ',by rw[e];exact du⟩
  cases hz:A.jc with
  |true=>
   rw[hz]at h;simp only[cond_true,M.base]at h;exact main _ (ZV s.length) (Zo0 _) (fun _ _ _ _ _ _ h=>h.jc _) (fun E s' r h=>h) h
  |false=>
   rw[hz]at h;simp only[cond_false]at h;exact main _ id (fun _=>rfl) (fun _ _ _ _ _ _ h=>h) (fun E s' r h=>h) h
end
def aL (C:aP) (b:Zg->Nat->List DV->M (List DV)) (f:FuncId):Prop:=
 ∀c n args s out,ZC C c->b c n args s=some out->JG C f args s out
theorem aL.aR {C:aP} (hF:Ce C) {A:FA} {fn:Func} {f:FuncId} {b:Zg->Nat->List DV->M (List DV)} (hfn:C.P.funcs[f]? =some fn) (nM:(fn.name== "runtime.NumGoroutine")=false) (ht:aQ C A fn=b):aL C b f:=
 fun c n args s out hc h=>ZA9 hF hc hfn nM (by rw[ht];exact h)
theorem JR {C:aP} {Bd:Za} (hB: ∀f,C.cov f=true->aL C (Bd (C.fn f)) f) (bz: ∀g,(∀f,C.cov f=true->C.fn f≠g)->∀c n args s,Bd g c n args s=none): ∀n,ZC C (run Bd n)
 |0=>fun g args s out h=>by cases h
 |n+1=>fun g args s out h=>by
  by_cases e: ∃f,C.cov f=true/\C.fn f=g
  ·obtain⟨f,h1,rfl⟩:=e
   refine⟨(hB f h1 _ _ _ _ _ (JR hB bz n) h).1,fun f' h2 h3=>?_⟩;have h':Bd (C.fn f') (run Bd n) n args s=some out:=by rw[h3];exact h
   exact(hB f' h2 _ _ _ _ _ (JR hB bz n) h').2
  ·have:=bz g (fun f h1 h2=>e ⟨f,h1,h2⟩) (run Bd n) n args s
   have h':Bd g (run Bd n) n args s=some out:=h;rw[this]at h';cases h'
end Go.Gv
namespace Go.Gv
end Go.Gv
namespace Go.Gv
def xD:List (Nat×Nat)->Nat->Nat
 |[],_=>0
 |(k,v)::r,x=>bif Nat.beq k x then v else xD r x
def LP (l:List (Nat×Nat)) (t:Nat):Nat:=bif has (l.map (·.1)) t then xD l t else t+1000
abbrev Body:=Zg->Nat->List DV->M (List DV)
def xC:List (Nat×Body)->Nat->Option Body
 |[],_=>none
 |(k,b)::r,g=>bif Nat.beq k g then some b else xC r g
def bdOf (l:List (Nat×Body)):Za:=fun g=>match xC l g with|some b=>b|none=>fun _ _ _ _=>none
theorem Qf: ∀ {l:List (Nat×Body)} {g:Nat} {b:Body},xC l g=some b->g∈l.map (·.1)
 |[],_,_,h=>by cases h
 |(k,x)::r,g,b,h=>by
  simp only[xC]at h;cases hk:Nat.beq k g with
  |true=>simp[cc hk]
  |false=>rw[hk]at h;simp only[cond_false]at h;exact lT _ (Qf h)
theorem ZBv {P:Program} {e:TypeId} (h:P.underlying P.rt.typeAssertionError=some (.pointer e)) (hs:(P.underlying e).isSome=true): ∃e d,P.underlying P.rt.typeAssertionError=some (.pointer e)/\P.underlying e=some d:=
 ⟨e,_,h,(Option.some_get hs).symm⟩
theorem ZAF {C:aP} {cov:List Nat} (qW:C.cov=has cov) {l:List (Nat×Body)} (hk:l.map (·.1)=cov.map C.fn) (hB: ∀f∈cov,aL C (bdOf l (C.fn f)) f): ∀n,ZC C (run (bdOf l) n):=by
 refine JR (fun f hf=>hB f (by rw[qW]at hf;exact(Db cov f).1 hf)) fun g hg c n args s=>?_
 unfold bdOf;cases hb:xC l g with
 |none=>rfl
 |some b=>
  have:=Qf hb;rw[hk]at this;obtain⟨f,hf,rfl⟩:=dP.1 this;exact absurd rfl (hg f (by rw[qW];exact(Db cov f).2 hf))
def VZ (l:List (Nat×Nat)):Bool:=decide ((l.map (·.2)).Nodup)&&l.all fun x=>Nat.blt x.2 1000
theorem JA: ∀ {l:List (Nat×Nat)} {t:Nat},has (l.map (·.1)) t=true->(t,xD l t)∈l
 |[],t,h=>by cases h
 |(k,v)::r,t,h=>by
  simp only[gM,has,jD]at h;cases hk:Nat.beq k t with
  |true=>
   have:=cc hk;subst this;simp[xD]
  |false=>
   simp only[xD,hk,cond_false];exact lT _ (JA (h.resolve_left (by rw[hk];simp)))
theorem ZAJ {l:List (Nat×Nat)} (h:VZ l=true) (t t':Nat) (e:LP l t=LP l t'):t=t':=by
 unfold VZ at h;rw[aH,j4,gv]at h;obtain⟨h1,h2⟩:=h;have lt: ∀ {t},has (l.map (·.1)) t=true->xD l t<1000:=fun {t} ht=>by
  have:=h2 _ (JA ht)
  rwa [lV]at this
 unfold LP at e;cases ht:has (l.map (·.1)) t with
 |true=>
  have m:=JA ht;have l1:=lt ht;cases pZ:has (l.map (·.1)) t' with
  |true=>
   have m':=JA pZ;rw[ht,pZ]at e;simp only[cond_true]at e;rw[e]at m;have inj: ∀ {l:List (Nat×Nat)},(l.map (·.2)).Nodup->∀ {a b c:Nat},(a,c)∈l->(b,c)∈l->a=b:=by
    intro l;induction l with
    |nil=>intro _ a b c h;cases h
    |cons x r ih=>
     intro hn a b c ha hb;simp only[gM,qo]at hn;rcases bX.1 ha with ha|ha<;>rcases bX.1 hb with hb|hb
     ·rw[<-ha]at hb;cases hb;rfl
     ·exact absurd (dP.2 ⟨_,hb,by rw[<-ha]⟩) hn.1
     ·exact absurd (dP.2 ⟨_,ha,by rw[<-hb]⟩) hn.1
     ·exact ih hn.2 ha hb
   exact inj h1 m m'
  |false=>rw[ht,pZ]at e;simp only[cond_true,cond_false]at e;omega
 |false=>
  cases pZ:has (l.map (·.1)) t' with
  |true=>have:=lt pZ;rw[ht,pZ]at e;simp only[cond_true,cond_false]at e;omega
  |false=>rw[ht,pZ]at e;simp only[cond_false]at e;omega
end Go.Gv
namespace Go.Gv
variable {β:Type}
section
variable {C:aP} {f:Fr} {ψ:Ps} {E:Env} {s:St} {a:Act} {w:World} {c:Zg} {o:Oper} {K:Env->M β} {r:Out β×St}
theorem nh (hC:lZ C) (hc:ZC C c) (o:Oper) (h:Lk K r):Lk (fun E=>ep C [] [] .s c o E K) r:=by
 intro E s h';rcases P1 hC hc (ops:=[]) (.inl rfl) h' with⟨E',s',hk,hF,_⟩|⟨_,s',rfl,hp⟩
 ·exact fw hF.len (h E' s' hk)
 ·exact hp.1
theorem Jz (hC:lZ C) (hc:ZC C c) (h:ep C [] [] .s c o E K s=some r) (hl:Lk K r) (hN:r.2.length<=f.N) (hd: ∀x,o.dst=some x->f.ok x=true):
  (∃E' s',K E' s'=some r/\s.length<=s'.length/\∀(ψ:Ps) (a:Act) (w:World) (QQ:Exit->Act->World->Prop) (next:Act->World->Prop),Rel C f ψ E s a w->
    (∀ψ' v w',Rel C f ψ' E' s' (a.put o.dst v) w'->(∀h cb,ψ h=some cb->ψ' h=some cb)->next (a.put o.dst v) w')->o.wp C.P a w next QQ)\/
  (∃s',r=(.cC,s')/\∀(ψ:Ps) (a:Act) (w:World) (QQ:Exit->Act->World->Prop) (next:Act->World->Prop),Rel C f ψ E s a w->(∀ch a' w',l8 ch->oo C f s' a' w'->QQ (.panic ch) a' w')->o.wp C.P a w next QQ):=by
 rcases P1 hC hc (ops:=[]) (.inl rfl) h with⟨E',s',hk,hF,hO⟩|⟨_,s',rfl,hp⟩
 ·refine .inl ⟨E',s',hk,hF.len,fun ψ a w QQ next R hn=>?_⟩
  exact hO ψ (CR E s) a w next QQ R.pre (R.room (fw (hl E' s' hk) hN)) fun ψ' Q' v w' hP he=>hn ψ' v w' (R.step hF hP he hd) hP.ext.mono
 ·exact .inr ⟨s',rfl,fun ψ a w QQ next R hn=>R.V4 hN hp hn⟩
theorem oo.aaJ {d:Option Nat} {v:Value} (hd: ∀x,d=some x->f.ok x=true) (h:oo C f s (a.put d v) w):oo C f s a w:=by
 refine⟨by rw[<-IB a d v];exact h.defs,⟨by rw[<-M0 a d v];exact h.ks.1,fun t ht=>?_⟩,h.post⟩;have:=h.ks.2 t ht;rw[C3 (fun x hx=>by rw[<-M0 a d v,h.ks.1];exact f.EK x (hd x hx)),ax (fun e=>by rw[hd t e]at ht;cases ht)]at this;exact this
def VK:Sh->Bool
 | .b _=>true
 |_=>false
def Lp:Op->Bool
 | .move (.tmp _)=>true
 |_=>false
def LB (ops:Array Oper):Bool:=
 let l (n:Nat):Array Bool:=(([0,2,3,4,5,1,6,7].take n).foldl (fun l i=>l.setIfInBounds i true) (Array.replicate 8 false))
 let fst (n i:Nat):Bool:=Region.free .any ops (l n) i&&(Region.ready .any ops (l n)).contains i
 Region.noSelect ops&&fst 0 0&&fst 1 2&&fst 2 3&&fst 3 4&&fst 4 5&&(Region.ready .any ops (l 5)==[1])&&(Region.ready .any ops (l 6)==[6])&&(Region.ready .any ops (l 7)==[7])&&(Region.ready .any ops (l 8)).isEmpty
def Dv:List Oper->Option (Oper×Oper×Oper×Oper×Oper×Oper×Oper×Oper)
 |[o0,o1,o2,o3,o4,o5,o6,o7]=>some (o0,o1,o2,o3,o4,o5,o6,o7)
 |_=>none
theorem Zyz {l:List Oper} {o0 o1 o2 o3 o4 o5 o6 o7:Oper} (h:Dv l=some (o0,o1,o2,o3,o4,o5,o6,o7)):l=[o0,o1,o2,o3,o4,o5,o6,o7]:=by
 unfold Dv at h;split at h
 ·cases h;rfl
 ·cases h
noncomputable def EW (C:aP) (c:Zg) (ops:Array Oper) (E:Env) (K:Env->M β):M β:=
 match Dv ops.toList with
 |some (o0,o1,o2,o3,o4,o5,o6,o7)=>
  bif LB ops&&Lp o0.op&&Lp o2.op&&(o0.guard.isNone&&o1.guard.isNone&&o2.guard.isNone&&o3.guard.isNone&&o4.guard.isNone&&o5.guard.isNone&&o6.guard.isNone&&o7.guard.isNone)then
   match o3.op,o4.op,o5.op with
   | .nilCheck x3,.fieldAddr _ x4 _,.load ty x5=>M.ak (VK (kq C.P ty))<|
    ep C [] [] .s c o0 E fun E0=>ep C [] [] .s c o2 E0 fun E2=>vJ C E2 x3 fun _ _=>ep C [] [] .s c o3 E2 fun E3=>vJ C E3 x4 fun _ _=>ep C [] [] .s c o4 E3 fun E4=>vJ C E4 x5 fun i p=>tl i p fun k n=>ep C [] [] .s c o5 E4 fun E5=>
     ep C [] [] .s c o1 E5 fun E1=>fV i p k n (ep C [] [] .s c o6 E1 fun E6=>fV i p k n (ep C [] [] .s c o7 E6 fun E7=>fV i p k n (K E7)))
   |_,_,_=>fail
  else fail
 |none=>fail
theorem Ji {x:Operand} {K:Nat->Nat->M β} (h:vJ C E x K s=some r): ∃i p,E.src C x= .v (.ptr (some (i,p)))/\K i p s=some r:=by
 unfold vJ at h;cases he:E.src C x with
 |v d=>
  rw[he]at h;cases d with
  |ptr q=>
   cases q with
   |none=>cases h
   |some q=>exact⟨q.1,q.2,rfl,h⟩
  |_=>cases h
 |_=>rw[he]at h;cases h
theorem Zp7 {i p:Nat} {K:IntKind->Int->M β} (h:tl i p K s=some r): ∃k n,(∃fz cs,cq s i=some (.cells fz cs)/\cs[p]? =some (.int k n))/\K k n s=some r:=by
 unfold tl at h;obtain⟨fz,cs,d,bB,hd,h⟩:=ZpN h;cases d with
 |int k n=>exact⟨k,n,⟨fz,cs,bB,hd⟩,h⟩
 |_=>cases h
theorem Iw {i p:Nat} {k:IntKind} {n:Int} {K:M β} (h:fV i p k n K s=some r):K s=some r/\∃fz cs,cq s i=some (.cells fz cs)/\cs[p]? =some (.int k n):=by
 unfold fV M.au at h;cases hc:s.cells i with
 |none=>rw[hc]at h;cases h
 |some cs=>
  rw[hc]at h;simp only at h;cases hd:cs[p]? with
  |none=>rw[hd]at h;cases h
  |some d=>
   rw[hd]at h;have bB: ∃fz,cq s i=some (.cells fz cs):=by
    unfold St.cells at hc;split at hc
    ·rename_i bk tz
     cases hc;exact⟨bk.jc,by simp only[cq,tz]⟩
    ·cases hc
   obtain⟨fz,bB⟩:=bB;cases d with
   |int k' n'=>
    simp only at h;obtain⟨h0,hK⟩:=Zp h;simp only[aH,mu]at h0;have h1:=C5 h0.1;have h2:=h0.2;rw[<-h1,<-h2]at hd;exact⟨hK,fz,cs,bB,hd⟩
   |_=>cases h
theorem Rel.num (R:Rel C f ψ E s a w) {i p:Nat} {k:IntKind} {n:Int} {cb:CB} (e:ψ (.inl i)=some cb) (h: ∃fz cs,cq s i=some (.cells fz cs)/\cs[p]? =some (.int k n)):w.cell? ⟨cb.b,cb.o+p,none⟩=some (.int k n):=by
 obtain⟨fz,cs,h1,h2⟩:=h;have hh:=R.dH.holds (.inl i) cb _ e h1;obtain⟨v,hv,hr⟩:=hh.2.2.1 p _ h2;cases hr;exact hv
theorem Rel.ptr (R:Rel C f ψ E s a w) {x:Operand} {i p:Nat} (e:E.src C x= .v (.ptr (some (i,p)))): ∃cb:CB,ψ (.inl i)=some cb/\a.eval x= .pointer (some ⟨cb.b,cb.o+p,none⟩):=by
 have h:=R.eval x;rw[e]at h;have h:VR C ψ (.ptr (some (i,p))) (a.eval x):=h;generalize a.eval x=v at h;cases h with
 |ptr _ _ cb e=>exact⟨cb,e,rfl⟩
theorem Zsw {t:TypeId} {y:Operand} {fi:Nat} (ho:o.op= .fieldAddr t y fi) {Kk:Env->M β} (h:ep C [] [] .s c o E Kk s=some r):
  ∃off,∀(a:Act) (w:World) b n,a.eval y= .pointer (some ⟨b,n,none⟩)->(execOp a.eval o).run C.P w= .ok (.value (.pointer (some ⟨b,n+off,none⟩))) w:=by
 unfold ep at h;rw[ho]at h;simp only at h;unfold If at h;cases ht:C.P.underlying t with
 |none=>rw[ht]at h;cases h
 |some td=>
  rw[ht]at h;cases td with
  |struct fs=>
   simp only at h;cases hf:fs[fi]? with
   |none=>rw[hf]at h;cases h
   |some fd=>
    rw[hf]at h;simp only at h;obtain⟨hc,h⟩:=CC h;have hc:=zY hc;have bG: ∀w,(sizeOf fd.type).run C.P w= .ok (C.P.cellsOf fd.type) w:=by
     intro w;unfold Program.cellsOf at hc⊢;cases hi:C.P.info? fd.type with
     |none=>rw[hi]at hc;simp at hc
     |some i=>simp[sizeOf,typeInfo,hi]
    refine⟨fd.offset,fun a w b n hy=>?_⟩;simp[execOp,ho,hy,Instr.fieldAt,Zj w ht,hf,Z4,fieldPlace,bG,hc,wj]
  |_=>cases h
theorem Zz3 {t:TypeId} {x:Operand} (ho:o.op= .load t x) (hs:VK (kq C.P t)=true) {Kk:Env->M β} (h:ep C [] [] .s c o E Kk s=some r) (a:Act) (w:World) (A:Addr) (v:Value) (ha:a.eval x= .pointer (some A)) (hw:w.cell? A=some v):
  (execOp a.eval o).run C.P w= .ok (.value v) w:=by
 unfold ep at h;rw[ho]at h;simp only at h;unfold JQ at h;obtain⟨td,ht,h⟩:=mC h;cases gY:kq C.P t with
 |b y'=>simp only[execOp,ho,ha,Instr.loadAt,Sem.run_bind,Z4,Result.andThen_ok,Cm ht (Qw gY) _ w (by rw[run_load,hw]),Sem.run_pure]
 |agg l=>rw[gY]at hs;cases hs
theorem Qj {P:Program} {ops:Array Oper} {QQ:Exit->Act->World->Prop} {i:Nat} (hi:ops[i]? =some o) (hg:o.guard=none) {next:Act->World->Prop} (h:o.wp P a w next QQ):wpOp P ops QQ i next a w:=by
 unfold wpOp;simp only[hi];rw[aG (by simp[Region.wanted,hg])];exact .inl h
theorem ZyT {P:Program} {QQ:Exit->Act->World->Prop} {next:Act->World->Prop} {v:Value} (he:(execOp a.eval o).run P w= .ok (.value v) w) (h:o.wp P a w next QQ):next (a.put o.dst v) w:=by
 unfold Oper.wp at h;rw[he]at h;exact h
theorem AX {x:Operand} {K:Env->Nat->Nat->M β} (h: ∀i p,Lk (fun E=>K E i p) r):Lk (fun E=>vJ C E x (K E)) r:=by
 intro E s h';obtain⟨i,p,_,h'⟩:=Ji h';exact h i p E s h'
theorem ZwQ {i p:Nat} {K:Env->IntKind->Int->M β} (h: ∀k n,Lk (fun E=>K E k n) r):Lk (fun E=>tl i p (K E)) r:=by
 intro E s h';obtain⟨k,n,_,h'⟩:=Zp7 h';exact h k n E s h'
theorem AL {i p:Nat} {k:IntKind} {n:Int} {K:Env->M β} (h:Lk K r):Lk (fun E=>fV i p k n (K E)) r:=by
 intro E s h';exact h E s (Iw h').1
theorem ZzJ (hC:lZ C) (hc:ZC C c) {ops:Array Oper} (dQ:okO f.ok ops.toList=true) (h:EW C c ops E K s=some r) (hl:Lk K r) (ra:C.P.follows .mixedOrders=true) (hN:r.2.length<=f.N) (id:Nat) (R:Rel C f ψ E s a w) (QQ:Exit->Act->World->Prop)
  (qn: ∀E' s' ψ' a' w',K E' s'=some r->Rel C f ψ' E' s' a' w'->QQ .normal a' w') (qp: ∀ch a' w' s',r=(.cC,s')->l8 ch->oo C f s' a' w'->QQ (.panic ch) a' w'):(Code.region id ops true).wp C.P QQ a w:=by
 unfold EW at h;cases cJ:Dv ops.toList with
 |none=>rw[cJ]at h;cases h
 |some q=>
 obtain⟨o0,o1,o2,o3,o4,o5,o6,o7⟩:=q;rw[cJ]at h;have tM:=Zyz cJ;simp only at h;obtain⟨hb,h⟩:=Zp h;simp only[aH,Option.isNone_iff_eq_none]at hb;obtain⟨⟨⟨hy,hm0⟩,dr⟩,⟨⟨⟨⟨⟨⟨⟨g0,g1⟩,g2⟩,g3⟩,g4⟩,g5⟩,g6⟩,g7⟩⟩:=hb;obtain⟨x3,LL,x4,J7,LO,x5,h3,h4,h5⟩: ∃x3 LL x4 J7 LO x5,o3.op= .nilCheck x3/\o4.op= .fieldAddr LL x4 J7/\o5.op= .load LO x5:=by
  cases h3:o3.op with
  |nilCheck x3=>
   cases h4:o4.op with
   |fieldAddr LL x4 J7=>
    cases h5:o5.op with
    |load LO x5=>exact⟨_,_,_,_,_,_,rfl,rfl,rfl⟩
    |_=>rw[h3,h4,h5]at h;cases h
   |_=>rw[h3,h4]at h;cases h
  |_=>rw[h3]at h;cases h
 rw[h3,h4,h5]at h;simp only at h;obtain⟨K4,h⟩:=ZP h;have i0:ops[0]? =some o0:=by rw[<-gK,tM];rfl
 have i1:ops[1]? =some o1:=by rw[<-gK,tM];rfl
 have i2:ops[2]? =some o2:=by rw[<-gK,tM];rfl
 have i3:ops[3]? =some o3:=by rw[<-gK,tM];rfl
 have i4:ops[4]? =some o4:=by rw[<-gK,tM];rfl
 have i5:ops[5]? =some o5:=by rw[<-gK,tM];rfl
 have i6:ops[6]? =some o6:=by rw[<-gK,tM];rfl
 have i7:ops[7]? =some o7:=by rw[<-gK,tM];rfl
 have lF: ∀o∈ops.toList,∀x,o.dst=some x->f.ok x=true:=fun o ho x hx=>AM dQ o ho x hx
 rw[tM]at lF;have Yn:ops.size=8:=by rw[<-jC,tM];rfl
 have l7: ∀i p k n,Lk (fun E7=>fV i p k n (K E7)) r:=fun i p k n=>AL hl
 have l6: ∀i p k n,Lk (fun E6=>fV i p k n (ep C [] [] .s c o7 E6 fun E7=>fV i p k n (K E7))) r:=fun i p k n=>AL (nh hC hc o7 (l7 i p k n))
 have l1: ∀i p k n,Lk (fun E1=>fV i p k n (ep C [] [] .s c o6 E1 fun E6=>fV i p k n (ep C [] [] .s c o7 E6 fun E7=>fV i p k n (K E7)))) r:=fun i p k n=>AL (nh hC hc o6 (l6 i p k n))
 have l5: ∀i p k n,Lk (fun E5=>ep C [] [] .s c o1 E5 fun E1=>fV i p k n (ep C [] [] .s c o6 E1 fun E6=>fV i p k n (ep C [] [] .s c o7 E6 fun E7=>fV i p k n (K E7)))) r:=fun i p k n=>nh hC hc o1 (l1 i p k n)
 have l4:=AX (C:=C) (x:=x5) (K:=fun E4 i p=>tl i p fun k n=>ep C [] [] .s c o5 E4 fun E5=>ep C [] [] .s c o1 E5 fun E1=>fV i p k n (ep C [] [] .s c o6 E1 fun E6=>fV i p k n (ep C [] [] .s c o7 E6 fun E7=>fV i p k n (K E7)))) (r:=r) (fun i p=>ZwQ (K:=fun E4 k n=>ep C [] [] .s c o5 E4 fun E5=>ep C [] [] .s c o1 E5 fun E1=>fV i p k n (ep C [] [] .s c o6 E1 fun E6=>fV i p k n (ep C [] [] .s c o7 E6 fun E7=>fV i p k n (K E7)))) fun k n=>nh hC hc o5 (l5 i p k n));have l3:=AX (C:=C) (x:=x4) (r:=r) (K:=fun E3 _ _=>ep C [] [] .s c o4 E3 fun E4=>vJ C E4 x5 fun i p=>tl i p fun k n=>ep C [] [] .s c o5 E4 fun E5=>ep C [] [] .s c o1 E5 fun E1=>fV i p k n (ep C [] [] .s c o6 E1 fun E6=>fV i p k n (ep C [] [] .s c o7 E6 fun E7=>fV i p k n (K E7)))) (fun _ _=>nh hC hc o4 l4);have l2:=AX (C:=C) (x:=x3) (r:=r) (K:=fun E2 _ _=>ep C [] [] .s c o3 E2 fun E3=>vJ C E3 x4 fun _ _=>ep C [] [] .s c o4 E3 fun E4=>vJ C E4 x5 fun i p=>tl i p fun k n=>ep C [] [] .s c o5 E4 fun E5=>ep C [] [] .s c o1 E5 fun E1=>fV i p k n (ep C [] [] .s c o6 E1 fun E6=>fV i p k n (ep C [] [] .s c o7 E6 fun E7=>fV i p k n (K E7)))) (fun _ _=>nh hC hc o3 l3);have l0:=nh hC hc o2 l2;simp only[LB,aH,mu,List.isEmpty_iff]at hy;obtain⟨⟨⟨⟨⟨⟨⟨⟨⟨yU,f0,r0⟩,f1,r1⟩,f2,r2⟩,f3,r3⟩,f4,r4⟩,rd5⟩,rd6⟩,rd7⟩,rd8⟩:=hy;have R:=R.drew;generalize cj:({ w with drawn:=w.drawn+1 } :World)=w1 at R;have mv: ∀ {o:Oper},Lp o.op=true->∀(a:Act),∃v,∀w',(execOp a.eval o).run C.P w'= .ok (.value v) w':=by
  intro o ho a;unfold Lp at ho;split at ho
  ·rename_i t e
   exact⟨a.eval (.tmp t),fun w'=>by simp[execOp,e]⟩
  ·cases ho
 have fst: ∀ {o:Oper} {E:Env} {s:St} {ψ:Ps} {a:Act} {K':Env->M β} {v:Value},o∈[o0,o1,o2,o3,o4,o5,o6,o7]->ep C [] [] .s c o E K' s=some r->Lk K' r->Rel C f ψ E s a w1->(execOp a.eval o).run C.P w1= .ok (.value v) w1->
   ∃E' s' ψ',K' E' s'=some r/\Rel C f ψ' E' s' (a.put o.dst v) w1/\∀h cb,ψ h=some cb->ψ' h=some cb:=by
  intro o E s ψ a K' v ho h hl R hv;rcases Jz (f:=f) hC hc h hl hN (lF o ho)with⟨E',s',hk,_,q⟩|⟨s',_,q⟩
  ·obtain⟨ψ',h1,h2⟩:=ZyT (next:=fun a' w'=>∃ψ',Rel C f ψ' E' s' a' w'/\∀h cb,ψ h=some cb->ψ' h=some cb) hv (q ψ a w1 (fun _ _ _=>True) _ R fun ψ' v w' R' m=>⟨ψ',R',m⟩)
   exact⟨E',s',ψ',hk,h1,h2⟩
  ·exact(ZyT (next:=fun _ _=>False) hv (q ψ a w1 (fun _ _ _=>True) _ R fun _ _ _ _ _=>trivial)).elim
 obtain⟨v0,y0⟩:=mv hm0 a;obtain⟨E0,s0,gq,h,R0,_⟩:=fst (by simp) h l0 R (y0 w1);obtain⟨v2,y2⟩:=mv dr (a.put o0.dst v0);obtain⟨E2,s2,iJ,h,R2,_⟩:=fst (by simp) h l2 R0 (y2 w1);obtain⟨b3,p3,Eu,h⟩:=Ji h;obtain⟨cb3,_,e3⟩:=R2.ptr Eu;have y3: ∀w',(execOp ((a.put o0.dst v0).put o2.dst v2).eval o3).run C.P w'= .ok (.value (.pointer (some ⟨cb3.b,cb3.o+p3,none⟩))) w':=fun w'=>by simp[execOp,h3,e3]
 obtain⟨E3,s3,Fm,h,R3,_⟩:=fst (by simp) h l3 R2 (y3 w1);obtain⟨b4,p4,hx4,h⟩:=Ji h;obtain⟨cb4,_,e4⟩:=R3.ptr hx4;obtain⟨off,y4⟩:=Zsw h4 h;have y4:=fun w'=>y4 _ w' _ _ e4
 obtain⟨E4,s4,ψ4,h,R4,_⟩:=fst (by simp) h l4 R3 (y4 w1);obtain⟨i,p,SO,h⟩:=Ji h;obtain⟨cb,qP,e5⟩:=R4.ptr SO;obtain⟨k,n,u9,h⟩:=Zp7 h;have y5:=fun w' hw=>Zz3 h5 K4 h _ w' _ (.int k n) e5 hw
 have hS:w1.cell? ⟨cb.b,cb.o+p,none⟩=some (.int k n):=R4.num qP u9;obtain⟨E5,s5,ψ5,h,R5,m5⟩:=fst (by simp) h (l5 i p k n) R4 (y5 w1 hS);have qP:=m5 _ _ qP;refine wp_mono (Q:=fun e a' w'=>match e with
  | .normal=>∃E' s' ψ',K E' s'=some r/\Rel C f ψ' E' s' a' w'
  | .panic ch=>l8 ch/\∃s',r=(.cC,s')/\oo C f s' a' w'
  |_=>False) (wp_region_held (S:=fun w'=>w'.cell? ⟨cb.b,cb.o+p,none⟩=some (.int k n)) ra ?_) ?_
 rotate_left
 ·intro e a' w' he
  cases e with
  |normal=>obtain⟨E',s',ψ',hk,R'⟩:=he;exact qn E' s' ψ' a' w' hk R'
  |panic ch=>obtain⟨hv,s',e,hp⟩:=he;exact qp ch a' w' s' e hv hp
  |_=>exact he.elim
 have wanted: ∀ {o:Oper} {y:Nat->Option Bool},o.guard=none->Region.wanted o y=true:=fun hg=>by simp[Region.wanted,hg]
 have hQ: ∀ {o:Oper} {v:Value},o∈[o0,o1,o2,o3,o4,o5,o6,o7]->∀ch a' w',(l8 ch/\∃s',r=(.cC,s')/\oo C f s' (a'.put o.dst v) w')->(l8 ch/\∃s',r=(.cC,s')/\oo C f s' a' w'):=
  fun ho ch a' w' ⟨hv,s',e,hp⟩=>⟨hv,s',e,hp.aaJ (lF _ ho)⟩
 rw[Yn,cj];refine wpAnyH_take i0 yU f0 r0 (hQ (by simp)) (.inl ⟨wanted g0,fun w' _=>y0 w'⟩) hS ?_;refine wpAnyH_take i2 yU f1 r1 (hQ (by simp)) (.inl ⟨wanted g2,fun w' _=>y2 w'⟩) hS ?_;refine wpAnyH_take i3 yU f2 r2 (hQ (by simp)) (.inl ⟨wanted g3,fun w' _=>y3 w'⟩) hS ?_;refine wpAnyH_take i4 yU f3 r3 (hQ (by simp)) (.inl ⟨wanted g4,fun w' _=>y4 w'⟩) hS ?_;refine wpAnyH_take i5 yU f4 r4 (hQ (by simp)) (.inl ⟨wanted g5,fun w' hw=>y5 w' hw⟩) hS ?_;refine wpAnyH_all rd5 (by simp) fun j hj=>?_
 rw[bK]at hj;subst hj;refine Qj i1 g1 ?_;rcases Jz (f:=f) hC hc h (l1 i p k n) hN (lF o1 (by simp))with⟨E1,s1,h,_,q1⟩|⟨s',e,q1⟩
 rotate_left
 ·exact q1 _ _ _ _ _ R5 fun ch a' w' hv hp=>⟨hv,s',e,hp⟩
 refine q1 _ _ _ _ _ R5 fun gr v1 w2 R1 m1=>?_
 have qP:=m1 _ _ qP;obtain⟨h,fQ⟩:=Iw h;refine⟨R1.num qP fQ,wpAnyH_all rd6 (by simp) fun j hj=>?_⟩;rw[bK]at hj;subst hj;refine Qj i6 g6 ?_;rcases Jz (f:=f) hC hc h (l6 i p k n) hN (lF o6 (by simp))with⟨E6,s6,h,_,q6⟩|⟨s',e,q6⟩
 rotate_left
 ·exact q6 _ _ _ _ _ R1 fun ch a' w' hv hp=>⟨hv,s',e,hp⟩
 refine q6 _ _ _ _ _ R1 fun ψ6 v6 w6 R6 m6=>?_
 have qP:=m6 _ _ qP;obtain⟨h,hc6⟩:=Iw h;refine⟨R6.num qP hc6,wpAnyH_all rd7 (by simp) fun j hj=>?_⟩;rw[bK]at hj;subst hj;refine Qj i7 g7 ?_;rcases Jz (f:=f) hC hc h (l7 i p k n) hN (lF o7 (by simp))with⟨E7,s7,h,_,q7⟩|⟨s',e,q7⟩
 rotate_left
 ·exact q7 _ _ _ _ _ R6 fun ch a' w' hv hp=>⟨hv,s',e,hp⟩
 refine q7 _ _ _ _ _ R6 fun ψ7 v7 w7 R7 m7=>?_
 have qP:=m7 _ _ qP;obtain⟨h,hc7⟩:=Iw h;exact⟨R7.num qP hc7,wpAnyH_done rd8 ⟨E7,s7,ψ7,h,R7⟩ _⟩
end
end Go.Gv
namespace Go.Gv
variable {β:Type}
def mh:Code->List Code
 | .seq a b=>mh a++mh b
 |c=>[c]
def oX (P:Program):List Code->(Exit->Act->World->Prop)->Act->World->Prop
 |[],Q=>Q .normal
 |x::r,Q=>x.wp P (Exit.then (oX P r Q) Q)
theorem Zys (n m:Act->World->Prop) (Q:Exit->Act->World->Prop):Exit.then n (Exit.then m Q)=Exit.then n Q:=by
 funext e a w;cases e<;>rfl
theorem Zyl (Q:Exit->Act->World->Prop):Exit.then (Q .normal) Q=Q:=by
 funext e a w;cases e<;>rfl
theorem Qi {P:Program} : ∀(l m:List Code) (Q:Exit->Act->World->Prop),oX P (l++m) Q=oX P l (Exit.then (oX P m Q) Q)
 |[],m,Q=>rfl
 |x::l,m,Q=>by
  show x.wp P (Exit.then (oX P (l++m) Q) Q)=x.wp P (Exit.then (oX P l (Exit.then (oX P m Q) Q)) (Exit.then (oX P m Q) Q));rw[Qi l m Q,Zys]
theorem ZAN {P:Program} : ∀(c:Code) (Q:Exit->Act->World->Prop) (a:Act) (w:World),oX P (mh c) Q a w->c.wp P Q a w:=by
 intro c;induction c with
 |seq x y ihx ihy=>
  intro Q a w h;rw[mh,Qi]at h;refine wp_seq (wp_mono (ihx _ a w h) fun e a w h=>?_);cases e<;>first|exact ihy Q a w h|exact h
 |_=>intro Q a w h;simp only[mh,oX,Zyl]at h;exact h
def EB:Code->Option (Array Oper)
 | .region _ ops true=>bif LB ops&&Nat.beq ops.size 8 then some ops else none
 |_=>none
noncomputable def Ds (C:aP) (c:Zg) (n:Nat) (x:Code) (kn kr:Env->M β):Env->M β:=match EB x with
 |some ops=>fun E=>EW C c ops E kn
 |none=>exec C [] c n x .z kn (fun _ _=>fail) kr
noncomputable def tq (C:aP) (c:Zg) (n:Nat):List Code->(Env->M β)->(Env->M β)->Env->M β
 |[],kn,_=>kn
 |x::r,kn,kr=>Ds C c n x (tq C c n r kn kr) kr
def EJ (ok:Nat->Bool):List Code->Bool
 |[]=>true
 |x::r=>tX ok x&&EJ ok r
section
variable {C:aP} {f:Fr} {c:Zg} {n:Nat} {r:Out β×St}
theorem Zz8 {x:Code} {ops:Array Oper} (h:EB x=some ops): ∃id,x= .region id ops true:=by
 unfold EB at h;split at h
 ·rename_i id V1
  cases hb:LB V1&&Nat.beq V1.size 8 with
  |false=>rw[hb]at h;cases h
  |true=>rw[hb]at h;cases h;exact⟨id,rfl⟩
 ·cases h
theorem ZAe (hC:lZ C) (hc:ZC C c) {ops:Array Oper} {K:Env->M β} (h:Lk K r):Lk (fun E=>EW C c ops E K) r:=by
 intro E s h';unfold EW at h';cases cJ:Dv ops.toList with
 |none=>rw[cJ]at h';cases h'
 |some q=>
  obtain⟨o0,o1,o2,o3,o4,o5,o6,o7⟩:=q;rw[cJ]at h';simp only at h';obtain⟨_,h'⟩:=Zp h';cases h3:o3.op with
  |nilCheck x3=>
   cases h4:o4.op with
   |fieldAddr LL x4 J7=>
    cases h5:o5.op with
    |load LO x5=>
     rw[h3,h4,h5]at h';simp only at h';obtain⟨_,h'⟩:=ZP h';refine nh hC hc o0 (nh hC hc o2 (AX (K:=fun E2 _ _=>_) fun _ _=>nh hC hc o3 (AX (K:=fun E3 _ _=>_) fun _ _=>nh hC hc o4 (AX (K:=fun E4 i p=>_) fun i p=>ZwQ (K:=fun E4 k n=>_) fun k n=>nh hC hc o5 (nh hC hc o1 (AL (nh hC hc o6 (AL (nh hC hc o7 (AL h)))))))))) E s h'
    |_=>rw[h3,h4,h5]at h';cases h'
   |_=>rw[h3,h4]at h';cases h'
  |_=>rw[h3]at h';cases h'
theorem Zx0 (hC:lZ C) (hc:ZC C c) (x:Code) (kn kr:Env->M β) (h:Lk kn r) (k:Lk kr r):Lk (Ds C c n x kn kr) r:=by
 unfold Ds;cases EB x with
 |some ops=>exact ZAe hC hc h
 |none=>exact C2 hC hc x .z _ _ kr h (fun _ _ _ h=>by cases h) k
theorem AA (hC:lZ C) (hc:ZC C c): ∀(l:List Code) (kn kr:Env->M β),Lk kn r->Lk kr r->Lk (tq C c n l kn kr) r
 |[],_,_,h,_=>h
 |x::l,kn,kr,h,k=>Zx0 hC hc x _ kr (AA hC hc l kn kr h k) k
theorem Pf (hC:lZ C) (hc:ZC C c) (ra:C.P.follows .mixedOrders=true) (hN:r.2.length<=f.N): ∀(l:List Code) (kn kr:Env->M β),EJ f.ok l=true->Lk kn r->Lk kr r->
  ∀(E:Env) (s:St),tq C c n l kn kr E s=some r->∀(ψ:Ps) (a:Act) (w:World) (QQ:Exit->Act->World->Prop),Rel C f ψ E s a w->
  (∀E' s' ψ' a' w',kn E' s'=some r->Rel C f ψ' E' s' a' w'->QQ .normal a' w')->
  (∀E' s' ψ' a' w',kr E' s'=some r->Rel C f ψ' E' s' a' w'->QQ .ret a' w')->
  (∀ch a' w' s',r=(.cC,s')->l8 ch->oo C f s' a' w'->QQ (.panic ch) a' w')->oX C.P l QQ a w
 |[],kn,kr,_,_,_,E,s,h,ψ,a,w,QQ,R,qn,_,_=>qn E s ψ a w h R
 |x::l,kn,kr,ho,hn,hr,E,s,h,ψ,a,w,QQ,R,qn,qr,qp=>by
  simp only[EJ,aH]at ho;have rest: ∀E' s' ψ' a' w',tq C c n l kn kr E' s'=some r->Rel C f ψ' E' s' a' w'->oX C.P l QQ a' w':=fun E' s' ψ' a' w' h' R'=>
   Pf hC hc ra hN l kn kr ho.2 hn hr E' s' h' ψ' a' w' QQ R' qn qr qp
  have h:Ds C c n x (tq C c n l kn kr) kr E s=some r:=h;unfold Ds at h;cases hy:EB x with
  |some ops=>
   rw[hy]at h;obtain⟨id,rfl⟩:=Zz8 hy;exact ZzJ hC hc ho.1 h (AA hC hc l kn kr hn hr) ra hN id R _ rest (fun ch a' w' s' e h1 h2=>qp ch a' w' s' e h1 h2)
  |none=>
   rw[hy]at h;exact PX hC hc ra hN x .z _ _ kr ho.1 (AA hC hc l kn kr hn hr) (fun _ _ _ h=>by cases h) hr E s h ψ a w _ R (fun E' s' ψ' a' w' h' R' _=>rest E' s' ψ' a' w' h' R') (fun _ _ _ _ _ _ h=>by cases h) (fun E' s' ψ' a' w' h' R'=>qr E' s' ψ' a' w' h' R') (fun ch a' w' s' e h1 h2=>qp ch a' w' s' e h1 h2)
theorem hZ.trans {gq gr iJ:Ps} {s0 s1 s2:St} {w0 w1 w2:World} (hl:s0.length<=s1.length) (kh:s1.length<=s2.length) (h:hZ C gq s0 w0 gr s1 w1) (k:hZ C gr s1 w1 iJ s2 w2):hZ C gq s0 w0 iJ s2 w2:=by
 refine⟨k.dH,h.ext.trans k.ext,fun x cb e=>?_⟩;rcases k.news x cb e with e|⟨i,rfl,h1,h2⟩
 ·rcases h.news x cb e with e|⟨i,rfl,h1,h2⟩
  ·exact .inl e
  ·exact .inr ⟨i,rfl,h1,by omega⟩
 ·exact .inr ⟨i,rfl,by omega,h2⟩
end
def mW (C:aP) (E:Env):List ResultVar->(List DV->M β)->M β
 |[],K=>K []
 | .cell a t::r,K=>match E.get a with
  | .v (.ptr (some (i,o)))=>nY C.P t (bif ZL C.P t then M.load i o (C.P.cellsOf t) fun cs=>mW C E r fun ds=>K (.agg cs::ds)else M.au i o fun d=>mW C E r fun ds=>K (d::ds))
  |_=>fail
 | .tmp _::_,_=>fail
def Dp:Option Code->Option (Nat×FuncId×List Operand)
 |some (.region _ ⟨[⟨some td,.makeFunc (.func g) ⟨[]⟩ ⟨fX⟩,_,_,_,none⟩,⟨none,.defer ⟨.value (.tmp t'),⟨[]⟩,_⟩,_,_,_,none⟩]⟩ false)=>bif Nat.beq td t' then some (td,g,fX)else none
 |_=>none
def tU (P:Program) (ty:TypeId):Bool:=match P.underlying ty with
 |some (.interface _)=>true
 |_=>false
def Be (P:Program) (m N:Nat):Code->Option Code
 | .seq (.region _ ⟨[⟨some t3,.call ⟨.builtin .recover,⟨[]⟩,_⟩,_,_,_,none⟩,⟨some t4,.binOp .neq ty (.tmp TX) (.const .nilIface) _,_,_,_,none⟩]⟩ false) (.cond (.tmp TY) b .skip)=>
  bif Nat.beq t3 TX&&Nat.beq t4 TY&& !Nat.beq t3 t4&&Nat.ble m t3&&Nat.ble m t4&&Nat.blt t3 N&&Nat.blt t4 N&&tU P ty then some b else none
 |_=>none
def Lq:dx->Bool
 | .u=>true
 |_=>false
def sA:List ResultVar->Nat->Bool
 |[],_=>true
 | .cell a _::r,t=> !Nat.beq a t&&sA r t
 | .tmp _::_,_=>false
noncomputable def QH (C:aP) (k:Nat) (fn eF:Func) (c:Zg) (n:Nat) (args:List DV):M (List DV):=
 match fn.body,eF.body with
 |some code,some uW=>match Dp ((mh code)[k]?),Be C.P eF.nfree eF.ntmps uW with
  |some (td,_,fX),some gb=>
   bif EJ (oO fn.ntmps) ((mh code).take k)&&EJ (fun t=>oO fn.ntmps t&&sA fn.results.toList t) ((mh code).drop (k+1))&&tX (oO eF.ntmps) gb&&Nat.ble fn.params.size fn.ntmps&&Nat.blt td fn.ntmps&&sA fn.results.toList td
    &&Nat.beq fn.nfree 0&&Nat.beq eF.params.size 0&&eF.results.isEmpty&&Nat.ble eF.nfree eF.ntmps&&Nat.beq fX.length eF.nfree then
    wJ (fn.params.toList.map (kq C.P)) args fun ds=>
     let fin (E:Env):M (List DV):=mW C E fn.results.toList fun ds=>M.ret ds
     tq C c n ((mh code).take k) (fun E=>M.ak (Nat.beq E.aZ 0&&Lq (E.get td)) (vO C E fX fun cs=>
      M.ny (tq C c n ((mh code).drop (k+1)) (fun _=>M.ret []) (fun _=>M.ret []) E)
       fun p=>bif p then M.ny (exec C [] c n gb .z (fun _=>M.ret []) (fun _ _=>fail) (fun _=>M.ret []) ⟨0,iB 0 cs⟩) fun p=>bif p then fail else fin E
        else fin E)) fin ⟨0,iB 0 ds⟩
   else fail
  |_,_=>fail
 |_,_=>fail
end Go.Gv
namespace Go.Gv
variable {β:Type}
section
variable {C:aP} {ψ:Ps} {s:St} {w:World} {g:FuncId} {eF:Func}
theorem Zsb {P:Program} {m N:Nat} {c gb:Code} (h:Be P m N c=some gb):
  ∃id t3 t4 ty aT rT rP rA eT tp eP eA,c= .seq (.region id #[⟨some t3,.call ⟨.builtin .recover, #[],aT⟩,rT,rP,rA,none⟩,⟨some t4,.binOp .neq ty (.tmp t3) (.const .nilIface) eT,tp,eP,eA,none⟩] false) (.cond (.tmp t4) gb .skip)/\
   t3≠t4/\m<=t3/\m<=t4/\t3<N/\t4<N/\tU P ty=true:=by
 unfold Be at h;split at h
 ·rename_i id t3 aT rT rP rA t4 ty TX eT tp eP eA TY b
  cases hc:(Nat.beq t3 TX&&Nat.beq t4 TY&& !Nat.beq t3 t4&&Nat.ble m t3&&Nat.ble m t4&&Nat.blt t3 N&&Nat.blt t4 N&&tU P ty)with
  |false=>rw[hc]at h;cases h
  |true=>
   rw[hc]at h;simp only[cond_true,cX]at h;subst h;simp only[aH]at hc;obtain⟨⟨⟨⟨⟨⟨⟨h1,h2⟩,h3⟩,h4⟩,h5⟩,h6⟩,h7⟩,h8⟩:=hc;cases cc h1;cases cc h2;refine⟨id,t3,t4,ty,aT,rT,rP,rA,eT,tp,eP,eA,rfl,?_,lW h4,lW h5,by rw[lV]at h6;exact h6,by rw[lV]at h7;exact h7,h8⟩;intro e;subst e;simp[uo]at h3
 ·cases h
theorem ZpP {P:Program} {ty:TypeId} (h:tU P ty=true): ∃ms,P.underlying ty=some (.interface ms):=by
 unfold tU at h;split at h
 ·rename_i ms BE;exact⟨ms,BE⟩
 ·cases h
theorem ZxM {P:Program} {ty:TypeId} (h:tU P ty=true) (d:Nat) (t:TypeId) (v:Value) (w:World):(Op.equalIn (d+1) ty (.iface t v) .nilIface).run P w= .ok false w:=by
 obtain⟨ms,hu⟩:=ZpP h;rw[Op.equalIn.eq_2,Sem.run_bind,Zj w hu];rfl
theorem ZxZ {P:Program} {ty:TypeId} (h:tU P ty=true) (d:Nat) (w:World):(Op.equalIn (d+1) ty .nilIface .nilIface).run P w= .ok true w:=by
 obtain⟨ms,hu⟩:=ZpP h;rw[Op.equalIn.eq_2,Sem.run_bind,Zj w hu];rfl
theorem Zzk {P:Program} {ty:TypeId} (h:tU P ty=true) (t:TypeId) (v:Value) (w:World):(binOp .neq ty (.iface t v) .nilIface).run P w= .ok (.bool true) w:=by
 have e:binOp .neq ty (.iface t v) .nilIface=(do let b <-Op.equal ty (.iface t v) .nilIface;pure (.bool !b)):=by
  unfold binOp;rfl
 rw[e,Sem.run_bind,show Op.equal ty (.iface t v) .nilIface=Op.equalIn (9999+1) ty (.iface t v) .nilIface from rfl,ZxM h];rfl
theorem ZAK {P:Program} {ty:TypeId} (h:tU P ty=true) (w:World):(binOp .neq ty .nilIface .nilIface).run P w= .ok (.bool false) w:=by
 have e:binOp .neq ty .nilIface .nilIface=(do let b <-Op.equal ty .nilIface .nilIface;pure (.bool !b)):=by
  unfold binOp;rfl
 rw[e,Sem.run_bind,show Op.equal ty .nilIface .nilIface=Op.equalIn (9999+1) ty .nilIface .nilIface from rfl,ZxZ h];rfl
theorem ZxH {P:Program} {ops:Array Oper} {Q:Exit->Act->List Frame->World->Prop} {i:Nat} {rest:List Nat} {o:Oper} {a:Act} {cs cs':List Frame} {x:Value} (ho:ops[i]? =some o) (hg:o.guard=none) (he:(execOp a.eval o).run P w= .ok .recover w)
  (aD:(match recoverD cs with|some (v,cs')=>(v,cs')|none=>(Value.nilIface,cs))=(x,cs')) (h:wpOpsS P ops Q rest (a.put o.dst x) cs' w):wpOpsS P ops Q (i::rest) a cs w:=by
 simp only[wpOpsS,ho];rw[aG (by simp[Region.wanted,hg]),he];simp only;cases hr:recoverD cs with
 |none=>rw[hr]at aD;cases aD;exact h
 |some p=>rw[hr]at aD;cases aD;exact h
theorem ZxQ {P:Program} {ops:Array Oper} {Q:Exit->Act->List Frame->World->Prop} {i:Nat} {rest:List Nat} {o:Oper} {a:Act} {cs:List Frame} {x:Value} (ho:ops[i]? =some o) (hg:o.guard=none) (he:(execOp a.eval o).run P w= .ok (.value x) w)
  (h:wpOpsS P ops Q rest (a.put o.dst x) cs w):wpOpsS P ops Q (i::rest) a cs w:=by
 simp only[wpOpsS,ho];rw[aG (by simp[Region.wanted,hg]),he];exact h
def zD (vs:Array Value) (N t3 t4:Nat) (x:Value) (b:Bool):Array Value:=((vs++Array.replicate (N-vs.size) Go.undef).setIfInBounds t3 x).setIfInBounds t4 (.bool b)
theorem ZkN {gb:Code} {id t3 t4:Nat} {ty:TypeId} {aT:Array TypeId} {rT:TypeId} {rP:String} {rA:Array Edge} {eT tp:TypeId} {eP:String} {eA:Array Edge} {N:Nat} {vs:Array Value} (aa0:t3≠t4) (h3:t3<N) (h4:t4<N) (aa2:tU C.P ty=true)
  {Q:Exit->Act->List Frame->World->Prop} {tm:Frame} {cs:List Frame} {x:Value} {cs':List Frame} {b:Bool}
  (aD:(match recoverD (tm::cs)with|some (v,cs')=>(v,cs')|none=>(Value.nilIface,tm::cs))=(x,cs')) (hb:(binOp .neq ty x .nilIface).run C.P w= .ok (.bool b) w) (hx:(∃t v,x= .iface t v)\/x= .nilIface)
  (h:(bif b then gb else .skip).wpS C.P Q { tmps:=zD vs N t3 t4 x b,defers:=[] } cs' w):
  (Code.seq (.region id #[⟨some t3,.call ⟨.builtin .recover, #[],aT⟩,rT,rP,rA,none⟩,⟨some t4,.binOp .neq ty (.tmp t3) (.const .nilIface) eT,tp,eP,eA,none⟩] false) (.cond (.tmp t4) gb .skip)).wpS C.P Q { tmps:=vs++Array.replicate (N-vs.size) Go.undef,defers:=[] } (tm::cs) w:=by
 have bG:N<=(vs++Array.replicate (N-vs.size) Go.undef).size:=by simp;omega
 refine wpS_seq (wpS_region ?_);have e1: ∀ev:Operand->Value,(execOp ev ⟨some t3,.call ⟨.builtin .recover, #[],aT⟩,rT,rP,rA,none⟩).run C.P w= .ok .recover w:=fun _=>rfl
 have fin:wpOpsS C.P #[⟨some t3,.call ⟨.builtin .recover, #[],aT⟩,rT,rP,rA,none⟩,⟨some t4,.binOp .neq ty (.tmp t3) (.const .nilIface) eT,tp,eP,eA,none⟩] (Exit.thenS ((Code.cond (.tmp t4) gb .skip).wpS C.P Q) Q) [1] (({ tmps:=vs++Array.replicate (N-vs.size) Go.undef,defers:=[] } :Act).put (some t3) x) cs' w:=by
  have RA:(({ tmps:=vs++Array.replicate (N-vs.size) Go.undef,defers:=[] } :Act).put (some t3) x).eval (.tmp t3)=x:=by
   simp only[Act.put,Act.eval];rw[mn,zL (by omega)];rfl
  have e2:(execOp (({ tmps:=vs++Array.replicate (N-vs.size) Go.undef,defers:=[] } :Act).put (some t3) x).eval ⟨some t4,.binOp .neq ty (.tmp t3) (.const .nilIface) eT,tp,eP,eA,none⟩).run C.P w= .ok (.value (.bool b)) w:=by
   show(do let v <-(do eqGuard .neq ty (.tmp t3) (.const .nilIface) (Act.eval _ (.tmp t3)) (Act.eval _ (.const .nilIface));binOp .neq ty (Act.eval _ (.tmp t3)) (Act.eval _ (.const .nilIface)));pure (Next.value v):Sem Next).run C.P w=_;rw[RA];have hg:(eqGuard .neq ty (.tmp t3) (.const .nilIface) x .nilIface).run C.P w= .ok () w:=by
    rcases hx with⟨t,v,rfl⟩|rfl<;>rfl
   show((do eqGuard .neq ty (.tmp t3) (.const .nilIface) x .nilIface;binOp .neq ty x .nilIface:Sem Value)>>= fun v=>pure (Next.value v)).run C.P w=_;rw[Sem.run_bind,Sem.run_bind,hg,Result.andThen_ok,hb];rfl
  refine ZxQ (o:=⟨some t4,.binOp .neq ty (.tmp t3) (.const .nilIface) eT,tp,eP,eA,none⟩) rfl rfl e2 ?_;show Exit.thenS _ Q .normal _ cs' w;refine wpS_cond (t:=b) ?_ ?_
  ·simp only[Act.put,Act.eval]
   rw[mn,zL (by simp;omega)];rfl
  ·cases b<;>exact h
 show wpOpsS C.P _ _ [0,1] _ _ _;exact ZxH (o:=⟨some t3,.call ⟨.builtin .recover, #[],aT⟩,rT,rP,rA,none⟩) rfl rfl (e1 _) aD fin
theorem ZmQ {fn:Func} (h:fn.results.isEmpty=true) (tmps:Array Value) (P:Program) (w:World):(results fn tmps).run P w= .ok (.tuple #[]) w:=by
 have e:fn.results= #[]:=by simpa using h
 simp[results,e]
theorem Zua {gb uW:Code} {vs:Array Value} (yL:C.P.funcs[g]? =some eF) (pU:eF.body=some uW) (hd:Be C.P eF.nfree eF.ntmps uW=some gb) (Ei:eF.results.isEmpty=true):
  CallsD C.P g vs .returning w fun e u' w'=>e= .returned (.tuple #[])/\u'= .returning/\w'=w:=by
 obtain⟨id,t3,t4,ty,aT,rT,rP,rA,eT,tp,eP,eA,rfl,bn,_,_,h3,h4,nP⟩:=Zsb hd;refine callsD_of_wpS yL pU fun tm cs hu=>?_
 refine ZkN (x:= .nilIface) (b:=false) bn h3 h4 nP (cs':=tm::cs) ?_ (ZAK nP w) (.inr rfl) ?_
 ·simp only[recoverD,hu]
 ·refine wpS_of_wp (wp_skip ?_)
  refine⟨rfl,.returning,?_,_,ZmQ Ei _ _ _,rfl,rfl,rfl⟩;cases tm;simp only at hu;subst hu;rfl
theorem Zwk (hF:Ce C) {c:Zg} (hc:ZC C c) {n:Nat} {gb uW:Code} {vs:List Value} {ds:List DV} (yL:C.P.funcs[g]? =some eF) (pU:eF.body=some uW) (hd:Be C.P eF.nfree eF.ntmps uW=some gb) (Ei:eF.results.isEmpty=true)
  (dQ:tX (oO eF.ntmps) gb=true) (hm:vs.length=eF.nfree) (hmN:eF.nfree<=eF.ntmps) {ds0:List DV} {s3:St} (h:exec C [] c n gb .z (fun _=>M.ret []) (fun _ _=>fail) (fun _=>M.ret []) ⟨0,iB 0 ds⟩ s=some (.val ds0,s3))
  (vx:dU C ψ (CS s) w) (DG:oi ψ w) (yM:Glob C ψ) (kM:aS C ψ ds vs) (wZ: ∀v,ψ (.inr v)=none) (Es: ∀i,s.length<=i->i<s3.length->ψ (.inl i)=none) {ch:List PanicEntry} (pP:l8 ch):
  CallsD C.P g vs.toArray (.panicking ch) w fun e u' w'=>e= .returned (.tuple #[])/\settle u'= .returning/\∃ψ',hZ C ψ s w ψ' s3 w':=by
 obtain⟨id,t3,t4,ty,aT,rT,rP,rA,eT,tp,eP,eA,rfl,bn,xe,K0,h3,h4,nP⟩:=Zsb hd;obtain⟨pt,pv,rfl⟩:=pP;refine callsD_of_wpS yL pU fun tm cs hu=>?_
 refine ZkN (x:= .iface pt pv) (b:=true) bn h3 h4 nP (cs':= { tm with mode:= .panicking [{ v:= .iface pt pv,recovered:=true }] } ::cs) ?_ (Zzk nP _ _ w) (.inl ⟨_,_,rfl⟩) ?_
 ·simp only[recoverD,hu]
 simp only[cond_true];have lk: ∀r:Out (List DV)×St,Lk (fun _:Env=>(M.ret []:M (List DV))) r:=by
  intro r E s' h';simp only[M.ret,cX]at h';subst h';exact ay _
 have kf:ds.length=vs.length:=kM.len
 let f:Fr:=⟨s3.length,eF.ntmps,ψ,s,w,oO eF.ntmps,fun x h=>by unfold oO at h;rw[lV]at h;exact h,fun t=>(zD vs.toArray eF.ntmps t3 t4 (.iface pt pv) true).getD t Go.undef,[]⟩
 have sa: ∀t,(⟨0,iB 0 ds⟩:Env).get t=match ds[t]? with|some d=> .v d|none=> .u:=by
  intro t;have:=IW 0 ds t;simp only[bH,iM,qy]at this;exact this
 have ml: ∀t v,((⟨0,iB 0 ds⟩:Env).get t).bY≠some v:=by
  intro t v;rw[sa];cases ds[t]? <;>simp[dx.bY]
 have wG: ∀h ab,CR ⟨0,iB 0 ds⟩ s h ab->CS s h ab:=by
  intro h ab c;cases h with
  |inl i=>exact⟨i,rfl,c⟩
  |inr v=>
   rcases c with⟨t,n,cs,e,_⟩|⟨t,l,p,e,_⟩
   ·exact absurd (by rw[e];rfl) (ml t v)
   ·exact absurd (by rw[e];rfl) (ml t v)
 have R:Rel C f ψ ⟨0,iB 0 ds⟩ s { tmps:=zD vs.toArray eF.ntmps t3 t4 (.iface pt pv) true,defers:=[] } w:=by
  refine⟨vx.weaken fun _ _ _ _ c=>wG _ _ c,⟨fun t v e=>absurd e (ml t v),fun t r v o e=>?_,fun t v n cs e=>absurd (by rw[e];rfl) (ml t v),fun t t' v e _=>absurd e (ml t v)⟩,DG,yM,fun t=>?_,?_,rfl,Es,fun v _=>wZ v,(Ext.refl ψ (CS s) w).weaken fun _ _ _ _ c=>wG _ _ c,fun i cb e=> .inl e,ay _,wZ⟩
  ·rw[sa]at e
   cases hd:ds[t]? <;>rw[hd]at e<;>cases e
  ·rw[sa]
   cases hd:ds[t]? with
   |none=>trivial
   |some d=>
    obtain⟨v,hv,hr⟩:=kM.get hd;have aj:=(cd.1 hv).1;have:(zD vs.toArray eF.ntmps t3 t4 (.iface pt pv) true).getD t Go.undef=v:=by
     unfold zD;rw[mn,xP (by omega),xP (by omega),Fp (by simpa using aj)];simp[hv]
    show eB C ψ (.v d) _;rw[this];exact hr
  ·refine⟨?_,fun _ _=>rfl⟩
   show(zD vs.toArray eF.ntmps t3 t4 (.iface pt pv) true).size=eF.ntmps;simp[zD];omega
 refine wpS_of_wp ?_;have done: ∀ {E':Env} {s':St} {ψ':Ps} {a':Act} {w':World},(M.ret []:M (List DV)) s'=some (.val ds0,s3)->Rel C f ψ' E' s' a' w'->
   a'.defers=[]/\∃u',({ tm with mode:= .panicking [{ v:= .iface pt pv,recovered:=true }] } ::cs:List Frame)= { tm with mode:=u' } ::cs/\∃v,(results eF a'.tmps).run C.P w'= .ok v w'/\Ending.returned v= .returned (.tuple #[])/\settle u'= .returning/\∃ψ',hZ C ψ s w ψ' s3 w':=by
  intro E' s' ψ' a' w' h' R';simp only[M.ret,cX,xX]at h';obtain⟨_,rfl⟩:=h';exact⟨R'.defs,_,rfl,_,ZmQ Ei _ _ _,rfl,rfl,_,R'.uQ⟩
 refine PX hF.cfg hc hF.J8 (f:=f) (ay _) gb .z _ _ _ dQ (lk _) (fun i E s h=>by cases h) (lk _) _ s h ψ _ w _ R ?_ ?_ ?_ ?_
 ·intro E' s' ψ' a' w' h' R' _;exact done h' R'
 ·intro i E' s' ψ' a' w' h' _ _;cases h'
 ·intro E' s' ψ' a' w' h' R';exact done h' R'
 ·intro ch a' w' s' e;cases e
end
end Go.Gv
namespace Go.Gv
variable {β:Type}
section
variable {C:aP} {ψ:Ps} {E:Env} {s:St} {w:World}
def Dd (ψ:Ps) (E:Env) (tmps:Array Value) (l:List ResultVar):Prop:=
 ∀a t,ResultVar.cell a t∈l->∀i o,E.get a= .v (.ptr (some (i,o)))->∃cb:CB,ψ (.inl i)=some cb/\tmps.getD a undef= .pointer (some ⟨cb.b,cb.o+o,none⟩)
theorem PL (hs:dU C ψ (CS s) w) {tmps:Array Value} {r:Out β×St} : ∀ {l:List ResultVar} {K:List DV->M β},Dd ψ E tmps l->mW C E l K s=some r->∃ds vs,K ds s=some r/\aS C ψ ds vs/\(l.mapM (JK tmps)).run C.P w= .ok vs w
 |[],K,_,h=>⟨[],[],h,.nil,by simp⟩
 | .tmp t::l,K,_,h=>by cases h
 | .cell a t::l,K,hp,h=>by
  have du:Dd ψ E tmps l:=fun a t hm=>hp a t (lT _ hm)
  simp only[mW]at h;cases hx:E.get a with
  |v d=>
   rw[hx]at h;cases d with
   |ptr p=>
    cases p with
    |none=>cases h
    |some q=>
     obtain⟨i,o⟩:=q;simp only at h;obtain⟨cb,e1,e3⟩:=hp a t (by simp) i o hx;obtain⟨td,ht,h⟩:=mC h;have asA:(asAddr (tmps.getD a undef)).run C.P w= .ok ⟨cb.b,cb.o+o,none⟩ w:=by rw[e3];rfl
     cases fP:ZL C.P t with
     |true=>
      rw[fP]at h;simp only[cond_true]at h;obtain⟨fz,cs,bB,hn,h⟩:=CO h;have hh:=hs.holds (.inl i) cb _ e1 ⟨i,rfl,bB⟩;obtain⟨ds,vs,hk,hr,cH⟩:=PL hs du h;obtain⟨vc,hv,_,iT,h1⟩:=Ir (P:=C.P) hh (p:=o) (n:=C.P.cellsOf t) hn;refine⟨_,_,hk,.cons _ _ _ _ (.agg _ vc iT h1) hr,C1 ?_ cH⟩;show(do loadVar t (<-asAddr (tmps.getD a undef)):Sem Value).run C.P w=_;rw[Sem.run_bind,asA,Result.andThen_ok];exact Gl ht fP _ w hv
     |false=>
      rw[fP]at h;simp only[cond_false]at h;unfold M.au at h;cases lE:s.cells i with
      |none=>rw[lE]at h;cases h
      |some cs=>
       rw[lE]at h;simp only at h;cases hd:cs[o]? with
       |none=>rw[hd]at h;cases h
       |some d=>
        rw[hd]at h;simp only at h;have bB: ∃f,cq s i=some (.cells f cs):=by
         unfold St.cells at lE;split at lE
         ·rename_i bk tz
          cases lE;exact⟨bk.jc,by simp only[cq,tz]⟩
         ·cases lE
        obtain⟨fz,bB⟩:=bB;have hh:=hs.holds (.inl i) cb _ e1 ⟨i,rfl,bB⟩;obtain⟨ds,vs,hk,hr,cH⟩:=PL hs du h;obtain⟨y,hv,iT,_⟩:=I8 (P:=C.P) hh hd;refine⟨_,_,hk,.cons _ _ _ _ iT hr,C1 ?_ cH⟩;show(do loadVar t (<-asAddr (tmps.getD a undef)):Sem Value).run C.P w=_;rw[Sem.run_bind,asA,Result.andThen_ok];exact Cm ht fP _ w hv
   |_=>cases h
  |_=>rw[hx]at h;cases h
theorem PI {s s':St} {o:Out (List DV)} : ∀ {l:List ResultVar} {K:List DV->M (List DV)},mW C E l K s=some (o,s')->(∀ds s o s',K ds s=some (o,s')->s'=s)->s'=s
 |[],K,h,hK=>hK _ _ _ _ h
 | .tmp t::l,K,h,_=>by cases h
 | .cell a t::l,K,h,hK=>by
  simp only[mW]at h;cases hx:E.get a with
  |v d=>
   rw[hx]at h;cases d with
   |ptr p=>
    cases p with
    |none=>cases h
    |some q=>
     simp only at h;obtain⟨td,ht,h⟩:=mC h;cases fP:ZL C.P t with
     |true=>
      rw[fP]at h;simp only[cond_true]at h;obtain⟨_,_,_,_,h⟩:=CO h;exact PI h fun ds s o s' h=>hK _ s o s' h
     |false=>
      rw[fP]at h;simp only[cond_false]at h;unfold M.au at h;split at h
      ·split at h
       ·exact PI h fun ds s o s' h=>hK _ s o s' h
       ·cases h
      ·cases h
   |_=>cases h
  |_=>rw[hx]at h;cases h
theorem Zt8: ∀ {l:List ResultVar} {t:Nat},sA l t=true->∀a u,ResultVar.cell a u∈l->a≠t
 |[],_,_,a,u,hm=>by cases hm
 | .tmp _::_,_,h,_,_,_=>by cases h
 | .cell b v::l,t,h,a,u,hm=>by
  simp only[sA,aH,hJ]at h;rcases bX.1 hm with e|hm
  ·cases e
   intro e;subst e;rw[uo]at h;cases h.1
  ·exact Zt8 h.2 a u hm
theorem ZrW: ∀ {l:List ResultVar} (_: ∀t,ResultVar.tmp t∉l) {a u:Nat},ResultVar.cell a u∈l->sA l a=false
 |[],_,a,u,hm=>by cases hm
 | .tmp t::_,h,_,_,_=>absurd (by simp) (h t)
 | .cell b v::l,h,a,u,hm=>by
  simp only[sA];rcases bX.1 hm with e|hm
  ·cases e;rw[uo];rfl
  ·rw[ZrW (fun t ht=>h t (lT _ ht)) hm,rE]
theorem ZyZ {c:Option Code} {td:Nat} {g:FuncId} {fX:List Operand} (h:Dp c=some (td,g,fX)):
  ∃id t1 p1 a1 aT t2 p2 a2,c=some (.region id #[⟨some td,.makeFunc (.func g) #[] fX.toArray,t1,p1,a1,none⟩,⟨none,.defer ⟨.value (.tmp td), #[],aT⟩,t2,p2,a2,none⟩] false):=by
 unfold Dp at h;split at h
 ·rename_i id td' g' aa5 t1 p1 a1 t' aT t2 p2 a2
  cases hb:Nat.beq td' t' with
  |false=>rw[hb]at h;cases h
  |true=>
   rw[hb]at h;cases cc hb;simp only[cond_true,cX,xX]at h;obtain⟨rfl,rfl,rfl⟩:=h;exact⟨id,t1,p1,a1,aT,t2,p2,a2,rfl⟩
 ·cases h
theorem ZyH {P:Program} {ops:Array Oper} {Q:Exit->Act->World->Prop} {i:Nat} {rest:List Nat} {o:Oper} {a:Act} {x:Value} (ho:ops[i]? =some o) (hg:o.guard=none) (he:(execOp a.eval o).run P w= .ok (.value x) w)
  (h:wpOps P ops Q rest (a.put o.dst x) w):wpOps P ops Q (i::rest) a w:=by
 simp only[wpOps,ho];rw[aG (by simp[Region.wanted,hg])];left;unfold Oper.wp;rw[he];exact h
theorem ZvP {P:Program} {ops:Array Oper} {Q:Exit->Act->World->Prop} {i:Nat} {rest:List Nat} {o:Oper} {a:Act} {d:Deferred} (ho:ops[i]? =some o) (hg:o.guard=none) (he:(execOp a.eval o).run P w= .ok (.defer d) w)
  (h:wpOps P ops Q rest ({ a with defers:=d::a.defers }.put o.dst Go.undef) w):wpOps P ops Q (i::rest) a w:=by
 simp only[wpOps,ho];rw[aG (by simp[Region.wanted,hg])];left;unfold Oper.wp;rw[he];exact h
end
theorem Zqj {m:M (List DV)} {H:Bool->M β} {s:St} {r:Out β×St} (h:M.ny m H s=some r):(∃ds s2,m s=some (.val ds,s2)/\H false s2=some r)\/(∃s2,m s=some (.cC,s2)/\H true s2=some r):=by
 unfold M.ny at h;cases hm:m s with
 |none=>rw[hm]at h;cases h
 |some p=>
  obtain⟨o,s2⟩:=p;rw[hm]at h;cases o with
  |val ds=>exact .inl ⟨ds,s2,rfl,h⟩
  |cC=>exact .inr ⟨s2,rfl,h⟩
theorem ZBg {α:Type} {l:List α} {k:Nat} {x:α} (h:l[k]? =some x):l=l.take k++x::l.drop (k+1):=by
 obtain⟨hk,rfl⟩:=cd.1 h;rw[<-gT hk,lj]
theorem wB (r:Out (List DV)×St):Lk (fun _:Env=>(M.ret []:M (List DV))) r:=by
 intro E s' h';simp only[M.ret,cX]at h';subst h';exact ay _
def isG (k:Nat) (fn:Func) (g:FuncId):Bool:=match fn.body with
 |some code=>match Dp ((mh code)[k]?)with
  |some (_,g',_)=>Nat.beq g' g
  |none=>false
 |none=>false
set_option maxHeartbeats 1000000 in
theorem Zz4 {C:aP} (hF:Ce C) {c:Zg} (hc:ZC C c) {n k:Nat} {fn eF:Func} {qR g:FuncId} (hfn:C.P.funcs[qR]? =some fn) (nM:(fn.name== "runtime.NumGoroutine")=false) (yL:C.P.funcs[g]? =some eF) (XD:(eF.name== "runtime.NumGoroutine")=false) (hg:isG k fn g=true)
  {args:List DV} {s:St} {out:Out (List DV)×St} (h:QH C k fn eF c n args s=some out):JG C qR args s out:=by
 unfold QH at h;cases hb:fn.body with
 |none=>rw[hb]at h;cases h
 |some code=>
 cases pU:eF.body with
 |none=>rw[hb,pU]at h;cases h
 |some uW=>
 rw[hb,pU]at h;simp only at h;cases hd:Dp ((mh code)[k]?)with
 |none=>rw[hd]at h;cases h
 |some p=>
 obtain⟨td,g',fX⟩:=p;cases yJ:Be C.P eF.nfree eF.ntmps uW with
 |none=>rw[hd,yJ]at h;cases h
 |some gb=>
 rw[hd,yJ]at h;simp only at h;have:g'=g:=by unfold isG at hg;rw[hb]at hg;simp only at hg;rw[hd]at hg;exact cc hg
 subst this;obtain⟨dQ,h⟩:=Zp h;simp only[aH]at dQ;obtain⟨⟨⟨⟨⟨⟨⟨⟨⟨⟨k1,k2⟩,k3⟩,k4⟩,k5⟩,k6⟩,k7⟩,k8⟩,k9⟩,S6⟩,S7⟩:=dQ;have k4:=lW k4;have k5:td<fn.ntmps:=by rw[lV]at k5;exact k5
 have k7:=cc k7;have S6:=lW S6;have S7:=cc S7;obtain⟨ds,h,oI,kh,nG⟩:=CH h;have hlen:ds.length=fn.params.size:=by rw[kh];simp
 obtain⟨id,t1,p1,a1',aT,t2,p2,a2',hx⟩:=ZyZ hd;have Xm:=ZBg hx;have D7: ∀t,ResultVar.tmp t∉fn.results.toList:=by
  intro t hm;have: ∀(l:List ResultVar) (u:Nat),sA l u=true->ResultVar.tmp t∉l:=by
   intro l;induction l with
   |nil=>intro u _ hm;cases hm
   |cons x l ih=>
    intro u hu hm;cases x with
    |tmp y=>cases hu
    |cell a v=>
     simp only[sA,aH]at hu;rcases bX.1 hm with e|hm
     ·cases e
     ·exact ih u hu.2 hm
  exact this _ _ k6 hm
 have Bk: ∀E s' r,mW C E fn.results.toList (fun ds=>(M.ret ds:M (List DV))) s'=some r->r.2=s':=by
  intro E s' r h';obtain⟨o,s2⟩:=r;exact PI h' fun ds s o s' h=>by simp only[M.ret,cX,xX]at h;exact h.2.symm
 have lkf:Lk (fun E=>mW C E fn.results.toList fun ds=>(M.ret ds:M (List DV))) out:=fun E s' h'=>by rw[Bk E s' out h'];exact ay _
 have half: ∀E s',(M.ak (Nat.beq E.aZ 0&&Lq (E.get td)) (vO C E fX fun cs=>
      M.ny (tq C c n ((mh code).drop (k+1)) (fun _=>M.ret []) (fun _=>M.ret []) E)
       fun p=>bif p then M.ny (exec C [] c n gb .z (fun _=>M.ret []) (fun _ _=>fail) (fun _=>M.ret []) ⟨0,iB 0 cs⟩) fun p=>bif p then fail else mW C E fn.results.toList fun ds=>(M.ret ds:M (List DV))
        else mW C E fn.results.toList fun ds=>(M.ret ds:M (List DV)))) s'=some out->
   E.aZ=0/\E.get td= .u/\∃cs o s2,SV C E fX cs/\tq C c n ((mh code).drop (k+1)) (fun _=>M.ret []) (fun _=>(M.ret []:M (List DV))) E s'=some (o,s2)/\s'.length<=s2.length/\
    (((∃x,o= .val x)/\mW C E fn.results.toList (fun ds=>(M.ret ds:M (List DV))) s2=some out)\/
     (o= .cC/\∃x s3,exec C [] c n gb .z (fun _=>M.ret []) (fun _ _=>fail) (fun _=>(M.ret []:M (List DV))) ⟨0,iB 0 cs⟩ s2=some (.val x,s3)/\s2.length<=s3.length/\mW C E fn.results.toList (fun ds=>(M.ret ds:M (List DV))) s3=some out)):=by
  intro E s' h';obtain⟨ju,h'⟩:=ZP h';rw[aH]at ju;have hu:E.get td= .u:=by
   have:=ju.2;unfold Lq at this;cases he:E.get td<;>rw[he]at this<;>first|rfl|cases this
  obtain⟨cs,h',Lh⟩:=CG h';refine⟨cc ju.1,hu,cs,?_⟩;rcases Zqj h' with⟨x,s2,hm,hf⟩|⟨s2,hm,hf⟩
  ·exact⟨_,s2,Lh,hm,AA (r:=(.val x,s2)) hF.cfg hc _ _ _ (wB _) (wB _) E s' hm,.inl ⟨⟨x,rfl⟩,hf⟩⟩
  ·simp only[cond_true]at hf
   rcases Zqj hf with⟨x,s3,dr,hf⟩|⟨s3,_,hf⟩
   ·exact⟨_,s2,Lh,hm,AA (r:=(.cC,s2)) hF.cfg hc _ _ _ (wB _) (wB _) E s' hm,.inr ⟨rfl,x,s3,dr,C2 (r:=(.val x,s3)) hF.cfg hc gb .z _ _ _ (wB _) (fun _ _ _ h=>by cases h) (wB _) _ s2 dr,hf⟩⟩
   ·cases hf
 have lkh:Lk (fun E=>M.ak (Nat.beq E.aZ 0&&Lq (E.get td)) (vO C E fX fun cs=>
      M.ny (tq C c n ((mh code).drop (k+1)) (fun _=>M.ret []) (fun _=>M.ret []) E)
       fun p=>bif p then M.ny (exec C [] c n gb .z (fun _=>M.ret []) (fun _ _=>fail) (fun _=>M.ret []) ⟨0,iB 0 cs⟩) fun p=>bif p then fail else mW C E fn.results.toList fun ds=>(M.ret ds:M (List DV))
        else mW C E fn.results.toList fun ds=>(M.ret ds:M (List DV)))) out:=by
  intro E s' h';obtain⟨_,_,cs,o,s2,_,_,hl,hh⟩:=half E s' h';rcases hh with⟨_,hf⟩|⟨_,x,s3,_,xa,hf⟩
  ·rw[Bk E s2 out hf];exact hl
  ·rw[Bk E s3 out hf];omega
 refine⟨AA hF.cfg hc _ _ _ lkh lkf _ s h,fun ψ w vs vx DG yM iR wZ Es=>?_⟩;have kM:=nG C ψ vs iR;have vy:=kM.len;unfold uK;have pO:(callFunc qR vs.toArray).run C.P w= .ok (.enter qR vs.toArray) w:=by
  have sj: ¬fn.name= "runtime.NumGoroutine" :=by simpa using nM
  simp[callFunc,hfn,sj,hb]
 rw[pO];refine calls_of_wp_defers hfn hb (ZAN _ _ _ _ ?_)
 let f:Fr:=⟨out.2.length,fn.ntmps,ψ,s,w,oO fn.ntmps,fun x h=>by unfold oO at h;rw[lV]at h;exact h,fun t=>(vs.toArray++Array.replicate (fn.ntmps-vs.toArray.size) Go.undef).getD t Go.undef,[]⟩
 have sa: ∀t,(⟨0,iB 0 ds⟩:Env).get t=match ds[t]? with|some d=> .v d|none=> .u:=by
  intro t;have:=IW 0 ds t;simp only[bH,iM,qy]at this;exact this
 have ml: ∀t v,((⟨0,iB 0 ds⟩:Env).get t).bY≠some v:=by
  intro t v;rw[sa];cases ds[t]? <;>simp[dx.bY]
 have wG: ∀h ab,CR ⟨0,iB 0 ds⟩ s h ab->CS s h ab:=by
  intro h ab c;cases h with
  |inl i=>exact⟨i,rfl,c⟩
  |inr v=>
   rcases c with⟨t,n,cs,e,_⟩|⟨t,l,p,e,_⟩
   ·exact absurd (by rw[e];rfl) (ml t v)
   ·exact absurd (by rw[e];rfl) (ml t v)
 have R:Rel C f ψ ⟨0,iB 0 ds⟩ s { tmps:=vs.toArray++Array.replicate (fn.ntmps-vs.toArray.size) Go.undef,defers:=[] } w:=by
  refine⟨vx.weaken fun _ _ _ _ c=>wG _ _ c,⟨fun t v e=>absurd e (ml t v),fun t r v o e=>?_,fun t v n cs e=>absurd (by rw[e];rfl) (ml t v),fun t t' v e _=>absurd e (ml t v)⟩,DG,yM,fun t=>?_,?_,rfl,Es,fun v _=>wZ v,(Ext.refl ψ (CS s) w).weaken fun _ _ _ _ c=>wG _ _ c,fun i cb e=> .inl e,ay _,wZ⟩
  ·rw[sa]at e
   cases hd:ds[t]? <;>rw[hd]at e<;>cases e
  ·rw[sa]
   cases hd:ds[t]? with
   |none=>trivial
   |some d=>
    obtain⟨v,hv,hr⟩:=kM.get hd;have:(vs.toArray++Array.replicate (fn.ntmps-vs.toArray.size) Go.undef).getD t Go.undef=v:=by
     have aj:=(cd.1 hv).1;rw[mn,Fp (by simpa using aj)];simp[hv]
    show eB C ψ (.v d) _;rw[this];exact hr
  ·refine⟨?_,fun _ _=>rfl⟩
   show(vs.toArray++Array.replicate (fn.ntmps-vs.toArray.size) Go.undef).size=fn.ntmps;simp only[Array.size_append,Array.size_replicate,List.size_toArray];omega
 have done: ∀ {E':Env} {s':St} {ψ':Ps} {tmps:Array Value} {w':World},mW C E' fn.results.toList (fun ds=>(M.ret ds:M (List DV))) s'=some out->hZ C ψ s w ψ' s' w'->Dd ψ' E' tmps fn.results.toList->
   ∃v,(results fn tmps).run C.P w'= .ok v w'/\∃ds,out.1= .val ds/\∃ψ',hZ C ψ s w ψ' out.2 w'/\vY C ψ' ds v:=by
  intro E' s' ψ' tmps w' h' cp hp;obtain⟨ja,gI,hk,hr,cH⟩:=PL cp.dH hp h';simp only[M.ret,cX]at hk;refine⟨_,ZnL cH,ja,by rw[<-hk],ψ',?_,?_⟩
  ·rw[<-hk];exact cp
  ·by_cases h1:gI.length=1
   ·rw[dif_pos h1]
    cases hr with
    |nil=>cases h1
    |cons d v ds vs a b=>
     cases b with
     |nil=>exact .inl ⟨d,rfl,a⟩
     |cons _ _ _ _ _ _=>simp at h1
   ·rw[dif_neg h1]
    exact .inr ⟨by rw[hr.len];exact h1,_,rfl,hr⟩
 have V7: ∀ {ψ':Ps} {E':Env} {tmps:Array Value},(∀t,eB C ψ' (E'.get t) (tmps.getD t Go.undef))->Dd ψ' E' tmps fn.results.toList:=by
  intro ψ' E' tmps hr a t _ i o he;have:=hr a;rw[he]at this;have this:VR C ψ' (.ptr (some (i,o))) (tmps.getD a Go.undef):=this;generalize tmps.getD a Go.undef=v at this;cases this with
  |ptr _ _ cb e=>exact⟨cb,e,rfl⟩
 rw[Xm,Qi];refine Pf hF.cfg hc hF.J8 (f:=f) (ay _) _ _ _ k1 lkh lkf _ s h ψ _ w _ R ?_ ?_ ?_
 ·
  intro E1 s1 gr a1 w1 h1 R1;obtain⟨BG,hu,cs,o,s2,Lh,hm,KS,hh⟩:=half E1 s1 h1;show Code.wp C.P _ _ a1 w1;have SX: ∀v,gr (.inr v)=none:=fun v=>R1.rC v (by rw[BG];exact bH _)
  have e1:kN gr=gr:=by
   funext x;cases x with
   |inl i=>rfl
   |inr v=>exact(SX v).symm
  have QL:=R1.uQ;rw[e1]at QL;have KG: ∀h ab,CR E1 s1 h ab->CS s1 h ab:=by
   intro h ab c;cases h with
   |inl i=>exact⟨i,rfl,c⟩
   |inr v=>
    rcases c with⟨t,n,cs,e,_⟩|⟨t,l,p,e,_⟩
    ·have:=R1.fA.lt t v (by rw[e];rfl);omega
    ·have:=R1.fA.lt t v (by rw[e];rfl);omega
  have hN2:s2.length<=out.2.length:=by
   rcases hh with⟨_,hf⟩|⟨_,x,s3,_,xa,hf⟩
   ·rw[Bk E1 s2 out hf];exact ay _
   ·rw[Bk E1 s3 out hf];exact xa
  have WK:aS C gr cs (fX.map a1.eval):=C0 (o:=⟨some td,.makeFunc (.func g') #[] fX.toArray,t1,p1,a1',none⟩) (D:=fun _=>True) R1.pre (fun x hx=>by simp[Op.operands];exact hx) Lh;refine wp_region (ZyH (o:=⟨some td,.makeFunc (.func g') #[] fX.toArray,t1,p1,a1',none⟩) (x:= .func (.func g') #[] (fX.toArray.map a1.eval)) rfl rfl (by simp[execOp,Instr.makeFunc]) ?_);have Yu:a1.tmps.size=fn.ntmps:=R1.kV.1;have RA:(a1.put (some td) (.func (.func g') #[] (fX.toArray.map a1.eval))).eval (.tmp td)= .func (.func g') #[] (fX.toArray.map a1.eval):=by
   simp only[Act.put,Act.eval];rw[mn,zL (by omega)];rfl
  refine ZvP (o:=⟨none,.defer ⟨.value (.tmp td), #[],aT⟩,t2,p2,a2',none⟩) (d:= { target:= .fn (.func g') (fX.toArray.map a1.eval),args:= #[] }) rfl rfl ?_ ?_
  ·simp only[execOp,resolve,RA,Deferred.ofValue]
   simp
  show oX C.P ((mh code).drop (k+1)) _ _ w1
  let d:Deferred:= { target:= .fn (.func g') (fX.toArray.map a1.eval),args:= #[] }
  let a2:Act:= { tmps:=a1.tmps.setIfInBounds td (.func (.func g') #[] (fX.toArray.map a1.eval)),defers:=[d] }
  have Br:({ (a1.put (some td) (.func (.func g') #[] (fX.toArray.map a1.eval)))with defers:=d::(a1.put (some td) (.func (.func g') #[] (fX.toArray.map a1.eval))).defers } :Act).put none Go.undef=a2:=by
   have:a1.defers=[]:=R1.defs;simp only[Act.put,this,a2]
  show oX C.P ((mh code).drop (k+1)) _ (({ (a1.put (some td) (.func (.func g') #[] (fX.toArray.map a1.eval)))with defers:=d::(a1.put (some td) (.func (.func g') #[] (fX.toArray.map a1.eval))).defers } :Act).put none Go.undef) w1;rw[Br];have VS: ∀t,t≠td->a2.tmps.getD t Go.undef=a1.tmps.getD t Go.undef:=by
   intro t ht;simp only[a2];rw[mn,mn,xP (Ne.symm ht)]
  let f2:Fr:=⟨s2.length,fn.ntmps,gr,s1,w1,fun t=>oO fn.ntmps t&&sA fn.results.toList t,fun x h=>by rw[aH]at h;have h:=h.1;unfold oO at h;rw[lV]at h;exact h,fun t=>a2.tmps.getD t Go.undef,[d]⟩
  have R2:Rel C f2 gr E1 s1 a2 w1:=by
   refine⟨R1.dH,R1.fA,R1.fh,R1.jd,fun t=>?_,⟨?_,fun _ _=>rfl⟩,rfl,fun i h1 h2=>R1.oV i h1 (jH h2 hN2),R1.rC,(Ext.refl gr (CS s1) w1).weaken fun _ _ _ _ c=>KG _ _ c,fun i cb e=> .inl e,ay _,SX⟩
   ·by_cases ht:t=td
    ·subst ht;rw[hu];trivial
    ·rw[VS t ht];exact R1.iu t
   ·show(a1.tmps.setIfInBounds _ _).size=fn.ntmps
    simp[Yu]
  have hinv:(invoke (.fn (.func g') (fX.toArray.map a1.eval)) #[]).run C.P=fun w=> .ok (.enter g' (fX.map a1.eval).toArray) w:=by
   funext w';have sj: ¬eF.name= "runtime.NumGoroutine" :=by simpa using XD
   have:(#[]:Array Value)++fX.toArray.map a1.eval=(fX.map a1.eval).toArray:=by simp
   show(callFunc g' (#[]++fX.toArray.map a1.eval)).run C.P w'=_;rw[this];simp[callFunc,yL,sj,pU]
  have YJ: ∀ {a':Act},Ks f2 a'->∀b u,ResultVar.cell b u∈fn.results.toList->a'.tmps.getD b Go.undef=a1.tmps.getD b Go.undef:=by
   intro a' hk b u hm;have dQ:f2.ok b=false:=by
    show(oO fn.ntmps b&&sA fn.results.toList b)=false;rw[ZrW D7 hm,rE]
   rw[hk.2 b dQ];exact VS b (Zt8 k6 b u hm)
  have YY:=V7 R1.iu;have V6: ∀ {ψ':Ps} {a':Act},Ks f2 a'->(∀h cb,gr h=some cb->ψ' h=some cb)->Dd ψ' E1 a'.tmps fn.results.toList:=by
   intro ψ' a' hk XQ b u hm i o he;obtain⟨cb,h1,h2⟩:=YY b u hm i o he;exact⟨cb,XQ _ _ h1,by rw[YJ hk b u hm];exact h2⟩
  have Kd: ∀ {E':Env} {s':St} {ψ':Ps} {a':Act} {w':World},(M.ret []:M (List DV)) s'=some (o,s2)->Rel C f2 ψ' E' s' a' w'->Leaves C.P fn a'.tmps (fun e w'=>match e,w' with
    | .returned v,w'=>∃ds,out.1= .val ds/\∃ψ',hZ C ψ s w ψ' out.2 w'/\vY C ψ' ds v
    | .panicked ch,w'=>l8 ch/\out.1= .cC/\∃ψ',hZ C ψ s w ψ' out.2 w'
    | .outgrown,_=>False) a'.defers .returning w':=by
   intro E' s' ψ' a' w' h' R';simp only[M.ret,cX,xX]at h';obtain⟨ho,gY⟩:=h';have ho:o= .val []:=ho.symm;have gY:s'=s2:=gY;subst gY;have Rx:a'.defers=[d]:=R'.defs;rw[Rx];refine leaves_cons (by simp) (by rw[hinv]) ?_;refine(Zua (vs:=(fX.map a1.eval).toArray) yL pU yJ k9).mono ?_;rintro e u' qj ⟨rfl,rfl,rfl⟩;have r9:=R'.uQ;rcases hh with⟨_,hf⟩|⟨hp,_⟩
   ·exact done hf (QL.trans R1.len KS r9) (V6 R'.kV r9.ext.mono)
   ·rw[ho]at hp;cases hp
  refine Pf hF.cfg hc hF.J8 (f:=f2) (r:=(o,s2)) (ay _) _ _ _ k2 (wB _) (wB _) E1 s1 hm gr a2 w1 _ R2 ?_ ?_ ?_
  ·intro E' s' ψ' a' w' h' R';exact Kd h' R'
  ·intro E' s' ψ' a' w' h' R';exact Kd h' R'
  ·intro ch a' w' s' e hv hp
   cases e;rcases hh with⟨⟨x,hx⟩,_⟩|⟨_,x,s3,xe,xa,hf⟩
   ·cases hx
   obtain⟨iJ,r9⟩:=hp.post;have Rx:a'.defers=[d]:=hp.defs;show Leaves C.P fn a'.tmps _ a'.defers (.panicking ch) w';rw[Rx];refine leaves_cons (by simp) (by rw[hinv]) ?_;have y7:out.2=s3:=Bk E1 s3 out hf;refine(Zwk hF hc (ψ:=iJ) (s:=s2) (w:=w') (vs:=fX.map a1.eval) yL pU yJ k9 k3 (by simpa using S7) S6 xe r9.dH (r9.ext.fh R1.fh) (r9.ext.jd R1.jd) (WK.mono (ψ:=gr) (ψ':=iJ) fun _ _ e=>r9.ext.mono _ _ e) (fun v=>?_) (fun i h1 h2=>?_) hv).mono ?_
   ·cases su:iJ (.inr v)with
    |none=>rfl
    |some cb=>
     rcases r9.news _ _ su with e|⟨i,e,_⟩
     ·have:=SX v
      rw[show f2.gq=gr from rfl]at e;rw[this]at e;cases e
     ·cases e
   ·cases su:iJ (.inl i)with
    |none=>rfl
    |some cb=>
     rcases r9.news _ _ su with e|⟨j,e,_,hj⟩
     ·have:=R1.oV i (fw KS h1) (by rw[<-y7]at h2;exact h2)
      rw[show f2.gq=gr from rfl]at e;rw[this]at e;cases e
     ·cases e;omega
   ·rintro e u' qj ⟨rfl,cg,Fm,cp3⟩
    show Leaves C.P fn a'.tmps _ [] (settle u') qj;rw[cg];have WM:=(QL.trans R1.len KS r9).trans (fw R1.len KS) xa cp3;exact done hf WM (V6 hp.ks fun _ _ e=>cp3.ext.mono _ _ (r9.ext.mono _ _ e))
 ·
  intro E' s' ψ' a' w' h' R';show Leaves C.P fn a'.tmps _ a'.defers .returning w';rw[show a'.defers=[]from R'.defs];refine done h' R'.uQ fun b u hm i o he=>?_
  obtain⟨cb,h1,h2⟩:=V7 R'.iu b u hm i o he;exact⟨cb,h1,h2⟩
 ·intro ch a' w' s' e hv hp
  show Leaves C.P fn a'.tmps _ a'.defers (.panicking ch) w';rw[show a'.defers=[]from hp.defs];obtain⟨ψ',du⟩:=hp.post;exact⟨hv,by rw[e],ψ',by rw[e];exact du⟩
end Go.Gv
namespace Go.Gv
theorem ZlQ {P:Program} {f:FuncId} {fn:Func} {vs:Array Value} {w:World} {R:Ending->World->Prop} (hfn:P.funcs[f]? =some fn) (nM:(fn.name== "runtime.NumGoroutine")=false) (hb:fn.body.isSome=true)
  (h:Calls P f vs w R):uK P f vs w R:=by
 have sj: ¬fn.name= "runtime.NumGoroutine" :=by simpa using nM
 have e:(callFunc f vs).run P w= .ok (.enter f vs) w:=by
  cases cz:fn.body with
  |none=>rw[cz]at hb;cases hb
  |some c=>simp[callFunc,hfn,sj,cz]
 unfold uK;rw[e];exact h
end Go.Gv
namespace Go.Gv
end Go.Gv
