/- What a region's operations do, one behind the other, as the machine takes them. -/
import Derived.Test.YtegglibipjjblaaGreatDoorGvZOps
import Derived.Laws.Externs
import Derived.Lib.Bytealg
import Derived.OrdersHeld
import Derived.Recover
import Derived.Defers
import Derived.Lib.Join
import Derived.Lib.Repeat
namespace Go.Gv
variable {β:Type}
structure jP (E E':Env):Prop where
 aX:E'.aX=E.aX
 get: ∀t,E'.get t=E.get t\/E'.get t= .u
def GW (dst:Nat->Option Nat) (E:Env) (o:Oper):Prop:=o.guard=none\/∃j w r,o.guard=some (j,w)/\dst j=some r/\E.get r= .v (.bool w)
def GU (dst:Nat->Option Nat) (E:Env) (o:Oper):Prop:=∃j w r,o.guard=some (j,w)/\dst j=some r/\((∃b,E.get r= .v (.bool b)/\b≠w)\/E.get r= .un)
section
variable (C:aM) (dst:Nat->Option Nat) (pr ms:List Nat)
inductive Step:Oper×Md->Env->St->Env->St->Prop
 |act {p:Oper×Md} {E s E' s'} :GW dst E p.1->jO (j9 p.2 E) pr ms p.1 E s E' s'->xk C p.1 (lY p.2 E) (j9 p.2 E) E s E' s'->Step p E s E' s'
 |skip {p:Oper×Md} {E s} :GU dst E p.1->Step p E s (E.dJ p.1.dst .un) s
inductive Tr:List (Oper×Md)->Env->St->Env->St->Prop
 |nil (E s):Tr [] E s E s
 |gj {l E E1 s E2 s2} :jP E E1->Tr l E1 s E2 s2->Tr l E s E2 s2
 |cons {p l E s E1 s1 E2 s2} :Step C dst pr ms p E s E1 s1->Tr l E1 s1 E2 s2->Tr (p::l) E s E2 s2
inductive kM:List (Oper×Md)->Env->St->St->Prop
 |gj {l E E1 s s2} :jP E E1->kM l E1 s s2->kM l E s s2
 |here {p l E s s'} :GW dst E p.1->p.2.x=0->si C p.1 (lY p.2 E) E s s'->kM (p::l) E s s'
 |next {p l E s E1 s1 s2} :Step C dst pr ms p E s E1 s1->kM l E1 s1 s2->kM (p::l) E s s2
end
section
variable {C:aM} {dst:Nat->Option Nat} {pr ms:List Nat}
theorem Tr.append {l1 l2:List (Oper×Md)} {E E1 E2:Env} {s s1 s2:St} (h:Tr C dst pr ms l1 E s E1 s1) (k:Tr C dst pr ms l2 E1 s1 E2 s2):Tr C dst pr ms (l1++l2) E s E2 s2:=by
 induction h with
 |nil=>exact k
 |gj w _ ih=>exact .gj w (ih k)
 |cons st _ ih=>exact .cons st (ih k)
theorem kM.left {l1:List (Oper×Md)} {E:Env} {s s2:St} (h:kM C dst pr ms l1 E s s2) (l2:List (Oper×Md)):kM C dst pr ms (l1++l2) E s s2:=by
 induction h with
 |gj w _ ih=>exact .gj w ih
 |here a b c=>exact .here a b c
 |next st _ ih=>exact .next st ih
theorem Tr.cy {l1 l2:List (Oper×Md)} {E E1:Env} {s s1 s2:St} (h:Tr C dst pr ms l1 E s E1 s1) (k:kM C dst pr ms l2 E1 s1 s2):kM C dst pr ms (l1++l2) E s s2:=by
 induction h with
 |nil=>exact k
 |gj w _ ih=>exact .gj w (ih k)
 |cons st _ ih=>exact .next st (ih k)
theorem Zmu {r:Nat} : ∀ {l acc:List (Oper×Md)} {dp:List (Oper×Md)} {pk:Oper} {rest:List (Oper×Md)},xD r acc l=some (dp,pk,rest)->
  ∃x y z,acc.reverse++l=dp++(pk,x)::rest/\pk.op= .pick (.tmp r) y z
 |[],acc,dp,pk,rest,h=>by cases h
 |(o,x)::l,acc,dp,pk,rest,h=>by
  simp only[xD]at h;have go:xD r ((o,x)::acc) l=some (dp,pk,rest)->∃x' y z,acc.reverse++(o,x)::l=dp++(pk,x')::rest/\pk.op= .pick (.tmp r) y z:=by
   intro h;obtain⟨x',y,z,h1,h2⟩:=Zmu h;exact⟨x',y,z,by rw[<-h1];simp,h2⟩
  split at h
  ·rename_i t y z dr
   cases hb:Nat.beq t r with
   |true=>
    rw[hb]at h;simp only[cond_true,cQ,xf]at h;obtain⟨rfl,rfl,rfl⟩:=h;have:=bY hb;subst this;exact⟨x,y,z,rfl,dr⟩
   |false=>rw[hb]at h;exact go h
  ·exact go h
theorem Zs8: ∀ {act:List (Nat×Bool)} {g:Nat×Bool},I6 act g=true->g∈act
 |[],_,h=>by cases h
 |(k,b)::r,g,h=>by
  simp only[I6,jt,aH]at h;rcases h with⟨h1,h2⟩|h
  ·have e1:=bY h1
   have e2:b=g.2:=by simpa using h2
   have:g=(k,b):=by rw[e1,e2]
   rw[this];exact nT
  ·exact oP _ (Zs8 h)
theorem HG {j:Nat} {w:Bool} {r:Nat} : ∀ {l:List (Oper×Md)} {sk:List Nat},xT pr dst j w r sk l=true->∀p∈l,¬Spec pr p.1/\p.1.dst≠some r
 |[],_,_,p,hp=>by cases hp
 |(o,x)::l,sk,h,p,hp=>by
  simp only[xT,aH]at h;obtain⟨⟨h1,_⟩,h3⟩:=h;have fY: ¬Spec pr o:=by
   unfold Spec;intro hs;cases dr:o.op<;>rw[dr]at hs h1<;>simp only at hs h1<;>first|exact hs|(cases h1;done)|skip
   all_goals
    obtain⟨d,hd,ji⟩:=hs;rw[hd]at h1;simp only at h1;rw[ji]at h1;cases h1
  cases hd:o.dst with
  |none=>
   rw[hd]at h3;rcases cd.1 hp with rfl|hp
   ·exact⟨fY,by simp[hd]⟩
   ·exact HG h3 p hp
  |some d=>
   rw[hd]at h3;simp only[aH]at h3;rcases cd.1 hp with rfl|hp
   ·refine⟨fY,?_⟩
    rw[hd];intro e;cases e;have:=h3.1;rw[tG]at this;cases this
   ·exact HG h3.2 p hp
theorem zI: ∀ {l:List (Oper×Md)} {t:Nat},has (fb l) t=true↔ ∃p∈l,p.1.dst=some t
 |[],t=>by simp[fb,has]
 |(o,x)::l,t=>by
  simp only[fb,cd,exists_eq_or_imp];cases hd:o.dst with
  |none=>simp only[zI];simp
  |some d=>
   simp only[has,jt,zI,cQ];constructor
   ·rintro(h|h)
    ·exact .inl (bY h)
    ·exact .inr h
   ·rintro(h|h)
    ·exact .inl (by subst h;exact tG _)
    ·exact .inr h
theorem Of {j:Nat} {w:Bool} {r:Nat} (hj:dst j=some r) {b:Bool} (hb:b≠w): ∀ {l:List (Oper×Md)} {sk:List Nat} {E:Env} {s:St},xT pr dst j w r sk l=true->E.get r= .v (.bool b)->(∀d,has sk d=true->E.get d= .un)->
  ∃E1,Tr C dst pr ms l E s E1 s/\E1.aX=E.aX/\(∀u,has (fb l) u=false->E1.get u=E.get u)
 |[],_,E,s,_,_,_=>⟨E,.nil E s,rfl,fun _ _=>rfl⟩
 |(o,x)::l,sk,E,s,h,hr,QX=>by
  have Q2:=HG h (o,x) (by simp);simp only[xT,aH]at h;obtain⟨⟨_,h2⟩,h3⟩:=h;have hg:GU dst E o:=by
   cases hg:o.guard with
   |none=>rw[hg]at h2;cases h2
   |some g=>
    obtain⟨j',w'⟩:=g;rw[hg]at h2;simp only[jt,aH]at h2;rcases h2 with⟨h4,h5⟩|h4
    ·have:=bY h4
     have h5:w'=w:=by simpa using h5
     subst this;subst h5;exact⟨_,_,r,hg,hj,.inl ⟨b,hr,hb⟩⟩
    ·cases hd:dst j' with
     |none=>rw[hd]at h4;cases h4
     |some d=>rw[hd]at h4;exact⟨j',w',d,hg,hd,.inr (QX d h4)⟩
  have iV:(E.dJ o.dst .un).get r= .v (.bool b):=by rw[Env.iE,ay Q2.2];exact hr
  cases hd:o.dst with
  |none=>
   rw[hd]at h3;obtain⟨E1,t1,t2,t3⟩:=Of hj hb (E:=E.dJ o.dst .un) (s:=s) h3 iV (fun d h=>by rw[hd];exact QX d h);refine⟨E1,.cons (.skip hg) t1,by rw[t2];simp,fun u hu=>?_⟩;simp only[fb,hd]at hu;rw[t3 u hu,hd];rfl
  |some d=>
   rw[hd]at h3;simp only[aH]at h3;obtain⟨E1,t1,t2,t3⟩:=Of hj hb (E:=E.dJ o.dst .un) (s:=s) h3.2 iV (fun d' h=>by
    rw[Env.iE,hd];simp only[has,jt]at h;by_cases e:some d=some d'
    ·rw[aF e]
    ·rw[ay e]
     rcases h with h|h
     ·exact absurd (by rw[bY h]) e
     ·exact QX d' h)
   refine⟨E1,.cons (.skip hg) t1,by rw[t2];simp,fun u hu=>?_⟩;simp only[fb,hd,has,kJ]at hu;rw[t3 u hu.2,Env.iE,hd,ay];intro e;cases e;rw[tG]at hu;cases hu.1
theorem Zrk {o:Oper} {md:Md} {r:Nat} {y z:Operand} {E:Env} {s:St} {b:Bool} (ho:o.op= .pick (.tmp r) y z) (hb:E.get r= .v (.bool b)) (hg:GW dst E o):
  Step C dst pr ms (o,md) E s (E.dJ o.dst (E.src C (if b then y else z))) s:=by
 refine .act hg (jO.RG pr ms _ (Env.Ec C E _) (fun hE r v n h=>Env.yM C hE h)) (xk.pure (Iy md E) _ (Env.Ec C E _) fun ψ Q a w p=>⟨a.eval (if b then y else z),w,?_,.refl w,p.src ?_⟩)
 ·have:=p.val (x:= .tmp r) (by simp[Op.operands,ho]) (d:= .bool b) (by simp only[Env.src,hb])
  generalize hv:a.eval (.tmp r)=v at this;cases this;cases b<;>simp[execOp,ho,hv,asBool]
 ·cases b<;>simp[Op.operands,ho]
structure Mod (un:Nat->Prop) (E E':Env):Prop where
 get: ∀u,un u->E'.get u=E.get u
 aX:E.aX<=E'.aX
 rV: ∀t v n cs,E'.get t= .loc v n cs->(∃jS,E.get t= .loc v n jS)\/E.aX<=v
 tz: ∀t v l p,E'.get t= .it v l p->(∃p0,E.get t= .it v l p0)\/E.aX<=v
theorem Mod.refl (un:Nat->Prop) (E:Env):Mod un E E:=⟨fun _ _=>rfl,aA _,fun _ _ _ cs h=> .inl ⟨cs,h⟩,fun _ _ _ p h=> .inl ⟨p,h⟩⟩
theorem Mod.trans {un Ef Sx:Nat->Prop} {E E' Bz:Env} (h:Mod un E E') (k:Mod Ef E' Bz) (h1: ∀u,Sx u->un u) (h2: ∀u,Sx u->Ef u):Mod Sx E Bz:=by
 refine⟨fun u hu=>by rw[k.get u (h2 u hu),h.get u (h1 u hu)],eZ h.aX k.aX,fun t v n cs e=>?_,fun t v l p e=>?_⟩
 ·rcases k.rV t v n cs e with⟨c,e⟩|e
  ·exact h.rV t v n c e
  ·exact .inr (eZ h.aX e)
 ·rcases k.tz t v l p e with⟨c,e⟩|e
  ·exact h.tz t v l c e
  ·exact .inr (eZ h.aX e)
def EI (ms:List Nat) (l:List (Oper×Md)) (u:Nat):Prop:=(∀p∈l,p.1.dst≠some u)/\has ms u=false
def UW (P:Program) (pr:List Nat) (ops:List Oper) (p:Oper×Md):Prop:=p.2= .s\/∃x k m,p.2= .d (qN pr ops k m (cls P pr ops p.1)) x
theorem Zrz (hC:lE C) {c:Zg} (hc:ZA C c) {ops:List Oper} {r:Out β×St} : ∀(n:Nat) (l:List (Oper×Md)) (act:List (Nat×Bool)) (E:Env) (K:Env->M β) (s:St),
  oW C pr ms c dst n l act E K s=some r->(∀p∈l,UW C.P pr ops p)->
  (∀g∈act,(∃q,dst g.1=some q/\E.get q= .v (.bool g.2)/\∀p∈l,p.1.dst≠some q)/\∀p∈l,¬Spec pr p.1)->
  (∃E' s',Tr C dst pr ms l E s E' s'/\K E' s'=some r/\((∀p∈l,¬Spec pr p.1)->E'.aX=E.aX/\∀u,(∀p∈l,p.1.dst≠some u)->E'.get u=E.get u)/\Mod (EI ms l) E E')\/
  (∃s',r=(.cy,s')/\kM C dst pr ms l E s s'):=by
 intro n;induction n with
 |zero=>
  intro l act E K s h iU vZ;cases l with
  |nil=>exact .inl ⟨E,s,.nil E s,h,fun _=>⟨rfl,fun _ _=>rfl⟩,.refl _ _⟩
  |cons p l=>cases h
 |succ n ih=>
  intro l act E K s h iU vZ;cases l with
  |nil=>exact .inl ⟨E,s,.nil E s,h,fun _=>⟨rfl,fun _ _=>rfl⟩,.refl _ _⟩
  |cons p rest=>
   obtain⟨o,md⟩:=p;simp only[oW]at h;have gw: ∀ {E:Env} {o':Oper},(∀g∈act,∃q,dst g.1=some q/\E.get q= .v (.bool g.2))->I7 act o'.guard=true->GW dst E o':=by
    intro E o' ha hg;cases AQ:o'.guard with
    |none=>exact .inl AQ
    |some g=>
     rw[AQ]at hg;obtain⟨q,h1,h2⟩:=ha g (Zs8 hg);exact .inr ⟨g.1,g.2,q,AQ,h1,h2⟩
   cases hg:I7 act o.guard with
   |true=>
    rw[hg]at h;simp only[cond_true]at h;have hgw:=gw (E:=E) (fun g hm=>let ⟨⟨q,h1,h2,_⟩,_⟩:=vZ g hm;⟨q,h1,h2⟩) hg;rcases OP hC hc (iU (o,md) (by simp)) h with⟨E1,s1,hk,hF,hO⟩|⟨hx,s',rfl,hp⟩
    ·have DB:Step C dst pr ms (o,md) E s E1 s1:= .act hgw hF hO
     have gx: ¬Spec pr o->E1.aX=E.aX/\∀u,o.dst≠some u->E1.get u=E.get u:=by
      intro hs;rcases hF.plain with⟨e,_,rfl⟩|h
      ·exact⟨by simp,fun u hu=>by rw[Env.iE,ay hu]⟩
      ·exact absurd h hs
     rcases ih rest act E1 K s1 hk (fun p hp=>iU p (by simp[hp])) (fun g hm=>by
      obtain⟨⟨q,h1,h2,h3⟩,h4⟩:=vZ g hm;exact⟨⟨q,h1,by rw[(gx (h4 (o,md) (by simp))).2 q (h3 (o,md) (by simp))];exact h2,fun p hp=>h3 p (by simp[hp])⟩,fun p hp=>h4 p (by simp[hp])⟩)with⟨E2,s2,t,ik,hn,QF⟩|⟨s2,e,t⟩
     ·refine .inl ⟨E2,s2,.cons DB t,ik,fun hs=>?_,?_⟩
      rotate_left
      ·have m1:Mod (fun u=>o.dst≠some u/\has ms u=false) E E1:=⟨fun u hu=>hF.other u hu.1 hu.2,hF.aX,fun t v n cs h=>(hF.rV t v n cs h).imp id And.left,fun t v l p h=>(hF.tz t v l p h).imp id And.left⟩
       exact m1.trans QF (fun u hu=>⟨hu.1 (o,md) (by simp),hu.2⟩) (fun u hu=>⟨fun p hp=>hu.1 p (by simp[hp]),hu.2⟩)
      obtain⟨k1,k2⟩:=gx (hs (o,md) (by simp));obtain⟨n1,n2⟩:=hn fun p hp=>hs p (by simp[hp])
      exact⟨by rw[n1,k1],fun u hu=>by rw[n2 u fun p hp=>hu p (by simp[hp]),k2 u (hu (o,md) (by simp))]⟩
     ·exact .inr ⟨s2,e,.next DB t⟩
    ·exact .inr ⟨s',rfl,.here hgw hx hp⟩
   |false=>
    rw[hg]at h;simp only[cond_false]at h;cases AQ:o.guard with
    |none=>rw[AQ]at h;cases h
    |some g=>
     obtain⟨j,w⟩:=g;rw[AQ]at h;simp only at h;cases hj:dst j with
     |none=>rw[hj]at h;cases h
     |some q=>
      rw[hj]at h;simp only at h;cases hq:E.get q with
      |v d=>
       cases d with
       |bool b=>
        rw[hq]at h;cases C2:xD q [] ((o,md)::rest)with
        |none=>rw[C2]at h;cases h
        |some x=>
         obtain⟨dp,pk,ll⟩:=x;rw[C2]at h;simp only at h;obtain⟨oC,y,z,hl,QP⟩:=Zmu C2;simp only[List.reverse_nil,fu]at hl;rw[QP]at h;cases wC:pk.dst with
         |none=>rw[wC]at h;cases h
         |some t=>
          rw[wC]at h;simp only at h;obtain⟨dN,h⟩:=Zp h;rw[aH]at dN;obtain⟨JE,TR⟩:=dN;have yd:=HG TR;rw[hl];rw[hl]at iU vZ;have after: ∀(E1:Env) (s1:St) (v:Bool),Tr C dst pr ms (dp++[(pk,oC)]) E s ((E.del (fb dp)).put t (.v (.bool v))) s1->
            oW C pr ms c dst n ll act ((E.del (fb dp)).put t (.v (.bool v))) K s1=some r->
            (∃E' s',Tr C dst pr ms (dp++(pk,oC)::ll) E s E' s'/\K E' s'=some r/\((∀p∈dp++(pk,oC)::ll,¬Spec pr p.1)->E'.aX=E.aX/\∀u,(∀p∈dp++(pk,oC)::ll,p.1.dst≠some u)->E'.get u=E.get u)/\Mod (EI ms (dp++(pk,oC)::ll)) E E')\/
            (∃s',r=(.cy,s')/\kM C dst pr ms (dp++(pk,oC)::ll) E s s'):=by
           intro E1 s1 v ht hr;have e:dp++(pk,oC)::ll=(dp++[(pk,oC)])++ll:=by simp
           have get: ∀u,(∀p∈dp++(pk,oC)::ll,p.1.dst≠some u)->((E.del (fb dp)).put t (.v (.bool v))).get u=E.get u:=by
            intro u hu;rw[Env.oo,ay (fun e=>hu (pk,oC) (by simp) (by rw[wC,e])),tW];have:has (fb dp) u=false:=by
             cases hh:has (fb dp) u with
             |false=>rfl
             |true=>
              obtain⟨p,hp,hd⟩:=zI.1 hh;exact absurd hd (hu p (by simp[hp]))
            rw[this];rfl
           rcases ih ll act _ K s1 hr (fun p hp=>iU p (by simp[hp])) (fun g hm=>by
            obtain⟨⟨q',h1,h2,h3⟩,h4⟩:=vZ g hm;exact⟨⟨q',h1,by rw[get q' h3];exact h2,fun p hp=>h3 p (by simp[hp])⟩,fun p hp=>h4 p (by simp[hp])⟩)with⟨E2,s2,t2,ik,hn,QF⟩|⟨s2,e2,t2⟩
           ·refine .inl ⟨E2,s2,by rw[e];exact ht.append t2,ik,fun hs=>?_,?_⟩
            rotate_left
            ·have m1:Mod (fun u=>∀p∈dp++(pk,oC)::ll,p.1.dst≠some u) E ((E.del (fb dp)).put t (.v (.bool v))):=by
              refine⟨get,aA _,fun u v' n' cs e=>?_,fun u v' l' p e=>?_⟩<;>rw[Env.oo,tW]at e<;>split at e
              ·cases e
              ·split at e
               ·cases e
               ·exact .inl ⟨cs,e⟩
              ·cases e
              ·split at e
               ·cases e
               ·exact .inl ⟨p,e⟩
             exact m1.trans QF (fun u hu=>hu.1) (fun u hu=>⟨fun p hp=>hu.1 p (by simp[hp]),hu.2⟩)
            obtain⟨n1,n2⟩:=hn fun p hp=>hs p (by simp[hp])
            exact⟨by rw[n1];rfl,fun u hu=>by rw[n2 u fun p hp=>hu p (by simp[hp]),get u hu]⟩
           ·exact .inr ⟨s2,e2,by rw[e];exact ht.cy t2⟩
          have nd: ∀u,(∀p∈dp++(pk,oC)::ll,p.1.dst≠some u)->has (fb dp) u=false:=by
           intro u hu;cases hh:has (fb dp) u with
           |false=>rfl
           |true=>
            obtain⟨p,hp,hd⟩:=zI.1 hh;exact absurd hd (hu p (by simp[hp]))
          have nq:has (fb dp) q=false:=by
           cases hh:has (fb dp) q with
           |false=>rfl
           |true=>
            obtain⟨p,hp,hd⟩:=zI.1 hh;exact absurd hd (yd p hp).2
          have jk: ∀(d:DV) (s1:St),(D.cons [d] fun d st=>D.bool d fun v=>D.nil st (oW C pr ms c dst n ll act ((E.del (fb dp)).put t (.v (.bool v))) K)) s1=some r->
            ∃v,d= .bool v/\oW C pr ms c dst n ll act ((E.del (fb dp)).put t (.v (.bool v))) K s1=some r:=by
           intro d s1 h;cases d with
           |bool v=>exact⟨v,rfl,h⟩
           |_=>cases h
          have UJ: ∀(v:Bool) u,((E.del (fb dp)).put t (.v (.bool v))).get u=if t=u then .v (.bool v)else if has (fb dp) u then .u else E.get u:=fun v u=>by rw[Env.oo,tW]
          simp only[M.J2]at h;by_cases ql:b=w
          ·
           subst ql;have h':oW C pr ms c dst n dp ((j,b)::act) (E.put q (.v (.bool b))) (fun E1=>dR C E1 (bif b then y else z) fun d=>D.cons [d] fun d st=>D.bool d fun v=>D.nil st (oW C pr ms c dst n ll act ((E.del (fb dp)).put t (.v (.bool v))) K)) s=some r:=by
            cases b<;>exact h
           have D0: ∀u,(E.put q (.v (.bool b))).get u=E.get u:=fun u=>by
            rw[Env.oo];split
            ·rename_i e;subst e;exact hq.symm
            ·rfl
           have cc:jP E (E.put q (.v (.bool b))):=⟨rfl,fun u=> .inl (D0 u)⟩;rcases ih dp ((j,b)::act) _ _ s h' (fun p hp=>iU p (by simp[hp])) (fun g hm=>by
            refine⟨?_,fun p hp=>(yd p hp).1⟩;rcases cd.1 hm with rfl|hm
            ·exact⟨q,hj,by rw[D0];exact hq,fun p hp=>(yd p hp).2⟩
            ·obtain⟨⟨q',h1,h2,h3⟩,_⟩:=vZ g hm
             exact⟨q',h1,by rw[D0];exact h2,fun p hp=>h3 p (by simp[hp])⟩)with⟨E1,s1,t1,jE,oy,_⟩|⟨s1,e1,t1⟩
           ·obtain⟨n1,n2⟩:=oy fun p hp=>(yd p hp).1
            obtain⟨d,hd,jE⟩:=Zr jE;obtain⟨v,rfl,jE⟩:=jk d s1 jE;have Du:E1.get q= .v (.bool b):=by rw[n2 q fun p hp=>(yd p hp).2,D0];exact hq
            have SS: ∀u,has (fb dp) u=false->E1.get u=E.get u:=fun u hu=>by
             rw[n2 u (fun p hp hd=>by rw[zI.2 ⟨p,hp,hd⟩]at hu;cases hu),D0]
            have bE:=Zrk (C:=C) (pr:=pr) (ms:=ms) (md:=oC) (s:=s1) QP Du (gw (E:=E1) (fun g hm=>by
             obtain⟨⟨q',h1,h2,h3⟩,_⟩:=vZ g hm;exact⟨q',h1,by rw[SS q' (nd q' h3)];exact h2⟩) JE)
            have Q3:E1.src C (if b then y else z)= .v (.bool v):=by cases b<;>exact hd
            rw[Q3,wC]at bE;have fE:jP (E1.dJ (some t) (.v (.bool v))) ((E.del (fb dp)).put t (.v (.bool v))):=by
             refine⟨by rw[Env.Bf,n1];rfl,fun u=>?_⟩;rw[UJ,Env.iE];by_cases e:t=u
             ·subst e;simp
             ·rw[ay e,ay (fun h=>e (vi h))]
              cases hu:has (fb dp) u with
              |true=>exact .inr rfl
              |false=>exact .inl (SS u hu).symm
            exact after E1 s1 v (.gj cc (t1.append (.cons bE (.gj fE (.nil _ _))))) jE
           ·exact .inr ⟨s1,e1,.gj cc (t1.left _)⟩
          ·
           have h':dR C ((E.del (fb dp)).put q (.v (.bool !w))) (bif w then z else y) (fun d=>D.cons [d] fun d st=>D.bool d fun v=>D.nil st (oW C pr ms c dst n ll act ((E.del (fb dp)).put t (.v (.bool v))) K)) s=some r:=by
            cases w<;>cases b<;>first|exact h|exact absurd rfl ql
           obtain⟨d,hd,jE⟩:=Zr h';obtain⟨v,rfl,jE⟩:=jk d s jE;obtain⟨E1,t1,t2,t3⟩:=Of (C:=C) (pr:=pr) (ms:=ms) hj ql (s:=s) TR hq (fun d h=>by cases h);have Du:E1.get q= .v (.bool b):=by rw[t3 q nq];exact hq
           have bE:=Zrk (C:=C) (pr:=pr) (ms:=ms) (md:=oC) (s:=s) QP Du (gw (E:=E1) (fun g hm=>by
            obtain⟨⟨q',h1,h2,h3⟩,_⟩:=vZ g hm;exact⟨q',h1,by rw[t3 q' (nd q' h3)];exact h2⟩) JE)
           have Tc:b= !w:=by cases w<;>cases b<;>first|rfl|exact absurd rfl ql
           have Q3:E1.src C (if b then y else z)= .v (.bool v):=by
            have hx:(if b then y else z)=(bif w then z else y):=by subst Tc;cases w<;>rfl
            rw[hx,<-hd];generalize (bif w then z else y)=x at hd;cases x with
            |tmp u=>
             have hg:E1.get u=((E.del (fb dp)).put q (.v (.bool !w))).get u:=by
              rw[Env.oo,tW];by_cases e:q=u
              ·subst e;rw[aF rfl,Du,Tc]
              ·rw[ay e]
               cases hu:has (fb dp) u with
               |false=>exact t3 u hu
               |true=>
                simp only[Env.src,Env.oo,tW,ay e,hu,iA]at hd;cases hd
             simp only[Env.src,hg]
            |_=>rfl
           rw[Q3,wC]at bE;have fE:jP (E1.dJ (some t) (.v (.bool v))) ((E.del (fb dp)).put t (.v (.bool v))):=by
            refine⟨by rw[Env.Bf,t2];rfl,fun u=>?_⟩;rw[UJ,Env.iE];by_cases e:t=u
            ·subst e;simp
            ·rw[ay e,ay (fun h=>e (vi h))]
             cases hu:has (fb dp) u with
             |true=>exact .inr rfl
             |false=>exact .inl (t3 u hu).symm
           exact after E1 s v (t1.append (.cons bE (.gj fE (.nil _ _)))) jE
       |_=>rw[hq]at h;cases h
      |_=>rw[hq]at h;cases h
end
end Go.Gv
namespace Go.Gv
structure Fr where
 N:Nat
 nt:Nat
 fS:Ps
 s0:St
 w0:World
 ok:Nat->Bool
 DW: ∀x,ok x=true->x<nt
 kv:Nat->Value
 Pu:List Deferred
def Ks (f:Fr) (a:Act):Prop:=a.tmps.size=f.nt/\∀t,f.ok t=false->a.tmps.getD t undef=f.kv t
structure Rel (C:aM) (f:Fr) (ψ:Ps) (E:Env) (s:St) (a:Act) (w:World):Prop where
 dA:dP C ψ (CR E s) w
 fe:gL E
 eV:nW ψ w
 iR:Glob C ψ
 gW: ∀t,ef C ψ (E.get t) (a.tmps.getD t undef)
 kG:Ks f a
 defs:a.defers=f.Pu
 oL: ∀i,s.length<=i->i<f.N->ψ (.inl i)=none
 qO: ∀v,E.aX<=v->ψ (.inr v)=none
 ext:Ext f.fS (CS f.s0) f.w0 ψ (CR E s) w
 news: ∀i cb,ψ (.inl i)=some cb->f.fS (.inl i)=some cb\/(f.s0.length<=i/\i<s.length)
 len:f.s0.length<=s.length
 fin: ∀v,f.fS (.inr v)=none
section
variable {C:aM} {f:Fr} {ψ ψ':Ps} {E E':Env} {s s':St} {a:Act} {w w':World} {Q':Kn} {o:Oper} {D W:cx->Prop} {pr ms:List Nat}
theorem gL.gj (h:gL E) (k:jP E E'):gL E':=by
 have g: ∀t x,E'.get t=x->x≠ .u->E.get t=x:=fun t x e hx=>by
  rcases k.get t with h|h
  ·rw[<-h];exact e
  ·rw[h]at e;exact absurd e.symm hx
 constructor
 ·intro t v hv
  rw[k.aX];rcases k.get t with e|e
  ·rw[e]at hv;exact h.lt t v hv
  ·rw[e]at hv;cases hv
 ·intro t r v n e
  rw[k.aX];exact h.pl t r v n (g t _ e (by simp))
 ·intro t v n cs e
  exact h.len t v n cs (g t _ e (by simp))
 ·intro t t' v hv cM
  rcases k.get t with e|e
  ·rcases k.get t' with e'|e'
   ·rw[e]at hv;rw[e']at cM;exact h.uniq t t' v hv cM
   ·rw[e']at cM;cases cM
  ·rw[e]at hv;cases hv
theorem CR.gj (k:jP E E') {h:cx} {ab:AB} (c:CR E' s h ab):CR E s h ab:=by
 have g: ∀t x,E'.get t=x->x≠ .u->E.get t=x:=fun t x e hx=>by
  rcases k.get t with h|h
  ·rw[<-h];exact e
  ·rw[h]at e;exact absurd e.symm hx
 cases h with
 |inl i=>exact c
 |inr v=>
  rcases c with⟨t,n,cs,e,cR⟩|⟨t,l,p,e,cR⟩
  ·exact .inl ⟨t,n,cs,g t _ e (by simp),cR⟩
  ·exact .inr ⟨t,l,p,g t _ e (by simp),cR⟩
theorem Rel.gj (R:Rel C f ψ E s a w) (k:jP E E'):Rel C f ψ E' s a w where
 dA:=R.dA.weaken fun _ _ _ _ c=>c.gj k
 fe:=R.fe.gj k
 eV:=R.eV
 iR:=R.iR
 gW:=fun t=>by
  rcases k.get t with e|e
  ·rw[e];exact R.gW t
  ·rw[e];exact trivial
 kG:=R.kG
 defs:=R.defs
 oL:=R.oL
 qO:=fun v hv=>R.qO v (by rw[<-k.aX];exact hv)
 ext:=R.ext.weaken fun _ _ _ _ c=>c.gj k
 news:=R.news
 len:=R.len
 fin:=R.fin
theorem LS (a:Act) (d:Option Nat) (v:Value):(a.put d v).tmps.size=a.tmps.size:=by cases d<;>simp[Act.put]
theorem Hy (a:Act) (d:Option Nat) (v:Value):(a.put d v).defers=a.defers:=by cases d<;>rfl
theorem Cl {a:Act} {d:Option Nat} {v:Value} {t:Nat} (hd: ∀x,d=some x->x<a.tmps.size):(a.put d v).tmps.getD t undef=if d=some t then v else a.tmps.getD t undef:=by
 cases d with
 |none=>simp[Act.put]
 |some x=>
  simp only[Act.put,cQ,lT];by_cases e:x=t
  ·subst e
   rw[aF rfl,yX (hd x rfl)];rfl
  ·rw[ay e,wY e]
theorem Ks.put (h:Ks f a) {d:Option Nat} {v:Value} (hd: ∀x,d=some x->f.ok x=true):Ks f (a.put d v):=by
 refine⟨by rw[LS];exact h.1,fun t ht=>?_⟩;rw[Cl fun x hx=>by rw[h.1];exact f.DW x (hd x hx),ay fun e=>by rw[hd t e]at ht;cases ht];exact h.2 t ht
theorem Rel.room (R:Rel C f ψ E s a w) (hN:s'.length<=f.N):EG E s E' s' ψ:=by
 rintro h ⟨n1,n2⟩;cases h with
 |inl i=>exact R.oL i (tI.1 n1) (j5 n2 hN)
 |inr v=>exact R.qO v (tI.1 n1)
theorem Rel.pre (R:Rel C f ψ E s a w):aw C o D E s ψ (CR E s) a w:=⟨R.dA,R.eV,R.iR,R.fe,fun _ _ _ _ c _=>c,fun t _=>R.gW t⟩
theorem Rel.step (R:Rel C f ψ E s a w) (hF:jO W pr ms o E s E' s') (hP:EE C D W E s E' s' ψ (CR E s) w ψ' Q' w') {v:Value} (he: ∀d,o.dst=some d->ef C ψ' (E'.get d) v) (hd: ∀x,o.dst=some x->f.ok x=true):
  Rel C f ψ' E' s' (a.put o.dst v) w':=by
 have known: ∀h ab cb,ψ' h=some cb->CR E' s' h ab->Q' h ab:=by
  intro h ab cb e c;by_cases hw:W h\/sh E s E' s' h
  ·exact hP.p1 h ab cb c hw e
  ·have c':CR E s h ab:=by
    rcases hF.back h ab c with x|x|x
    ·exact absurd (.inl x) hw
    ·exact absurd (.inr x) hw
    ·exact x
   rcases hP.news h cb e with e|e
   ·exact hP.p2 h ab cb e c' (fun x=>hw (.inl x)) (fun _ _=>c')
   ·exact absurd (.inr e) hw
 refine⟨hP.dA.weaken known,hF.fe R.fe,hP.ext.eV R.eV,hP.ext.iR R.iR,fun t=>?_,R.kG.put hd,by rw[Hy];exact R.defs,fun i h1 h2=>?_,fun v h1=>?_,R.ext.trans (hP.ext.weaken known),fun i cb e=>?_,eZ R.len hF.len,R.fin⟩
 ·rw[Cl fun x hx=>by rw[R.kG.1];exact f.DW x (hd x hx)]
  by_cases e:o.dst=some t
  ·rw[aF e];exact he t e
  ·rw[ay e];exact(hF.bD t e C ψ _ (R.gW t)).mono hP.ext.mono
 ·cases e:ψ' (.inl i)with
  |none=>rfl
  |some cb=>
   rcases hP.news _ cb e with e|⟨_,e⟩
   ·rw[R.oL i (eZ hF.len h1) h2]at e;cases e
   ·simp only[cN]at e;omega
 ·cases e:ψ' (.inr v)with
  |none=>rfl
  |some cb=>
   rcases hP.news _ cb e with e|⟨_,e⟩
   ·rw[R.qO v (eZ hF.aX h1)]at e;cases e
   ·simp only[cN]at e;omega
 ·rcases hP.news _ cb e with e|⟨n1,n2⟩
  ·rcases R.news i cb e with h|⟨h1,h2⟩
   ·exact .inl h
   ·exact .inr ⟨h1,j5 h2 hF.len⟩
  ·exact .inr ⟨eZ R.len (tI.1 n1),n2⟩
structure nZ (C:aM) (f:Fr) (s:St) (a:Act) (w:World):Prop where
 defs:a.defers=f.Pu
 ks:Ks f a
 post: ∃ψ',gP C f.fS f.s0 f.w0 ψ' s w
theorem ZwZ (b:Bool):undef≠Value.bool b:=by unfold undef;simp
theorem Ij (a:Act) (r:Nat) (b:Bool) (h:a.tmps.getD r undef= .bool b):a.tmps[r]? =some (.bool b):=by
 rw[lT]at h;cases e:a.tmps[r]? with
 |none=>rw[e]at h;exact absurd h (ZwZ b)
 |some v=>rw[e]at h;simp only[sg]at h;rw[h]
def kh (ops:Array Oper) (j:Nat):Option Nat:=match ops.toList[j]? with|some o=>o.dst|none=>none
theorem Ie (ops:Array Oper) (j:Nat):kh ops j=(ops[j]?).bind (·.dst):=by
 unfold kh;rw[gA];cases ops[j]? <;>rfl
theorem Ng {ops:Array Oper} (R: ∀t,ef C ψ (E.get t) (a.tmps.getD t undef)) (h:GW (kh ops) E o):Region.wanted o (yielded ops a.tmps)=true:=by
 unfold Region.wanted;rcases h with h|⟨j,w,r,h1,h2,h3⟩
 ·rw[h]
 ·rw[h1]
  rw[Ie]at h2;have hr:=R r;rw[h3]at hr;have:a.tmps.getD r undef= .bool w:=by generalize a.tmps.getD r undef=x at hr;cases hr;rfl
  simp[yielded,h2,Ij a r w this]
theorem Zno {ops:Array Oper} (R: ∀t,ef C ψ (E.get t) (a.tmps.getD t undef)) (h:GU (kh ops) E o):Region.wanted o (yielded ops a.tmps)=false:=by
 unfold Region.wanted;obtain⟨j,w,r,h1,h2,h3⟩:=h;rw[h1];rw[Ie]at h2;have hr:=R r;rcases h3 with⟨b,h3,hb⟩|h3
 ·rw[h3]at hr
  have:a.tmps.getD r undef= .bool b:=by generalize a.tmps.getD r undef=x at hr;cases hr;rfl
  simp[yielded,h2,Ij a r b this,hb]
 ·rw[h3]at hr
  have hr:a.tmps.getD r undef=undef:=hr;have:a.tmps[r]? =none\/a.tmps[r]? =some undef:=by
   rw[lT]at hr;cases e:a.tmps[r]? with
   |none=>exact .inl rfl
   |some v=>rw[e]at hr;simp only[sg]at hr;rw[hr];exact .inr rfl
  have hy:yielded ops a.tmps j=none:=by
   unfold yielded;rw[h2];rcases this with e|e<;>simp[e,undef]
  simp[hy]
theorem Rel.undef (R:Rel C f ψ E s a w) (hd: ∀x,o.dst=some x->f.ok x=true):Rel C f ψ (E.dJ o.dst .un) s (a.put o.dst Go.undef) w:=by
 have Jo: ∀h ab,CR (E.dJ o.dst .un) s h ab->CR E s h ab:=fun h ab c=>c.dJ rfl
 refine⟨R.dA.weaken fun _ _ _ _ c=>Jo _ _ c,R.fe.dJ rfl (fun _ _ _ h=>by cases h),R.eV,R.iR,fun t=>?_,R.kG.put hd,by rw[Hy];exact R.defs,R.oL,fun v hv=>R.qO v (by simpa using hv),R.ext.weaken fun _ _ _ _ c=>Jo _ _ c,R.news,R.len,R.fin⟩;rw[Cl fun x hx=>by rw[R.kG.1];exact f.DW x (hd x hx),Env.iE];by_cases e:o.dst=some t
 ·rw[aF e,aF e];rfl
 ·rw[ay e,ay e];exact R.gW t
theorem ub {ψ':Ps} {Q':Kn} {w':World} {s':St} (we: ∀v,f.fS (.inr v)=none) (uI:dP C ψ' Q' w') (qw:Ext f.fS (CS f.s0) f.w0 ψ' Q' w')
  (hk: ∀i ab cb,cj s' i=some ab->ψ' (.inl i)=some cb->Q' (.inl i) ab) (Wc: ∀i cb,ψ' (.inl i)=some cb->f.fS (.inl i)=some cb\/(f.s0.length<=i/\i<s'.length)):
  gP C f.fS f.s0 f.w0 (kt ψ') s' w':=by
 have Kl: ∀b,pX (kt ψ') (CS s') b->pX ψ' Q' b:=by
  rintro b ⟨k,cb,ab,e,⟨i,rfl,q⟩,hs,hb⟩;exact⟨.inl i,cb,ab,e,hk i ab cb q e,hs,hb⟩
 refine⟨Zuw uI hk,⟨fun h cb e=>?_,fun h cb e=>qw.oH h cb (zN e).1,qw.size,qw.gx,fun b hb=>qw.fk b (Kl b hb),fun h cb x e q=>?_,qw.tape,qw.os,qw.output⟩,fun h cb e=>?_⟩
 ·cases h with
  |inl i=>exact qw.mono _ _ e
  |inr v=>rw[we]at e;cases e
 ·obtain⟨i,rfl,q⟩:=q
  exact qw.live (.inl i) cb x e (hk i x cb q (qw.mono _ _ e))
 ·obtain⟨e,i,rfl⟩:=zN e
  rcases Wc i cb e with h|⟨h1,h2⟩
  ·exact .inl h
  ·exact .inr ⟨i,rfl,h1,h2⟩
theorem Rel.ub (R:Rel C f ψ E s a w):gP C f.fS f.s0 f.w0 (kt ψ) s w:=
 Go.Gv.ub R.fin R.dA R.ext (fun _ _ _ h _=>h) R.news
theorem Tr.len {dst:Nat->Option Nat} {l:List (Oper×Md)} (h:Tr C dst pr ms l E s E' s'):s.length<=s'.length:=by
 induction h with
 |nil=>exact aA _
 |gj _ _ ih=>exact ih
 |cons st _ ih=>
  refine eZ ?_ ih;cases st with
  |act _ hF _=>exact hF.len
  |skip _=>exact aA _
theorem kM.len {dst:Nat->Option Nat} {l:List (Oper×Md)} (h:kM C dst pr ms l E s s'):s.length<=s'.length:=by
 induction h with
 |gj _ _ ih=>exact ih
 |here _ _ hp=>exact hp.1
 |next st _ ih=>
  refine eZ ?_ ih;cases st with
  |act _ hF _=>exact hF.len
  |skip _=>exact aA _
theorem Rel.Uy (R:Rel C f ψ E s a w) (hN:s'.length<=f.N) (hp:si C o D E s s') {next:Act->World->Prop} {QQ:Exit->Act->World->Prop} (h: ∀ch a' w',lF ch->nZ C f s' a' w'->QQ (.panic ch) a' w'):o.wp C.P a w next QQ:=by
 refine hp.2 ψ (CR E s) a w next QQ R.pre (R.room hN) fun ψ' Q' ch w' h0 h1 h2 h3 h4=>h ch a w' h0 ⟨R.defs,R.kG,_,Go.Gv.ub (s':=s') R.fin h1 (R.ext.trans h2) h4 fun i cb e=>?_⟩
 rcases h3 _ cb e with e|⟨n1,n2⟩
 ·rcases R.news i cb e with h|⟨h1,h2⟩
  ·exact .inl h
  ·exact .inr ⟨h1,j5 h2 hp.1⟩
 ·exact .inr ⟨eZ R.len (tI.1 n1),n2⟩
theorem ZyN {ops:Array Oper} {QQ:Exit->Act->World->Prop} {l:List (Oper×Md)} {E2:Env} {s2:St} (t:Tr C (kh ops) pr ms l E s E2 s2): ∀ {i:Nat} {a:Act} {w:World} {ψ:Ps},Rel C f ψ E s a w->s2.length<=f.N->
  (∀p∈l,∀x,p.1.dst=some x->f.ok x=true)->(∀k p,l[k]? =some p->ops[i+k]? =some p.1)->(∀ψ' a' w',Rel C f ψ' E2 s2 a' w'->QQ .normal a' w')->wpOps C.P ops QQ (List.range' i l.length) a w:=by
 induction t with
 |nil=>intro i a w ψ R _ _ _ h;exact h ψ a w R
 |gj k _ ih=>intro i a w ψ R hN hd hi h;exact ih (R.gj k) hN hd hi h
 |cons st t ih=>
  rename_i p l E s E1 s1 E2 s2;intro i a w ψ R hN hd hi h;have rC:=hi 0 p rfl;simp only[dC]at rC;have rest: ∀ {fT a1 w1},Rel C f fT E1 s1 a1 w1->wpOps C.P ops QQ (List.range' (i+1) l.length) a1 w1:=fun R1=>
   ih R1 hN (fun q hq=>hd q (by simp[hq])) (fun k q hk=>by have:=hi (k+1) q (by simpa using hk);rwa [show i+(k+1)=i+1+k by omega]at this) h
  simp only[ee,Bs,wpOps,rC];cases st with
  |act hg hF hO=>
   rw[aF (Ng R.gW hg)];exact .inl (hO ψ (CR E s) a w _ QQ R.pre (R.room (eZ t.len hN)) fun ψ' Q' v w' hP he=>rest (R.step hF hP he (hd p (by simp))))
  |skip hg=>
   rw[ay (by rw[Zno R.gW hg];simp)];exact rest (R.undef (hd p (by simp)))
theorem Zxq {ops:Array Oper} {QQ:Exit->Act->World->Prop} {l:List (Oper×Md)} {s2:St} (t:kM C (kh ops) pr ms l E s s2): ∀ {i:Nat} {a:Act} {w:World} {ψ:Ps},Rel C f ψ E s a w->s2.length<=f.N->
  (∀p∈l,∀x,p.1.dst=some x->f.ok x=true)->(∀k p,l[k]? =some p->ops[i+k]? =some p.1)->(∀ch a' w',lF ch->nZ C f s2 a' w'->QQ (.panic ch) a' w')->wpOps C.P ops QQ (List.range' i l.length) a w:=by
 induction t with
 |gj k _ ih=>intro i a w ψ R hN hd hi h;exact ih (R.gj k) hN hd hi h
 |here hg hx hp=>
  rename_i p l E s s2;intro i a w ψ R hN hd hi h;have rC:=hi 0 p rfl;simp only[dC]at rC;simp only[ee,Bs,wpOps,rC];rw[aF (Ng R.gW hg)];exact .inl (R.Uy hN hp h)
 |next st t ih=>
  rename_i p l E s E1 s1 s2;intro i a w ψ R hN hd hi h;have rC:=hi 0 p rfl;simp only[dC]at rC;have rest: ∀ {fT a1 w1},Rel C f fT E1 s1 a1 w1->wpOps C.P ops QQ (List.range' (i+1) l.length) a1 w1:=fun R1=>
   ih R1 hN (fun q hq=>hd q (by simp[hq])) (fun k q hk=>by have:=hi (k+1) q (by simpa using hk);rwa [show i+(k+1)=i+1+k by omega]at this) h
  simp only[ee,Bs,wpOps,rC];cases st with
  |act hg hF hO=>
   rw[aF (Ng R.gW hg)];exact .inl (hO ψ (CR E s) a w _ QQ R.pre (R.room (eZ t.len hN)) fun ψ' Q' v w' hP he=>rest (R.step hF hP he (hd p (by simp))))
  |skip hg=>
   rw[ay (by rw[Zno R.gW hg];simp)];exact rest (R.undef (hd p (by simp)))
end
end Go.Gv
namespace Go.Gv
theorem jP.refl (E:Env):jP E E:=⟨rfl,fun _=> .inl rfl⟩
theorem jP.trans {E E' Bz:Env} (h:jP E E') (k:jP E' Bz):jP E Bz:=by
 refine⟨k.aX.trans h.aX,fun t=>?_⟩;rcases k.get t with e|e
 ·rcases h.get t with e'|e'
  ·exact .inl (e.trans e')
  ·exact .inr (e.trans e')
 ·exact .inr e
section
variable {C:aM} {dst:Nat->Option Nat} {pr ms:List Nat}
theorem Tr.fn {l:List (Oper×Md)} {E E2:Env} {s s2:St} (h:Tr C dst pr ms l E s E2 s2):
  ∃(A B:Nat->Env) (ss:Nat->St),A 0=E/\ss 0=s/\ss l.length=s2/\jP (A l.length) E2/\
   ∀k p,l[k]? =some p->jP (A k) (B k)/\Step C dst pr ms p (B k) (ss k) (A (k+1)) (ss (k+1)):=by
 induction h with
 |nil E s=>exact⟨fun _=>E,fun _=>E,fun _=>s,rfl,rfl,rfl,.refl E,fun k p h=>by simp at h⟩
 | @gj l E E1 s E2 s2 k _ ih=>
  obtain⟨A,B,ss,h1,h2,h3,h4,h5⟩:=ih;cases l with
  |nil=>
   refine⟨fun _=>E,B,ss,rfl,h2,h3,?_,fun k p h=>by simp at h⟩;simp only[xa]at h4;rw[h1]at h4;exact k.trans h4
  |cons p l=>
   refine⟨fun i=>if i=0 then E else A i,B,ss,rfl,h2,h3,by simpa using h4,fun i q hq=>?_⟩;obtain⟨a,b⟩:=h5 i q hq;refine⟨?_,by simpa using b⟩;by_cases hi:i=0
   ·subst hi
    simp only[iA];rw[h1]at a;exact k.trans a
   ·simp only[hi,iO];exact a
 | @cons p l E s E1 s1 E2 s2 st _ ih=>
  obtain⟨A,B,ss,h1,h2,h3,h4,h5⟩:=ih;refine⟨fun i=>match i with|0=>E|i+1=>A i,fun i=>match i with|0=>E|i+1=>B i,fun i=>match i with|0=>s|i+1=>ss i,rfl,rfl,h3,h4,fun i q hq=>?_⟩;cases i with
  |zero=>
   simp only[gJ,cQ]at hq;subst hq;refine⟨.refl E,?_⟩;simp only[h1,h2];exact st
  |succ i=>exact h5 i q (by simpa using hq)
end
theorem Zyy {o:Oper} {acc:List Nat} {j:Nat} (h:(Ak o acc).testBit j=true): ∃e∈o.after,Region.binds .any e=true/\(j=e.on\/(acc.getD e.on 0).testBit j=true):=by
 unfold Ak at h;have key: ∀(l:List Edge) (m:Nat),(l.foldl (fun m e=>bif Region.binds .any e then m|||2^e.on|||acc.getD e.on 0 else m) m).testBit j=true->
   m.testBit j=true\/∃e∈l,Region.binds .any e=true/\(j=e.on\/(acc.getD e.on 0).testBit j=true):=by
  intro l;induction l with
  |nil=>exact fun m h=> .inl h
  |cons e l ih=>
   intro m h;simp only[y8]at h;rcases ih _ h with h|⟨e',he,h⟩
   ·cases hb:Region.binds .any e with
    |false=>rw[hb]at h;exact .inl h
    |true=>
     rw[hb]at h;simp only[cond_true,vh,jt,Nat.testBit_two_pow,jL]at h;rcases h with(h|h)|h
     ·exact .inl h
     ·exact .inr ⟨e,by simp,hb,.inl h.symm⟩
     ·exact .inr ⟨e,by simp,hb,.inr h⟩
   ·exact .inr ⟨e',by simp[he],h⟩
 rcases key _ 0 h with h|⟨e,he,h⟩
 ·simp at h
 ·exact⟨e,by simpa using he,h⟩
theorem N4 (P:Program) (pr:List Nat) (ops:List Oper): ∀(r:List Oper) (acc:List Nat) (k:Nat) (p:eS),(nH P pr ops r acc)[k]? =some p->
  ∃o,r[k]? =some o/\p.bf=Ak o (acc++((nH P pr ops r acc).take k).map (·.bf))/\p.k=qN pr ops (acc.length+k) p.bf (cls P pr ops o)/\p.dst=o.dst/\p.lk=nG pr ops o
 |[],acc,k,p,h=>by simp[nH]at h
 |o::r,acc,0,p,h=>by
  simp only[nH,gJ,cQ]at h;subst h;exact⟨o,rfl,by simp,rfl,rfl,rfl⟩
 |o::r,acc,k+1,p,h=>by
  simp only[nH,lU]at h;obtain⟨o',h1,h2,h3,h4⟩:=N4 P pr ops r _ k p h;refine⟨o',by simpa using h1,?_,?_,h4⟩
  ·rw[h2]
   simp[nH]
  ·rw[h3,aZ,tE,show acc.length+1+k=acc.length+(k+1) by omega]
theorem Hf (P:Program) (pr:List Nat) (ops:List Oper): ∀(r:List Oper) (acc:List Nat),(nH P pr ops r acc).length=r.length
 |[],_=>rfl
 |o::r,acc=>by simp[nH,Hf P pr ops r]
def KC (p q:eS):Prop:=OU p.k q.k=false/\IV p.dst q.lk=false/\IV q.dst p.lk=false/\Pv p.dst q.dst=false
theorem ZoH {i:Nat} {p:eS} : ∀ {l:List eS},IF i p l=true->∀(k:Nat) (q:eS),l[k]? =some q->q.bf.testBit i=true\/KC p q
 |[],_,k,q,h=>by simp at h
 |x::l,h,k,q,hq=>by
  simp only[IF,aH]at h;cases k with
  |zero=>
   simp only[gJ,cQ]at hq;subst hq;have h1:=h.1;rw[jt]at h1;refine h1.imp id fun h1=>?_
   simp only[aH,gZ]at h1;exact⟨h1.1.1.1,h1.1.1.2,h1.1.2,h1.2⟩
  |succ k=>exact ZoH h.2 k q (by simpa using hq)
theorem HW: ∀ {i:Nat} {l:List eS} {os:List Oper},yH i l os=true->∀(k:Nat) (p:eS),l[k]? =some p->
  p.bf<2^(i+k)/\(∃o,os[k]? =some o/\∀j w,o.guard=some (j,w)->p.bf.testBit j=true)/\∀(m:Nat) (q:eS),k<m->l[m]? =some q->q.bf.testBit (i+k)=true\/KC p q
 |i,[],os,_,k,p,hp=>by simp at hp
 |i,_::_,[],h,k,p,hp=>by cases h
 |i,x::l,o::os,h,k,p,hp=>by
  simp only[yH,aH]at h;obtain⟨⟨⟨h1,h2⟩,h3⟩,h4⟩:=h;cases k with
  |zero=>
   simp only[gJ,cQ]at hp;subst hp;refine⟨by rw[lB]at h1;exact h1,⟨o,rfl,fun j w hg=>by rw[hg]at h2;exact h2⟩,fun m q hm hq=>?_⟩;obtain⟨m',rfl⟩: ∃m',m=m'+1:=⟨m-1,by omega⟩;exact ZoH h3 m' q (by simpa using hq)
  |succ k=>
   obtain⟨a,⟨o',b1,b2⟩,c⟩:=HW h4 k p (by simpa using hp);refine⟨by rw[show i+(k+1)=i+1+k by omega];exact a,⟨o',by simpa using b1,b2⟩,fun m q hm hq=>?_⟩;obtain⟨m',rfl⟩: ∃m',m=m'+1:=⟨m-1,by omega⟩;rw[show i+(k+1)=i+1+k by omega];exact c m' q (by omega) (by simpa using hq)
theorem Zzr {o:Oper} {acc:List Nat} {e:Edge} (he:e∈o.after) (hb:Region.binds .any e=true):(Ak o acc).testBit e.on=true:=by
 unfold Ak;have mono: ∀(l:List Edge) (m:Nat),m.testBit e.on=true->(l.foldl (fun m e=>bif Region.binds .any e then m|||2^e.on|||acc.getD e.on 0 else m) m).testBit e.on=true:=by
  intro l;induction l with
  |nil=>exact fun m h=>h
  |cons x l ih=>
   intro m h;simp only[y8];refine ih _ ?_;cases Region.binds .any x with
   |false=>exact h
   |true=>simp only[cond_true,vh,h,tC]
 have key: ∀(l:List Edge) (m:Nat),e∈l->(l.foldl (fun m e=>bif Region.binds .any e then m|||2^e.on|||acc.getD e.on 0 else m) m).testBit e.on=true:=by
  intro l;induction l with
  |nil=>intro m h;cases h
  |cons x l ih=>
   intro m h;simp only[y8];cases h with
   |head=>
    refine mono l _ ?_;rw[hb];simp[vh]
   |tail _ h=>exact ih _ h
 exact key _ 0 (by simpa using he)
theorem Ib {mp:Nat->Bool} : ∀(all:List eS) (i:Nat) (is:List eS) (os:List Oper) (k:Nat) (p:Oper×Md),(flags mp all i is os)[k]? =some p->
  ∃q o,is[k]? =some q/\os[k]? =some o/\
   p=(o,.d q.k (bif oY (i+k) q.bf (fun _=>true) 0 all then(bif J8 mp o&& !tP (i+k) q.bf 0 all then 0 else(match q.k with| .call=>(bif oY (i+k) q.bf yD 0 all then 2 else 1)|_=>1))else 0))
 |all,i,[],os,k,p,h=>by cases os<;>simp[flags]at h
 |all,i,_::_,[],k,p,h=>by simp[flags]at h
 |all,i,q::r,o::os,0,p,h=>by
  simp only[flags,gJ,cQ]at h;exact⟨q,o,rfl,rfl,h.symm⟩
 |all,i,q::r,o::os,k+1,p,h=>by
  simp only[flags,lU]at h;obtain⟨q',o',h1,h2,h3⟩:=Ib all (i+1) r os k p h;refine⟨q',o',by simpa using h1,by simpa using h2,?_⟩;rw[h3,show i+1+k=i+(k+1) by omega]
theorem GN {mp:Nat->Bool} : ∀(all:List eS) (i:Nat) (is:List eS) (os:List Oper),is.length=os.length->(flags mp all i is os).length=os.length
 |_,_,[],[],_=>rfl
 |all,i,_::r,_::os,h=>by simp only[flags,ee];rw[GN all (i+1) r os (by simpa using h)]
 |_,_,[],_::_,h=>by simp at h
 |_,_,_::_,[],h=>by simp at h
theorem Zrj {i bi:Nat} {f:jv->Bool} : ∀ {r:List eS} {j0 j:Nat} {q:eS},r[j]? =some q->i≠j0+j->q.bf.testBit i=false->bi.testBit (j0+j)=false->f q.k=true->oY i bi f j0 r=true
 |[],j0,j,q,h,_,_,_,_=>by simp at h
 |x::r,j0,0,q,h,h1,h2,h3,h4=>by
  simp only[gJ,cQ]at h;subst h;simp only[dC]at h1 h3;have:Nat.beq i j0=false:=by
   cases e:Nat.beq i j0 with
   |false=>rfl
   |true=>exact absurd (bY e) h1
  simp only[oY,this,h2,h3,h4];rfl
 |x::r,j0,j+1,q,h,h1,h2,h3,h4=>by
  simp only[lU]at h;simp only[oY,jt];exact .inr (Zrj (j0:=j0+1) h (by omega) h2 (by rw[show j0+1+j=j0+(j+1) by omega];exact h3) h4)
theorem Zoq {i bi:Nat} : ∀ {r:List eS} {j0 j:Nat} {q:eS},r[j]? =some q->i≠j0+j->q.bf.testBit i=false->bi.testBit (j0+j)=false->(Nat.blt (j0+j) i&&xN q.k)=false->tP i bi j0 r=true
 |[],j0,j,q,h,_,_,_,_=>by simp at h
 |x::r,j0,0,q,h,h1,h2,h3,h4=>by
  simp only[gJ,cQ]at h;subst h;simp only[dC]at h1 h3 h4;have:Nat.beq i j0=false:=by
   cases e:Nat.beq i j0 with
   |false=>rfl
   |true=>exact absurd (bY e) h1
  simp only[tP,this,h2,h3,h4];rfl
 |x::r,j0,j+1,q,h,h1,h2,h3,h4=>by
  simp only[lU]at h;simp only[tP,jt];exact .inr (Zoq (j0:=j0+1) h (by omega) h2 (by rw[show j0+1+j=j0+(j+1) by omega];exact h3) (by rw[show j0+1+j=j0+(j+1) by omega];exact h4))
def vN (is:List eS) (i k:Nat):Prop:=∃q,is[k]? =some q/\q.bf.testBit i=true
theorem Zt3: ∀(l:List Operand) (m t:Nat),(m.testBit t=true\/Operand.tmp t∈l)->(l.foldl (fun m x=>match x with| .tmp t=>m|||2^t|_=>m) m).testBit t=true
 |[],m,t,h=>by
  rcases h with h|h
  ·exact h
  ·cases h
 |x::l,m,t,h=>by
  simp only[y8];refine Zt3 l _ t ?_;rcases h with h|h
  ·refine .inl ?_
   cases x with
   |tmp u=>simp only[vh,h,tC]
   |_=>exact h
  ·cases h with
   |head=>exact .inl (by simp[vh])
   |tail _ h=>exact .inr h
theorem z8 (m r t:Nat) (h:m.testBit t=true\/r=t):(m|||2^r).testBit t=true:=by
 rcases h with h|rfl
 ·simp[vh,h]
 ·simp[vh]
theorem Zoy (pr:List Nat) (ops:List Oper) (o:Oper) (m:Nat) (t:Nat) (h:m.testBit t=true):
  (match o.op with
   | .load _ (.tmp a)=>(match mK pr ops 12 a with|some r=>m|||2^r|none=>m)
   | .store _ (.tmp a) _=>(match mK pr ops 12 a with|some r=>m|||2^r|none=>m)
   |_=>m).testBit t=true:=by
 split
 ·split
  ·exact z8 _ _ _ (.inl h)
  ·exact h
 ·split
  ·exact z8 _ _ _ (.inl h)
  ·exact h
 ·exact h
theorem Zrd {pr:List Nat} {ops:List Oper} {o:Oper} {t:Nat} (h:Operand.tmp t∈o.op.operands):(nG pr ops o).testBit t=true:=by
 unfold nG;refine Zoy _ _ _ _ _ ?_;have h1:=Zt3 o.op.operands.toList 0 t (.inr (by simpa using h));split
 ·split
  ·split
   ·exact z8 _ _ _ (.inl h1)
   ·exact h1
  ·exact h1
 ·exact h1
theorem Zwo {pr:List Nat} {ops:List Oper} {o g:Oper} {j r:Nat} {w:Bool} (h:o.guard=some (j,w)) (hj:ops[j]? =some g) (hr:g.dst=some r):(nG pr ops o).testBit r=true:=by
 unfold nG;refine Zoy _ _ _ _ _ ?_;simp only[h,hj,hr];exact z8 _ _ _ (.inr rfl)
theorem Zxt {P:Program} {pr:List Nat} {ops:List Oper} {o:Oper} {r:Nat} (h:cls P pr ops o= .rS r\/cls P pr ops o= .lS r):(nG pr ops o).testBit r=true:=by
 cases ho:o.op with
 |load t a=>
  cases a with
  |tmp a=>
   cases hr:mK pr ops 12 a with
   |none=>simp[cls,ho,hr]at h
   |some q=>
    simp[cls,ho,hr]at h;subst h;simp only[nG,ho,hr];exact z8 _ _ _ (.inr rfl)
  |_=>simp[cls,ho]at h
 |store t a y=>
  cases a with
  |tmp a=>
   cases hr:mK pr ops 12 a with
   |none=>simp[cls,ho,hr]at h
   |some q=>
    simp[cls,ho,hr]at h;subst h;simp only[nG,ho,hr];exact z8 _ _ _ (.inr rfl)
  |_=>simp[cls,ho]at h
 |next it b=>
  cases it with
  |tmp t=>
   simp[cls,ho]at h;subst h;exact Zrd (by simp[Op.operands,ho])
  |_=>simp[cls,ho]at h
 |slice t y lo hi mx=>
  simp only[cls,ho]at h;split at h<;>simp at h
 |call q=>
  cases hp:has pr 1000000<;>simp only[cls,ho,hp,cond_true,cond_false]at h<;>split at h<;>simp at h
 |_=>simp[cls,ho]at h
structure Su (C:aM) (pr ms:List Nat) (ops:Array Oper) (l:List (Oper×Md)) (is:List eS) (m:Nat) (A B:Nat->Env) (ss:Nat->St):Prop where
 uA:is=nH C.P pr ops.toList ops.toList []
 hl:l=flags C.mp is 0 is ops.toList
 ok:yH 0 is ops.toList=true
 hm:m<=ops.size
 w: ∀k,k<=m->jP (A k) (B k)
 st: ∀k p,k<m->l[k]? =some p->Step C (kh ops) pr ms p (B k) (ss k) (A (k+1)) (ss (k+1))
 e0:gL (A 0)
theorem Step.opF {C:aM} {dst:Nat->Option Nat} {pr ms:List Nat} {p:Oper×Md} {E E':Env} {s s':St} (h:Step C dst pr ms p E s E' s'):jO (j9 p.2 E) pr ms p.1 E s E' s':=by
 cases h with
 |act _ hF _=>exact hF
 |skip _=>exact jO.RG pr ms .un rfl fun _ _ _ _ h=>by cases h
section
variable {C:aM} {pr ms:List Nat} {ops:Array Oper} {l:List (Oper×Md)} {is:List eS} {m:Nat} {A B:Nat->Env} {ss:Nat->St}
theorem Su.isLen (S:Su C pr ms ops l is m A B ss):is.length=ops.size:=by rw[S.uA,Hf];simp
theorem Su.J4 (S:Su C pr ms ops l is m A B ss):l.length=ops.size:=by rw[S.hl,GN _ _ _ _ (by rw[S.isLen];simp)];simp
structure OpT (C:aM) (pr:List Nat) (ops:Array Oper) (is:List eS) (k:Nat) (p:Oper×Md) (q:eS) (x:Nat):Prop where
 iq:is[k]? =some q
 op:ops[k]? =some p.1
 md:p.2= .d q.k x
 kc:q.k=qN pr ops.toList k q.bf (cls C.P pr ops.toList p.1)
 dst:q.dst=p.1.dst
 lk:q.lk=nG pr ops.toList p.1
 lt: ∀j,q.bf.testBit j=true->j<k
 gd: ∀j w,p.1.guard=some (j,w)->q.bf.testBit j=true
 on: ∀e∈p.1.after,Region.binds .any e=true->q.bf.testBit e.on=true
 Vg: ∀j,q.bf.testBit j=true->∃e∈p.1.after,Region.binds .any e=true/\(j=e.on\/vN is j e.on)
 zero:x=0->∀j q',is[j]? =some q'->k≠j->q'.bf.testBit k=true\/q.bf.testBit j=true\/(j<k/\xN q'.k=true)
 two:q.k= .call->∀j q',is[j]? =some q'->k≠j->yD q'.k=true->q'.bf.testBit k=true\/q.bf.testBit j=true\/2<=x
theorem Su.get (S:Su C pr ms ops l is m A B ss) {k:Nat} {p:Oper×Md} (hp:l[k]? =some p): ∃q x,OpT C pr ops is k p q x:=by
 rw[S.hl]at hp;obtain⟨q,o,h1,h2,h3⟩:=Ib _ _ _ _ _ _ hp;rw[dy]at h3;have h1':=h1;rw[S.uA]at h1';obtain⟨o',g1,g2,g3,g4,g5⟩:=N4 _ _ _ _ _ _ _ h1';rw[h2]at g1;cases g1;obtain⟨k1,⟨o',k2,k3⟩,_⟩:=HW S.ok k q h1;rw[h2]at k2;cases k2;rw[dy]at k1;have aj: ∀j,q.bf.testBit j=true->j<k:=by
  intro j hj;rcases eJ j k with h|h
  ·exact h
  ·have:q.bf<2^j:=j5 k1 (pU (by omega) h)
   rw[KB this]at hj;cases hj
 have bs: ∀f:jv->Bool,∀j q',is[j]? =some q'->k≠j->f q'.k=true->oY k q.bf f 0 is=false->q'.bf.testBit k=true\/q.bf.testBit j=true:=by
  intro f j q' hq bp hf hb;cases e1:q'.bf.testBit k with
  |true=>exact .inl rfl
  |false=>
   cases e2:q.bf.testBit j with
   |true=>exact .inr rfl
   |false=>rw[Zrj (i:=k) (bi:=q.bf) (f:=f) (j0:=0) hq (by omega) e1 (by rw[dy];exact e2) hf]at hb;cases hb
 have bs2: ∀j q',is[j]? =some q'->k≠j->tP k q.bf 0 is=false->q'.bf.testBit k=true\/q.bf.testBit j=true\/(j<k/\xN q'.k=true):=by
  intro j q' hq bp hb;cases e1:q'.bf.testBit k with
  |true=>exact .inl rfl
  |false=>
   cases e2:q.bf.testBit j with
   |true=>exact .inr (.inl rfl)
   |false=>
    cases e3:(Nat.blt j k&&xN q'.k)with
    |false=>rw[Zoq (i:=k) (bi:=q.bf) (j0:=0) hq (by omega) e1 (by rw[dy];exact e2) (by rw[dy];exact e3)]at hb;cases hb
    |true=>
     rw[aH,lB]at e3;exact .inr (.inr e3)
 refine⟨q,_,h1,?_,by rw[h3],by rw[h3];simp only[xa,dy]at g3;exact g3,by rw[h3];exact g4,by rw[h3];exact g5,aj,fun j w hg=>k3 j w (by rw[h3]at hg;exact hg),fun e he hb=>by rw[g2];exact Zzr (by rw[h3]at he;exact he) hb,fun j hj=>?_,fun hx j q' hq bp=>?_,fun hc j q' hq bp hh=>?_⟩
 ·rw[h3,<-gA];exact h2
 ·rw[g2]at hj
  obtain⟨e,he,hb,hj⟩:=Zyy hj;rw[h3];refine⟨e,he,hb,hj.imp id fun hj=>?_⟩;simp only[fu,bM]at hj;have qD:((((is.take k).map fun x:eS=>x.bf)[e.on]?).getD 0).testBit j=true:=by rw[S.uA];exact hj
  cases hx:((is.take k).map fun x:eS=>x.bf)[e.on]? with
  |none=>rw[hx]at qD;simp at qD
  |some b=>
   rw[hx]at qD;rw[gB]at hx;cases hy:(is.take k)[e.on]? with
   |none=>rw[hy]at hx;cases hx
   |some q'=>
    rw[hy]at hx;simp only[lD,cQ]at hx;rw[mR]at hy;split at hy
    ·exact⟨q',hy,by rw[hx];exact qD⟩
    ·cases hy
 ·cases hb:oY k q.bf (fun _=>true) 0 is with
  |false=>exact(bs _ j q' hq bp rfl hb).imp id .inl
  |true=>
   rw[hb]at hx;simp only[cond_true]at hx;cases uH:J8 C.mp o&& !tP k q.bf 0 is with
   |true=>
    rw[aH,gZ]at uH;exact bs2 j q' hq bp uH.2
   |false=>
    rw[uH]at hx;simp only[cond_false]at hx;split at hx
    ·cases hc:oY k q.bf yD 0 is<;>rw[hc]at hx<;>cases hx
    ·cases hx
 ·cases hb:oY k q.bf yD 0 is with
  |false=>exact(bs _ j q' hq bp hh hb).imp id .inl
  |true=>
   cases eH:oY k q.bf (fun _=>true) 0 is with
   |false=>exact(bs _ j q' hq bp rfl eH).imp id .inl
   |true=>
    cases uH:J8 C.mp o&& !tP k q.bf 0 is with
    |true=>
     rw[aH,gZ]at uH;rcases bs2 j q' hq bp uH.2 with h|h|⟨_,h⟩
     ·exact .inl h
     ·exact .inr (.inl h)
     ·exfalso
      generalize q'.k=z at hh h;cases z<;>simp[yD,xN]at hh h
    |false=>exact .inr (.inr (by simp[hc]))
theorem Su.F (S:Su C pr ms ops l is m A B ss) {k:Nat} {p:Oper×Md} (hk:k<m) (hp:l[k]? =some p):jO (j9 p.2 (B k)) pr ms p.1 (B k) (ss k) (A (k+1)) (ss (k+1)):=(S.st k p hk hp).opF
theorem Su.wS (S:Su C pr ms ops l is m A B ss) {k:Nat} (hk:k<m): ∃p,l[k]? =some p:=by
 have:=S.J4;have:=S.hm;exact⟨l[k]'(by omega),ba _⟩
theorem Su.qi (S:Su C pr ms ops l is m A B ss): ∀k,k<=m->gL (B k)
 |0,h=>S.e0.gj (S.w 0 h)
 |k+1,h=>by
  obtain⟨p,hp⟩:=S.wS (k:=k) (by omega);exact((S.F (by omega) hp).fe (S.qi k (by omega))).gj (S.w (k+1) h)
theorem xA {E E':Env} {s:St} (h:jP E E') (x:cx):cN E' s x↔cN E s x:=by
 cases x with
 |inl i=>exact Iff.rfl
 |inr v=>simp only[cN,h.aX]
theorem Su.Vf (S:Su C pr ms ops l is m A B ss) {k:Nat} (hk:k<m) {h:cx} (hd:cN (B k) (ss k) h):cN (A (k+1)) (ss (k+1)) h:=by
 obtain⟨p,hp⟩:=S.wS hk;have hF:=S.F hk hp;cases h with
 |inl i=>exact j5 hd hF.len
 |inr v=>exact j5 hd hF.aX
theorem Su.nh (S:Su C pr ms ops l is m A B ss) {h:cx} {j:Nat} : ∀(d:Nat),j+d<=m->cN (B j) (ss j) h->cN (B (j+d)) (ss (j+d)) h
 |0,_,hd=>hd
 |d+1,hk,hd=>(xA (S.w (j+d+1) hk) h).2 (S.Vf (k:=j+d) (by omega) (S.nh d (by omega) hd))
theorem Su.qf (S:Su C pr ms ops l is m A B ss) {h:cx} {j k:Nat} (wo:j<=k) (hk:k<=m) (hd:cN (B j) (ss j) h):cN (B k) (ss k) h:=by
 have:=S.nh (j:=j) (k-j) (by omega) hd
 rwa [show j+(k-j)=k by omega]at this
def Wr (l:List (Oper×Md)) (B:Nat->Env) (i:Nat) (h:cx):Prop:=∃p,l[i]? =some p/\j9 p.2 (B i) h
theorem Su.back (S:Su C pr ms ops l is m A B ss) {h:cx} {ab:AB} {j:Nat} : ∀(d:Nat),j+d<=m->(∀i,j<=i->i<j+d->¬Wr l B i h)->cN (B j) (ss j) h->CR (B (j+d)) (ss (j+d)) h ab->CR (B j) (ss j) h ab
 |0,_,_,_,c=>c
 |d+1,hk,hw,hd,c=>by
  obtain⟨p,hp⟩:=S.wS (k:=j+d) (by omega);rcases(S.F (by omega) hp).back h ab (c.gj (S.w _ hk))with x|x|x
  ·exact absurd ⟨p,hp,x⟩ (hw (j+d) (by omega) (by omega))
  ·exact absurd (S.nh d (by omega) hd) x.1
  ·exact S.back d (by omega) (fun i h1 h2=>hw i h1 (by omega)) hd x
theorem Su.IQ (S:Su C pr ms ops l is m A B ss) {h:cx} {ab:AB} {j k:Nat} (wo:j<=k) (hk:k<=m) (hw: ∀i,j<=i->i<k->¬Wr l B i h) (hd:cN (B j) (ss j) h) (c:CR (B k) (ss k) h ab):CR (B j) (ss j) h ab:=by
 have:=S.back (j:=j) (ab:=ab) (k-j) (by omega) (fun i h1 h2=>hw i h1 (by omega)) hd;rw[show j+(k-j)=k by omega]at this;exact this c
theorem Su.fix (S:Su C pr ms ops l is m A B ss) {x:Nat} {j:Nat} : ∀(d:Nat),j+d<=m->(∀i,j<=i->i<j+d->¬Wr l B i (.inl x))->x<(ss j).length->(ss (j+d))[x]? =(ss j)[x]?
 |0,_,_,_=>rfl
 |d+1,hk,hw,hx=>by
  obtain⟨p,hp⟩:=S.wS (k:=j+d) (by omega);have hd:x<(ss (j+d)).length:=S.nh (h:= .inl x) d (by omega) hx;have:=(S.F (by omega) hp).UH x (fun hi=>hw (j+d) (by omega) (by omega) ⟨p,hp,hi⟩) hd;rw[show j+(d+1)=j+d+1 by omega,this,S.fix d (by omega) (fun i h1 h2=>hw i h1 (by omega)) hx]
theorem Su.bD (S:Su C pr ms ops l is m A B ss) {ψ:Ps} {x:Value} {t:Nat} {j:Nat} : ∀(d:Nat),j+d<=m->(∀i p,j<=i->i<j+d->l[i]? =some p->p.1.dst≠some t)->ef C ψ ((B j).get t) x->ef C ψ ((B (j+d)).get t) x
 |0,_,_,r=>r
 |d+1,hk,hw,r=>by
  obtain⟨p,hp⟩:=S.wS (k:=j+d) (by omega);have:=(S.F (by omega) hp).bD t (hw _ p (by omega) (by omega) hp) C ψ x (S.bD d (by omega) (fun i p h1 h2=>hw i p h1 (by omega)) r);rcases(S.w _ hk).get t with e|e
  ·rw[e];exact this
  ·rw[e];trivial
theorem Su.val (S:Su C pr ms ops l is m A B ss) {t j:Nat} {x:DV} : ∀(d:Nat),j+d<=m->(∀i p,j<=i->i<j+d->l[i]? =some p->p.1.dst≠some t)->(B (j+d)).get t= .v x->(B j).get t= .v x
 |0,_,_,e=>e
 |d+1,hk,hw,e=>by
  obtain⟨p,hp⟩:=S.wS (k:=j+d) (by omega);refine S.val d (by omega) (fun i p h1 h2=>hw i p h1 (by omega)) ((S.F (by omega) hp).val t x (hw _ p (by omega) (by omega) hp) ?_);rcases(S.w _ hk).get t with e'|e'
  ·exact e'.symm.trans e
  ·exact absurd (e'.symm.trans e) (by simp)
theorem Ztx {E E':Env} (h:jP E E') {t v:Nat} (e:(E'.get t).bT=some v):(E.get t).bT=some v:=by
 rcases h.get t with e'|e'
 ·rw[<-e'];exact e
 ·rw[e']at e;cases e
theorem jO.bT {W:cx->Prop} {o:Oper} {E E':Env} {s s':St} (hF:jO W pr ms o E s E' s') {t v:Nat} (e:(E'.get t).bT=some v):(E.get t).bT=some v\/(E.aX<=v/\o.dst=some t):=by
 cases he:E'.get t with
 |loc v' n cs=>
  rw[he]at e;simp only[df.bT,cQ]at e;subst e;exact(hF.rV t _ n cs he).imp (fun⟨c,h⟩=>by rw[h];rfl) id
 |it v' s p=>
  rw[he]at e;simp only[df.bT,cQ]at e;subst e;exact(hF.tz t _ s p he).imp (fun⟨c,h⟩=>by rw[h];rfl) id
 |_=>rw[he]at e;cases e
theorem Su.bT (S:Su C pr ms ops l is m A B ss) {t v j:Nat} : ∀(d:Nat),j+d<=m->v<(B j).aX->((B (j+d)).get t).bT=some v->((B j).get t).bT=some v
 |0,_,_,e=>e
 |d+1,hk,hv,e=>by
  obtain⟨p,hp⟩:=S.wS (k:=j+d) (by omega);have hd:v<(B (j+d)).aX:=S.nh (h:= .inr v) d (by omega) hv;rcases(S.F (by omega) hp).bT (Ztx (S.w _ hk) e)with h|h
  ·exact S.bT d (by omega) hv h
  ·omega
theorem Su.UP (S:Su C pr ms ops l is m A B ss) {t v j k:Nat} (wo:j<=k) (hk:k<=m) (hv:v<(B j).aX) (e:((B k).get t).bT=some v):((B j).get t).bT=some v:=
 S.bT (j:=j) (k-j) (by omega) hv (by rwa [show j+(k-j)=k by omega])
end
theorem Zwz (k k':jv):uc k k'=uc k' k:=by
 cases k<;>cases k'<;>simp only[uc]<;>(rw[mN];simp only[Nat.beq_eq];exact eq_comm)
theorem Ztk {k k':jv} (h:OU k k'=false):uc k k'=false:=by
 cases k<;>cases k'<;>first|exact h|cases h
theorem Ztg {k k':jv} {x x':Nat} {E E':Env} (c:uc k k'=false) (h2:k= .call->yD k'=true->2<=x) (hv: ∀r q v,(E.get r).bT=some v->(E'.get q).bT=some v->r=q)
  (hb: ∀bs b,k= .ap bs->k'= .lp b->b∈bs->∀j p,E.get b= .v (.ptr (some (j,p)))->E'.get b= .v (.ptr (some (j,p)))):
  ∀h,j9 (.d k x) E h->¬lY (.d k' x') E' h:=by
 intro h hw hd;cases k<;>cases k'<;>first
  |exact hw.elim
  |exact hd.elim
  |(simp[uc]at c;done)
  |(have h3:=h2 rfl rfl;have h4:=hw.1;omega)
  |(obtain⟨i,rfl⟩:=hw;obtain⟨v,e,_⟩:=hd;cases e;done)
  |(obtain⟨_,i,rfl⟩:=hw;obtain⟨v,e,_⟩:=hd;cases e;done)
  |(obtain⟨v,rfl,_⟩:=hw;obtain⟨i,e⟩:=hd;cases e;done)
  |(obtain⟨v,rfl,_⟩:=hw;obtain⟨i,p,_,e⟩:=hd;cases e;done)
  |(obtain⟨i,rfl,_⟩:=hw;obtain⟨v,e,_⟩:=hd;cases e;done)
  |(obtain⟨v,rfl,e1⟩:=hw
    obtain⟨v',e,e2⟩:=hd;cases e;have:=hv _ _ _ e1 e2;subst this;simp[uc]at c)
  |(rename_i bs b
    obtain⟨i,rfl,hw⟩:=hw;obtain⟨i',p',e1,e2⟩:=hd;cases e2;have fN:b∈bs:=by
     have:has bs b=true:=by simpa [uc]using c
     exact(Cj _ _).1 this
    obtain⟨j,p,e3,e4⟩:=hw b fN;have:=hb bs b rfl rfl fN j p e3;rw[e1]at this;cases this;exact e4 rfl)
theorem Zyp {P:Program} {pr:List Nat} {ops:List Oper} {o:Oper} (h:oS o):cls P pr ops o= .hp\/cls P pr ops o= .call\/cls P pr ops o= .ap []:=by
 unfold oS at h;cases ho:o.op<;>rw[ho]at h<;>simp only at h
 case call q=>
  split at h
  ·rename_i hq
   cases hp:has pr 1000000 with
   |true=>exact .inr (.inr (by simp[cls,ho,hq,hp]))
   |false=>exact .inr (.inl (by simp[cls,ho,hq,hp]))
  ·rename_i hq;exact .inr (.inr (by simp[cls,ho,hq]))
  ·exact h.elim
 all_goals exact .inl (by simp[cls,ho])
theorem Zwb {P:Program} {pr:List Nat} {ops:List Oper} {o:Oper} (h:oS o) (k m:Nat):qN pr ops k m (cls P pr ops o)= .hp\/qN pr ops k m (cls P pr ops o)= .call\/∃bs,qN pr ops k m (cls P pr ops o)= .ap bs:=by
 rcases Zyp (P:=P) (pr:=pr) (ops:=ops) h with e|e|e<;>rw[e]
 ·exact .inl rfl
 ·exact .inr (.inl rfl)
 ·exact .inr (.inr ⟨_,rfl⟩)
theorem ZvS {k:jv} {x:Nat} {E:Env} (h:k= .hp\/k= .call\/∃bs,k= .ap bs) (i:Nat):lY (.d k x) E (.inl i):=by
 rcases h with rfl|rfl|⟨bs,rfl⟩<;>exact⟨i,rfl⟩
theorem Zy9 {pr:List Nat} {ops:List Oper} {k m b:Nat} {c:jv} (h:qN pr ops k m c= .lp b):c= .lp b:=by
 cases c<;>first|exact h|cases h
theorem ZxJ {pr:List Nat} {ops:List Oper} {k m b:Nat} {c:jv} (h:qN pr ops k m c= .lS b):c= .lS b:=by
 cases c<;>first|exact h|cases h
theorem Zyx {pr:List Nat} {ops:List Oper} {k m:Nat} {c:jv} {bs:List Nat} (h:qN pr ops k m c= .ap bs):bs=(Cy m 0 (ops.take k)).filter fun b=>DP b (ops.take k)&&(mK pr ops 12 b).isNone:=by
 cases c<;>cases h
 rfl
theorem ZAt {P:Program} {pr:List Nat} {ops:List Oper} {o:Oper} {b:Nat} (h:cls P pr ops o= .lp b):tl b o=true:=by
 unfold tl;cases ho:o.op with
 |load t a=>
  cases a with
  |tmp a=>
   cases hr:mK pr ops 12 a with
   |none=>simp[cls,ho,hr]at h;simp[h]
   |some q=>simp[cls,ho,hr]at h
  |_=>simp[cls,ho]at h
 |store t a y=>
  cases a with
  |tmp a=>cases hr:mK pr ops 12 a<;>simp[cls,ho,hr]at h
  |_=>simp[cls,ho]at h
 |next it b=>cases it<;>simp[cls,ho]at h
 |slice t y lo hi mx=>
  simp only[cls,ho]at h;split at h<;>simp at h
 |call q=>
  cases hp:has pr 1000000<;>simp only[cls,ho,hp,cond_true,cond_false]at h<;>split at h<;>simp at h
 |_=>simp[cls,ho]at h
theorem Zrh {b:Nat} : ∀ {L:List Oper},DP b L=true->∀(i j:Nat) (o o':Oper),L[i]? =some o->tl b o=true->i<=j->L[j]? =some o'->o'.dst≠some b
 |[],_,i,j,o,o',h,_,_,_=>by simp at h
 |x::r,h,i,j,o,o',hi,hl,pC,hj=>by
  unfold DP at h;cases hx:tl b x with
  |true=>
   rw[hx]at h;simp only[cond_true]at h;have:=gm.1 h o' (kK hj);intro e;rw[e]at this;simp at this
  |false=>
   rw[hx]at h;simp only[cond_false]at h;cases i with
   |zero=>
    simp only[gJ,cQ]at hi;subst hi;rw[hx]at hl;cases hl
   |succ i=>
    obtain⟨j,rfl⟩: ∃j',j=j'+1:=⟨j-1,by omega⟩;exact Zrh h i j o o' (by simpa using hi) hl (by omega) (by simpa using hj)
section
variable {C:aM} {pr ms:List Nat} {ops:Array Oper} {l:List (Oper×Md)} {is:List eS} {m:Nat} {A B:Nat->Env} {ss:Nat->St}
abbrev zl (A B:Nat->Env) (ss:Nat->St) (i:Nat) (h:cx):Prop:=sh (B i) (ss i) (A (i+1)) (ss (i+1)) h
structure EC (pr ms:List Nat) (ops:Array Oper) (l:List (Oper×Md)) (A B:Nat->Env) (ss:Nat->St) (i k:Nat) (p p':Oper×Md):Prop where
 d1: ∀t,p.1.dst=some t->(nG pr ops.toList p'.1).testBit t=false
 d2: ∀t,p'.1.dst=some t->(nG pr ops.toList p.1).testBit t=false
 d3: ∀t,p.1.dst=some t->p'.1.dst≠some t
 w1: ∀h,j9 p.2 (B i) h->¬lY p'.2 (B k) h
 w2: ∀h,j9 p'.2 (B k) h->¬lY p.2 (B i) h
 n1: ∀h,zl A B ss i h->¬j9 p'.2 (B k) h
 n2: ∀h,zl A B ss k h->¬j9 p.2 (B i) h
theorem Su.SP (S:Su C pr ms ops l is m A B ss) {i k:Nat} (ye:i<k) (hk:k<m) {p p':Oper×Md} (hp:l[i]? =some p) (db:l[k]? =some p') (hn: ¬vN is i k):EC pr ms ops l A B ss i k p p':=by
 obtain⟨q,x,T⟩:=S.get hp;obtain⟨q',x',T'⟩:=S.get db;have sR:KC q q':=by
  obtain⟨_,_,h⟩:=HW S.ok i q T.iq;rcases h k q' ye T'.iq with h|h
  ·rw[dy]at h;exact absurd ⟨q',T'.iq,h⟩ hn
  ·exact h
 obtain⟨ct,e1,e2,e3⟩:=sR;have c:=Ztk ct;rw[T.dst,T'.lk]at e1;rw[T'.dst,T.lk]at e2;rw[T.dst,T'.dst]at e3;have hv: ∀r t v,((B i).get r).bT=some v->((B k).get t).bT=some v->r=t:=fun r t v h1 h2=>
  (S.qi i (by omega)).uniq r t v h1 (S.UP (by omega) (by omega) ((S.qi i (by omega)).lt r v h1) h2)
 have w1: ∀h,j9 p.2 (B i) h->¬lY p'.2 (B k) h:=by
  rw[T.md,T'.md];refine Ztg c (fun h1 h2=>?_) hv (fun bs b h1 h2=>by rw[h1,h2]at ct;cases ct);rcases T.two h1 k q' T'.iq (by omega) h2 with h|h|h
  ·exact absurd ⟨q',T'.iq,h⟩ hn
  ·have:=T.lt k h;omega
  ·exact h
 have w2: ∀h,j9 p'.2 (B k) h->¬lY p.2 (B i) h:=by
  rw[T.md,T'.md];refine Ztg (by rw[Zwz];exact c) (fun h1 h2=>?_) (fun r t v h1 h2=>(hv t r v h2 h1).symm) (fun bs b h1 h2 fN j pp hg=>?_);rotate_left
  ·have wa:=Zyx (T'.kc.symm.trans h1)
   rw[wa,xc]at fN;have pD:tl b p.1=true:=ZAt (Zy9 (T.kc.symm.trans h2));have dr:ops.toList[i]? =some p.1:=by rw[gA];exact T.op
   refine S.val (j:=i) (k-i) (by omega) (fun i' Bg g1 g2 g3=>?_) (by rw[show i+(k-i)=k by omega];exact hg);obtain⟨q'',x'',T''⟩:=S.get g3;have Wp:ops.toList[i']? =some Bg.1:=by rw[gA];exact T''.op
   exact Zrh (Bool.and_eq_true_iff.1 fN.2).1 i i' p.1 Bg.1 (by rw[mR,aF (by omega)];exact dr) pD g1 (by rw[mR,aF (by omega)];exact Wp)
  rcases T'.two h1 i q T.iq (by omega) h2 with h|h|h
  ·have:=T.lt k h;omega
  ·exact absurd ⟨q',T'.iq,h⟩ hn
  ·exact h
 have d1: ∀t,p.1.dst=some t->(nG pr ops.toList p'.1).testBit t=false:=fun t h=>by rw[h]at e1;exact e1
 refine⟨d1,fun t h=>by rw[h]at e2;exact e2,fun t h h'=>?_,w1,w2,fun h fC hw=>?_,fun h fC hw=>?_⟩
 ·rw[h,h']at e3
  simp only[Pv,tG]at e3;cases e3
 ·cases h with
  |inl y=>
   have hF:=S.F (by omega) hp;rcases hF.grow with hg|hg
   ·have h1:=fC.1;have h2:=fC.2
    simp only[cN]at h1 h2;omega
   ·refine w2 _ hw ?_
    rw[T.md,T.kc];exact ZvS (Zwb hg _ _) y
  |inr v=>
   rw[T'.md]at hw;cases hq:q'.k<;>rw[hq]at hw<;>first|exact hw.elim|skip
   ·obtain⟨y,e⟩:=hw;cases e
   ·obtain⟨_,y,e⟩:=hw;cases e
   ·rename_i r
    obtain⟨v',e,cM⟩:=hw;cases e;have aj:v<(B (i+1)).aX:=by rw[(S.w (i+1) (by omega)).aX];exact fC.2
    have h1:=Ztx (S.w (i+1) (by omega)) (S.UP (by omega) (by omega) aj cM);rcases(S.F (by omega) hp).bT h1 with h2|⟨_,h2⟩
    ·exact fC.1 ((S.qi i (by omega)).lt r v h2)
    ·have h3:=d1 r h2
     have h4:=Zxt (P:=C.P) (pr:=pr) (ops:=ops.toList) (o:=p'.1) (r:=r) (.inr (ZxJ (T'.kc.symm.trans hq)));rw[h3]at h4;cases h4
   ·obtain⟨y,e,_⟩:=hw;cases e
 ·cases h with
  |inl y=>
   have hF:=S.F hk db;rcases hF.grow with hg|hg
   ·have h1:=fC.1;have h2:=fC.2
    simp only[cN]at h1 h2;omega
   ·refine w1 _ hw ?_
    rw[T'.md,T'.kc];exact ZvS (Zwb hg _ _) y
  |inr v=>
   rw[T.md]at hw;cases hq:q.k<;>rw[hq]at hw<;>first|exact hw.elim|skip
   ·obtain⟨y,e⟩:=hw;cases e
   ·obtain⟨_,y,e⟩:=hw;cases e
   ·rename_i r
    obtain⟨v',e,cM⟩:=hw;cases e;have:cN (B i) (ss i) (.inr v):=(S.qi i (by omega)).lt r v cM;exact fC.1 (S.qf (by omega) (by omega) this)
   ·obtain⟨y,e,_⟩:=hw;cases e
theorem Zpx {ops:Array Oper} {o:Oper} {E:Env} {ψ:Ps} {a:Act} (R: ∀j w r,o.guard=some (j,w)->kh ops j=some r->ef C ψ (E.get r) (a.tmps.getD r undef)) (h:GW (kh ops) E o):Region.wanted o (yielded ops a.tmps)=true:=by
 unfold Region.wanted;rcases h with h|⟨j,w,r,h1,h2,h3⟩
 ·rw[h]
 ·have hr:=R j w r h1 h2
  rw[h1];rw[Ie]at h2;rw[h3]at hr;have:a.tmps.getD r undef= .bool w:=by generalize a.tmps.getD r undef=x at hr;cases hr;rfl
  simp[yielded,h2,Ij a r w this]
theorem Zux {ops:Array Oper} {o:Oper} {E:Env} {ψ:Ps} {a:Act} (R: ∀j w r,o.guard=some (j,w)->kh ops j=some r->ef C ψ (E.get r) (a.tmps.getD r undef)) (h:GU (kh ops) E o):Region.wanted o (yielded ops a.tmps)=false:=by
 unfold Region.wanted;obtain⟨j,w,r,h1,h2,h3⟩:=h;have hr:=R j w r h1 h2;rw[h1];rw[Ie]at h2;rcases h3 with⟨b,h3,hb⟩|h3
 ·rw[h3]at hr
  have:a.tmps.getD r undef= .bool b:=by generalize a.tmps.getD r undef=x at hr;cases hr;rfl
  simp[yielded,h2,Ij a r b this,hb]
 ·rw[h3]at hr
  have hr:a.tmps.getD r undef=undef:=hr;have:a.tmps[r]? =none\/a.tmps[r]? =some undef:=by
   rw[lT]at hr;cases e:a.tmps[r]? with
   |none=>exact .inl rfl
   |some v=>rw[e]at hr;simp only[sg]at hr;rw[hr];exact .inr rfl
  have hy:yielded ops a.tmps j=none:=by
   unfold yielded;rw[h2];rcases this with e|e<;>simp[e,undef]
  simp[hy]
theorem Zw6 {QQ:Exit->Act->World->Prop} {p:Oper×Md} {E E':Env} {s s':St} (st:Step C (kh ops) pr ms p E s E' s') {ψ:Ps} {Q:Kn} {a:Act} {w:World} (pre:aw C p.1 (lY p.2 E) E s ψ Q a w) (room:EG E s E' s' ψ)
  (hg: ∀j w r,p.1.guard=some (j,w)->kh ops j=some r->ef C ψ (E.get r) (a.tmps.getD r undef)) {i:Nat} (hi:ops[i]? =some p.1) {K:Act->World->Prop}
  (h: ∀ψ' Q' v w',EE C (lY p.2 E) (j9 p.2 E) E s E' s' ψ Q w ψ' Q' w'->(∀d,p.1.dst=some d->ef C ψ' (E'.get d) v)->K (a.put p.1.dst v) w'):wpOp C.P ops QQ i K a w:=by
 unfold wpOp;simp only[hi];cases st with
 |act g hF hO=>
  rw[aF (Zpx hg g)];exact .inl (hO ψ Q a w K QQ pre room h)
 |skip g=>
  rw[ay (by rw[Zux hg g];simp)];refine h ψ Q undef w ⟨pre.dA,.refl _ _ _,fun h cb e=> .inl e,fun h ab cb c hw e=>?_,fun h ab cb e q _ _=>q⟩ fun d hd=>?_
  ·rcases hw with hw|⟨n1,n2⟩
   ·exact pre.gT h ab cb (Iy _ _ _ hw) (c.dJ rfl) e
   ·exact absurd (by cases h<;>simpa [cN]using n2) n1
  ·rw[Env.iE,aF hd];rfl
structure Inv (C:aM) (f:Fr) (l:List (Oper×Md)) (is:List eS) (m:Nat) (A B:Nat->Env) (ss:Nat->St) (ψi:Ps) (L:Nat->Prop) (a:Act) (w:World) (ψ:Ps) (Q:Kn):Prop where
 dA:dP C ψ Q w
 eV:nW ψ w
 iR:Glob C ψ
 gW: ∀t j,j<=m->(∀i p,i<j->l[i]? =some p->¬L i->p.1.dst≠some t)->(∀i p,j<=i->l[i]? =some p->L i->p.1.dst≠some t)->ef C ψ ((B j).get t) (a.tmps.getD t undef)
 gT: ∀h j ab cb,j<=m->(∀i,i<j->¬L i->¬Wr l B i h)->(∀i,j<=i->L i->¬Wr l B i h)->CR (B j) (ss j) h ab->ψ h=some cb->Q h ab
 free: ∀i h,i<m->¬L i->zl A B ss i h->ψ h=none
 news: ∀h cb,ψ h=some cb->ψi h=some cb\/(¬cN (B 0) (ss 0) h/\cN (B m) (ss m) h)
 ext:Ext f.fS (CS f.s0) f.w0 ψ Q w
 kG:Ks f a
 defs:a.defers=f.Pu
 sub: ∀i,L i->i<m
 down: ∀i k,L k->vN is i k->L i
theorem ZAu {E:Env} (hE:gL E) {s:St} {h:cx} {ab bJ:AB} (c:CR E s h ab) (c':CR E s h bJ):ab=bJ:=by
 cases h with
 |inl i=>
  have h1:cj s i=some ab:=c;have h2:cj s i=some bJ:=c';rw[h1]at h2;exact vi h2
 |inr v=>
  rcases c with⟨t,n,cs,e,rfl⟩|⟨t,l,p,e,rfl⟩<;>rcases c' with⟨t',n',cs',e',rfl⟩|⟨t',l',p',e',rfl⟩<;>
   (have:=hE.uniq t t' v (by rw[e];rfl) (by rw[e'];rfl);subst this;rw[e]at e';cases e';try rfl)
theorem Su.born (S:Su C pr ms ops l is m A B ss) {h:cx} {j:Nat} : ∀(d:Nat),j+d<=m->¬cN (B j) (ss j) h->cN (B (j+d)) (ss (j+d)) h->∃k,j<=k/\k<j+d/\zl A B ss k h
 |0,_,hn,hd=>absurd hd hn
 |d+1,hk,hn,hd=>by
  have jh:cN (A (j+d+1)) (ss (j+d+1)) h:=(xA (S.w _ hk) h).1 hd;by_cases e:cN (B (j+d)) (ss (j+d)) h
  ·obtain⟨k,h1,h2,h3⟩:=S.born d (by omega) hn e
   exact⟨k,h1,by omega,h3⟩
  ·exact⟨j+d,by omega,by omega,e,jh⟩
theorem ZAz {E:Env} {s:St} {t v:Nat} (h:(E.get t).bT=some v): ∃ab,CR E s (.inr v) ab:=by
 cases he:E.get t with
 |loc v' n cs=>
  rw[he]at h;simp only[df.bT,cQ]at h;subst h;exact⟨_,.inl ⟨t,n,cs,he,rfl⟩⟩
 |it v' x p=>
  rw[he]at h;simp only[df.bT,cQ]at h;subst h;exact⟨_,.inr ⟨t,x,p,he,rfl⟩⟩
 |_=>rw[he]at h;cases h
variable {f:Fr} {ψi:Ps} {L:Nat->Prop} {a:Act} {w:World} {ψ:Ps} {Q:Kn}
theorem Inv.pre (S:Su C pr ms ops l is m A B ss) (I:Inv C f l is m A B ss ψi L a w ψ Q) {i:Nat} {p:Oper×Md} (hi:i<=m) (_hp:l[i]? =some p) (hL: ¬L i) (Yb: ∀j,vN is j i->L j)
  (fL: ∀k p',k<i->l[k]? =some p'->¬L k->(∀t,p'.1.dst=some t->(nG pr ops.toList p.1).testBit t=false)/\∀h,j9 p'.2 (B k) h->¬lY p.2 (B i) h) (jC: ∀k p',i<k->l[k]? =some p'->L k->EC pr ms ops l A B ss i k p p'):
  aw C p.1 (lY p.2 (B i)) (B i) (ss i) ψ Q a w/\∀j w r,p.1.guard=some (j,w)->kh ops j=some r->ef C ψ ((B i).get r) (a.tmps.getD r undef):=by
 have gW: ∀t,(nG pr ops.toList p.1).testBit t=true->ef C ψ ((B i).get t) (a.tmps.getD t undef):=by
  intro t ht;refine I.gW t i hi (fun k p' hk db hl e=>?_) (fun k p' hk db hl e=>?_)
  ·have:=(fL k p' hk db hl).1 t e
   rw[ht]at this;cases this
  ·rcases Nat.eq_or_lt_of_le hk with h|h
   ·subst h;exact hL hl
   ·have:=(jC k p' h db hl).d2 t e
    rw[ht]at this;cases this
 refine⟨⟨I.dA,I.eV,I.iR,S.qi i hi,fun h ab cb hD c e=>I.gT h i ab cb hi (fun k hk hl=>?_) (fun k hk hl=>?_) c e,fun t ht=>gW t (Zrd ht)⟩,fun j w r hg hr=>gW r ?_⟩
 ·rintro⟨p',db,hw⟩
  exact(fL k p' hk db hl).2 h hw hD
 ·rintro⟨p',db,hw⟩
  rcases Nat.eq_or_lt_of_le hk with e|e
  ·subst e;exact hL hl
  ·exact(jC k p' e db hl).w2 h hw hD
 ·unfold kh at hr
  split at hr
  ·rename_i o ho;exact Zwo hg ho hr
  ·cases hr
theorem Inv.step (S:Su C pr ms ops l is m A B ss) (I:Inv C f l is m A B ss ψi L a w ψ Q) {i:Nat} {p:Oper×Md} (hi:i<m) (hp:l[i]? =some p) (hL: ¬L i) (tf: ∀j,vN is j i->L j)
  (hd: ∀x,p.1.dst=some x->f.ok x=true) {QQ:Exit->Act->World->Prop} {K:Act->World->Prop}
  (h: ∀a' w' ψ' Q',Inv C f l is m A B ss ψi (fun j=>L j\/j=i) a' w' ψ' Q'->K a' w'):wpOp C.P ops QQ i K a w:=by
 have fL: ∀k p',k<i->l[k]? =some p'->¬L k->EC pr ms ops l A B ss k i p' p:=fun k p' hk db hl=>S.SP hk hi db hp fun hb=>hl (tf k hb)
 have jC: ∀k p',i<k->l[k]? =some p'->L k->EC pr ms ops l A B ss i k p p':=fun k p' hk db hl=>S.SP hk (I.sub k hl) hp db fun hb=>hL (I.down i k hl hb)
 obtain⟨pre,hg⟩:=I.pre S (Nat.le_of_lt hi) hp hL tf (fun k p' hk db hl=>⟨(fL k p' hk db hl).d1,(fL k p' hk db hl).w1⟩) jC;obtain⟨q,x,T⟩:=S.get hp;refine Zw6 (S.st i p hi hp) pre (fun k hk=>I.free i k hi hL hk) hg T.op fun ψ' Q' v w' P he=>h _ _ ψ' Q' ?_
 have Tp: ∀k h,k<m->¬(L k\/k=i)->zl A B ss k h->ψ' h=none:=by
  intro k h hk hl fC;cases e:ψ' h with
  |none=>rfl
  |some cb=>
   rcases P.news h cb e with e|e
   ·rw[I.free k h hk (fun x=>hl (.inl x)) fC]at e;cases e
   ·rcases Nat.lt_trichotomy i k with ye|ye|ye
    ·exact absurd (S.qf (j:=i+1) (by omega) (by omega) ((xA (S.w (i+1) (by omega)) h).2 e.2)) fC.1
    ·exact absurd (.inr ye.symm) hl
    ·exact absurd (S.qf (j:=k+1) (by omega) (by omega) ((xA (S.w (k+1) (by omega)) h).2 fC.2)) e.1
 refine⟨P.dA,P.ext.eV I.eV,P.ext.iR I.iR,fun t j hj c1 c2=>?_,fun h j ab cb hj c1 c2 c e=>?_,Tp,fun h cb e=>?_,I.ext.trans P.ext,I.kG.put hd,by rw[Hy];exact I.defs,fun k hk=>?_,fun j k hk hb=>?_⟩
 ·rw[Cl fun x hx=>by rw[I.kG.1];exact f.DW x (hd x hx)]
  by_cases wc:p.1.dst=some t
  ·rw[aF wc]
   have pC:i<j:=by
    rcases eJ i j with h|h
    ·exact h
    ·exact absurd wc (c2 i p h hp (.inr rfl))
   have h1:ef C ψ' ((B (i+1)).get t) v:=by
    rcases(S.w (i+1) (by omega)).get t with e|e
    ·rw[e];exact he t wc
    ·rw[e];trivial
   have:=S.bD (j:=i+1) (ψ:=ψ') (x:=v) (t:=t) (j-(i+1)) (by omega) (fun k p' h1 h2 db=>?_) h1
   ·rwa [show i+1+(j-(i+1))=j by omega]at this
   ·by_cases hl:L k
    ·exact(jC k p' (by omega) db hl).d3 t wc
    ·exact c1 k p' (by omega) db (by rintro(h|h);exact hl h;omega)
  ·rw[ay wc]
   refine(I.gW t j hj (fun k p' hk db hl=>?_) (fun k p' hk db hl=>c2 k p' hk db (.inl hl))).mono P.ext.mono;by_cases e:k=i
   ·subst e;rw[hp]at db;cases db;exact wc
   ·exact c1 k p' hk db (by rintro(h|h);exact hl h;exact e h)
 ·by_cases hw:j9 p.2 (B i) h\/zl A B ss i h
  ·have pC:i<j:=by
    rcases eJ i j with h'|h'
    ·exact h'
    ·rcases hw with hw|hw
     ·exact absurd ⟨p,hp,hw⟩ (c2 i h' (.inr rfl))
     ·exact absurd (S.qf h' (by omega) (c.nh (S.qi j hj))) hw.1
   have eW: ∀k,i+1<=k->k<j->¬Wr l B k h:=by
    rintro k h1 h2 ⟨p',db,pI⟩;by_cases hl:L k
    ·rcases hw with hw|hw
     ·exact(jC k p' (by omega) db hl).w2 h pI (Iy _ _ _ hw)
     ·exact(jC k p' (by omega) db hl).n1 h hw pI
    ·exact c1 k (by omega) (by rintro(h|h);exact hl h;omega) ⟨p',db,pI⟩
   have VH:cN (B (i+1)) (ss (i+1)) h:=by
    rcases hw with hw|hw
    ·by_cases e0:cN (B (i+1)) (ss (i+1)) h
     ·exact e0
     ·obtain⟨k,k1,k2,k3⟩:=S.born (j:=i+1) (j-(i+1)) (by omega) e0 (by rw[show i+1+(j-(i+1))=j by omega];exact c.nh (S.qi j hj))
      obtain⟨p',db⟩:=S.wS (k:=k) (by omega);by_cases hl:L k
      ·exact absurd hw ((jC k p' (by omega) db hl).n2 h k3)
      ·have:=Tp k h (by omega) (by rintro(h|h);exact hl h;omega) k3
       rw[this]at e;cases e
    ·exact(xA (S.w (i+1) (by omega)) h).2 hw.2
   exact P.p1 h ab cb ((S.IQ (by omega) hj eW VH c).gj (S.w (i+1) (by omega))) hw e
  ·have e0:ψ h=some cb:=by
    rcases P.news h cb e with e|e
    ·exact e
    ·exact absurd (.inr e) hw
   have TO: ¬Wr l B i h:=by
    rintro⟨p',db,pI⟩;rw[hp]at db;cases db;exact hw (.inl pI)
   have hQ:=I.gT h j ab cb hj (fun k hk hl=>by
    by_cases e:k=i
    ·subst e;exact TO
    ·exact c1 k hk (by rintro(h|h);exact hl h;exact e h)) (fun k hk hl=>c2 k hk (.inl hl)) c e0
   refine P.p2 h ab cb e0 hQ (fun x=>hw (.inl x)) fun hD Vm=>?_
   rcases eJ j i with ij|ij
   ·have eW: ∀k,j<=k->k<i->¬Wr l B k h:=by
     rintro k h1 h2 ⟨p',db,pI⟩;by_cases hl:L k
     ·exact c2 k h1 (.inl hl) ⟨p',db,pI⟩
     ·exact(fL k p' h2 db hl).w1 h pI hD
    cases h with
    |inl y=>
     have c':cj (ss j) y=some ab:=c;have:=S.fix (x:=y) (j:=j) (i-j) (by omega) (fun k h1 h2=>eW k h1 (by omega)) (xG c');rw[show j+(i-j)=i by omega]at this;show cj (ss i) y=some ab;unfold cj at c'⊢;rw[this];exact c'
    |inr v=>
     have th: ∃r,((B i).get r).bT=some v:=by
      rw[T.md]at hD;cases hq:q.k<;>rw[hq]at hD<;>first|exact hD.elim|(obtain⟨y,e⟩:=hD;cases e;done)|(obtain⟨y,p',_,e⟩:=hD;cases e;done)|(obtain⟨v',e,hv⟩:=hD;cases e;exact⟨_,hv⟩)
     obtain⟨r,hr⟩:=th;obtain⟨bJ,c'⟩:=ZAz (s:=ss i) hr;have c2':=S.IQ (Nat.le_of_lt ij) (Nat.le_of_lt hi) eW (c.nh (S.qi j hj)) c';rw[ZAu (S.qi j hj) c c2'];exact c'
   ·refine S.IQ ij hj (fun k h1 h2=>?_) Vm c
    rintro⟨p',db,pI⟩;rcases Nat.eq_or_lt_of_le h1 with e|e
    ·subst e;exact TO ⟨p',db,pI⟩
    ·by_cases hl:L k
     ·exact(jC k p' e db hl).w2 h pI hD
     ·exact c1 k h2 (by rintro(h|h);exact hl h;omega) ⟨p',db,pI⟩
 ·rcases P.news h cb e with e|e
  ·exact I.news h cb e
  ·exact .inr ⟨fun x=>e.1 (S.qf (bH _) (by omega) x),S.qf (j:=i+1) (by omega) (aA _) ((xA (S.w (i+1) (by omega)) h).2 e.2)⟩
 ·rcases hk with hk|hk
  ·exact I.sub k hk
  ·omega
 ·rcases hk with hk|hk
  ·exact .inl (I.down j k hk hb)
  ·subst hk;exact .inl (tf j hb)
end
theorem On: ∀(l:List Bool) (i:Nat),l[i]? =some false->(l.set i true).count false+1=l.count false
 |[],i,h=>by simp at h
 |b::l,0,h=>by
  simp only[gJ,cQ]at h;subst h;simp
 |b::l,i+1,h=>by
  simp only[lU]at h;have:=On l i h;simp only[List.set_cons_succ,List.count_cons];omega
def j8 (listed:Array Bool) (i:Nat):Prop:=listed[i]? =some true
theorem ZAa {listed:Array Bool} {i:Nat} (hi:i<listed.size) (j:Nat):j8 (listed.setIfInBounds i true) j↔j8 listed j\/j=i:=by
 unfold j8;by_cases e:i=j
 ·subst e
  rw[yX hi];simp
 ·rw[wY e]
  constructor
  ·exact .inl
  ·rintro(h|h)
   ·exact h
   ·exact absurd h.symm e
theorem Oq {listed:Array Bool} {i:Nat} (hi:i<listed.size) (h: ¬j8 listed i):listed[i]? =some false:=by
 unfold j8 at h;rw[Er hi]at h⊢;cases hb:listed[i]with
 |false=>rfl
 |true=>rw[hb]at h;exact absurd rfl h
theorem Zrp {ops:Array Oper} {listed:Array Bool} {i:Nat} (h:i∈Region.ready .any ops listed):i<ops.size/\¬j8 listed i/\∀o,ops[i]? =some o->∀e∈o.after,Region.binds .any e=true->j8 listed e.on:=by
 unfold Region.ready at h;obtain⟨h1,h2⟩:=xc.1 h;rw[jd]at h1;simp only[aH,gZ]at h2;refine⟨h1,fun hl=>?_,fun o ho e he hb=>?_⟩
 ·unfold j8 at hl
  have:=h2.1;rw[lT,hl]at this;cases this
 ·have h3:=h2.2
  rw[ho]at h3;simp only[lD,sg]at h3;rw[Array.all_eq_true']at h3;have:=h3 e he;rw[hb]at this;simp only[bg,pQ]at this;unfold j8;rw[lT]at this;cases hx:listed[e.on]? with
  |none=>rw[hx]at this;cases this
  |some b=>rw[hx]at this;simp only[sg]at this;rw[this]
theorem ZxO {ops:Array Oper} {listed:Array Bool} {i:Nat} {o:Oper} (ho:ops[i]? =some o) (hl:listed[i]? =some false) (h: ∀e∈o.after,Region.binds .any e=true->j8 listed e.on):i∈Region.ready .any ops listed:=by
 unfold Region.ready;refine xc.2 ⟨jd.2 (qX ho),?_⟩;simp only[aH,gZ];refine⟨by rw[lT,hl];rfl,?_⟩;rw[ho];simp only[lD,sg];rw[Array.all_eq_true'];intro e he;cases hb:Region.binds .any e with
 |false=>rfl
 |true=>
  have:=h e he hb;unfold j8 at this;simp[lT,this]
section
variable {C:aM} {pr ms:List Nat} {ops:Array Oper} {l:List (Oper×Md)} {is:List eS} {m:Nat} {A B:Nat->Env} {ss:Nat->St}
variable {f:Fr} {ψi:Ps} {L:Nat->Prop} {a:Act} {w:World} {ψ:Ps} {Q:Kn}
theorem Su.UF (S:Su C pr ms ops l is m A B ss) {listed:Array Bool} (bC:listed.size=ops.size): ∀(n i:Nat),i<n->i<ops.size->¬j8 listed i->Region.ready .any ops listed≠[]
 |0,i,h,_,_=>absurd h (sc i)
 |n+1,i,hn,hi,hl=>by
  have hp:l[i]? =some (l[i]'(by rw[S.J4];exact hi)):=ba _;obtain⟨q,x,T⟩:=S.get hp;by_cases h: ∀e∈(l[i]'(by rw[S.J4];exact hi)).1.after,Region.binds .any e=true->j8 listed e.on
  ·intro e
   have:=ZxO T.op (Oq (by omega) hl) h;rw[e]at this;cases this
  ·simp only[Classical.not_forall]at h
   obtain⟨e,he,hb,hle⟩:=h;have:=T.lt _ (T.on e he hb);exact S.UF bC n e.on (by omega) (by omega) hle
theorem Inv.congr {L':Nat->Prop} (I:Inv C f l is m A B ss ψi L a w ψ Q) (h: ∀i,L i↔L' i):Inv C f l is m A B ss ψi L' a w ψ Q:=by
 have:L=L':=funext fun i=>propext (h i)
 rw[<-this];exact I
theorem Zup (S:Su C pr ms ops l is m A B ss) (hd: ∀p∈l,∀x,p.1.dst=some x->f.ok x=true) {QQ:Exit->Act->World->Prop}
  (qt:Nat->Prop) (bar:m<ops.size->(∀k,m<k->k<ops.size->vN is m k)/\∀i,i<m->vN is i m\/qt i)
  (fin:m=ops.size->∀a w ψ Q L,(∀i,i<m->L i)->Inv C f l is m A B ss ψi L a w ψ Q->QQ .normal a w)
  (cy:m<ops.size->∀K a w ψ Q L,(∀i,i<m->L i\/qt i)->Inv C f l is m A B ss ψi L a w ψ Q->wpOp C.P ops QQ m K a w):
  ∀(n:Nat) (listed:Array Bool) (a:Act) (w:World) (ψ:Ps) (Q:Kn),listed.size=ops.size->listed.toList.count false<=n->Inv C f l is m A B ss ψi (j8 listed) a w ψ Q->wpAny C.P .any ops QQ n listed a w:=by
 have all: ∀(listed:Array Bool) (a:Act) (w:World) (ψ:Ps) (Q:Kn),listed.size=ops.size->Region.ready .any ops listed=[]->Inv C f l is m A B ss ψi (j8 listed) a w ψ Q->QQ .normal a w:=by
  intro listed a w ψ Q bC hr I;have bW: ∀i,i<ops.size->j8 listed i:=fun i hi=>Classical.byContradiction fun hn=>S.UF bC (i+1) i (by omega) hi hn hr
  have hm:m=ops.size:=by
   rcases eJ m ops.size with h|h
   ·have:=I.sub m (bW m h);omega
   ·exact Nat.le_antisymm S.hm h
  exact fin hm a w ψ Q _ (fun i hi=>bW i (by omega)) I
 intro n;induction n with
 |zero=>
  intro listed a w ψ Q bC hc I;have hr:Region.ready .any ops listed=[]:=by
   cases hr:Region.ready .any ops listed with
   |nil=>rfl
   |cons i r=>
    obtain⟨h1,h2,_⟩:=Zrp (i:=i) (ops:=ops) (listed:=listed) (by rw[hr];exact nT);have:=On listed.toList i (by rw[gA];exact Oq (by omega) h2);omega
  exact⟨hr,all listed a w ψ Q bC hr I⟩
 |succ n ih=>
  intro listed a w ψ Q bC hc I;refine⟨fun hr=>all listed a w ψ Q bC hr I,fun i hi=>?_⟩;obtain⟨h1,h2,h3⟩:=Zrp hi;have hp:l[i]? =some (l[i]'(by rw[S.J4];exact h1)):=ba _;obtain⟨q,x,T⟩:=S.get hp;have tf: ∀j,vN is j i->j8 listed j:=by
   rintro j ⟨q',hq,hb⟩;rw[T.iq]at hq;cases hq;obtain⟨e,he,hbi,hj⟩:=T.Vg j hb;have hl:=h3 _ T.op e he hbi;rcases hj with rfl|hj
   ·exact hl
   ·exact I.down _ _ hl hj
  have C1:=On listed.toList i (by rw[gA];exact Oq (by omega) h2);rcases Nat.lt_trichotomy i m with Dc|Dc|Dc
  ·refine I.step S Dc hp h2 tf (hd _ (gC _)) fun a' w' ψ' Q' I'=>?_
   exact ih _ _ _ ψ' Q' (by simpa using bC) (by rw[Array.toList_setIfInBounds];omega) (I'.congr fun j=>(ZAa (by omega) j).symm)
  ·subst Dc
   exact cy h1 _ a w ψ Q _ (fun k hk=>((bar h1).2 k hk).imp (tf k) id) I
  ·have:=I.sub m (tf m ((bar (by omega)).1 i Dc h1))
   omega
theorem Rel.drew {E:Env} {s:St} (R:Rel C f ψ E s a w):Rel C f ψ E s a { w with drawn:=w.drawn+1 } where
 dA:=R.dA.more R.eV (fq.drew w)
 fe:=R.fe
 eV:=R.eV
 iR:=R.iR
 gW:=R.gW
 kG:=R.kG
 defs:=R.defs
 oL:=R.oL
 qO:=R.qO
 ext:=R.ext.trans (Ext.more (fq.drew w))
 news:=R.news
 len:=R.len
 fin:=R.fin
theorem Su.start (S:Su C pr ms ops l is m A B ss) (R:Rel C f ψ (A 0) (ss 0) a w) (hN:(ss m).length<=f.N):Inv C f l is m A B ss ψ (fun _=>False) a w ψ (CR (B 0) (ss 0)):=by
 have R0:=R.gj (S.w 0 (bH _));have SR: ∀h cb,ψ h=some cb->cN (B m) (ss m) h->cN (B 0) (ss 0) h:=by
  intro h cb e hd;cases h with
  |inl i=>
   rcases eJ i (ss 0).length with h|h
   ·exact h
   ·rw[R0.oL i h (j5 hd hN)]at e;cases e
  |inr v=>
   rcases eJ v (B 0).aX with h|h
   ·exact h
   ·rw[R0.qO v h]at e;cases e
 refine⟨R0.dA,R0.eV,R0.iR,fun t j hj c1 _=>?_,fun h j ab cb hj c1 _ c e=>?_,fun i h hi _ hn=>?_,fun h cb e=> .inl e,R0.ext,R0.kG,R0.defs,fun _ h=>h.elim,fun _ _ h=>h.elim⟩
 ·have:=S.bD (j:=0) (ψ:=ψ) (x:=a.tmps.getD t undef) (t:=t) j (by omega) (fun i p _ h hp=>c1 i p (by omega) hp (fun h=>h)) (R0.gW t)
  rwa [dy]at this
 ·exact S.IQ (bH _) hj (fun i _ hi=>c1 i hi (fun h=>h)) (SR h cb e (S.qf hj (aA _) (c.nh (S.qi j hj)))) c
 ·cases e:ψ h with
  |none=>rfl
  |some cb=>
   have h1:cN (B m) (ss m) h:=S.qf (j:=i+1) (by omega) (aA _) ((xA (S.w (i+1) (by omega)) h).2 hn.2);exact absurd (S.qf (bH _) (Nat.le_of_lt hi) (SR h cb e h1)) hn.1
theorem Inv.tail (S:Su C pr ms ops l is m A B ss) {w0:World} {a0:Act} (R:Rel C f ψi (A 0) (ss 0) a0 w0) (I:Inv C f l is m A B ss ψi L a w ψ Q):
  (∀i,(ss m).length<=i->i<f.N->ψ (.inl i)=none)/\(∀i cb,ψ (.inl i)=some cb->f.fS (.inl i)=some cb\/(f.s0.length<=i/\i<(ss m).length))/\f.s0.length<=(ss m).length:=by
 have hlen:(ss 0).length<=(ss m).length:=by
  rcases xd (ss 0).length with h|h
  ·omega
  ·have:=S.qf (h:= .inl ((ss 0).length-1)) (bH m) (aA m) (by simp only[cN];omega)
   simp only[cN]at this;omega
 refine⟨fun i h1 h2=>?_,fun i cb e=>?_,eZ R.len hlen⟩
 ·cases e:ψ (.inl i)with
  |none=>rfl
  |some cb=>
   rcases I.news _ cb e with e|⟨_,e⟩
   ·rw[R.oL i (by omega) h2]at e;cases e
   ·simp only[cN]at e;omega
 ·rcases I.news _ cb e with e|⟨h1,h2⟩
  ·rcases R.news i cb e with h|⟨h1,h2⟩
   ·exact .inl h
   ·exact .inr ⟨h1,by omega⟩
  ·simp only[cN]at h1 h2
   exact .inr ⟨by have:=R.len;omega,h2⟩
theorem Inv.done (S:Su C pr ms ops l is m A B ss) {w0:World} {a0:Act} (R:Rel C f ψi (A 0) (ss 0) a0 w0) (I:Inv C f l is m A B ss ψi L a w ψ Q) (hL: ∀i,i<m->L i):Rel C f ψ (B m) (ss m) a w:=by
 have Yu:(B 0).aX=(A 0).aX:=(S.w 0 (bH _)).aX;have hlen:(ss 0).length<=(ss m).length:=by
  rcases xd (ss 0).length with h|h
  ·omega
  ·have:=S.qf (h:= .inl ((ss 0).length-1)) (bH m) (aA m) (by simp only[cN];omega)
   simp only[cN]at this;omega
 have gT: ∀h ab cb,ψ h=some cb->CR (B m) (ss m) h ab->Q h ab:=fun h ab cb e c=>I.gT h m ab cb (aA _) (fun i hi hl=>absurd (hL i hi) hl) (fun i hi hl=>by have:=I.sub i hl;omega) c e
 refine⟨I.dA.weaken gT,S.qi m (aA _),I.eV,I.iR,fun t=>I.gW t m (aA _) (fun i p hi _ hl=>absurd (hL i hi) hl) (fun i p hi _ hl=>by have:=I.sub i hl;omega),I.kG,I.defs,fun i h1 h2=>?_,fun v hv=>?_,I.ext.weaken gT,fun i cb e=>?_,eZ R.len hlen,R.fin⟩
 ·cases e:ψ (.inl i)with
  |none=>rfl
  |some cb=>
   rcases I.news _ cb e with e|⟨_,e⟩
   ·rw[R.oL i (by omega) h2]at e;cases e
   ·simp only[cN]at e;omega
 ·cases e:ψ (.inr v)with
  |none=>rfl
  |some cb=>
   rcases I.news _ cb e with e|⟨_,e⟩
   ·refine absurd e ?_
    have:v<(B m).aX\/(A 0).aX<=v:= .inr (by
     rcases eJ v (A 0).aX with h|h
     ·have:=S.qf (h:= .inr v) (bH m) (aA m) (by simp only[cN];omega)
      simp only[cN]at this;omega
     ·exact h)
    rw[R.qO v (by omega)];simp
   ·simp only[cN]at e;omega
 ·rcases I.news _ cb e with e|⟨h1,h2⟩
  ·rcases R.news i cb e with h|⟨h1,h2⟩
   ·exact .inl h
   ·exact .inr ⟨h1,by omega⟩
  ·simp only[cN]at h1 h2
   exact .inr ⟨by have:=R.len;omega,h2⟩
end
section
variable {C:aM} {f:Fr} {ψ:Ps} {E E2:Env} {s s2:St} {a:Act} {w:World} {pr ms:List Nat}
theorem kM.fn {dst:Nat->Option Nat} {l:List (Oper×Md)} (h:kM C dst pr ms l E s s2):
  ∃(m:Nat) (p:Oper×Md) (A B:Nat->Env) (ss:Nat->St),l[m]? =some p/\A 0=E/\ss 0=s/\GW dst (B m) p.1/\p.2.x=0/\si C p.1 (lY p.2 (B m)) (B m) (ss m) s2/\(∀k,k<=m->jP (A k) (B k))/\
   ∀k p,k<m->l[k]? =some p->Step C dst pr ms p (B k) (ss k) (A (k+1)) (ss (k+1)):=by
 induction h with
 | @gj l E E1 s s2 k _ ih=>
  obtain⟨m,p,A,B,ss,h1,h2,h3,h4,h5,h6,h7,h8⟩:=ih;refine⟨m,p,fun i=>if i=0 then E else A i,B,ss,h1,rfl,h3,h4,h5,h6,fun i hi=>?_,fun i q hi hq=>by simpa using h8 i q hi hq⟩;have:=h7 i hi;by_cases e:i=0
  ·subst e
   simp only[iA];rw[h2]at this;exact k.trans this
  ·simp only[e,iO];exact this
 | @here p l E s s' g hx hp=>
  exact⟨0,p,fun _=>E,fun _=>E,fun _=>s,rfl,rfl,rfl,g,hx,hp,fun _ _=> .refl E,fun k _ hk=>by omega⟩
 | @next p l E s E1 s1 s2 st _ ih=>
  obtain⟨m,p',A,B,ss,h1,h2,h3,h4,h5,h6,h7,h8⟩:=ih;refine⟨m+1,p',fun i=>match i with|0=>E|i+1=>A i,fun i=>match i with|0=>E|i+1=>B i,fun i=>match i with|0=>s|i+1=>ss i,by simpa using h1,rfl,rfl,h4,h5,h6,fun i hi=>?_,fun i q hi hq=>?_⟩
  ·cases i with
   |zero=>exact .refl E
   |succ i=>exact h7 i (by omega)
  ·cases i with
   |zero=>
    simp only[gJ,cQ]at hq;subst hq;simp only[h2,h3];exact st
   |succ i=>exact h8 i q (by omega) (by simpa using hq)
theorem ZtQ (n:Nat) (i:Nat): ¬j8 (Array.replicate n false) i:=by
 unfold j8;rw[Array.getElem?_replicate];split<;>simp
theorem ZAr {ops:Array Oper} {QQ:Exit->Act->World->Prop} {l:List (Oper×Md)} {is:List eS} (uA:is=nH C.P pr ops.toList ops.toList []) (hl:l=flags C.mp is 0 is ops.toList) (dN:yH 0 is ops.toList=true)
  (t:Tr C (kh ops) pr ms l E s E2 s2) (R:Rel C f ψ E s a w) (hN:s2.length<=f.N) (hd: ∀p∈l,∀x,p.1.dst=some x->f.ok x=true)
  (h: ∀ψ' a' w',Rel C f ψ' E2 s2 a' w'->QQ .normal a' w'):wpAny C.P .any ops QQ ops.size (Array.replicate ops.size false) a w:=by
 have hlen:l.length=ops.size:=by rw[hl,GN _ _ _ _ (by rw[uA,Hf])];simp
 obtain⟨A,B,ss,h1,h2,h3,h4,h5⟩:=t.fn;have S:Su C pr ms ops l is ops.size A (fun k=>if k=ops.size then E2 else B k) ss:=by
  refine⟨uA,hl,dN,aA _,fun k hk=>?_,fun k p hk hp=>?_,by rw[h1];exact R.fe⟩
  ·by_cases e:k=ops.size
   ·simp only[e,iA];rw[<-hlen];exact h4
   ·simp only[e,iO]
    exact(h5 k _ (ba (by omega))).1
  ·simp only[show ¬k=ops.size by omega,iO]
   exact(h5 k p hp).2
 rw[<-h1,<-h2]at R;refine Zup (f:=f) S hd (fun _=>False) (fun h=>absurd h (Nat.lt_irrefl _)) (fun _ a' w' ψ' Q' L hL I=>?_) (fun h=>absurd h (Nat.lt_irrefl _)) _ _ _ _ _ _ (by simp) (by rw[Array.toList_replicate,List.count_replicate_self];exact aA _)
  ((S.start R (by rw[<-hlen,h3];exact hN)).congr fun i=>⟨False.elim,ZtQ _ i⟩)
 have:=I.done S R hL;simp only[iA]at this;rw[<-hlen,h3]at this;exact h _ _ _ this
theorem ZzX {ops:Array Oper} {QQ:Exit->Act->World->Prop} {l:List (Oper×Md)} {is:List eS} (uA:is=nH C.P pr ops.toList ops.toList []) (hl:l=flags C.mp is 0 is ops.toList) (dN:yH 0 is ops.toList=true)
  (t:kM C (kh ops) pr ms l E s s2) (R:Rel C f ψ E s a w) (hN:s2.length<=f.N) (hd: ∀p∈l,∀x,p.1.dst=some x->f.ok x=true)
  (h: ∀ch a' w',lF ch->nZ C f s2 a' w'->QQ (.panic ch) a' w'):wpAny C.P .any ops QQ ops.size (Array.replicate ops.size false) a w:=by
 have hlen:l.length=ops.size:=by rw[hl,GN _ _ _ _ (by rw[uA,Hf])];simp
 obtain⟨m,p,A,B,ss,hp,h1,h2,hg,hx,qE,hw,bE⟩:=t.fn;have hm:m<ops.size:=by
  rcases eJ m l.length with h|h
  ·omega
  ·rw[dL h]at hp;cases hp
 have S:Su C pr ms ops l is m A B ss:=⟨uA,hl,dN,by omega,hw,bE,by rw[h1];exact R.fe⟩;have hmN:(ss m).length<=f.N:=eZ qE.1 hN;rw[<-h1,<-h2]at R;obtain⟨q,x,T⟩:=S.get hp;have uL:x=0:=by rw[T.md]at hx;exact hx
 have hz:=T.zero uL;refine Zup (f:=f) (ψi:=ψ) S hd (fun i=>∀q',is[i]? =some q'->xN q'.k=true/\q.bf.testBit i=false/\q'.bf.testBit m=false) (fun _=>⟨fun k h1 h2=>?_,fun i hi=>?_⟩) (fun e=>by omega) (fun _ K a' w' ψ' Q' L hL I=>?_) _ _ _ _ _ _ (by simp) (by rw[Array.toList_replicate,List.count_replicate_self];exact aA _)
  ((S.start R hmN).congr fun i=>⟨False.elim,ZtQ _ i⟩)
 ·have hq:is[k]? =some (is[k]'(by rw[S.isLen];exact h2)):=ba _
  rcases hz k _ hq (by omega)with h|h|h
  ·exact⟨_,hq,h⟩
  ·have:=T.lt k h;omega
  ·omega
 ·have hq:is[i]? =some (is[i]'(by rw[S.isLen];omega)):=ba _
  have late:(is[i]'(by rw[S.isLen];omega)).bf.testBit m=false:=by
   cases h:(is[i]'(by rw[S.isLen];omega)).bf.testBit m with
   |false=>rfl
   |true=>
    have hpi:l[i]? =some (l[i]'(by omega)):=ba _;obtain⟨q',x',T'⟩:=S.get hpi;have e:=T'.iq;rw[hq]at e;cases e;have:=T'.lt m h;omega
  cases hb:q.bf.testBit i with
  |true=>exact .inl ⟨q,T.iq,hb⟩
  |false=>
   rcases hz i _ hq (by omega)with h|h|⟨_,h⟩
   ·rw[late]at h;cases h
   ·rw[hb]at h;cases h
   ·refine .inr fun q' e=>?_
    rw[hq]at e;cases e;exact⟨h,rfl,late⟩
 ·have hLm: ¬L m:=fun h=>by have:=I.sub m h;omega
  obtain⟨pre,qB⟩:=I.pre S (aA m) hp hLm (fun j hb=>by
   obtain⟨q',e,hb⟩:=hb;rw[T.iq]at e;cases e;rcases hL j (T.lt j hb)with h|h
   ·exact h
   ·have hq:is[j]? =some (is[j]'(by rw[S.isLen];have:=T.lt j hb;omega)):=ba _
    rw[(h _ hq).2.1]at hb;cases hb) (fun k p' hk db hl=>by
   obtain⟨q',x',T'⟩:=S.get db;rcases hL k hk with h|h
   ·exact absurd h hl
   ·obtain⟨h1,h2,_⟩:=h q' T'.iq
    refine⟨fun t ht=>?_,fun y hw=>?_⟩
    ·obtain⟨_,_,ha⟩:=HW S.ok k q' T'.iq
     rcases ha m q hk T.iq with ha|ha
     ·rw[dy,h2]at ha;cases ha
     ·obtain⟨_,e1,_,_⟩:=ha
      rw[T'.dst,T.lk,ht]at e1;exact e1
    ·rw[T'.md]at hw
     generalize q'.k=z at h1 hw;cases z<;>first|exact hw.elim|cases h1) (fun k p' hk _ hl=>by have:=I.sub k hl;omega)
  obtain⟨UY,UX,X7⟩:=I.tail S R;unfold wpOp;simp only[T.op];rw[aF (Zpx qB hg)];refine .inl (qE.2 ψ' Q' a' w' K QQ pre (fun k hk=>?_) fun Bo zm ch pP g0 g1 g2 g3 g4=>h ch a' pP g0 ⟨I.defs,I.kG,_,Go.Gv.ub (s':=s2) R.fin g1 (I.ext.trans g2) g4 fun i cb e=>?_⟩)
  ·cases k with
   |inl i=>
    have h1:=hk.1;have h2:=hk.2
    simp only[cN]at h1 h2;exact UY i (by omega) (by omega)
   |inr v=>
    have h1:=hk.1;have h2:=hk.2
    exact absurd h2 h1
  ·rcases g3 _ cb e with e|⟨n1,n2⟩
   ·rcases UX i cb e with h|⟨h1,h2⟩
    ·exact .inl h
    ·exact .inr ⟨h1,j5 h2 qE.1⟩
   ·simp only[cN]at n1 n2
    exact .inr ⟨by omega,n2⟩
end
end Go.Gv
namespace Go.Gv
variable {β:Type}
section
variable {C:aM} {f:Fr} {ψ:Ps} {E E2:Env} {s s2:St} {a:Act} {w:World} {pr:List Nat}
theorem zZ: ∀ {l:List Oper} {n:Nat->Bool},okO n l=true->∀o∈l,∀x,o.dst=some x->n x=true
 |[],_,_,o,ho,_,_=>by cases ho
 |y::r,n,h,o,ho,x,hx=>by
  simp only[okO,aH]at h;cases ho with
  |head=>
   have h1:=h.1;rw[hx]at h1;exact h1
  |tail _ ho=>exact zZ h.2 o ho x hx
theorem ZwB (pr:List Nat) (ops:List Oper) (y:Oper) (r:List Oper) (x:Nat) (h:has (match y.dst with|some d=>d::tm pr ops r|none=>tm pr ops r) x=true):has (tm pr ops (y::r)) x=true:=by
 rw[tm];split
 ·split
  ·simp only[has,jt];exact .inr h
  ·exact h
 ·simp only[has,jt];exact .inr h
 ·exact h
theorem Zya {pr:List Nat} {ops:List Oper} {o:Oper} {x:Nat} (hx:o.dst=some x): ∀(l:List Oper),o∈l->has (tm pr ops l) x=true:=by
 intro l;induction l with
 |nil=>intro ho;cases ho
 |cons y r ih=>
  intro ho;refine ZwB pr ops y r x ?_;cases ho with
  |head=>rw[hx];simp[has]
  |tail _ ho=>
   have:=ih ho;cases y.dst with
   |none=>exact this
   |some d=>simp[has,this]
theorem Zuz (hC:lE C) {c:Zg} (hc:ZA C c) {ops:Array Oper} {d:Bool} {K:Env->M β} {r:Out β×St} (h:Kf C pr c ops d E K s=some r):
  (∃E' s',s.length<=s'.length/\K E' s'=some r/\Mod (fun u=>has (jI pr (.region 0 ops d)) u=false) E E'/\
   ∀ {f:Fr} {ψ:Ps} {a:Act} {w:World} (QQ:Exit->Act->World->Prop) (id:Nat),Rel C f ψ E s a w->C.P.follows .mixedOrders=true->okO f.ok ops.toList=true->s'.length<=f.N->
    (∀ψ' a' w',Rel C f ψ' E' s' a' w'->QQ .normal a' w')->(Code.region id ops d).wp C.P QQ a w)\/
  (∃s',r=(.cy,s')/\s.length<=s'.length/\
   ∀ {f:Fr} {ψ:Ps} {a:Act} {w:World} (QQ:Exit->Act->World->Prop) (id:Nat),Rel C f ψ E s a w->C.P.follows .mixedOrders=true->okO f.ok ops.toList=true->s'.length<=f.N->
    (∀ch a' w',lF ch->nZ C f s' a' w'->QQ (.panic ch) a' w')->(Code.region id ops d).wp C.P QQ a w):=by
 have WR: ∀(l:List (Oper×Md)),(∀p∈l,p.1∈ops.toList)->∀u,has (jI pr (.region 0 ops d)) u=false->EI (tm pr ops.toList ops.toList) l u:=by
  intro l hl u hu;refine⟨fun p hp e=>?_,hu⟩;have:=Zya (pr:=pr) (ops:=ops.toList) e _ (hl p hp);simp only[jI]at hu;rw[hu]at this;cases this
 have wk: ∀ {l:List (Oper×Md)} {E':Env},(∀p∈l,p.1∈ops.toList)->Mod (EI (tm pr ops.toList ops.toList) l) E E'->Mod (fun u=>has (jI pr (.region 0 ops d)) u=false) E E':=
  fun hl m=>⟨fun u hu=>m.get u (WR _ hl u hu),m.aX,m.rV,m.tz⟩
 cases d with
 |false=>
  simp only[Kf,cond_false]at h;have hl: ∀p∈ops.toList.map (fun o=>(o,Md.s)),p.1∈ops.toList:=by
   intro p hp;obtain⟨o,ho,rfl⟩:=dE.1 hp;exact ho
  have hi: ∀k p,(ops.toList.map fun o=>(o,Md.s))[k]? =some p->ops[0+k]? =some p.1:=by
   intro k p hp;rw[gB]at hp;cases ho:ops.toList[k]? with
   |none=>rw[ho]at hp;cases hp
   |some o=>
    rw[ho]at hp;simp only[lD,cQ]at hp;subst hp;rw[dy,<-gA];exact ho
  have bC:(ops.toList.map fun o=>(o,Md.s)).length=ops.size:=by simp
  rcases Zrz (dst:=kh ops) hC hc (ops:=ops.toList) _ _ _ _ _ _ h (fun p hp=>by obtain⟨o,_,rfl⟩:=dE.1 hp;exact .inl rfl) (fun g hg=>by cases hg)with⟨E',s',t,hk,_,hm⟩|⟨s',e,t⟩
  ·refine .inl ⟨E',s',t.len,hk,wk hl hm,fun QQ id R _ ho hN hn=>wp_region ?_⟩
   have:=ZyN (QQ:=QQ) t R hN (fun p hp x hx=>zZ ho p.1 (hl p hp) x hx) hi hn;rw[bC]at this
   rwa [Ev]
  ·refine .inr ⟨s',e,t.len,fun QQ id R _ ho hN hn=>wp_region ?_⟩
   have:=Zxq (QQ:=QQ) t R hN (fun p hp x hx=>zZ ho p.1 (hl p hp) x hx) hi hn;rw[bC]at this
   rwa [Ev]
 |true=>
  simp only[Kf,cond_true]at h;obtain⟨dN,h⟩:=Zp h;have hl: ∀p∈flags C.mp (nH C.P pr ops.toList ops.toList []) 0 (nH C.P pr ops.toList ops.toList []) ops.toList,p.1∈ops.toList:=by
   intro p hp;obtain⟨k,hk⟩:=w9 hp;obtain⟨q,o,_,h2,rfl⟩:=Ib _ _ _ _ _ _ hk;exact kK h2
  rcases Zrz (dst:=kh ops) hC hc (ops:=ops.toList) _ _ _ _ _ _ h (fun p hp=>by
   obtain⟨k,hk⟩:=w9 hp;obtain⟨q,o,h1,h2,rfl⟩:=Ib _ _ _ _ _ _ hk;obtain⟨o',g1,_,g3,_,_⟩:=N4 _ _ _ _ _ _ _ h1;rw[h2]at g1;cases g1;exact .inr ⟨_,_,_,by rw[g3]⟩) (fun g hg=>by cases hg)with⟨E',s',t,hk,_,hm⟩|⟨s',e,t⟩
  ·exact .inl ⟨E',s',t.len,hk,wk hl hm,fun QQ id R hf ho hN hn=>wp_region_any hf (ZAr rfl rfl dN t R.drew hN (fun p hp x hx=>zZ ho p.1 (hl p hp) x hx) hn)⟩
  ·exact .inr ⟨s',e,t.len,fun QQ id R hf ho hN hn=>wp_region_any hf (ZzX rfl rfl dN t R.drew hN (fun p hp x hx=>zZ ho p.1 (hl p hp) x hx) hn)⟩
end
theorem dP.cast {C:aM} {ψ ψ':Ps} {Q Q':Kn} {w:World} (hS:dP C ψ Q w) (hc: ∀h cb ab,ψ' h=some cb->Q' h ab->ψ h=some cb/\∃bJ,Q h bJ/\(ab.fk=true->bJ.fk=true)/\(Holds C ψ w cb bJ->Holds C ψ' w cb ab)):dP C ψ' Q' w:=by
 constructor
 ·intro h cb ab e q
  obtain⟨e0,bJ,q0,_,hh⟩:=hc h cb ab e q;exact hh (hS.holds h cb bJ e0 q0)
 ·intro h cb ab h' eF bJ e q hs e' q' hn
  obtain⟨e0,x,q0,s0,_⟩:=hc h cb ab e q;obtain⟨e1,y,q1,_,_⟩:=hc h' eF bJ e' q';exact hS.ph h cb x h' eF y e0 q0 (s0 hs) e1 q1 hn
theorem Ext.cast {fS ψ ψ':Ps} {Q0 Q Q':Kn} {w0 w:World} (hE:Ext fS Q0 w0 ψ Q w) (hm: ∀h cb,fS h=some cb->ψ' h=some cb) (hp: ∀h cb,ψ' h=some cb->ψ h=some cb)
  (hc: ∀h cb ab,ψ' h=some cb->Q' h ab->∃bJ,Q h bJ/\(ab.fk=true->bJ.fk=true)):Ext fS Q0 w0 ψ' Q' w where
 mono:=hm
 oH:=fun h cb e=>hE.oH h cb (hp h cb e)
 size:=hE.size
 gx:=hE.gx
 fk:=fun b ⟨h,cb,ab,e,q,hs,hb⟩=>by
  obtain⟨bJ,q',gM⟩:=hc h cb ab e q;exact hE.fk b ⟨h,cb,bJ,hp h cb e,q',gM hs,hb⟩
 live:=fun h cb x e q=>by
  obtain⟨bJ,q',_⟩:=hc h cb x (hm h cb e) q;exact hE.live h cb bJ e q'
 tape:=hE.tape
 os:=hE.os
 output:=hE.output
def pd (ψ:Ps) (N:Nat):Ps
 | .inl i=>ψ (.inl i)
 | .inr v=>if v<N then ψ (.inr v)else none
theorem Nn {ψ:Ps} {N:Nat} {h:cx} {cb:CB} (e:pd ψ N h=some cb):ψ h=some cb:=by
 cases h with
 |inl i=>exact e
 |inr v=>simp only[pd]at e;split at e;exact e;cases e
structure KF (cs cs':List DV):Prop where
 len:cs'.length=cs.length
 rel: ∀(C:aM) ψ vs,aR C ψ cs vs->aR C ψ cs' vs
 one:cs.all one=true->cs'.all one=true
theorem Holds.Va {C:aM} {ψ:Ps} {w:World} {cb:CB} {f:Bool} {cs cs':List DV} (k:KF cs cs') (h:Holds C ψ w cb (.cells f cs)):Holds C ψ w cb (.cells f cs'):=by
 obtain⟨h1,h2,h3,h4⟩:=h;refine⟨by rw[k.len];exact h1,k.one h2,fun j d hd=>?_,h4⟩;have hv:aR C ψ cs ((List.range cs.length).map fun j=>(w.cell? ⟨cb.b,cb.o+j,none⟩).getD undef):=by
  refine aR.of _ _ (by simp) fun j d v g1 g2=>?_
  obtain⟨v',cM,hr⟩:=h3 j d g1;rw[gB]at g2;have hj:j<cs.length:=by
   rcases eJ j cs.length with h|h
   ·exact h
   ·rw[dL h]at g1;cases g1
  rw[nS hj]at g2;simp only[lD,cQ,cM,sg]at g2;rw[<-g2];exact hr
 obtain⟨v,cM,hr⟩:=(k.rel C ψ _ hv).get hd;rw[gB]at cM;have hj:j<cs.length:=by
  rcases eJ j cs.length with h|h
  ·exact h
  ·rw[dL (by rw[k.len];exact h)]at hd;cases hd
 rw[nS hj]at cM;simp only[lD,cQ]at cM;obtain⟨v',hc,_⟩:=h3 j cs[j] (ba hj);rw[hc]at cM;simp only[sg]at cM;exact⟨v,by rw[hc,cM],hr⟩
inductive Wj (e:df):df->Prop
 |u:Wj e .u
 |same:Wj e e
 |v (d d':DV):e= .v d->(∀(C:aM) ψ x,VR C ψ d x->VR C ψ d' x)->Wj e (.v d')
 |loc (v n:Nat) (cs cs':List DV):e= .loc v n cs->KF cs cs'->Wj e (.loc v n cs')
structure vr (E E':Env):Prop where
 aX:E'.aX<=E.aX
 get: ∀t,Wj (E.get t) (E'.get t)
 bT: ∀t v,(E'.get t).bT=some v->v<E'.aX
 pl: ∀t r v o,E'.get t= .pl r v o->v<E'.aX
theorem Wj.bT {e e':df} (h:Wj e e') {v:Nat} (hv:e'.bT=some v):e.bT=some v:=by
 cases h with
 |u=>cases hv
 |same=>exact hv
 |v d d' _ _=>cases hv
 |loc v' n cs cs' he _=>rw[he];exact hv
section
variable {C:aM} {f:Fr} {ψ:Ps} {E E':Env} {s:St} {a:Act} {w:World}
theorem CR.tA (k:vr E E') {h:cx} {ab:AB} (c:CR E' s h ab): ∃bJ,CR E s h bJ/\(ab.fk=true->bJ.fk=true)/\∀(C:aM) ψ w cb,Holds C ψ w cb bJ->Holds C ψ w cb ab:=by
 cases h with
 |inl i=>exact⟨ab,c,fun h=>h,fun _ _ _ _ h=>h⟩
 |inr v=>
  rcases c with⟨t,n,cs,e,rfl⟩|⟨t,l,p,e,rfl⟩
  ·have:=k.get t
   rw[e]at this;generalize he:E.get t=x at this;cases this with
   |same=>exact⟨_,.inl ⟨t,n,cs,he,rfl⟩,fun h=>h,fun _ _ _ _ h=>h⟩
   |loc _ _ jS _ h1 h2=>exact⟨_,.inl ⟨t,n,jS,he.trans h1,rfl⟩,fun h=>h,fun _ _ _ _ h=>h.Va h2⟩
  ·have:=k.get t
   rw[e]at this;generalize he:E.get t=x at this;cases this with
   |same=>exact⟨_,.inr ⟨t,l,p,he,rfl⟩,fun h=>h,fun _ _ _ _ h=>h⟩
theorem Holds.pd {N:Nat} {cb:CB} {ab:AB} (h:Holds C ψ w cb ab):Holds C (Go.Gv.pd ψ N) w cb ab:=h.same (ψ:=ψ) (ψ':=Go.Gv.pd ψ N) (fun _ _ e=>e) rfl
theorem gL.tA (h:gL E) (k:vr E E'):gL E':=by
 refine⟨k.bT,k.pl,fun t v n cs e=>?_,fun t t' v hv cM=>h.uniq t t' v ((k.get t).bT hv) ((k.get t').bT cM)⟩;have:=k.get t;rw[e]at this;generalize he:E.get t=x at this;cases this with
 |same=>exact h.len t v n cs he
 |loc _ _ jS _ h1 h2=>rw[h2.len];exact h.len t v n jS (he.trans h1)
theorem Rel.tA (R:Rel C f ψ E s a w) (k:vr E E'):Rel C f (pd ψ E'.aX) E' s a w where
 dA:=R.dA.cast fun h cb ab e c=>by
  obtain⟨bJ,c',hs,hh⟩:=c.tA k;exact⟨Nn e,bJ,c',hs,fun x=>(hh C ψ w cb x).pd⟩
 fe:=R.fe.tA k
 eV:=fun h cb e=>R.eV h cb (Nn e)
 iR:=fun g hg=>R.iR g hg
 gW:=fun t=>by
  have h:=R.gW t;have th:=k.bT t;have jX:=k.pl t;have gx: ∀v cb,v<E'.aX->ψ (.inr v)=some cb->pd ψ E'.aX (.inr v)=some cb:=fun v cb hv e=>by simp only[pd,aF hv];exact e
  have:=k.get t;generalize nx:E'.get t=x' at this th jX;generalize he:E.get t=x at this h;have same:ef C ψ x' (a.tmps.getD t Go.undef)->ef C (pd ψ E'.aX) x' (a.tmps.getD t Go.undef):=by
   intro h;cases x' with
   |u=>trivial
   |un=>exact h
   |v d=>exact VR.mono (ψ:=ψ) (ψ':=pd ψ E'.aX) (fun _ _ e=>e) h
   |mL ds=>obtain⟨vs,e,r⟩:=h;exact⟨vs,e,r.mono (ψ:=ψ) (ψ':=pd ψ E'.aX) fun _ _ e=>e⟩
   |loc v n cs=>obtain⟨cb,e,r⟩:=h;exact⟨cb,gx v cb (th v rfl) e,r⟩
   |pl q v n=>obtain⟨cb,e,r⟩:=h;exact⟨cb,gx v cb (jX q v n rfl) e,r⟩
   |it v l p=>obtain⟨cb,e,r⟩:=h;exact⟨cb,gx v cb (th v rfl) e,r⟩
  cases this with
  |u=>trivial
  |same=>exact same h
  |v d d' e hc=>subst e;exact same (hc C ψ _ h)
  |loc v n cs cs' e hc=>subst e;exact same h
 kG:=R.kG
 defs:=R.defs
 oL:=R.oL
 qO:=fun v hv=>by simp only[pd];rw[ay (by omega)]
 ext:=R.ext.cast (fun h cb e=>by
   cases h with
   |inl i=>exact R.ext.mono _ _ e
   |inr v=>rw[R.fin]at e;cases e) (fun h cb e=>Nn e) (fun h cb ab _ c=>by
   obtain⟨bJ,c',hs,_⟩:=c.tA k;exact⟨bJ,c',hs⟩)
 news:=fun i cb e=>R.news i cb e
 len:=R.len
 fin:=R.fin
inductive GJ (E0 E:Env):List (Nat×JS)->List DV->Prop
 |nil:GJ E0 E [] []
 |v (t:Nat) (x:Sh) (d:DV) (r:List (Nat×JS)) (ds:List DV):E.get t= .v d->GJ E0 E r ds->GJ E0 E ((t,.v x)::r) (d::ds)
 |l (t:Nat) (x:List B) (v n n0:Nat) (cs jS:List DV) (r:List (Nat×JS)) (ds:List DV):E.get t= .loc v n cs->E0.get t= .loc v n0 jS->GJ E0 E r ds->GJ E0 E ((t,.l x)::r) (.agg cs::ds)
 |t (t:Nat) (v:Nat) (l l0:List UInt8) (p p0:Nat) (r:List (Nat×JS)) (ds:List DV):E.get t= .it v l p->E0.get t= .it v l0 p0->GJ E0 E r ds->GJ E0 E ((t,.t)::r) (.nat p::ds)
theorem sy {E0 E:Env} : ∀ {J:List (Nat×JS)} {K:List DV->M β} {s:St} {r:Out β×St},om E0 E J K s=some r->∃ds,GJ E0 E J ds/\K ds s=some r
 |[],K,s,r,h=>⟨[],.nil,h⟩
 |(t,x)::J,K,s,r,h=>by
  simp only[om]at h;cases x with
  |v x=>
   cases e:E.get t with
   |v d=>
    rw[e]at h;obtain⟨ds,g,hk⟩:=sy h;exact⟨_,.v t x d J ds e g,hk⟩
   |_=>rw[e]at h;cases h
  |l x=>
   cases e:E.get t with
   |loc v n cs=>
    rw[e]at h;cases e0:E0.get t with
    |loc v0 n0 jS=>
     rw[e0]at h;simp only at h;obtain⟨hv,h2⟩:=Zp h;have:=bY hv;subst this;obtain⟨ds,g,hk⟩:=sy h2;exact⟨_,.l t x v0 n n0 cs jS J ds e e0 g,hk⟩
    |_=>rw[e0]at h;cases h
   |_=>rw[e]at h;cases h
  |t=>
   cases e:E.get t with
   |it v l p=>
    rw[e]at h;cases e0:E0.get t with
    |it v0 l0 p0=>
     rw[e0]at h;simp only at h;obtain⟨hv,h2⟩:=Zp h;have:=bY hv;subst this;obtain⟨ds,g,hk⟩:=sy h2;exact⟨_,.t t v0 l l0 p p0 J ds e e0 g,hk⟩
    |_=>rw[e0]at h;cases h
   |_=>rw[e]at h;cases h
inductive PJ (E:Env):List (Nat×JS)->List DV->Env->Env->Prop
 |nil (E1:Env):PJ E [] [] E1 E1
 |v (t:Nat) (x:Sh) (d d':DV) (r:List (Nat×JS)) (ds:List DV) (E1 E':Env):(∀(C:aM) ψ x,VR C ψ d x->VR C ψ d' x)->PJ E r ds (E1.put t (.v d')) E'->PJ E ((t,.v x)::r) (d::ds) E1 E'
 |l (t:Nat) (x:List B) (v n:Nat) (jS cs cs':List DV) (r:List (Nat×JS)) (ds:List DV) (E1 E':Env):E.get t= .loc v n jS->KF cs cs'->PJ E r ds (E1.put t (.loc v n cs')) E'->PJ E ((t,.l x)::r) (.agg cs::ds) E1 E'
 |t (t:Nat) (v:Nat) (l:List UInt8) (p0 p:Nat) (r:List (Nat×JS)) (ds:List DV) (E1 E':Env):E.get t= .it v l p0->PJ E r ds (E1.put t (.it v l p)) E'->PJ E ((t,.t)::r) (.nat p::ds) E1 E'
theorem xw {E:Env} : ∀ {J:List (Nat×JS)} {st:List DV} {E1:Env} {K:Env->M β} {s:St} {r:Out β×St},oE E J st E1 K s=some r->∃E',PJ E J st E1 E'/\K E' s=some r
 |[],st,E1,K,s,r,h=>by
  simp only[oE]at h;cases st with
  |nil=>exact⟨E1,.nil E1,h⟩
  |cons _ _=>cases h
 |(t,x)::J,st,E1,K,s,r,h=>by
  simp only[oE]at h;cases st with
  |nil=>cases h
  |cons d rest=>
   simp only[D.cons]at h;cases x with
   |v x=>
    obtain⟨d',h,hd,_⟩:=Ii h;obtain⟨E',g,hk⟩:=xw h;exact⟨E',.v t x d d' J rest E1 E' hd g,hk⟩
   |l x=>
    cases e:E.get t with
    |loc v n jS=>
     rw[e]at h;cases d with
     |agg cs=>
      obtain⟨cs',h,hl,hr,h1⟩:=BM h;obtain⟨E',g,hk⟩:=xw h;exact⟨E',.l t x v n jS cs cs' J rest E1 E' e ⟨hl,hr,h1⟩ g,hk⟩
     |_=>cases h
    |_=>rw[e]at h;cases h
   |t=>
    cases e:E.get t with
    |it v l p0=>
     rw[e]at h;cases d with
     |nat p=>
      obtain⟨E',g,hk⟩:=xw h;exact⟨E',.t t v l p0 p J rest E1 E' e g,hk⟩
     |_=>cases h
    |_=>rw[e]at h;cases h
theorem PJ.tA {E0 E2:Env} (h0:gL E0) (hv: ∀t v n cs,E2.get t= .loc v n cs->(∃jS,E0.get t= .loc v n jS)\/E0.aX<=v) (hi: ∀t v l p,E2.get t= .it v l p->(∃p0,E0.get t= .it v l p0)\/E0.aX<=v):
  ∀ {J:List (Nat×JS)} {ds:List DV} {E1 E':Env},GJ E0 E2 J ds->PJ E0 J ds E1 E'->E1.aX=E0.aX->E0.aX<=E2.aX->vr E2 E1->vr E2 E'/\E'.aX=E0.aX/\(∀fy u,wR fy J=true->has fy u=false->E'.get u=E1.get u):=by
 intro J;induction J with
 |nil=>
  intro ds E1 E' g p h1 _ k;cases g;cases p;exact⟨k,h1,fun _ _ _ _=>rfl⟩
 |cons x J ih=>
  intro ds E1 E' g p h1 hn k;obtain⟨t,x⟩:=x;have fin: ∀ {e:df} {ds:List DV},Wj (E2.get t) e->(∀v,e.bT=some v->v<E0.aX)->(∀r v o,e≠ .pl r v o)->GJ E0 E2 J ds->PJ E0 J ds (E1.put t e) E'->vr E2 E'/\E'.aX=E0.aX/\(∀fy u,wR fy ((t,x)::J)=true->has fy u=false->E'.get u=E1.get u):=by
   intro e ds hw th jX g p;obtain⟨r1,r2,r3⟩:=ih g p (by simpa using h1) hn ⟨by simp[h1,hn],fun u=>by
     rw[Env.oo];split
     ·rename_i e;subst e;exact hw
     ·exact k.get u,fun u v e=>by
     rw[Env.oo]at e;rw[Env.Us,h1];split at e
     ·exact th v e
     ·have:=k.bT u v e;omega,fun u r v o e=>by
     rw[Env.oo]at e;rw[Env.Us,h1];split at e
     ·exact absurd e (jX r v o)
     ·have:=k.pl u r v o e;omega⟩
   refine⟨r1,r2,fun fy u h1 h2=>?_⟩;simp only[wR,aH]at h1;rw[r3 fy u h1.2 h2,Env.oo,ay];intro e;subst e;rw[h1.1]at h2;cases h2
  cases p with
  |v _ sx d d' _ ds _ _ hc p=>
   cases g with
   |v _ _ _ _ _ e g=>exact fin (.v d d' e hc) (fun v h=>by cases h) (fun _ _ _ h=>by cases h) g p
  |l _ sx v n jS cs cs' _ ds _ _ he hc p=>
   cases g with
   |l _ _ v2 n2 n0 _ di _ _ e e0 g=>
    rw[he]at e0;cases e0;rcases hv t _ _ _ e with⟨c,e1⟩|e1
    ·rw[he]at e1;cases e1
     exact fin (.loc _ _ cs cs' e hc) (fun v h=>by cases h;exact h0.lt t _ (by rw[he];rfl)) (fun _ _ _ h=>by cases h) g p
    ·have:=h0.lt t _ (by rw[he];rfl);omega
  |t _ v l p0 q _ ds _ _ he p=>
   cases g with
   |t _ v2 l2 l0 _ p2 _ _ e e0 g=>
    rw[he]at e0;cases e0;rcases hi t _ _ _ e with⟨c,e1⟩|e1
    ·rw[he]at e1;cases e1
     exact fin (by rw[e];exact .same) (fun v h=>by cases h;exact h0.lt t _ (by rw[he];rfl)) (fun _ _ _ h=>by cases h) g p
    ·have:=h0.lt t _ (by rw[he];rfl);omega
abbrev Un (l:List Nat) (u:Nat):Prop:=has l u=false
theorem M3 {E0 E2 E':Env} {J:List (Nat×JS)} {ds:List DV} {fy:List Nat} (h0:gL E0) (hm:Mod (Un fy) E0 E2) (g:GJ E0 E2 J ds) (p:PJ E0 J ds (E0.del fy) E') (hj:wR fy J=true):
  vr E2 E'/\Mod (Un fy) E0 E':=by
 have k0:vr E2 (E0.del fy):=by
  refine⟨hm.aX,fun t=>?_,fun t v e=>?_,fun t r v o e=>?_⟩
  ·rw[tW]
   cases h:has fy t with
   |true=>exact .u
   |false=>rw[hm.get t h];exact .same
  ·rw[tW]at e
   split at e
   ·cases e
   ·exact h0.lt t v e
  ·rw[tW]at e
   split at e
   ·cases e
   ·exact h0.pl t r v o e
 obtain⟨r1,r2,r3⟩:=PJ.tA h0 hm.rV hm.tz g p rfl hm.aX k0;have und: ∀u,Un fy u->E'.get u=E0.get u:=fun u hu=>by
  have hu':has fy u=false:=hu;rw[r3 fy u hj hu,tW,hu'];rfl
 refine⟨r1,und,by omega,fun t v n cs e=>?_,fun t v l p e=>?_⟩
 ·have:=r1.get t
  rw[e]at this;generalize he:E2.get t=x at this;cases this with
  |same=>exact hm.rV t v n cs he
  |loc _ _ jS _ h1 _=>exact hm.rV t v n jS (he.trans h1)
 ·have:=r1.get t
  rw[e]at this;generalize he:E2.get t=x at this;cases this with
  |same=>exact hm.tz t v l p he
end
end Go.Gv
namespace Go.Gv
variable {β:Type}
def Lk (K:Env->M β) (r:Out β×St):Prop:=∀E s,K E s=some r->s.length<=r.2.length
theorem HK {E:Env} {fy:List Nat} {J:List (Nat×JS)} {K:Env->M β} {g:(Env->M β)->M β} {s:St} {r:Out β×St} (h:Ro E fy J K g s=some r):
  wR fy J=true/\g (fun E1=>om E E1 J fun st=>oE E J st (E.del fy) K) s=some r:=by
 obtain⟨h1,h⟩:=Zp h;rw[M.J2]at h;exact⟨h1,h⟩
theorem MZ {E0 E1:Env} {fy:List Nat} {J:List (Nat×JS)} {K:Env->M β} {s:St} {r:Out β×St} (h:om E0 E1 J (fun st=>oE E0 J st (E0.del fy) K) s=some r):
  ∃ds E',GJ E0 E1 J ds/\PJ E0 J ds (E0.del fy) E'/\K E' s=some r:=by
 obtain⟨ds,g,h⟩:=sy h;obtain⟨E',p,h⟩:=xw h;exact⟨ds,E',g,p,h⟩
theorem Lk.DO {E0:Env} {fy:List Nat} {J:List (Nat×JS)} {K:Env->M β} {r:Out β×St} (h:Lk K r):Lk (fun E1=>om E0 E1 J fun st=>oE E0 J st (E0.del fy) K) r:=by
 intro E1 s hs;obtain⟨_,E',_,_,hs⟩:=MZ hs;exact h E' s hs
theorem Lk.block {id:Nat} {K:Env->M β} {kx:Nat->Env->M β} {r:Out β×St} (h:Lk K r) (hx: ∀i,Lk (kx i) r): ∀i,Lk (fun E1=>bif Nat.beq i id then K E1 else kx i E1) r:=by
 intro i E s hs;cases hb:Nat.beq i id with
 |true=>simp only[hb]at hs;exact h E s hs
 |false=>simp only[hb]at hs;exact hx i E s hs
section
variable {C:aM} {pr:List Nat} {c:Zg} {n:Nat} {r:Out β×St}
theorem Cd (hC:lE C) (hc:ZA C c): ∀(code:Code) (A:mV) (kn:Env->M β) (kx:Nat->Env->M β) (kr:Env->M β),Lk kn r->(∀i,Lk (kx i) r)->Lk kr r->Lk (exec C pr c n code A kn kx kr) r:=by
 intro code;induction code with
 |skip=>intro A kn kx kr hn hx hr E s h;exact hn E s h
 |region id ops d=>
  intro A kn kx kr hn hx hr E s h;simp only[exec]at h;rcases Zuz hC hc h with⟨E',s',hl,hk,_,_⟩|⟨s',e,hl,_⟩
  ·exact eZ hl (hn E' s' hk)
  ·rw[e];exact hl
 |seq a b yz yA=>
  intro A kn kx kr hn hx hr E s h;simp only[exec]at h;exact yz A.a _ kx kr (fun E' s' h'=>yA A.b kn kx kr hn hx hr E' s' h') hx hr E s h
 |cond x a b yz yA=>
  intro A kn kx kr hn hx hr E s h;simp only[exec]at h;obtain⟨v,_,h⟩:=M7 h;have two: ∀ {A1 A2:mV} {kn:Env->M β},Lk kn r->(bif v then exec C pr c n a A1 kn kx kr E else exec C pr c n b A2 kn kx kr E) s=some r->s.length<=r.2.length:=by
   intro A1 A2 kn hn h;cases v with
   |true=>exact yz A1 kn kx kr hn hx hr E s h
   |false=>exact yA A2 kn kx kr hn hx hr E s h
  cases A with
  |j J A1 A2=>exact two (Lk.DO hn) (HK h).2
  |z=>exact two hn h
  |n A1 A2=>exact two hn h
 |block id body ih=>
  intro A kn kx kr hn hx hr E s h;simp only[exec]at h;cases A with
  |j J A1 A2=>exact ih A1 _ _ kr (Lk.DO hn) (Lk.block (Lk.DO hn) hx) hr E s (HK h).2
  |z=>exact ih _ _ _ kr hn (Lk.block hn hx) hr E s h
  |n A1 A2=>exact ih _ _ _ kr hn (Lk.block hn hx) hr E s h
 |loop body ih=>
  intro A kn kx kr hn hx hr E s h;simp only[exec]at h;cases A with
  |j J A1 A2=>
   obtain⟨hj,h⟩:=Zp h;obtain⟨st,_,h⟩:=sy h;have key: ∀(k:Nat) (st:List DV) (s:St),M.loop (fun rec st=>oE E J st (E.del (jI pr body)) fun E1=>exec C pr c n body A1 (fun E2=>om E E2 J rec) kx kr E1) k st s=some r->s.length<=r.2.length:=by
    intro k;induction k with
    |zero=>intro st s h;cases h
    |succ k Rl=>
     intro st s h;simp only[M.loop]at h;obtain⟨E',_,h⟩:=xw h;refine ih A1 _ kx kr (fun E2 s2 h2=>?_) hx hr E' s h;obtain⟨eN,_,h2⟩:=sy h2;exact Rl eN s2 h2
   exact key n st s h
  |z=>cases h
  |n A1 A2=>cases h
 |exit id=>intro A kn kx kr hn hx hr E s h;exact hx id E s h
 |ret=>intro A kn kx kr hn hx hr E s h;exact hr E s h
 |_=>intros;intro E s h;cases h
theorem Zpo (l l':List Nat) (u:Nat):has (l++l') u=(has l u||has l' u):=by
 induction l with
 |nil=>rfl
 |cons x l ih=>simp only[j3,has,ih,Bool.or_assoc]
theorem Un.left {l l':List Nat} {u:Nat} (h:Un (l++l') u):Un l u:=by
 have h':has (l++l') u=false:=h;rw[Zpo,kJ]at h';exact h'.1
theorem Un.right {l l':List Nat} {u:Nat} (h:Un (l++l') u):Un l' u:=by
 have h':has (l++l') u=false:=h;rw[Zpo,kJ]at h';exact h'.2
theorem Mod.un {un Ef:Nat->Prop} {E E':Env} (h:Mod un E E') (k: ∀u,Ef u->un u):Mod Ef E E':=⟨fun u hu=>h.get u (k u hu),h.aX,h.rV,h.tz⟩
variable {f:Fr}
theorem Rel.eval {ψ:Ps} {E:Env} {s:St} {a:Act} {w:World} (R:Rel C f ψ E s a w) (x:Operand):ef C ψ (E.src C x) (a.eval x):=by
 have p:aw C ⟨none,.move x,0, "", #[],none⟩ (fun _=>True) E s ψ (CR E s) a w:=R.pre;exact p.src (by simp[Op.operands])
theorem Ou (hC:lE C) (hc:ZA C c) (sW:C.P.follows .mixedOrders=true) (hN:r.2.length<=f.N): ∀(code:Code) (A:mV) (kn:Env->M β) (kx:Nat->Env->M β) (kr:Env->M β),tn f.ok code=true->Lk kn r->(∀i,Lk (kx i) r)->Lk kr r->
  ∀(E:Env) (s:St),exec C pr c n code A kn kx kr E s=some r->∀(ψ:Ps) (a:Act) (w:World) (QQ:Exit->Act->World->Prop),Rel C f ψ E s a w->
  (∀E' s' ψ' a' w',kn E' s'=some r->Rel C f ψ' E' s' a' w'->Mod (Un (jI pr code)) E E'->QQ .normal a' w')->
  (∀i E' s' ψ' a' w',kx i E' s'=some r->Rel C f ψ' E' s' a' w'->Mod (Un (jI pr code)) E E'->QQ (.exit i) a' w')->
  (∀E' s' ψ' a' w',kr E' s'=some r->Rel C f ψ' E' s' a' w'->QQ .ret a' w')->
  (∀ch a' w' s',r=(.cy,s')->lF ch->nZ C f s' a' w'->QQ (.panic ch) a' w')->code.wp C.P QQ a w:=by
 intro code;induction code with
 |skip=>intro A kn kx kr ho hn hx hr E s h ψ a w QQ R qn qx qr qp;exact wp_skip (qn E s ψ a w h R (.refl _ _))
 |region id ops d=>
  intro A kn kx kr ho hn hx hr E s h ψ a w QQ R qn qx qr qp;simp only[exec]at h;rcases Zuz hC hc h with⟨E',s',hl,hk,hm,hw⟩|⟨s',e,hl,hw⟩
  ·exact hw QQ id R sW ho (eZ (hn E' s' hk) hN) fun ψ' a' w' R'=>qn E' s' ψ' a' w' hk R' hm
  ·exact hw QQ id R sW ho (by rw[e]at hN;exact hN) fun ch a' w' hv hp=>qp ch a' w' s' e hv hp
 |seq a b yz yA=>
  intro A kn kx kr ho hn hx hr E s h ψ ac w QQ R qn qx qr qp;simp only[tn,aH]at ho;simp only[exec]at h;refine wp_seq (yz A.a _ kx kr ho.1 (Cd hC hc b A.b kn kx kr hn hx hr) hx hr E s h ψ ac w _ R ?_ ?_ ?_ ?_)
  ·intro E' s' ψ' a' w' h' R' m'
   refine yA A.b kn kx kr ho.2 hn hx hr E' s' h' ψ' a' w' QQ R' ?_ ?_ qr qp
   ·intro E2 s2 iz a2 w2 h2 R2 m2
    exact qn E2 s2 iz a2 w2 h2 R2 (m'.trans m2 (fun u hu=>Un.left hu) fun u hu=>Un.right hu)
   ·intro i E2 s2 iz a2 w2 h2 R2 m2
    exact qx i E2 s2 iz a2 w2 h2 R2 (m'.trans m2 (fun u hu=>Un.left hu) fun u hu=>Un.right hu)
  ·intro i E' s' ψ' a' w' h' R' m'
   exact qx i E' s' ψ' a' w' h' R' (m'.un fun u hu=>Un.left hu)
  ·exact qr
  ·exact qp
 |cond x a b yz yA=>
  intro A kn kx kr ho hn hx hr E s h ψ ac w QQ R qn qx qr qp;simp only[tn,aH]at ho;simp only[exec]at h;obtain⟨v,hv,h⟩:=M7 h;have he:ac.eval x= .bool v:=by
   have:=R.eval x;rw[hv]at this;generalize ac.eval x=y at this;cases this;rfl
  have two: ∀ {A1 A2:mV} {kn:Env->M β},Lk kn r->(bif v then exec C pr c n a A1 kn kx kr E else exec C pr c n b A2 kn kx kr E) s=some r->
    (∀E' s' ψ' a' w',kn E' s'=some r->Rel C f ψ' E' s' a' w'->Mod (Un (jI pr a++jI pr b)) E E'->QQ .normal a' w')->(if v then a else b).wp C.P QQ ac w:=by
   intro A1 A2 kn hn h qn;cases v with
   |true=>exact yz A1 kn kx kr ho.1 hn hx hr E s h ψ ac w QQ R (fun E' s' ψ' a' w' h' R' m'=>qn E' s' ψ' a' w' h' R' (m'.un fun u hu=>Un.left hu)) (fun i E' s' ψ' a' w' h' R' m'=>qx i E' s' ψ' a' w' h' R' (m'.un fun u hu=>Un.left hu)) qr qp
   |false=>exact yA A2 kn kx kr ho.2 hn hx hr E s h ψ ac w QQ R (fun E' s' ψ' a' w' h' R' m'=>qn E' s' ψ' a' w' h' R' (m'.un fun u hu=>Un.right hu)) (fun i E' s' ψ' a' w' h' R' m'=>qx i E' s' ψ' a' w' h' R' (m'.un fun u hu=>Un.right hu)) qr qp
  refine wp_cond he ?_;cases A with
  |j J A1 A2=>
   obtain⟨hj,h⟩:=HK h;refine two (Lk.DO hn) h fun E1 s1 fT a1 w1 h1 R1 m1=>?_
   obtain⟨ds,E',g,p,h1⟩:=MZ h1;obtain⟨k,m⟩:=M3 R.fe m1 g p hj;exact qn E' s1 _ a1 w1 h1 (R1.tA k) m
  |z=>exact two hn h qn
  |n A1 A2=>exact two hn h qn
 |block id body ih=>
  intro A kn kx kr ho hn hx hr E s h ψ ac w QQ R qn qx qr qp;simp only[exec]at h;have go: ∀ {A1:mV} {kn:Env->M β},Lk kn r->exec C pr c n body A1 kn (fun i E1=>bif Nat.beq i id then kn E1 else kx i E1) kr E s=some r->
    (∀E' s' ψ' a' w',kn E' s'=some r->Rel C f ψ' E' s' a' w'->Mod (Un (jI pr body)) E E'->QQ .normal a' w')->(Code.block id body).wp C.P QQ ac w:=by
   intro A1 kn hn h qn;refine wp_block (ih A1 kn _ kr ho hn (Lk.block hn hx) hr E s h ψ ac w _ R qn ?_ qr qp);intro i E' s' ψ' a' w' h' R' m';simp only[Exit.inBlock];cases hb:Nat.beq i id with
   |true=>
    rw[hb]at h';rw[aF (bY hb)];exact qn E' s' ψ' a' w' h' R' m'
   |false=>
    rw[hb]at h';rw[ay (zg hb)];exact qx i E' s' ψ' a' w' h' R' m'
  cases A with
  |j J A1 A2=>
   obtain⟨hj,h⟩:=HK h;refine go (Lk.DO hn) h fun E1 s1 fT a1 w1 h1 R1 m1=>?_
   obtain⟨ds,E',g,p,h1⟩:=MZ h1;obtain⟨k,m⟩:=M3 R.fe m1 g p hj;exact qn E' s1 _ a1 w1 h1 (R1.tA k) m
  |z=>exact go hn h qn
  |n A1 A2=>exact go hn h qn
 |loop body ih=>
  intro A kn kx kr ho hn hx hr E s h ψ ac w QQ R qn qx qr qp;simp only[exec]at h;cases A with
  |j J A1 A2=>
   obtain⟨hj,h⟩:=Zp h;obtain⟨st,g0,h⟩:=sy h;have lk: ∀(k:Nat) (st:List DV) (s:St),M.loop (fun rec st=>oE E J st (E.del (jI pr body)) fun E1=>exec C pr c n body A1 (fun E2=>om E E2 J rec) kx kr E1) k st s=some r->s.length<=r.2.length:=by
    intro k;induction k with
    |zero=>intro st s h;cases h
    |succ k Rl=>
     intro st s h;simp only[M.loop]at h;obtain⟨E',_,h⟩:=xw h;refine Cd hC hc body A1 _ kx kr (fun E2 s2 h2=>?_) hx hr E' s h;obtain⟨eN,_,h2⟩:=sy h2;exact Rl eN s2 h2
   refine wp_loop_ghost (fun k a' w'=>∃E2 s2 iz ds,GJ E E2 J ds/\Mod (Un (jI pr body)) E E2/\Rel C f iz E2 s2 a' w'/\
    M.loop (fun rec st=>oE E J st (E.del (jI pr body)) fun E1=>exec C pr c n body A1 (fun E2=>om E E2 J rec) kx kr E1) k ds s2=some r) n ⟨E,s,ψ,st,g0,.refl _ _,R,h⟩ ?_
   rintro k a' w' ⟨E2,s2,iz,ds,g,m,R2,h2⟩;cases k with
   |zero=>cases h2
   |succ k=>
    simp only[M.loop]at h2;obtain⟨E',p,h2⟩:=xw h2;obtain⟨kw,m'⟩:=M3 R.fe m g p hj;refine ih A1 _ kx kr ho (fun E2 s2 h2=>?_) hx hr E' s2 h2 _ a' w' _ (R2.tA kw) ?_ ?_ qr qp
    ·obtain⟨eN,_,h2⟩:=sy h2
     exact lk k eN s2 h2
    ·intro E3 s3 En a3 w3 h3 R3 m3
     obtain⟨ds3,g3,h3⟩:=sy h3;exact⟨k,Nat.lt_succ_self k,E3,s3,En,ds3,g3,m'.trans m3 (fun u hu=>hu) (fun u hu=>hu),R3,h3⟩
    ·intro i E3 s3 En a3 w3 h3 R3 m3
     exact qx i E3 s3 En a3 w3 h3 R3 (m'.trans m3 (fun u hu=>hu) (fun u hu=>hu))
  |z=>cases h
  |n A1 A2=>cases h
 |exit id=>intro A kn kx kr ho hn hx hr E s h ψ a w QQ R qn qx qr qp;exact wp_exit (qx id E s ψ a w h R (.refl _ _))
 |ret=>intro A kn kx kr ho hn hx hr E s h ψ a w QQ R qn qx qr qp;exact wp_ret (qr E s ψ a w h R)
 |_=>intro A kn kx kr ho hn hx hr E s h;cases h
end
end Go.Gv
namespace Go.Gv
variable {β:Type}
theorem HT: ∀(k:Nat) (ds:List DV) (t:Nat),look (hZ k ds) t=if k<=t then(match ds[t-k]? with|some d=> .v d|none=> .u)else .u
 |k,[],t=>by simp[hZ,look]
 |k,d::ds,t=>by
  rw[hZ,B5,HT (k+1) ds t];by_cases h:k=t
  ·subst h;simp
  ·rw[ay h]
   by_cases h2:k<=t
   ·rw[aF h2,aF (by omega),show t-k=(t-(k+1))+1 by omega,lU]
   ·rw[ay h2,ay (by omega)]
section
variable {C:aM} {f:Fr} {ψ:Ps} {E:Env} {s:St} {a:Act} {w:World} {r:Out β×St}
def IE (tmps:Array Value):ResultVar->Sem Value
 | .tmp t=>pure (tmps.getD t undef)
 | .cell a t=>do loadVar t (<-asAddr (tmps.getD a undef))
theorem Cb {P:Program} {g:ResultVar->Sem Value} {x:ResultVar} {l:List ResultVar} {v:Value} {vs:List Value} {w:World} (h1:(g x).run P w= .ok v w) (h2:(l.mapM g).run P w= .ok vs w):((x::l).mapM g).run P w= .ok (v::vs) w:=by
 rw[List.mapM_cons];simp only[Sem.run_bind,h1,Result.andThen_ok,h2,Sem.run_pure]
theorem Im (R:Rel C f ψ E s a w): ∀ {l:List ResultVar} {K:List DV->M β} ,qL C E l K s=some r->∃ds vs,K ds s=some r/\aR C ψ ds vs/\(l.mapM (IE a.tmps)).run C.P w= .ok vs w
 |[],K,h=>⟨[],[],h,.nil,by simp⟩
 | .tmp t::l,K,h=>by
  simp only[qL]at h;obtain⟨d,hd,h⟩:=Zr h;obtain⟨ds,vs,hk,hr,cD⟩:=Im R h;have hv:=R.eval (.tmp t);rw[hd]at hv;exact⟨_,_,hk,.cons _ _ _ _ hv hr,Cb rfl cD⟩
 | .cell x t::l,K,h=>by
  simp only[qL]at h;cases hx:E.get x with
  |loc v n cs=>
   rw[hx]at h;simp only at h;obtain⟨td,ht,h⟩:=mb h;have TY:=R.gW x;rw[hx]at TY;obtain⟨cb,e1,e2,e3⟩:=TY;have hh:=R.dA.holds (.inr v) cb _ e1 (.inl ⟨x,n,cs,hx,rfl⟩);have hlen:=R.fe.len x v n cs hx;cases gQ:ZI C.P t with
   |true=>
    rw[gQ]at h;simp only[cond_true]at h;obtain⟨hn,h⟩:=Zp h;have hn:=bY hn;obtain⟨ds,vs,hk,hr,cD⟩:=Im R h;obtain⟨vc,hv,_,iI,h1⟩:=G9 (P:=C.P) hh (p:=0) (n:=C.P.cellsOf t) (by omega);rw[e2,dy]at hv;rw[dw,cF (by omega)]at iI h1;refine⟨_,_,hk,.cons _ _ _ _ (.agg cs vc iI h1) hr,Cb ?_ cD⟩;have:=FF ht gQ ⟨cb.b,0,none⟩ w hv;show(do loadVar t (<-asAddr (a.tmps.getD x undef)):Sem Value).run C.P w=_;rw[e3];simp only[asAddr,Sem.run_bind,Sem.run_pure,Result.andThen_ok];exact this
   |false=>
    rw[gQ]at h;simp only[cond_false]at h;obtain⟨d,hd,h⟩:=Il h;obtain⟨ds,vs,hk,hr,cD⟩:=Im R h;obtain⟨y,hv,iI,_⟩:=HO (P:=C.P) hh hd;rw[e2,dy]at hv;refine⟨_,_,hk,.cons _ _ _ _ iI hr,Cb ?_ cD⟩;have:=BG ht gQ ⟨cb.b,0,none⟩ w hv;show(do loadVar t (<-asAddr (a.tmps.getD x undef)):Sem Value).run C.P w=_;rw[e3];simp only[asAddr,Sem.run_bind,Sem.run_pure,Result.andThen_ok];exact this
  |_=>rw[hx]at h;cases h
theorem Zni {fn:Func} {tmps:Array Value} {P:Program} {w:World} {vs:List Value} (h:(fn.results.toList.mapM (IE tmps)).run P w= .ok vs w):
  (results fn tmps).run P w= .ok (if h:vs.length=1 then vs[0]else .tuple vs.toArray) w:=by
 have e:results fn tmps=(fn.results.mapM (IE tmps)>>= fun vs=>pure (if h:vs.size=1 then vs[0]else .tuple vs)):=by
  unfold results;congr 1
 rw[e,Array.mapM_eq_mapM_toList];simp[h]
theorem ZyA (b:Nat) (s:St) (i:Nat):cj (ZV b s) i=if i<b then cj s i else(cj s i).map fun ab=>match ab with| .cells _ cs=> .cells true cs|x=>x:=by
 unfold cj ZV;by_cases h:i<b
 ·rw[aF h]
  by_cases h2:i<s.length
  ·rw[iN (by simp;omega),mR,aF h]
  ·rw[gN (by simp;omega),dL (by simp;omega),dL (by omega)]
 ·rw[ay h]
  by_cases h3:b<=s.length
  ·rw[gN (by simp;omega),gB,nR]
   rw[cn,jK h3,show b+(i-b)=i by omega];cases hs:s[i]? with
   |none=>rfl
   |some x=>cases x<;>rfl
  ·rw[gN (by simp;omega),dL (by simp;omega),dL (by omega)];rfl
theorem ZoF (b:Nat) (s:St):(ZV b s).length=s.length:=by
 unfold ZV;simp;omega
theorem gP.jA {fS:Ps} {s0:St} {w0:World} {ψ':Ps} (b:Nat) (h:gP C fS s0 w0 ψ' s w):gP C fS s0 w0 ψ' (ZV b s) w:=by
 have key: ∀h ab,CS (ZV b s) h ab->∃bJ,CS s h bJ/\(ab.fk=true->bJ.fk=true)/\∀(C:aM) ψ w cb,Holds C ψ w cb bJ->Holds C ψ w cb ab:=by
  rintro h ab ⟨i,rfl,e⟩;rw[ZyA]at e;split at e
  ·exact⟨ab,⟨i,rfl,e⟩,fun h=>h,fun _ _ _ _ h=>h⟩
  ·cases hs:cj s i with
   |none=>rw[hs]at e;cases e
   |some x=>
    rw[hs]at e;cases x with
    |cells fz cs=>
     simp only[lD,cQ]at e;subst e;exact⟨_,⟨i,rfl,hs⟩,(fun h=>by cases h),fun C ψ w cb h=>⟨h.1,h.2.1,h.2.2.1,(fun h=>by cases h)⟩⟩
    |iter l p=>
     simp only[lD,cQ]at e;subst e;exact⟨_,⟨i,rfl,hs⟩,fun h=>h,fun _ _ _ _ h=>h⟩
 refine⟨h.dA.cast fun k cb ab e q=>?_,h.ext.cast h.ext.mono (fun _ _ e=>e) fun k cb ab _ q=>?_,fun k cb e=>?_⟩
 ·obtain⟨bJ,q',h1,h2⟩:=key k ab q
  exact⟨e,bJ,q',h1,h2 C ψ' w cb⟩
 ·obtain⟨bJ,q',h1,_⟩:=key k ab q
  exact⟨bJ,q',h1⟩
 ·rw[ZoF];exact h.news k cb e
def Ix (C:aM) (qj:FuncId) (args:List DV) (s:St) (out:Out (List DV)×St):Prop:=
 s.length<=out.2.length/\∀ψ w vs,dP C ψ (CS s) w->nW ψ w->Glob C ψ->aR C ψ args vs->(∀v,ψ (.inr v)=none)->(∀i,s.length<=i->i<out.2.length->ψ (.inl i)=none)->
   tV C.P qj vs.toArray w fun
    | .returned v,w'=>∃ds,out.1= .val ds/\∃ψ',gP C ψ s w ψ' out.2 w'/\vn C ψ' ds v
    | .panicked ch,w'=>lF ch/\out.1= .cy/\∃ψ',gP C ψ s w ψ' out.2 w'
    | .outgrown,_=>False
structure BA (C:aM):Prop where
 cfg:lE C
 I5:C.P.follows .mixedOrders=true
theorem ZzD {C:aM} (hF:BA C) {c:Zg} (hc:ZA C c) {n:Nat} {A:FA} {fn:Func} {qj:FuncId} (hfn:C.P.funcs[qj]? =some fn) (nB:(fn.name== "runtime.NumGoroutine")=false)
  {args:List DV} {s:St} {out:Out (List DV)×St} (h:aP C A fn c n args s=some out):Ix C qj args s out:=by
 unfold aP at h;cases hb:fn.body with
 |none=>rw[hb]at h;cases h
 |some code=>
  rw[hb]at h;simp only at h;obtain⟨dN,h⟩:=Zp h;rw[aH]at dN;obtain⟨dN,bC⟩:=dN;have bC:=lC bC;obtain⟨ds,h,ow,lN,nu⟩:=BP h;have hlen:ds.length=fn.params.size+fn.nfree:=by rw[lN];simp
  have main: ∀(kr:Env->M (List DV)) (fz:St->St),(∀s,(fz s).length=s.length)->(∀fS s0 w0 ψ' s w,gP C fS s0 w0 ψ' s w->gP C fS s0 w0 ψ' (fz s) w)->
    (∀E s' r,kr E s'=some r->qL C E fn.results.toList (fun ds s=>some (.val ds,fz s)) s'=some r)->
    exec C A.pr c n code A.Cw kr (fun _ _=>fail) kr ⟨0,hZ 0 ds⟩ s=some out->Ix C qj args s out:=by
   intro kr fz eI qA yf h;have XH: ∀ {E:Env} {s':St} {r:Out (List DV)×St},kr E s'=some r->∃ds,r=(.val ds,fz s'):=by
    intro E s' r h';have h':=yf E s' r h';generalize fn.results.toList=l at h';have: ∀(l:List ResultVar) (K:List DV->M (List DV)),qL C E l K s'=some r->∃ds,K ds s'=some r:=by
     intro l;induction l with
     |nil=>exact fun K h=>⟨[],h⟩
     |cons x l ih=>
      intro K h;cases x with
      |tmp t=>
       simp only[qL]at h;obtain⟨d,_,h⟩:=Zr h;obtain⟨ds,h⟩:=ih _ h;exact⟨_,h⟩
      |cell x t=>
       simp only[qL]at h;cases hx:E.get x with
       |loc v n cs=>
        rw[hx]at h;simp only at h;obtain⟨td,_,h⟩:=mb h;cases gQ:ZI C.P t with
        |true=>
         rw[gQ]at h;obtain⟨_,h⟩:=Zp h;obtain⟨ds,h⟩:=ih _ h;exact⟨_,h⟩
        |false=>
         rw[gQ]at h;obtain⟨d,_,h⟩:=Il h;obtain⟨ds,h⟩:=ih _ h;exact⟨_,h⟩
       |_=>rw[hx]at h;cases h
    obtain⟨ds,h'⟩:=this l _ h';simp only[cQ]at h';exact⟨ds,h'.symm⟩
   have lk:Lk kr out:=fun E s' h'=>by
    obtain⟨ds,e⟩:=XH h';rw[e,eI];exact aA _
   refine⟨Cd hF.cfg hc code A.Cw kr _ kr lk (fun i E s h=>by cases h) lk _ s h,fun ψ w vs uI CW yc iG wj DF=>?_⟩;have kq:=nu C ψ vs iG;have uJ:=kq.len;unfold tV;have pw:(callFunc qj vs.toArray).run C.P w= .ok (.enter qj vs.toArray) w:=by
    have rE: ¬fn.name= "runtime.NumGoroutine" :=by simpa using nB
    simp[callFunc,hfn,rE,hb]
   rw[pw];refine calls_of_wp hfn hb ?_
   let f:Fr:=⟨out.2.length,fn.ntmps,ψ,s,w,oD fn.ntmps,fun x h=>by unfold oD at h;rw[lB]at h;exact h,fun t=>(vs.toArray++Array.replicate (fn.ntmps-vs.toArray.size) Go.undef).getD t Go.undef,[]⟩
   have rq: ∀t,(⟨0,hZ 0 ds⟩:Env).get t=match ds[t]? with|some d=> .v d|none=> .u:=by
    intro t;have:=HT 0 ds t;simp only[bH,iA,se]at this;exact this
   have lQ: ∀t v,((⟨0,hZ 0 ds⟩:Env).get t).bT≠some v:=by
    intro t v;rw[rq];cases ds[t]? <;>simp[df.bT]
   have vO: ∀h ab,CR ⟨0,hZ 0 ds⟩ s h ab->CS s h ab:=by
    intro h ab c;cases h with
    |inl i=>exact⟨i,rfl,c⟩
    |inr v=>
     rcases c with⟨t,n,cs,e,_⟩|⟨t,l,p,e,_⟩
     ·exact absurd (by rw[e];rfl) (lQ t v)
     ·exact absurd (by rw[e];rfl) (lQ t v)
   have R:Rel C f ψ ⟨0,hZ 0 ds⟩ s { tmps:=vs.toArray++Array.replicate (fn.ntmps-vs.toArray.size) Go.undef,defers:=[] } w:=by
    refine⟨uI.weaken fun _ _ _ _ c=>vO _ _ c,⟨fun t v e=>absurd e (lQ t v),fun t r v o e=>?_,fun t v n cs e=>absurd (by rw[e];rfl) (lQ t v),fun t t' v e _=>absurd e (lQ t v)⟩,CW,yc,fun t=>?_,?_,rfl,DF,fun v _=>wj v,(Ext.refl ψ (CS s) w).weaken fun _ _ _ _ c=>vO _ _ c,fun i cb e=> .inl e,aA _,wj⟩
    ·rw[rq]at e
     cases hd:ds[t]? <;>rw[hd]at e<;>cases e
    ·rw[rq]
     cases hd:ds[t]? with
     |none=>trivial
     |some d=>
      obtain⟨v,hv,hr⟩:=kq.get hd;have:(vs.toArray++Array.replicate (fn.ntmps-vs.toArray.size) Go.undef).getD t Go.undef=v:=by
       have aj:=(cw.1 hv).1;rw[lT,Ep (by simpa using aj)];simp[hv]
      show ef C ψ (.v d) _;rw[this];exact hr
    ·refine⟨?_,fun _ _=>rfl⟩
     show(vs.toArray++Array.replicate (fn.ntmps-vs.toArray.size) Go.undef).size=fn.ntmps;simp only[Array.size_append,Array.size_replicate,List.size_toArray];omega
   have done: ∀E' s' ψ' a' w',kr E' s'=some out->Rel C f ψ' E' s' a' w'->a'.defers=[]/\∃v,(results fn a'.tmps).run C.P w'= .ok v w'/\∃ds,out.1= .val ds/\∃ψ',gP C ψ s w ψ' out.2 w'/\vn C ψ' ds v:=by
    intro E' s' ψ' a' w' h' R';obtain⟨iP,gz,hk,hr,cD⟩:=Im R' (yf E' s' out h');simp only[cQ]at hk;refine⟨R'.defs,_,Zni cD,iP,by rw[<-hk],kt ψ',?_,?_⟩
    ·rw[<-hk];exact qA _ _ _ _ _ _ R'.ub
    ·have iV:aR C (kt ψ') iP gz:=Zs5 hr
     by_cases h1:gz.length=1
     ·rw[dif_pos h1]
      cases iV with
      |nil=>cases h1
      |cons d v ds vs a b=>
       cases b with
       |nil=>exact .inl ⟨d,rfl,a⟩
       |cons _ _ _ _ _ _=>simp at h1
     ·rw[dif_neg h1]
      exact .inr ⟨by rw[iV.len];exact h1,_,rfl,iV⟩
   refine Ou hF.cfg hc hF.I5 (f:=f) (aA _) code A.Cw kr _ kr dN lk (fun i E s h=>by cases h) lk _ s h ψ _ w _ R ?_ ?_ ?_ ?_
   ·intro E' s' ψ' a' w' h' R' _;exact done E' s' ψ' a' w' h' R'
   ·intro i E' s' ψ' a' w' h' _ _;cases h'
   ·intro E' s' ψ' a' w' h' R';exact done E' s' ψ' a' w' h' R'
   ·intro ch a' w' s' e hv hp
    refine⟨hp.defs,hv,by rw[e],?_⟩;obtain⟨ψ',db⟩:=hp.post;exact⟨ψ',by rw[e];exact db⟩
  cases hz:A.jA with
  |true=>
   rw[hz]at h;simp only[cond_true,M.base]at h;exact main _ (ZV s.length) (ZoF _) (fun _ _ _ _ _ _ h=>h.jA _) (fun E s' r h=>h) h
  |false=>
   rw[hz]at h;simp only[cond_false]at h;exact main _ id (fun _=>rfl) (fun _ _ _ _ _ _ h=>h) (fun E s' r h=>h) h
end
def aL (C:aM) (b:Zg->Nat->List DV->M (List DV)) (f:FuncId):Prop:=
 ∀c n args s out,ZA C c->b c n args s=some out->Ix C f args s out
theorem aL.aQ {C:aM} (hF:BA C) {A:FA} {fn:Func} {f:FuncId} {b:Zg->Nat->List DV->M (List DV)} (hfn:C.P.funcs[f]? =some fn) (nB:(fn.name== "runtime.NumGoroutine")=false) (ht:aP C A fn=b):aL C b f:=
 fun c n args s out hc h=>ZzD hF hc hfn nB (by rw[ht];exact h)
theorem IK {C:aM} {Bd:Za} (hB: ∀f,C.cov f=true->aL C (Bd (C.fn f)) f) (bA: ∀g,(∀f,C.cov f=true->C.fn f≠g)->∀c n args s,Bd g c n args s=none): ∀n,ZA C (run Bd n)
 |0=>fun g args s out h=>by cases h
 |n+1=>fun g args s out h=>by
  by_cases e: ∃f,C.cov f=true/\C.fn f=g
  ·obtain⟨f,h1,rfl⟩:=e
   refine⟨(hB f h1 _ _ _ _ _ (IK hB bA n) h).1,fun f' h2 h3=>?_⟩;have h':Bd (C.fn f') (run Bd n) n args s=some out:=by rw[h3];exact h
   exact(hB f' h2 _ _ _ _ _ (IK hB bA n) h').2
  ·have:=bA g (fun f h1 h2=>e ⟨f,h1,h2⟩) (run Bd n) n args s
   have h':Bd g (run Bd n) n args s=some out:=h;rw[this]at h';cases h'
end Go.Gv
namespace Go.Gv
end Go.Gv
namespace Go.Gv
def wO:List (Nat×Nat)->Nat->Nat
 |[],_=>0
 |(k,v)::r,x=>bif Nat.beq k x then v else wO r x
def Kv (l:List (Nat×Nat)) (t:Nat):Nat:=bif has (l.map (·.1)) t then wO l t else t+1000
abbrev Body:=Zg->Nat->List DV->M (List DV)
def wN:List (Nat×Body)->Nat->Option Body
 |[],_=>none
 |(k,b)::r,g=>bif Nat.beq k g then some b else wN r g
def bdOf (l:List (Nat×Body)):Za:=fun g=>match wN l g with|some b=>b|none=>fun _ _ _ _=>none
theorem Oh: ∀ {l:List (Nat×Body)} {g:Nat} {b:Body},wN l g=some b->g∈l.map (·.1)
 |[],_,_,h=>by cases h
 |(k,x)::r,g,b,h=>by
  simp only[wN]at h;cases hk:Nat.beq k g with
  |true=>simp[bY hk]
  |false=>rw[hk]at h;simp only[cond_false]at h;exact oP _ (Oh h)
theorem ZAm {P:Program} {e:TypeId} (h:P.underlying P.rt.typeAssertionError=some (.pointer e)) (hs:(P.underlying e).isSome=true): ∃e d,P.underlying P.rt.typeAssertionError=some (.pointer e)/\P.underlying e=some d:=
 ⟨e,_,h,(Option.some_get hs).symm⟩
theorem ZzH {C:aM} {cov:List Nat} (qo:C.cov=has cov) {l:List (Nat×Body)} (hk:l.map (·.1)=cov.map C.fn) (hB: ∀f∈cov,aL C (bdOf l (C.fn f)) f): ∀n,ZA C (run (bdOf l) n):=by
 refine IK (fun f hf=>hB f (by rw[qo]at hf;exact(Cj cov f).1 hf)) fun g hg c n args s=>?_
 unfold bdOf;cases hb:wN l g with
 |none=>rfl
 |some b=>
  have:=Oh hb;rw[hk]at this;obtain⟨f,hf,rfl⟩:=dE.1 this;exact absurd rfl (hg f (by rw[qo];exact(Cj cov f).2 hf))
def Ut (l:List (Nat×Nat)):Bool:=decide ((l.map (·.2)).Nodup)&&l.all fun x=>Nat.blt x.2 1000
theorem IB: ∀ {l:List (Nat×Nat)} {t:Nat},has (l.map (·.1)) t=true->(t,wO l t)∈l
 |[],t,h=>by cases h
 |(k,v)::r,t,h=>by
  simp only[gK,has,jt]at h;cases hk:Nat.beq k t with
  |true=>
   have:=bY hk;subst this;simp[wO]
  |false=>
   simp only[wO,hk,cond_false];exact oP _ (IB (h.resolve_left (by rw[hk];simp)))
theorem ZzV {l:List (Nat×Nat)} (h:Ut l=true) (t t':Nat) (e:Kv l t=Kv l t'):t=t':=by
 unfold Ut at h;rw[aH,jL,gm]at h;obtain⟨h1,h2⟩:=h;have lt: ∀ {t},has (l.map (·.1)) t=true->wO l t<1000:=fun {t} ht=>by
  have:=h2 _ (IB ht)
  rwa [lB]at this
 unfold Kv at e;cases ht:has (l.map (·.1)) t with
 |true=>
  have m:=IB ht;have l1:=lt ht;cases pF:has (l.map (·.1)) t' with
  |true=>
   have m':=IB pF;rw[ht,pF]at e;simp only[cond_true]at e;rw[e]at m;have inj: ∀ {l:List (Nat×Nat)},(l.map (·.2)).Nodup->∀ {a b c:Nat},(a,c)∈l->(b,c)∈l->a=b:=by
    intro l;induction l with
    |nil=>intro _ a b c h;cases h
    |cons x r ih=>
     intro hn a b c ha hb;simp only[gK,qS]at hn;rcases cd.1 ha with ha|ha<;>rcases cd.1 hb with hb|hb
     ·rw[<-ha]at hb;cases hb;rfl
     ·exact absurd (dE.2 ⟨_,hb,by rw[<-ha]⟩) hn.1
     ·exact absurd (dE.2 ⟨_,ha,by rw[<-hb]⟩) hn.1
     ·exact ih hn.2 ha hb
   exact inj h1 m m'
  |false=>rw[ht,pF]at e;simp only[cond_true,cond_false]at e;omega
 |false=>
  cases pF:has (l.map (·.1)) t' with
  |true=>have:=lt pF;rw[ht,pF]at e;simp only[cond_true,cond_false]at e;omega
  |false=>rw[ht,pF]at e;simp only[cond_false]at e;omega
end Go.Gv
namespace Go.Gv
variable {β:Type}
section
variable {C:aM} {f:Fr} {ψ:Ps} {E:Env} {s:St} {a:Act} {w:World} {c:Zg} {o:Oper} {K:Env->M β} {r:Out β×St}
theorem mW (hC:lE C) (hc:ZA C c) (o:Oper) (h:Lk K r):Lk (fun E=>dV C [] [] .s c o E K) r:=by
 intro E s h';rcases OP hC hc (ops:=[]) (.inl rfl) h' with⟨E',s',hk,hF,_⟩|⟨_,s',rfl,hp⟩
 ·exact eZ hF.len (h E' s' hk)
 ·exact hp.1
theorem Iw (hC:lE C) (hc:ZA C c) (h:dV C [] [] .s c o E K s=some r) (hl:Lk K r) (hN:r.2.length<=f.N) (hd: ∀x,o.dst=some x->f.ok x=true):
  (∃E' s',K E' s'=some r/\s.length<=s'.length/\∀(ψ:Ps) (a:Act) (w:World) (QQ:Exit->Act->World->Prop) (next:Act->World->Prop),Rel C f ψ E s a w->
    (∀ψ' v w',Rel C f ψ' E' s' (a.put o.dst v) w'->(∀h cb,ψ h=some cb->ψ' h=some cb)->next (a.put o.dst v) w')->o.wp C.P a w next QQ)\/
  (∃s',r=(.cy,s')/\∀(ψ:Ps) (a:Act) (w:World) (QQ:Exit->Act->World->Prop) (next:Act->World->Prop),Rel C f ψ E s a w->(∀ch a' w',lF ch->nZ C f s' a' w'->QQ (.panic ch) a' w')->o.wp C.P a w next QQ):=by
 rcases OP hC hc (ops:=[]) (.inl rfl) h with⟨E',s',hk,hF,hO⟩|⟨_,s',rfl,hp⟩
 ·refine .inl ⟨E',s',hk,hF.len,fun ψ a w QQ next R hn=>?_⟩
  exact hO ψ (CR E s) a w next QQ R.pre (R.room (eZ (hl E' s' hk) hN)) fun ψ' Q' v w' hP he=>hn ψ' v w' (R.step hF hP he hd) hP.ext.mono
 ·exact .inr ⟨s',rfl,fun ψ a w QQ next R hn=>R.Uy hN hp hn⟩
theorem nZ.XV {d:Option Nat} {v:Value} (hd: ∀x,d=some x->f.ok x=true) (h:nZ C f s (a.put d v) w):nZ C f s a w:=by
 refine⟨by rw[<-Hy a d v];exact h.defs,⟨by rw[<-LS a d v];exact h.ks.1,fun t ht=>?_⟩,h.post⟩;have:=h.ks.2 t ht;rw[Cl (fun x hx=>by rw[<-LS a d v,h.ks.1];exact f.DW x (hd x hx)),ay (fun e=>by rw[hd t e]at ht;cases ht)]at this;exact this
def Uc:Sh->Bool
 | .b _=>true
 |_=>false
def JZ:Op->Bool
 | .move (.tmp _)=>true
 |_=>false
def J9 (ops:Array Oper):Bool:=
 let l (n:Nat):Array Bool:=(([0,2,3,4,5,1,6,7].take n).foldl (fun l i=>l.setIfInBounds i true) (Array.replicate 8 false))
 let fst (n i:Nat):Bool:=Region.free .any ops (l n) i&&(Region.ready .any ops (l n)).contains i
 Region.noSelect ops&&fst 0 0&&fst 1 2&&fst 2 3&&fst 3 4&&fst 4 5&&(Region.ready .any ops (l 5)==[1])&&(Region.ready .any ops (l 6)==[6])&&(Region.ready .any ops (l 7)==[7])&&(Region.ready .any ops (l 8)).isEmpty
def CM:List Oper->Option (Oper×Oper×Oper×Oper×Oper×Oper×Oper×Oper)
 |[o0,o1,o2,o3,o4,o5,o6,o7]=>some (o0,o1,o2,o3,o4,o5,o6,o7)
 |_=>none
theorem Zxx {l:List Oper} {o0 o1 o2 o3 o4 o5 o6 o7:Oper} (h:CM l=some (o0,o1,o2,o3,o4,o5,o6,o7)):l=[o0,o1,o2,o3,o4,o5,o6,o7]:=by
 unfold CM at h;split at h
 ·cases h;rfl
 ·cases h
noncomputable def D8 (C:aM) (c:Zg) (ops:Array Oper) (E:Env) (K:Env->M β):M β:=
 match CM ops.toList with
 |some (o0,o1,o2,o3,o4,o5,o6,o7)=>
  bif J9 ops&&JZ o0.op&&JZ o2.op&&(o0.guard.isNone&&o1.guard.isNone&&o2.guard.isNone&&o3.guard.isNone&&o4.guard.isNone&&o5.guard.isNone&&o6.guard.isNone&&o7.guard.isNone)then
   match o3.op,o4.op,o5.op with
   | .nilCheck x3,.fieldAddr _ x4 _,.load ty x5=>M.ak (Uc (jZ C.P ty))<|
    dV C [] [] .s c o0 E fun E0=>dV C [] [] .s c o2 E0 fun E2=>uU C E2 x3 fun _ _=>dV C [] [] .s c o3 E2 fun E3=>uU C E3 x4 fun _ _=>dV C [] [] .s c o4 E3 fun E4=>uU C E4 x5 fun i p=>sK i p fun k n=>dV C [] [] .s c o5 E4 fun E5=>
     dV C [] [] .s c o1 E5 fun E1=>fF i p k n (dV C [] [] .s c o6 E1 fun E6=>fF i p k n (dV C [] [] .s c o7 E6 fun E7=>fF i p k n (K E7)))
   |_,_,_=>fail
  else fail
 |none=>fail
theorem HU {x:Operand} {K:Nat->Nat->M β} (h:uU C E x K s=some r): ∃i p,E.src C x= .v (.ptr (some (i,p)))/\K i p s=some r:=by
 unfold uU at h;cases he:E.src C x with
 |v d=>
  rw[he]at h;cases d with
  |ptr q=>
   cases q with
   |none=>cases h
   |some q=>exact⟨q.1,q.2,rfl,h⟩
  |_=>cases h
 |_=>rw[he]at h;cases h
theorem ZoZ {i p:Nat} {K:IntKind->Int->M β} (h:sK i p K s=some r): ∃k n,(∃fz cs,cj s i=some (.cells fz cs)/\cs[p]? =some (.int k n))/\K k n s=some r:=by
 unfold sK at h;obtain⟨fz,cs,d,bE,hd,h⟩:=ZoW h;cases d with
 |int k n=>exact⟨k,n,⟨fz,cs,bE,hd⟩,h⟩
 |_=>cases h
theorem HH {i p:Nat} {k:IntKind} {n:Int} {K:M β} (h:fF i p k n K s=some r):K s=some r/\∃fz cs,cj s i=some (.cells fz cs)/\cs[p]? =some (.int k n):=by
 unfold fF M.ar at h;cases hc:s.cells i with
 |none=>rw[hc]at h;cases h
 |some cs=>
  rw[hc]at h;simp only at h;cases hd:cs[p]? with
  |none=>rw[hd]at h;cases h
  |some d=>
   rw[hd]at h;have bE: ∃fz,cj s i=some (.cells fz cs):=by
    unfold St.cells at hc;split at hc
    ·rename_i bk uo
     cases hc;exact⟨bk.jA,by simp only[cj,uo]⟩
    ·cases hc
   obtain⟨fz,bE⟩:=bE;cases d with
   |int k' n'=>
    simp only at h;obtain⟨h0,hK⟩:=Zp h;simp only[aH,lW]at h0;have h1:=Cq h0.1;have h2:=h0.2;rw[<-h1,<-h2]at hd;exact⟨hK,fz,cs,bE,hd⟩
   |_=>cases h
theorem Rel.num (R:Rel C f ψ E s a w) {i p:Nat} {k:IntKind} {n:Int} {cb:CB} (e:ψ (.inl i)=some cb) (h: ∃fz cs,cj s i=some (.cells fz cs)/\cs[p]? =some (.int k n)):w.cell? ⟨cb.b,cb.o+p,none⟩=some (.int k n):=by
 obtain⟨fz,cs,h1,h2⟩:=h;have hh:=R.dA.holds (.inl i) cb _ e h1;obtain⟨v,hv,hr⟩:=hh.2.2.1 p _ h2;cases hr;exact hv
theorem Rel.ptr (R:Rel C f ψ E s a w) {x:Operand} {i p:Nat} (e:E.src C x= .v (.ptr (some (i,p)))): ∃cb:CB,ψ (.inl i)=some cb/\a.eval x= .pointer (some ⟨cb.b,cb.o+p,none⟩):=by
 have h:=R.eval x;rw[e]at h;have h:VR C ψ (.ptr (some (i,p))) (a.eval x):=h;generalize a.eval x=v at h;cases h with
 |ptr _ _ cb e=>exact⟨cb,e,rfl⟩
theorem ZsD {t:TypeId} {y:Operand} {fi:Nat} (ho:o.op= .fieldAddr t y fi) {Kk:Env->M β} (h:dV C [] [] .s c o E Kk s=some r):
  ∃off,∀(a:Act) (w:World) b n,a.eval y= .pointer (some ⟨b,n,none⟩)->(execOp a.eval o).run C.P w= .ok (.value (.pointer (some ⟨b,n+off,none⟩))) w:=by
 unfold dV at h;rw[ho]at h;simp only at h;unfold G4 at h;cases ht:C.P.underlying t with
 |none=>rw[ht]at h;cases h
 |some td=>
  rw[ht]at h;cases td with
  |struct fs=>
   simp only at h;cases hf:fs[fi]? with
   |none=>rw[hf]at h;cases h
   |some fd=>
    rw[hf]at h;simp only at h;obtain⟨hc,h⟩:=BY h;have hc:=zg hc;have bC: ∀w,(sizeOf fd.type).run C.P w= .ok (C.P.cellsOf fd.type) w:=by
     intro w;unfold Program.cellsOf at hc⊢;cases hi:C.P.info? fd.type with
     |none=>rw[hi]at hc;simp at hc
     |some i=>simp[sizeOf,typeInfo,hi]
    refine⟨fd.offset,fun a w b n hy=>?_⟩;simp[execOp,ho,hy,Instr.fieldAt,Zi w ht,hf,Z3,fieldPlace,bC,hc,vz]
  |_=>cases h
theorem ZyS {t:TypeId} {x:Operand} (ho:o.op= .load t x) (hs:Uc (jZ C.P t)=true) {Kk:Env->M β} (h:dV C [] [] .s c o E Kk s=some r) (a:Act) (w:World) (A:Addr) (v:Value) (ha:a.eval x= .pointer (some A)) (hw:w.cell? A=some v):
  (execOp a.eval o).run C.P w= .ok (.value v) w:=by
 unfold dV at h;rw[ho]at h;simp only at h;unfold II at h;obtain⟨td,ht,h⟩:=mb h;cases gM:jZ C.P t with
 |b y'=>simp only[execOp,ho,ha,Instr.loadAt,Sem.run_bind,Z3,Result.andThen_ok,BG ht (O6 gM) _ w (by rw[run_load,hw]),Sem.run_pure]
 |agg l=>rw[gM]at hs;cases hs
theorem OL {P:Program} {ops:Array Oper} {QQ:Exit->Act->World->Prop} {i:Nat} (hi:ops[i]? =some o) (hg:o.guard=none) {next:Act->World->Prop} (h:o.wp P a w next QQ):wpOp P ops QQ i next a w:=by
 unfold wpOp;simp only[hi];rw[aF (by simp[Region.wanted,hg])];exact .inl h
theorem Zw8 {P:Program} {QQ:Exit->Act->World->Prop} {next:Act->World->Prop} {v:Value} (he:(execOp a.eval o).run P w= .ok (.value v) w) (h:o.wp P a w next QQ):next (a.put o.dst v) w:=by
 unfold Oper.wp at h;rw[he]at h;exact h
theorem Af {x:Operand} {K:Env->Nat->Nat->M β} (h: ∀i p,Lk (fun E=>K E i p) r):Lk (fun E=>uU C E x (K E)) r:=by
 intro E s h';obtain⟨i,p,_,h'⟩:=HU h';exact h i p E s h'
theorem Zwa {i p:Nat} {K:Env->IntKind->Int->M β} (h: ∀k n,Lk (fun E=>K E k n) r):Lk (fun E=>sK i p (K E)) r:=by
 intro E s h';obtain⟨k,n,_,h'⟩:=ZoZ h';exact h k n E s h'
theorem zV {i p:Nat} {k:IntKind} {n:Int} {K:Env->M β} (h:Lk K r):Lk (fun E=>fF i p k n (K E)) r:=by
 intro E s h';exact h E s (HH h').1
theorem Zyz (hC:lE C) (hc:ZA C c) {ops:Array Oper} (dN:okO f.ok ops.toList=true) (h:D8 C c ops E K s=some r) (hl:Lk K r) (sW:C.P.follows .mixedOrders=true) (hN:r.2.length<=f.N) (id:Nat) (R:Rel C f ψ E s a w) (QQ:Exit->Act->World->Prop)
  (qn: ∀E' s' ψ' a' w',K E' s'=some r->Rel C f ψ' E' s' a' w'->QQ .normal a' w') (qp: ∀ch a' w' s',r=(.cy,s')->lF ch->nZ C f s' a' w'->QQ (.panic ch) a' w'):(Code.region id ops true).wp C.P QQ a w:=by
 unfold D8 at h;cases dM:CM ops.toList with
 |none=>rw[dM]at h;cases h
 |some q=>
 obtain⟨o0,o1,o2,o3,o4,o5,o6,o7⟩:=q;rw[dM]at h;have tc:=Zxx dM;simp only at h;obtain⟨hb,h⟩:=Zp h;simp only[aH,Option.isNone_iff_eq_none]at hb;obtain⟨⟨⟨hy,hm0⟩,dH⟩,⟨⟨⟨⟨⟨⟨⟨g0,g1⟩,g2⟩,g3⟩,g4⟩,g5⟩,g6⟩,g7⟩⟩:=hb;obtain⟨x3,Ko,x4,I4,Kt,x5,h3,h4,h5⟩: ∃x3 Ko x4 I4 Kt x5,o3.op= .nilCheck x3/\o4.op= .fieldAddr Ko x4 I4/\o5.op= .load Kt x5:=by
  cases h3:o3.op with
  |nilCheck x3=>
   cases h4:o4.op with
   |fieldAddr Ko x4 I4=>
    cases h5:o5.op with
    |load Kt x5=>exact⟨_,_,_,_,_,_,rfl,rfl,rfl⟩
    |_=>rw[h3,h4,h5]at h;cases h
   |_=>rw[h3,h4]at h;cases h
  |_=>rw[h3]at h;cases h
 rw[h3,h4,h5]at h;simp only at h;obtain⟨JF,h⟩:=ZM h;have i0:ops[0]? =some o0:=by rw[<-gA,tc];rfl
 have i1:ops[1]? =some o1:=by rw[<-gA,tc];rfl
 have i2:ops[2]? =some o2:=by rw[<-gA,tc];rfl
 have i3:ops[3]? =some o3:=by rw[<-gA,tc];rfl
 have i4:ops[4]? =some o4:=by rw[<-gA,tc];rfl
 have i5:ops[5]? =some o5:=by rw[<-gA,tc];rfl
 have i6:ops[6]? =some o6:=by rw[<-gA,tc];rfl
 have i7:ops[7]? =some o7:=by rw[<-gA,tc];rfl
 have kW: ∀o∈ops.toList,∀x,o.dst=some x->f.ok x=true:=fun o ho x hx=>zZ dN o ho x hx
 rw[tc]at kW;have WI:ops.size=8:=by rw[<-js,tc];rfl
 have l7: ∀i p k n,Lk (fun E7=>fF i p k n (K E7)) r:=fun i p k n=>zV hl
 have l6: ∀i p k n,Lk (fun E6=>fF i p k n (dV C [] [] .s c o7 E6 fun E7=>fF i p k n (K E7))) r:=fun i p k n=>zV (mW hC hc o7 (l7 i p k n))
 have l1: ∀i p k n,Lk (fun E1=>fF i p k n (dV C [] [] .s c o6 E1 fun E6=>fF i p k n (dV C [] [] .s c o7 E6 fun E7=>fF i p k n (K E7)))) r:=fun i p k n=>zV (mW hC hc o6 (l6 i p k n))
 have l5: ∀i p k n,Lk (fun E5=>dV C [] [] .s c o1 E5 fun E1=>fF i p k n (dV C [] [] .s c o6 E1 fun E6=>fF i p k n (dV C [] [] .s c o7 E6 fun E7=>fF i p k n (K E7)))) r:=fun i p k n=>mW hC hc o1 (l1 i p k n)
 have l4:=Af (C:=C) (x:=x5) (K:=fun E4 i p=>sK i p fun k n=>dV C [] [] .s c o5 E4 fun E5=>dV C [] [] .s c o1 E5 fun E1=>fF i p k n (dV C [] [] .s c o6 E1 fun E6=>fF i p k n (dV C [] [] .s c o7 E6 fun E7=>fF i p k n (K E7)))) (r:=r) (fun i p=>Zwa (K:=fun E4 k n=>dV C [] [] .s c o5 E4 fun E5=>dV C [] [] .s c o1 E5 fun E1=>fF i p k n (dV C [] [] .s c o6 E1 fun E6=>fF i p k n (dV C [] [] .s c o7 E6 fun E7=>fF i p k n (K E7)))) fun k n=>mW hC hc o5 (l5 i p k n));have l3:=Af (C:=C) (x:=x4) (r:=r) (K:=fun E3 _ _=>dV C [] [] .s c o4 E3 fun E4=>uU C E4 x5 fun i p=>sK i p fun k n=>dV C [] [] .s c o5 E4 fun E5=>dV C [] [] .s c o1 E5 fun E1=>fF i p k n (dV C [] [] .s c o6 E1 fun E6=>fF i p k n (dV C [] [] .s c o7 E6 fun E7=>fF i p k n (K E7)))) (fun _ _=>mW hC hc o4 l4);have l2:=Af (C:=C) (x:=x3) (r:=r) (K:=fun E2 _ _=>dV C [] [] .s c o3 E2 fun E3=>uU C E3 x4 fun _ _=>dV C [] [] .s c o4 E3 fun E4=>uU C E4 x5 fun i p=>sK i p fun k n=>dV C [] [] .s c o5 E4 fun E5=>dV C [] [] .s c o1 E5 fun E1=>fF i p k n (dV C [] [] .s c o6 E1 fun E6=>fF i p k n (dV C [] [] .s c o7 E6 fun E7=>fF i p k n (K E7)))) (fun _ _=>mW hC hc o3 l3);have l0:=mW hC hc o2 l2;simp only[J9,aH,lW,List.isEmpty_iff]at hy;obtain⟨⟨⟨⟨⟨⟨⟨⟨⟨yk,f0,r0⟩,f1,r1⟩,f2,r2⟩,f3,r3⟩,f4,r4⟩,rd5⟩,rd6⟩,rd7⟩,rd8⟩:=hy;have R:=R.drew;generalize cc:({ w with drawn:=w.drawn+1 } :World)=w1 at R;have mv: ∀ {o:Oper},JZ o.op=true->∀(a:Act),∃v,∀w',(execOp a.eval o).run C.P w'= .ok (.value v) w':=by
  intro o ho a;unfold JZ at ho;split at ho
  ·rename_i t e
   exact⟨a.eval (.tmp t),fun w'=>by simp[execOp,e]⟩
  ·cases ho
 have fst: ∀ {o:Oper} {E:Env} {s:St} {ψ:Ps} {a:Act} {K':Env->M β} {v:Value},o∈[o0,o1,o2,o3,o4,o5,o6,o7]->dV C [] [] .s c o E K' s=some r->Lk K' r->Rel C f ψ E s a w1->(execOp a.eval o).run C.P w1= .ok (.value v) w1->
   ∃E' s' ψ',K' E' s'=some r/\Rel C f ψ' E' s' (a.put o.dst v) w1/\∀h cb,ψ h=some cb->ψ' h=some cb:=by
  intro o E s ψ a K' v ho h hl R hv;rcases Iw (f:=f) hC hc h hl hN (kW o ho)with⟨E',s',hk,_,q⟩|⟨s',_,q⟩
  ·obtain⟨ψ',h1,h2⟩:=Zw8 (next:=fun a' w'=>∃ψ',Rel C f ψ' E' s' a' w'/\∀h cb,ψ h=some cb->ψ' h=some cb) hv (q ψ a w1 (fun _ _ _=>True) _ R fun ψ' v w' R' m=>⟨ψ',R',m⟩)
   exact⟨E',s',ψ',hk,h1,h2⟩
  ·exact(Zw8 (next:=fun _ _=>False) hv (q ψ a w1 (fun _ _ _=>True) _ R fun _ _ _ _ _=>trivial)).elim
 obtain⟨v0,y0⟩:=mv hm0 a;obtain⟨E0,s0,fS,h,R0,_⟩:=fst (by simp) h l0 R (y0 w1);obtain⟨v2,y2⟩:=mv dH (a.put o0.dst v0);obtain⟨E2,s2,iz,h,R2,_⟩:=fst (by simp) h l2 R0 (y2 w1);obtain⟨b3,p3,DH,h⟩:=HU h;obtain⟨cb3,_,e3⟩:=R2.ptr DH;have y3: ∀w',(execOp ((a.put o0.dst v0).put o2.dst v2).eval o3).run C.P w'= .ok (.value (.pointer (some ⟨cb3.b,cb3.o+p3,none⟩))) w':=fun w'=>by simp[execOp,h3,e3]
 obtain⟨E3,s3,En,h,R3,_⟩:=fst (by simp) h l3 R2 (y3 w1);obtain⟨b4,p4,hx4,h⟩:=HU h;obtain⟨cb4,_,e4⟩:=R3.ptr hx4;obtain⟨off,y4⟩:=ZsD h4 h;have y4:=fun w'=>y4 _ w' _ _ e4
 obtain⟨E4,s4,ψ4,h,R4,_⟩:=fst (by simp) h l4 R3 (y4 w1);obtain⟨i,p,Rb,h⟩:=HU h;obtain⟨cb,qh,e5⟩:=R4.ptr Rb;obtain⟨k,n,xZ,h⟩:=ZoZ h;have y5:=fun w' hw=>ZyS h5 JF h _ w' _ (.int k n) e5 hw
 have hS:w1.cell? ⟨cb.b,cb.o+p,none⟩=some (.int k n):=R4.num qh xZ;obtain⟨E5,s5,ψ5,h,R5,m5⟩:=fst (by simp) h (l5 i p k n) R4 (y5 w1 hS);have qh:=m5 _ _ qh;refine wp_mono (Q:=fun e a' w'=>match e with
  | .normal=>∃E' s' ψ',K E' s'=some r/\Rel C f ψ' E' s' a' w'
  | .panic ch=>lF ch/\∃s',r=(.cy,s')/\nZ C f s' a' w'
  |_=>False) (wp_region_held (S:=fun w'=>w'.cell? ⟨cb.b,cb.o+p,none⟩=some (.int k n)) sW ?_) ?_
 rotate_left
 ·intro e a' w' he
  cases e with
  |normal=>obtain⟨E',s',ψ',hk,R'⟩:=he;exact qn E' s' ψ' a' w' hk R'
  |panic ch=>obtain⟨hv,s',e,hp⟩:=he;exact qp ch a' w' s' e hv hp
  |_=>exact he.elim
 have wanted: ∀ {o:Oper} {y:Nat->Option Bool},o.guard=none->Region.wanted o y=true:=fun hg=>by simp[Region.wanted,hg]
 have hQ: ∀ {o:Oper} {v:Value},o∈[o0,o1,o2,o3,o4,o5,o6,o7]->∀ch a' w',(lF ch/\∃s',r=(.cy,s')/\nZ C f s' (a'.put o.dst v) w')->(lF ch/\∃s',r=(.cy,s')/\nZ C f s' a' w'):=
  fun ho ch a' w' ⟨hv,s',e,hp⟩=>⟨hv,s',e,hp.XV (kW _ ho)⟩
 rw[WI,cc];refine wpAnyH_take i0 yk f0 r0 (hQ (by simp)) (.inl ⟨wanted g0,fun w' _=>y0 w'⟩) hS ?_;refine wpAnyH_take i2 yk f1 r1 (hQ (by simp)) (.inl ⟨wanted g2,fun w' _=>y2 w'⟩) hS ?_;refine wpAnyH_take i3 yk f2 r2 (hQ (by simp)) (.inl ⟨wanted g3,fun w' _=>y3 w'⟩) hS ?_;refine wpAnyH_take i4 yk f3 r3 (hQ (by simp)) (.inl ⟨wanted g4,fun w' _=>y4 w'⟩) hS ?_;refine wpAnyH_take i5 yk f4 r4 (hQ (by simp)) (.inl ⟨wanted g5,fun w' hw=>y5 w' hw⟩) hS ?_;refine wpAnyH_all rd5 (by simp) fun j hj=>?_
 rw[bP]at hj;subst hj;refine OL i1 g1 ?_;rcases Iw (f:=f) hC hc h (l1 i p k n) hN (kW o1 (by simp))with⟨E1,s1,h,_,q1⟩|⟨s',e,q1⟩
 rotate_left
 ·exact q1 _ _ _ _ _ R5 fun ch a' w' hv hp=>⟨hv,s',e,hp⟩
 refine q1 _ _ _ _ _ R5 fun fT v1 w2 R1 m1=>?_
 have qh:=m1 _ _ qh;obtain⟨h,fL⟩:=HH h;refine⟨R1.num qh fL,wpAnyH_all rd6 (by simp) fun j hj=>?_⟩;rw[bP]at hj;subst hj;refine OL i6 g6 ?_;rcases Iw (f:=f) hC hc h (l6 i p k n) hN (kW o6 (by simp))with⟨E6,s6,h,_,q6⟩|⟨s',e,q6⟩
 rotate_left
 ·exact q6 _ _ _ _ _ R1 fun ch a' w' hv hp=>⟨hv,s',e,hp⟩
 refine q6 _ _ _ _ _ R1 fun ψ6 v6 w6 R6 m6=>?_
 have qh:=m6 _ _ qh;obtain⟨h,hc6⟩:=HH h;refine⟨R6.num qh hc6,wpAnyH_all rd7 (by simp) fun j hj=>?_⟩;rw[bP]at hj;subst hj;refine OL i7 g7 ?_;rcases Iw (f:=f) hC hc h (l7 i p k n) hN (kW o7 (by simp))with⟨E7,s7,h,_,q7⟩|⟨s',e,q7⟩
 rotate_left
 ·exact q7 _ _ _ _ _ R6 fun ch a' w' hv hp=>⟨hv,s',e,hp⟩
 refine q7 _ _ _ _ _ R6 fun ψ7 v7 w7 R7 m7=>?_
 have qh:=m7 _ _ qh;obtain⟨h,hc7⟩:=HH h;exact⟨R7.num qh hc7,wpAnyH_done rd8 ⟨E7,s7,ψ7,h,R7⟩ _⟩
end
end Go.Gv
namespace Go.Gv
variable {β:Type}
def lK:Code->List Code
 | .seq a b=>lK a++lK b
 |c=>[c]
def oN (P:Program):List Code->(Exit->Act->World->Prop)->Act->World->Prop
 |[],Q=>Q .normal
 |x::r,Q=>x.wp P (Exit.then (oN P r Q) Q)
theorem Zyr (n m:Act->World->Prop) (Q:Exit->Act->World->Prop):Exit.then n (Exit.then m Q)=Exit.then n Q:=by
 funext e a w;cases e<;>rfl
theorem ZxL (Q:Exit->Act->World->Prop):Exit.then (Q .normal) Q=Q:=by
 funext e a w;cases e<;>rfl
theorem Oj {P:Program} : ∀(l m:List Code) (Q:Exit->Act->World->Prop),oN P (l++m) Q=oN P l (Exit.then (oN P m Q) Q)
 |[],m,Q=>rfl
 |x::l,m,Q=>by
  show x.wp P (Exit.then (oN P (l++m) Q) Q)=x.wp P (Exit.then (oN P l (Exit.then (oN P m Q) Q)) (Exit.then (oN P m Q) Q));rw[Oj l m Q,Zyr]
theorem ZzL {P:Program} : ∀(c:Code) (Q:Exit->Act->World->Prop) (a:Act) (w:World),oN P (lK c) Q a w->c.wp P Q a w:=by
 intro c;induction c with
 |seq x y ihx ihy=>
  intro Q a w h;rw[lK,Oj]at h;refine wp_seq (wp_mono (ihx _ a w h) fun e a w h=>?_);cases e<;>first|exact ihy Q a w h|exact h
 |_=>intro Q a w h;simp only[lK,oN,ZxL]at h;exact h
def DM:Code->Option (Array Oper)
 | .region _ ops true=>bif J9 ops&&Nat.beq ops.size 8 then some ops else none
 |_=>none
noncomputable def CJ (C:aM) (c:Zg) (n:Nat) (x:Code) (kn kr:Env->M β):Env->M β:=match DM x with
 |some ops=>fun E=>D8 C c ops E kn
 |none=>exec C [] c n x .z kn (fun _ _=>fail) kr
noncomputable def sN (C:aM) (c:Zg) (n:Nat):List Code->(Env->M β)->(Env->M β)->Env->M β
 |[],kn,_=>kn
 |x::r,kn,kr=>CJ C c n x (sN C c n r kn kr) kr
def DU (ok:Nat->Bool):List Code->Bool
 |[]=>true
 |x::r=>tn ok x&&DU ok r
section
variable {C:aM} {f:Fr} {c:Zg} {n:Nat} {r:Out β×St}
theorem ZyK {x:Code} {ops:Array Oper} (h:DM x=some ops): ∃id,x= .region id ops true:=by
 unfold DM at h;split at h
 ·rename_i id Uv
  cases hb:J9 Uv&&Nat.beq Uv.size 8 with
  |false=>rw[hb]at h;cases h
  |true=>rw[hb]at h;cases h;exact⟨id,rfl⟩
 ·cases h
theorem ZyP (hC:lE C) (hc:ZA C c) {ops:Array Oper} {K:Env->M β} (h:Lk K r):Lk (fun E=>D8 C c ops E K) r:=by
 intro E s h';unfold D8 at h';cases dM:CM ops.toList with
 |none=>rw[dM]at h';cases h'
 |some q=>
  obtain⟨o0,o1,o2,o3,o4,o5,o6,o7⟩:=q;rw[dM]at h';simp only at h';obtain⟨_,h'⟩:=Zp h';cases h3:o3.op with
  |nilCheck x3=>
   cases h4:o4.op with
   |fieldAddr Ko x4 I4=>
    cases h5:o5.op with
    |load Kt x5=>
     rw[h3,h4,h5]at h';simp only at h';obtain⟨_,h'⟩:=ZM h';refine mW hC hc o0 (mW hC hc o2 (Af (K:=fun E2 _ _=>_) fun _ _=>mW hC hc o3 (Af (K:=fun E3 _ _=>_) fun _ _=>mW hC hc o4 (Af (K:=fun E4 i p=>_) fun i p=>Zwa (K:=fun E4 k n=>_) fun k n=>mW hC hc o5 (mW hC hc o1 (zV (mW hC hc o6 (zV (mW hC hc o7 (zV h)))))))))) E s h'
    |_=>rw[h3,h4,h5]at h';cases h'
   |_=>rw[h3,h4]at h';cases h'
  |_=>rw[h3]at h';cases h'
theorem Zxj (hC:lE C) (hc:ZA C c) (x:Code) (kn kr:Env->M β) (h:Lk kn r) (k:Lk kr r):Lk (CJ C c n x kn kr) r:=by
 unfold CJ;cases DM x with
 |some ops=>exact ZyP hC hc h
 |none=>exact Cd hC hc x .z _ _ kr h (fun _ _ _ h=>by cases h) k
theorem zM (hC:lE C) (hc:ZA C c): ∀(l:List Code) (kn kr:Env->M β),Lk kn r->Lk kr r->Lk (sN C c n l kn kr) r
 |[],_,_,h,_=>h
 |x::l,kn,kr,h,k=>Zxj hC hc x _ kr (zM hC hc l kn kr h k) k
theorem N7 (hC:lE C) (hc:ZA C c) (sW:C.P.follows .mixedOrders=true) (hN:r.2.length<=f.N): ∀(l:List Code) (kn kr:Env->M β),DU f.ok l=true->Lk kn r->Lk kr r->
  ∀(E:Env) (s:St),sN C c n l kn kr E s=some r->∀(ψ:Ps) (a:Act) (w:World) (QQ:Exit->Act->World->Prop),Rel C f ψ E s a w->
  (∀E' s' ψ' a' w',kn E' s'=some r->Rel C f ψ' E' s' a' w'->QQ .normal a' w')->
  (∀E' s' ψ' a' w',kr E' s'=some r->Rel C f ψ' E' s' a' w'->QQ .ret a' w')->
  (∀ch a' w' s',r=(.cy,s')->lF ch->nZ C f s' a' w'->QQ (.panic ch) a' w')->oN C.P l QQ a w
 |[],kn,kr,_,_,_,E,s,h,ψ,a,w,QQ,R,qn,_,_=>qn E s ψ a w h R
 |x::l,kn,kr,ho,hn,hr,E,s,h,ψ,a,w,QQ,R,qn,qr,qp=>by
  simp only[DU,aH]at ho;have rest: ∀E' s' ψ' a' w',sN C c n l kn kr E' s'=some r->Rel C f ψ' E' s' a' w'->oN C.P l QQ a' w':=fun E' s' ψ' a' w' h' R'=>
   N7 hC hc sW hN l kn kr ho.2 hn hr E' s' h' ψ' a' w' QQ R' qn qr qp
  have h:CJ C c n x (sN C c n l kn kr) kr E s=some r:=h;unfold CJ at h;cases hy:DM x with
  |some ops=>
   rw[hy]at h;obtain⟨id,rfl⟩:=ZyK hy;exact Zyz hC hc ho.1 h (zM hC hc l kn kr hn hr) sW hN id R _ rest (fun ch a' w' s' e h1 h2=>qp ch a' w' s' e h1 h2)
  |none=>
   rw[hy]at h;exact Ou hC hc sW hN x .z _ _ kr ho.1 (zM hC hc l kn kr hn hr) (fun _ _ _ h=>by cases h) hr E s h ψ a w _ R (fun E' s' ψ' a' w' h' R' _=>rest E' s' ψ' a' w' h' R') (fun _ _ _ _ _ _ h=>by cases h) (fun E' s' ψ' a' w' h' R'=>qr E' s' ψ' a' w' h' R') (fun ch a' w' s' e h1 h2=>qp ch a' w' s' e h1 h2)
theorem gP.trans {fS fT iz:Ps} {s0 s1 s2:St} {w0 w1 w2:World} (hl:s0.length<=s1.length) (lN:s1.length<=s2.length) (h:gP C fS s0 w0 fT s1 w1) (k:gP C fT s1 w1 iz s2 w2):gP C fS s0 w0 iz s2 w2:=by
 refine⟨k.dA,h.ext.trans k.ext,fun x cb e=>?_⟩;rcases k.news x cb e with e|⟨i,rfl,h1,h2⟩
 ·rcases h.news x cb e with e|⟨i,rfl,h1,h2⟩
  ·exact .inl e
  ·exact .inr ⟨i,rfl,h1,by omega⟩
 ·exact .inr ⟨i,rfl,by omega,h2⟩
end
def mJ (C:aM) (E:Env):List ResultVar->(List DV->M β)->M β
 |[],K=>K []
 | .cell a t::r,K=>match E.get a with
  | .v (.ptr (some (i,o)))=>nL C.P t (bif ZI C.P t then M.load i o (C.P.cellsOf t) fun cs=>mJ C E r fun ds=>K (.agg cs::ds)else M.ar i o fun d=>mJ C E r fun ds=>K (d::ds))
  |_=>fail
 | .tmp _::_,_=>fail
def CG:Option Code->Option (Nat×FuncId×List Operand)
 |some (.region _ ⟨[⟨some td,.makeFunc (.func g) ⟨[]⟩ ⟨fI⟩,_,_,_,none⟩,⟨none,.defer ⟨.value (.tmp t'),⟨[]⟩,_⟩,_,_,_,none⟩]⟩ false)=>bif Nat.beq td t' then some (td,g,fI)else none
 |_=>none
def tk (P:Program) (ty:TypeId):Bool:=match P.underlying ty with
 |some (.interface _)=>true
 |_=>false
def Aq (P:Program) (m N:Nat):Code->Option Code
 | .seq (.region _ ⟨[⟨some t3,.call ⟨.builtin .recover,⟨[]⟩,_⟩,_,_,_,none⟩,⟨some t4,.binOp .neq ty (.tmp Sm) (.const .nilIface) _,_,_,_,none⟩]⟩ false) (.cond (.tmp Sn) b .skip)=>
  bif Nat.beq t3 Sm&&Nat.beq t4 Sn&& !Nat.beq t3 t4&&Nat.ble m t3&&Nat.ble m t4&&Nat.blt t3 N&&Nat.blt t4 N&&tk P ty then some b else none
 |_=>none
def J0:df->Bool
 | .u=>true
 |_=>false
def rM:List ResultVar->Nat->Bool
 |[],_=>true
 | .cell a _::r,t=> !Nat.beq a t&&rM r t
 | .tmp _::_,_=>false
noncomputable def Pk (C:aM) (k:Nat) (fn ez:Func) (c:Zg) (n:Nat) (args:List DV):M (List DV):=
 match fn.body,ez.body with
 |some code,some uh=>match CG ((lK code)[k]?),Aq C.P ez.nfree ez.ntmps uh with
  |some (td,_,fI),some gb=>
   bif DU (oD fn.ntmps) ((lK code).take k)&&DU (fun t=>oD fn.ntmps t&&rM fn.results.toList t) ((lK code).drop (k+1))&&tn (oD ez.ntmps) gb&&Nat.ble fn.params.size fn.ntmps&&Nat.blt td fn.ntmps&&rM fn.results.toList td
    &&Nat.beq fn.nfree 0&&Nat.beq ez.params.size 0&&ez.results.isEmpty&&Nat.ble ez.nfree ez.ntmps&&Nat.beq fI.length ez.nfree then
    vR (fn.params.toList.map (jZ C.P)) args fun ds=>
     let fin (E:Env):M (List DV):=mJ C E fn.results.toList fun ds=>M.ret ds
     sN C c n ((lK code).take k) (fun E=>M.ak (Nat.beq E.aX 0&&J0 (E.get td)) (u5 C E fI fun cs=>
      M.nc (sN C c n ((lK code).drop (k+1)) (fun _=>M.ret []) (fun _=>M.ret []) E)
       fun p=>bif p then M.nc (exec C [] c n gb .z (fun _=>M.ret []) (fun _ _=>fail) (fun _=>M.ret []) ⟨0,hZ 0 cs⟩) fun p=>bif p then fail else fin E
        else fin E)) fin ⟨0,hZ 0 ds⟩
   else fail
  |_,_=>fail
 |_,_=>fail
end Go.Gv
namespace Go.Gv
variable {β:Type}
section
variable {C:aM} {ψ:Ps} {s:St} {w:World} {g:FuncId} {ez:Func}
theorem Zri {P:Program} {m N:Nat} {c gb:Code} (h:Aq P m N c=some gb):
  ∃id t3 t4 ty aT rT rP rA eT sM eP eA,c= .seq (.region id #[⟨some t3,.call ⟨.builtin .recover, #[],aT⟩,rT,rP,rA,none⟩,⟨some t4,.binOp .neq ty (.tmp t3) (.const .nilIface) eT,sM,eP,eA,none⟩] false) (.cond (.tmp t4) gb .skip)/\
   t3≠t4/\m<=t3/\m<=t4/\t3<N/\t4<N/\tk P ty=true:=by
 unfold Aq at h;split at h
 ·rename_i id t3 aT rT rP rA t4 ty Sm eT sM eP eA Sn b
  cases hc:(Nat.beq t3 Sm&&Nat.beq t4 Sn&& !Nat.beq t3 t4&&Nat.ble m t3&&Nat.ble m t4&&Nat.blt t3 N&&Nat.blt t4 N&&tk P ty)with
  |false=>rw[hc]at h;cases h
  |true=>
   rw[hc]at h;simp only[cond_true,cQ]at h;subst h;simp only[aH]at hc;obtain⟨⟨⟨⟨⟨⟨⟨h1,h2⟩,h3⟩,h4⟩,h5⟩,h6⟩,h7⟩,h8⟩:=hc;cases bY h1;cases bY h2;refine⟨id,t3,t4,ty,aT,rT,rP,rA,eT,sM,eP,eA,rfl,?_,lC h4,lC h5,by rw[lB]at h6;exact h6,by rw[lB]at h7;exact h7,h8⟩;intro e;subst e;simp[tG]at h3
 ·cases h
theorem Zpn {P:Program} {ty:TypeId} (h:tk P ty=true): ∃ms,P.underlying ty=some (.interface ms):=by
 unfold tk at h;split at h
 ·rename_i ms AU;exact⟨ms,AU⟩
 ·cases h
theorem ZwP {P:Program} {ty:TypeId} (h:tk P ty=true) (d:Nat) (t:TypeId) (v:Value) (w:World):(Op.equalIn (d+1) ty (.iface t v) .nilIface).run P w= .ok false w:=by
 obtain⟨ms,hu⟩:=Zpn h;rw[Op.equalIn.eq_2,Sem.run_bind,Zi w hu];rfl
theorem Zwr {P:Program} {ty:TypeId} (h:tk P ty=true) (d:Nat) (w:World):(Op.equalIn (d+1) ty .nilIface .nilIface).run P w= .ok true w:=by
 obtain⟨ms,hu⟩:=Zpn h;rw[Op.equalIn.eq_2,Sem.run_bind,Zi w hu];rfl
theorem Zym {P:Program} {ty:TypeId} (h:tk P ty=true) (t:TypeId) (v:Value) (w:World):(binOp .neq ty (.iface t v) .nilIface).run P w= .ok (.bool true) w:=by
 have e:binOp .neq ty (.iface t v) .nilIface=(do let b <-Op.equal ty (.iface t v) .nilIface;pure (.bool !b)):=by
  unfold binOp;rfl
 rw[e,Sem.run_bind,show Op.equal ty (.iface t v) .nilIface=Op.equalIn (9999+1) ty (.iface t v) .nilIface from rfl,ZwP h];rfl
theorem Zz9 {P:Program} {ty:TypeId} (h:tk P ty=true) (w:World):(binOp .neq ty .nilIface .nilIface).run P w= .ok (.bool false) w:=by
 have e:binOp .neq ty .nilIface .nilIface=(do let b <-Op.equal ty .nilIface .nilIface;pure (.bool !b)):=by
  unfold binOp;rfl
 rw[e,Sem.run_bind,show Op.equal ty .nilIface .nilIface=Op.equalIn (9999+1) ty .nilIface .nilIface from rfl,Zwr h];rfl
theorem ZwS {P:Program} {ops:Array Oper} {Q:Exit->Act->List Frame->World->Prop} {i:Nat} {rest:List Nat} {o:Oper} {a:Act} {cs cs':List Frame} {x:Value} (ho:ops[i]? =some o) (hg:o.guard=none) (he:(execOp a.eval o).run P w= .ok .recover w)
  (aD:(match recoverD cs with|some (v,cs')=>(v,cs')|none=>(Value.nilIface,cs))=(x,cs')) (h:wpOpsS P ops Q rest (a.put o.dst x) cs' w):wpOpsS P ops Q (i::rest) a cs w:=by
 simp only[wpOpsS,ho];rw[aF (by simp[Region.wanted,hg]),he];simp only;cases hr:recoverD cs with
 |none=>rw[hr]at aD;cases aD;exact h
 |some p=>rw[hr]at aD;cases aD;exact h
theorem Zwi {P:Program} {ops:Array Oper} {Q:Exit->Act->List Frame->World->Prop} {i:Nat} {rest:List Nat} {o:Oper} {a:Act} {cs:List Frame} {x:Value} (ho:ops[i]? =some o) (hg:o.guard=none) (he:(execOp a.eval o).run P w= .ok (.value x) w)
  (h:wpOpsS P ops Q rest (a.put o.dst x) cs w):wpOpsS P ops Q (i::rest) a cs w:=by
 simp only[wpOpsS,ho];rw[aF (by simp[Region.wanted,hg]),he];exact h
def yO (vs:Array Value) (N t3 t4:Nat) (x:Value) (b:Bool):Array Value:=((vs++Array.replicate (N-vs.size) Go.undef).setIfInBounds t3 x).setIfInBounds t4 (.bool b)
theorem Zj4 {gb:Code} {id t3 t4:Nat} {ty:TypeId} {aT:Array TypeId} {rT:TypeId} {rP:String} {rA:Array Edge} {eT sM:TypeId} {eP:String} {eA:Array Edge} {N:Nat} {vs:Array Value} (Ya:t3≠t4) (h3:t3<N) (h4:t4<N) (Yc:tk C.P ty=true)
  {Q:Exit->Act->List Frame->World->Prop} {sL:Frame} {cs:List Frame} {x:Value} {cs':List Frame} {b:Bool}
  (aD:(match recoverD (sL::cs)with|some (v,cs')=>(v,cs')|none=>(Value.nilIface,sL::cs))=(x,cs')) (hb:(binOp .neq ty x .nilIface).run C.P w= .ok (.bool b) w) (hx:(∃t v,x= .iface t v)\/x= .nilIface)
  (h:(bif b then gb else .skip).wpS C.P Q { tmps:=yO vs N t3 t4 x b,defers:=[] } cs' w):
  (Code.seq (.region id #[⟨some t3,.call ⟨.builtin .recover, #[],aT⟩,rT,rP,rA,none⟩,⟨some t4,.binOp .neq ty (.tmp t3) (.const .nilIface) eT,sM,eP,eA,none⟩] false) (.cond (.tmp t4) gb .skip)).wpS C.P Q { tmps:=vs++Array.replicate (N-vs.size) Go.undef,defers:=[] } (sL::cs) w:=by
 have bC:N<=(vs++Array.replicate (N-vs.size) Go.undef).size:=by simp;omega
 refine wpS_seq (wpS_region ?_);have e1: ∀ev:Operand->Value,(execOp ev ⟨some t3,.call ⟨.builtin .recover, #[],aT⟩,rT,rP,rA,none⟩).run C.P w= .ok .recover w:=fun _=>rfl
 have fin:wpOpsS C.P #[⟨some t3,.call ⟨.builtin .recover, #[],aT⟩,rT,rP,rA,none⟩,⟨some t4,.binOp .neq ty (.tmp t3) (.const .nilIface) eT,sM,eP,eA,none⟩] (Exit.thenS ((Code.cond (.tmp t4) gb .skip).wpS C.P Q) Q) [1] (({ tmps:=vs++Array.replicate (N-vs.size) Go.undef,defers:=[] } :Act).put (some t3) x) cs' w:=by
  have P9:(({ tmps:=vs++Array.replicate (N-vs.size) Go.undef,defers:=[] } :Act).put (some t3) x).eval (.tmp t3)=x:=by
   simp only[Act.put,Act.eval];rw[lT,yX (by omega)];rfl
  have e2:(execOp (({ tmps:=vs++Array.replicate (N-vs.size) Go.undef,defers:=[] } :Act).put (some t3) x).eval ⟨some t4,.binOp .neq ty (.tmp t3) (.const .nilIface) eT,sM,eP,eA,none⟩).run C.P w= .ok (.value (.bool b)) w:=by
   show(do let v <-(do eqGuard .neq ty (.tmp t3) (.const .nilIface) (Act.eval _ (.tmp t3)) (Act.eval _ (.const .nilIface));binOp .neq ty (Act.eval _ (.tmp t3)) (Act.eval _ (.const .nilIface)));pure (Next.value v):Sem Next).run C.P w=_;rw[P9];have hg:(eqGuard .neq ty (.tmp t3) (.const .nilIface) x .nilIface).run C.P w= .ok () w:=by
    rcases hx with⟨t,v,rfl⟩|rfl<;>rfl
   show((do eqGuard .neq ty (.tmp t3) (.const .nilIface) x .nilIface;binOp .neq ty x .nilIface:Sem Value)>>= fun v=>pure (Next.value v)).run C.P w=_;rw[Sem.run_bind,Sem.run_bind,hg,Result.andThen_ok,hb];rfl
  refine Zwi (o:=⟨some t4,.binOp .neq ty (.tmp t3) (.const .nilIface) eT,sM,eP,eA,none⟩) rfl rfl e2 ?_;show Exit.thenS _ Q .normal _ cs' w;refine wpS_cond (t:=b) ?_ ?_
  ·simp only[Act.put,Act.eval]
   rw[lT,yX (by simp;omega)];rfl
  ·cases b<;>exact h
 show wpOpsS C.P _ _ [0,1] _ _ _;exact ZwS (o:=⟨some t3,.call ⟨.builtin .recover, #[],aT⟩,rT,rP,rA,none⟩) rfl rfl (e1 _) aD fin
theorem Zmz {fn:Func} (h:fn.results.isEmpty=true) (tmps:Array Value) (P:Program) (w:World):(results fn tmps).run P w= .ok (.tuple #[]) w:=by
 have e:fn.results= #[]:=by simpa using h
 simp[results,e]
theorem Zs7 {gb uh:Code} {vs:Array Value} (yb:C.P.funcs[g]? =some ez) (lM:ez.body=some uh) (hd:Aq C.P ez.nfree ez.ntmps uh=some gb) (Dx:ez.results.isEmpty=true):
  CallsD C.P g vs .returning w fun e u' w'=>e= .returned (.tuple #[])/\u'= .returning/\w'=w:=by
 obtain⟨id,t3,t4,ty,aT,rT,rP,rA,eT,sM,eP,eA,rfl,bp,_,_,h3,h4,nD⟩:=Zri hd;refine callsD_of_wpS yb lM fun sL cs hu=>?_
 refine Zj4 (x:= .nilIface) (b:=false) bp h3 h4 nD (cs':=sL::cs) ?_ (Zz9 nD w) (.inr rfl) ?_
 ·simp only[recoverD,hu]
 ·refine wpS_of_wp (wp_skip ?_)
  refine⟨rfl,.returning,?_,_,Zmz Dx _ _ _,rfl,rfl,rfl⟩;cases sL;simp only at hu;subst hu;rfl
theorem Zvw (hF:BA C) {c:Zg} (hc:ZA C c) {n:Nat} {gb uh:Code} {vs:List Value} {ds:List DV} (yb:C.P.funcs[g]? =some ez) (lM:ez.body=some uh) (hd:Aq C.P ez.nfree ez.ntmps uh=some gb) (Dx:ez.results.isEmpty=true)
  (dN:tn (oD ez.ntmps) gb=true) (hm:vs.length=ez.nfree) (hmN:ez.nfree<=ez.ntmps) {ds0:List DV} {s3:St} (h:exec C [] c n gb .z (fun _=>M.ret []) (fun _ _=>fail) (fun _=>M.ret []) ⟨0,hZ 0 ds⟩ s=some (.val ds0,s3))
  (uI:dP C ψ (CS s) w) (CW:nW ψ w) (yc:Glob C ψ) (kq:aR C ψ ds vs) (wj: ∀v,ψ (.inr v)=none) (DF: ∀i,s.length<=i->i<s3.length->ψ (.inl i)=none) {ch:List PanicEntry} (nv:lF ch):
  CallsD C.P g vs.toArray (.panicking ch) w fun e u' w'=>e= .returned (.tuple #[])/\settle u'= .returning/\∃ψ',gP C ψ s w ψ' s3 w':=by
 obtain⟨id,t3,t4,ty,aT,rT,rP,rA,eT,sM,eP,eA,rfl,bp,wz,JB,h3,h4,nD⟩:=Zri hd;obtain⟨pt,pv,rfl⟩:=nv;refine callsD_of_wpS yb lM fun sL cs hu=>?_
 refine Zj4 (x:= .iface pt pv) (b:=true) bp h3 h4 nD (cs':= { sL with mode:= .panicking [{ v:= .iface pt pv,recovered:=true }] } ::cs) ?_ (Zym nD _ _ w) (.inl ⟨_,_,rfl⟩) ?_
 ·simp only[recoverD,hu]
 simp only[cond_true];have lk: ∀r:Out (List DV)×St,Lk (fun _:Env=>(M.ret []:M (List DV))) r:=by
  intro r E s' h';simp only[M.ret,cQ]at h';subst h';exact aA _
 have jV:ds.length=vs.length:=kq.len
 let f:Fr:=⟨s3.length,ez.ntmps,ψ,s,w,oD ez.ntmps,fun x h=>by unfold oD at h;rw[lB]at h;exact h,fun t=>(yO vs.toArray ez.ntmps t3 t4 (.iface pt pv) true).getD t Go.undef,[]⟩
 have rq: ∀t,(⟨0,hZ 0 ds⟩:Env).get t=match ds[t]? with|some d=> .v d|none=> .u:=by
  intro t;have:=HT 0 ds t;simp only[bH,iA,se]at this;exact this
 have lQ: ∀t v,((⟨0,hZ 0 ds⟩:Env).get t).bT≠some v:=by
  intro t v;rw[rq];cases ds[t]? <;>simp[df.bT]
 have vO: ∀h ab,CR ⟨0,hZ 0 ds⟩ s h ab->CS s h ab:=by
  intro h ab c;cases h with
  |inl i=>exact⟨i,rfl,c⟩
  |inr v=>
   rcases c with⟨t,n,cs,e,_⟩|⟨t,l,p,e,_⟩
   ·exact absurd (by rw[e];rfl) (lQ t v)
   ·exact absurd (by rw[e];rfl) (lQ t v)
 have R:Rel C f ψ ⟨0,hZ 0 ds⟩ s { tmps:=yO vs.toArray ez.ntmps t3 t4 (.iface pt pv) true,defers:=[] } w:=by
  refine⟨uI.weaken fun _ _ _ _ c=>vO _ _ c,⟨fun t v e=>absurd e (lQ t v),fun t r v o e=>?_,fun t v n cs e=>absurd (by rw[e];rfl) (lQ t v),fun t t' v e _=>absurd e (lQ t v)⟩,CW,yc,fun t=>?_,?_,rfl,DF,fun v _=>wj v,(Ext.refl ψ (CS s) w).weaken fun _ _ _ _ c=>vO _ _ c,fun i cb e=> .inl e,aA _,wj⟩
  ·rw[rq]at e
   cases hd:ds[t]? <;>rw[hd]at e<;>cases e
  ·rw[rq]
   cases hd:ds[t]? with
   |none=>trivial
   |some d=>
    obtain⟨v,hv,hr⟩:=kq.get hd;have aj:=(cw.1 hv).1;have:(yO vs.toArray ez.ntmps t3 t4 (.iface pt pv) true).getD t Go.undef=v:=by
     unfold yO;rw[lT,wY (by omega),wY (by omega),Ep (by simpa using aj)];simp[hv]
    show ef C ψ (.v d) _;rw[this];exact hr
  ·refine⟨?_,fun _ _=>rfl⟩
   show(yO vs.toArray ez.ntmps t3 t4 (.iface pt pv) true).size=ez.ntmps;simp[yO];omega
 refine wpS_of_wp ?_;have done: ∀ {E':Env} {s':St} {ψ':Ps} {a':Act} {w':World},(M.ret []:M (List DV)) s'=some (.val ds0,s3)->Rel C f ψ' E' s' a' w'->
   a'.defers=[]/\∃u',({ sL with mode:= .panicking [{ v:= .iface pt pv,recovered:=true }] } ::cs:List Frame)= { sL with mode:=u' } ::cs/\∃v,(results ez a'.tmps).run C.P w'= .ok v w'/\Ending.returned v= .returned (.tuple #[])/\settle u'= .returning/\∃ψ',gP C ψ s w ψ' s3 w':=by
  intro E' s' ψ' a' w' h' R';simp only[M.ret,cQ,xf]at h';obtain⟨_,rfl⟩:=h';exact⟨R'.defs,_,rfl,_,Zmz Dx _ _ _,rfl,rfl,_,R'.ub⟩
 refine Ou hF.cfg hc hF.I5 (f:=f) (aA _) gb .z _ _ _ dN (lk _) (fun i E s h=>by cases h) (lk _) _ s h ψ _ w _ R ?_ ?_ ?_ ?_
 ·intro E' s' ψ' a' w' h' R' _;exact done h' R'
 ·intro i E' s' ψ' a' w' h' _ _;cases h'
 ·intro E' s' ψ' a' w' h' R';exact done h' R'
 ·intro ch a' w' s' e;cases e
end
end Go.Gv
namespace Go.Gv
variable {β:Type}
section
variable {C:aM} {ψ:Ps} {E:Env} {s:St} {w:World}
def Cu (ψ:Ps) (E:Env) (tmps:Array Value) (l:List ResultVar):Prop:=
 ∀a t,ResultVar.cell a t∈l->∀i o,E.get a= .v (.ptr (some (i,o)))->∃cb:CB,ψ (.inl i)=some cb/\tmps.getD a undef= .pointer (some ⟨cb.b,cb.o+o,none⟩)
theorem N5 (hs:dP C ψ (CS s) w) {tmps:Array Value} {r:Out β×St} : ∀ {l:List ResultVar} {K:List DV->M β},Cu ψ E tmps l->mJ C E l K s=some r->∃ds vs,K ds s=some r/\aR C ψ ds vs/\(l.mapM (IE tmps)).run C.P w= .ok vs w
 |[],K,_,h=>⟨[],[],h,.nil,by simp⟩
 | .tmp t::l,K,_,h=>by cases h
 | .cell a t::l,K,hp,h=>by
  have db:Cu ψ E tmps l:=fun a t hm=>hp a t (oP _ hm)
  simp only[mJ]at h;cases hx:E.get a with
  |v d=>
   rw[hx]at h;cases d with
   |ptr p=>
    cases p with
    |none=>cases h
    |some q=>
     obtain⟨i,o⟩:=q;simp only at h;obtain⟨cb,e1,e3⟩:=hp a t (by simp) i o hx;obtain⟨td,ht,h⟩:=mb h;have asA:(asAddr (tmps.getD a undef)).run C.P w= .ok ⟨cb.b,cb.o+o,none⟩ w:=by rw[e3];rfl
     cases gQ:ZI C.P t with
     |true=>
      rw[gQ]at h;simp only[cond_true]at h;obtain⟨fz,cs,bE,hn,h⟩:=B1 h;have hh:=hs.holds (.inl i) cb _ e1 ⟨i,rfl,bE⟩;obtain⟨ds,vs,hk,hr,cD⟩:=N5 hs db h;obtain⟨vc,hv,_,iI,h1⟩:=G9 (P:=C.P) hh (p:=o) (n:=C.P.cellsOf t) hn;refine⟨_,_,hk,.cons _ _ _ _ (.agg _ vc iI h1) hr,Cb ?_ cD⟩;show(do loadVar t (<-asAddr (tmps.getD a undef)):Sem Value).run C.P w=_;rw[Sem.run_bind,asA,Result.andThen_ok];exact FF ht gQ _ w hv
     |false=>
      rw[gQ]at h;simp only[cond_false]at h;unfold M.ar at h;cases kV:s.cells i with
      |none=>rw[kV]at h;cases h
      |some cs=>
       rw[kV]at h;simp only at h;cases hd:cs[o]? with
       |none=>rw[hd]at h;cases h
       |some d=>
        rw[hd]at h;simp only at h;have bE: ∃f,cj s i=some (.cells f cs):=by
         unfold St.cells at kV;split at kV
         ·rename_i bk uo
          cases kV;exact⟨bk.jA,by simp only[cj,uo]⟩
         ·cases kV
        obtain⟨fz,bE⟩:=bE;have hh:=hs.holds (.inl i) cb _ e1 ⟨i,rfl,bE⟩;obtain⟨ds,vs,hk,hr,cD⟩:=N5 hs db h;obtain⟨y,hv,iI,_⟩:=HO (P:=C.P) hh hd;refine⟨_,_,hk,.cons _ _ _ _ iI hr,Cb ?_ cD⟩;show(do loadVar t (<-asAddr (tmps.getD a undef)):Sem Value).run C.P w=_;rw[Sem.run_bind,asA,Result.andThen_ok];exact BG ht gQ _ w hv
   |_=>cases h
  |_=>rw[hx]at h;cases h
theorem N0 {s s':St} {o:Out (List DV)} : ∀ {l:List ResultVar} {K:List DV->M (List DV)},mJ C E l K s=some (o,s')->(∀ds s o s',K ds s=some (o,s')->s'=s)->s'=s
 |[],K,h,hK=>hK _ _ _ _ h
 | .tmp t::l,K,h,_=>by cases h
 | .cell a t::l,K,h,hK=>by
  simp only[mJ]at h;cases hx:E.get a with
  |v d=>
   rw[hx]at h;cases d with
   |ptr p=>
    cases p with
    |none=>cases h
    |some q=>
     simp only at h;obtain⟨td,ht,h⟩:=mb h;cases gQ:ZI C.P t with
     |true=>
      rw[gQ]at h;simp only[cond_true]at h;obtain⟨_,_,_,_,h⟩:=B1 h;exact N0 h fun ds s o s' h=>hK _ s o s' h
     |false=>
      rw[gQ]at h;simp only[cond_false]at h;unfold M.ar at h;split at h
      ·split at h
       ·exact N0 h fun ds s o s' h=>hK _ s o s' h
       ·cases h
      ·cases h
   |_=>cases h
  |_=>rw[hx]at h;cases h
theorem Zs6: ∀ {l:List ResultVar} {t:Nat},rM l t=true->∀a u,ResultVar.cell a u∈l->a≠t
 |[],_,_,a,u,hm=>by cases hm
 | .tmp _::_,_,h,_,_,_=>by cases h
 | .cell b v::l,t,h,a,u,hm=>by
  simp only[rM,aH,gZ]at h;rcases cd.1 hm with e|hm
  ·cases e
   intro e;subst e;rw[tG]at h;cases h.1
  ·exact Zs6 h.2 a u hm
theorem Zrl: ∀ {l:List ResultVar} (_: ∀t,ResultVar.tmp t∉l) {a u:Nat},ResultVar.cell a u∈l->rM l a=false
 |[],_,a,u,hm=>by cases hm
 | .tmp t::_,h,_,_,_=>absurd (by simp) (h t)
 | .cell b v::l,h,a,u,hm=>by
  simp only[rM];rcases cd.1 hm with e|hm
  ·cases e;rw[tG];rfl
  ·rw[Zrl (fun t ht=>h t (oP _ ht)) hm,rY]
theorem ZxK {c:Option Code} {td:Nat} {g:FuncId} {fI:List Operand} (h:CG c=some (td,g,fI)):
  ∃id t1 p1 a1 aT t2 p2 a2,c=some (.region id #[⟨some td,.makeFunc (.func g) #[] fI.toArray,t1,p1,a1,none⟩,⟨none,.defer ⟨.value (.tmp td), #[],aT⟩,t2,p2,a2,none⟩] false):=by
 unfold CG at h;split at h
 ·rename_i id td' g' Yf t1 p1 a1 t' aT t2 p2 a2
  cases hb:Nat.beq td' t' with
  |false=>rw[hb]at h;cases h
  |true=>
   rw[hb]at h;cases bY hb;simp only[cond_true,cQ,xf]at h;obtain⟨rfl,rfl,rfl⟩:=h;exact⟨id,t1,p1,a1,aT,t2,p2,a2,rfl⟩
 ·cases h
theorem Zxh {P:Program} {ops:Array Oper} {Q:Exit->Act->World->Prop} {i:Nat} {rest:List Nat} {o:Oper} {a:Act} {x:Value} (ho:ops[i]? =some o) (hg:o.guard=none) (he:(execOp a.eval o).run P w= .ok (.value x) w)
  (h:wpOps P ops Q rest (a.put o.dst x) w):wpOps P ops Q (i::rest) a w:=by
 simp only[wpOps,ho];rw[aF (by simp[Region.wanted,hg])];left;unfold Oper.wp;rw[he];exact h
theorem Zu7 {P:Program} {ops:Array Oper} {Q:Exit->Act->World->Prop} {i:Nat} {rest:List Nat} {o:Oper} {a:Act} {d:Deferred} (ho:ops[i]? =some o) (hg:o.guard=none) (he:(execOp a.eval o).run P w= .ok (.defer d) w)
  (h:wpOps P ops Q rest ({ a with defers:=d::a.defers }.put o.dst Go.undef) w):wpOps P ops Q (i::rest) a w:=by
 simp only[wpOps,ho];rw[aF (by simp[Region.wanted,hg])];left;unfold Oper.wp;rw[he];exact h
end
theorem ZoD {m:M (List DV)} {H:Bool->M β} {s:St} {r:Out β×St} (h:M.nc m H s=some r):(∃ds s2,m s=some (.val ds,s2)/\H false s2=some r)\/(∃s2,m s=some (.cy,s2)/\H true s2=some r):=by
 unfold M.nc at h;cases hm:m s with
 |none=>rw[hm]at h;cases h
 |some p=>
  obtain⟨o,s2⟩:=p;rw[hm]at h;cases o with
  |val ds=>exact .inl ⟨ds,s2,rfl,h⟩
  |cy=>exact .inr ⟨s2,rfl,h⟩
theorem ZAn {α:Type} {l:List α} {k:Nat} {x:α} (h:l[k]? =some x):l=l.take k++x::l.drop (k+1):=by
 obtain⟨hk,rfl⟩:=cw.1 h;rw[<-hJ hk,nU]
theorem vG (r:Out (List DV)×St):Lk (fun _:Env=>(M.ret []:M (List DV))) r:=by
 intro E s' h';simp only[M.ret,cQ]at h';subst h';exact aA _
def isG (k:Nat) (fn:Func) (g:FuncId):Bool:=match fn.body with
 |some code=>match CG ((lK code)[k]?)with
  |some (_,g',_)=>Nat.beq g' g
  |none=>false
 |none=>false
set_option maxHeartbeats 1000000 in
theorem ZyJ {C:aM} (hF:BA C) {c:Zg} (hc:ZA C c) {n k:Nat} {fn ez:Func} {qj g:FuncId} (hfn:C.P.funcs[qj]? =some fn) (nB:(fn.name== "runtime.NumGoroutine")=false) (yb:C.P.funcs[g]? =some ez) (VV:(ez.name== "runtime.NumGoroutine")=false) (hg:isG k fn g=true)
  {args:List DV} {s:St} {out:Out (List DV)×St} (h:Pk C k fn ez c n args s=some out):Ix C qj args s out:=by
 unfold Pk at h;cases hb:fn.body with
 |none=>rw[hb]at h;cases h
 |some code=>
 cases lM:ez.body with
 |none=>rw[hb,lM]at h;cases h
 |some uh=>
 rw[hb,lM]at h;simp only at h;cases hd:CG ((lK code)[k]?)with
 |none=>rw[hd]at h;cases h
 |some p=>
 obtain⟨td,g',fI⟩:=p;cases x0:Aq C.P ez.nfree ez.ntmps uh with
 |none=>rw[hd,x0]at h;cases h
 |some gb=>
 rw[hd,x0]at h;simp only at h;have:g'=g:=by unfold isG at hg;rw[hb]at hg;simp only at hg;rw[hd]at hg;exact bY hg
 subst this;obtain⟨dN,h⟩:=Zp h;simp only[aH]at dN;obtain⟨⟨⟨⟨⟨⟨⟨⟨⟨⟨k1,k2⟩,k3⟩,k4⟩,k5⟩,k6⟩,k7⟩,k8⟩,k9⟩,Rp⟩,Rq⟩:=dN;have k4:=lC k4;have k5:td<fn.ntmps:=by rw[lB]at k5;exact k5
 have k7:=bY k7;have Rp:=lC Rp;have Rq:=bY Rq;obtain⟨ds,h,ow,lN,nu⟩:=BP h;have hlen:ds.length=fn.params.size:=by rw[lN];simp
 obtain⟨id,t1,p1,a1',aT,t2,p2,a2',hx⟩:=ZxK hd;have VE:=ZAn hx;have Dq: ∀t,ResultVar.tmp t∉fn.results.toList:=by
  intro t hm;have: ∀(l:List ResultVar) (u:Nat),rM l u=true->ResultVar.tmp t∉l:=by
   intro l;induction l with
   |nil=>intro u _ hm;cases hm
   |cons x l ih=>
    intro u hu hm;cases x with
    |tmp y=>cases hu
    |cell a v=>
     simp only[rM,aH]at hu;rcases cd.1 hm with e|hm
     ·cases e
     ·exact ih u hu.2 hm
  exact this _ _ k6 hm
 have Ax: ∀E s' r,mJ C E fn.results.toList (fun ds=>(M.ret ds:M (List DV))) s'=some r->r.2=s':=by
  intro E s' r h';obtain⟨o,s2⟩:=r;exact N0 h' fun ds s o s' h=>by simp only[M.ret,cQ,xf]at h;exact h.2.symm
 have lkf:Lk (fun E=>mJ C E fn.results.toList fun ds=>(M.ret ds:M (List DV))) out:=fun E s' h'=>by rw[Ax E s' out h'];exact aA _
 have half: ∀E s',(M.ak (Nat.beq E.aX 0&&J0 (E.get td)) (u5 C E fI fun cs=>
      M.nc (sN C c n ((lK code).drop (k+1)) (fun _=>M.ret []) (fun _=>M.ret []) E)
       fun p=>bif p then M.nc (exec C [] c n gb .z (fun _=>M.ret []) (fun _ _=>fail) (fun _=>M.ret []) ⟨0,hZ 0 cs⟩) fun p=>bif p then fail else mJ C E fn.results.toList fun ds=>(M.ret ds:M (List DV))
        else mJ C E fn.results.toList fun ds=>(M.ret ds:M (List DV)))) s'=some out->
   E.aX=0/\E.get td= .u/\∃cs o s2,SV C E fI cs/\sN C c n ((lK code).drop (k+1)) (fun _=>M.ret []) (fun _=>(M.ret []:M (List DV))) E s'=some (o,s2)/\s'.length<=s2.length/\
    (((∃x,o= .val x)/\mJ C E fn.results.toList (fun ds=>(M.ret ds:M (List DV))) s2=some out)\/
     (o= .cy/\∃x s3,exec C [] c n gb .z (fun _=>M.ret []) (fun _ _=>fail) (fun _=>(M.ret []:M (List DV))) ⟨0,hZ 0 cs⟩ s2=some (.val x,s3)/\s2.length<=s3.length/\mJ C E fn.results.toList (fun ds=>(M.ret ds:M (List DV))) s3=some out)):=by
  intro E s' h';obtain⟨jg,h'⟩:=ZM h';rw[aH]at jg;have hu:E.get td= .u:=by
   have:=jg.2;unfold J0 at this;cases he:E.get td<;>rw[he]at this<;>first|rfl|cases this
  obtain⟨cs,h',JR⟩:=BX h';refine⟨bY jg.1,hu,cs,?_⟩;rcases ZoD h' with⟨x,s2,hm,hf⟩|⟨s2,hm,hf⟩
  ·exact⟨_,s2,JR,hm,zM (r:=(.val x,s2)) hF.cfg hc _ _ _ (vG _) (vG _) E s' hm,.inl ⟨⟨x,rfl⟩,hf⟩⟩
  ·simp only[cond_true]at hf
   rcases ZoD hf with⟨x,s3,dH,hf⟩|⟨s3,_,hf⟩
   ·exact⟨_,s2,JR,hm,zM (r:=(.cy,s2)) hF.cfg hc _ _ _ (vG _) (vG _) E s' hm,.inr ⟨rfl,x,s3,dH,Cd (r:=(.val x,s3)) hF.cfg hc gb .z _ _ _ (vG _) (fun _ _ _ h=>by cases h) (vG _) _ s2 dH,hf⟩⟩
   ·cases hf
 have lkh:Lk (fun E=>M.ak (Nat.beq E.aX 0&&J0 (E.get td)) (u5 C E fI fun cs=>
      M.nc (sN C c n ((lK code).drop (k+1)) (fun _=>M.ret []) (fun _=>M.ret []) E)
       fun p=>bif p then M.nc (exec C [] c n gb .z (fun _=>M.ret []) (fun _ _=>fail) (fun _=>M.ret []) ⟨0,hZ 0 cs⟩) fun p=>bif p then fail else mJ C E fn.results.toList fun ds=>(M.ret ds:M (List DV))
        else mJ C E fn.results.toList fun ds=>(M.ret ds:M (List DV)))) out:=by
  intro E s' h';obtain⟨_,_,cs,o,s2,_,_,hl,hh⟩:=half E s' h';rcases hh with⟨_,hf⟩|⟨_,x,s3,_,wv,hf⟩
  ·rw[Ax E s2 out hf];exact hl
  ·rw[Ax E s3 out hf];omega
 refine⟨zM hF.cfg hc _ _ _ lkh lkf _ s h,fun ψ w vs uI CW yc iG wj DF=>?_⟩;have kq:=nu C ψ vs iG;have uJ:=kq.len;unfold tV;have pw:(callFunc qj vs.toArray).run C.P w= .ok (.enter qj vs.toArray) w:=by
  have rE: ¬fn.name= "runtime.NumGoroutine" :=by simpa using nB
  simp[callFunc,hfn,rE,hb]
 rw[pw];refine calls_of_wp_defers hfn hb (ZzL _ _ _ _ ?_)
 let f:Fr:=⟨out.2.length,fn.ntmps,ψ,s,w,oD fn.ntmps,fun x h=>by unfold oD at h;rw[lB]at h;exact h,fun t=>(vs.toArray++Array.replicate (fn.ntmps-vs.toArray.size) Go.undef).getD t Go.undef,[]⟩
 have rq: ∀t,(⟨0,hZ 0 ds⟩:Env).get t=match ds[t]? with|some d=> .v d|none=> .u:=by
  intro t;have:=HT 0 ds t;simp only[bH,iA,se]at this;exact this
 have lQ: ∀t v,((⟨0,hZ 0 ds⟩:Env).get t).bT≠some v:=by
  intro t v;rw[rq];cases ds[t]? <;>simp[df.bT]
 have vO: ∀h ab,CR ⟨0,hZ 0 ds⟩ s h ab->CS s h ab:=by
  intro h ab c;cases h with
  |inl i=>exact⟨i,rfl,c⟩
  |inr v=>
   rcases c with⟨t,n,cs,e,_⟩|⟨t,l,p,e,_⟩
   ·exact absurd (by rw[e];rfl) (lQ t v)
   ·exact absurd (by rw[e];rfl) (lQ t v)
 have R:Rel C f ψ ⟨0,hZ 0 ds⟩ s { tmps:=vs.toArray++Array.replicate (fn.ntmps-vs.toArray.size) Go.undef,defers:=[] } w:=by
  refine⟨uI.weaken fun _ _ _ _ c=>vO _ _ c,⟨fun t v e=>absurd e (lQ t v),fun t r v o e=>?_,fun t v n cs e=>absurd (by rw[e];rfl) (lQ t v),fun t t' v e _=>absurd e (lQ t v)⟩,CW,yc,fun t=>?_,?_,rfl,DF,fun v _=>wj v,(Ext.refl ψ (CS s) w).weaken fun _ _ _ _ c=>vO _ _ c,fun i cb e=> .inl e,aA _,wj⟩
  ·rw[rq]at e
   cases hd:ds[t]? <;>rw[hd]at e<;>cases e
  ·rw[rq]
   cases hd:ds[t]? with
   |none=>trivial
   |some d=>
    obtain⟨v,hv,hr⟩:=kq.get hd;have:(vs.toArray++Array.replicate (fn.ntmps-vs.toArray.size) Go.undef).getD t Go.undef=v:=by
     have aj:=(cw.1 hv).1;rw[lT,Ep (by simpa using aj)];simp[hv]
    show ef C ψ (.v d) _;rw[this];exact hr
  ·refine⟨?_,fun _ _=>rfl⟩
   show(vs.toArray++Array.replicate (fn.ntmps-vs.toArray.size) Go.undef).size=fn.ntmps;simp only[Array.size_append,Array.size_replicate,List.size_toArray];omega
 have done: ∀ {E':Env} {s':St} {ψ':Ps} {tmps:Array Value} {w':World},mJ C E' fn.results.toList (fun ds=>(M.ret ds:M (List DV))) s'=some out->gP C ψ s w ψ' s' w'->Cu ψ' E' tmps fn.results.toList->
   ∃v,(results fn tmps).run C.P w'= .ok v w'/\∃ds,out.1= .val ds/\∃ψ',gP C ψ s w ψ' out.2 w'/\vn C ψ' ds v:=by
  intro E' s' ψ' tmps w' h' cp hp;obtain⟨iP,gz,hk,hr,cD⟩:=N5 cp.dA hp h';simp only[M.ret,cQ]at hk;refine⟨_,Zni cD,iP,by rw[<-hk],ψ',?_,?_⟩
  ·rw[<-hk];exact cp
  ·by_cases h1:gz.length=1
   ·rw[dif_pos h1]
    cases hr with
    |nil=>cases h1
    |cons d v ds vs a b=>
     cases b with
     |nil=>exact .inl ⟨d,rfl,a⟩
     |cons _ _ _ _ _ _=>simp at h1
   ·rw[dif_neg h1]
    exact .inr ⟨by rw[hr.len];exact h1,_,rfl,hr⟩
 have UB: ∀ {ψ':Ps} {E':Env} {tmps:Array Value},(∀t,ef C ψ' (E'.get t) (tmps.getD t Go.undef))->Cu ψ' E' tmps fn.results.toList:=by
  intro ψ' E' tmps hr a t _ i o he;have:=hr a;rw[he]at this;have this:VR C ψ' (.ptr (some (i,o))) (tmps.getD a Go.undef):=this;generalize tmps.getD a Go.undef=v at this;cases this with
  |ptr _ _ cb e=>exact⟨cb,e,rfl⟩
 rw[VE,Oj];refine N7 hF.cfg hc hF.I5 (f:=f) (aA _) _ _ _ k1 lkh lkf _ s h ψ _ w _ R ?_ ?_ ?_
 ·
  intro E1 s1 fT a1 w1 h1 R1;obtain⟨AW,hu,cs,o,s2,JR,hm,Jv,hh⟩:=half E1 s1 h1;show Code.wp C.P _ _ a1 w1;have Rm: ∀v,fT (.inr v)=none:=fun v=>R1.qO v (by rw[AW];exact bH _)
  have e1:kt fT=fT:=by
   funext x;cases x with
   |inl i=>rfl
   |inr v=>exact(Rm v).symm
  have Po:=R1.ub;rw[e1]at Po;have Jo: ∀h ab,CR E1 s1 h ab->CS s1 h ab:=by
   intro h ab c;cases h with
   |inl i=>exact⟨i,rfl,c⟩
   |inr v=>
    rcases c with⟨t,n,cs,e,_⟩|⟨t,l,p,e,_⟩
    ·have:=R1.fe.lt t v (by rw[e];rfl);omega
    ·have:=R1.fe.lt t v (by rw[e];rfl);omega
  have hN2:s2.length<=out.2.length:=by
   rcases hh with⟨_,hf⟩|⟨_,x,s3,_,wv,hf⟩
   ·rw[Ax E1 s2 out hf];exact aA _
   ·rw[Ax E1 s3 out hf];exact wv
  have U9:aR C fT cs (fI.map a1.eval):=Ca (o:=⟨some td,.makeFunc (.func g') #[] fI.toArray,t1,p1,a1',none⟩) (D:=fun _=>True) R1.pre (fun x hx=>by simp[Op.operands];exact hx) JR;refine wp_region (Zxh (o:=⟨some td,.makeFunc (.func g') #[] fI.toArray,t1,p1,a1',none⟩) (x:= .func (.func g') #[] (fI.toArray.map a1.eval)) rfl rfl (by simp[execOp,Instr.makeFunc]) ?_);have WN:a1.tmps.size=fn.ntmps:=R1.kG.1;have P9:(a1.put (some td) (.func (.func g') #[] (fI.toArray.map a1.eval))).eval (.tmp td)= .func (.func g') #[] (fI.toArray.map a1.eval):=by
   simp only[Act.put,Act.eval];rw[lT,yX (by omega)];rfl
  refine Zu7 (o:=⟨none,.defer ⟨.value (.tmp td), #[],aT⟩,t2,p2,a2',none⟩) (d:= { target:= .fn (.func g') (fI.toArray.map a1.eval),args:= #[] }) rfl rfl ?_ ?_
  ·simp only[execOp,resolve,P9,Deferred.ofValue]
   simp
  show oN C.P ((lK code).drop (k+1)) _ _ w1
  let d:Deferred:= { target:= .fn (.func g') (fI.toArray.map a1.eval),args:= #[] }
  let a2:Act:= { tmps:=a1.tmps.setIfInBounds td (.func (.func g') #[] (fI.toArray.map a1.eval)),defers:=[d] }
  have AH:({ (a1.put (some td) (.func (.func g') #[] (fI.toArray.map a1.eval)))with defers:=d::(a1.put (some td) (.func (.func g') #[] (fI.toArray.map a1.eval))).defers } :Act).put none Go.undef=a2:=by
   have:a1.defers=[]:=R1.defs;simp only[Act.put,this,a2]
  show oN C.P ((lK code).drop (k+1)) _ (({ (a1.put (some td) (.func (.func g') #[] (fI.toArray.map a1.eval)))with defers:=d::(a1.put (some td) (.func (.func g') #[] (fI.toArray.map a1.eval))).defers } :Act).put none Go.undef) w1;rw[AH];have Uk: ∀t,t≠td->a2.tmps.getD t Go.undef=a1.tmps.getD t Go.undef:=by
   intro t ht;simp only[a2];rw[lT,lT,wY (Ne.symm ht)]
  let f2:Fr:=⟨s2.length,fn.ntmps,fT,s1,w1,fun t=>oD fn.ntmps t&&rM fn.results.toList t,fun x h=>by rw[aH]at h;have h:=h.1;unfold oD at h;rw[lB]at h;exact h,fun t=>a2.tmps.getD t Go.undef,[d]⟩
  have R2:Rel C f2 fT E1 s1 a2 w1:=by
   refine⟨R1.dA,R1.fe,R1.eV,R1.iR,fun t=>?_,⟨?_,fun _ _=>rfl⟩,rfl,fun i h1 h2=>R1.oL i h1 (j5 h2 hN2),R1.qO,(Ext.refl fT (CS s1) w1).weaken fun _ _ _ _ c=>Jo _ _ c,fun i cb e=> .inl e,aA _,Rm⟩
   ·by_cases ht:t=td
    ·subst ht;rw[hu];trivial
    ·rw[Uk t ht];exact R1.gW t
   ·show(a1.tmps.setIfInBounds _ _).size=fn.ntmps
    simp[WN]
  have hinv:(invoke (.fn (.func g') (fI.toArray.map a1.eval)) #[]).run C.P=fun w=> .ok (.enter g' (fI.map a1.eval).toArray) w:=by
   funext w';have rE: ¬ez.name= "runtime.NumGoroutine" :=by simpa using VV
   have:(#[]:Array Value)++fI.toArray.map a1.eval=(fI.map a1.eval).toArray:=by simp
   show(callFunc g' (#[]++fI.toArray.map a1.eval)).run C.P w'=_;rw[this];simp[callFunc,yb,rE,lM]
  have WY: ∀ {a':Act},Ks f2 a'->∀b u,ResultVar.cell b u∈fn.results.toList->a'.tmps.getD b Go.undef=a1.tmps.getD b Go.undef:=by
   intro a' hk b u hm;have dN:f2.ok b=false:=by
    show(oD fn.ntmps b&&rM fn.results.toList b)=false;rw[Zrl Dq hm,rY]
   rw[hk.2 b dN];exact Uk b (Zs6 k6 b u hm)
  have Xf:=UB R1.gW;have UA: ∀ {ψ':Ps} {a':Act},Ks f2 a'->(∀h cb,fT h=some cb->ψ' h=some cb)->Cu ψ' E1 a'.tmps fn.results.toList:=by
   intro ψ' a' hk Wa b u hm i o he;obtain⟨cb,h1,h2⟩:=Xf b u hm i o he;exact⟨cb,Wa _ _ h1,by rw[WY hk b u hm];exact h2⟩
  have I9: ∀ {E':Env} {s':St} {ψ':Ps} {a':Act} {w':World},(M.ret []:M (List DV)) s'=some (o,s2)->Rel C f2 ψ' E' s' a' w'->Leaves C.P fn a'.tmps (fun e w'=>match e,w' with
    | .returned v,w'=>∃ds,out.1= .val ds/\∃ψ',gP C ψ s w ψ' out.2 w'/\vn C ψ' ds v
    | .panicked ch,w'=>lF ch/\out.1= .cy/\∃ψ',gP C ψ s w ψ' out.2 w'
    | .outgrown,_=>False) a'.defers .returning w':=by
   intro E' s' ψ' a' w' h' R';simp only[M.ret,cQ,xf]at h';obtain⟨ho,gM⟩:=h';have ho:o= .val []:=ho.symm;have gM:s'=s2:=gM;subst gM;have P6:a'.defers=[d]:=R'.defs;rw[P6];refine leaves_cons (by simp) (by rw[hinv]) ?_;refine(Zs7 (vs:=(fI.map a1.eval).toArray) yb lM x0 k9).mono ?_;rintro e u' pP ⟨rfl,rfl,rfl⟩;have rp:=R'.ub;rcases hh with⟨_,hf⟩|⟨hp,_⟩
   ·exact done hf (Po.trans R1.len Jv rp) (UA R'.kG rp.ext.mono)
   ·rw[ho]at hp;cases hp
  refine N7 hF.cfg hc hF.I5 (f:=f2) (r:=(o,s2)) (aA _) _ _ _ k2 (vG _) (vG _) E1 s1 hm fT a2 w1 _ R2 ?_ ?_ ?_
  ·intro E' s' ψ' a' w' h' R';exact I9 h' R'
  ·intro E' s' ψ' a' w' h' R';exact I9 h' R'
  ·intro ch a' w' s' e hv hp
   cases e;rcases hh with⟨⟨x,hx⟩,_⟩|⟨_,x,s3,wz,wv,hf⟩
   ·cases hx
   obtain⟨iz,rp⟩:=hp.post;have P6:a'.defers=[d]:=hp.defs;show Leaves C.P fn a'.tmps _ a'.defers (.panicking ch) w';rw[P6];refine leaves_cons (by simp) (by rw[hinv]) ?_;have yr:out.2=s3:=Ax E1 s3 out hf;refine(Zvw hF hc (ψ:=iz) (s:=s2) (w:=w') (vs:=fI.map a1.eval) yb lM x0 k9 k3 (by simpa using Rq) Rp wz rp.dA (rp.ext.eV R1.eV) (rp.ext.iR R1.iR) (U9.mono (ψ:=fT) (ψ':=iz) fun _ _ e=>rp.ext.mono _ _ e) (fun v=>?_) (fun i h1 h2=>?_) hv).mono ?_
   ·cases rI:iz (.inr v)with
    |none=>rfl
    |some cb=>
     rcases rp.news _ _ rI with e|⟨i,e,_⟩
     ·have:=Rm v
      rw[show f2.fS=fT from rfl]at e;rw[this]at e;cases e
     ·cases e
   ·cases rI:iz (.inl i)with
    |none=>rfl
    |some cb=>
     rcases rp.news _ _ rI with e|⟨j,e,_,hj⟩
     ·have:=R1.oL i (eZ Jv h1) (by rw[<-yr]at h2;exact h2)
      rw[show f2.fS=fT from rfl]at e;rw[this]at e;cases e
     ·cases e;omega
   ·rintro e u' pP ⟨rfl,cu,En,cp3⟩
    show Leaves C.P fn a'.tmps _ [] (settle u') pP;rw[cu];have Vb:=(Po.trans R1.len Jv rp).trans (eZ R1.len Jv) wv cp3;exact done hf Vb (UA hp.ks fun _ _ e=>cp3.ext.mono _ _ (rp.ext.mono _ _ e))
 ·
  intro E' s' ψ' a' w' h' R';show Leaves C.P fn a'.tmps _ a'.defers .returning w';rw[show a'.defers=[]from R'.defs];refine done h' R'.ub fun b u hm i o he=>?_
  obtain⟨cb,h1,h2⟩:=UB R'.gW b u hm i o he;exact⟨cb,h1,h2⟩
 ·intro ch a' w' s' e hv hp
  show Leaves C.P fn a'.tmps _ a'.defers (.panicking ch) w';rw[show a'.defers=[]from hp.defs];obtain⟨ψ',db⟩:=hp.post;exact⟨hv,by rw[e],ψ',by rw[e];exact db⟩
end Go.Gv
namespace Go.Gv
theorem Zlm {P:Program} {f:FuncId} {fn:Func} {vs:Array Value} {w:World} {R:Ending->World->Prop} (hfn:P.funcs[f]? =some fn) (nB:(fn.name== "runtime.NumGoroutine")=false) (hb:fn.body.isSome=true)
  (h:Calls P f vs w R):tV P f vs w R:=by
 have rE: ¬fn.name= "runtime.NumGoroutine" :=by simpa using nB
 have e:(callFunc f vs).run P w= .ok (.enter f vs) w:=by
  cases cq:fn.body with
  |none=>rw[cq]at hb;cases hb
  |some c=>simp[callFunc,hfn,rE,cq]
 unfold tV;rw[e];exact h
end Go.Gv
namespace Go.Gv
end Go.Gv
