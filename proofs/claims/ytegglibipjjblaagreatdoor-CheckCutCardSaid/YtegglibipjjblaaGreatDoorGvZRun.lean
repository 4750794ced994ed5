/- What a region's operations do, one behind the other, as the machine takes them. -/
import Derived.Test.YtegglibipjjblaaGreatDoorGvZOps
import Derived.Laws.Externs
import Derived.Lib.Bytealg
import Derived.OrdersHeld
import Derived.Recover
import Derived.Defers
import Derived.Lib.Join
import Derived.Lib.Repeat
namespace Go.Gv
variable {β:Type}
structure Weak (E E':Env):Prop where
 nxt:E'.nxt=E.nxt
 get: ∀t,E'.get t=E.get t∨E'.get t= .u
def GW (dst:Nat→Option Nat) (E:Env) (o:Oper):Prop:=o.guard=none∨∃j w r,o.guard=some (j,w)∧dst j=some r∧E.get r= .v (.bool w)
def GU (dst:Nat→Option Nat) (E:Env) (o:Oper):Prop:=∃j w r,o.guard=some (j,w)∧dst j=some r∧((∃b,E.get r= .v (.bool b)∧b≠w)∨E.get r= .un)
section
variable (C:Cfg) (dst:Nat→Option Nat) (pr ms:List Nat)
inductive Step:Oper×Md→Env→St→Env→St→Prop
 |act {p:Oper×Md} {E s E' s'} :GW dst E p.1→OpF (Wof p.2 E) pr ms p.1 E s E' s'→OpOK C p.1 (Dof p.2 E) (Wof p.2 E) E s E' s'→Step p E s E' s'
 |skip {p:Oper×Md} {E s} :GU dst E p.1→Step p E s (E.putO p.1.dst .un) s
inductive Tr:List (Oper×Md)→Env→St→Env→St→Prop
 |nil (E s):Tr [] E s E s
 |weak {l E E1 s E2 s2} :Weak E E1→Tr l E1 s E2 s2→Tr l E s E2 s2
 |cons {p l E s E1 s1 E2 s2} :Step C dst pr ms p E s E1 s1→Tr l E1 s1 E2 s2→Tr (p::l) E s E2 s2
inductive TrP:List (Oper×Md)→Env→St→St→Prop
 |weak {l E E1 s s2} :Weak E E1→TrP l E1 s s2→TrP l E s s2
 |here {p l E s s'} :GW dst E p.1→p.2.x=0→OpPan C p.1 (Dof p.2 E) E s s'→TrP (p::l) E s s'
 |next {p l E s E1 s1 s2} :Step C dst pr ms p E s E1 s1→TrP l E1 s1 s2→TrP (p::l) E s s2
end
section
variable {C:Cfg} {dst:Nat→Option Nat} {pr ms:List Nat}
theorem Tr.append {l1 l2:List (Oper×Md)} {E E1 E2:Env} {s s1 s2:St} (h:Tr C dst pr ms l1 E s E1 s1) (k:Tr C dst pr ms l2 E1 s1 E2 s2):Tr C dst pr ms (l1++l2) E s E2 s2:=by
 induction h with
 |nil=>exact k
 |weak w _ ih=>exact .weak w (ih k)
 |cons st _ ih=>exact .cons st (ih k)
theorem TrP.left {l1:List (Oper×Md)} {E:Env} {s s2:St} (h:TrP C dst pr ms l1 E s s2) (l2:List (Oper×Md)):TrP C dst pr ms (l1++l2) E s s2:=by
 induction h with
 |weak w _ ih=>exact .weak w ih
 |here a b c=>exact .here a b c
 |next st _ ih=>exact .next st ih
theorem Tr.pan {l1 l2:List (Oper×Md)} {E E1:Env} {s s1 s2:St} (h:Tr C dst pr ms l1 E s E1 s1) (k:TrP C dst pr ms l2 E1 s1 s2):TrP C dst pr ms (l1++l2) E s s2:=by
 induction h with
 |nil=>exact k
 |weak w _ ih=>exact .weak w (ih k)
 |cons st _ ih=>exact .next st (ih k)
theorem ZlJ {r:Nat} : ∀ {l acc:List (Oper×Md)} {grp:List (Oper×Md)} {pk:Oper} {rest:List (Oper×Md)},Zf2 r acc l=some (grp,pk,rest)→
  ∃x y z,acc.reverse++l=grp++(pk,x)::rest∧pk.op= .pick (.tmp r) y z
 |[],acc,grp,pk,rest,h=>by cases h
 |(o,x)::l,acc,grp,pk,rest,h=>by
  simp only[Zf2]at h;have go:Zf2 r ((o,x)::acc) l=some (grp,pk,rest)→∃x' y z,acc.reverse++(o,x)::l=grp++(pk,x')::rest∧pk.op= .pick (.tmp r) y z:=by
   intro h;obtain⟨x',y,z,h1,h2⟩:=ZlJ h;exact⟨x',y,z,by rw[←h1];simp,h2⟩
  split at h
  ·rename_i t y z hop
   cases hb:Nat.beq t r with
   |true=>
    rw[hb]at h;simp only[cond_true,Option.some.injEq,Prod.mk.injEq]at h;obtain⟨rfl,rfl,rfl⟩:=h;have:=Nat.eq_of_beq_eq_true hb;subst this;exact⟨x,y,z,rfl,hop⟩
   |false=>rw[hb]at h;exact go h
  ·exact go h
theorem Zt9: ∀ {act:List (Nat×Bool)} {g:Nat×Bool},gHas act g=true→g∈act
 |[],_,h=>by cases h
 |(k,b)::r,g,h=>by
  simp only[gHas,Bool.or_eq_true,Bool.and_eq_true]at h;rcases h with⟨h1,h2⟩|h
  ·have e1:=Nat.eq_of_beq_eq_true h1
   have e2:b=g.2:=by simpa using h2
   have:g=(k,b):=by rw[e1,e2]
   rw[this];exact List.mem_cons_self
  ·exact List.mem_cons_of_mem _ (Zt9 h)
theorem ZhI {j:Nat} {w:Bool} {r:Nat} : ∀ {l:List (Oper×Md)} {sk:List Nat},grpOk pr dst j w r sk l=true→∀p∈l,¬Spec pr p.1∧p.1.dst≠some r
 |[],_,_,p,hp=>by cases hp
 |(o,x)::l,sk,h,p,hp=>by
  simp only[grpOk,Bool.and_eq_true]at h;obtain⟨⟨h1,_⟩,h3⟩:=h;have hsp: ¬Spec pr o:=by
   unfold Spec;intro hs;cases hop:o.op<;>rw[hop]at hs h1<;>simp only at hs h1<;>first|exact hs|(cases h1;done)|skip
   all_goals
    obtain⟨d,hd,hd2⟩:=hs;rw[hd]at h1;simp only at h1;rw[hd2]at h1;cases h1
  cases hd:o.dst with
  |none=>
   rw[hd]at h3;rcases List.mem_cons.1 hp with rfl|hp
   ·exact⟨hsp,by simp[hd]⟩
   ·exact ZhI h3 p hp
  |some d=>
   rw[hd]at h3;simp only[Bool.and_eq_true]at h3;rcases List.mem_cons.1 hp with rfl|hp
   ·refine⟨hsp,?_⟩
    rw[hd];intro e;cases e;have:=h3.1;rw[Nat.beq_refl]at this;cases this
   ·exact ZhI h3.2 p hp
theorem Ze0: ∀ {l:List (Oper×Md)} {t:Nat},has (dstsO l) t=true↔ ∃p∈l,p.1.dst=some t
 |[],t=>by simp[dstsO,has]
 |(o,x)::l,t=>by
  simp only[dstsO,List.mem_cons,exists_eq_or_imp];cases hd:o.dst with
  |none=>simp only[Ze0];simp
  |some d=>
   simp only[has,Bool.or_eq_true,Ze0,Option.some.injEq];constructor
   ·rintro(h|h)
    ·exact .inl (Nat.eq_of_beq_eq_true h)
    ·exact .inr h
   ·rintro(h|h)
    ·exact .inl (by subst h;exact Nat.beq_refl _)
    ·exact .inr h
theorem Zqg {j:Nat} {w:Bool} {r:Nat} (hj:dst j=some r) {b:Bool} (hb:b≠w): ∀ {l:List (Oper×Md)} {sk:List Nat} {E:Env} {s:St},grpOk pr dst j w r sk l=true→E.get r= .v (.bool b)→(∀d,has sk d=true→E.get d= .un)→
  ∃E1,Tr C dst pr ms l E s E1 s∧E1.nxt=E.nxt∧(∀u,has (dstsO l) u=false→E1.get u=E.get u)
 |[],_,E,s,_,_,_=>⟨E,.nil E s,rfl,fun _ _=>rfl⟩
 |(o,x)::l,sk,E,s,h,hr,hsk=>by
  have hspec:=ZhI h (o,x) (by simp);simp only[grpOk,Bool.and_eq_true]at h;obtain⟨⟨_,h2⟩,h3⟩:=h;have hg:GU dst E o:=by
   cases hg:o.guard with
   |none=>rw[hg]at h2;cases h2
   |some g=>
    obtain⟨j',w'⟩:=g;rw[hg]at h2;simp only[Bool.or_eq_true,Bool.and_eq_true]at h2;rcases h2 with⟨h4,h5⟩|h4
    ·have:=Nat.eq_of_beq_eq_true h4
     have h5:w'=w:=by simpa using h5
     subst this;subst h5;exact⟨_,_,r,hg,hj,.inl ⟨b,hr,hb⟩⟩
    ·cases hd:dst j' with
     |none=>rw[hd]at h4;cases h4
     |some d=>rw[hd]at h4;exact⟨j',w',d,hg,hd,.inr (hsk d h4)⟩
  have hr':(E.putO o.dst .un).get r= .v (.bool b):=by rw[Env.get_putO,if_neg hspec.2];exact hr
  cases hd:o.dst with
  |none=>
   rw[hd]at h3;obtain⟨E1,t1,t2,t3⟩:=Zqg hj hb (E:=E.putO o.dst .un) (s:=s) h3 hr' (fun d h=>by rw[hd];exact hsk d h);refine⟨E1,.cons (.skip hg) t1,by rw[t2];simp,fun u hu=>?_⟩;simp only[dstsO,hd]at hu;rw[t3 u hu,hd];rfl
  |some d=>
   rw[hd]at h3;simp only[Bool.and_eq_true]at h3;obtain⟨E1,t1,t2,t3⟩:=Zqg hj hb (E:=E.putO o.dst .un) (s:=s) h3.2 hr' (fun d' h=>by
    rw[Env.get_putO,hd];simp only[has,Bool.or_eq_true]at h;by_cases e:some d=some d'
    ·rw[if_pos e]
    ·rw[if_neg e]
     rcases h with h|h
     ·exact absurd (by rw[Nat.eq_of_beq_eq_true h]) e
     ·exact hsk d' h)
   refine⟨E1,.cons (.skip hg) t1,by rw[t2];simp,fun u hu=>?_⟩;simp only[dstsO,hd,has,Bool.or_eq_false_iff]at hu;rw[t3 u hu.2,Env.get_putO,hd,if_neg];intro e;cases e;rw[Nat.beq_refl]at hu;cases hu.1
theorem Zrq {o:Oper} {md:Md} {r:Nat} {y z:Operand} {E:Env} {s:St} {b:Bool} (ho:o.op= .pick (.tmp r) y z) (hb:E.get r= .v (.bool b)) (hg:GW dst E o):
  Step C dst pr ms (o,md) E s (E.putO o.dst (E.src C (if b then y else z))) s:=by
 refine .act hg (OpF.putS pr ms _ (Env.src_ver C E _) (fun hE r v n h=>Env.src_pl C hE h)) (OpOK.pure (ZmA md E) _ (Env.src_ver C E _) fun ψ Q a w p=>⟨a.eval (if b then y else z),w,?_,.refl w,p.src ?_⟩)
 ·have:=p.val (x:= .tmp r) (by simp[Op.operands,ho]) (d:= .bool b) (by simp only[Env.src,hb])
  generalize hv:a.eval (.tmp r)=v at this;cases this;cases b<;>simp[execOp,ho,hv,asBool]
 ·cases b<;>simp[Op.operands,ho]
structure Mod (un:Nat→Prop) (E E':Env):Prop where
 get: ∀u,un u→E'.get u=E.get u
 nxt:E.nxt≤E'.nxt
 verL: ∀t v n cs,E'.get t= .loc v n cs→(∃cs0,E.get t= .loc v n cs0)∨E.nxt≤v
 verI: ∀t v l p,E'.get t= .it v l p→(∃p0,E.get t= .it v l p0)∨E.nxt≤v
theorem Mod.refl (un:Nat→Prop) (E:Env):Mod un E E:=⟨fun _ _=>rfl,Nat.le_refl _,fun _ _ _ cs h=> .inl ⟨cs,h⟩,fun _ _ _ p h=> .inl ⟨p,h⟩⟩
theorem Mod.trans {un un' un'':Nat→Prop} {E E' E'':Env} (h:Mod un E E') (k:Mod un' E' E'') (h1: ∀u,un'' u→un u) (h2: ∀u,un'' u→un' u):Mod un'' E E'':=by
 refine⟨fun u hu=>by rw[k.get u (h2 u hu),h.get u (h1 u hu)],Nat.le_trans h.nxt k.nxt,fun t v n cs e=>?_,fun t v l p e=>?_⟩
 ·rcases k.verL t v n cs e with⟨c,e⟩|e
  ·exact h.verL t v n c e
  ·exact .inr (Nat.le_trans h.nxt e)
 ·rcases k.verI t v l p e with⟨c,e⟩|e
  ·exact h.verI t v l c e
  ·exact .inr (Nat.le_trans h.nxt e)
def Unt (ms:List Nat) (l:List (Oper×Md)) (u:Nat):Prop:=(∀p∈l,p.1.dst≠some u)∧has ms u=false
def MdOk (P:Program) (pr:List Nat) (ops:List Oper) (p:Oper×Md):Prop:=p.2= .s∨∃x k m,p.2= .d (setBs pr ops k m (cls P pr ops p.1)) x
theorem Zrl (hC:CfgOk C) {c:Zg} (hc:Zy C c) {ops:List Oper} {r:Out β×St} : ∀(n:Nat) (l:List (Oper×Md)) (act:List (Nat×Bool)) (E:Env) (K:Env→M β) (s:St),
  ZcP C pr ms c dst n l act E K s=some r→(∀p∈l,MdOk C.P pr ops p)→
  (∀g∈act,(∃q,dst g.1=some q∧E.get q= .v (.bool g.2)∧∀p∈l,p.1.dst≠some q)∧∀p∈l,¬Spec pr p.1)→
  (∃E' s',Tr C dst pr ms l E s E' s'∧K E' s'=some r∧((∀p∈l,¬Spec pr p.1)→E'.nxt=E.nxt∧∀u,(∀p∈l,p.1.dst≠some u)→E'.get u=E.get u)∧Mod (Unt ms l) E E')∨
  (∃s',r=(.pan,s')∧TrP C dst pr ms l E s s'):=by
 intro n;induction n with
 |zero=>
  intro l act E K s h hmd hact;cases l with
  |nil=>exact .inl ⟨E,s,.nil E s,h,fun _=>⟨rfl,fun _ _=>rfl⟩,.refl _ _⟩
  |cons p l=>cases h
 |succ n ih=>
  intro l act E K s h hmd hact;cases l with
  |nil=>exact .inl ⟨E,s,.nil E s,h,fun _=>⟨rfl,fun _ _=>rfl⟩,.refl _ _⟩
  |cons p rest=>
   obtain⟨o,md⟩:=p;simp only[ZcP]at h;have gw: ∀ {E:Env} {o':Oper},(∀g∈act,∃q,dst g.1=some q∧E.get q= .v (.bool g.2))→gOk act o'.guard=true→GW dst E o':=by
    intro E o' ha hg;cases hgu:o'.guard with
    |none=>exact .inl hgu
    |some g=>
     rw[hgu]at hg;obtain⟨q,h1,h2⟩:=ha g (Zt9 hg);exact .inr ⟨g.1,g.2,q,hgu,h1,h2⟩
   cases hg:gOk act o.guard with
   |true=>
    rw[hg]at h;simp only[cond_true]at h;have hgw:=gw (E:=E) (fun g hm=>let ⟨⟨q,h1,h2,_⟩,_⟩:=hact g hm;⟨q,h1,h2⟩) hg;rcases ZqL hC hc (hmd (o,md) (by simp)) h with⟨E1,s1,hk,hF,hO⟩|⟨hx,s',rfl,hp⟩
    ·have hstep:Step C dst pr ms (o,md) E s E1 s1:= .act hgw hF hO
     have keep: ¬Spec pr o→E1.nxt=E.nxt∧∀u,o.dst≠some u→E1.get u=E.get u:=by
      intro hs;rcases hF.plain with⟨e,_,rfl⟩|h
      ·exact⟨by simp,fun u hu=>by rw[Env.get_putO,if_neg hu]⟩
      ·exact absurd h hs
     rcases ih rest act E1 K s1 hk (fun p hp=>hmd p (by simp[hp])) (fun g hm=>by
      obtain⟨⟨q,h1,h2,h3⟩,h4⟩:=hact g hm;exact⟨⟨q,h1,by rw[(keep (h4 (o,md) (by simp))).2 q (h3 (o,md) (by simp))];exact h2,fun p hp=>h3 p (by simp[hp])⟩,fun p hp=>h4 p (by simp[hp])⟩)with⟨E2,s2,t,hk2,hn,hmod⟩|⟨s2,e,t⟩
     ·refine .inl ⟨E2,s2,.cons hstep t,hk2,fun hs=>?_,?_⟩
      rotate_left
      ·have m1:Mod (fun u=>o.dst≠some u∧has ms u=false) E E1:=⟨fun u hu=>hF.other u hu.1 hu.2,hF.nxt,fun t v n cs h=>(hF.verL t v n cs h).imp id And.left,fun t v l p h=>(hF.verI t v l p h).imp id And.left⟩
       exact m1.trans hmod (fun u hu=>⟨hu.1 (o,md) (by simp),hu.2⟩) (fun u hu=>⟨fun p hp=>hu.1 p (by simp[hp]),hu.2⟩)
      obtain⟨k1,k2⟩:=keep (hs (o,md) (by simp));obtain⟨n1,n2⟩:=hn fun p hp=>hs p (by simp[hp])
      exact⟨by rw[n1,k1],fun u hu=>by rw[n2 u fun p hp=>hu p (by simp[hp]),k2 u (hu (o,md) (by simp))]⟩
     ·exact .inr ⟨s2,e,.next hstep t⟩
    ·exact .inr ⟨s',rfl,.here hgw hx hp⟩
   |false=>
    rw[hg]at h;simp only[cond_false]at h;cases hgu:o.guard with
    |none=>rw[hgu]at h;cases h
    |some g=>
     obtain⟨j,w⟩:=g;rw[hgu]at h;simp only at h;cases hj:dst j with
     |none=>rw[hj]at h;cases h
     |some q=>
      rw[hj]at h;simp only at h;cases hq:E.get q with
      |v d=>
       cases d with
       |bool b=>
        rw[hq]at h;cases hcp:Zf2 q [] ((o,md)::rest)with
        |none=>rw[hcp]at h;cases h
        |some x=>
         obtain⟨grp,pk,rest'⟩:=x;rw[hcp]at h;simp only at h;obtain⟨mdp,y,z,hl,hpk⟩:=ZlJ hcp;simp only[List.reverse_nil,List.nil_append]at hl;rw[hpk]at h;cases hpd:pk.dst with
         |none=>rw[hpd]at h;cases h
         |some t=>
          rw[hpd]at h;simp only at h;obtain⟨hok,h⟩:=Zo h;rw[Bool.and_eq_true]at hok;obtain⟨hok1,hok2⟩:=hok;have hgs:=ZhI hok2;rw[hl];rw[hl]at hmd hact;have after: ∀(E1:Env) (s1:St) (v:Bool),Tr C dst pr ms (grp++[(pk,mdp)]) E s ((E.del (dstsO grp)).put t (.v (.bool v))) s1→
            ZcP C pr ms c dst n rest' act ((E.del (dstsO grp)).put t (.v (.bool v))) K s1=some r→
            (∃E' s',Tr C dst pr ms (grp++(pk,mdp)::rest') E s E' s'∧K E' s'=some r∧((∀p∈grp++(pk,mdp)::rest',¬Spec pr p.1)→E'.nxt=E.nxt∧∀u,(∀p∈grp++(pk,mdp)::rest',p.1.dst≠some u)→E'.get u=E.get u)∧Mod (Unt ms (grp++(pk,mdp)::rest')) E E')∨
            (∃s',r=(.pan,s')∧TrP C dst pr ms (grp++(pk,mdp)::rest') E s s'):=by
           intro E1 s1 v ht hr;have e:grp++(pk,mdp)::rest'=(grp++[(pk,mdp)])++rest':=by simp
           have get: ∀u,(∀p∈grp++(pk,mdp)::rest',p.1.dst≠some u)→((E.del (dstsO grp)).put t (.v (.bool v))).get u=E.get u:=by
            intro u hu;rw[Env.get_put,if_neg (fun e=>hu (pk,mdp) (by simp) (by rw[hpd,e])),ZdS];have:has (dstsO grp) u=false:=by
             cases hh:has (dstsO grp) u with
             |false=>rfl
             |true=>
              obtain⟨p,hp,hd⟩:=Ze0.1 hh;exact absurd hd (hu p (by simp[hp]))
            rw[this];rfl
           rcases ih rest' act _ K s1 hr (fun p hp=>hmd p (by simp[hp])) (fun g hm=>by
            obtain⟨⟨q',h1,h2,h3⟩,h4⟩:=hact g hm;exact⟨⟨q',h1,by rw[get q' h3];exact h2,fun p hp=>h3 p (by simp[hp])⟩,fun p hp=>h4 p (by simp[hp])⟩)with⟨E2,s2,t2,hk2,hn,hmod⟩|⟨s2,e2,t2⟩
           ·refine .inl ⟨E2,s2,by rw[e];exact ht.append t2,hk2,fun hs=>?_,?_⟩
            rotate_left
            ·have m1:Mod (fun u=>∀p∈grp++(pk,mdp)::rest',p.1.dst≠some u) E ((E.del (dstsO grp)).put t (.v (.bool v))):=by
              refine⟨get,Nat.le_refl _,fun u v' n' cs e=>?_,fun u v' l' p e=>?_⟩<;>rw[Env.get_put,ZdS]at e<;>split at e
              ·cases e
              ·split at e
               ·cases e
               ·exact .inl ⟨cs,e⟩
              ·cases e
              ·split at e
               ·cases e
               ·exact .inl ⟨p,e⟩
             exact m1.trans hmod (fun u hu=>hu.1) (fun u hu=>⟨fun p hp=>hu.1 p (by simp[hp]),hu.2⟩)
            obtain⟨n1,n2⟩:=hn fun p hp=>hs p (by simp[hp])
            exact⟨by rw[n1];rfl,fun u hu=>by rw[n2 u fun p hp=>hu p (by simp[hp]),get u hu]⟩
           ·exact .inr ⟨s2,e2,by rw[e];exact ht.pan t2⟩
          have nd: ∀u,(∀p∈grp++(pk,mdp)::rest',p.1.dst≠some u)→has (dstsO grp) u=false:=by
           intro u hu;cases hh:has (dstsO grp) u with
           |false=>rfl
           |true=>
            obtain⟨p,hp,hd⟩:=Ze0.1 hh;exact absurd hd (hu p (by simp[hp]))
          have nq:has (dstsO grp) q=false:=by
           cases hh:has (dstsO grp) q with
           |false=>rfl
           |true=>
            obtain⟨p,hp,hd⟩:=Ze0.1 hh;exact absurd hd (hgs p hp).2
          have jk: ∀(d:DV) (s1:St),(D.cons [d] fun d st=>D.bool d fun v=>D.nil st (ZcP C pr ms c dst n rest' act ((E.del (dstsO grp)).put t (.v (.bool v))) K)) s1=some r→
            ∃v,d= .bool v∧ZcP C pr ms c dst n rest' act ((E.del (dstsO grp)).put t (.v (.bool v))) K s1=some r:=by
           intro d s1 h;cases d with
           |bool v=>exact⟨v,rfl,h⟩
           |_=>cases h
          have tget: ∀(v:Bool) u,((E.del (dstsO grp)).put t (.v (.bool v))).get u=if t=u then .v (.bool v)else if has (dstsO grp) u then .u else E.get u:=fun v u=>by rw[Env.get_put,ZdS]
          simp only[M.join_def]at h;by_cases hbw:b=w
          ·
           subst hbw;have h':ZcP C pr ms c dst n grp ((j,b)::act) (E.put q (.v (.bool b))) (fun E1=>valK C E1 (bif b then y else z) fun d=>D.cons [d] fun d st=>D.bool d fun v=>D.nil st (ZcP C pr ms c dst n rest' act ((E.del (dstsO grp)).put t (.v (.bool v))) K)) s=some r:=by
            cases b<;>exact h
           have pget: ∀u,(E.put q (.v (.bool b))).get u=E.get u:=fun u=>by
            rw[Env.get_put];split
            ·rename_i e;subst e;exact hq.symm
            ·rfl
           have hw1:Weak E (E.put q (.v (.bool b))):=⟨rfl,fun u=> .inl (pget u)⟩;rcases ih grp ((j,b)::act) _ _ s h' (fun p hp=>hmd p (by simp[hp])) (fun g hm=>by
            refine⟨?_,fun p hp=>(hgs p hp).1⟩;rcases List.mem_cons.1 hm with rfl|hm
            ·exact⟨q,hj,by rw[pget];exact hq,fun p hp=>(hgs p hp).2⟩
            ·obtain⟨⟨q',h1,h2,h3⟩,_⟩:=hact g hm
             exact⟨q',h1,by rw[pget];exact h2,fun p hp=>h3 p (by simp[hp])⟩)with⟨E1,s1,t1,hk1,hn1,_⟩|⟨s1,e1,t1⟩
           ·obtain⟨n1,n2⟩:=hn1 fun p hp=>(hgs p hp).1
            obtain⟨d,hd,hk1⟩:=Zr hk1;obtain⟨v,rfl,hk1⟩:=jk d s1 hk1;have hq1:E1.get q= .v (.bool b):=by rw[n2 q fun p hp=>(hgs p hp).2,pget];exact hq
            have e1get: ∀u,has (dstsO grp) u=false→E1.get u=E.get u:=fun u hu=>by
             rw[n2 u (fun p hp hd=>by rw[Ze0.2 ⟨p,hp,hd⟩]at hu;cases hu),pget]
            have hst:=Zrq (C:=C) (pr:=pr) (ms:=ms) (md:=mdp) (s:=s1) hpk hq1 (gw (E:=E1) (fun g hm=>by
             obtain⟨⟨q',h1,h2,h3⟩,_⟩:=hact g hm;exact⟨q',h1,by rw[e1get q' (nd q' h3)];exact h2⟩) hok1)
            have hsrc:E1.src C (if b then y else z)= .v (.bool v):=by cases b<;>exact hd
            rw[hsrc,hpd]at hst;have hw2:Weak (E1.putO (some t) (.v (.bool v))) ((E.del (dstsO grp)).put t (.v (.bool v))):=by
             refine⟨by rw[Env.nxt_putO,n1];rfl,fun u=>?_⟩;rw[tget,Env.get_putO];by_cases e:t=u
             ·subst e;simp
             ·rw[if_neg e,if_neg (fun h=>e (Option.some.inj h))]
              cases hu:has (dstsO grp) u with
              |true=>exact .inr rfl
              |false=>exact .inl (e1get u hu).symm
            exact after E1 s1 v (.weak hw1 (t1.append (.cons hst (.weak hw2 (.nil _ _))))) hk1
           ·exact .inr ⟨s1,e1,.weak hw1 (t1.left _)⟩
          ·
           have h':valK C ((E.del (dstsO grp)).put q (.v (.bool !w))) (bif w then z else y) (fun d=>D.cons [d] fun d st=>D.bool d fun v=>D.nil st (ZcP C pr ms c dst n rest' act ((E.del (dstsO grp)).put t (.v (.bool v))) K)) s=some r:=by
            cases w<;>cases b<;>first|exact h|exact absurd rfl hbw
           obtain⟨d,hd,hk1⟩:=Zr h';obtain⟨v,rfl,hk1⟩:=jk d s hk1;obtain⟨E1,t1,t2,t3⟩:=Zqg (C:=C) (pr:=pr) (ms:=ms) hj hbw (s:=s) hok2 hq (fun d h=>by cases h);have hq1:E1.get q= .v (.bool b):=by rw[t3 q nq];exact hq
           have hst:=Zrq (C:=C) (pr:=pr) (ms:=ms) (md:=mdp) (s:=s) hpk hq1 (gw (E:=E1) (fun g hm=>by
            obtain⟨⟨q',h1,h2,h3⟩,_⟩:=hact g hm;exact⟨q',h1,by rw[t3 q' (nd q' h3)];exact h2⟩) hok1)
           have hbw':b= !w:=by cases w<;>cases b<;>first|rfl|exact absurd rfl hbw
           have hsrc:E1.src C (if b then y else z)= .v (.bool v):=by
            have hx:(if b then y else z)=(bif w then z else y):=by subst hbw';cases w<;>rfl
            rw[hx,←hd];generalize (bif w then z else y)=x at hd;cases x with
            |tmp u=>
             have hg:E1.get u=((E.del (dstsO grp)).put q (.v (.bool !w))).get u:=by
              rw[Env.get_put,ZdS];by_cases e:q=u
              ·subst e;rw[if_pos rfl,hq1,hbw']
              ·rw[if_neg e]
               cases hu:has (dstsO grp) u with
               |false=>exact t3 u hu
               |true=>
                simp only[Env.src,Env.get_put,ZdS,if_neg e,hu,if_true]at hd;cases hd
             simp only[Env.src,hg]
            |_=>rfl
           rw[hsrc,hpd]at hst;have hw2:Weak (E1.putO (some t) (.v (.bool v))) ((E.del (dstsO grp)).put t (.v (.bool v))):=by
            refine⟨by rw[Env.nxt_putO,t2];rfl,fun u=>?_⟩;rw[tget,Env.get_putO];by_cases e:t=u
            ·subst e;simp
            ·rw[if_neg e,if_neg (fun h=>e (Option.some.inj h))]
             cases hu:has (dstsO grp) u with
             |true=>exact .inr rfl
             |false=>exact .inl (t3 u hu).symm
           exact after E1 s v (t1.append (.cons hst (.weak hw2 (.nil _ _)))) hk1
       |_=>rw[hq]at h;cases h
      |_=>rw[hq]at h;cases h
end
end Go.Gv
namespace Go.Gv
structure Fr where
 N:Nat
 nt:Nat
 ψ0:Ps
 s0:St
 w0:World
 ok:Nat→Bool
 okl: ∀x,ok x=true→x<nt
 kv:Nat→Value
 dfs:List Deferred
def Ks (f:Fr) (a:Act):Prop:=a.tmps.size=f.nt∧∀t,f.ok t=false→a.tmps.getD t undef=f.kv t
structure Rel (C:Cfg) (f:Fr) (ψ:Ps) (E:Env) (s:St) (a:Act) (w:World):Prop where
 sim:Sim C ψ (CR E s) w
 eok:EOK E
 blks:Blks ψ w
 glob:Glob C ψ
 reg: ∀t,EntR C ψ (E.get t) (a.tmps.getD t undef)
 tsz:Ks f a
 defs:a.defers=f.dfs
 win: ∀i,s.length≤i→i<f.N→ψ (.inl i)=none
 vin: ∀v,E.nxt≤v→ψ (.inr v)=none
 ext:Ext f.ψ0 (CS f.s0) f.w0 ψ (CR E s) w
 news: ∀i cb,ψ (.inl i)=some cb→f.ψ0 (.inl i)=some cb∨(f.s0.length≤i∧i<s.length)
 len:f.s0.length≤s.length
 fin: ∀v,f.ψ0 (.inr v)=none
section
variable {C:Cfg} {f:Fr} {ψ ψ':Ps} {E E':Env} {s s':St} {a:Act} {w w':World} {Q':Kn} {o:Oper} {D W:HId→Prop} {pr ms:List Nat}
theorem EOK.weak (h:EOK E) (k:Weak E E'):EOK E':=by
 have g: ∀t x,E'.get t=x→x≠ .u→E.get t=x:=fun t x e hx=>by
  rcases k.get t with h|h
  ·rw[←h];exact e
  ·rw[h]at e;exact absurd e.symm hx
 constructor
 ·intro t v hv
  rw[k.nxt];rcases k.get t with e|e
  ·rw[e]at hv;exact h.lt t v hv
  ·rw[e]at hv;cases hv
 ·intro t r v n e
  rw[k.nxt];exact h.pl t r v n (g t _ e (by simp))
 ·intro t v n cs e
  exact h.len t v n cs (g t _ e (by simp))
 ·intro t t' v hv hv'
  rcases k.get t with e|e
  ·rcases k.get t' with e'|e'
   ·rw[e]at hv;rw[e']at hv';exact h.uniq t t' v hv hv'
   ·rw[e']at hv';cases hv'
  ·rw[e]at hv;cases hv
theorem CR.weak (k:Weak E E') {h:HId} {ab:AB} (c:CR E' s h ab):CR E s h ab:=by
 have g: ∀t x,E'.get t=x→x≠ .u→E.get t=x:=fun t x e hx=>by
  rcases k.get t with h|h
  ·rw[←h];exact e
  ·rw[h]at e;exact absurd e.symm hx
 cases h with
 |inl i=>exact c
 |inr v=>
  rcases c with⟨t,n,cs,e,hab⟩|⟨t,l,p,e,hab⟩
  ·exact .inl ⟨t,n,cs,g t _ e (by simp),hab⟩
  ·exact .inr ⟨t,l,p,g t _ e (by simp),hab⟩
theorem Rel.weak (R:Rel C f ψ E s a w) (k:Weak E E'):Rel C f ψ E' s a w where
 sim:=R.sim.weaken fun _ _ _ _ c=>c.weak k
 eok:=R.eok.weak k
 blks:=R.blks
 glob:=R.glob
 reg:=fun t=>by
  rcases k.get t with e|e
  ·rw[e];exact R.reg t
  ·rw[e];exact trivial
 tsz:=R.tsz
 defs:=R.defs
 win:=R.win
 vin:=fun v hv=>R.vin v (by rw[←k.nxt];exact hv)
 ext:=R.ext.weaken fun _ _ _ _ c=>c.weak k
 news:=R.news
 len:=R.len
 fin:=R.fin
theorem Zho (a:Act) (d:Option Nat) (v:Value):(a.put d v).tmps.size=a.tmps.size:=by cases d<;>simp[Act.put]
theorem ZhA (a:Act) (d:Option Nat) (v:Value):(a.put d v).defers=a.defers:=by cases d<;>rfl
theorem Zke {a:Act} {d:Option Nat} {v:Value} {t:Nat} (hd: ∀x,d=some x→x<a.tmps.size):(a.put d v).tmps.getD t undef=if d=some t then v else a.tmps.getD t undef:=by
 cases d with
 |none=>simp[Act.put]
 |some x=>
  simp only[Act.put,Option.some.injEq,Array.getD_eq_getD_getElem?];by_cases e:x=t
  ·subst e
   rw[if_pos rfl,Array.getElem?_setIfInBounds_self_of_lt (hd x rfl)];rfl
  ·rw[if_neg e,Array.getElem?_setIfInBounds_ne e]
theorem Ks.put (h:Ks f a) {d:Option Nat} {v:Value} (hd: ∀x,d=some x→f.ok x=true):Ks f (a.put d v):=by
 refine⟨by rw[Zho];exact h.1,fun t ht=>?_⟩;rw[Zke fun x hx=>by rw[h.1];exact f.okl x (hd x hx),if_neg fun e=>by rw[hd t e]at ht;cases ht];exact h.2 t ht
theorem Rel.room (R:Rel C f ψ E s a w) (hN:s'.length≤f.N):Room E s E' s' ψ:=by
 rintro h ⟨n1,n2⟩;cases h with
 |inl i=>exact R.win i (Nat.not_lt.1 n1) (Nat.lt_of_lt_of_le n2 hN)
 |inr v=>exact R.vin v (Nat.not_lt.1 n1)
theorem Rel.pre (R:Rel C f ψ E s a w):Pre C o D E s ψ (CR E s) a w:=⟨R.sim,R.blks,R.glob,R.eok,fun _ _ _ _ c _=>c,fun t _=>R.reg t⟩
theorem Rel.step (R:Rel C f ψ E s a w) (hF:OpF W pr ms o E s E' s') (hP:Post C D W E s E' s' ψ (CR E s) w ψ' Q' w') {v:Value} (he: ∀d,o.dst=some d→EntR C ψ' (E'.get d) v) (hd: ∀x,o.dst=some x→f.ok x=true):
  Rel C f ψ' E' s' (a.put o.dst v) w':=by
 have known: ∀h ab cb,ψ' h=some cb→CR E' s' h ab→Q' h ab:=by
  intro h ab cb e c;by_cases hw:W h∨New E s E' s' h
  ·exact hP.p1 h ab cb c hw e
  ·have c':CR E s h ab:=by
    rcases hF.back h ab c with x|x|x
    ·exact absurd (.inl x) hw
    ·exact absurd (.inr x) hw
    ·exact x
   rcases hP.news h cb e with e|e
   ·exact hP.p2 h ab cb e c' (fun x=>hw (.inl x)) (fun _ _=>c')
   ·exact absurd (.inr e) hw
 refine⟨hP.sim.weaken known,hF.eok R.eok,hP.ext.blks R.blks,hP.ext.glob R.glob,fun t=>?_,R.tsz.put hd,by rw[ZhA];exact R.defs,fun i h1 h2=>?_,fun v h1=>?_,R.ext.trans (hP.ext.weaken known),fun i cb e=>?_,Nat.le_trans R.len hF.len,R.fin⟩
 ·rw[Zke fun x hx=>by rw[R.tsz.1];exact f.okl x (hd x hx)]
  by_cases e:o.dst=some t
  ·rw[if_pos e];exact he t e
  ·rw[if_neg e];exact(hF.ent t e C ψ _ (R.reg t)).mono hP.ext.mono
 ·cases e:ψ' (.inl i)with
  |none=>rfl
  |some cb=>
   rcases hP.news _ cb e with e|⟨_,e⟩
   ·rw[R.win i (Nat.le_trans hF.len h1) h2]at e;cases e
   ·simp only[Dom]at e;omega
 ·cases e:ψ' (.inr v)with
  |none=>rfl
  |some cb=>
   rcases hP.news _ cb e with e|⟨_,e⟩
   ·rw[R.vin v (Nat.le_trans hF.nxt h1)]at e;cases e
   ·simp only[Dom]at e;omega
 ·rcases hP.news _ cb e with e|⟨n1,n2⟩
  ·rcases R.news i cb e with h|⟨h1,h2⟩
   ·exact .inl h
   ·exact .inr ⟨h1,Nat.lt_of_lt_of_le h2 hF.len⟩
  ·exact .inr ⟨Nat.le_trans R.len (Nat.not_lt.1 n1),n2⟩
structure PanR (C:Cfg) (f:Fr) (s:St) (a:Act) (w:World):Prop where
 defs:a.defers=f.dfs
 ks:Ks f a
 post: ∃ψ',CallPost C f.ψ0 f.s0 f.w0 ψ' s w
theorem Zwp (b:Bool):undef≠Value.bool b:=by unfold undef;simp
theorem Zk2 (a:Act) (r:Nat) (b:Bool) (h:a.tmps.getD r undef= .bool b):a.tmps[r]? =some (.bool b):=by
 rw[Array.getD_eq_getD_getElem?]at h;cases e:a.tmps[r]? with
 |none=>rw[e]at h;exact absurd h (Zwp b)
 |some v=>rw[e]at h;simp only[Option.getD_some]at h;rw[h]
def dstOf (ops:Array Oper) (j:Nat):Option Nat:=match ops.toList[j]? with|some o=>o.dst|none=>none
theorem ZkK (ops:Array Oper) (j:Nat):dstOf ops j=(ops[j]?).bind (·.dst):=by
 unfold dstOf;rw[Array.getElem?_toList];cases ops[j]? <;>rfl
theorem Zlw {ops:Array Oper} (R: ∀t,EntR C ψ (E.get t) (a.tmps.getD t undef)) (h:GW (dstOf ops) E o):Region.wanted o (yielded ops a.tmps)=true:=by
 unfold Region.wanted;rcases h with h|⟨j,w,r,h1,h2,h3⟩
 ·rw[h]
 ·rw[h1]
  rw[ZkK]at h2;have hr:=R r;rw[h3]at hr;have:a.tmps.getD r undef= .bool w:=by generalize a.tmps.getD r undef=x at hr;cases hr;rfl
  simp[yielded,h2,Zk2 a r w this]
theorem Zm7 {ops:Array Oper} (R: ∀t,EntR C ψ (E.get t) (a.tmps.getD t undef)) (h:GU (dstOf ops) E o):Region.wanted o (yielded ops a.tmps)=false:=by
 unfold Region.wanted;obtain⟨j,w,r,h1,h2,h3⟩:=h;rw[h1];rw[ZkK]at h2;have hr:=R r;rcases h3 with⟨b,h3,hb⟩|h3
 ·rw[h3]at hr
  have:a.tmps.getD r undef= .bool b:=by generalize a.tmps.getD r undef=x at hr;cases hr;rfl
  simp[yielded,h2,Zk2 a r b this,hb]
 ·rw[h3]at hr
  have hr:a.tmps.getD r undef=undef:=hr;have:a.tmps[r]? =none∨a.tmps[r]? =some undef:=by
   rw[Array.getD_eq_getD_getElem?]at hr;cases e:a.tmps[r]? with
   |none=>exact .inl rfl
   |some v=>rw[e]at hr;simp only[Option.getD_some]at hr;rw[hr];exact .inr rfl
  have hy:yielded ops a.tmps j=none:=by
   unfold yielded;rw[h2];rcases this with e|e<;>simp[e,undef]
  simp[hy]
theorem Rel.undef (R:Rel C f ψ E s a w) (hd: ∀x,o.dst=some x→f.ok x=true):Rel C f ψ (E.putO o.dst .un) s (a.put o.dst Go.undef) w:=by
 have hcr: ∀h ab,CR (E.putO o.dst .un) s h ab→CR E s h ab:=fun h ab c=>c.putO rfl
 refine⟨R.sim.weaken fun _ _ _ _ c=>hcr _ _ c,R.eok.putO rfl (fun _ _ _ h=>by cases h),R.blks,R.glob,fun t=>?_,R.tsz.put hd,by rw[ZhA];exact R.defs,R.win,fun v hv=>R.vin v (by simpa using hv),R.ext.weaken fun _ _ _ _ c=>hcr _ _ c,R.news,R.len,R.fin⟩;rw[Zke fun x hx=>by rw[R.tsz.1];exact f.okl x (hd x hx),Env.get_putO];by_cases e:o.dst=some t
 ·rw[if_pos e,if_pos e];rfl
 ·rw[if_neg e,if_neg e];exact R.reg t
theorem callPost {ψ':Ps} {Q':Kn} {w':World} {s':St} (hfin: ∀v,f.ψ0 (.inr v)=none) (hsim:Sim C ψ' Q' w') (hext:Ext f.ψ0 (CS f.s0) f.w0 ψ' Q' w')
  (hk: ∀i ab cb,stAB s' i=some ab→ψ' (.inl i)=some cb→Q' (.inl i) ab) (hnews: ∀i cb,ψ' (.inl i)=some cb→f.ψ0 (.inl i)=some cb∨(f.s0.length≤i∧i<s'.length)):
  CallPost C f.ψ0 f.s0 f.w0 (inPs ψ') s' w':=by
 have solein: ∀b,Sole (inPs ψ') (CS s') b→Sole ψ' Q' b:=by
  rintro b ⟨k,cb,ab,e,⟨i,rfl,q⟩,hs,hb⟩;exact⟨.inl i,cb,ab,e,hk i ab cb q e,hs,hb⟩
 refine⟨Ztv hsim hk,⟨fun h cb e=>?_,fun h cb e=>hext.rng h cb (Ze7 e).1,hext.size,hext.keep,fun b hb=>hext.sole b (solein b hb),fun h cb x e q=>?_,hext.tape,hext.os,hext.output⟩,fun h cb e=>?_⟩
 ·cases h with
  |inl i=>exact hext.mono _ _ e
  |inr v=>rw[hfin]at e;cases e
 ·obtain⟨i,rfl,q⟩:=q
  exact hext.live (.inl i) cb x e (hk i x cb q (hext.mono _ _ e))
 ·obtain⟨e,i,rfl⟩:=Ze7 e
  rcases hnews i cb e with h|⟨h1,h2⟩
  ·exact .inl h
  ·exact .inr ⟨i,rfl,h1,h2⟩
theorem Rel.callPost (R:Rel C f ψ E s a w):CallPost C f.ψ0 f.s0 f.w0 (inPs ψ) s w:=
 Go.Gv.callPost R.fin R.sim R.ext (fun _ _ _ h _=>h) R.news
theorem Tr.len {dst:Nat→Option Nat} {l:List (Oper×Md)} (h:Tr C dst pr ms l E s E' s'):s.length≤s'.length:=by
 induction h with
 |nil=>exact Nat.le_refl _
 |weak _ _ ih=>exact ih
 |cons st _ ih=>
  refine Nat.le_trans ?_ ih;cases st with
  |act _ hF _=>exact hF.len
  |skip _=>exact Nat.le_refl _
theorem TrP.len {dst:Nat→Option Nat} {l:List (Oper×Md)} (h:TrP C dst pr ms l E s s'):s.length≤s'.length:=by
 induction h with
 |weak _ _ ih=>exact ih
 |here _ _ hp=>exact hp.1
 |next st _ ih=>
  refine Nat.le_trans ?_ ih;cases st with
  |act _ hF _=>exact hF.len
  |skip _=>exact Nat.le_refl _
theorem Rel.panR (R:Rel C f ψ E s a w) (hN:s'.length≤f.N) (hp:OpPan C o D E s s') {next:Act→World→Prop} {QQ:Exit→Act→World→Prop} (h: ∀ch a' w',PanV ch→PanR C f s' a' w'→QQ (.panic ch) a' w'):o.wp C.P a w next QQ:=by
 refine hp.2 ψ (CR E s) a w next QQ R.pre (R.room hN) fun ψ' Q' ch w' h0 h1 h2 h3 h4=>h ch a w' h0 ⟨R.defs,R.tsz,_,Go.Gv.callPost (s':=s') R.fin h1 (R.ext.trans h2) h4 fun i cb e=>?_⟩
 rcases h3 _ cb e with e|⟨n1,n2⟩
 ·rcases R.news i cb e with h|⟨h1,h2⟩
  ·exact .inl h
  ·exact .inr ⟨h1,Nat.lt_of_lt_of_le h2 hp.1⟩
 ·exact .inr ⟨Nat.le_trans R.len (Nat.not_lt.1 n1),n2⟩
theorem Zx8 {ops:Array Oper} {QQ:Exit→Act→World→Prop} {l:List (Oper×Md)} {E2:Env} {s2:St} (t:Tr C (dstOf ops) pr ms l E s E2 s2): ∀ {i:Nat} {a:Act} {w:World} {ψ:Ps},Rel C f ψ E s a w→s2.length≤f.N→
  (∀p∈l,∀x,p.1.dst=some x→f.ok x=true)→(∀k p,l[k]? =some p→ops[i+k]? =some p.1)→(∀ψ' a' w',Rel C f ψ' E2 s2 a' w'→QQ .normal a' w')→wpOps C.P ops QQ (List.range' i l.length) a w:=by
 induction t with
 |nil=>intro i a w ψ R _ _ _ h;exact h ψ a w R
 |weak k _ ih=>intro i a w ψ R hN hd hi h;exact ih (R.weak k) hN hd hi h
 |cons st t ih=>
  rename_i p l E s E1 s1 E2 s2;intro i a w ψ R hN hd hi h;have hi0:=hi 0 p rfl;simp only[Nat.add_zero]at hi0;have rest: ∀ {ψ1 a1 w1},Rel C f ψ1 E1 s1 a1 w1→wpOps C.P ops QQ (List.range' (i+1) l.length) a1 w1:=fun R1=>
   ih R1 hN (fun q hq=>hd q (by simp[hq])) (fun k q hk=>by have:=hi (k+1) q (by simpa using hk);rwa [show i+(k+1)=i+1+k by omega]at this) h
  simp only[List.length_cons,List.range'_succ,wpOps,hi0];cases st with
  |act hg hF hO=>
   rw[if_pos (Zlw R.reg hg)];exact .inl (hO ψ (CR E s) a w _ QQ R.pre (R.room (Nat.le_trans t.len hN)) fun ψ' Q' v w' hP he=>rest (R.step hF hP he (hd p (by simp))))
  |skip hg=>
   rw[if_neg (by rw[Zm7 R.reg hg];simp)];exact rest (R.undef (hd p (by simp)))
theorem ZwY {ops:Array Oper} {QQ:Exit→Act→World→Prop} {l:List (Oper×Md)} {s2:St} (t:TrP C (dstOf ops) pr ms l E s s2): ∀ {i:Nat} {a:Act} {w:World} {ψ:Ps},Rel C f ψ E s a w→s2.length≤f.N→
  (∀p∈l,∀x,p.1.dst=some x→f.ok x=true)→(∀k p,l[k]? =some p→ops[i+k]? =some p.1)→(∀ch a' w',PanV ch→PanR C f s2 a' w'→QQ (.panic ch) a' w')→wpOps C.P ops QQ (List.range' i l.length) a w:=by
 induction t with
 |weak k _ ih=>intro i a w ψ R hN hd hi h;exact ih (R.weak k) hN hd hi h
 |here hg hx hp=>
  rename_i p l E s s2;intro i a w ψ R hN hd hi h;have hi0:=hi 0 p rfl;simp only[Nat.add_zero]at hi0;simp only[List.length_cons,List.range'_succ,wpOps,hi0];rw[if_pos (Zlw R.reg hg)];exact .inl (R.panR hN hp h)
 |next st t ih=>
  rename_i p l E s E1 s1 s2;intro i a w ψ R hN hd hi h;have hi0:=hi 0 p rfl;simp only[Nat.add_zero]at hi0;have rest: ∀ {ψ1 a1 w1},Rel C f ψ1 E1 s1 a1 w1→wpOps C.P ops QQ (List.range' (i+1) l.length) a1 w1:=fun R1=>
   ih R1 hN (fun q hq=>hd q (by simp[hq])) (fun k q hk=>by have:=hi (k+1) q (by simpa using hk);rwa [show i+(k+1)=i+1+k by omega]at this) h
  simp only[List.length_cons,List.range'_succ,wpOps,hi0];cases st with
  |act hg hF hO=>
   rw[if_pos (Zlw R.reg hg)];exact .inl (hO ψ (CR E s) a w _ QQ R.pre (R.room (Nat.le_trans t.len hN)) fun ψ' Q' v w' hP he=>rest (R.step hF hP he (hd p (by simp))))
  |skip hg=>
   rw[if_neg (by rw[Zm7 R.reg hg];simp)];exact rest (R.undef (hd p (by simp)))
end
end Go.Gv
namespace Go.Gv
theorem Weak.refl (E:Env):Weak E E:=⟨rfl,fun _=> .inl rfl⟩
theorem Weak.trans {E E' E'':Env} (h:Weak E E') (k:Weak E' E''):Weak E E'':=by
 refine⟨k.nxt.trans h.nxt,fun t=>?_⟩;rcases k.get t with e|e
 ·rcases h.get t with e'|e'
  ·exact .inl (e.trans e')
  ·exact .inr (e.trans e')
 ·exact .inr e
section
variable {C:Cfg} {dst:Nat→Option Nat} {pr ms:List Nat}
theorem Tr.fn {l:List (Oper×Md)} {E E2:Env} {s s2:St} (h:Tr C dst pr ms l E s E2 s2):
  ∃(A B:Nat→Env) (ss:Nat→St),A 0=E∧ss 0=s∧ss l.length=s2∧Weak (A l.length) E2∧
   ∀k p,l[k]? =some p→Weak (A k) (B k)∧Step C dst pr ms p (B k) (ss k) (A (k+1)) (ss (k+1)):=by
 induction h with
 |nil E s=>exact⟨fun _=>E,fun _=>E,fun _=>s,rfl,rfl,rfl,.refl E,fun k p h=>by simp at h⟩
 | @weak l E E1 s E2 s2 k _ ih=>
  obtain⟨A,B,ss,h1,h2,h3,h4,h5⟩:=ih;cases l with
  |nil=>
   refine⟨fun _=>E,B,ss,rfl,h2,h3,?_,fun k p h=>by simp at h⟩;simp only[List.length_nil]at h4;rw[h1]at h4;exact k.trans h4
  |cons p l=>
   refine⟨fun i=>if i=0 then E else A i,B,ss,rfl,h2,h3,by simpa using h4,fun i q hq=>?_⟩;obtain⟨a,b⟩:=h5 i q hq;refine⟨?_,by simpa using b⟩;by_cases hi:i=0
   ·subst hi
    simp only[if_true];rw[h1]at a;exact k.trans a
   ·simp only[hi,if_false];exact a
 | @cons p l E s E1 s1 E2 s2 st _ ih=>
  obtain⟨A,B,ss,h1,h2,h3,h4,h5⟩:=ih;refine⟨fun i=>match i with|0=>E|i+1=>A i,fun i=>match i with|0=>E|i+1=>B i,fun i=>match i with|0=>s|i+1=>ss i,rfl,rfl,h3,h4,fun i q hq=>?_⟩;cases i with
  |zero=>
   simp only[List.getElem?_cons_zero,Option.some.injEq]at hq;subst hq;refine⟨.refl E,?_⟩;simp only[h1,h2];exact st
  |succ i=>exact h5 i q (by simpa using hq)
end
theorem Zyi {o:Oper} {acc:List Nat} {j:Nat} (h:(befM o acc).testBit j=true): ∃e∈o.after,Region.binds .any e=true∧(j=e.on∨(acc.getD e.on 0).testBit j=true):=by
 unfold befM at h;have key: ∀(l:List Edge) (m:Nat),(l.foldl (fun m e=>bif Region.binds .any e then m|||2^e.on|||acc.getD e.on 0 else m) m).testBit j=true→
   m.testBit j=true∨∃e∈l,Region.binds .any e=true∧(j=e.on∨(acc.getD e.on 0).testBit j=true):=by
  intro l;induction l with
  |nil=>exact fun m h=> .inl h
  |cons e l ih=>
   intro m h;simp only[List.foldl_cons]at h;rcases ih _ h with h|⟨e',he,h⟩
   ·cases hb:Region.binds .any e with
    |false=>rw[hb]at h;exact .inl h
    |true=>
     rw[hb]at h;simp only[cond_true,Nat.testBit_or,Bool.or_eq_true,Nat.testBit_two_pow,decide_eq_true_eq]at h;rcases h with(h|h)|h
     ·exact .inl h
     ·exact .inr ⟨e,by simp,hb,.inl h.symm⟩
     ·exact .inr ⟨e,by simp,hb,.inr h⟩
   ·exact .inr ⟨e',by simp[he],h⟩
 rcases key _ 0 h with h|⟨e,he,h⟩
 ·simp at h
 ·exact⟨e,by simpa using he,h⟩
theorem Znp (P:Program) (pr:List Nat) (ops:List Oper): ∀(r:List Oper) (acc:List Nat) (k:Nat) (p:OpI),(prep P pr ops r acc)[k]? =some p→
  ∃o,r[k]? =some o∧p.bf=befM o (acc++((prep P pr ops r acc).take k).map (·.bf))∧p.k=setBs pr ops (acc.length+k) p.bf (cls P pr ops o)∧p.dst=o.dst∧p.lk=lookM pr ops o
 |[],acc,k,p,h=>by simp[prep]at h
 |o::r,acc,0,p,h=>by
  simp only[prep,List.getElem?_cons_zero,Option.some.injEq]at h;subst h;exact⟨o,rfl,by simp,rfl,rfl,rfl⟩
 |o::r,acc,k+1,p,h=>by
  simp only[prep,List.getElem?_cons_succ]at h;obtain⟨o',h1,h2,h3,h4⟩:=Znp P pr ops r _ k p h;refine⟨o',by simpa using h1,?_,?_,h4⟩
  ·rw[h2]
   simp[prep]
  ·rw[h3,List.length_append,List.length_singleton,show acc.length+1+k=acc.length+(k+1) by omega]
theorem ZgM (P:Program) (pr:List Nat) (ops:List Oper): ∀(r:List Oper) (acc:List Nat),(prep P pr ops r acc).length=r.length
 |[],_=>rfl
 |o::r,acc=>by simp[prep,ZgM P pr ops r]
def Apart (p q:OpI):Prop:=Zs4 p.k q.k=false∧dstIn p.dst q.lk=false∧dstIn q.dst p.lk=false∧dstEq p.dst q.dst=false
theorem ZoY {i:Nat} {p:OpI} : ∀ {l:List OpI},ZoA i p l=true→∀(k:Nat) (q:OpI),l[k]? =some q→q.bf.testBit i=true∨Apart p q
 |[],_,k,q,h=>by simp at h
 |x::l,h,k,q,hq=>by
  simp only[ZoA,Bool.and_eq_true]at h;cases k with
  |zero=>
   simp only[List.getElem?_cons_zero,Option.some.injEq]at hq;subst hq;have h1:=h.1;rw[Bool.or_eq_true]at h1;refine h1.imp id fun h1=>?_
   simp only[Bool.and_eq_true,Bool.not_eq_true']at h1;exact⟨h1.1.1.1,h1.1.1.2,h1.1.2,h1.2⟩
  |succ k=>exact ZoY h.2 k q (by simpa using hq)
theorem Zi1: ∀ {i:Nat} {l:List OpI} {os:List Oper},okAll i l os=true→∀(k:Nat) (p:OpI),l[k]? =some p→
  p.bf<2^(i+k)∧(∃o,os[k]? =some o∧∀j w,o.guard=some (j,w)→p.bf.testBit j=true)∧∀(m:Nat) (q:OpI),k<m→l[m]? =some q→q.bf.testBit (i+k)=true∨Apart p q
 |i,[],os,_,k,p,hp=>by simp at hp
 |i,_::_,[],h,k,p,hp=>by cases h
 |i,x::l,o::os,h,k,p,hp=>by
  simp only[okAll,Bool.and_eq_true]at h;obtain⟨⟨⟨h1,h2⟩,h3⟩,h4⟩:=h;cases k with
  |zero=>
   simp only[List.getElem?_cons_zero,Option.some.injEq]at hp;subst hp;refine⟨by rw[Nat.blt_eq]at h1;exact h1,⟨o,rfl,fun j w hg=>by rw[hg]at h2;exact h2⟩,fun m q hm hq=>?_⟩;obtain⟨m',rfl⟩: ∃m',m=m'+1:=⟨m-1,by omega⟩;exact ZoY h3 m' q (by simpa using hq)
  |succ k=>
   obtain⟨a,⟨o',b1,b2⟩,c⟩:=Zi1 h4 k p (by simpa using hp);refine⟨by rw[show i+(k+1)=i+1+k by omega];exact a,⟨o',by simpa using b1,b2⟩,fun m q hm hq=>?_⟩;obtain⟨m',rfl⟩: ∃m',m=m'+1:=⟨m-1,by omega⟩;rw[show i+(k+1)=i+1+k by omega];exact c m' q (by omega) (by simpa using hq)
theorem Zzo {o:Oper} {acc:List Nat} {e:Edge} (he:e∈o.after) (hb:Region.binds .any e=true):(befM o acc).testBit e.on=true:=by
 unfold befM;have mono: ∀(l:List Edge) (m:Nat),m.testBit e.on=true→(l.foldl (fun m e=>bif Region.binds .any e then m|||2^e.on|||acc.getD e.on 0 else m) m).testBit e.on=true:=by
  intro l;induction l with
  |nil=>exact fun m h=>h
  |cons x l ih=>
   intro m h;simp only[List.foldl_cons];refine ih _ ?_;cases Region.binds .any x with
   |false=>exact h
   |true=>simp only[cond_true,Nat.testBit_or,h,Bool.true_or]
 have key: ∀(l:List Edge) (m:Nat),e∈l→(l.foldl (fun m e=>bif Region.binds .any e then m|||2^e.on|||acc.getD e.on 0 else m) m).testBit e.on=true:=by
  intro l;induction l with
  |nil=>intro m h;cases h
  |cons x l ih=>
   intro m h;simp only[List.foldl_cons];cases h with
   |head=>
    refine mono l _ ?_;rw[hb];simp[Nat.testBit_or]
   |tail _ h=>exact ih _ h
 exact key _ 0 (by simpa using he)
theorem ZiT {mp:Nat→Bool} : ∀(all:List OpI) (i:Nat) (is:List OpI) (os:List Oper) (k:Nat) (p:Oper×Md),(flags mp all i is os)[k]? =some p→
  ∃q o,is[k]? =some q∧os[k]? =some o∧
   p=(o,.d q.k (bif Zcr (i+k) q.bf (fun _=>true) 0 all then(bif mpO mp o&& !ZdY (i+k) q.bf 0 all then 0 else(match q.k with| .call=>(bif Zcr (i+k) q.bf isHp 0 all then 2 else 1)|_=>1))else 0))
 |all,i,[],os,k,p,h=>by cases os<;>simp[flags]at h
 |all,i,_::_,[],k,p,h=>by simp[flags]at h
 |all,i,q::r,o::os,0,p,h=>by
  simp only[flags,List.getElem?_cons_zero,Option.some.injEq]at h;exact⟨q,o,rfl,rfl,h.symm⟩
 |all,i,q::r,o::os,k+1,p,h=>by
  simp only[flags,List.getElem?_cons_succ]at h;obtain⟨q',o',h1,h2,h3⟩:=ZiT all (i+1) r os k p h;refine⟨q',o',by simpa using h1,by simpa using h2,?_⟩;rw[h3,show i+1+k=i+(k+1) by omega]
theorem Zfp {mp:Nat→Bool} : ∀(all:List OpI) (i:Nat) (is:List OpI) (os:List Oper),is.length=os.length→(flags mp all i is os).length=os.length
 |_,_,[],[],_=>rfl
 |all,i,_::r,_::os,h=>by simp only[flags,List.length_cons];rw[Zfp all (i+1) r os (by simpa using h)]
 |_,_,[],_::_,h=>by simp at h
 |_,_,_::_,[],h=>by simp at h
theorem Zrd {i bi:Nat} {f:Cls→Bool} : ∀ {r:List OpI} {j0 j:Nat} {q:OpI},r[j]? =some q→i≠j0+j→q.bf.testBit i=false→bi.testBit (j0+j)=false→f q.k=true→Zcr i bi f j0 r=true
 |[],j0,j,q,h,_,_,_,_=>by simp at h
 |x::r,j0,0,q,h,h1,h2,h3,h4=>by
  simp only[List.getElem?_cons_zero,Option.some.injEq]at h;subst h;simp only[Nat.add_zero]at h1 h3;have:Nat.beq i j0=false:=by
   cases e:Nat.beq i j0 with
   |false=>rfl
   |true=>exact absurd (Nat.eq_of_beq_eq_true e) h1
  simp only[Zcr,this,h2,h3,h4];rfl
 |x::r,j0,j+1,q,h,h1,h2,h3,h4=>by
  simp only[List.getElem?_cons_succ]at h;simp only[Zcr,Bool.or_eq_true];exact .inr (Zrd (j0:=j0+1) h (by omega) h2 (by rw[show j0+1+j=j0+(j+1) by omega];exact h3) h4)
theorem ZoI {i bi:Nat} : ∀ {r:List OpI} {j0 j:Nat} {q:OpI},r[j]? =some q→i≠j0+j→q.bf.testBit i=false→bi.testBit (j0+j)=false→(Nat.blt (j0+j) i&&Zic q.k)=false→ZdY i bi j0 r=true
 |[],j0,j,q,h,_,_,_,_=>by simp at h
 |x::r,j0,0,q,h,h1,h2,h3,h4=>by
  simp only[List.getElem?_cons_zero,Option.some.injEq]at h;subst h;simp only[Nat.add_zero]at h1 h3 h4;have:Nat.beq i j0=false:=by
   cases e:Nat.beq i j0 with
   |false=>rfl
   |true=>exact absurd (Nat.eq_of_beq_eq_true e) h1
  simp only[ZdY,this,h2,h3,h4];rfl
 |x::r,j0,j+1,q,h,h1,h2,h3,h4=>by
  simp only[List.getElem?_cons_succ]at h;simp only[ZdY,Bool.or_eq_true];exact .inr (ZoI (j0:=j0+1) h (by omega) h2 (by rw[show j0+1+j=j0+(j+1) by omega];exact h3) (by rw[show j0+1+j=j0+(j+1) by omega];exact h4))
def bef (is:List OpI) (i k:Nat):Prop:=∃q,is[k]? =some q∧q.bf.testBit i=true
theorem ZsR: ∀(l:List Operand) (m t:Nat),(m.testBit t=true∨Operand.tmp t∈l)→(l.foldl (fun m x=>match x with| .tmp t=>m|||2^t|_=>m) m).testBit t=true
 |[],m,t,h=>by
  rcases h with h|h
  ·exact h
  ·cases h
 |x::l,m,t,h=>by
  simp only[List.foldl_cons];refine ZsR l _ t ?_;rcases h with h|h
  ·refine .inl ?_
   cases x with
   |tmp u=>simp only[Nat.testBit_or,h,Bool.true_or]
   |_=>exact h
  ·cases h with
   |head=>exact .inl (by simp[Nat.testBit_or])
   |tail _ h=>exact .inr h
theorem ZjK (m r t:Nat) (h:m.testBit t=true∨r=t):(m|||2^r).testBit t=true:=by
 rcases h with h|rfl
 ·simp[Nat.testBit_or,h]
 ·simp[Nat.testBit_or]
theorem ZoM (pr:List Nat) (ops:List Oper) (o:Oper) (m:Nat) (t:Nat) (h:m.testBit t=true):
  (match o.op with
   | .load _ (.tmp a)=>(match rootT pr ops 12 a with|some r=>m|||2^r|none=>m)
   | .store _ (.tmp a) _=>(match rootT pr ops 12 a with|some r=>m|||2^r|none=>m)
   |_=>m).testBit t=true:=by
 split
 ·split
  ·exact ZjK _ _ _ (.inl h)
  ·exact h
 ·split
  ·exact ZjK _ _ _ (.inl h)
  ·exact h
 ·exact h
theorem ZqO {pr:List Nat} {ops:List Oper} {o:Oper} {t:Nat} (h:Operand.tmp t∈o.op.operands):(lookM pr ops o).testBit t=true:=by
 unfold lookM;refine ZoM _ _ _ _ _ ?_;have h1:=ZsR o.op.operands.toList 0 t (.inr (by simpa using h));split
 ·split
  ·split
   ·exact ZjK _ _ _ (.inl h1)
   ·exact h1
  ·exact h1
 ·exact h1
theorem ZvV {pr:List Nat} {ops:List Oper} {o g:Oper} {j r:Nat} {w:Bool} (h:o.guard=some (j,w)) (hj:ops[j]? =some g) (hr:g.dst=some r):(lookM pr ops o).testBit r=true:=by
 unfold lookM;refine ZoM _ _ _ _ _ ?_;simp only[h,hj,hr];exact ZjK _ _ _ (.inr rfl)
theorem ZxC {P:Program} {pr:List Nat} {ops:List Oper} {o:Oper} {r:Nat} (h:cls P pr ops o= .rdL r∨cls P pr ops o= .wrL r):(lookM pr ops o).testBit r=true:=by
 cases ho:o.op with
 |load t a=>
  cases a with
  |tmp a=>
   cases hr:rootT pr ops 12 a with
   |none=>simp[cls,ho,hr]at h
   |some q=>
    simp[cls,ho,hr]at h;subst h;simp only[lookM,ho,hr];exact ZjK _ _ _ (.inr rfl)
  |_=>simp[cls,ho]at h
 |store t a y=>
  cases a with
  |tmp a=>
   cases hr:rootT pr ops 12 a with
   |none=>simp[cls,ho,hr]at h
   |some q=>
    simp[cls,ho,hr]at h;subst h;simp only[lookM,ho,hr];exact ZjK _ _ _ (.inr rfl)
  |_=>simp[cls,ho]at h
 |next it b=>
  cases it with
  |tmp t=>
   simp[cls,ho]at h;subst h;exact ZqO (by simp[Op.operands,ho])
  |_=>simp[cls,ho]at h
 |slice t y lo hi mx=>
  simp only[cls,ho]at h;split at h<;>simp at h
 |call q=>
  cases hp:has pr 1000000<;>simp only[cls,ho,hp,cond_true,cond_false]at h<;>split at h<;>simp at h
 |_=>simp[cls,ho]at h
structure Su (C:Cfg) (pr ms:List Nat) (ops:Array Oper) (l:List (Oper×Md)) (is:List OpI) (m:Nat) (A B:Nat→Env) (ss:Nat→St):Prop where
 his:is=prep C.P pr ops.toList ops.toList []
 hl:l=flags C.mp is 0 is ops.toList
 ok:okAll 0 is ops.toList=true
 hm:m≤ops.size
 w: ∀k,k≤m→Weak (A k) (B k)
 st: ∀k p,k<m→l[k]? =some p→Step C (dstOf ops) pr ms p (B k) (ss k) (A (k+1)) (ss (k+1))
 e0:EOK (A 0)
theorem Step.opF {C:Cfg} {dst:Nat→Option Nat} {pr ms:List Nat} {p:Oper×Md} {E E':Env} {s s':St} (h:Step C dst pr ms p E s E' s'):OpF (Wof p.2 E) pr ms p.1 E s E' s':=by
 cases h with
 |act _ hF _=>exact hF
 |skip _=>exact OpF.putS pr ms .un rfl fun _ _ _ _ h=>by cases h
section
variable {C:Cfg} {pr ms:List Nat} {ops:Array Oper} {l:List (Oper×Md)} {is:List OpI} {m:Nat} {A B:Nat→Env} {ss:Nat→St}
theorem Su.isLen (S:Su C pr ms ops l is m A B ss):is.length=ops.size:=by rw[S.his,ZgM];simp
theorem Su.lLen (S:Su C pr ms ops l is m A B ss):l.length=ops.size:=by rw[S.hl,Zfp _ _ _ _ (by rw[S.isLen];simp)];simp
structure OpT (C:Cfg) (pr:List Nat) (ops:Array Oper) (is:List OpI) (k:Nat) (p:Oper×Md) (q:OpI) (x:Nat):Prop where
 iq:is[k]? =some q
 op:ops[k]? =some p.1
 md:p.2= .d q.k x
 kc:q.k=setBs pr ops.toList k q.bf (cls C.P pr ops.toList p.1)
 dst:q.dst=p.1.dst
 lk:q.lk=lookM pr ops.toList p.1
 lt: ∀j,q.bf.testBit j=true→j<k
 gd: ∀j w,p.1.guard=some (j,w)→q.bf.testBit j=true
 on: ∀e∈p.1.after,Region.binds .any e=true→q.bf.testBit e.on=true
 edge: ∀j,q.bf.testBit j=true→∃e∈p.1.after,Region.binds .any e=true∧(j=e.on∨bef is j e.on)
 zero:x=0→∀j q',is[j]? =some q'→k≠j→q'.bf.testBit k=true∨q.bf.testBit j=true∨(j<k∧Zic q'.k=true)
 two:q.k= .call→∀j q',is[j]? =some q'→k≠j→isHp q'.k=true→q'.bf.testBit k=true∨q.bf.testBit j=true∨2≤x
theorem Su.get (S:Su C pr ms ops l is m A B ss) {k:Nat} {p:Oper×Md} (hp:l[k]? =some p): ∃q x,OpT C pr ops is k p q x:=by
 rw[S.hl]at hp;obtain⟨q,o,h1,h2,h3⟩:=ZiT _ _ _ _ _ _ hp;rw[Nat.zero_add]at h3;have h1':=h1;rw[S.his]at h1';obtain⟨o',g1,g2,g3,g4,g5⟩:=Znp _ _ _ _ _ _ _ h1';rw[h2]at g1;cases g1;obtain⟨k1,⟨o',k2,k3⟩,_⟩:=Zi1 S.ok k q h1;rw[h2]at k2;cases k2;rw[Nat.zero_add]at k1;have hlt: ∀j,q.bf.testBit j=true→j<k:=by
  intro j hj;rcases Nat.lt_or_ge j k with h|h
  ·exact h
  ·have:q.bf<2^j:=Nat.lt_of_lt_of_le k1 (Nat.pow_le_pow_right (by omega) h)
   rw[Nat.testBit_lt_two_pow this]at hj;cases hj
 have bs: ∀f:Cls→Bool,∀j q',is[j]? =some q'→k≠j→f q'.k=true→Zcr k q.bf f 0 is=false→q'.bf.testBit k=true∨q.bf.testBit j=true:=by
  intro f j q' hq hne hf hb;cases e1:q'.bf.testBit k with
  |true=>exact .inl rfl
  |false=>
   cases e2:q.bf.testBit j with
   |true=>exact .inr rfl
   |false=>rw[Zrd (i:=k) (bi:=q.bf) (f:=f) (j0:=0) hq (by omega) e1 (by rw[Nat.zero_add];exact e2) hf]at hb;cases hb
 have bs2: ∀j q',is[j]? =some q'→k≠j→ZdY k q.bf 0 is=false→q'.bf.testBit k=true∨q.bf.testBit j=true∨(j<k∧Zic q'.k=true):=by
  intro j q' hq hne hb;cases e1:q'.bf.testBit k with
  |true=>exact .inl rfl
  |false=>
   cases e2:q.bf.testBit j with
   |true=>exact .inr (.inl rfl)
   |false=>
    cases e3:(Nat.blt j k&&Zic q'.k)with
    |false=>rw[ZoI (i:=k) (bi:=q.bf) (j0:=0) hq (by omega) e1 (by rw[Nat.zero_add];exact e2) (by rw[Nat.zero_add];exact e3)]at hb;cases hb
    |true=>
     rw[Bool.and_eq_true,Nat.blt_eq]at e3;exact .inr (.inr e3)
 refine⟨q,_,h1,?_,by rw[h3],by rw[h3];simp only[List.length_nil,Nat.zero_add]at g3;exact g3,by rw[h3];exact g4,by rw[h3];exact g5,hlt,fun j w hg=>k3 j w (by rw[h3]at hg;exact hg),fun e he hb=>by rw[g2];exact Zzo (by rw[h3]at he;exact he) hb,fun j hj=>?_,fun hx j q' hq hne=>?_,fun hc j q' hq hne hh=>?_⟩
 ·rw[h3,←Array.getElem?_toList];exact h2
 ·rw[g2]at hj
  obtain⟨e,he,hb,hj⟩:=Zyi hj;rw[h3];refine⟨e,he,hb,hj.imp id fun hj=>?_⟩;simp only[List.nil_append,List.getD_eq_getElem?_getD]at hj;have hj':((((is.take k).map fun x:OpI=>x.bf)[e.on]?).getD 0).testBit j=true:=by rw[S.his];exact hj
  cases hx:((is.take k).map fun x:OpI=>x.bf)[e.on]? with
  |none=>rw[hx]at hj';simp at hj'
  |some b=>
   rw[hx]at hj';rw[List.getElem?_map]at hx;cases hy:(is.take k)[e.on]? with
   |none=>rw[hy]at hx;cases hx
   |some q'=>
    rw[hy]at hx;simp only[Option.map_some,Option.some.injEq]at hx;rw[List.getElem?_take]at hy;split at hy
    ·exact⟨q',hy,by rw[hx];exact hj'⟩
    ·cases hy
 ·cases hb:Zcr k q.bf (fun _=>true) 0 is with
  |false=>exact(bs _ j q' hq hne rfl hb).imp id .inl
  |true=>
   rw[hb]at hx;simp only[cond_true]at hx;cases hq2:mpO C.mp o&& !ZdY k q.bf 0 is with
   |true=>
    rw[Bool.and_eq_true,Bool.not_eq_true']at hq2;exact bs2 j q' hq hne hq2.2
   |false=>
    rw[hq2]at hx;simp only[cond_false]at hx;split at hx
    ·cases hc:Zcr k q.bf isHp 0 is<;>rw[hc]at hx<;>cases hx
    ·cases hx
 ·cases hb:Zcr k q.bf isHp 0 is with
  |false=>exact(bs _ j q' hq hne hh hb).imp id .inl
  |true=>
   cases hb2:Zcr k q.bf (fun _=>true) 0 is with
   |false=>exact(bs _ j q' hq hne rfl hb2).imp id .inl
   |true=>
    cases hq2:mpO C.mp o&& !ZdY k q.bf 0 is with
    |true=>
     rw[Bool.and_eq_true,Bool.not_eq_true']at hq2;rcases bs2 j q' hq hne hq2.2 with h|h|⟨_,h⟩
     ·exact .inl h
     ·exact .inr (.inl h)
     ·exfalso
      generalize q'.k=z at hh h;cases z<;>simp[isHp,Zic]at hh h
    |false=>exact .inr (.inr (by simp[hc]))
theorem Su.F (S:Su C pr ms ops l is m A B ss) {k:Nat} {p:Oper×Md} (hk:k<m) (hp:l[k]? =some p):OpF (Wof p.2 (B k)) pr ms p.1 (B k) (ss k) (A (k+1)) (ss (k+1)):=(S.st k p hk hp).opF
theorem Su.opAt (S:Su C pr ms ops l is m A B ss) {k:Nat} (hk:k<m): ∃p,l[k]? =some p:=by
 have:=S.lLen;have:=S.hm;exact⟨l[k]'(by omega),List.getElem?_eq_getElem _⟩
theorem Su.eokB (S:Su C pr ms ops l is m A B ss): ∀k,k≤m→EOK (B k)
 |0,h=>S.e0.weak (S.w 0 h)
 |k+1,h=>by
  obtain⟨p,hp⟩:=S.opAt (k:=k) (by omega);exact((S.F (by omega) hp).eok (S.eokB k (by omega))).weak (S.w (k+1) h)
theorem ZeX {E E':Env} {s:St} (h:Weak E E') (x:HId):Dom E' s x↔Dom E s x:=by
 cases x with
 |inl i=>exact Iff.rfl
 |inr v=>simp only[Dom,h.nxt]
theorem Su.domS (S:Su C pr ms ops l is m A B ss) {k:Nat} (hk:k<m) {h:HId} (hd:Dom (B k) (ss k) h):Dom (A (k+1)) (ss (k+1)) h:=by
 obtain⟨p,hp⟩:=S.opAt hk;have hF:=S.F hk hp;cases h with
 |inl i=>exact Nat.lt_of_lt_of_le hd hF.len
 |inr v=>exact Nat.lt_of_lt_of_le hd hF.nxt
theorem Su.dom (S:Su C pr ms ops l is m A B ss) {h:HId} {j:Nat} : ∀(d:Nat),j+d≤m→Dom (B j) (ss j) h→Dom (B (j+d)) (ss (j+d)) h
 |0,_,hd=>hd
 |d+1,hk,hd=>(ZeX (S.w (j+d+1) hk) h).2 (S.domS (k:=j+d) (by omega) (S.dom d (by omega) hd))
theorem Su.dom' (S:Su C pr ms ops l is m A B ss) {h:HId} {j k:Nat} (hjk:j≤k) (hk:k≤m) (hd:Dom (B j) (ss j) h):Dom (B k) (ss k) h:=by
 have:=S.dom (j:=j) (k-j) (by omega) hd
 rwa [show j+(k-j)=k by omega]at this
def Wr (l:List (Oper×Md)) (B:Nat→Env) (i:Nat) (h:HId):Prop:=∃p,l[i]? =some p∧Wof p.2 (B i) h
theorem Su.back (S:Su C pr ms ops l is m A B ss) {h:HId} {ab:AB} {j:Nat} : ∀(d:Nat),j+d≤m→(∀i,j≤i→i<j+d→¬Wr l B i h)→Dom (B j) (ss j) h→CR (B (j+d)) (ss (j+d)) h ab→CR (B j) (ss j) h ab
 |0,_,_,_,c=>c
 |d+1,hk,hw,hd,c=>by
  obtain⟨p,hp⟩:=S.opAt (k:=j+d) (by omega);rcases(S.F (by omega) hp).back h ab (c.weak (S.w _ hk))with x|x|x
  ·exact absurd ⟨p,hp,x⟩ (hw (j+d) (by omega) (by omega))
  ·exact absurd (S.dom d (by omega) hd) x.1
  ·exact S.back d (by omega) (fun i h1 h2=>hw i h1 (by omega)) hd x
theorem Su.back' (S:Su C pr ms ops l is m A B ss) {h:HId} {ab:AB} {j k:Nat} (hjk:j≤k) (hk:k≤m) (hw: ∀i,j≤i→i<k→¬Wr l B i h) (hd:Dom (B j) (ss j) h) (c:CR (B k) (ss k) h ab):CR (B j) (ss j) h ab:=by
 have:=S.back (j:=j) (ab:=ab) (k-j) (by omega) (fun i h1 h2=>hw i h1 (by omega)) hd;rw[show j+(k-j)=k by omega]at this;exact this c
theorem Su.fix (S:Su C pr ms ops l is m A B ss) {x:Nat} {j:Nat} : ∀(d:Nat),j+d≤m→(∀i,j≤i→i<j+d→¬Wr l B i (.inl x))→x<(ss j).length→(ss (j+d))[x]? =(ss j)[x]?
 |0,_,_,_=>rfl
 |d+1,hk,hw,hx=>by
  obtain⟨p,hp⟩:=S.opAt (k:=j+d) (by omega);have hd:x<(ss (j+d)).length:=S.dom (h:= .inl x) d (by omega) hx;have:=(S.F (by omega) hp).sfix x (fun hi=>hw (j+d) (by omega) (by omega) ⟨p,hp,hi⟩) hd;rw[show j+(d+1)=j+d+1 by omega,this,S.fix d (by omega) (fun i h1 h2=>hw i h1 (by omega)) hx]
theorem Su.ent (S:Su C pr ms ops l is m A B ss) {ψ:Ps} {x:Value} {t:Nat} {j:Nat} : ∀(d:Nat),j+d≤m→(∀i p,j≤i→i<j+d→l[i]? =some p→p.1.dst≠some t)→EntR C ψ ((B j).get t) x→EntR C ψ ((B (j+d)).get t) x
 |0,_,_,r=>r
 |d+1,hk,hw,r=>by
  obtain⟨p,hp⟩:=S.opAt (k:=j+d) (by omega);have:=(S.F (by omega) hp).ent t (hw _ p (by omega) (by omega) hp) C ψ x (S.ent d (by omega) (fun i p h1 h2=>hw i p h1 (by omega)) r);rcases(S.w _ hk).get t with e|e
  ·rw[e];exact this
  ·rw[e];trivial
theorem Su.val (S:Su C pr ms ops l is m A B ss) {t j:Nat} {x:DV} : ∀(d:Nat),j+d≤m→(∀i p,j≤i→i<j+d→l[i]? =some p→p.1.dst≠some t)→(B (j+d)).get t= .v x→(B j).get t= .v x
 |0,_,_,e=>e
 |d+1,hk,hw,e=>by
  obtain⟨p,hp⟩:=S.opAt (k:=j+d) (by omega);refine S.val d (by omega) (fun i p h1 h2=>hw i p h1 (by omega)) ((S.F (by omega) hp).val t x (hw _ p (by omega) (by omega) hp) ?_);rcases(S.w _ hk).get t with e'|e'
  ·exact e'.symm.trans e
  ·exact absurd (e'.symm.trans e) (by simp)
theorem Ztq {E E':Env} (h:Weak E E') {t v:Nat} (e:(E'.get t).ver=some v):(E.get t).ver=some v:=by
 rcases h.get t with e'|e'
 ·rw[←e'];exact e
 ·rw[e']at e;cases e
theorem OpF.ver {W:HId→Prop} {o:Oper} {E E':Env} {s s':St} (hF:OpF W pr ms o E s E' s') {t v:Nat} (e:(E'.get t).ver=some v):(E.get t).ver=some v∨(E.nxt≤v∧o.dst=some t):=by
 cases he:E'.get t with
 |loc v' n cs=>
  rw[he]at e;simp only[Ent.ver,Option.some.injEq]at e;subst e;exact(hF.verL t _ n cs he).imp (fun⟨c,h⟩=>by rw[h];rfl) id
 |it v' s p=>
  rw[he]at e;simp only[Ent.ver,Option.some.injEq]at e;subst e;exact(hF.verI t _ s p he).imp (fun⟨c,h⟩=>by rw[h];rfl) id
 |_=>rw[he]at e;cases e
theorem Su.ver (S:Su C pr ms ops l is m A B ss) {t v j:Nat} : ∀(d:Nat),j+d≤m→v<(B j).nxt→((B (j+d)).get t).ver=some v→((B j).get t).ver=some v
 |0,_,_,e=>e
 |d+1,hk,hv,e=>by
  obtain⟨p,hp⟩:=S.opAt (k:=j+d) (by omega);have hd:v<(B (j+d)).nxt:=S.dom (h:= .inr v) d (by omega) hv;rcases(S.F (by omega) hp).ver (Ztq (S.w _ hk) e)with h|h
  ·exact S.ver d (by omega) hv h
  ·omega
theorem Su.ver' (S:Su C pr ms ops l is m A B ss) {t v j k:Nat} (hjk:j≤k) (hk:k≤m) (hv:v<(B j).nxt) (e:((B k).get t).ver=some v):((B j).get t).ver=some v:=
 S.ver (j:=j) (k-j) (by omega) hv (by rwa [show j+(k-j)=k by omega])
end
theorem Zwr (k k':Cls):clash k k'=clash k' k:=by
 cases k<;>cases k'<;>simp only[clash]<;>(rw[Bool.eq_iff_iff];simp only[Nat.beq_eq];exact eq_comm)
theorem Ztw {k k':Cls} (h:Zs4 k k'=false):clash k k'=false:=by
 cases k<;>cases k'<;>first|exact h|cases h
theorem ZtD {k k':Cls} {x x':Nat} {E E':Env} (c:clash k k'=false) (h2:k= .call→isHp k'=true→2≤x) (hv: ∀r q v,(E.get r).ver=some v→(E'.get q).ver=some v→r=q)
  (hb: ∀bs b,k= .ap bs→k'= .lp b→b∈bs→∀j p,E.get b= .v (.ptr (some (j,p)))→E'.get b= .v (.ptr (some (j,p)))):
  ∀h,Wof (.d k x) E h→¬Dof (.d k' x') E' h:=by
 intro h hw hd;cases k<;>cases k'<;>first
  |exact hw.elim
  |exact hd.elim
  |(simp[clash]at c;done)
  |(have h3:=h2 rfl rfl;have h4:=hw.1;omega)
  |(obtain⟨i,rfl⟩:=hw;obtain⟨v,e,_⟩:=hd;cases e;done)
  |(obtain⟨_,i,rfl⟩:=hw;obtain⟨v,e,_⟩:=hd;cases e;done)
  |(obtain⟨v,rfl,_⟩:=hw;obtain⟨i,e⟩:=hd;cases e;done)
  |(obtain⟨v,rfl,_⟩:=hw;obtain⟨i,p,_,e⟩:=hd;cases e;done)
  |(obtain⟨i,rfl,_⟩:=hw;obtain⟨v,e,_⟩:=hd;cases e;done)
  |(obtain⟨v,rfl,e1⟩:=hw
    obtain⟨v',e,e2⟩:=hd;cases e;have:=hv _ _ _ e1 e2;subst this;simp[clash]at c)
  |(rename_i bs b
    obtain⟨i,rfl,hw⟩:=hw;obtain⟨i',p',e1,e2⟩:=hd;cases e2;have hmem:b∈bs:=by
     have:has bs b=true:=by simpa [clash]using c
     exact(ZjQ _ _).1 this
    obtain⟨j,p,e3,e4⟩:=hw b hmem;have:=hb bs b rfl rfl hmem j p e3;rw[e1]at this;cases this;exact e4 rfl)
theorem Zw0 {P:Program} {pr:List Nat} {ops:List Oper} {o:Oper} (h:NewOp o):cls P pr ops o= .hp∨cls P pr ops o= .call∨cls P pr ops o= .ap []:=by
 unfold NewOp at h;cases ho:o.op<;>rw[ho]at h<;>simp only at h
 case call q=>
  split at h
  ·rename_i hq
   cases hp:has pr 1000000 with
   |true=>exact .inr (.inr (by simp[cls,ho,hq,hp]))
   |false=>exact .inr (.inl (by simp[cls,ho,hq,hp]))
  ·rename_i hq;exact .inr (.inr (by simp[cls,ho,hq]))
  ·exact h.elim
 all_goals exact .inl (by simp[cls,ho])
theorem ZvK {P:Program} {pr:List Nat} {ops:List Oper} {o:Oper} (h:NewOp o) (k m:Nat):setBs pr ops k m (cls P pr ops o)= .hp∨setBs pr ops k m (cls P pr ops o)= .call∨∃bs,setBs pr ops k m (cls P pr ops o)= .ap bs:=by
 rcases Zw0 (P:=P) (pr:=pr) (ops:=ops) h with e|e|e<;>rw[e]
 ·exact .inl rfl
 ·exact .inr (.inl rfl)
 ·exact .inr (.inr ⟨_,rfl⟩)
theorem ZvR {k:Cls} {x:Nat} {E:Env} (h:k= .hp∨k= .call∨∃bs,k= .ap bs) (i:Nat):Dof (.d k x) E (.inl i):=by
 rcases h with rfl|rfl|⟨bs,rfl⟩<;>exact⟨i,rfl⟩
theorem Zyr {pr:List Nat} {ops:List Oper} {k m b:Nat} {c:Cls} (h:setBs pr ops k m c= .lp b):c= .lp b:=by
 cases c<;>first|exact h|cases h
theorem ZxG {pr:List Nat} {ops:List Oper} {k m b:Nat} {c:Cls} (h:setBs pr ops k m c= .wrL b):c= .wrL b:=by
 cases c<;>first|exact h|cases h
theorem Zyh {pr:List Nat} {ops:List Oper} {k m:Nat} {c:Cls} {bs:List Nat} (h:setBs pr ops k m c= .ap bs):bs=(bsGo m 0 (ops.take k)).filter fun b=>keepB b (ops.take k)&&(rootT pr ops 12 b).isNone:=by
 cases c<;>cases h
 rfl
theorem ZzU {P:Program} {pr:List Nat} {ops:List Oper} {o:Oper} {b:Nat} (h:cls P pr ops o= .lp b):loads b o=true:=by
 unfold loads;cases ho:o.op with
 |load t a=>
  cases a with
  |tmp a=>
   cases hr:rootT pr ops 12 a with
   |none=>simp[cls,ho,hr]at h;simp[h]
   |some q=>simp[cls,ho,hr]at h
  |_=>simp[cls,ho]at h
 |store t a y=>
  cases a with
  |tmp a=>cases hr:rootT pr ops 12 a<;>simp[cls,ho,hr]at h
  |_=>simp[cls,ho]at h
 |next it b=>cases it<;>simp[cls,ho]at h
 |slice t y lo hi mx=>
  simp only[cls,ho]at h;split at h<;>simp at h
 |call q=>
  cases hp:has pr 1000000<;>simp only[cls,ho,hp,cond_true,cond_false]at h<;>split at h<;>simp at h
 |_=>simp[cls,ho]at h
theorem Zro {b:Nat} : ∀ {L:List Oper},keepB b L=true→∀(i j:Nat) (o o':Oper),L[i]? =some o→loads b o=true→i≤j→L[j]? =some o'→o'.dst≠some b
 |[],_,i,j,o,o',h,_,_,_=>by simp at h
 |x::r,h,i,j,o,o',hi,hl,hij,hj=>by
  unfold keepB at h;cases hx:loads b x with
  |true=>
   rw[hx]at h;simp only[cond_true]at h;have:=List.all_eq_true.1 h o' (List.mem_of_getElem? hj);intro e;rw[e]at this;simp at this
  |false=>
   rw[hx]at h;simp only[cond_false]at h;cases i with
   |zero=>
    simp only[List.getElem?_cons_zero,Option.some.injEq]at hi;subst hi;rw[hx]at hl;cases hl
   |succ i=>
    obtain⟨j,rfl⟩: ∃j',j=j'+1:=⟨j-1,by omega⟩;exact Zro h i j o o' (by simpa using hi) hl (by omega) (by simpa using hj)
section
variable {C:Cfg} {pr ms:List Nat} {ops:Array Oper} {l:List (Oper×Md)} {is:List OpI} {m:Nat} {A B:Nat→Env} {ss:Nat→St}
abbrev NewAt (A B:Nat→Env) (ss:Nat→St) (i:Nat) (h:HId):Prop:=New (B i) (ss i) (A (i+1)) (ss (i+1)) h
structure Free (pr ms:List Nat) (ops:Array Oper) (l:List (Oper×Md)) (A B:Nat→Env) (ss:Nat→St) (i k:Nat) (p p':Oper×Md):Prop where
 d1: ∀t,p.1.dst=some t→(lookM pr ops.toList p'.1).testBit t=false
 d2: ∀t,p'.1.dst=some t→(lookM pr ops.toList p.1).testBit t=false
 d3: ∀t,p.1.dst=some t→p'.1.dst≠some t
 w1: ∀h,Wof p.2 (B i) h→¬Dof p'.2 (B k) h
 w2: ∀h,Wof p'.2 (B k) h→¬Dof p.2 (B i) h
 n1: ∀h,NewAt A B ss i h→¬Wof p'.2 (B k) h
 n2: ∀h,NewAt A B ss k h→¬Wof p.2 (B i) h
theorem Su.conf (S:Su C pr ms ops l is m A B ss) {i k:Nat} (hik:i<k) (hk:k<m) {p p':Oper×Md} (hp:l[i]? =some p) (hp':l[k]? =some p') (hn: ¬bef is i k):Free pr ms ops l A B ss i k p p':=by
 obtain⟨q,x,T⟩:=S.get hp;obtain⟨q',x',T'⟩:=S.get hp';have hap:Apart q q':=by
  obtain⟨_,_,h⟩:=Zi1 S.ok i q T.iq;rcases h k q' hik T'.iq with h|h
  ·rw[Nat.zero_add]at h;exact absurd ⟨q',T'.iq,h⟩ hn
  ·exact h
 obtain⟨ct,e1,e2,e3⟩:=hap;have c:=Ztw ct;rw[T.dst,T'.lk]at e1;rw[T'.dst,T.lk]at e2;rw[T.dst,T'.dst]at e3;have hv: ∀r t v,((B i).get r).ver=some v→((B k).get t).ver=some v→r=t:=fun r t v h1 h2=>
  (S.eokB i (by omega)).uniq r t v h1 (S.ver' (by omega) (by omega) ((S.eokB i (by omega)).lt r v h1) h2)
 have w1: ∀h,Wof p.2 (B i) h→¬Dof p'.2 (B k) h:=by
  rw[T.md,T'.md];refine ZtD c (fun h1 h2=>?_) hv (fun bs b h1 h2=>by rw[h1,h2]at ct;cases ct);rcases T.two h1 k q' T'.iq (by omega) h2 with h|h|h
  ·exact absurd ⟨q',T'.iq,h⟩ hn
  ·have:=T.lt k h;omega
  ·exact h
 have w2: ∀h,Wof p'.2 (B k) h→¬Dof p.2 (B i) h:=by
  rw[T.md,T'.md];refine ZtD (by rw[Zwr];exact c) (fun h1 h2=>?_) (fun r t v h1 h2=>(hv t r v h2 h1).symm) (fun bs b h1 h2 hmem j pp hg=>?_);rotate_left
  ·have hbs:=Zyh (T'.kc.symm.trans h1)
   rw[hbs,List.mem_filter]at hmem;have hld:loads b p.1=true:=ZzU (Zyr (T.kc.symm.trans h2));have hop:ops.toList[i]? =some p.1:=by rw[Array.getElem?_toList];exact T.op
   refine S.val (j:=i) (k-i) (by omega) (fun i' p'' g1 g2 g3=>?_) (by rw[show i+(k-i)=k by omega];exact hg);obtain⟨q'',x'',T''⟩:=S.get g3;have hop'':ops.toList[i']? =some p''.1:=by rw[Array.getElem?_toList];exact T''.op
   exact Zro (Bool.and_eq_true_iff.1 hmem.2).1 i i' p.1 p''.1 (by rw[List.getElem?_take,if_pos (by omega)];exact hop) hld g1 (by rw[List.getElem?_take,if_pos (by omega)];exact hop'')
  rcases T'.two h1 i q T.iq (by omega) h2 with h|h|h
  ·have:=T.lt k h;omega
  ·exact absurd ⟨q',T'.iq,h⟩ hn
  ·exact h
 have d1: ∀t,p.1.dst=some t→(lookM pr ops.toList p'.1).testBit t=false:=fun t h=>by rw[h]at e1;exact e1
 refine⟨d1,fun t h=>by rw[h]at e2;exact e2,fun t h h'=>?_,w1,w2,fun h hnew hw=>?_,fun h hnew hw=>?_⟩
 ·rw[h,h']at e3
  simp only[dstEq,Nat.beq_refl]at e3;cases e3
 ·cases h with
  |inl y=>
   have hF:=S.F (by omega) hp;rcases hF.grow with hg|hg
   ·have h1:=hnew.1;have h2:=hnew.2
    simp only[Dom]at h1 h2;omega
   ·refine w2 _ hw ?_
    rw[T.md,T.kc];exact ZvR (ZvK hg _ _) y
  |inr v=>
   rw[T'.md]at hw;cases hq:q'.k<;>rw[hq]at hw<;>first|exact hw.elim|skip
   ·obtain⟨y,e⟩:=hw;cases e
   ·obtain⟨_,y,e⟩:=hw;cases e
   ·rename_i r
    obtain⟨v',e,hv'⟩:=hw;cases e;have hlt:v<(B (i+1)).nxt:=by rw[(S.w (i+1) (by omega)).nxt];exact hnew.2
    have h1:=Ztq (S.w (i+1) (by omega)) (S.ver' (by omega) (by omega) hlt hv');rcases(S.F (by omega) hp).ver h1 with h2|⟨_,h2⟩
    ·exact hnew.1 ((S.eokB i (by omega)).lt r v h2)
    ·have h3:=d1 r h2
     have h4:=ZxC (P:=C.P) (pr:=pr) (ops:=ops.toList) (o:=p'.1) (r:=r) (.inr (ZxG (T'.kc.symm.trans hq)));rw[h3]at h4;cases h4
   ·obtain⟨y,e,_⟩:=hw;cases e
 ·cases h with
  |inl y=>
   have hF:=S.F hk hp';rcases hF.grow with hg|hg
   ·have h1:=hnew.1;have h2:=hnew.2
    simp only[Dom]at h1 h2;omega
   ·refine w1 _ hw ?_
    rw[T'.md,T'.kc];exact ZvR (ZvK hg _ _) y
  |inr v=>
   rw[T.md]at hw;cases hq:q.k<;>rw[hq]at hw<;>first|exact hw.elim|skip
   ·obtain⟨y,e⟩:=hw;cases e
   ·obtain⟨_,y,e⟩:=hw;cases e
   ·rename_i r
    obtain⟨v',e,hv'⟩:=hw;cases e;have:Dom (B i) (ss i) (.inr v):=(S.eokB i (by omega)).lt r v hv';exact hnew.1 (S.dom' (by omega) (by omega) this)
   ·obtain⟨y,e,_⟩:=hw;cases e
theorem Zpk {ops:Array Oper} {o:Oper} {E:Env} {ψ:Ps} {a:Act} (R: ∀j w r,o.guard=some (j,w)→dstOf ops j=some r→EntR C ψ (E.get r) (a.tmps.getD r undef)) (h:GW (dstOf ops) E o):Region.wanted o (yielded ops a.tmps)=true:=by
 unfold Region.wanted;rcases h with h|⟨j,w,r,h1,h2,h3⟩
 ·rw[h]
 ·have hr:=R j w r h1 h2
  rw[h1];rw[ZkK]at h2;rw[h3]at hr;have:a.tmps.getD r undef= .bool w:=by generalize a.tmps.getD r undef=x at hr;cases hr;rfl
  simp[yielded,h2,Zk2 a r w this]
theorem ZsI {ops:Array Oper} {o:Oper} {E:Env} {ψ:Ps} {a:Act} (R: ∀j w r,o.guard=some (j,w)→dstOf ops j=some r→EntR C ψ (E.get r) (a.tmps.getD r undef)) (h:GU (dstOf ops) E o):Region.wanted o (yielded ops a.tmps)=false:=by
 unfold Region.wanted;obtain⟨j,w,r,h1,h2,h3⟩:=h;have hr:=R j w r h1 h2;rw[h1];rw[ZkK]at h2;rcases h3 with⟨b,h3,hb⟩|h3
 ·rw[h3]at hr
  have:a.tmps.getD r undef= .bool b:=by generalize a.tmps.getD r undef=x at hr;cases hr;rfl
  simp[yielded,h2,Zk2 a r b this,hb]
 ·rw[h3]at hr
  have hr:a.tmps.getD r undef=undef:=hr;have:a.tmps[r]? =none∨a.tmps[r]? =some undef:=by
   rw[Array.getD_eq_getD_getElem?]at hr;cases e:a.tmps[r]? with
   |none=>exact .inl rfl
   |some v=>rw[e]at hr;simp only[Option.getD_some]at hr;rw[hr];exact .inr rfl
  have hy:yielded ops a.tmps j=none:=by
   unfold yielded;rw[h2];rcases this with e|e<;>simp[e,undef]
  simp[hy]
theorem Zxb {QQ:Exit→Act→World→Prop} {p:Oper×Md} {E E':Env} {s s':St} (st:Step C (dstOf ops) pr ms p E s E' s') {ψ:Ps} {Q:Kn} {a:Act} {w:World} (pre:Pre C p.1 (Dof p.2 E) E s ψ Q a w) (room:Room E s E' s' ψ)
  (hg: ∀j w r,p.1.guard=some (j,w)→dstOf ops j=some r→EntR C ψ (E.get r) (a.tmps.getD r undef)) {i:Nat} (hi:ops[i]? =some p.1) {K:Act→World→Prop}
  (h: ∀ψ' Q' v w',Post C (Dof p.2 E) (Wof p.2 E) E s E' s' ψ Q w ψ' Q' w'→(∀d,p.1.dst=some d→EntR C ψ' (E'.get d) v)→K (a.put p.1.dst v) w'):wpOp C.P ops QQ i K a w:=by
 unfold wpOp;simp only[hi];cases st with
 |act g hF hO=>
  rw[if_pos (Zpk hg g)];exact .inl (hO ψ Q a w K QQ pre room h)
 |skip g=>
  rw[if_neg (by rw[ZsI hg g];simp)];refine h ψ Q undef w ⟨pre.sim,.refl _ _ _,fun h cb e=> .inl e,fun h ab cb c hw e=>?_,fun h ab cb e q _ _=>q⟩ fun d hd=>?_
  ·rcases hw with hw|⟨n1,n2⟩
   ·exact pre.know h ab cb (ZmA _ _ _ hw) (c.putO rfl) e
   ·exact absurd (by cases h<;>simpa [Dom]using n2) n1
  ·rw[Env.get_putO,if_pos hd];rfl
structure Inv (C:Cfg) (f:Fr) (l:List (Oper×Md)) (is:List OpI) (m:Nat) (A B:Nat→Env) (ss:Nat→St) (ψi:Ps) (L:Nat→Prop) (a:Act) (w:World) (ψ:Ps) (Q:Kn):Prop where
 sim:Sim C ψ Q w
 blks:Blks ψ w
 glob:Glob C ψ
 reg: ∀t j,j≤m→(∀i p,i<j→l[i]? =some p→¬L i→p.1.dst≠some t)→(∀i p,j≤i→l[i]? =some p→L i→p.1.dst≠some t)→EntR C ψ ((B j).get t) (a.tmps.getD t undef)
 know: ∀h j ab cb,j≤m→(∀i,i<j→¬L i→¬Wr l B i h)→(∀i,j≤i→L i→¬Wr l B i h)→CR (B j) (ss j) h ab→ψ h=some cb→Q h ab
 free: ∀i h,i<m→¬L i→NewAt A B ss i h→ψ h=none
 news: ∀h cb,ψ h=some cb→ψi h=some cb∨(¬Dom (B 0) (ss 0) h∧Dom (B m) (ss m) h)
 ext:Ext f.ψ0 (CS f.s0) f.w0 ψ Q w
 tsz:Ks f a
 defs:a.defers=f.dfs
 sub: ∀i,L i→i<m
 down: ∀i k,L k→bef is i k→L i
theorem ZzL {E:Env} (hE:EOK E) {s:St} {h:HId} {ab ab':AB} (c:CR E s h ab) (c':CR E s h ab'):ab=ab':=by
 cases h with
 |inl i=>
  have h1:stAB s i=some ab:=c;have h2:stAB s i=some ab':=c';rw[h1]at h2;exact Option.some.inj h2
 |inr v=>
  rcases c with⟨t,n,cs,e,rfl⟩|⟨t,l,p,e,rfl⟩<;>rcases c' with⟨t',n',cs',e',rfl⟩|⟨t',l',p',e',rfl⟩<;>
   (have:=hE.uniq t t' v (by rw[e];rfl) (by rw[e'];rfl);subst this;rw[e]at e';cases e';try rfl)
theorem Su.born (S:Su C pr ms ops l is m A B ss) {h:HId} {j:Nat} : ∀(d:Nat),j+d≤m→¬Dom (B j) (ss j) h→Dom (B (j+d)) (ss (j+d)) h→∃k,j≤k∧k<j+d∧NewAt A B ss k h
 |0,_,hn,hd=>absurd hd hn
 |d+1,hk,hn,hd=>by
  have hd':Dom (A (j+d+1)) (ss (j+d+1)) h:=(ZeX (S.w _ hk) h).1 hd;by_cases e:Dom (B (j+d)) (ss (j+d)) h
  ·obtain⟨k,h1,h2,h3⟩:=S.born d (by omega) hn e
   exact⟨k,h1,by omega,h3⟩
  ·exact⟨j+d,by omega,by omega,e,hd'⟩
theorem ZzO {E:Env} {s:St} {t v:Nat} (h:(E.get t).ver=some v): ∃ab,CR E s (.inr v) ab:=by
 cases he:E.get t with
 |loc v' n cs=>
  rw[he]at h;simp only[Ent.ver,Option.some.injEq]at h;subst h;exact⟨_,.inl ⟨t,n,cs,he,rfl⟩⟩
 |it v' x p=>
  rw[he]at h;simp only[Ent.ver,Option.some.injEq]at h;subst h;exact⟨_,.inr ⟨t,x,p,he,rfl⟩⟩
 |_=>rw[he]at h;cases h
variable {f:Fr} {ψi:Ps} {L:Nat→Prop} {a:Act} {w:World} {ψ:Ps} {Q:Kn}
theorem Inv.pre (S:Su C pr ms ops l is m A B ss) (I:Inv C f l is m A B ss ψi L a w ψ Q) {i:Nat} {p:Oper×Md} (hi:i≤m) (_hp:l[i]? =some p) (hL: ¬L i) (_hpre: ∀j,bef is j i→L j)
  (hc1: ∀k p',k<i→l[k]? =some p'→¬L k→(∀t,p'.1.dst=some t→(lookM pr ops.toList p.1).testBit t=false)∧∀h,Wof p'.2 (B k) h→¬Dof p.2 (B i) h) (hc2: ∀k p',i<k→l[k]? =some p'→L k→Free pr ms ops l A B ss i k p p'):
  Pre C p.1 (Dof p.2 (B i)) (B i) (ss i) ψ Q a w∧∀j w r,p.1.guard=some (j,w)→dstOf ops j=some r→EntR C ψ ((B i).get r) (a.tmps.getD r undef):=by
 have reg: ∀t,(lookM pr ops.toList p.1).testBit t=true→EntR C ψ ((B i).get t) (a.tmps.getD t undef):=by
  intro t ht;refine I.reg t i hi (fun k p' hk hp' hl e=>?_) (fun k p' hk hp' hl e=>?_)
  ·have:=(hc1 k p' hk hp' hl).1 t e
   rw[ht]at this;cases this
  ·rcases Nat.eq_or_lt_of_le hk with h|h
   ·subst h;exact hL hl
   ·have:=(hc2 k p' h hp' hl).d2 t e
    rw[ht]at this;cases this
 refine⟨⟨I.sim,I.blks,I.glob,S.eokB i hi,fun h ab cb hD c e=>I.know h i ab cb hi (fun k hk hl=>?_) (fun k hk hl=>?_) c e,fun t ht=>reg t (ZqO ht)⟩,fun j w r hg hr=>reg r ?_⟩
 ·rintro⟨p',hp',hw⟩
  exact(hc1 k p' hk hp' hl).2 h hw hD
 ·rintro⟨p',hp',hw⟩
  rcases Nat.eq_or_lt_of_le hk with e|e
  ·subst e;exact hL hl
  ·exact(hc2 k p' e hp' hl).w2 h hw hD
 ·unfold dstOf at hr
  split at hr
  ·rename_i o ho;exact ZvV hg ho hr
  ·cases hr
theorem Inv.step (S:Su C pr ms ops l is m A B ss) (I:Inv C f l is m A B ss ψi L a w ψ Q) {i:Nat} {p:Oper×Md} (hi:i<m) (hp:l[i]? =some p) (hL: ¬L i) (hpre: ∀j,bef is j i→L j)
  (hd: ∀x,p.1.dst=some x→f.ok x=true) {QQ:Exit→Act→World→Prop} {K:Act→World→Prop}
  (h: ∀a' w' ψ' Q',Inv C f l is m A B ss ψi (fun j=>L j∨j=i) a' w' ψ' Q'→K a' w'):wpOp C.P ops QQ i K a w:=by
 have hc1: ∀k p',k<i→l[k]? =some p'→¬L k→Free pr ms ops l A B ss k i p' p:=fun k p' hk hp' hl=>S.conf hk hi hp' hp fun hb=>hl (hpre k hb)
 have hc2: ∀k p',i<k→l[k]? =some p'→L k→Free pr ms ops l A B ss i k p p':=fun k p' hk hp' hl=>S.conf hk (I.sub k hl) hp hp' fun hb=>hL (I.down i k hl hb)
 obtain⟨pre,hg⟩:=I.pre S (Nat.le_of_lt hi) hp hL hpre (fun k p' hk hp' hl=>⟨(hc1 k p' hk hp' hl).d1,(hc1 k p' hk hp' hl).w1⟩) hc2;obtain⟨q,x,T⟩:=S.get hp;refine Zxb (S.st i p hi hp) pre (fun k hk=>I.free i k hi hL hk) hg T.op fun ψ' Q' v w' P he=>h _ _ ψ' Q' ?_
 have hfree: ∀k h,k<m→¬(L k∨k=i)→NewAt A B ss k h→ψ' h=none:=by
  intro k h hk hl hnew;cases e:ψ' h with
  |none=>rfl
  |some cb=>
   rcases P.news h cb e with e|e
   ·rw[I.free k h hk (fun x=>hl (.inl x)) hnew]at e;cases e
   ·rcases Nat.lt_trichotomy i k with hik|hik|hik
    ·exact absurd (S.dom' (j:=i+1) (by omega) (by omega) ((ZeX (S.w (i+1) (by omega)) h).2 e.2)) hnew.1
    ·exact absurd (.inr hik.symm) hl
    ·exact absurd (S.dom' (j:=k+1) (by omega) (by omega) ((ZeX (S.w (k+1) (by omega)) h).2 hnew.2)) e.1
 refine⟨P.sim,P.ext.blks I.blks,P.ext.glob I.glob,fun t j hj c1 c2=>?_,fun h j ab cb hj c1 c2 c e=>?_,hfree,fun h cb e=>?_,I.ext.trans P.ext,I.tsz.put hd,by rw[ZhA];exact I.defs,fun k hk=>?_,fun j k hk hb=>?_⟩
 ·rw[Zke fun x hx=>by rw[I.tsz.1];exact f.okl x (hd x hx)]
  by_cases hdt:p.1.dst=some t
  ·rw[if_pos hdt]
   have hij:i<j:=by
    rcases Nat.lt_or_ge i j with h|h
    ·exact h
    ·exact absurd hdt (c2 i p h hp (.inr rfl))
   have h1:EntR C ψ' ((B (i+1)).get t) v:=by
    rcases(S.w (i+1) (by omega)).get t with e|e
    ·rw[e];exact he t hdt
    ·rw[e];trivial
   have:=S.ent (j:=i+1) (ψ:=ψ') (x:=v) (t:=t) (j-(i+1)) (by omega) (fun k p' h1 h2 hp'=>?_) h1
   ·rwa [show i+1+(j-(i+1))=j by omega]at this
   ·by_cases hl:L k
    ·exact(hc2 k p' (by omega) hp' hl).d3 t hdt
    ·exact c1 k p' (by omega) hp' (by rintro(h|h);exact hl h;omega)
  ·rw[if_neg hdt]
   refine(I.reg t j hj (fun k p' hk hp' hl=>?_) (fun k p' hk hp' hl=>c2 k p' hk hp' (.inl hl))).mono P.ext.mono;by_cases e:k=i
   ·subst e;rw[hp]at hp';cases hp';exact hdt
   ·exact c1 k p' hk hp' (by rintro(h|h);exact hl h;exact e h)
 ·by_cases hw:Wof p.2 (B i) h∨NewAt A B ss i h
  ·have hij:i<j:=by
    rcases Nat.lt_or_ge i j with h'|h'
    ·exact h'
    ·rcases hw with hw|hw
     ·exact absurd ⟨p,hp,hw⟩ (c2 i h' (.inr rfl))
     ·exact absurd (S.dom' h' (by omega) (c.dom (S.eokB j hj))) hw.1
   have hnw: ∀k,i+1≤k→k<j→¬Wr l B k h:=by
    rintro k h1 h2 ⟨p',hp',hw'⟩;by_cases hl:L k
    ·rcases hw with hw|hw
     ·exact(hc2 k p' (by omega) hp' hl).w2 h hw' (ZmA _ _ _ hw)
     ·exact(hc2 k p' (by omega) hp' hl).n1 h hw hw'
    ·exact c1 k (by omega) (by rintro(h|h);exact hl h;omega) ⟨p',hp',hw'⟩
   have hdom:Dom (B (i+1)) (ss (i+1)) h:=by
    rcases hw with hw|hw
    ·by_cases e0:Dom (B (i+1)) (ss (i+1)) h
     ·exact e0
     ·obtain⟨k,k1,k2,k3⟩:=S.born (j:=i+1) (j-(i+1)) (by omega) e0 (by rw[show i+1+(j-(i+1))=j by omega];exact c.dom (S.eokB j hj))
      obtain⟨p',hp'⟩:=S.opAt (k:=k) (by omega);by_cases hl:L k
      ·exact absurd hw ((hc2 k p' (by omega) hp' hl).n2 h k3)
      ·have:=hfree k h (by omega) (by rintro(h|h);exact hl h;omega) k3
       rw[this]at e;cases e
    ·exact(ZeX (S.w (i+1) (by omega)) h).2 hw.2
   exact P.p1 h ab cb ((S.back' (by omega) hj hnw hdom c).weak (S.w (i+1) (by omega))) hw e
  ·have e0:ψ h=some cb:=by
    rcases P.news h cb e with e|e
    ·exact e
    ·exact absurd (.inr e) hw
   have hnwi: ¬Wr l B i h:=by
    rintro⟨p',hp',hw'⟩;rw[hp]at hp';cases hp';exact hw (.inl hw')
   have hQ:=I.know h j ab cb hj (fun k hk hl=>by
    by_cases e:k=i
    ·subst e;exact hnwi
    ·exact c1 k hk (by rintro(h|h);exact hl h;exact e h)) (fun k hk hl=>c2 k hk (.inl hl)) c e0
   refine P.p2 h ab cb e0 hQ (fun x=>hw (.inl x)) fun hD hDom=>?_
   rcases Nat.lt_or_ge j i with hji|hji
   ·have hnw: ∀k,j≤k→k<i→¬Wr l B k h:=by
     rintro k h1 h2 ⟨p',hp',hw'⟩;by_cases hl:L k
     ·exact c2 k h1 (.inl hl) ⟨p',hp',hw'⟩
     ·exact(hc1 k p' h2 hp' hl).w1 h hw' hD
    cases h with
    |inl y=>
     have c':stAB (ss j) y=some ab:=c;have:=S.fix (x:=y) (j:=j) (i-j) (by omega) (fun k h1 h2=>hnw k h1 (by omega)) (Zgd c');rw[show j+(i-j)=i by omega]at this;show stAB (ss i) y=some ab;unfold stAB at c'⊢;rw[this];exact c'
    |inr v=>
     have hver: ∃r,((B i).get r).ver=some v:=by
      rw[T.md]at hD;cases hq:q.k<;>rw[hq]at hD<;>first|exact hD.elim|(obtain⟨y,e⟩:=hD;cases e;done)|(obtain⟨y,p',_,e⟩:=hD;cases e;done)|(obtain⟨v',e,hv⟩:=hD;cases e;exact⟨_,hv⟩)
     obtain⟨r,hr⟩:=hver;obtain⟨ab',c'⟩:=ZzO (s:=ss i) hr;have c2':=S.back' (Nat.le_of_lt hji) (Nat.le_of_lt hi) hnw (c.dom (S.eokB j hj)) c';rw[ZzL (S.eokB j hj) c c2'];exact c'
   ·refine S.back' hji hj (fun k h1 h2=>?_) hDom c
    rintro⟨p',hp',hw'⟩;rcases Nat.eq_or_lt_of_le h1 with e|e
    ·subst e;exact hnwi ⟨p',hp',hw'⟩
    ·by_cases hl:L k
     ·exact(hc2 k p' e hp' hl).w2 h hw' hD
     ·exact c1 k h2 (by rintro(h|h);exact hl h;omega) ⟨p',hp',hw'⟩
 ·rcases P.news h cb e with e|e
  ·exact I.news h cb e
  ·exact .inr ⟨fun x=>e.1 (S.dom' (Nat.zero_le _) (by omega) x),S.dom' (j:=i+1) (by omega) (Nat.le_refl _) ((ZeX (S.w (i+1) (by omega)) h).2 e.2)⟩
 ·rcases hk with hk|hk
  ·exact I.sub k hk
  ·omega
 ·rcases hk with hk|hk
  ·exact .inl (I.down j k hk hb)
  ·subst hk;exact .inl (hpre j hb)
end
theorem ZqB: ∀(l:List Bool) (i:Nat),l[i]? =some false→(l.set i true).count false+1=l.count false
 |[],i,h=>by simp at h
 |b::l,0,h=>by
  simp only[List.getElem?_cons_zero,Option.some.injEq]at h;subst h;simp
 |b::l,i+1,h=>by
  simp only[List.getElem?_cons_succ]at h;have:=ZqB l i h;simp only[List.set_cons_succ,List.count_cons];omega
def Lof (listed:Array Bool) (i:Nat):Prop:=listed[i]? =some true
theorem ZyY {listed:Array Bool} {i:Nat} (hi:i<listed.size) (j:Nat):Lof (listed.setIfInBounds i true) j↔Lof listed j∨j=i:=by
 unfold Lof;by_cases e:i=j
 ·subst e
  rw[Array.getElem?_setIfInBounds_self_of_lt hi];simp
 ·rw[Array.getElem?_setIfInBounds_ne e]
  constructor
  ·exact .inl
  ·rintro(h|h)
   ·exact h
   ·exact absurd h.symm e
theorem Zqj {listed:Array Bool} {i:Nat} (hi:i<listed.size) (h: ¬Lof listed i):listed[i]? =some false:=by
 unfold Lof at h;rw[Array.getElem?_eq_getElem hi]at h⊢;cases hb:listed[i]with
 |false=>rfl
 |true=>rw[hb]at h;exact absurd rfl h
theorem Zrm {ops:Array Oper} {listed:Array Bool} {i:Nat} (h:i∈Region.ready .any ops listed):i<ops.size∧¬Lof listed i∧∀o,ops[i]? =some o→∀e∈o.after,Region.binds .any e=true→Lof listed e.on:=by
 unfold Region.ready at h;obtain⟨h1,h2⟩:=List.mem_filter.1 h;rw[List.mem_range]at h1;simp only[Bool.and_eq_true,Bool.not_eq_true']at h2;refine⟨h1,fun hl=>?_,fun o ho e he hb=>?_⟩
 ·unfold Lof at hl
  have:=h2.1;rw[Array.getD_eq_getD_getElem?,hl]at this;cases this
 ·have h3:=h2.2
  rw[ho]at h3;simp only[Option.map_some,Option.getD_some]at h3;rw[Array.all_eq_true']at h3;have:=h3 e he;rw[hb]at this;simp only[Bool.not_true,Bool.false_or]at this;unfold Lof;rw[Array.getD_eq_getD_getElem?]at this;cases hx:listed[e.on]? with
  |none=>rw[hx]at this;cases this
  |some b=>rw[hx]at this;simp only[Option.getD_some]at this;rw[this]
theorem Zxa {ops:Array Oper} {listed:Array Bool} {i:Nat} {o:Oper} (ho:ops[i]? =some o) (hl:listed[i]? =some false) (h: ∀e∈o.after,Region.binds .any e=true→Lof listed e.on):i∈Region.ready .any ops listed:=by
 unfold Region.ready;refine List.mem_filter.2 ⟨List.mem_range.2 (ZbK ho),?_⟩;simp only[Bool.and_eq_true,Bool.not_eq_true'];refine⟨by rw[Array.getD_eq_getD_getElem?,hl];rfl,?_⟩;rw[ho];simp only[Option.map_some,Option.getD_some];rw[Array.all_eq_true'];intro e he;cases hb:Region.binds .any e with
 |false=>rfl
 |true=>
  have:=h e he hb;unfold Lof at this;simp[Array.getD_eq_getD_getElem?,this]
section
variable {C:Cfg} {pr ms:List Nat} {ops:Array Oper} {l:List (Oper×Md)} {is:List OpI} {m:Nat} {A B:Nat→Env} {ss:Nat→St}
variable {f:Fr} {ψi:Ps} {L:Nat→Prop} {a:Act} {w:World} {ψ:Ps} {Q:Kn}
theorem Su.ready_some (S:Su C pr ms ops l is m A B ss) {listed:Array Bool} (hsz:listed.size=ops.size): ∀(n i:Nat),i<n→i<ops.size→¬Lof listed i→Region.ready .any ops listed≠[]
 |0,i,h,_,_=>absurd h (Nat.not_lt_zero i)
 |n+1,i,hn,hi,hl=>by
  have hp:l[i]? =some (l[i]'(by rw[S.lLen];exact hi)):=List.getElem?_eq_getElem _;obtain⟨q,x,T⟩:=S.get hp;by_cases h: ∀e∈(l[i]'(by rw[S.lLen];exact hi)).1.after,Region.binds .any e=true→Lof listed e.on
  ·intro e
   have:=Zxa T.op (Zqj (by omega) hl) h;rw[e]at this;cases this
  ·simp only[Classical.not_forall]at h
   obtain⟨e,he,hb,hle⟩:=h;have:=T.lt _ (T.on e he hb);exact S.ready_some hsz n e.on (by omega) (by omega) hle
theorem Inv.congr {L':Nat→Prop} (I:Inv C f l is m A B ss ψi L a w ψ Q) (h: ∀i,L i↔L' i):Inv C f l is m A B ss ψi L' a w ψ Q:=by
 have:L=L':=funext fun i=>propext (h i)
 rw[←this];exact I
theorem Zt6 (S:Su C pr ms ops l is m A B ss) (hd: ∀p∈l,∀x,p.1.dst=some x→f.ok x=true) {QQ:Exit→Act→World→Prop}
  (qt:Nat→Prop) (bar:m<ops.size→(∀k,m<k→k<ops.size→bef is m k)∧∀i,i<m→bef is i m∨qt i)
  (fin:m=ops.size→∀a w ψ Q L,(∀i,i<m→L i)→Inv C f l is m A B ss ψi L a w ψ Q→QQ .normal a w)
  (pan:m<ops.size→∀K a w ψ Q L,(∀i,i<m→L i∨qt i)→Inv C f l is m A B ss ψi L a w ψ Q→wpOp C.P ops QQ m K a w):
  ∀(n:Nat) (listed:Array Bool) (a:Act) (w:World) (ψ:Ps) (Q:Kn),listed.size=ops.size→listed.toList.count false≤n→Inv C f l is m A B ss ψi (Lof listed) a w ψ Q→wpAny C.P .any ops QQ n listed a w:=by
 have all: ∀(listed:Array Bool) (a:Act) (w:World) (ψ:Ps) (Q:Kn),listed.size=ops.size→Region.ready .any ops listed=[]→Inv C f l is m A B ss ψi (Lof listed) a w ψ Q→QQ .normal a w:=by
  intro listed a w ψ Q hsz hr I;have hall: ∀i,i<ops.size→Lof listed i:=fun i hi=>Classical.byContradiction fun hn=>S.ready_some hsz (i+1) i (by omega) hi hn hr
  have hm:m=ops.size:=by
   rcases Nat.lt_or_ge m ops.size with h|h
   ·have:=I.sub m (hall m h);omega
   ·exact Nat.le_antisymm S.hm h
  exact fin hm a w ψ Q _ (fun i hi=>hall i (by omega)) I
 intro n;induction n with
 |zero=>
  intro listed a w ψ Q hsz hc I;have hr:Region.ready .any ops listed=[]:=by
   cases hr:Region.ready .any ops listed with
   |nil=>rfl
   |cons i r=>
    obtain⟨h1,h2,_⟩:=Zrm (i:=i) (ops:=ops) (listed:=listed) (by rw[hr];exact List.mem_cons_self);have:=ZqB listed.toList i (by rw[Array.getElem?_toList];exact Zqj (by omega) h2);omega
  exact⟨hr,all listed a w ψ Q hsz hr I⟩
 |succ n ih=>
  intro listed a w ψ Q hsz hc I;refine⟨fun hr=>all listed a w ψ Q hsz hr I,fun i hi=>?_⟩;obtain⟨h1,h2,h3⟩:=Zrm hi;have hp:l[i]? =some (l[i]'(by rw[S.lLen];exact h1)):=List.getElem?_eq_getElem _;obtain⟨q,x,T⟩:=S.get hp;have hpre: ∀j,bef is j i→Lof listed j:=by
   rintro j ⟨q',hq,hb⟩;rw[T.iq]at hq;cases hq;obtain⟨e,he,hbi,hj⟩:=T.edge j hb;have hl:=h3 _ T.op e he hbi;rcases hj with rfl|hj
   ·exact hl
   ·exact I.down _ _ hl hj
  have hcnt:=ZqB listed.toList i (by rw[Array.getElem?_toList];exact Zqj (by omega) h2);rcases Nat.lt_trichotomy i m with him|him|him
  ·refine I.step S him hp h2 hpre (hd _ (List.getElem_mem _)) fun a' w' ψ' Q' I'=>?_
   exact ih _ _ _ ψ' Q' (by simpa using hsz) (by rw[Array.toList_setIfInBounds];omega) (I'.congr fun j=>(ZyY (by omega) j).symm)
  ·subst him
   exact pan h1 _ a w ψ Q _ (fun k hk=>((bar h1).2 k hk).imp (hpre k) id) I
  ·have:=I.sub m (hpre m ((bar (by omega)).1 i him h1))
   omega
theorem Rel.drew {E:Env} {s:St} (R:Rel C f ψ E s a w):Rel C f ψ E s a { w with drawn:=w.drawn+1 } where
 sim:=R.sim.more R.blks (More.drew w)
 eok:=R.eok
 blks:=R.blks
 glob:=R.glob
 reg:=R.reg
 tsz:=R.tsz
 defs:=R.defs
 win:=R.win
 vin:=R.vin
 ext:=R.ext.trans (Ext.more (More.drew w))
 news:=R.news
 len:=R.len
 fin:=R.fin
theorem Su.start (S:Su C pr ms ops l is m A B ss) (R:Rel C f ψ (A 0) (ss 0) a w) (hN:(ss m).length≤f.N):Inv C f l is m A B ss ψ (fun _=>False) a w ψ (CR (B 0) (ss 0)):=by
 have R0:=R.weak (S.w 0 (Nat.zero_le _));have dom0: ∀h cb,ψ h=some cb→Dom (B m) (ss m) h→Dom (B 0) (ss 0) h:=by
  intro h cb e hd;cases h with
  |inl i=>
   rcases Nat.lt_or_ge i (ss 0).length with h|h
   ·exact h
   ·rw[R0.win i h (Nat.lt_of_lt_of_le hd hN)]at e;cases e
  |inr v=>
   rcases Nat.lt_or_ge v (B 0).nxt with h|h
   ·exact h
   ·rw[R0.vin v h]at e;cases e
 refine⟨R0.sim,R0.blks,R0.glob,fun t j hj c1 _=>?_,fun h j ab cb hj c1 _ c e=>?_,fun i h hi _ hn=>?_,fun h cb e=> .inl e,R0.ext,R0.tsz,R0.defs,fun _ h=>h.elim,fun _ _ h=>h.elim⟩
 ·have:=S.ent (j:=0) (ψ:=ψ) (x:=a.tmps.getD t undef) (t:=t) j (by omega) (fun i p _ h hp=>c1 i p (by omega) hp (fun h=>h)) (R0.reg t)
  rwa [Nat.zero_add]at this
 ·exact S.back' (Nat.zero_le _) hj (fun i _ hi=>c1 i hi (fun h=>h)) (dom0 h cb e (S.dom' hj (Nat.le_refl _) (c.dom (S.eokB j hj)))) c
 ·cases e:ψ h with
  |none=>rfl
  |some cb=>
   have h1:Dom (B m) (ss m) h:=S.dom' (j:=i+1) (by omega) (Nat.le_refl _) ((ZeX (S.w (i+1) (by omega)) h).2 hn.2);exact absurd (S.dom' (Nat.zero_le _) (Nat.le_of_lt hi) (dom0 h cb e h1)) hn.1
theorem Inv.tail (S:Su C pr ms ops l is m A B ss) {w0:World} {a0:Act} (R:Rel C f ψi (A 0) (ss 0) a0 w0) (I:Inv C f l is m A B ss ψi L a w ψ Q):
  (∀i,(ss m).length≤i→i<f.N→ψ (.inl i)=none)∧(∀i cb,ψ (.inl i)=some cb→f.ψ0 (.inl i)=some cb∨(f.s0.length≤i∧i<(ss m).length))∧f.s0.length≤(ss m).length:=by
 have hlen:(ss 0).length≤(ss m).length:=by
  rcases Nat.eq_zero_or_pos (ss 0).length with h|h
  ·omega
  ·have:=S.dom' (h:= .inl ((ss 0).length-1)) (Nat.zero_le m) (Nat.le_refl m) (by simp only[Dom];omega)
   simp only[Dom]at this;omega
 refine⟨fun i h1 h2=>?_,fun i cb e=>?_,Nat.le_trans R.len hlen⟩
 ·cases e:ψ (.inl i)with
  |none=>rfl
  |some cb=>
   rcases I.news _ cb e with e|⟨_,e⟩
   ·rw[R.win i (by omega) h2]at e;cases e
   ·simp only[Dom]at e;omega
 ·rcases I.news _ cb e with e|⟨h1,h2⟩
  ·rcases R.news i cb e with h|⟨h1,h2⟩
   ·exact .inl h
   ·exact .inr ⟨h1,by omega⟩
  ·simp only[Dom]at h1 h2
   exact .inr ⟨by have:=R.len;omega,h2⟩
theorem Inv.done (S:Su C pr ms ops l is m A B ss) {w0:World} {a0:Act} (R:Rel C f ψi (A 0) (ss 0) a0 w0) (I:Inv C f l is m A B ss ψi L a w ψ Q) (hL: ∀i,i<m→L i):Rel C f ψ (B m) (ss m) a w:=by
 have hnxt:(B 0).nxt=(A 0).nxt:=(S.w 0 (Nat.zero_le _)).nxt;have hlen:(ss 0).length≤(ss m).length:=by
  rcases Nat.eq_zero_or_pos (ss 0).length with h|h
  ·omega
  ·have:=S.dom' (h:= .inl ((ss 0).length-1)) (Nat.zero_le m) (Nat.le_refl m) (by simp only[Dom];omega)
   simp only[Dom]at this;omega
 have know: ∀h ab cb,ψ h=some cb→CR (B m) (ss m) h ab→Q h ab:=fun h ab cb e c=>I.know h m ab cb (Nat.le_refl _) (fun i hi hl=>absurd (hL i hi) hl) (fun i hi hl=>by have:=I.sub i hl;omega) c e
 refine⟨I.sim.weaken know,S.eokB m (Nat.le_refl _),I.blks,I.glob,fun t=>I.reg t m (Nat.le_refl _) (fun i p hi _ hl=>absurd (hL i hi) hl) (fun i p hi _ hl=>by have:=I.sub i hl;omega),I.tsz,I.defs,fun i h1 h2=>?_,fun v hv=>?_,I.ext.weaken know,fun i cb e=>?_,Nat.le_trans R.len hlen,R.fin⟩
 ·cases e:ψ (.inl i)with
  |none=>rfl
  |some cb=>
   rcases I.news _ cb e with e|⟨_,e⟩
   ·rw[R.win i (by omega) h2]at e;cases e
   ·simp only[Dom]at e;omega
 ·cases e:ψ (.inr v)with
  |none=>rfl
  |some cb=>
   rcases I.news _ cb e with e|⟨_,e⟩
   ·refine absurd e ?_
    have:v<(B m).nxt∨(A 0).nxt≤v:= .inr (by
     rcases Nat.lt_or_ge v (A 0).nxt with h|h
     ·have:=S.dom' (h:= .inr v) (Nat.zero_le m) (Nat.le_refl m) (by simp only[Dom];omega)
      simp only[Dom]at this;omega
     ·exact h)
    rw[R.vin v (by omega)];simp
   ·simp only[Dom]at e;omega
 ·rcases I.news _ cb e with e|⟨h1,h2⟩
  ·rcases R.news i cb e with h|⟨h1,h2⟩
   ·exact .inl h
   ·exact .inr ⟨h1,by omega⟩
  ·simp only[Dom]at h1 h2
   exact .inr ⟨by have:=R.len;omega,h2⟩
end
section
variable {C:Cfg} {f:Fr} {ψ:Ps} {E E2:Env} {s s2:St} {a:Act} {w:World} {pr ms:List Nat}
theorem TrP.fn {dst:Nat→Option Nat} {l:List (Oper×Md)} (h:TrP C dst pr ms l E s s2):
  ∃(m:Nat) (p:Oper×Md) (A B:Nat→Env) (ss:Nat→St),l[m]? =some p∧A 0=E∧ss 0=s∧GW dst (B m) p.1∧p.2.x=0∧OpPan C p.1 (Dof p.2 (B m)) (B m) (ss m) s2∧(∀k,k≤m→Weak (A k) (B k))∧
   ∀k p,k<m→l[k]? =some p→Step C dst pr ms p (B k) (ss k) (A (k+1)) (ss (k+1)):=by
 induction h with
 | @weak l E E1 s s2 k _ ih=>
  obtain⟨m,p,A,B,ss,h1,h2,h3,h4,h5,h6,h7,h8⟩:=ih;refine⟨m,p,fun i=>if i=0 then E else A i,B,ss,h1,rfl,h3,h4,h5,h6,fun i hi=>?_,fun i q hi hq=>by simpa using h8 i q hi hq⟩;have:=h7 i hi;by_cases e:i=0
  ·subst e
   simp only[if_true];rw[h2]at this;exact k.trans this
  ·simp only[e,if_false];exact this
 | @here p l E s s' g hx hp=>
  exact⟨0,p,fun _=>E,fun _=>E,fun _=>s,rfl,rfl,rfl,g,hx,hp,fun _ _=> .refl E,fun k _ hk=>by omega⟩
 | @next p l E s E1 s1 s2 st _ ih=>
  obtain⟨m,p',A,B,ss,h1,h2,h3,h4,h5,h6,h7,h8⟩:=ih;refine⟨m+1,p',fun i=>match i with|0=>E|i+1=>A i,fun i=>match i with|0=>E|i+1=>B i,fun i=>match i with|0=>s|i+1=>ss i,by simpa using h1,rfl,rfl,h4,h5,h6,fun i hi=>?_,fun i q hi hq=>?_⟩
  ·cases i with
   |zero=>exact .refl E
   |succ i=>exact h7 i (by omega)
  ·cases i with
   |zero=>
    simp only[List.getElem?_cons_zero,Option.some.injEq]at hq;subst hq;simp only[h2,h3];exact st
   |succ i=>exact h8 i q (by omega) (by simpa using hq)
theorem Ztu (n:Nat) (i:Nat): ¬Lof (Array.replicate n false) i:=by
 unfold Lof;rw[Array.getElem?_replicate];split<;>simp
theorem Zz7 {ops:Array Oper} {QQ:Exit→Act→World→Prop} {l:List (Oper×Md)} {is:List OpI} (his:is=prep C.P pr ops.toList ops.toList []) (hl:l=flags C.mp is 0 is ops.toList) (hok:okAll 0 is ops.toList=true)
  (t:Tr C (dstOf ops) pr ms l E s E2 s2) (R:Rel C f ψ E s a w) (hN:s2.length≤f.N) (hd: ∀p∈l,∀x,p.1.dst=some x→f.ok x=true)
  (h: ∀ψ' a' w',Rel C f ψ' E2 s2 a' w'→QQ .normal a' w'):wpAny C.P .any ops QQ ops.size (Array.replicate ops.size false) a w:=by
 have hlen:l.length=ops.size:=by rw[hl,Zfp _ _ _ _ (by rw[his,ZgM])];simp
 obtain⟨A,B,ss,h1,h2,h3,h4,h5⟩:=t.fn;have S:Su C pr ms ops l is ops.size A (fun k=>if k=ops.size then E2 else B k) ss:=by
  refine⟨his,hl,hok,Nat.le_refl _,fun k hk=>?_,fun k p hk hp=>?_,by rw[h1];exact R.eok⟩
  ·by_cases e:k=ops.size
   ·simp only[e,if_true];rw[←hlen];exact h4
   ·simp only[e,if_false]
    exact(h5 k _ (List.getElem?_eq_getElem (by omega))).1
  ·simp only[show ¬k=ops.size by omega,if_false]
   exact(h5 k p hp).2
 rw[←h1,←h2]at R;refine Zt6 (f:=f) S hd (fun _=>False) (fun h=>absurd h (Nat.lt_irrefl _)) (fun _ a' w' ψ' Q' L hL I=>?_) (fun h=>absurd h (Nat.lt_irrefl _)) _ _ _ _ _ _ (by simp) (by rw[Array.toList_replicate,List.count_replicate_self];exact Nat.le_refl _)
  ((S.start R (by rw[←hlen,h3];exact hN)).congr fun i=>⟨False.elim,Ztu _ i⟩)
 have:=I.done S R hL;simp only[if_true]at this;rw[←hlen,h3]at this;exact h _ _ _ this
theorem ZzE {ops:Array Oper} {QQ:Exit→Act→World→Prop} {l:List (Oper×Md)} {is:List OpI} (his:is=prep C.P pr ops.toList ops.toList []) (hl:l=flags C.mp is 0 is ops.toList) (hok:okAll 0 is ops.toList=true)
  (t:TrP C (dstOf ops) pr ms l E s s2) (R:Rel C f ψ E s a w) (hN:s2.length≤f.N) (hd: ∀p∈l,∀x,p.1.dst=some x→f.ok x=true)
  (h: ∀ch a' w',PanV ch→PanR C f s2 a' w'→QQ (.panic ch) a' w'):wpAny C.P .any ops QQ ops.size (Array.replicate ops.size false) a w:=by
 have hlen:l.length=ops.size:=by rw[hl,Zfp _ _ _ _ (by rw[his,ZgM])];simp
 obtain⟨m,p,A,B,ss,hp,h1,h2,hg,hx,hpan,hw,hst⟩:=t.fn;have hm:m<ops.size:=by
  rcases Nat.lt_or_ge m l.length with h|h
  ·omega
  ·rw[List.getElem?_eq_none h]at hp;cases hp
 have S:Su C pr ms ops l is m A B ss:=⟨his,hl,hok,by omega,hw,hst,by rw[h1];exact R.eok⟩;have hmN:(ss m).length≤f.N:=Nat.le_trans hpan.1 hN;rw[←h1,←h2]at R;obtain⟨q,x,T⟩:=S.get hp;have hx0:x=0:=by rw[T.md]at hx;exact hx
 have hz:=T.zero hx0;refine Zt6 (f:=f) (ψi:=ψ) S hd (fun i=>∀q',is[i]? =some q'→Zic q'.k=true∧q.bf.testBit i=false∧q'.bf.testBit m=false) (fun _=>⟨fun k h1 h2=>?_,fun i hi=>?_⟩) (fun e=>by omega) (fun _ K a' w' ψ' Q' L hL I=>?_) _ _ _ _ _ _ (by simp) (by rw[Array.toList_replicate,List.count_replicate_self];exact Nat.le_refl _)
  ((S.start R hmN).congr fun i=>⟨False.elim,Ztu _ i⟩)
 ·have hq:is[k]? =some (is[k]'(by rw[S.isLen];exact h2)):=List.getElem?_eq_getElem _
  rcases hz k _ hq (by omega)with h|h|h
  ·exact⟨_,hq,h⟩
  ·have:=T.lt k h;omega
  ·omega
 ·have hq:is[i]? =some (is[i]'(by rw[S.isLen];omega)):=List.getElem?_eq_getElem _
  have late:(is[i]'(by rw[S.isLen];omega)).bf.testBit m=false:=by
   cases h:(is[i]'(by rw[S.isLen];omega)).bf.testBit m with
   |false=>rfl
   |true=>
    have hpi:l[i]? =some (l[i]'(by omega)):=List.getElem?_eq_getElem _;obtain⟨q',x',T'⟩:=S.get hpi;have e:=T'.iq;rw[hq]at e;cases e;have:=T'.lt m h;omega
  cases hb:q.bf.testBit i with
  |true=>exact .inl ⟨q,T.iq,hb⟩
  |false=>
   rcases hz i _ hq (by omega)with h|h|⟨_,h⟩
   ·rw[late]at h;cases h
   ·rw[hb]at h;cases h
   ·refine .inr fun q' e=>?_
    rw[hq]at e;cases e;exact⟨h,rfl,late⟩
 ·have hLm: ¬L m:=fun h=>by have:=I.sub m h;omega
  obtain⟨pre,hgd⟩:=I.pre S (Nat.le_refl m) hp hLm (fun j hb=>by
   obtain⟨q',e,hb⟩:=hb;rw[T.iq]at e;cases e;rcases hL j (T.lt j hb)with h|h
   ·exact h
   ·have hq:is[j]? =some (is[j]'(by rw[S.isLen];have:=T.lt j hb;omega)):=List.getElem?_eq_getElem _
    rw[(h _ hq).2.1]at hb;cases hb) (fun k p' hk hp' hl=>by
   obtain⟨q',x',T'⟩:=S.get hp';rcases hL k hk with h|h
   ·exact absurd h hl
   ·obtain⟨h1,h2,_⟩:=h q' T'.iq
    refine⟨fun t ht=>?_,fun y hw=>?_⟩
    ·obtain⟨_,_,ha⟩:=Zi1 S.ok k q' T'.iq
     rcases ha m q hk T.iq with ha|ha
     ·rw[Nat.zero_add,h2]at ha;cases ha
     ·obtain⟨_,e1,_,_⟩:=ha
      rw[T'.dst,T.lk,ht]at e1;exact e1
    ·rw[T'.md]at hw
     generalize q'.k=z at h1 hw;cases z<;>first|exact hw.elim|cases h1) (fun k p' hk _ hl=>by have:=I.sub k hl;omega)
  obtain⟨Rwin,Rnews,Rlen⟩:=I.tail S R;unfold wpOp;simp only[T.op];rw[if_pos (Zpk hgd hg)];refine .inl (hpan.2 ψ' Q' a' w' K QQ pre (fun k hk=>?_) fun ψ'' Q'' ch w'' g0 g1 g2 g3 g4=>h ch a' w'' g0 ⟨I.defs,I.tsz,_,Go.Gv.callPost (s':=s2) R.fin g1 (I.ext.trans g2) g4 fun i cb e=>?_⟩)
  ·cases k with
   |inl i=>
    have h1:=hk.1;have h2:=hk.2
    simp only[Dom]at h1 h2;exact Rwin i (by omega) (by omega)
   |inr v=>
    have h1:=hk.1;have h2:=hk.2
    exact absurd h2 h1
  ·rcases g3 _ cb e with e|⟨n1,n2⟩
   ·rcases Rnews i cb e with h|⟨h1,h2⟩
    ·exact .inl h
    ·exact .inr ⟨h1,Nat.lt_of_lt_of_le h2 hpan.1⟩
   ·simp only[Dom]at n1 n2
    exact .inr ⟨by omega,n2⟩
end
end Go.Gv
namespace Go.Gv
variable {β:Type}
section
variable {C:Cfg} {f:Fr} {ψ:Ps} {E E2:Env} {s s2:St} {a:Act} {w:World} {pr:List Nat}
theorem ZhO: ∀ {l:List Oper} {n:Nat→Bool},okO n l=true→∀o∈l,∀x,o.dst=some x→n x=true
 |[],_,_,o,ho,_,_=>by cases ho
 |y::r,n,h,o,ho,x,hx=>by
  simp only[okO,Bool.and_eq_true]at h;cases ho with
  |head=>
   have h1:=h.1;rw[hx]at h1;exact h1
  |tail _ ho=>exact ZhO h.2 o ho x hx
theorem Zwe (pr:List Nat) (ops:List Oper) (y:Oper) (r:List Oper) (x:Nat) (h:has (match y.dst with|some d=>d::modsO pr ops r|none=>modsO pr ops r) x=true):has (modsO pr ops (y::r)) x=true:=by
 rw[modsO];split
 ·split
  ·simp only[has,Bool.or_eq_true];exact .inr h
  ·exact h
 ·simp only[has,Bool.or_eq_true];exact .inr h
 ·exact h
theorem ZwW {pr:List Nat} {ops:List Oper} {o:Oper} {x:Nat} (hx:o.dst=some x): ∀(l:List Oper),o∈l→has (modsO pr ops l) x=true:=by
 intro l;induction l with
 |nil=>intro ho;cases ho
 |cons y r ih=>
  intro ho;refine Zwe pr ops y r x ?_;cases ho with
  |head=>rw[hx];simp[has]
  |tail _ ho=>
   have:=ih ho;cases y.dst with
   |none=>exact this
   |some d=>simp[has,this]
theorem ZtJ (hC:CfgOk C) {c:Zg} (hc:Zy C c) {ops:Array Oper} {d:Bool} {K:Env→M β} {r:Out β×St} (h:regK C pr c ops d E K s=some r):
  (∃E' s',s.length≤s'.length∧K E' s'=some r∧Mod (fun u=>has (mods pr (.region 0 ops d)) u=false) E E'∧
   ∀ {f:Fr} {ψ:Ps} {a:Act} {w:World} (QQ:Exit→Act→World→Prop) (id:Nat),Rel C f ψ E s a w→C.P.follows .mixedOrders=true→okO f.ok ops.toList=true→s'.length≤f.N→
    (∀ψ' a' w',Rel C f ψ' E' s' a' w'→QQ .normal a' w')→(Code.region id ops d).wp C.P QQ a w)∨
  (∃s',r=(.pan,s')∧s.length≤s'.length∧
   ∀ {f:Fr} {ψ:Ps} {a:Act} {w:World} (QQ:Exit→Act→World→Prop) (id:Nat),Rel C f ψ E s a w→C.P.follows .mixedOrders=true→okO f.ok ops.toList=true→s'.length≤f.N→
    (∀ch a' w',PanV ch→PanR C f s' a' w'→QQ (.panic ch) a' w')→(Code.region id ops d).wp C.P QQ a w):=by
 have hunt: ∀(l:List (Oper×Md)),(∀p∈l,p.1∈ops.toList)→∀u,has (mods pr (.region 0 ops d)) u=false→Unt (modsO pr ops.toList ops.toList) l u:=by
  intro l hl u hu;refine⟨fun p hp e=>?_,hu⟩;have:=ZwW (pr:=pr) (ops:=ops.toList) e _ (hl p hp);simp only[mods]at hu;rw[hu]at this;cases this
 have wk: ∀ {l:List (Oper×Md)} {E':Env},(∀p∈l,p.1∈ops.toList)→Mod (Unt (modsO pr ops.toList ops.toList) l) E E'→Mod (fun u=>has (mods pr (.region 0 ops d)) u=false) E E':=
  fun hl m=>⟨fun u hu=>m.get u (hunt _ hl u hu),m.nxt,m.verL,m.verI⟩
 cases d with
 |false=>
  simp only[regK,cond_false]at h;have hl: ∀p∈ops.toList.map (fun o=>(o,Md.s)),p.1∈ops.toList:=by
   intro p hp;obtain⟨o,ho,rfl⟩:=List.mem_map.1 hp;exact ho
  have hi: ∀k p,(ops.toList.map fun o=>(o,Md.s))[k]? =some p→ops[0+k]? =some p.1:=by
   intro k p hp;rw[List.getElem?_map]at hp;cases ho:ops.toList[k]? with
   |none=>rw[ho]at hp;cases hp
   |some o=>
    rw[ho]at hp;simp only[Option.map_some,Option.some.injEq]at hp;subst hp;rw[Nat.zero_add,←Array.getElem?_toList];exact ho
  have hsz:(ops.toList.map fun o=>(o,Md.s)).length=ops.size:=by simp
  rcases Zrl (dst:=dstOf ops) hC hc (ops:=ops.toList) _ _ _ _ _ _ h (fun p hp=>by obtain⟨o,_,rfl⟩:=List.mem_map.1 hp;exact .inl rfl) (fun g hg=>by cases hg)with⟨E',s',t,hk,_,hm⟩|⟨s',e,t⟩
  ·refine .inl ⟨E',s',t.len,hk,wk hl hm,fun QQ id R _ ho hN hn=>wp_region ?_⟩
   have:=Zx8 (QQ:=QQ) t R hN (fun p hp x hx=>ZhO ho p.1 (hl p hp) x hx) hi hn;rw[hsz]at this
   rwa [List.range_eq_range']
  ·refine .inr ⟨s',e,t.len,fun QQ id R _ ho hN hn=>wp_region ?_⟩
   have:=ZwY (QQ:=QQ) t R hN (fun p hp x hx=>ZhO ho p.1 (hl p hp) x hx) hi hn;rw[hsz]at this
   rwa [List.range_eq_range']
 |true=>
  simp only[regK,cond_true]at h;obtain⟨hok,h⟩:=Zo h;have hl: ∀p∈flags C.mp (prep C.P pr ops.toList ops.toList []) 0 (prep C.P pr ops.toList ops.toList []) ops.toList,p.1∈ops.toList:=by
   intro p hp;obtain⟨k,hk⟩:=List.getElem?_of_mem hp;obtain⟨q,o,_,h2,rfl⟩:=ZiT _ _ _ _ _ _ hk;exact List.mem_of_getElem? h2
  rcases Zrl (dst:=dstOf ops) hC hc (ops:=ops.toList) _ _ _ _ _ _ h (fun p hp=>by
   obtain⟨k,hk⟩:=List.getElem?_of_mem hp;obtain⟨q,o,h1,h2,rfl⟩:=ZiT _ _ _ _ _ _ hk;obtain⟨o',g1,_,g3,_,_⟩:=Znp _ _ _ _ _ _ _ h1;rw[h2]at g1;cases g1;exact .inr ⟨_,_,_,by rw[g3]⟩) (fun g hg=>by cases hg)with⟨E',s',t,hk,_,hm⟩|⟨s',e,t⟩
  ·exact .inl ⟨E',s',t.len,hk,wk hl hm,fun QQ id R hf ho hN hn=>wp_region_any hf (Zz7 rfl rfl hok t R.drew hN (fun p hp x hx=>ZhO ho p.1 (hl p hp) x hx) hn)⟩
  ·exact .inr ⟨s',e,t.len,fun QQ id R hf ho hN hn=>wp_region_any hf (ZzE rfl rfl hok t R.drew hN (fun p hp x hx=>ZhO ho p.1 (hl p hp) x hx) hn)⟩
end
theorem Sim.cast {C:Cfg} {ψ ψ':Ps} {Q Q':Kn} {w:World} (hS:Sim C ψ Q w) (hc: ∀h cb ab,ψ' h=some cb→Q' h ab→ψ h=some cb∧∃ab',Q h ab'∧(ab.sole=true→ab'.sole=true)∧(Holds C ψ w cb ab'→Holds C ψ' w cb ab)):Sim C ψ' Q' w:=by
 constructor
 ·intro h cb ab e q
  obtain⟨e0,ab',q0,_,hh⟩:=hc h cb ab e q;exact hh (hS.holds h cb ab' e0 q0)
 ·intro h cb ab h' cb' ab' e q hs e' q' hn
  obtain⟨e0,x,q0,s0,_⟩:=hc h cb ab e q;obtain⟨e1,y,q1,_,_⟩:=hc h' cb' ab' e' q';exact hS.excl h cb x h' cb' y e0 q0 (s0 hs) e1 q1 hn
theorem Ext.cast {ψ0 ψ ψ':Ps} {Q0 Q Q':Kn} {w0 w:World} (hE:Ext ψ0 Q0 w0 ψ Q w) (hm: ∀h cb,ψ0 h=some cb→ψ' h=some cb) (hp: ∀h cb,ψ' h=some cb→ψ h=some cb)
  (hc: ∀h cb ab,ψ' h=some cb→Q' h ab→∃ab',Q h ab'∧(ab.sole=true→ab'.sole=true)):Ext ψ0 Q0 w0 ψ' Q' w where
 mono:=hm
 rng:=fun h cb e=>hE.rng h cb (hp h cb e)
 size:=hE.size
 keep:=hE.keep
 sole:=fun b ⟨h,cb,ab,e,q,hs,hb⟩=>by
  obtain⟨ab',q',hs'⟩:=hc h cb ab e q;exact hE.sole b ⟨h,cb,ab',hp h cb e,q',hs' hs,hb⟩
 live:=fun h cb x e q=>by
  obtain⟨ab',q',_⟩:=hc h cb x (hm h cb e) q;exact hE.live h cb ab' e q'
 tape:=hE.tape
 os:=hE.os
 output:=hE.output
def cutP (ψ:Ps) (N:Nat):Ps
 | .inl i=>ψ (.inl i)
 | .inr v=>if v<N then ψ (.inr v)else none
theorem ZlN {ψ:Ps} {N:Nat} {h:HId} {cb:CB} (e:cutP ψ N h=some cb):ψ h=some cb:=by
 cases h with
 |inl i=>exact e
 |inr v=>simp only[cutP]at e;split at e;exact e;cases e
structure CastL (cs cs':List DV):Prop where
 len:cs'.length=cs.length
 rel: ∀(C:Cfg) ψ vs,VRs C ψ cs vs→VRs C ψ cs' vs
 one:cs.all one=true→cs'.all one=true
theorem Holds.castL {C:Cfg} {ψ:Ps} {w:World} {cb:CB} {f:Bool} {cs cs':List DV} (k:CastL cs cs') (h:Holds C ψ w cb (.cells f cs)):Holds C ψ w cb (.cells f cs'):=by
 obtain⟨h1,h2,h3,h4⟩:=h;refine⟨by rw[k.len];exact h1,k.one h2,fun j d hd=>?_,h4⟩;have hv:VRs C ψ cs ((List.range cs.length).map fun j=>(w.cell? ⟨cb.b,cb.o+j,none⟩).getD undef):=by
  refine VRs.of _ _ (by simp) fun j d v g1 g2=>?_
  obtain⟨v',hv',hr⟩:=h3 j d g1;rw[List.getElem?_map]at g2;have hj:j<cs.length:=by
   rcases Nat.lt_or_ge j cs.length with h|h
   ·exact h
   ·rw[List.getElem?_eq_none h]at g1;cases g1
  rw[List.getElem?_range hj]at g2;simp only[Option.map_some,Option.some.injEq,hv',Option.getD_some]at g2;rw[←g2];exact hr
 obtain⟨v,hv',hr⟩:=(k.rel C ψ _ hv).get hd;rw[List.getElem?_map]at hv';have hj:j<cs.length:=by
  rcases Nat.lt_or_ge j cs.length with h|h
  ·exact h
  ·rw[List.getElem?_eq_none (by rw[k.len];exact h)]at hd;cases hd
 rw[List.getElem?_range hj]at hv';simp only[Option.map_some,Option.some.injEq]at hv';obtain⟨v',hc,_⟩:=h3 j cs[j] (List.getElem?_eq_getElem hj);rw[hc]at hv';simp only[Option.getD_some]at hv';exact⟨v,by rw[hc,hv'],hr⟩
inductive Wj (e:Ent):Ent→Prop
 |u:Wj e .u
 |same:Wj e e
 |v (d d':DV):e= .v d→(∀(C:Cfg) ψ x,VR C ψ d x→VR C ψ d' x)→Wj e (.v d')
 |loc (v n:Nat) (cs cs':List DV):e= .loc v n cs→CastL cs cs'→Wj e (.loc v n cs')
structure WeakJ (E E':Env):Prop where
 nxt:E'.nxt≤E.nxt
 get: ∀t,Wj (E.get t) (E'.get t)
 ver: ∀t v,(E'.get t).ver=some v→v<E'.nxt
 pl: ∀t r v o,E'.get t= .pl r v o→v<E'.nxt
theorem Wj.ver {e e':Ent} (h:Wj e e') {v:Nat} (hv:e'.ver=some v):e.ver=some v:=by
 cases h with
 |u=>cases hv
 |same=>exact hv
 |v d d' _ _=>cases hv
 |loc v' n cs cs' he _=>rw[he];exact hv
section
variable {C:Cfg} {f:Fr} {ψ:Ps} {E E':Env} {s:St} {a:Act} {w:World}
theorem CR.weakJ (k:WeakJ E E') {h:HId} {ab:AB} (c:CR E' s h ab): ∃ab',CR E s h ab'∧(ab.sole=true→ab'.sole=true)∧∀(C:Cfg) ψ w cb,Holds C ψ w cb ab'→Holds C ψ w cb ab:=by
 cases h with
 |inl i=>exact⟨ab,c,fun h=>h,fun _ _ _ _ h=>h⟩
 |inr v=>
  rcases c with⟨t,n,cs,e,rfl⟩|⟨t,l,p,e,rfl⟩
  ·have:=k.get t
   rw[e]at this;generalize he:E.get t=x at this;cases this with
   |same=>exact⟨_,.inl ⟨t,n,cs,he,rfl⟩,fun h=>h,fun _ _ _ _ h=>h⟩
   |loc _ _ cs0 _ h1 h2=>exact⟨_,.inl ⟨t,n,cs0,he.trans h1,rfl⟩,fun h=>h,fun _ _ _ _ h=>h.castL h2⟩
  ·have:=k.get t
   rw[e]at this;generalize he:E.get t=x at this;cases this with
   |same=>exact⟨_,.inr ⟨t,l,p,he,rfl⟩,fun h=>h,fun _ _ _ _ h=>h⟩
theorem Holds.cutP {N:Nat} {cb:CB} {ab:AB} (h:Holds C ψ w cb ab):Holds C (Go.Gv.cutP ψ N) w cb ab:=h.same (ψ:=ψ) (ψ':=Go.Gv.cutP ψ N) (fun _ _ e=>e) rfl
theorem EOK.weakJ (h:EOK E) (k:WeakJ E E'):EOK E':=by
 refine⟨k.ver,k.pl,fun t v n cs e=>?_,fun t t' v hv hv'=>h.uniq t t' v ((k.get t).ver hv) ((k.get t').ver hv')⟩;have:=k.get t;rw[e]at this;generalize he:E.get t=x at this;cases this with
 |same=>exact h.len t v n cs he
 |loc _ _ cs0 _ h1 h2=>rw[h2.len];exact h.len t v n cs0 (he.trans h1)
theorem Rel.weakJ (R:Rel C f ψ E s a w) (k:WeakJ E E'):Rel C f (cutP ψ E'.nxt) E' s a w where
 sim:=R.sim.cast fun h cb ab e c=>by
  obtain⟨ab',c',hs,hh⟩:=c.weakJ k;exact⟨ZlN e,ab',c',hs,fun x=>(hh C ψ w cb x).cutP⟩
 eok:=R.eok.weakJ k
 blks:=fun h cb e=>R.blks h cb (ZlN e)
 glob:=fun g hg=>R.glob g hg
 reg:=fun t=>by
  have h:=R.reg t;have hver:=k.ver t;have hpl:=k.pl t;have keep: ∀v cb,v<E'.nxt→ψ (.inr v)=some cb→cutP ψ E'.nxt (.inr v)=some cb:=fun v cb hv e=>by simp only[cutP,if_pos hv];exact e
  have:=k.get t;generalize he':E'.get t=x' at this hver hpl;generalize he:E.get t=x at this h;have same:EntR C ψ x' (a.tmps.getD t Go.undef)→EntR C (cutP ψ E'.nxt) x' (a.tmps.getD t Go.undef):=by
   intro h;cases x' with
   |u=>trivial
   |un=>exact h
   |v d=>exact VR.mono (ψ:=ψ) (ψ':=cutP ψ E'.nxt) (fun _ _ e=>e) h
   |tup ds=>obtain⟨vs,e,r⟩:=h;exact⟨vs,e,r.mono (ψ:=ψ) (ψ':=cutP ψ E'.nxt) fun _ _ e=>e⟩
   |loc v n cs=>obtain⟨cb,e,r⟩:=h;exact⟨cb,keep v cb (hver v rfl) e,r⟩
   |pl q v n=>obtain⟨cb,e,r⟩:=h;exact⟨cb,keep v cb (hpl q v n rfl) e,r⟩
   |it v l p=>obtain⟨cb,e,r⟩:=h;exact⟨cb,keep v cb (hver v rfl) e,r⟩
  cases this with
  |u=>trivial
  |same=>exact same h
  |v d d' e hc=>subst e;exact same (hc C ψ _ h)
  |loc v n cs cs' e hc=>subst e;exact same h
 tsz:=R.tsz
 defs:=R.defs
 win:=R.win
 vin:=fun v hv=>by simp only[cutP];rw[if_neg (by omega)]
 ext:=R.ext.cast (fun h cb e=>by
   cases h with
   |inl i=>exact R.ext.mono _ _ e
   |inr v=>rw[R.fin]at e;cases e) (fun h cb e=>ZlN e) (fun h cb ab _ c=>by
   obtain⟨ab',c',hs,_⟩:=c.weakJ k;exact⟨ab',c',hs⟩)
 news:=fun i cb e=>R.news i cb e
 len:=R.len
 fin:=R.fin
inductive GJ (E0 E:Env):List (Nat×JS)→List DV→Prop
 |nil:GJ E0 E [] []
 |v (t:Nat) (x:Sh) (d:DV) (r:List (Nat×JS)) (ds:List DV):E.get t= .v d→GJ E0 E r ds→GJ E0 E ((t,.v x)::r) (d::ds)
 |l (t:Nat) (x:List B) (v n n0:Nat) (cs cs0:List DV) (r:List (Nat×JS)) (ds:List DV):E.get t= .loc v n cs→E0.get t= .loc v n0 cs0→GJ E0 E r ds→GJ E0 E ((t,.l x)::r) (.agg cs::ds)
 |t (t:Nat) (v:Nat) (l l0:List UInt8) (p p0:Nat) (r:List (Nat×JS)) (ds:List DV):E.get t= .it v l p→E0.get t= .it v l0 p0→GJ E0 E r ds→GJ E0 E ((t,.t)::r) (.nat p::ds)
theorem Zb2 {E0 E:Env} : ∀ {J:List (Nat×JS)} {K:List DV→M β} {s:St} {r:Out β×St},getJ E0 E J K s=some r→∃ds,GJ E0 E J ds∧K ds s=some r
 |[],K,s,r,h=>⟨[],.nil,h⟩
 |(t,x)::J,K,s,r,h=>by
  simp only[getJ]at h;cases x with
  |v x=>
   cases e:E.get t with
   |v d=>
    rw[e]at h;obtain⟨ds,g,hk⟩:=Zb2 h;exact⟨_,.v t x d J ds e g,hk⟩
   |_=>rw[e]at h;cases h
  |l x=>
   cases e:E.get t with
   |loc v n cs=>
    rw[e]at h;cases e0:E0.get t with
    |loc v0 n0 cs0=>
     rw[e0]at h;simp only at h;obtain⟨hv,h2⟩:=Zo h;have:=Nat.eq_of_beq_eq_true hv;subst this;obtain⟨ds,g,hk⟩:=Zb2 h2;exact⟨_,.l t x v0 n n0 cs cs0 J ds e e0 g,hk⟩
    |_=>rw[e0]at h;cases h
   |_=>rw[e]at h;cases h
  |t=>
   cases e:E.get t with
   |it v l p=>
    rw[e]at h;cases e0:E0.get t with
    |it v0 l0 p0=>
     rw[e0]at h;simp only at h;obtain⟨hv,h2⟩:=Zo h;have:=Nat.eq_of_beq_eq_true hv;subst this;obtain⟨ds,g,hk⟩:=Zb2 h2;exact⟨_,.t t v0 l l0 p p0 J ds e e0 g,hk⟩
    |_=>rw[e0]at h;cases h
   |_=>rw[e]at h;cases h
inductive PJ (E:Env):List (Nat×JS)→List DV→Env→Env→Prop
 |nil (E1:Env):PJ E [] [] E1 E1
 |v (t:Nat) (x:Sh) (d d':DV) (r:List (Nat×JS)) (ds:List DV) (E1 E':Env):(∀(C:Cfg) ψ x,VR C ψ d x→VR C ψ d' x)→PJ E r ds (E1.put t (.v d')) E'→PJ E ((t,.v x)::r) (d::ds) E1 E'
 |l (t:Nat) (x:List B) (v n:Nat) (cs0 cs cs':List DV) (r:List (Nat×JS)) (ds:List DV) (E1 E':Env):E.get t= .loc v n cs0→CastL cs cs'→PJ E r ds (E1.put t (.loc v n cs')) E'→PJ E ((t,.l x)::r) (.agg cs::ds) E1 E'
 |t (t:Nat) (v:Nat) (l:List UInt8) (p0 p:Nat) (r:List (Nat×JS)) (ds:List DV) (E1 E':Env):E.get t= .it v l p0→PJ E r ds (E1.put t (.it v l p)) E'→PJ E ((t,.t)::r) (.nat p::ds) E1 E'
theorem Zdy {E:Env} : ∀ {J:List (Nat×JS)} {st:List DV} {E1:Env} {K:Env→M β} {s:St} {r:Out β×St},putJ E J st E1 K s=some r→∃E',PJ E J st E1 E'∧K E' s=some r
 |[],st,E1,K,s,r,h=>by
  simp only[putJ]at h;cases st with
  |nil=>exact⟨E1,.nil E1,h⟩
  |cons _ _=>cases h
 |(t,x)::J,st,E1,K,s,r,h=>by
  simp only[putJ]at h;cases st with
  |nil=>cases h
  |cons d rest=>
   simp only[D.cons]at h;cases x with
   |v x=>
    obtain⟨d',h,hd,_⟩:=ZkL h;obtain⟨E',g,hk⟩:=Zdy h;exact⟨E',.v t x d d' J rest E1 E' hd g,hk⟩
   |l x=>
    cases e:E.get t with
    |loc v n cs0=>
     rw[e]at h;cases d with
     |agg cs=>
      obtain⟨cs',h,hl,hr,h1⟩:=Zei h;obtain⟨E',g,hk⟩:=Zdy h;exact⟨E',.l t x v n cs0 cs cs' J rest E1 E' e ⟨hl,hr,h1⟩ g,hk⟩
     |_=>cases h
    |_=>rw[e]at h;cases h
   |t=>
    cases e:E.get t with
    |it v l p0=>
     rw[e]at h;cases d with
     |nat p=>
      obtain⟨E',g,hk⟩:=Zdy h;exact⟨E',.t t v l p0 p J rest E1 E' e g,hk⟩
     |_=>cases h
    |_=>rw[e]at h;cases h
theorem PJ.weakJ {E0 E2:Env} (h0:EOK E0) (hv: ∀t v n cs,E2.get t= .loc v n cs→(∃cs0,E0.get t= .loc v n cs0)∨E0.nxt≤v) (hi: ∀t v l p,E2.get t= .it v l p→(∃p0,E0.get t= .it v l p0)∨E0.nxt≤v):
  ∀ {J:List (Nat×JS)} {ds:List DV} {E1 E':Env},GJ E0 E2 J ds→PJ E0 J ds E1 E'→E1.nxt=E0.nxt→E0.nxt≤E2.nxt→WeakJ E2 E1→WeakJ E2 E'∧E'.nxt=E0.nxt∧(∀dels u,okJ dels J=true→has dels u=false→E'.get u=E1.get u):=by
 intro J;induction J with
 |nil=>
  intro ds E1 E' g p h1 _ k;cases g;cases p;exact⟨k,h1,fun _ _ _ _=>rfl⟩
 |cons x J ih=>
  intro ds E1 E' g p h1 hn k;obtain⟨t,x⟩:=x;have fin: ∀ {e:Ent} {ds:List DV},Wj (E2.get t) e→(∀v,e.ver=some v→v<E0.nxt)→(∀r v o,e≠ .pl r v o)→GJ E0 E2 J ds→PJ E0 J ds (E1.put t e) E'→WeakJ E2 E'∧E'.nxt=E0.nxt∧(∀dels u,okJ dels ((t,x)::J)=true→has dels u=false→E'.get u=E1.get u):=by
   intro e ds hw hver hpl g p;obtain⟨r1,r2,r3⟩:=ih g p (by simpa using h1) hn ⟨by simp[h1,hn],fun u=>by
     rw[Env.get_put];split
     ·rename_i e;subst e;exact hw
     ·exact k.get u,fun u v e=>by
     rw[Env.get_put]at e;rw[Env.nxt_put,h1];split at e
     ·exact hver v e
     ·have:=k.ver u v e;omega,fun u r v o e=>by
     rw[Env.get_put]at e;rw[Env.nxt_put,h1];split at e
     ·exact absurd e (hpl r v o)
     ·have:=k.pl u r v o e;omega⟩
   refine⟨r1,r2,fun dels u h1 h2=>?_⟩;simp only[okJ,Bool.and_eq_true]at h1;rw[r3 dels u h1.2 h2,Env.get_put,if_neg];intro e;subst e;rw[h1.1]at h2;cases h2
  cases p with
  |v _ sx d d' _ ds _ _ hc p=>
   cases g with
   |v _ _ _ _ _ e g=>exact fin (.v d d' e hc) (fun v h=>by cases h) (fun _ _ _ h=>by cases h) g p
  |l _ sx v n cs0 cs cs' _ ds _ _ he hc p=>
   cases g with
   |l _ _ v2 n2 n0 _ cs2 _ _ e e0 g=>
    rw[he]at e0;cases e0;rcases hv t _ _ _ e with⟨c,e1⟩|e1
    ·rw[he]at e1;cases e1
     exact fin (.loc _ _ cs cs' e hc) (fun v h=>by cases h;exact h0.lt t _ (by rw[he];rfl)) (fun _ _ _ h=>by cases h) g p
    ·have:=h0.lt t _ (by rw[he];rfl);omega
  |t _ v l p0 q _ ds _ _ he p=>
   cases g with
   |t _ v2 l2 l0 _ p2 _ _ e e0 g=>
    rw[he]at e0;cases e0;rcases hi t _ _ _ e with⟨c,e1⟩|e1
    ·rw[he]at e1;cases e1
     exact fin (by rw[e];exact .same) (fun v h=>by cases h;exact h0.lt t _ (by rw[he];rfl)) (fun _ _ _ h=>by cases h) g p
    ·have:=h0.lt t _ (by rw[he];rfl);omega
abbrev Un (l:List Nat) (u:Nat):Prop:=has l u=false
theorem ZkW {E0 E2 E':Env} {J:List (Nat×JS)} {ds:List DV} {dels:List Nat} (h0:EOK E0) (hm:Mod (Un dels) E0 E2) (g:GJ E0 E2 J ds) (p:PJ E0 J ds (E0.del dels) E') (hj:okJ dels J=true):
  WeakJ E2 E'∧Mod (Un dels) E0 E':=by
 have k0:WeakJ E2 (E0.del dels):=by
  refine⟨hm.nxt,fun t=>?_,fun t v e=>?_,fun t r v o e=>?_⟩
  ·rw[ZdS]
   cases h:has dels t with
   |true=>exact .u
   |false=>rw[hm.get t h];exact .same
  ·rw[ZdS]at e
   split at e
   ·cases e
   ·exact h0.lt t v e
  ·rw[ZdS]at e
   split at e
   ·cases e
   ·exact h0.pl t r v o e
 obtain⟨r1,r2,r3⟩:=PJ.weakJ h0 hm.verL hm.verI g p rfl hm.nxt k0;have und: ∀u,Un dels u→E'.get u=E0.get u:=fun u hu=>by
  have hu':has dels u=false:=hu;rw[r3 dels u hj hu,ZdS,hu'];rfl
 refine⟨r1,und,by omega,fun t v n cs e=>?_,fun t v l p e=>?_⟩
 ·have:=r1.get t
  rw[e]at this;generalize he:E2.get t=x at this;cases this with
  |same=>exact hm.verL t v n cs he
  |loc _ _ cs0 _ h1 _=>exact hm.verL t v n cs0 (he.trans h1)
 ·have:=r1.get t
  rw[e]at this;generalize he:E2.get t=x at this;cases this with
  |same=>exact hm.verI t v l p he
end
end Go.Gv
namespace Go.Gv
variable {β:Type}
def Lk (K:Env→M β) (r:Out β×St):Prop:=∀E s,K E s=some r→s.length≤r.2.length
theorem Zhy {E:Env} {dels:List Nat} {J:List (Nat×JS)} {K:Env→M β} {g:(Env→M β)→M β} {s:St} {r:Out β×St} (h:joinK E dels J K g s=some r):
  okJ dels J=true∧g (fun E1=>getJ E E1 J fun st=>putJ E J st (E.del dels) K) s=some r:=by
 obtain⟨h1,h⟩:=Zo h;rw[M.join_def]at h;exact⟨h1,h⟩
theorem ZkT {E0 E1:Env} {dels:List Nat} {J:List (Nat×JS)} {K:Env→M β} {s:St} {r:Out β×St} (h:getJ E0 E1 J (fun st=>putJ E0 J st (E0.del dels) K) s=some r):
  ∃ds E',GJ E0 E1 J ds∧PJ E0 J ds (E0.del dels) E'∧K E' s=some r:=by
 obtain⟨ds,g,h⟩:=Zb2 h;obtain⟨E',p,h⟩:=Zdy h;exact⟨ds,E',g,p,h⟩
theorem Lk.joint {E0:Env} {dels:List Nat} {J:List (Nat×JS)} {K:Env→M β} {r:Out β×St} (h:Lk K r):Lk (fun E1=>getJ E0 E1 J fun st=>putJ E0 J st (E0.del dels) K) r:=by
 intro E1 s hs;obtain⟨_,E',_,_,hs⟩:=ZkT hs;exact h E' s hs
theorem Lk.block {id:Nat} {K:Env→M β} {kx:Nat→Env→M β} {r:Out β×St} (h:Lk K r) (hx: ∀i,Lk (kx i) r): ∀i,Lk (fun E1=>bif Nat.beq i id then K E1 else kx i E1) r:=by
 intro i E s hs;cases hb:Nat.beq i id with
 |true=>simp only[hb]at hs;exact h E s hs
 |false=>simp only[hb]at hs;exact hx i E s hs
section
variable {C:Cfg} {pr:List Nat} {c:Zg} {n:Nat} {r:Out β×St}
theorem Ziu (hC:CfgOk C) (hc:Zy C c): ∀(code:Code) (A:Ann) (kn:Env→M β) (kx:Nat→Env→M β) (kr:Env→M β),Lk kn r→(∀i,Lk (kx i) r)→Lk kr r→Lk (exec C pr c n code A kn kx kr) r:=by
 intro code;induction code with
 |skip=>intro A kn kx kr hn hx hr E s h;exact hn E s h
 |region id ops d=>
  intro A kn kx kr hn hx hr E s h;simp only[exec]at h;rcases ZtJ hC hc h with⟨E',s',hl,hk,_,_⟩|⟨s',e,hl,_⟩
  ·exact Nat.le_trans hl (hn E' s' hk)
  ·rw[e];exact hl
 |seq a b iha ihb=>
  intro A kn kx kr hn hx hr E s h;simp only[exec]at h;exact iha A.a _ kx kr (fun E' s' h'=>ihb A.b kn kx kr hn hx hr E' s' h') hx hr E s h
 |cond x a b iha ihb=>
  intro A kn kx kr hn hx hr E s h;simp only[exec]at h;obtain⟨v,_,h⟩:=Zkq h;have two: ∀ {A1 A2:Ann} {kn:Env→M β},Lk kn r→(bif v then exec C pr c n a A1 kn kx kr E else exec C pr c n b A2 kn kx kr E) s=some r→s.length≤r.2.length:=by
   intro A1 A2 kn hn h;cases v with
   |true=>exact iha A1 kn kx kr hn hx hr E s h
   |false=>exact ihb A2 kn kx kr hn hx hr E s h
  cases A with
  |j J A1 A2=>exact two (Lk.joint hn) (Zhy h).2
  |z=>exact two hn h
  |n A1 A2=>exact two hn h
 |block id body ih=>
  intro A kn kx kr hn hx hr E s h;simp only[exec]at h;cases A with
  |j J A1 A2=>exact ih A1 _ _ kr (Lk.joint hn) (Lk.block (Lk.joint hn) hx) hr E s (Zhy h).2
  |z=>exact ih _ _ _ kr hn (Lk.block hn hx) hr E s h
  |n A1 A2=>exact ih _ _ _ kr hn (Lk.block hn hx) hr E s h
 |loop body ih=>
  intro A kn kx kr hn hx hr E s h;simp only[exec]at h;cases A with
  |j J A1 A2=>
   obtain⟨hj,h⟩:=Zo h;obtain⟨st,_,h⟩:=Zb2 h;have key: ∀(k:Nat) (st:List DV) (s:St),M.loop (fun rec st=>putJ E J st (E.del (mods pr body)) fun E1=>exec C pr c n body A1 (fun E2=>getJ E E2 J rec) kx kr E1) k st s=some r→s.length≤r.2.length:=by
    intro k;induction k with
    |zero=>intro st s h;cases h
    |succ k ihk=>
     intro st s h;simp only[M.loop]at h;obtain⟨E',_,h⟩:=Zdy h;refine ih A1 _ kx kr (fun E2 s2 h2=>?_) hx hr E' s h;obtain⟨st',_,h2⟩:=Zb2 h2;exact ihk st' s2 h2
   exact key n st s h
  |z=>cases h
  |n A1 A2=>cases h
 |exit id=>intro A kn kx kr hn hx hr E s h;exact hx id E s h
 |ret=>intro A kn kx kr hn hx hr E s h;exact hr E s h
 |_=>intros;intro E s h;cases h
theorem Zo0 (l l':List Nat) (u:Nat):has (l++l') u=(has l u||has l' u):=by
 induction l with
 |nil=>rfl
 |cons x l ih=>simp only[List.cons_append,has,ih,Bool.or_assoc]
theorem Un.left {l l':List Nat} {u:Nat} (h:Un (l++l') u):Un l u:=by
 have h':has (l++l') u=false:=h;rw[Zo0,Bool.or_eq_false_iff]at h';exact h'.1
theorem Un.right {l l':List Nat} {u:Nat} (h:Un (l++l') u):Un l' u:=by
 have h':has (l++l') u=false:=h;rw[Zo0,Bool.or_eq_false_iff]at h';exact h'.2
theorem Mod.un {un un':Nat→Prop} {E E':Env} (h:Mod un E E') (k: ∀u,un' u→un u):Mod un' E E':=⟨fun u hu=>h.get u (k u hu),h.nxt,h.verL,h.verI⟩
variable {f:Fr}
theorem Rel.eval {ψ:Ps} {E:Env} {s:St} {a:Act} {w:World} (R:Rel C f ψ E s a w) (x:Operand):EntR C ψ (E.src C x) (a.eval x):=by
 have p:Pre C ⟨none,.move x,0, "", #[],none⟩ (fun _=>True) E s ψ (CR E s) a w:=R.pre;exact p.src (by simp[Op.operands])
theorem ZpR (hC:CfgOk C) (hc:Zy C c) (hfo:C.P.follows .mixedOrders=true) (hN:r.2.length≤f.N): ∀(code:Code) (A:Ann) (kn:Env→M β) (kx:Nat→Env→M β) (kr:Env→M β),okC f.ok code=true→Lk kn r→(∀i,Lk (kx i) r)→Lk kr r→
  ∀(E:Env) (s:St),exec C pr c n code A kn kx kr E s=some r→∀(ψ:Ps) (a:Act) (w:World) (QQ:Exit→Act→World→Prop),Rel C f ψ E s a w→
  (∀E' s' ψ' a' w',kn E' s'=some r→Rel C f ψ' E' s' a' w'→Mod (Un (mods pr code)) E E'→QQ .normal a' w')→
  (∀i E' s' ψ' a' w',kx i E' s'=some r→Rel C f ψ' E' s' a' w'→Mod (Un (mods pr code)) E E'→QQ (.exit i) a' w')→
  (∀E' s' ψ' a' w',kr E' s'=some r→Rel C f ψ' E' s' a' w'→QQ .ret a' w')→
  (∀ch a' w' s',r=(.pan,s')→PanV ch→PanR C f s' a' w'→QQ (.panic ch) a' w')→code.wp C.P QQ a w:=by
 intro code;induction code with
 |skip=>intro A kn kx kr ho hn hx hr E s h ψ a w QQ R qn qx qr qp;exact wp_skip (qn E s ψ a w h R (.refl _ _))
 |region id ops d=>
  intro A kn kx kr ho hn hx hr E s h ψ a w QQ R qn qx qr qp;simp only[exec]at h;rcases ZtJ hC hc h with⟨E',s',hl,hk,hm,hw⟩|⟨s',e,hl,hw⟩
  ·exact hw QQ id R hfo ho (Nat.le_trans (hn E' s' hk) hN) fun ψ' a' w' R'=>qn E' s' ψ' a' w' hk R' hm
  ·exact hw QQ id R hfo ho (by rw[e]at hN;exact hN) fun ch a' w' hv hp=>qp ch a' w' s' e hv hp
 |seq a b iha ihb=>
  intro A kn kx kr ho hn hx hr E s h ψ ac w QQ R qn qx qr qp;simp only[okC,Bool.and_eq_true]at ho;simp only[exec]at h;refine wp_seq (iha A.a _ kx kr ho.1 (Ziu hC hc b A.b kn kx kr hn hx hr) hx hr E s h ψ ac w _ R ?_ ?_ ?_ ?_)
  ·intro E' s' ψ' a' w' h' R' m'
   refine ihb A.b kn kx kr ho.2 hn hx hr E' s' h' ψ' a' w' QQ R' ?_ ?_ qr qp
   ·intro E2 s2 ψ2 a2 w2 h2 R2 m2
    exact qn E2 s2 ψ2 a2 w2 h2 R2 (m'.trans m2 (fun u hu=>Un.left hu) fun u hu=>Un.right hu)
   ·intro i E2 s2 ψ2 a2 w2 h2 R2 m2
    exact qx i E2 s2 ψ2 a2 w2 h2 R2 (m'.trans m2 (fun u hu=>Un.left hu) fun u hu=>Un.right hu)
  ·intro i E' s' ψ' a' w' h' R' m'
   exact qx i E' s' ψ' a' w' h' R' (m'.un fun u hu=>Un.left hu)
  ·exact qr
  ·exact qp
 |cond x a b iha ihb=>
  intro A kn kx kr ho hn hx hr E s h ψ ac w QQ R qn qx qr qp;simp only[okC,Bool.and_eq_true]at ho;simp only[exec]at h;obtain⟨v,hv,h⟩:=Zkq h;have he:ac.eval x= .bool v:=by
   have:=R.eval x;rw[hv]at this;generalize ac.eval x=y at this;cases this;rfl
  have two: ∀ {A1 A2:Ann} {kn:Env→M β},Lk kn r→(bif v then exec C pr c n a A1 kn kx kr E else exec C pr c n b A2 kn kx kr E) s=some r→
    (∀E' s' ψ' a' w',kn E' s'=some r→Rel C f ψ' E' s' a' w'→Mod (Un (mods pr a++mods pr b)) E E'→QQ .normal a' w')→(if v then a else b).wp C.P QQ ac w:=by
   intro A1 A2 kn hn h qn;cases v with
   |true=>exact iha A1 kn kx kr ho.1 hn hx hr E s h ψ ac w QQ R (fun E' s' ψ' a' w' h' R' m'=>qn E' s' ψ' a' w' h' R' (m'.un fun u hu=>Un.left hu)) (fun i E' s' ψ' a' w' h' R' m'=>qx i E' s' ψ' a' w' h' R' (m'.un fun u hu=>Un.left hu)) qr qp
   |false=>exact ihb A2 kn kx kr ho.2 hn hx hr E s h ψ ac w QQ R (fun E' s' ψ' a' w' h' R' m'=>qn E' s' ψ' a' w' h' R' (m'.un fun u hu=>Un.right hu)) (fun i E' s' ψ' a' w' h' R' m'=>qx i E' s' ψ' a' w' h' R' (m'.un fun u hu=>Un.right hu)) qr qp
  refine wp_cond he ?_;cases A with
  |j J A1 A2=>
   obtain⟨hj,h⟩:=Zhy h;refine two (Lk.joint hn) h fun E1 s1 ψ1 a1 w1 h1 R1 m1=>?_
   obtain⟨ds,E',g,p,h1⟩:=ZkT h1;obtain⟨k,m⟩:=ZkW R.eok m1 g p hj;exact qn E' s1 _ a1 w1 h1 (R1.weakJ k) m
  |z=>exact two hn h qn
  |n A1 A2=>exact two hn h qn
 |block id body ih=>
  intro A kn kx kr ho hn hx hr E s h ψ ac w QQ R qn qx qr qp;simp only[exec]at h;have go: ∀ {A1:Ann} {kn:Env→M β},Lk kn r→exec C pr c n body A1 kn (fun i E1=>bif Nat.beq i id then kn E1 else kx i E1) kr E s=some r→
    (∀E' s' ψ' a' w',kn E' s'=some r→Rel C f ψ' E' s' a' w'→Mod (Un (mods pr body)) E E'→QQ .normal a' w')→(Code.block id body).wp C.P QQ ac w:=by
   intro A1 kn hn h qn;refine wp_block (ih A1 kn _ kr ho hn (Lk.block hn hx) hr E s h ψ ac w _ R qn ?_ qr qp);intro i E' s' ψ' a' w' h' R' m';simp only[Exit.inBlock];cases hb:Nat.beq i id with
   |true=>
    rw[hb]at h';rw[if_pos (Nat.eq_of_beq_eq_true hb)];exact qn E' s' ψ' a' w' h' R' m'
   |false=>
    rw[hb]at h';rw[if_neg (Nat.ne_of_beq_eq_false hb)];exact qx i E' s' ψ' a' w' h' R' m'
  cases A with
  |j J A1 A2=>
   obtain⟨hj,h⟩:=Zhy h;refine go (Lk.joint hn) h fun E1 s1 ψ1 a1 w1 h1 R1 m1=>?_
   obtain⟨ds,E',g,p,h1⟩:=ZkT h1;obtain⟨k,m⟩:=ZkW R.eok m1 g p hj;exact qn E' s1 _ a1 w1 h1 (R1.weakJ k) m
  |z=>exact go hn h qn
  |n A1 A2=>exact go hn h qn
 |loop body ih=>
  intro A kn kx kr ho hn hx hr E s h ψ ac w QQ R qn qx qr qp;simp only[exec]at h;cases A with
  |j J A1 A2=>
   obtain⟨hj,h⟩:=Zo h;obtain⟨st,g0,h⟩:=Zb2 h;have lk: ∀(k:Nat) (st:List DV) (s:St),M.loop (fun rec st=>putJ E J st (E.del (mods pr body)) fun E1=>exec C pr c n body A1 (fun E2=>getJ E E2 J rec) kx kr E1) k st s=some r→s.length≤r.2.length:=by
    intro k;induction k with
    |zero=>intro st s h;cases h
    |succ k ihk=>
     intro st s h;simp only[M.loop]at h;obtain⟨E',_,h⟩:=Zdy h;refine Ziu hC hc body A1 _ kx kr (fun E2 s2 h2=>?_) hx hr E' s h;obtain⟨st',_,h2⟩:=Zb2 h2;exact ihk st' s2 h2
   refine wp_loop_ghost (fun k a' w'=>∃E2 s2 ψ2 ds,GJ E E2 J ds∧Mod (Un (mods pr body)) E E2∧Rel C f ψ2 E2 s2 a' w'∧
    M.loop (fun rec st=>putJ E J st (E.del (mods pr body)) fun E1=>exec C pr c n body A1 (fun E2=>getJ E E2 J rec) kx kr E1) k ds s2=some r) n ⟨E,s,ψ,st,g0,.refl _ _,R,h⟩ ?_
   rintro k a' w' ⟨E2,s2,ψ2,ds,g,m,R2,h2⟩;cases k with
   |zero=>cases h2
   |succ k=>
    simp only[M.loop]at h2;obtain⟨E',p,h2⟩:=Zdy h2;obtain⟨kw,m'⟩:=ZkW R.eok m g p hj;refine ih A1 _ kx kr ho (fun E2 s2 h2=>?_) hx hr E' s2 h2 _ a' w' _ (R2.weakJ kw) ?_ ?_ qr qp
    ·obtain⟨st',_,h2⟩:=Zb2 h2
     exact lk k st' s2 h2
    ·intro E3 s3 ψ3 a3 w3 h3 R3 m3
     obtain⟨ds3,g3,h3⟩:=Zb2 h3;exact⟨k,Nat.lt_succ_self k,E3,s3,ψ3,ds3,g3,m'.trans m3 (fun u hu=>hu) (fun u hu=>hu),R3,h3⟩
    ·intro i E3 s3 ψ3 a3 w3 h3 R3 m3
     exact qx i E3 s3 ψ3 a3 w3 h3 R3 (m'.trans m3 (fun u hu=>hu) (fun u hu=>hu))
  |z=>cases h
  |n A1 A2=>cases h
 |exit id=>intro A kn kx kr ho hn hx hr E s h ψ a w QQ R qn qx qr qp;exact wp_exit (qx id E s ψ a w h R (.refl _ _))
 |ret=>intro A kn kx kr ho hn hx hr E s h ψ a w QQ R qn qx qr qp;exact wp_ret (qr E s ψ a w h R)
 |_=>intro A kn kx kr ho hn hx hr E s h;cases h
end
end Go.Gv
namespace Go.Gv
variable {β:Type}
theorem ZiO: ∀(k:Nat) (ds:List DV) (t:Nat),look (argsE k ds) t=if k≤t then(match ds[t-k]? with|some d=> .v d|none=> .u)else .u
 |k,[],t=>by simp[argsE,look]
 |k,d::ds,t=>by
  rw[argsE,Zg2,ZiO (k+1) ds t];by_cases h:k=t
  ·subst h;simp
  ·rw[if_neg h]
   by_cases h2:k≤t
   ·rw[if_pos h2,if_pos (by omega),show t-k=(t-(k+1))+1 by omega,List.getElem?_cons_succ]
   ·rw[if_neg h2,if_neg (by omega)]
section
variable {C:Cfg} {f:Fr} {ψ:Ps} {E:Env} {s:St} {a:Act} {w:World} {r:Out β×St}
def Zol (tmps:Array Value):ResultVar→Sem Value
 | .tmp t=>pure (tmps.getD t undef)
 | .cell a t=>do loadVar t (←asAddr (tmps.getD a undef))
theorem Zip {P:Program} {g:ResultVar→Sem Value} {x:ResultVar} {l:List ResultVar} {v:Value} {vs:List Value} {w:World} (h1:(g x).run P w= .ok v w) (h2:(l.mapM g).run P w= .ok vs w):((x::l).mapM g).run P w= .ok (v::vs) w:=by
 rw[List.mapM_cons];simp only[Sem.run_bind,h1,Result.andThen_ok,h2,Sem.run_pure]
theorem ZkV (R:Rel C f ψ E s a w): ∀ {l:List ResultVar} {K:List DV→M β} ,resK C E l K s=some r→∃ds vs,K ds s=some r∧VRs C ψ ds vs∧(l.mapM (Zol a.tmps)).run C.P w= .ok vs w
 |[],K,h=>⟨[],[],h,.nil,by simp⟩
 | .tmp t::l,K,h=>by
  simp only[resK]at h;obtain⟨d,hd,h⟩:=Zr h;obtain⟨ds,vs,hk,hr,hrun⟩:=ZkV R h;have hv:=R.eval (.tmp t);rw[hd]at hv;exact⟨_,_,hk,.cons _ _ _ _ hv hr,Zip rfl hrun⟩
 | .cell x t::l,K,h=>by
  simp only[resK]at h;cases hx:E.get x with
  |loc v n cs=>
   rw[hx]at h;simp only at h;obtain⟨td,ht,h⟩:=Z9 h;have hreg:=R.reg x;rw[hx]at hreg;obtain⟨cb,e1,e2,e3⟩:=hreg;have hh:=R.sim.holds (.inr v) cb _ e1 (.inl ⟨x,n,cs,hx,rfl⟩);have hlen:=R.eok.len x v n cs hx;cases hag:ZG C.P t with
   |true=>
    rw[hag]at h;simp only[cond_true]at h;obtain⟨hn,h⟩:=Zo h;have hn:=Nat.eq_of_beq_eq_true hn;obtain⟨ds,vs,hk,hr,hrun⟩:=ZkV R h;obtain⟨vc,hv,_,hvr,h1⟩:=Zgx (P:=C.P) hh (p:=0) (n:=C.P.cellsOf t) (by omega);rw[e2,Nat.zero_add]at hv;rw[List.drop_zero,List.take_of_length_le (by omega)]at hvr h1;refine⟨_,_,hk,.cons _ _ _ _ (.agg cs vc hvr h1) hr,Zip ?_ hrun⟩;have:=Zdp ht hag ⟨cb.b,0,none⟩ w hv;show(do loadVar t (←asAddr (a.tmps.getD x undef)):Sem Value).run C.P w=_;rw[e3];simp only[asAddr,Sem.run_bind,Sem.run_pure,Result.andThen_ok];exact this
   |false=>
    rw[hag]at h;simp only[cond_false]at h;obtain⟨d,hd,h⟩:=Zkt h;obtain⟨ds,vs,hk,hr,hrun⟩:=ZkV R h;obtain⟨y,hv,hvr,_⟩:=ZiN (P:=C.P) hh hd;rw[e2,Nat.zero_add]at hv;refine⟨_,_,hk,.cons _ _ _ _ hvr hr,Zip ?_ hrun⟩;have:=ZcC ht hag ⟨cb.b,0,none⟩ w hv;show(do loadVar t (←asAddr (a.tmps.getD x undef)):Sem Value).run C.P w=_;rw[e3];simp only[asAddr,Sem.run_bind,Sem.run_pure,Result.andThen_ok];exact this
  |_=>rw[hx]at h;cases h
theorem ZmZ {fn:Func} {tmps:Array Value} {P:Program} {w:World} {vs:List Value} (h:(fn.results.toList.mapM (Zol tmps)).run P w= .ok vs w):
  (results fn tmps).run P w= .ok (if h:vs.length=1 then vs[0]else .tuple vs.toArray) w:=by
 have e:results fn tmps=(fn.results.mapM (Zol tmps)>>= fun vs=>pure (if h:vs.size=1 then vs[0]else .tuple vs)):=by
  unfold results;congr 1
 rw[e,Array.mapM_eq_mapM_toList];simp[h]
theorem Zyz (b:Nat) (s:St) (i:Nat):stAB (ZR b s) i=if i<b then stAB s i else(stAB s i).map fun ab=>match ab with| .cells _ cs=> .cells true cs|x=>x:=by
 unfold stAB ZR;by_cases h:i<b
 ·rw[if_pos h]
  by_cases h2:i<s.length
  ·rw[List.getElem?_append_left (by simp;omega),List.getElem?_take,if_pos h]
  ·rw[List.getElem?_append_right (by simp;omega),List.getElem?_eq_none (by simp;omega),List.getElem?_eq_none (by omega)]
 ·rw[if_neg h]
  by_cases h3:b≤s.length
  ·rw[List.getElem?_append_right (by simp;omega),List.getElem?_map,List.getElem?_drop]
   rw[List.length_take,Nat.min_eq_left h3,show b+(i-b)=i by omega];cases hs:s[i]? with
   |none=>rfl
   |some x=>cases x<;>rfl
  ·rw[List.getElem?_append_right (by simp;omega),List.getElem?_eq_none (by simp;omega),List.getElem?_eq_none (by omega)];rfl
theorem Zon (b:Nat) (s:St):(ZR b s).length=s.length:=by
 unfold ZR;simp;omega
theorem CallPost.frz {ψ0:Ps} {s0:St} {w0:World} {ψ':Ps} (b:Nat) (h:CallPost C ψ0 s0 w0 ψ' s w):CallPost C ψ0 s0 w0 ψ' (ZR b s) w:=by
 have key: ∀h ab,CS (ZR b s) h ab→∃ab',CS s h ab'∧(ab.sole=true→ab'.sole=true)∧∀(C:Cfg) ψ w cb,Holds C ψ w cb ab'→Holds C ψ w cb ab:=by
  rintro h ab ⟨i,rfl,e⟩;rw[Zyz]at e;split at e
  ·exact⟨ab,⟨i,rfl,e⟩,fun h=>h,fun _ _ _ _ h=>h⟩
  ·cases hs:stAB s i with
   |none=>rw[hs]at e;cases e
   |some x=>
    rw[hs]at e;cases x with
    |cells fz cs=>
     simp only[Option.map_some,Option.some.injEq]at e;subst e;exact⟨_,⟨i,rfl,hs⟩,(fun h=>by cases h),fun C ψ w cb h=>⟨h.1,h.2.1,h.2.2.1,(fun h=>by cases h)⟩⟩
    |iter l p=>
     simp only[Option.map_some,Option.some.injEq]at e;subst e;exact⟨_,⟨i,rfl,hs⟩,fun h=>h,fun _ _ _ _ h=>h⟩
 refine⟨h.sim.cast fun k cb ab e q=>?_,h.ext.cast h.ext.mono (fun _ _ e=>e) fun k cb ab _ q=>?_,fun k cb e=>?_⟩
 ·obtain⟨ab',q',h1,h2⟩:=key k ab q
  exact⟨e,ab',q',h1,h2 C ψ' w cb⟩
 ·obtain⟨ab',q',h1,_⟩:=key k ab q
  exact⟨ab',q',h1⟩
 ·rw[Zon];exact h.news k cb e
def ZmE (C:Cfg) (fid:FuncId) (args:List DV) (s:St) (out:Out (List DV)×St):Prop:=
 s.length≤out.2.length∧∀ψ w vs,Sim C ψ (CS s) w→Blks ψ w→Glob C ψ→VRs C ψ args vs→(∀v,ψ (.inr v)=none)→(∀i,s.length≤i→i<out.2.length→ψ (.inl i)=none)→
   ZdZ C.P fid vs.toArray w fun
    | .returned v,w'=>∃ds,out.1= .val ds∧∃ψ',CallPost C ψ s w ψ' out.2 w'∧RetV C ψ' ds v
    | .panicked ch,w'=>PanV ch∧out.1= .pan∧∃ψ',CallPost C ψ s w ψ' out.2 w'
    | .outgrown,_=>False
structure FunOk (C:Cfg):Prop where
 cfg:CfgOk C
 fol:C.P.follows .mixedOrders=true
theorem Zzg {C:Cfg} (hF:FunOk C) {c:Zg} (hc:Zy C c) {n:Nat} {A:FA} {fn:Func} {fid:FuncId} (hfn:C.P.funcs[fid]? =some fn) (hname:(fn.name== "runtime.NumGoroutine")=false)
  {args:List DV} {s:St} {out:Out (List DV)×St} (h:bodyM C A fn c n args s=some out):ZmE C fid args s out:=by
 unfold bodyM at h;cases hb:fn.body with
 |none=>rw[hb]at h;cases h
 |some code=>
  rw[hb]at h;simp only at h;obtain⟨hok,h⟩:=Zo h;rw[Bool.and_eq_true]at hok;obtain⟨hok,hsz⟩:=hok;have hsz:=Nat.le_of_ble_eq_true hsz;obtain⟨ds,h,hl1,hl2,hcast⟩:=Zfh h;have hlen:ds.length=fn.params.size+fn.nfree:=by rw[hl2];simp
  have main: ∀(kr:Env→M (List DV)) (fz:St→St),(∀s,(fz s).length=s.length)→(∀ψ0 s0 w0 ψ' s w,CallPost C ψ0 s0 w0 ψ' s w→CallPost C ψ0 s0 w0 ψ' (fz s) w)→
    (∀E s' r,kr E s'=some r→resK C E fn.results.toList (fun ds s=>some (.val ds,fz s)) s'=some r)→
    exec C A.pr c n code A.ann kr (fun _ _=>fail) kr ⟨0,argsE 0 ds⟩ s=some out→ZmE C fid args s out:=by
   intro kr fz hfl hfz hkr h;have resl: ∀ {E:Env} {s':St} {r:Out (List DV)×St},kr E s'=some r→∃ds,r=(.val ds,fz s'):=by
    intro E s' r h';have h':=hkr E s' r h';generalize fn.results.toList=l at h';have: ∀(l:List ResultVar) (K:List DV→M (List DV)),resK C E l K s'=some r→∃ds,K ds s'=some r:=by
     intro l;induction l with
     |nil=>exact fun K h=>⟨[],h⟩
     |cons x l ih=>
      intro K h;cases x with
      |tmp t=>
       simp only[resK]at h;obtain⟨d,_,h⟩:=Zr h;obtain⟨ds,h⟩:=ih _ h;exact⟨_,h⟩
      |cell x t=>
       simp only[resK]at h;cases hx:E.get x with
       |loc v n cs=>
        rw[hx]at h;simp only at h;obtain⟨td,_,h⟩:=Z9 h;cases hag:ZG C.P t with
        |true=>
         rw[hag]at h;obtain⟨_,h⟩:=Zo h;obtain⟨ds,h⟩:=ih _ h;exact⟨_,h⟩
        |false=>
         rw[hag]at h;obtain⟨d,_,h⟩:=Zkt h;obtain⟨ds,h⟩:=ih _ h;exact⟨_,h⟩
       |_=>rw[hx]at h;cases h
    obtain⟨ds,h'⟩:=this l _ h';simp only[Option.some.injEq]at h';exact⟨ds,h'.symm⟩
   have lk:Lk kr out:=fun E s' h'=>by
    obtain⟨ds,e⟩:=resl h';rw[e,hfl];exact Nat.le_refl _
   refine⟨Ziu hF.cfg hc code A.ann kr _ kr lk (fun i E s h=>by cases h) lk _ s h,fun ψ w vs hsim hblks hglob hargs hinr hwin=>?_⟩;have hvs:=hcast C ψ vs hargs;have hvl:=hvs.len;unfold ZdZ;have hcall:(callFunc fid vs.toArray).run C.P w= .ok (.enter fid vs.toArray) w:=by
    have hname': ¬fn.name= "runtime.NumGoroutine" :=by simpa using hname
    simp[callFunc,hfn,hname',hb]
   rw[hcall];refine calls_of_wp hfn hb ?_
   let f:Fr:=⟨out.2.length,fn.ntmps,ψ,s,w,okN fn.ntmps,fun x h=>by unfold okN at h;rw[Nat.blt_eq]at h;exact h,fun t=>(vs.toArray++Array.replicate (fn.ntmps-vs.toArray.size) Go.undef).getD t Go.undef,[]⟩
   have get0: ∀t,(⟨0,argsE 0 ds⟩:Env).get t=match ds[t]? with|some d=> .v d|none=> .u:=by
    intro t;have:=ZiO 0 ds t;simp only[Nat.zero_le,if_true,Nat.sub_zero]at this;exact this
   have nov: ∀t v,((⟨0,argsE 0 ds⟩:Env).get t).ver≠some v:=by
    intro t v;rw[get0];cases ds[t]? <;>simp[Ent.ver]
   have cr0: ∀h ab,CR ⟨0,argsE 0 ds⟩ s h ab→CS s h ab:=by
    intro h ab c;cases h with
    |inl i=>exact⟨i,rfl,c⟩
    |inr v=>
     rcases c with⟨t,n,cs,e,_⟩|⟨t,l,p,e,_⟩
     ·exact absurd (by rw[e];rfl) (nov t v)
     ·exact absurd (by rw[e];rfl) (nov t v)
   have R:Rel C f ψ ⟨0,argsE 0 ds⟩ s { tmps:=vs.toArray++Array.replicate (fn.ntmps-vs.toArray.size) Go.undef,defers:=[] } w:=by
    refine⟨hsim.weaken fun _ _ _ _ c=>cr0 _ _ c,⟨fun t v e=>absurd e (nov t v),fun t r v o e=>?_,fun t v n cs e=>absurd (by rw[e];rfl) (nov t v),fun t t' v e _=>absurd e (nov t v)⟩,hblks,hglob,fun t=>?_,?_,rfl,hwin,fun v _=>hinr v,(Ext.refl ψ (CS s) w).weaken fun _ _ _ _ c=>cr0 _ _ c,fun i cb e=> .inl e,Nat.le_refl _,hinr⟩
    ·rw[get0]at e
     cases hd:ds[t]? <;>rw[hd]at e<;>cases e
    ·rw[get0]
     cases hd:ds[t]? with
     |none=>trivial
     |some d=>
      obtain⟨v,hv,hr⟩:=hvs.get hd;have:(vs.toArray++Array.replicate (fn.ntmps-vs.toArray.size) Go.undef).getD t Go.undef=v:=by
       have hlt:=(List.getElem?_eq_some_iff.1 hv).1;rw[Array.getD_eq_getD_getElem?,Array.getElem?_append_left (by simpa using hlt)];simp[hv]
      show EntR C ψ (.v d) _;rw[this];exact hr
    ·refine⟨?_,fun _ _=>rfl⟩
     show(vs.toArray++Array.replicate (fn.ntmps-vs.toArray.size) Go.undef).size=fn.ntmps;simp only[Array.size_append,Array.size_replicate,List.size_toArray];omega
   have done: ∀E' s' ψ' a' w',kr E' s'=some out→Rel C f ψ' E' s' a' w'→a'.defers=[]∧∃v,(results fn a'.tmps).run C.P w'= .ok v w'∧∃ds,out.1= .val ds∧∃ψ',CallPost C ψ s w ψ' out.2 w'∧RetV C ψ' ds v:=by
    intro E' s' ψ' a' w' h' R';obtain⟨ds',vs',hk,hr,hrun⟩:=ZkV R' (hkr E' s' out h');simp only[Option.some.injEq]at hk;refine⟨R'.defs,_,ZmZ hrun,ds',by rw[←hk],inPs ψ',?_,?_⟩
    ·rw[←hk];exact hfz _ _ _ _ _ _ R'.callPost
    ·have hr':VRs C (inPs ψ') ds' vs':=ZsV hr
     by_cases h1:vs'.length=1
     ·rw[dif_pos h1]
      cases hr' with
      |nil=>cases h1
      |cons d v ds vs a b=>
       cases b with
       |nil=>exact .inl ⟨d,rfl,a⟩
       |cons _ _ _ _ _ _=>simp at h1
     ·rw[dif_neg h1]
      exact .inr ⟨by rw[hr'.len];exact h1,_,rfl,hr'⟩
   refine ZpR hF.cfg hc hF.fol (f:=f) (Nat.le_refl _) code A.ann kr _ kr hok lk (fun i E s h=>by cases h) lk _ s h ψ _ w _ R ?_ ?_ ?_ ?_
   ·intro E' s' ψ' a' w' h' R' _;exact done E' s' ψ' a' w' h' R'
   ·intro i E' s' ψ' a' w' h' _ _;cases h'
   ·intro E' s' ψ' a' w' h' R';exact done E' s' ψ' a' w' h' R'
   ·intro ch a' w' s' e hv hp
    refine⟨hp.defs,hv,by rw[e],?_⟩;obtain⟨ψ',hp'⟩:=hp.post;exact⟨ψ',by rw[e];exact hp'⟩
  cases hz:A.frz with
  |true=>
   rw[hz]at h;simp only[cond_true,M.base]at h;exact main _ (ZR s.length) (Zon _) (fun _ _ _ _ _ _ h=>h.frz _) (fun E s' r h=>h) h
  |false=>
   rw[hz]at h;simp only[cond_false]at h;exact main _ id (fun _=>rfl) (fun _ _ _ _ _ _ h=>h) (fun E s' r h=>h) h
end
def BodyOK (C:Cfg) (b:Zg→Nat→List DV→M (List DV)) (f:FuncId):Prop:=
 ∀c n args s out,Zy C c→b c n args s=some out→ZmE C f args s out
theorem BodyOK.of_tie {C:Cfg} (hF:FunOk C) {A:FA} {fn:Func} {f:FuncId} {b:Zg→Nat→List DV→M (List DV)} (hfn:C.P.funcs[f]? =some fn) (hname:(fn.name== "runtime.NumGoroutine")=false) (ht:bodyM C A fn=b):BodyOK C b f:=
 fun c n args s out hc h=>Zzg hF hc hfn hname (by rw[ht];exact h)
theorem Zn3 {C:Cfg} {Bd:Za} (hB: ∀f,C.cov f=true→BodyOK C (Bd (C.fn f)) f) (hno: ∀g,(∀f,C.cov f=true→C.fn f≠g)→∀c n args s,Bd g c n args s=none): ∀n,Zy C (run Bd n)
 |0=>fun g args s out h=>by cases h
 |n+1=>fun g args s out h=>by
  by_cases e: ∃f,C.cov f=true∧C.fn f=g
  ·obtain⟨f,h1,rfl⟩:=e
   refine⟨(hB f h1 _ _ _ _ _ (Zn3 hB hno n) h).1,fun f' h2 h3=>?_⟩;have h':Bd (C.fn f') (run Bd n) n args s=some out:=by rw[h3];exact h
   exact(hB f' h2 _ _ _ _ _ (Zn3 hB hno n) h').2
  ·have:=hno g (fun f h1 h2=>e ⟨f,h1,h2⟩) (run Bd n) n args s
   have h':Bd g (run Bd n) n args s=some out:=h;rw[this]at h';cases h'
end Go.Gv
namespace Go.Gv
end Go.Gv
namespace Go.Gv
def lkN:List (Nat×Nat)→Nat→Nat
 |[],_=>0
 |(k,v)::r,x=>bif Nat.beq k x then v else lkN r x
def tyN (l:List (Nat×Nat)) (t:Nat):Nat:=bif has (l.map (·.1)) t then lkN l t else t+1000
abbrev Body:=Zg→Nat→List DV→M (List DV)
def lkB:List (Nat×Body)→Nat→Option Body
 |[],_=>none
 |(k,b)::r,g=>bif Nat.beq k g then some b else lkB r g
def bdOf (l:List (Nat×Body)):Za:=fun g=>match lkB l g with|some b=>b|none=>fun _ _ _ _=>none
theorem ZpE: ∀ {l:List (Nat×Body)} {g:Nat} {b:Body},lkB l g=some b→g∈l.map (·.1)
 |[],_,_,h=>by cases h
 |(k,x)::r,g,b,h=>by
  simp only[lkB]at h;cases hk:Nat.beq k g with
  |true=>simp[Nat.eq_of_beq_eq_true hk]
  |false=>rw[hk]at h;simp only[cond_false]at h;exact List.mem_cons_of_mem _ (ZpE h)
theorem ZzZ {P:Program} {e:TypeId} (h:P.underlying P.rt.typeAssertionError=some (.pointer e)) (hs:(P.underlying e).isSome=true): ∃e d,P.underlying P.rt.typeAssertionError=some (.pointer e)∧P.underlying e=some d:=
 ⟨e,_,h,(Option.some_get hs).symm⟩
theorem Zzt {C:Cfg} {cov:List Nat} (hcov:C.cov=has cov) {l:List (Nat×Body)} (hk:l.map (·.1)=cov.map C.fn) (hB: ∀f∈cov,BodyOK C (bdOf l (C.fn f)) f): ∀n,Zy C (run (bdOf l) n):=by
 refine Zn3 (fun f hf=>hB f (by rw[hcov]at hf;exact(ZjQ cov f).1 hf)) fun g hg c n args s=>?_
 unfold bdOf;cases hb:lkB l g with
 |none=>rfl
 |some b=>
  have:=ZpE hb;rw[hk]at this;obtain⟨f,hf,rfl⟩:=List.mem_map.1 this;exact absurd rfl (hg f (by rw[hcov];exact(ZjQ cov f).2 hf))
def okTy (l:List (Nat×Nat)):Bool:=decide ((l.map (·.2)).Nodup)&&l.all fun x=>Nat.blt x.2 1000
theorem Zmz: ∀ {l:List (Nat×Nat)} {t:Nat},has (l.map (·.1)) t=true→(t,lkN l t)∈l
 |[],t,h=>by cases h
 |(k,v)::r,t,h=>by
  simp only[List.map_cons,has,Bool.or_eq_true]at h;cases hk:Nat.beq k t with
  |true=>
   have:=Nat.eq_of_beq_eq_true hk;subst this;simp[lkN]
  |false=>
   simp only[lkN,hk,cond_false];exact List.mem_cons_of_mem _ (Zmz (h.resolve_left (by rw[hk];simp)))
theorem Zy5 {l:List (Nat×Nat)} (h:okTy l=true) (t t':Nat) (e:tyN l t=tyN l t'):t=t':=by
 unfold okTy at h;rw[Bool.and_eq_true,decide_eq_true_eq,List.all_eq_true]at h;obtain⟨h1,h2⟩:=h;have lt: ∀ {t},has (l.map (·.1)) t=true→lkN l t<1000:=fun {t} ht=>by
  have:=h2 _ (Zmz ht)
  rwa [Nat.blt_eq]at this
 unfold tyN at e;cases ht:has (l.map (·.1)) t with
 |true=>
  have m:=Zmz ht;have l1:=lt ht;cases ht':has (l.map (·.1)) t' with
  |true=>
   have m':=Zmz ht';rw[ht,ht']at e;simp only[cond_true]at e;rw[e]at m;have inj: ∀ {l:List (Nat×Nat)},(l.map (·.2)).Nodup→∀ {a b c:Nat},(a,c)∈l→(b,c)∈l→a=b:=by
    intro l;induction l with
    |nil=>intro _ a b c h;cases h
    |cons x r ih=>
     intro hn a b c ha hb;simp only[List.map_cons,List.nodup_cons]at hn;rcases List.mem_cons.1 ha with ha|ha<;>rcases List.mem_cons.1 hb with hb|hb
     ·rw[←ha]at hb;cases hb;rfl
     ·exact absurd (List.mem_map.2 ⟨_,hb,by rw[←ha]⟩) hn.1
     ·exact absurd (List.mem_map.2 ⟨_,ha,by rw[←hb]⟩) hn.1
     ·exact ih hn.2 ha hb
   exact inj h1 m m'
  |false=>rw[ht,ht']at e;simp only[cond_true,cond_false]at e;omega
 |false=>
  cases ht':has (l.map (·.1)) t' with
  |true=>have:=lt ht';rw[ht,ht']at e;simp only[cond_true,cond_false]at e;omega
  |false=>rw[ht,ht']at e;simp only[cond_false]at e;omega
end Go.Gv
namespace Go.Gv
variable {β:Type}
section
variable {C:Cfg} {f:Fr} {ψ:Ps} {E:Env} {s:St} {a:Act} {w:World} {c:Zg} {o:Oper} {K:Env→M β} {r:Out β×St}
theorem ZbA (hC:CfgOk C) (hc:Zy C c) (o:Oper) (h:Lk K r):Lk (fun E=>opK C [] [] .s c o E K) r:=by
 intro E s h';rcases ZqL hC hc (ops:=[]) (.inl rfl) h' with⟨E',s',hk,hF,_⟩|⟨_,s',rfl,hp⟩
 ·exact Nat.le_trans hF.len (h E' s' hk)
 ·exact hp.1
theorem Zmv (hC:CfgOk C) (hc:Zy C c) (h:opK C [] [] .s c o E K s=some r) (hl:Lk K r) (hN:r.2.length≤f.N) (hd: ∀x,o.dst=some x→f.ok x=true):
  (∃E' s',K E' s'=some r∧s.length≤s'.length∧∀(ψ:Ps) (a:Act) (w:World) (QQ:Exit→Act→World→Prop) (next:Act→World→Prop),Rel C f ψ E s a w→
    (∀ψ' v w',Rel C f ψ' E' s' (a.put o.dst v) w'→(∀h cb,ψ h=some cb→ψ' h=some cb)→next (a.put o.dst v) w')→o.wp C.P a w next QQ)∨
  (∃s',r=(.pan,s')∧∀(ψ:Ps) (a:Act) (w:World) (QQ:Exit→Act→World→Prop) (next:Act→World→Prop),Rel C f ψ E s a w→(∀ch a' w',PanV ch→PanR C f s' a' w'→QQ (.panic ch) a' w')→o.wp C.P a w next QQ):=by
 rcases ZqL hC hc (ops:=[]) (.inl rfl) h with⟨E',s',hk,hF,hO⟩|⟨_,s',rfl,hp⟩
 ·refine .inl ⟨E',s',hk,hF.len,fun ψ a w QQ next R hn=>?_⟩
  exact hO ψ (CR E s) a w next QQ R.pre (R.room (Nat.le_trans (hl E' s' hk) hN)) fun ψ' Q' v w' hP he=>hn ψ' v w' (R.step hF hP he hd) hP.ext.mono
 ·exact .inr ⟨s',rfl,fun ψ a w QQ next R hn=>R.panR hN hp hn⟩
theorem PanR.unput {d:Option Nat} {v:Value} (hd: ∀x,d=some x→f.ok x=true) (h:PanR C f s (a.put d v) w):PanR C f s a w:=by
 refine⟨by rw[←ZhA a d v];exact h.defs,⟨by rw[←Zho a d v];exact h.ks.1,fun t ht=>?_⟩,h.post⟩;have:=h.ks.2 t ht;rw[Zke (fun x hx=>by rw[←Zho a d v,h.ks.1];exact f.okl x (hd x hx)),if_neg (fun e=>by rw[hd t e]at ht;cases ht)]at this;exact this
def isOne:Sh→Bool
 | .b _=>true
 |_=>false
def isMv:Op→Bool
 | .move (.tmp _)=>true
 |_=>false
def okY (ops:Array Oper):Bool:=
 let l (n:Nat):Array Bool:=(([0,2,3,4,5,1,6,7].take n).foldl (fun l i=>l.setIfInBounds i true) (Array.replicate 8 false))
 let fst (n i:Nat):Bool:=Region.free .any ops (l n) i&&(Region.ready .any ops (l n)).contains i
 Region.noSelect ops&&fst 0 0&&fst 1 2&&fst 2 3&&fst 3 4&&fst 4 5&&(Region.ready .any ops (l 5)==[1])&&(Region.ready .any ops (l 6)==[6])&&(Region.ready .any ops (l 7)==[7])&&(Region.ready .any ops (l 8)).isEmpty
def get8:List Oper→Option (Oper×Oper×Oper×Oper×Oper×Oper×Oper×Oper)
 |[o0,o1,o2,o3,o4,o5,o6,o7]=>some (o0,o1,o2,o3,o4,o5,o6,o7)
 |_=>none
theorem ZxO {l:List Oper} {o0 o1 o2 o3 o4 o5 o6 o7:Oper} (h:get8 l=some (o0,o1,o2,o3,o4,o5,o6,o7)):l=[o0,o1,o2,o3,o4,o5,o6,o7]:=by
 unfold get8 at h;split at h
 ·cases h;rfl
 ·cases h
noncomputable def regY (C:Cfg) (c:Zg) (ops:Array Oper) (E:Env) (K:Env→M β):M β:=
 match get8 ops.toList with
 |some (o0,o1,o2,o3,o4,o5,o6,o7)=>
  bif okY ops&&isMv o0.op&&isMv o2.op&&(o0.guard.isNone&&o1.guard.isNone&&o2.guard.isNone&&o3.guard.isNone&&o4.guard.isNone&&o5.guard.isNone&&o6.guard.isNone&&o7.guard.isNone)then
   match o3.op,o4.op,o5.op with
   | .nilCheck x3,.fieldAddr _ x4 _,.load ty x5=>M.chk (isOne (shOf C.P ty))<|
    opK C [] [] .s c o0 E fun E0=>opK C [] [] .s c o2 E0 fun E2=>ptrK C E2 x3 fun _ _=>opK C [] [] .s c o3 E2 fun E3=>ptrK C E3 x4 fun _ _=>opK C [] [] .s c o4 E3 fun E4=>ptrK C E4 x5 fun i p=>cellK i p fun k n=>opK C [] [] .s c o5 E4 fun E5=>
     opK C [] [] .s c o1 E5 fun E1=>sameK i p k n (opK C [] [] .s c o6 E1 fun E6=>sameK i p k n (opK C [] [] .s c o7 E6 fun E7=>sameK i p k n (K E7)))
   |_,_,_=>fail
  else fail
 |none=>fail
theorem Zi6 {x:Operand} {K:Nat→Nat→M β} (h:ptrK C E x K s=some r): ∃i p,E.src C x= .v (.ptr (some (i,p)))∧K i p s=some r:=by
 unfold ptrK at h;cases he:E.src C x with
 |v d=>
  rw[he]at h;cases d with
  |ptr q=>
   cases q with
   |none=>cases h
   |some q=>exact⟨q.1,q.2,rfl,h⟩
  |_=>cases h
 |_=>rw[he]at h;cases h
theorem ZoU {i p:Nat} {K:IntKind→Int→M β} (h:cellK i p K s=some r): ∃k n,(∃fz cs,stAB s i=some (.cells fz cs)∧cs[p]? =some (.int k n))∧K k n s=some r:=by
 unfold cellK at h;obtain⟨fz,cs,d,hst,hd,h⟩:=Zpd h;cases d with
 |int k n=>exact⟨k,n,⟨fz,cs,hst,hd⟩,h⟩
 |_=>cases h
theorem ZhF {i p:Nat} {k:IntKind} {n:Int} {K:M β} (h:sameK i p k n K s=some r):K s=some r∧∃fz cs,stAB s i=some (.cells fz cs)∧cs[p]? =some (.int k n):=by
 unfold sameK M.load1 at h;cases hc:s.cells i with
 |none=>rw[hc]at h;cases h
 |some cs=>
  rw[hc]at h;simp only at h;cases hd:cs[p]? with
  |none=>rw[hd]at h;cases h
  |some d=>
   rw[hd]at h;have hst: ∃fz,stAB s i=some (.cells fz cs):=by
    unfold St.cells at hc;split at hc
    ·rename_i bk hbk
     cases hc;exact⟨bk.frz,by simp only[stAB,hbk]⟩
    ·cases hc
   obtain⟨fz,hst⟩:=hst;cases d with
   |int k' n'=>
    simp only at h;obtain⟨h0,hK⟩:=Zo h;simp only[Bool.and_eq_true,beq_iff_eq]at h0;have h1:=Zkb h0.1;have h2:=h0.2;rw[←h1,←h2]at hd;exact⟨hK,fz,cs,hst,hd⟩
   |_=>cases h
theorem Rel.num (R:Rel C f ψ E s a w) {i p:Nat} {k:IntKind} {n:Int} {cb:CB} (e:ψ (.inl i)=some cb) (h: ∃fz cs,stAB s i=some (.cells fz cs)∧cs[p]? =some (.int k n)):w.cell? ⟨cb.b,cb.o+p,none⟩=some (.int k n):=by
 obtain⟨fz,cs,h1,h2⟩:=h;have hh:=R.sim.holds (.inl i) cb _ e h1;obtain⟨v,hv,hr⟩:=hh.2.2.1 p _ h2;cases hr;exact hv
theorem Rel.ptr (R:Rel C f ψ E s a w) {x:Operand} {i p:Nat} (e:E.src C x= .v (.ptr (some (i,p)))): ∃cb:CB,ψ (.inl i)=some cb∧a.eval x= .pointer (some ⟨cb.b,cb.o+p,none⟩):=by
 have h:=R.eval x;rw[e]at h;have h:VR C ψ (.ptr (some (i,p))) (a.eval x):=h;generalize a.eval x=v at h;cases h with
 |ptr _ _ cb e=>exact⟨cb,e,rfl⟩
theorem Zso {t:TypeId} {y:Operand} {fi:Nat} (ho:o.op= .fieldAddr t y fi) {Kk:Env→M β} (h:opK C [] [] .s c o E Kk s=some r):
  ∃off,∀(a:Act) (w:World) b n,a.eval y= .pointer (some ⟨b,n,none⟩)→(execOp a.eval o).run C.P w= .ok (.value (.pointer (some ⟨b,n+off,none⟩))) w:=by
 unfold opK at h;rw[ho]at h;simp only at h;unfold ZgC at h;cases ht:C.P.underlying t with
 |none=>rw[ht]at h;cases h
 |some td=>
  rw[ht]at h;cases td with
  |struct fs=>
   simp only at h;cases hf:fs[fi]? with
   |none=>rw[hf]at h;cases h
   |some fd=>
    rw[hf]at h;simp only at h;obtain⟨hc,h⟩:=ZfL h;have hc:=Nat.ne_of_beq_eq_false hc;have hsz: ∀w,(sizeOf fd.type).run C.P w= .ok (C.P.cellsOf fd.type) w:=by
     intro w;unfold Program.cellsOf at hc⊢;cases hi:C.P.info? fd.type with
     |none=>rw[hi]at hc;simp at hc
     |some i=>simp[sizeOf,typeInfo,hi]
    refine⟨fd.offset,fun a w b n hy=>?_⟩;simp[execOp,ho,hy,Instr.fieldAt,Zj w ht,hf,Z3,fieldPlace,hsz,hc,ZdM]
  |_=>cases h
theorem Zym {t:TypeId} {x:Operand} (ho:o.op= .load t x) (hs:isOne (shOf C.P t)=true) {Kk:Env→M β} (h:opK C [] [] .s c o E Kk s=some r) (a:Act) (w:World) (A:Addr) (v:Value) (ha:a.eval x= .pointer (some A)) (hw:w.cell? A=some v):
  (execOp a.eval o).run C.P w= .ok (.value v) w:=by
 unfold opK at h;rw[ho]at h;simp only at h;unfold ZoX at h;obtain⟨td,ht,h⟩:=Z9 h;cases hs':shOf C.P t with
 |b y'=>simp only[execOp,ho,ha,Instr.loadAt,Sem.run_bind,Z3,Result.andThen_ok,ZcC ht (Ztk hs') _ w (by rw[run_load,hw]),Sem.run_pure]
 |agg l=>rw[hs']at hs;cases hs
theorem Zqc {P:Program} {ops:Array Oper} {QQ:Exit→Act→World→Prop} {i:Nat} (hi:ops[i]? =some o) (hg:o.guard=none) {next:Act→World→Prop} (h:o.wp P a w next QQ):wpOp P ops QQ i next a w:=by
 unfold wpOp;simp only[hi];rw[if_pos (by simp[Region.wanted,hg])];exact .inl h
theorem Zxp {P:Program} {QQ:Exit→Act→World→Prop} {next:Act→World→Prop} {v:Value} (he:(execOp a.eval o).run P w= .ok (.value v) w) (h:o.wp P a w next QQ):next (a.put o.dst v) w:=by
 unfold Oper.wp at h;rw[he]at h;exact h
theorem Zj4 {x:Operand} {K:Env→Nat→Nat→M β} (h: ∀i p,Lk (fun E=>K E i p) r):Lk (fun E=>ptrK C E x (K E)) r:=by
 intro E s h';obtain⟨i,p,_,h'⟩:=Zi6 h';exact h i p E s h'
theorem ZvG {i p:Nat} {K:Env→IntKind→Int→M β} (h: ∀k n,Lk (fun E=>K E k n) r):Lk (fun E=>cellK i p (K E)) r:=by
 intro E s h';obtain⟨k,n,_,h'⟩:=ZoU h';exact h k n E s h'
theorem ZhL {i p:Nat} {k:IntKind} {n:Int} {K:Env→M β} (h:Lk K r):Lk (fun E=>sameK i p k n (K E)) r:=by
 intro E s h';exact h E s (ZhF h').1
theorem ZyM (hC:CfgOk C) (hc:Zy C c) {ops:Array Oper} (hok:okO f.ok ops.toList=true) (h:regY C c ops E K s=some r) (hl:Lk K r) (hfo:C.P.follows .mixedOrders=true) (hN:r.2.length≤f.N) (id:Nat) (R:Rel C f ψ E s a w) (QQ:Exit→Act→World→Prop)
  (qn: ∀E' s' ψ' a' w',K E' s'=some r→Rel C f ψ' E' s' a' w'→QQ .normal a' w') (qp: ∀ch a' w' s',r=(.pan,s')→PanV ch→PanR C f s' a' w'→QQ (.panic ch) a' w'):(Code.region id ops true).wp C.P QQ a w:=by
 unfold regY at h;cases hget:get8 ops.toList with
 |none=>rw[hget]at h;cases h
 |some q=>
 obtain⟨o0,o1,o2,o3,o4,o5,o6,o7⟩:=q;rw[hget]at h;have hops:=ZxO hget;simp only at h;obtain⟨hb,h⟩:=Zo h;simp only[Bool.and_eq_true,Option.isNone_iff_eq_none]at hb;obtain⟨⟨⟨hy,hm0⟩,hm2⟩,⟨⟨⟨⟨⟨⟨⟨g0,g1⟩,g2⟩,g3⟩,g4⟩,g5⟩,g6⟩,g7⟩⟩:=hb;obtain⟨x3,st4,x4,fi4,ty5,x5,h3,h4,h5⟩: ∃x3 st4 x4 fi4 ty5 x5,o3.op= .nilCheck x3∧o4.op= .fieldAddr st4 x4 fi4∧o5.op= .load ty5 x5:=by
  cases h3:o3.op with
  |nilCheck x3=>
   cases h4:o4.op with
   |fieldAddr st4 x4 fi4=>
    cases h5:o5.op with
    |load ty5 x5=>exact⟨_,_,_,_,_,_,rfl,rfl,rfl⟩
    |_=>rw[h3,h4,h5]at h;cases h
   |_=>rw[h3,h4]at h;cases h
  |_=>rw[h3]at h;cases h
 rw[h3,h4,h5]at h;simp only at h;obtain⟨hone,h⟩:=ZK h;have i0:ops[0]? =some o0:=by rw[←Array.getElem?_toList,hops];rfl
 have i1:ops[1]? =some o1:=by rw[←Array.getElem?_toList,hops];rfl
 have i2:ops[2]? =some o2:=by rw[←Array.getElem?_toList,hops];rfl
 have i3:ops[3]? =some o3:=by rw[←Array.getElem?_toList,hops];rfl
 have i4:ops[4]? =some o4:=by rw[←Array.getElem?_toList,hops];rfl
 have i5:ops[5]? =some o5:=by rw[←Array.getElem?_toList,hops];rfl
 have i6:ops[6]? =some o6:=by rw[←Array.getElem?_toList,hops];rfl
 have i7:ops[7]? =some o7:=by rw[←Array.getElem?_toList,hops];rfl
 have hds: ∀o∈ops.toList,∀x,o.dst=some x→f.ok x=true:=fun o ho x hx=>ZhO hok o ho x hx
 rw[hops]at hds;have hsize:ops.size=8:=by rw[←Array.length_toList,hops];rfl
 have l7: ∀i p k n,Lk (fun E7=>sameK i p k n (K E7)) r:=fun i p k n=>ZhL hl
 have l6: ∀i p k n,Lk (fun E6=>sameK i p k n (opK C [] [] .s c o7 E6 fun E7=>sameK i p k n (K E7))) r:=fun i p k n=>ZhL (ZbA hC hc o7 (l7 i p k n))
 have l1: ∀i p k n,Lk (fun E1=>sameK i p k n (opK C [] [] .s c o6 E1 fun E6=>sameK i p k n (opK C [] [] .s c o7 E6 fun E7=>sameK i p k n (K E7)))) r:=fun i p k n=>ZhL (ZbA hC hc o6 (l6 i p k n))
 have l5: ∀i p k n,Lk (fun E5=>opK C [] [] .s c o1 E5 fun E1=>sameK i p k n (opK C [] [] .s c o6 E1 fun E6=>sameK i p k n (opK C [] [] .s c o7 E6 fun E7=>sameK i p k n (K E7)))) r:=fun i p k n=>ZbA hC hc o1 (l1 i p k n)
 have l4:=Zj4 (C:=C) (x:=x5) (K:=fun E4 i p=>cellK i p fun k n=>opK C [] [] .s c o5 E4 fun E5=>opK C [] [] .s c o1 E5 fun E1=>sameK i p k n (opK C [] [] .s c o6 E1 fun E6=>sameK i p k n (opK C [] [] .s c o7 E6 fun E7=>sameK i p k n (K E7)))) (r:=r) (fun i p=>ZvG (K:=fun E4 k n=>opK C [] [] .s c o5 E4 fun E5=>opK C [] [] .s c o1 E5 fun E1=>sameK i p k n (opK C [] [] .s c o6 E1 fun E6=>sameK i p k n (opK C [] [] .s c o7 E6 fun E7=>sameK i p k n (K E7)))) fun k n=>ZbA hC hc o5 (l5 i p k n));have l3:=Zj4 (C:=C) (x:=x4) (r:=r) (K:=fun E3 _ _=>opK C [] [] .s c o4 E3 fun E4=>ptrK C E4 x5 fun i p=>cellK i p fun k n=>opK C [] [] .s c o5 E4 fun E5=>opK C [] [] .s c o1 E5 fun E1=>sameK i p k n (opK C [] [] .s c o6 E1 fun E6=>sameK i p k n (opK C [] [] .s c o7 E6 fun E7=>sameK i p k n (K E7)))) (fun _ _=>ZbA hC hc o4 l4);have l2:=Zj4 (C:=C) (x:=x3) (r:=r) (K:=fun E2 _ _=>opK C [] [] .s c o3 E2 fun E3=>ptrK C E3 x4 fun _ _=>opK C [] [] .s c o4 E3 fun E4=>ptrK C E4 x5 fun i p=>cellK i p fun k n=>opK C [] [] .s c o5 E4 fun E5=>opK C [] [] .s c o1 E5 fun E1=>sameK i p k n (opK C [] [] .s c o6 E1 fun E6=>sameK i p k n (opK C [] [] .s c o7 E6 fun E7=>sameK i p k n (K E7)))) (fun _ _=>ZbA hC hc o3 l3);have l0:=ZbA hC hc o2 l2;simp only[okY,Bool.and_eq_true,beq_iff_eq,List.isEmpty_iff]at hy;obtain⟨⟨⟨⟨⟨⟨⟨⟨⟨hns,f0,r0⟩,f1,r1⟩,f2,r2⟩,f3,r3⟩,f4,r4⟩,rd5⟩,rd6⟩,rd7⟩,rd8⟩:=hy;have R:=R.drew;generalize hw1:({ w with drawn:=w.drawn+1 } :World)=w1 at R;have mv: ∀ {o:Oper},isMv o.op=true→∀(a:Act),∃v,∀w',(execOp a.eval o).run C.P w'= .ok (.value v) w':=by
  intro o ho a;unfold isMv at ho;split at ho
  ·rename_i t e
   exact⟨a.eval (.tmp t),fun w'=>by simp[execOp,e]⟩
  ·cases ho
 have fst: ∀ {o:Oper} {E:Env} {s:St} {ψ:Ps} {a:Act} {K':Env→M β} {v:Value},o∈[o0,o1,o2,o3,o4,o5,o6,o7]→opK C [] [] .s c o E K' s=some r→Lk K' r→Rel C f ψ E s a w1→(execOp a.eval o).run C.P w1= .ok (.value v) w1→
   ∃E' s' ψ',K' E' s'=some r∧Rel C f ψ' E' s' (a.put o.dst v) w1∧∀h cb,ψ h=some cb→ψ' h=some cb:=by
  intro o E s ψ a K' v ho h hl R hv;rcases Zmv (f:=f) hC hc h hl hN (hds o ho)with⟨E',s',hk,_,q⟩|⟨s',_,q⟩
  ·obtain⟨ψ',h1,h2⟩:=Zxp (next:=fun a' w'=>∃ψ',Rel C f ψ' E' s' a' w'∧∀h cb,ψ h=some cb→ψ' h=some cb) hv (q ψ a w1 (fun _ _ _=>True) _ R fun ψ' v w' R' m=>⟨ψ',R',m⟩)
   exact⟨E',s',ψ',hk,h1,h2⟩
  ·exact(Zxp (next:=fun _ _=>False) hv (q ψ a w1 (fun _ _ _=>True) _ R fun _ _ _ _ _=>trivial)).elim
 obtain⟨v0,y0⟩:=mv hm0 a;obtain⟨E0,s0,ψ0,h,R0,_⟩:=fst (by simp) h l0 R (y0 w1);obtain⟨v2,y2⟩:=mv hm2 (a.put o0.dst v0);obtain⟨E2,s2,ψ2,h,R2,_⟩:=fst (by simp) h l2 R0 (y2 w1);obtain⟨b3,p3,hx3,h⟩:=Zi6 h;obtain⟨cb3,_,e3⟩:=R2.ptr hx3;have y3: ∀w',(execOp ((a.put o0.dst v0).put o2.dst v2).eval o3).run C.P w'= .ok (.value (.pointer (some ⟨cb3.b,cb3.o+p3,none⟩))) w':=fun w'=>by simp[execOp,h3,e3]
 obtain⟨E3,s3,ψ3,h,R3,_⟩:=fst (by simp) h l3 R2 (y3 w1);obtain⟨b4,p4,hx4,h⟩:=Zi6 h;obtain⟨cb4,_,e4⟩:=R3.ptr hx4;obtain⟨off,y4⟩:=Zso h4 h;have y4:=fun w'=>y4 _ w' _ _ e4
 obtain⟨E4,s4,ψ4,h,R4,_⟩:=fst (by simp) h l4 R3 (y4 w1);obtain⟨i,p,hx5,h⟩:=Zi6 h;obtain⟨cb,ecb,e5⟩:=R4.ptr hx5;obtain⟨k,n,hcell,h⟩:=ZoU h;have y5:=fun w' hw=>Zym h5 hone h _ w' _ (.int k n) e5 hw
 have hS:w1.cell? ⟨cb.b,cb.o+p,none⟩=some (.int k n):=R4.num ecb hcell;obtain⟨E5,s5,ψ5,h,R5,m5⟩:=fst (by simp) h (l5 i p k n) R4 (y5 w1 hS);have ecb:=m5 _ _ ecb;refine wp_mono (Q:=fun e a' w'=>match e with
  | .normal=>∃E' s' ψ',K E' s'=some r∧Rel C f ψ' E' s' a' w'
  | .panic ch=>PanV ch∧∃s',r=(.pan,s')∧PanR C f s' a' w'
  |_=>False) (wp_region_held (S:=fun w'=>w'.cell? ⟨cb.b,cb.o+p,none⟩=some (.int k n)) hfo ?_) ?_
 rotate_left
 ·intro e a' w' he
  cases e with
  |normal=>obtain⟨E',s',ψ',hk,R'⟩:=he;exact qn E' s' ψ' a' w' hk R'
  |panic ch=>obtain⟨hv,s',e,hp⟩:=he;exact qp ch a' w' s' e hv hp
  |_=>exact he.elim
 have wanted: ∀ {o:Oper} {y:Nat→Option Bool},o.guard=none→Region.wanted o y=true:=fun hg=>by simp[Region.wanted,hg]
 have hQ: ∀ {o:Oper} {v:Value},o∈[o0,o1,o2,o3,o4,o5,o6,o7]→∀ch a' w',(PanV ch∧∃s',r=(.pan,s')∧PanR C f s' (a'.put o.dst v) w')→(PanV ch∧∃s',r=(.pan,s')∧PanR C f s' a' w'):=
  fun ho ch a' w' ⟨hv,s',e,hp⟩=>⟨hv,s',e,hp.unput (hds _ ho)⟩
 rw[hsize,hw1];refine wpAnyH_take i0 hns f0 r0 (hQ (by simp)) (.inl ⟨wanted g0,fun w' _=>y0 w'⟩) hS ?_;refine wpAnyH_take i2 hns f1 r1 (hQ (by simp)) (.inl ⟨wanted g2,fun w' _=>y2 w'⟩) hS ?_;refine wpAnyH_take i3 hns f2 r2 (hQ (by simp)) (.inl ⟨wanted g3,fun w' _=>y3 w'⟩) hS ?_;refine wpAnyH_take i4 hns f3 r3 (hQ (by simp)) (.inl ⟨wanted g4,fun w' _=>y4 w'⟩) hS ?_;refine wpAnyH_take i5 hns f4 r4 (hQ (by simp)) (.inl ⟨wanted g5,fun w' hw=>y5 w' hw⟩) hS ?_;refine wpAnyH_all rd5 (by simp) fun j hj=>?_
 rw[List.mem_singleton]at hj;subst hj;refine Zqc i1 g1 ?_;rcases Zmv (f:=f) hC hc h (l1 i p k n) hN (hds o1 (by simp))with⟨E1,s1,h,_,q1⟩|⟨s',e,q1⟩
 rotate_left
 ·exact q1 _ _ _ _ _ R5 fun ch a' w' hv hp=>⟨hv,s',e,hp⟩
 refine q1 _ _ _ _ _ R5 fun ψ1 v1 w2 R1 m1=>?_
 have ecb:=m1 _ _ ecb;obtain⟨h,hc1⟩:=ZhF h;refine⟨R1.num ecb hc1,wpAnyH_all rd6 (by simp) fun j hj=>?_⟩;rw[List.mem_singleton]at hj;subst hj;refine Zqc i6 g6 ?_;rcases Zmv (f:=f) hC hc h (l6 i p k n) hN (hds o6 (by simp))with⟨E6,s6,h,_,q6⟩|⟨s',e,q6⟩
 rotate_left
 ·exact q6 _ _ _ _ _ R1 fun ch a' w' hv hp=>⟨hv,s',e,hp⟩
 refine q6 _ _ _ _ _ R1 fun ψ6 v6 w6 R6 m6=>?_
 have ecb:=m6 _ _ ecb;obtain⟨h,hc6⟩:=ZhF h;refine⟨R6.num ecb hc6,wpAnyH_all rd7 (by simp) fun j hj=>?_⟩;rw[List.mem_singleton]at hj;subst hj;refine Zqc i7 g7 ?_;rcases Zmv (f:=f) hC hc h (l7 i p k n) hN (hds o7 (by simp))with⟨E7,s7,h,_,q7⟩|⟨s',e,q7⟩
 rotate_left
 ·exact q7 _ _ _ _ _ R6 fun ch a' w' hv hp=>⟨hv,s',e,hp⟩
 refine q7 _ _ _ _ _ R6 fun ψ7 v7 w7 R7 m7=>?_
 have ecb:=m7 _ _ ecb;obtain⟨h,hc7⟩:=ZhF h;exact⟨R7.num ecb hc7,wpAnyH_done rd8 ⟨E7,s7,ψ7,h,R7⟩ _⟩
end
end Go.Gv
namespace Go.Gv
variable {β:Type}
def flatC:Code→List Code
 | .seq a b=>flatC a++flatC b
 |c=>[c]
def wpL (P:Program):List Code→(Exit→Act→World→Prop)→Act→World→Prop
 |[],Q=>Q .normal
 |x::r,Q=>x.wp P (Exit.then (wpL P r Q) Q)
theorem ZxL (n m:Act→World→Prop) (Q:Exit→Act→World→Prop):Exit.then n (Exit.then m Q)=Exit.then n Q:=by
 funext e a w;cases e<;>rfl
theorem Zw6 (Q:Exit→Act→World→Prop):Exit.then (Q .normal) Q=Q:=by
 funext e a w;cases e<;>rfl
theorem ZpI {P:Program} : ∀(l m:List Code) (Q:Exit→Act→World→Prop),wpL P (l++m) Q=wpL P l (Exit.then (wpL P m Q) Q)
 |[],m,Q=>rfl
 |x::l,m,Q=>by
  show x.wp P (Exit.then (wpL P (l++m) Q) Q)=x.wp P (Exit.then (wpL P l (Exit.then (wpL P m Q) Q)) (Exit.then (wpL P m Q) Q));rw[ZpI l m Q,ZxL]
theorem ZyU {P:Program} : ∀(c:Code) (Q:Exit→Act→World→Prop) (a:Act) (w:World),wpL P (flatC c) Q a w→c.wp P Q a w:=by
 intro c;induction c with
 |seq x y ihx ihy=>
  intro Q a w h;rw[flatC,ZpI]at h;refine wp_seq (wp_mono (ihx _ a w h) fun e a w h=>?_);cases e<;>first|exact ihy Q a w h|exact h
 |_=>intro Q a w h;simp only[flatC,wpL,Zw6]at h;exact h
def isY:Code→Option (Array Oper)
 | .region _ ops true=>bif okY ops&&Nat.beq ops.size 8 then some ops else none
 |_=>none
noncomputable def execP (C:Cfg) (c:Zg) (n:Nat) (x:Code) (kn kr:Env→M β):Env→M β:=match isY x with
 |some ops=>fun E=>regY C c ops E kn
 |none=>exec C [] c n x .z kn (fun _ _=>fail) kr
noncomputable def execL (C:Cfg) (c:Zg) (n:Nat):List Code→(Env→M β)→(Env→M β)→Env→M β
 |[],kn,_=>kn
 |x::r,kn,kr=>execP C c n x (execL C c n r kn kr) kr
def okL (ok:Nat→Bool):List Code→Bool
 |[]=>true
 |x::r=>okC ok x&&okL ok r
section
variable {C:Cfg} {f:Fr} {c:Zg} {n:Nat} {r:Out β×St}
theorem ZyP {x:Code} {ops:Array Oper} (h:isY x=some ops): ∃id,x= .region id ops true:=by
 unfold isY at h;split at h
 ·rename_i id ops'
  cases hb:okY ops'&&Nat.beq ops'.size 8 with
  |false=>rw[hb]at h;cases h
  |true=>rw[hb]at h;cases h;exact⟨id,rfl⟩
 ·cases h
theorem ZyE (hC:CfgOk C) (hc:Zy C c) {ops:Array Oper} {K:Env→M β} (h:Lk K r):Lk (fun E=>regY C c ops E K) r:=by
 intro E s h';unfold regY at h';cases hget:get8 ops.toList with
 |none=>rw[hget]at h';cases h'
 |some q=>
  obtain⟨o0,o1,o2,o3,o4,o5,o6,o7⟩:=q;rw[hget]at h';simp only at h';obtain⟨_,h'⟩:=Zo h';cases h3:o3.op with
  |nilCheck x3=>
   cases h4:o4.op with
   |fieldAddr st4 x4 fi4=>
    cases h5:o5.op with
    |load ty5 x5=>
     rw[h3,h4,h5]at h';simp only at h';obtain⟨_,h'⟩:=ZK h';refine ZbA hC hc o0 (ZbA hC hc o2 (Zj4 (K:=fun E2 _ _=>_) fun _ _=>ZbA hC hc o3 (Zj4 (K:=fun E3 _ _=>_) fun _ _=>ZbA hC hc o4 (Zj4 (K:=fun E4 i p=>_) fun i p=>ZvG (K:=fun E4 k n=>_) fun k n=>ZbA hC hc o5 (ZbA hC hc o1 (ZhL (ZbA hC hc o6 (ZhL (ZbA hC hc o7 (ZhL h)))))))))) E s h'
    |_=>rw[h3,h4,h5]at h';cases h'
   |_=>rw[h3,h4]at h';cases h'
  |_=>rw[h3]at h';cases h'
theorem Zw7 (hC:CfgOk C) (hc:Zy C c) (x:Code) (kn kr:Env→M β) (h:Lk kn r) (k:Lk kr r):Lk (execP C c n x kn kr) r:=by
 unfold execP;cases isY x with
 |some ops=>exact ZyE hC hc h
 |none=>exact Ziu hC hc x .z _ _ kr h (fun _ _ _ h=>by cases h) k
theorem Ze2 (hC:CfgOk C) (hc:Zy C c): ∀(l:List Code) (kn kr:Env→M β),Lk kn r→Lk kr r→Lk (execL C c n l kn kr) r
 |[],_,_,h,_=>h
 |x::l,kn,kr,h,k=>Zw7 hC hc x _ kr (Ze2 hC hc l kn kr h k) k
theorem ZnB (hC:CfgOk C) (hc:Zy C c) (hfo:C.P.follows .mixedOrders=true) (hN:r.2.length≤f.N): ∀(l:List Code) (kn kr:Env→M β),okL f.ok l=true→Lk kn r→Lk kr r→
  ∀(E:Env) (s:St),execL C c n l kn kr E s=some r→∀(ψ:Ps) (a:Act) (w:World) (QQ:Exit→Act→World→Prop),Rel C f ψ E s a w→
  (∀E' s' ψ' a' w',kn E' s'=some r→Rel C f ψ' E' s' a' w'→QQ .normal a' w')→
  (∀E' s' ψ' a' w',kr E' s'=some r→Rel C f ψ' E' s' a' w'→QQ .ret a' w')→
  (∀ch a' w' s',r=(.pan,s')→PanV ch→PanR C f s' a' w'→QQ (.panic ch) a' w')→wpL C.P l QQ a w
 |[],kn,kr,_,_,_,E,s,h,ψ,a,w,QQ,R,qn,_,_=>qn E s ψ a w h R
 |x::l,kn,kr,ho,hn,hr,E,s,h,ψ,a,w,QQ,R,qn,qr,qp=>by
  simp only[okL,Bool.and_eq_true]at ho;have rest: ∀E' s' ψ' a' w',execL C c n l kn kr E' s'=some r→Rel C f ψ' E' s' a' w'→wpL C.P l QQ a' w':=fun E' s' ψ' a' w' h' R'=>
   ZnB hC hc hfo hN l kn kr ho.2 hn hr E' s' h' ψ' a' w' QQ R' qn qr qp
  have h:execP C c n x (execL C c n l kn kr) kr E s=some r:=h;unfold execP at h;cases hy:isY x with
  |some ops=>
   rw[hy]at h;obtain⟨id,rfl⟩:=ZyP hy;exact ZyM hC hc ho.1 h (Ze2 hC hc l kn kr hn hr) hfo hN id R _ rest (fun ch a' w' s' e h1 h2=>qp ch a' w' s' e h1 h2)
  |none=>
   rw[hy]at h;exact ZpR hC hc hfo hN x .z _ _ kr ho.1 (Ze2 hC hc l kn kr hn hr) (fun _ _ _ h=>by cases h) hr E s h ψ a w _ R (fun E' s' ψ' a' w' h' R' _=>rest E' s' ψ' a' w' h' R') (fun _ _ _ _ _ _ h=>by cases h) (fun E' s' ψ' a' w' h' R'=>qr E' s' ψ' a' w' h' R') (fun ch a' w' s' e h1 h2=>qp ch a' w' s' e h1 h2)
theorem CallPost.trans {ψ0 ψ1 ψ2:Ps} {s0 s1 s2:St} {w0 w1 w2:World} (hl:s0.length≤s1.length) (hl2:s1.length≤s2.length) (h:CallPost C ψ0 s0 w0 ψ1 s1 w1) (k:CallPost C ψ1 s1 w1 ψ2 s2 w2):CallPost C ψ0 s0 w0 ψ2 s2 w2:=by
 refine⟨k.sim,h.ext.trans k.ext,fun x cb e=>?_⟩;rcases k.news x cb e with e|⟨i,rfl,h1,h2⟩
 ·rcases h.news x cb e with e|⟨i,rfl,h1,h2⟩
  ·exact .inl e
  ·exact .inr ⟨i,rfl,h1,by omega⟩
 ·exact .inr ⟨i,rfl,by omega,h2⟩
end
def resH (C:Cfg) (E:Env):List ResultVar→(List DV→M β)→M β
 |[],K=>K []
 | .cell a t::r,K=>match E.get a with
  | .v (.ptr (some (i,o)))=>tyK C.P t (bif ZG C.P t then M.load i o (C.P.cellsOf t) fun cs=>resH C E r fun ds=>K (.agg cs::ds)else M.load1 i o fun d=>resH C E r fun ds=>K (d::ds))
  |_=>fail
 | .tmp _::_,_=>fail
def decD:Option Code→Option (Nat×FuncId×List Operand)
 |some (.region _ ⟨[⟨some td,.makeFunc (.func g) ⟨[]⟩ ⟨caps⟩,_,_,_,none⟩,⟨none,.defer ⟨.value (.tmp t'),⟨[]⟩,_⟩,_,_,_,none⟩]⟩ false)=>bif Nat.beq td t' then some (td,g,caps)else none
 |_=>none
def isIfc (P:Program) (ty:TypeId):Bool:=match P.underlying ty with
 |some (.interface _)=>true
 |_=>false
def decG (P:Program) (m N:Nat):Code→Option Code
 | .seq (.region _ ⟨[⟨some t3,.call ⟨.builtin .recover,⟨[]⟩,_⟩,_,_,_,none⟩,⟨some t4,.binOp .neq ty (.tmp t3') (.const .nilIface) _,_,_,_,none⟩]⟩ false) (.cond (.tmp t4') b .skip)=>
  bif Nat.beq t3 t3'&&Nat.beq t4 t4'&& !Nat.beq t3 t4&&Nat.ble m t3&&Nat.ble m t4&&Nat.blt t3 N&&Nat.blt t4 N&&isIfc P ty then some b else none
 |_=>none
def isU:Ent→Bool
 | .u=>true
 |_=>false
def noRes:List ResultVar→Nat→Bool
 |[],_=>true
 | .cell a _::r,t=> !Nat.beq a t&&noRes r t
 | .tmp _::_,_=>false
noncomputable def bodyD (C:Cfg) (k:Nat) (fn gfn:Func) (c:Zg) (n:Nat) (args:List DV):M (List DV):=
 match fn.body,gfn.body with
 |some code,some gcode=>match decD ((flatC code)[k]?),decG C.P gfn.nfree gfn.ntmps gcode with
  |some (td,_,caps),some gb=>
   bif okL (okN fn.ntmps) ((flatC code).take k)&&okL (fun t=>okN fn.ntmps t&&noRes fn.results.toList t) ((flatC code).drop (k+1))&&okC (okN gfn.ntmps) gb&&Nat.ble fn.params.size fn.ntmps&&Nat.blt td fn.ntmps&&noRes fn.results.toList td
    &&Nat.beq fn.nfree 0&&Nat.beq gfn.params.size 0&&gfn.results.isEmpty&&Nat.ble gfn.nfree gfn.ntmps&&Nat.beq caps.length gfn.nfree then
    dlist (fn.params.toList.map (shOf C.P)) args fun ds=>
     let fin (E:Env):M (List DV):=resH C E fn.results.toList fun ds=>M.ret ds
     execL C c n ((flatC code).take k) (fun E=>M.chk (Nat.beq E.nxt 0&&isU (E.get td)) (valsK C E caps fun cs=>
      M.catch (execL C c n ((flatC code).drop (k+1)) (fun _=>M.ret []) (fun _=>M.ret []) E)
       fun p=>bif p then M.catch (exec C [] c n gb .z (fun _=>M.ret []) (fun _ _=>fail) (fun _=>M.ret []) ⟨0,argsE 0 cs⟩) fun p=>bif p then fail else fin E
        else fin E)) fin ⟨0,argsE 0 ds⟩
   else fail
  |_,_=>fail
 |_,_=>fail
end Go.Gv
namespace Go.Gv
variable {β:Type}
section
variable {C:Cfg} {ψ:Ps} {s:St} {w:World} {g:FuncId} {gfn:Func}
theorem ZqZ {P:Program} {m N:Nat} {c gb:Code} (h:decG P m N c=some gb):
  ∃id t3 t4 ty aT rT rP rA eT eT2 eP eA,c= .seq (.region id #[⟨some t3,.call ⟨.builtin .recover, #[],aT⟩,rT,rP,rA,none⟩,⟨some t4,.binOp .neq ty (.tmp t3) (.const .nilIface) eT,eT2,eP,eA,none⟩] false) (.cond (.tmp t4) gb .skip)∧
   t3≠t4∧m≤t3∧m≤t4∧t3<N∧t4<N∧isIfc P ty=true:=by
 unfold decG at h;split at h
 ·rename_i id t3 aT rT rP rA t4 ty t3' eT eT2 eP eA t4' b
  cases hc:(Nat.beq t3 t3'&&Nat.beq t4 t4'&& !Nat.beq t3 t4&&Nat.ble m t3&&Nat.ble m t4&&Nat.blt t3 N&&Nat.blt t4 N&&isIfc P ty)with
  |false=>rw[hc]at h;cases h
  |true=>
   rw[hc]at h;simp only[cond_true,Option.some.injEq]at h;subst h;simp only[Bool.and_eq_true]at hc;obtain⟨⟨⟨⟨⟨⟨⟨h1,h2⟩,h3⟩,h4⟩,h5⟩,h6⟩,h7⟩,h8⟩:=hc;cases Nat.eq_of_beq_eq_true h1;cases Nat.eq_of_beq_eq_true h2;refine⟨id,t3,t4,ty,aT,rT,rP,rA,eT,eT2,eP,eA,rfl,?_,Nat.le_of_ble_eq_true h4,Nat.le_of_ble_eq_true h5,by rw[Nat.blt_eq]at h6;exact h6,by rw[Nat.blt_eq]at h7;exact h7,h8⟩;intro e;subst e;simp[Nat.beq_refl]at h3
 ·cases h
theorem ZoH {P:Program} {ty:TypeId} (h:isIfc P ty=true): ∃ms,P.underlying ty=some (.interface ms):=by
 unfold isIfc at h;split at h
 ·rename_i ms hms;exact⟨ms,hms⟩
 ·cases h
theorem Zv9 {P:Program} {ty:TypeId} (h:isIfc P ty=true) (d:Nat) (t:TypeId) (v:Value) (w:World):(Op.equalIn (d+1) ty (.iface t v) .nilIface).run P w= .ok false w:=by
 obtain⟨ms,hu⟩:=ZoH h;rw[Op.equalIn.eq_2,Sem.run_bind,Zj w hu];rfl
theorem Zv3 {P:Program} {ty:TypeId} (h:isIfc P ty=true) (d:Nat) (w:World):(Op.equalIn (d+1) ty .nilIface .nilIface).run P w= .ok true w:=by
 obtain⟨ms,hu⟩:=ZoH h;rw[Op.equalIn.eq_2,Sem.run_bind,Zj w hu];rfl
theorem Zxr {P:Program} {ty:TypeId} (h:isIfc P ty=true) (t:TypeId) (v:Value) (w:World):(binOp .neq ty (.iface t v) .nilIface).run P w= .ok (.bool true) w:=by
 have e:binOp .neq ty (.iface t v) .nilIface=(do let b ←Op.equal ty (.iface t v) .nilIface;pure (.bool !b)):=by
  unfold binOp;rfl
 rw[e,Sem.run_bind,show Op.equal ty (.iface t v) .nilIface=Op.equalIn (9999+1) ty (.iface t v) .nilIface from rfl,Zv9 h];rfl
theorem Zzu {P:Program} {ty:TypeId} (h:isIfc P ty=true) (w:World):(binOp .neq ty .nilIface .nilIface).run P w= .ok (.bool false) w:=by
 have e:binOp .neq ty .nilIface .nilIface=(do let b ←Op.equal ty .nilIface .nilIface;pure (.bool !b)):=by
  unfold binOp;rfl
 rw[e,Sem.run_bind,show Op.equal ty .nilIface .nilIface=Op.equalIn (9999+1) ty .nilIface .nilIface from rfl,Zv3 h];rfl
theorem Zwc {P:Program} {ops:Array Oper} {Q:Exit→Act→List Frame→World→Prop} {i:Nat} {rest:List Nat} {o:Oper} {a:Act} {cs cs':List Frame} {x:Value} (ho:ops[i]? =some o) (hg:o.guard=none) (he:(execOp a.eval o).run P w= .ok .recover w)
  (hrec:(match recoverD cs with|some (v,cs')=>(v,cs')|none=>(Value.nilIface,cs))=(x,cs')) (h:wpOpsS P ops Q rest (a.put o.dst x) cs' w):wpOpsS P ops Q (i::rest) a cs w:=by
 simp only[wpOpsS,ho];rw[if_pos (by simp[Region.wanted,hg]),he];simp only;cases hr:recoverD cs with
 |none=>rw[hr]at hrec;cases hrec;exact h
 |some p=>rw[hr]at hrec;cases hrec;exact h
theorem ZwF {P:Program} {ops:Array Oper} {Q:Exit→Act→List Frame→World→Prop} {i:Nat} {rest:List Nat} {o:Oper} {a:Act} {cs:List Frame} {x:Value} (ho:ops[i]? =some o) (hg:o.guard=none) (he:(execOp a.eval o).run P w= .ok (.value x) w)
  (h:wpOpsS P ops Q rest (a.put o.dst x) cs w):wpOpsS P ops Q (i::rest) a cs w:=by
 simp only[wpOpsS,ho];rw[if_pos (by simp[Region.wanted,hg]),he];exact h
def tm2 (vs:Array Value) (N t3 t4:Nat) (x:Value) (b:Bool):Array Value:=((vs++Array.replicate (N-vs.size) Go.undef).setIfInBounds t3 x).setIfInBounds t4 (.bool b)
theorem Zj7 {gb:Code} {id t3 t4:Nat} {ty:TypeId} {aT:Array TypeId} {rT:TypeId} {rP:String} {rA:Array Edge} {eT eT2:TypeId} {eP:String} {eA:Array Edge} {N:Nat} {vs:Array Value} (_hne:t3≠t4) (h3:t3<N) (h4:t4<N) (_hty:isIfc C.P ty=true)
  {Q:Exit→Act→List Frame→World→Prop} {c₀:Frame} {cs:List Frame} {x:Value} {cs':List Frame} {b:Bool}
  (hrec:(match recoverD (c₀::cs)with|some (v,cs')=>(v,cs')|none=>(Value.nilIface,c₀::cs))=(x,cs')) (hb:(binOp .neq ty x .nilIface).run C.P w= .ok (.bool b) w) (hx:(∃t v,x= .iface t v)∨x= .nilIface)
  (h:(bif b then gb else .skip).wpS C.P Q { tmps:=tm2 vs N t3 t4 x b,defers:=[] } cs' w):
  (Code.seq (.region id #[⟨some t3,.call ⟨.builtin .recover, #[],aT⟩,rT,rP,rA,none⟩,⟨some t4,.binOp .neq ty (.tmp t3) (.const .nilIface) eT,eT2,eP,eA,none⟩] false) (.cond (.tmp t4) gb .skip)).wpS C.P Q { tmps:=vs++Array.replicate (N-vs.size) Go.undef,defers:=[] } (c₀::cs) w:=by
 have hsz:N≤(vs++Array.replicate (N-vs.size) Go.undef).size:=by simp;omega
 refine wpS_seq (wpS_region ?_);have e1: ∀ev:Operand→Value,(execOp ev ⟨some t3,.call ⟨.builtin .recover, #[],aT⟩,rT,rP,rA,none⟩).run C.P w= .ok .recover w:=fun _=>rfl
 have fin:wpOpsS C.P #[⟨some t3,.call ⟨.builtin .recover, #[],aT⟩,rT,rP,rA,none⟩,⟨some t4,.binOp .neq ty (.tmp t3) (.const .nilIface) eT,eT2,eP,eA,none⟩] (Exit.thenS ((Code.cond (.tmp t4) gb .skip).wpS C.P Q) Q) [1] (({ tmps:=vs++Array.replicate (N-vs.size) Go.undef,defers:=[] } :Act).put (some t3) x) cs' w:=by
  have hev:(({ tmps:=vs++Array.replicate (N-vs.size) Go.undef,defers:=[] } :Act).put (some t3) x).eval (.tmp t3)=x:=by
   simp only[Act.put,Act.eval];rw[Array.getD_eq_getD_getElem?,Array.getElem?_setIfInBounds_self_of_lt (by omega)];rfl
  have e2:(execOp (({ tmps:=vs++Array.replicate (N-vs.size) Go.undef,defers:=[] } :Act).put (some t3) x).eval ⟨some t4,.binOp .neq ty (.tmp t3) (.const .nilIface) eT,eT2,eP,eA,none⟩).run C.P w= .ok (.value (.bool b)) w:=by
   show(do let v ←(do eqGuard .neq ty (.tmp t3) (.const .nilIface) (Act.eval _ (.tmp t3)) (Act.eval _ (.const .nilIface));binOp .neq ty (Act.eval _ (.tmp t3)) (Act.eval _ (.const .nilIface)));pure (Next.value v):Sem Next).run C.P w=_;rw[hev];have hg:(eqGuard .neq ty (.tmp t3) (.const .nilIface) x .nilIface).run C.P w= .ok () w:=by
    rcases hx with⟨t,v,rfl⟩|rfl<;>rfl
   show((do eqGuard .neq ty (.tmp t3) (.const .nilIface) x .nilIface;binOp .neq ty x .nilIface:Sem Value)>>= fun v=>pure (Next.value v)).run C.P w=_;rw[Sem.run_bind,Sem.run_bind,hg,Result.andThen_ok,hb];rfl
  refine ZwF (o:=⟨some t4,.binOp .neq ty (.tmp t3) (.const .nilIface) eT,eT2,eP,eA,none⟩) rfl rfl e2 ?_;show Exit.thenS _ Q .normal _ cs' w;refine wpS_cond (t:=b) ?_ ?_
  ·simp only[Act.put,Act.eval]
   rw[Array.getD_eq_getD_getElem?,Array.getElem?_setIfInBounds_self_of_lt (by simp;omega)];rfl
  ·cases b<;>exact h
 show wpOpsS C.P _ _ [0,1] _ _ _;exact Zwc (o:=⟨some t3,.call ⟨.builtin .recover, #[],aT⟩,rT,rP,rA,none⟩) rfl rfl (e1 _) hrec fin
theorem Zl0 {fn:Func} (h:fn.results.isEmpty=true) (tmps:Array Value) (P:Program) (w:World):(results fn tmps).run P w= .ok (.tuple #[]) w:=by
 have e:fn.results= #[]:=by simpa using h
 simp[results,e]
theorem ZsZ {gb gcode:Code} {vs:Array Value} (hgfn:C.P.funcs[g]? =some gfn) (hgb:gfn.body=some gcode) (hd:decG C.P gfn.nfree gfn.ntmps gcode=some gb) (hres:gfn.results.isEmpty=true):
  CallsD C.P g vs .returning w fun e u' w'=>e= .returned (.tuple #[])∧u'= .returning∧w'=w:=by
 obtain⟨id,t3,t4,ty,aT,rT,rP,rA,eT,eT2,eP,eA,rfl,hne,_,_,h3,h4,hty⟩:=ZqZ hd;refine callsD_of_wpS hgfn hgb fun c₀ cs hu=>?_
 refine Zj7 (x:= .nilIface) (b:=false) hne h3 h4 hty (cs':=c₀::cs) ?_ (Zzu hty w) (.inr rfl) ?_
 ·simp only[recoverD,hu]
 ·refine wpS_of_wp (wp_skip ?_)
  refine⟨rfl,.returning,?_,_,Zl0 hres _ _ _,rfl,rfl,rfl⟩;cases c₀;simp only at hu;subst hu;rfl
theorem Zu3 (hF:FunOk C) {c:Zg} (hc:Zy C c) {n:Nat} {gb gcode:Code} {vs:List Value} {ds:List DV} (hgfn:C.P.funcs[g]? =some gfn) (hgb:gfn.body=some gcode) (hd:decG C.P gfn.nfree gfn.ntmps gcode=some gb) (hres:gfn.results.isEmpty=true)
  (hok:okC (okN gfn.ntmps) gb=true) (hm:vs.length=gfn.nfree) (hmN:gfn.nfree≤gfn.ntmps) {ds0:List DV} {s3:St} (h:exec C [] c n gb .z (fun _=>M.ret []) (fun _ _=>fail) (fun _=>M.ret []) ⟨0,argsE 0 ds⟩ s=some (.val ds0,s3))
  (hsim:Sim C ψ (CS s) w) (hblks:Blks ψ w) (hglob:Glob C ψ) (hvs:VRs C ψ ds vs) (hinr: ∀v,ψ (.inr v)=none) (hwin: ∀i,s.length≤i→i<s3.length→ψ (.inl i)=none) {ch:List PanicEntry} (hch:PanV ch):
  CallsD C.P g vs.toArray (.panicking ch) w fun e u' w'=>e= .returned (.tuple #[])∧settle u'= .returning∧∃ψ',CallPost C ψ s w ψ' s3 w':=by
 obtain⟨id,t3,t4,ty,aT,rT,rP,rA,eT,eT2,eP,eA,rfl,hne,hm3,hm4,h3,h4,hty⟩:=ZqZ hd;obtain⟨pt,pv,rfl⟩:=hch;refine callsD_of_wpS hgfn hgb fun c₀ cs hu=>?_
 refine Zj7 (x:= .iface pt pv) (b:=true) hne h3 h4 hty (cs':= { c₀ with mode:= .panicking [{ v:= .iface pt pv,recovered:=true }] } ::cs) ?_ (Zxr hty _ _ w) (.inl ⟨_,_,rfl⟩) ?_
 ·simp only[recoverD,hu]
 simp only[cond_true];have lk: ∀r:Out (List DV)×St,Lk (fun _:Env=>(M.ret []:M (List DV))) r:=by
  intro r E s' h';simp only[M.ret,Option.some.injEq]at h';subst h';exact Nat.le_refl _
 have hdl:ds.length=vs.length:=hvs.len
 let f:Fr:=⟨s3.length,gfn.ntmps,ψ,s,w,okN gfn.ntmps,fun x h=>by unfold okN at h;rw[Nat.blt_eq]at h;exact h,fun t=>(tm2 vs.toArray gfn.ntmps t3 t4 (.iface pt pv) true).getD t Go.undef,[]⟩
 have get0: ∀t,(⟨0,argsE 0 ds⟩:Env).get t=match ds[t]? with|some d=> .v d|none=> .u:=by
  intro t;have:=ZiO 0 ds t;simp only[Nat.zero_le,if_true,Nat.sub_zero]at this;exact this
 have nov: ∀t v,((⟨0,argsE 0 ds⟩:Env).get t).ver≠some v:=by
  intro t v;rw[get0];cases ds[t]? <;>simp[Ent.ver]
 have cr0: ∀h ab,CR ⟨0,argsE 0 ds⟩ s h ab→CS s h ab:=by
  intro h ab c;cases h with
  |inl i=>exact⟨i,rfl,c⟩
  |inr v=>
   rcases c with⟨t,n,cs,e,_⟩|⟨t,l,p,e,_⟩
   ·exact absurd (by rw[e];rfl) (nov t v)
   ·exact absurd (by rw[e];rfl) (nov t v)
 have R:Rel C f ψ ⟨0,argsE 0 ds⟩ s { tmps:=tm2 vs.toArray gfn.ntmps t3 t4 (.iface pt pv) true,defers:=[] } w:=by
  refine⟨hsim.weaken fun _ _ _ _ c=>cr0 _ _ c,⟨fun t v e=>absurd e (nov t v),fun t r v o e=>?_,fun t v n cs e=>absurd (by rw[e];rfl) (nov t v),fun t t' v e _=>absurd e (nov t v)⟩,hblks,hglob,fun t=>?_,?_,rfl,hwin,fun v _=>hinr v,(Ext.refl ψ (CS s) w).weaken fun _ _ _ _ c=>cr0 _ _ c,fun i cb e=> .inl e,Nat.le_refl _,hinr⟩
  ·rw[get0]at e
   cases hd:ds[t]? <;>rw[hd]at e<;>cases e
  ·rw[get0]
   cases hd:ds[t]? with
   |none=>trivial
   |some d=>
    obtain⟨v,hv,hr⟩:=hvs.get hd;have hlt:=(List.getElem?_eq_some_iff.1 hv).1;have:(tm2 vs.toArray gfn.ntmps t3 t4 (.iface pt pv) true).getD t Go.undef=v:=by
     unfold tm2;rw[Array.getD_eq_getD_getElem?,Array.getElem?_setIfInBounds_ne (by omega),Array.getElem?_setIfInBounds_ne (by omega),Array.getElem?_append_left (by simpa using hlt)];simp[hv]
    show EntR C ψ (.v d) _;rw[this];exact hr
  ·refine⟨?_,fun _ _=>rfl⟩
   show(tm2 vs.toArray gfn.ntmps t3 t4 (.iface pt pv) true).size=gfn.ntmps;simp[tm2];omega
 refine wpS_of_wp ?_;have done: ∀ {E':Env} {s':St} {ψ':Ps} {a':Act} {w':World},(M.ret []:M (List DV)) s'=some (.val ds0,s3)→Rel C f ψ' E' s' a' w'→
   a'.defers=[]∧∃u',({ c₀ with mode:= .panicking [{ v:= .iface pt pv,recovered:=true }] } ::cs:List Frame)= { c₀ with mode:=u' } ::cs∧∃v,(results gfn a'.tmps).run C.P w'= .ok v w'∧Ending.returned v= .returned (.tuple #[])∧settle u'= .returning∧∃ψ',CallPost C ψ s w ψ' s3 w':=by
  intro E' s' ψ' a' w' h' R';simp only[M.ret,Option.some.injEq,Prod.mk.injEq]at h';obtain⟨_,rfl⟩:=h';exact⟨R'.defs,_,rfl,_,Zl0 hres _ _ _,rfl,rfl,_,R'.callPost⟩
 refine ZpR hF.cfg hc hF.fol (f:=f) (Nat.le_refl _) gb .z _ _ _ hok (lk _) (fun i E s h=>by cases h) (lk _) _ s h ψ _ w _ R ?_ ?_ ?_ ?_
 ·intro E' s' ψ' a' w' h' R' _;exact done h' R'
 ·intro i E' s' ψ' a' w' h' _ _;cases h'
 ·intro E' s' ψ' a' w' h' R';exact done h' R'
 ·intro ch a' w' s' e;cases e
end
end Go.Gv
namespace Go.Gv
variable {β:Type}
section
variable {C:Cfg} {ψ:Ps} {E:Env} {s:St} {w:World}
def Zmh (ψ:Ps) (E:Env) (tmps:Array Value) (l:List ResultVar):Prop:=
 ∀a t,ResultVar.cell a t∈l→∀i o,E.get a= .v (.ptr (some (i,o)))→∃cb:CB,ψ (.inl i)=some cb∧tmps.getD a undef= .pointer (some ⟨cb.b,cb.o+o,none⟩)
theorem ZnN (hs:Sim C ψ (CS s) w) {tmps:Array Value} {r:Out β×St} : ∀ {l:List ResultVar} {K:List DV→M β},Zmh ψ E tmps l→resH C E l K s=some r→∃ds vs,K ds s=some r∧VRs C ψ ds vs∧(l.mapM (Zol tmps)).run C.P w= .ok vs w
 |[],K,_,h=>⟨[],[],h,.nil,by simp⟩
 | .tmp t::l,K,_,h=>by cases h
 | .cell a t::l,K,hp,h=>by
  have hp':Zmh ψ E tmps l:=fun a t hm=>hp a t (List.mem_cons_of_mem _ hm)
  simp only[resH]at h;cases hx:E.get a with
  |v d=>
   rw[hx]at h;cases d with
   |ptr p=>
    cases p with
    |none=>cases h
    |some q=>
     obtain⟨i,o⟩:=q;simp only at h;obtain⟨cb,e1,e3⟩:=hp a t (by simp) i o hx;obtain⟨td,ht,h⟩:=Z9 h;have asA:(asAddr (tmps.getD a undef)).run C.P w= .ok ⟨cb.b,cb.o+o,none⟩ w:=by rw[e3];rfl
     cases hag:ZG C.P t with
     |true=>
      rw[hag]at h;simp only[cond_true]at h;obtain⟨fz,cs,hst,hn,h⟩:=ZgS h;have hh:=hs.holds (.inl i) cb _ e1 ⟨i,rfl,hst⟩;obtain⟨ds,vs,hk,hr,hrun⟩:=ZnN hs hp' h;obtain⟨vc,hv,_,hvr,h1⟩:=Zgx (P:=C.P) hh (p:=o) (n:=C.P.cellsOf t) hn;refine⟨_,_,hk,.cons _ _ _ _ (.agg _ vc hvr h1) hr,Zip ?_ hrun⟩;show(do loadVar t (←asAddr (tmps.getD a undef)):Sem Value).run C.P w=_;rw[Sem.run_bind,asA,Result.andThen_ok];exact Zdp ht hag _ w hv
     |false=>
      rw[hag]at h;simp only[cond_false]at h;unfold M.load1 at h;cases hcs:s.cells i with
      |none=>rw[hcs]at h;cases h
      |some cs=>
       rw[hcs]at h;simp only at h;cases hd:cs[o]? with
       |none=>rw[hd]at h;cases h
       |some d=>
        rw[hd]at h;simp only at h;have hst: ∃f,stAB s i=some (.cells f cs):=by
         unfold St.cells at hcs;split at hcs
         ·rename_i bk hbk
          cases hcs;exact⟨bk.frz,by simp only[stAB,hbk]⟩
         ·cases hcs
        obtain⟨fz,hst⟩:=hst;have hh:=hs.holds (.inl i) cb _ e1 ⟨i,rfl,hst⟩;obtain⟨ds,vs,hk,hr,hrun⟩:=ZnN hs hp' h;obtain⟨y,hv,hvr,_⟩:=ZiN (P:=C.P) hh hd;refine⟨_,_,hk,.cons _ _ _ _ hvr hr,Zip ?_ hrun⟩;show(do loadVar t (←asAddr (tmps.getD a undef)):Sem Value).run C.P w=_;rw[Sem.run_bind,asA,Result.andThen_ok];exact ZcC ht hag _ w hv
   |_=>cases h
  |_=>rw[hx]at h;cases h
theorem ZnM {s s':St} {o:Out (List DV)} : ∀ {l:List ResultVar} {K:List DV→M (List DV)},resH C E l K s=some (o,s')→(∀ds s o s',K ds s=some (o,s')→s'=s)→s'=s
 |[],K,h,hK=>hK _ _ _ _ h
 | .tmp t::l,K,h,_=>by cases h
 | .cell a t::l,K,h,hK=>by
  simp only[resH]at h;cases hx:E.get a with
  |v d=>
   rw[hx]at h;cases d with
   |ptr p=>
    cases p with
    |none=>cases h
    |some q=>
     simp only at h;obtain⟨td,ht,h⟩:=Z9 h;cases hag:ZG C.P t with
     |true=>
      rw[hag]at h;simp only[cond_true]at h;obtain⟨_,_,_,_,h⟩:=ZgS h;exact ZnM h fun ds s o s' h=>hK _ s o s' h
     |false=>
      rw[hag]at h;simp only[cond_false]at h;unfold M.load1 at h;split at h
      ·split at h
       ·exact ZnM h fun ds s o s' h=>hK _ s o s' h
       ·cases h
      ·cases h
   |_=>cases h
  |_=>rw[hx]at h;cases h
theorem Zud: ∀ {l:List ResultVar} {t:Nat},noRes l t=true→∀a u,ResultVar.cell a u∈l→a≠t
 |[],_,_,a,u,hm=>by cases hm
 | .tmp _::_,_,h,_,_,_=>by cases h
 | .cell b v::l,t,h,a,u,hm=>by
  simp only[noRes,Bool.and_eq_true,Bool.not_eq_true']at h;rcases List.mem_cons.1 hm with e|hm
  ·cases e
   intro e;subst e;rw[Nat.beq_refl]at h;cases h.1
  ·exact Zud h.2 a u hm
theorem Zrk: ∀ {l:List ResultVar} (_: ∀t,ResultVar.tmp t∉l) {a u:Nat},ResultVar.cell a u∈l→noRes l a=false
 |[],_,a,u,hm=>by cases hm
 | .tmp t::_,h,_,_,_=>absurd (by simp) (h t)
 | .cell b v::l,h,a,u,hm=>by
  simp only[noRes];rcases List.mem_cons.1 hm with e|hm
  ·cases e;rw[Nat.beq_refl];rfl
  ·rw[Zrk (fun t ht=>h t (List.mem_cons_of_mem _ ht)) hm,Bool.and_false]
theorem ZwM {c:Option Code} {td:Nat} {g:FuncId} {caps:List Operand} (h:decD c=some (td,g,caps)):
  ∃id t1 p1 a1 aT t2 p2 a2,c=some (.region id #[⟨some td,.makeFunc (.func g) #[] caps.toArray,t1,p1,a1,none⟩,⟨none,.defer ⟨.value (.tmp td), #[],aT⟩,t2,p2,a2,none⟩] false):=by
 unfold decD at h;split at h
 ·rename_i id td' g' caps' t1 p1 a1 t' aT t2 p2 a2
  cases hb:Nat.beq td' t' with
  |false=>rw[hb]at h;cases h
  |true=>
   rw[hb]at h;cases Nat.eq_of_beq_eq_true hb;simp only[cond_true,Option.some.injEq,Prod.mk.injEq]at h;obtain⟨rfl,rfl,rfl⟩:=h;exact⟨id,t1,p1,a1,aT,t2,p2,a2,rfl⟩
 ·cases h
theorem Zw1 {P:Program} {ops:Array Oper} {Q:Exit→Act→World→Prop} {i:Nat} {rest:List Nat} {o:Oper} {a:Act} {x:Value} (ho:ops[i]? =some o) (hg:o.guard=none) (he:(execOp a.eval o).run P w= .ok (.value x) w)
  (h:wpOps P ops Q rest (a.put o.dst x) w):wpOps P ops Q (i::rest) a w:=by
 simp only[wpOps,ho];rw[if_pos (by simp[Region.wanted,hg])];left;unfold Oper.wp;rw[he];exact h
theorem ZuN {P:Program} {ops:Array Oper} {Q:Exit→Act→World→Prop} {i:Nat} {rest:List Nat} {o:Oper} {a:Act} {d:Deferred} (ho:ops[i]? =some o) (hg:o.guard=none) (he:(execOp a.eval o).run P w= .ok (.defer d) w)
  (h:wpOps P ops Q rest ({ a with defers:=d::a.defers }.put o.dst Go.undef) w):wpOps P ops Q (i::rest) a w:=by
 simp only[wpOps,ho];rw[if_pos (by simp[Region.wanted,hg])];left;unfold Oper.wp;rw[he];exact h
end
theorem Zpf {m:M (List DV)} {H:Bool→M β} {s:St} {r:Out β×St} (h:M.catch m H s=some r):(∃ds s2,m s=some (.val ds,s2)∧H false s2=some r)∨(∃s2,m s=some (.pan,s2)∧H true s2=some r):=by
 unfold M.catch at h;cases hm:m s with
 |none=>rw[hm]at h;cases h
 |some p=>
  obtain⟨o,s2⟩:=p;rw[hm]at h;cases o with
  |val ds=>exact .inl ⟨ds,s2,rfl,h⟩
  |pan=>exact .inr ⟨s2,rfl,h⟩
theorem ZzS {α:Type} {l:List α} {k:Nat} {x:α} (h:l[k]? =some x):l=l.take k++x::l.drop (k+1):=by
 obtain⟨hk,rfl⟩:=List.getElem?_eq_some_iff.1 h;rw[←List.drop_eq_getElem_cons hk,List.take_append_drop]
theorem Zg0 (r:Out (List DV)×St):Lk (fun _:Env=>(M.ret []:M (List DV))) r:=by
 intro E s' h';simp only[M.ret,Option.some.injEq]at h';subst h';exact Nat.le_refl _
def isG (k:Nat) (fn:Func) (g:FuncId):Bool:=match fn.body with
 |some code=>match decD ((flatC code)[k]?)with
  |some (_,g',_)=>Nat.beq g' g
  |none=>false
 |none=>false
set_option maxHeartbeats 1000000 in
theorem Zyv {C:Cfg} (hF:FunOk C) {c:Zg} (hc:Zy C c) {n k:Nat} {fn gfn:Func} {fid g:FuncId} (hfn:C.P.funcs[fid]? =some fn) (hname:(fn.name== "runtime.NumGoroutine")=false) (hgfn:C.P.funcs[g]? =some gfn) (hgname:(gfn.name== "runtime.NumGoroutine")=false) (hg:isG k fn g=true)
  {args:List DV} {s:St} {out:Out (List DV)×St} (h:bodyD C k fn gfn c n args s=some out):ZmE C fid args s out:=by
 unfold bodyD at h;cases hb:fn.body with
 |none=>rw[hb]at h;cases h
 |some code=>
 cases hgb:gfn.body with
 |none=>rw[hb,hgb]at h;cases h
 |some gcode=>
 rw[hb,hgb]at h;simp only at h;cases hd:decD ((flatC code)[k]?)with
 |none=>rw[hd]at h;cases h
 |some p=>
 obtain⟨td,g',caps⟩:=p;cases hdg:decG C.P gfn.nfree gfn.ntmps gcode with
 |none=>rw[hd,hdg]at h;cases h
 |some gb=>
 rw[hd,hdg]at h;simp only at h;have:g'=g:=by unfold isG at hg;rw[hb]at hg;simp only at hg;rw[hd]at hg;exact Nat.eq_of_beq_eq_true hg
 subst this;obtain⟨hok,h⟩:=Zo h;simp only[Bool.and_eq_true]at hok;obtain⟨⟨⟨⟨⟨⟨⟨⟨⟨⟨k1,k2⟩,k3⟩,k4⟩,k5⟩,k6⟩,k7⟩,k8⟩,k9⟩,k10⟩,k11⟩:=hok;have k4:=Nat.le_of_ble_eq_true k4;have k5:td<fn.ntmps:=by rw[Nat.blt_eq]at k5;exact k5
 have k7:=Nat.eq_of_beq_eq_true k7;have k10:=Nat.le_of_ble_eq_true k10;have k11:=Nat.eq_of_beq_eq_true k11;obtain⟨ds,h,hl1,hl2,hcast⟩:=Zfh h;have hlen:ds.length=fn.params.size:=by rw[hl2];simp
 obtain⟨id,t1,p1,a1',aT,t2,p2,a2',hx⟩:=ZwM hd;have hcut:=ZzS hx;have hnt: ∀t,ResultVar.tmp t∉fn.results.toList:=by
  intro t hm;have: ∀(l:List ResultVar) (u:Nat),noRes l u=true→ResultVar.tmp t∉l:=by
   intro l;induction l with
   |nil=>intro u _ hm;cases hm
   |cons x l ih=>
    intro u hu hm;cases x with
    |tmp y=>cases hu
    |cell a v=>
     simp only[noRes,Bool.and_eq_true]at hu;rcases List.mem_cons.1 hm with e|hm
     ·cases e
     ·exact ih u hu.2 hm
  exact this _ _ k6 hm
 have finv: ∀E s' r,resH C E fn.results.toList (fun ds=>(M.ret ds:M (List DV))) s'=some r→r.2=s':=by
  intro E s' r h';obtain⟨o,s2⟩:=r;exact ZnM h' fun ds s o s' h=>by simp only[M.ret,Option.some.injEq,Prod.mk.injEq]at h;exact h.2.symm
 have lkf:Lk (fun E=>resH C E fn.results.toList fun ds=>(M.ret ds:M (List DV))) out:=fun E s' h'=>by rw[finv E s' out h'];exact Nat.le_refl _
 have half: ∀E s',(M.chk (Nat.beq E.nxt 0&&isU (E.get td)) (valsK C E caps fun cs=>
      M.catch (execL C c n ((flatC code).drop (k+1)) (fun _=>M.ret []) (fun _=>M.ret []) E)
       fun p=>bif p then M.catch (exec C [] c n gb .z (fun _=>M.ret []) (fun _ _=>fail) (fun _=>M.ret []) ⟨0,argsE 0 cs⟩) fun p=>bif p then fail else resH C E fn.results.toList fun ds=>(M.ret ds:M (List DV))
        else resH C E fn.results.toList fun ds=>(M.ret ds:M (List DV)))) s'=some out→
   E.nxt=0∧E.get td= .u∧∃cs o s2,SV C E caps cs∧execL C c n ((flatC code).drop (k+1)) (fun _=>M.ret []) (fun _=>(M.ret []:M (List DV))) E s'=some (o,s2)∧s'.length≤s2.length∧
    (((∃x,o= .val x)∧resH C E fn.results.toList (fun ds=>(M.ret ds:M (List DV))) s2=some out)∨
     (o= .pan∧∃x s3,exec C [] c n gb .z (fun _=>M.ret []) (fun _ _=>fail) (fun _=>(M.ret []:M (List DV))) ⟨0,argsE 0 cs⟩ s2=some (.val x,s3)∧s2.length≤s3.length∧resH C E fn.results.toList (fun ds=>(M.ret ds:M (List DV))) s3=some out)):=by
  intro E s' h';obtain⟨hb1,h'⟩:=ZK h';rw[Bool.and_eq_true]at hb1;have hu:E.get td= .u:=by
   have:=hb1.2;unfold isU at this;cases he:E.get td<;>rw[he]at this<;>first|rfl|cases this
  obtain⟨cs,h',hsv⟩:=Zft h';refine⟨Nat.eq_of_beq_eq_true hb1.1,hu,cs,?_⟩;rcases Zpf h' with⟨x,s2,hm,hf⟩|⟨s2,hm,hf⟩
  ·exact⟨_,s2,hsv,hm,Ze2 (r:=(.val x,s2)) hF.cfg hc _ _ _ (Zg0 _) (Zg0 _) E s' hm,.inl ⟨⟨x,rfl⟩,hf⟩⟩
  ·simp only[cond_true]at hf
   rcases Zpf hf with⟨x,s3,hm2,hf⟩|⟨s3,_,hf⟩
   ·exact⟨_,s2,hsv,hm,Ze2 (r:=(.pan,s2)) hF.cfg hc _ _ _ (Zg0 _) (Zg0 _) E s' hm,.inr ⟨rfl,x,s3,hm2,Ziu (r:=(.val x,s3)) hF.cfg hc gb .z _ _ _ (Zg0 _) (fun _ _ _ h=>by cases h) (Zg0 _) _ s2 hm2,hf⟩⟩
   ·cases hf
 have lkh:Lk (fun E=>M.chk (Nat.beq E.nxt 0&&isU (E.get td)) (valsK C E caps fun cs=>
      M.catch (execL C c n ((flatC code).drop (k+1)) (fun _=>M.ret []) (fun _=>M.ret []) E)
       fun p=>bif p then M.catch (exec C [] c n gb .z (fun _=>M.ret []) (fun _ _=>fail) (fun _=>M.ret []) ⟨0,argsE 0 cs⟩) fun p=>bif p then fail else resH C E fn.results.toList fun ds=>(M.ret ds:M (List DV))
        else resH C E fn.results.toList fun ds=>(M.ret ds:M (List DV)))) out:=by
  intro E s' h';obtain⟨_,_,cs,o,s2,_,_,hl,hh⟩:=half E s' h';rcases hh with⟨_,hf⟩|⟨_,x,s3,_,hl3,hf⟩
  ·rw[finv E s2 out hf];exact hl
  ·rw[finv E s3 out hf];omega
 refine⟨Ze2 hF.cfg hc _ _ _ lkh lkf _ s h,fun ψ w vs hsim hblks hglob hargs hinr hwin=>?_⟩;have hvs:=hcast C ψ vs hargs;have hvl:=hvs.len;unfold ZdZ;have hcall:(callFunc fid vs.toArray).run C.P w= .ok (.enter fid vs.toArray) w:=by
  have hname': ¬fn.name= "runtime.NumGoroutine" :=by simpa using hname
  simp[callFunc,hfn,hname',hb]
 rw[hcall];refine calls_of_wp_defers hfn hb (ZyU _ _ _ _ ?_)
 let f:Fr:=⟨out.2.length,fn.ntmps,ψ,s,w,okN fn.ntmps,fun x h=>by unfold okN at h;rw[Nat.blt_eq]at h;exact h,fun t=>(vs.toArray++Array.replicate (fn.ntmps-vs.toArray.size) Go.undef).getD t Go.undef,[]⟩
 have get0: ∀t,(⟨0,argsE 0 ds⟩:Env).get t=match ds[t]? with|some d=> .v d|none=> .u:=by
  intro t;have:=ZiO 0 ds t;simp only[Nat.zero_le,if_true,Nat.sub_zero]at this;exact this
 have nov: ∀t v,((⟨0,argsE 0 ds⟩:Env).get t).ver≠some v:=by
  intro t v;rw[get0];cases ds[t]? <;>simp[Ent.ver]
 have cr0: ∀h ab,CR ⟨0,argsE 0 ds⟩ s h ab→CS s h ab:=by
  intro h ab c;cases h with
  |inl i=>exact⟨i,rfl,c⟩
  |inr v=>
   rcases c with⟨t,n,cs,e,_⟩|⟨t,l,p,e,_⟩
   ·exact absurd (by rw[e];rfl) (nov t v)
   ·exact absurd (by rw[e];rfl) (nov t v)
 have R:Rel C f ψ ⟨0,argsE 0 ds⟩ s { tmps:=vs.toArray++Array.replicate (fn.ntmps-vs.toArray.size) Go.undef,defers:=[] } w:=by
  refine⟨hsim.weaken fun _ _ _ _ c=>cr0 _ _ c,⟨fun t v e=>absurd e (nov t v),fun t r v o e=>?_,fun t v n cs e=>absurd (by rw[e];rfl) (nov t v),fun t t' v e _=>absurd e (nov t v)⟩,hblks,hglob,fun t=>?_,?_,rfl,hwin,fun v _=>hinr v,(Ext.refl ψ (CS s) w).weaken fun _ _ _ _ c=>cr0 _ _ c,fun i cb e=> .inl e,Nat.le_refl _,hinr⟩
  ·rw[get0]at e
   cases hd:ds[t]? <;>rw[hd]at e<;>cases e
  ·rw[get0]
   cases hd:ds[t]? with
   |none=>trivial
   |some d=>
    obtain⟨v,hv,hr⟩:=hvs.get hd;have:(vs.toArray++Array.replicate (fn.ntmps-vs.toArray.size) Go.undef).getD t Go.undef=v:=by
     have hlt:=(List.getElem?_eq_some_iff.1 hv).1;rw[Array.getD_eq_getD_getElem?,Array.getElem?_append_left (by simpa using hlt)];simp[hv]
    show EntR C ψ (.v d) _;rw[this];exact hr
  ·refine⟨?_,fun _ _=>rfl⟩
   show(vs.toArray++Array.replicate (fn.ntmps-vs.toArray.size) Go.undef).size=fn.ntmps;simp only[Array.size_append,Array.size_replicate,List.size_toArray];omega
 have done: ∀ {E':Env} {s':St} {ψ':Ps} {tmps:Array Value} {w':World},resH C E' fn.results.toList (fun ds=>(M.ret ds:M (List DV))) s'=some out→CallPost C ψ s w ψ' s' w'→Zmh ψ' E' tmps fn.results.toList→
   ∃v,(results fn tmps).run C.P w'= .ok v w'∧∃ds,out.1= .val ds∧∃ψ',CallPost C ψ s w ψ' out.2 w'∧RetV C ψ' ds v:=by
  intro E' s' ψ' tmps w' h' cp hp;obtain⟨ds',vs',hk,hr,hrun⟩:=ZnN cp.sim hp h';simp only[M.ret,Option.some.injEq]at hk;refine⟨_,ZmZ hrun,ds',by rw[←hk],ψ',?_,?_⟩
  ·rw[←hk];exact cp
  ·by_cases h1:vs'.length=1
   ·rw[dif_pos h1]
    cases hr with
    |nil=>cases h1
    |cons d v ds vs a b=>
     cases b with
     |nil=>exact .inl ⟨d,rfl,a⟩
     |cons _ _ _ _ _ _=>simp at h1
   ·rw[dif_neg h1]
    exact .inr ⟨by rw[hr.len];exact h1,_,rfl,hr⟩
 have ptrs: ∀ {ψ':Ps} {E':Env} {tmps:Array Value},(∀t,EntR C ψ' (E'.get t) (tmps.getD t Go.undef))→Zmh ψ' E' tmps fn.results.toList:=by
  intro ψ' E' tmps hr a t _ i o he;have:=hr a;rw[he]at this;have this:VR C ψ' (.ptr (some (i,o))) (tmps.getD a Go.undef):=this;generalize tmps.getD a Go.undef=v at this;cases this with
  |ptr _ _ cb e=>exact⟨cb,e,rfl⟩
 rw[hcut,ZpI];refine ZnB hF.cfg hc hF.fol (f:=f) (Nat.le_refl _) _ _ _ k1 lkh lkf _ s h ψ _ w _ R ?_ ?_ ?_
 ·
  intro E1 s1 ψ1 a1 w1 h1 R1;obtain⟨hnx,hu,cs,o,s2,hsv,hm,hl2',hh⟩:=half E1 s1 h1;show Code.wp C.P _ _ a1 w1;have inr1: ∀v,ψ1 (.inr v)=none:=fun v=>R1.vin v (by rw[hnx];exact Nat.zero_le _)
  have e1:inPs ψ1=ψ1:=by
   funext x;cases x with
   |inl i=>rfl
   |inr v=>exact(inr1 v).symm
  have cp1:=R1.callPost;rw[e1]at cp1;have hcr: ∀h ab,CR E1 s1 h ab→CS s1 h ab:=by
   intro h ab c;cases h with
   |inl i=>exact⟨i,rfl,c⟩
   |inr v=>
    rcases c with⟨t,n,cs,e,_⟩|⟨t,l,p,e,_⟩
    ·have:=R1.eok.lt t v (by rw[e];rfl);omega
    ·have:=R1.eok.lt t v (by rw[e];rfl);omega
  have hN2:s2.length≤out.2.length:=by
   rcases hh with⟨_,hf⟩|⟨_,x,s3,_,hl3,hf⟩
   ·rw[finv E1 s2 out hf];exact Nat.le_refl _
   ·rw[finv E1 s3 out hf];exact hl3
  have capv:VRs C ψ1 cs (caps.map a1.eval):=Zh4 (o:=⟨some td,.makeFunc (.func g') #[] caps.toArray,t1,p1,a1',none⟩) (D:=fun _=>True) R1.pre (fun x hx=>by simp[Op.operands];exact hx) hsv;refine wp_region (Zw1 (o:=⟨some td,.makeFunc (.func g') #[] caps.toArray,t1,p1,a1',none⟩) (x:= .func (.func g') #[] (caps.toArray.map a1.eval)) rfl rfl (by simp[execOp,Instr.makeFunc]) ?_);have hsz1:a1.tmps.size=fn.ntmps:=R1.tsz.1;have hev:(a1.put (some td) (.func (.func g') #[] (caps.toArray.map a1.eval))).eval (.tmp td)= .func (.func g') #[] (caps.toArray.map a1.eval):=by
   simp only[Act.put,Act.eval];rw[Array.getD_eq_getD_getElem?,Array.getElem?_setIfInBounds_self_of_lt (by omega)];rfl
  refine ZuN (o:=⟨none,.defer ⟨.value (.tmp td), #[],aT⟩,t2,p2,a2',none⟩) (d:= { target:= .fn (.func g') (caps.toArray.map a1.eval),args:= #[] }) rfl rfl ?_ ?_
  ·simp only[execOp,resolve,hev,Deferred.ofValue]
   simp
  show wpL C.P ((flatC code).drop (k+1)) _ _ w1
  let d:Deferred:= { target:= .fn (.func g') (caps.toArray.map a1.eval),args:= #[] }
  let a2:Act:= { tmps:=a1.tmps.setIfInBounds td (.func (.func g') #[] (caps.toArray.map a1.eval)),defers:=[d] }
  have ha2:({ (a1.put (some td) (.func (.func g') #[] (caps.toArray.map a1.eval)))with defers:=d::(a1.put (some td) (.func (.func g') #[] (caps.toArray.map a1.eval))).defers } :Act).put none Go.undef=a2:=by
   have:a1.defers=[]:=R1.defs;simp only[Act.put,this,a2]
  show wpL C.P ((flatC code).drop (k+1)) _ (({ (a1.put (some td) (.func (.func g') #[] (caps.toArray.map a1.eval)))with defers:=d::(a1.put (some td) (.func (.func g') #[] (caps.toArray.map a1.eval))).defers } :Act).put none Go.undef) w1;rw[ha2];have ne_td: ∀t,t≠td→a2.tmps.getD t Go.undef=a1.tmps.getD t Go.undef:=by
   intro t ht;simp only[a2];rw[Array.getD_eq_getD_getElem?,Array.getD_eq_getD_getElem?,Array.getElem?_setIfInBounds_ne (Ne.symm ht)]
  let f2:Fr:=⟨s2.length,fn.ntmps,ψ1,s1,w1,fun t=>okN fn.ntmps t&&noRes fn.results.toList t,fun x h=>by rw[Bool.and_eq_true]at h;have h:=h.1;unfold okN at h;rw[Nat.blt_eq]at h;exact h,fun t=>a2.tmps.getD t Go.undef,[d]⟩
  have R2:Rel C f2 ψ1 E1 s1 a2 w1:=by
   refine⟨R1.sim,R1.eok,R1.blks,R1.glob,fun t=>?_,⟨?_,fun _ _=>rfl⟩,rfl,fun i h1 h2=>R1.win i h1 (Nat.lt_of_lt_of_le h2 hN2),R1.vin,(Ext.refl ψ1 (CS s1) w1).weaken fun _ _ _ _ c=>hcr _ _ c,fun i cb e=> .inl e,Nat.le_refl _,inr1⟩
   ·by_cases ht:t=td
    ·subst ht;rw[hu];trivial
    ·rw[ne_td t ht];exact R1.reg t
   ·show(a1.tmps.setIfInBounds _ _).size=fn.ntmps
    simp[hsz1]
  have hinv:(invoke (.fn (.func g') (caps.toArray.map a1.eval)) #[]).run C.P=fun w=> .ok (.enter g' (caps.map a1.eval).toArray) w:=by
   funext w';have hname': ¬gfn.name= "runtime.NumGoroutine" :=by simpa using hgname
   have:(#[]:Array Value)++caps.toArray.map a1.eval=(caps.map a1.eval).toArray:=by simp
   show(callFunc g' (#[]++caps.toArray.map a1.eval)).run C.P w'=_;rw[this];simp[callFunc,hgfn,hname',hgb]
  have keepT: ∀ {a':Act},Ks f2 a'→∀b u,ResultVar.cell b u∈fn.results.toList→a'.tmps.getD b Go.undef=a1.tmps.getD b Go.undef:=by
   intro a' hk b u hm;have hok:f2.ok b=false:=by
    show(okN fn.ntmps b&&noRes fn.results.toList b)=false;rw[Zrk hnt hm,Bool.and_false]
   rw[hk.2 b hok];exact ne_td b (Zud k6 b u hm)
  have ptr1:=ptrs R1.reg;have ptr2: ∀ {ψ':Ps} {a':Act},Ks f2 a'→(∀h cb,ψ1 h=some cb→ψ' h=some cb)→Zmh ψ' E1 a'.tmps fn.results.toList:=by
   intro ψ' a' hk hmono b u hm i o he;obtain⟨cb,h1,h2⟩:=ptr1 b u hm i o he;exact⟨cb,hmono _ _ h1,by rw[keepT hk b u hm];exact h2⟩
  have good: ∀ {E':Env} {s':St} {ψ':Ps} {a':Act} {w':World},(M.ret []:M (List DV)) s'=some (o,s2)→Rel C f2 ψ' E' s' a' w'→Leaves C.P fn a'.tmps (fun e w'=>match e,w' with
    | .returned v,w'=>∃ds,out.1= .val ds∧∃ψ',CallPost C ψ s w ψ' out.2 w'∧RetV C ψ' ds v
    | .panicked ch,w'=>PanV ch∧out.1= .pan∧∃ψ',CallPost C ψ s w ψ' out.2 w'
    | .outgrown,_=>False) a'.defers .returning w':=by
   intro E' s' ψ' a' w' h' R';simp only[M.ret,Option.some.injEq,Prod.mk.injEq]at h';obtain⟨ho,hs'⟩:=h';have ho:o= .val []:=ho.symm;have hs':s'=s2:=hs';subst hs';have hdf:a'.defers=[d]:=R'.defs;rw[hdf];refine leaves_cons (by simp) (by rw[hinv]) ?_;refine(ZsZ (vs:=(caps.map a1.eval).toArray) hgfn hgb hdg k9).mono ?_;rintro e u' w'' ⟨rfl,rfl,rfl⟩;have cp2:=R'.callPost;rcases hh with⟨_,hf⟩|⟨hp,_⟩
   ·exact done hf (cp1.trans R1.len hl2' cp2) (ptr2 R'.tsz cp2.ext.mono)
   ·rw[ho]at hp;cases hp
  refine ZnB hF.cfg hc hF.fol (f:=f2) (r:=(o,s2)) (Nat.le_refl _) _ _ _ k2 (Zg0 _) (Zg0 _) E1 s1 hm ψ1 a2 w1 _ R2 ?_ ?_ ?_
  ·intro E' s' ψ' a' w' h' R';exact good h' R'
  ·intro E' s' ψ' a' w' h' R';exact good h' R'
  ·intro ch a' w' s' e hv hp
   cases e;rcases hh with⟨⟨x,hx⟩,_⟩|⟨_,x,s3,hm3,hl3,hf⟩
   ·cases hx
   obtain⟨ψ2,cp2⟩:=hp.post;have hdf:a'.defers=[d]:=hp.defs;show Leaves C.P fn a'.tmps _ a'.defers (.panicking ch) w';rw[hdf];refine leaves_cons (by simp) (by rw[hinv]) ?_;have hs3:out.2=s3:=finv E1 s3 out hf;refine(Zu3 hF hc (ψ:=ψ2) (s:=s2) (w:=w') (vs:=caps.map a1.eval) hgfn hgb hdg k9 k3 (by simpa using k11) k10 hm3 cp2.sim (cp2.ext.blks R1.blks) (cp2.ext.glob R1.glob) (capv.mono (ψ:=ψ1) (ψ':=ψ2) fun _ _ e=>cp2.ext.mono _ _ e) (fun v=>?_) (fun i h1 h2=>?_) hv).mono ?_
   ·cases hψ:ψ2 (.inr v)with
    |none=>rfl
    |some cb=>
     rcases cp2.news _ _ hψ with e|⟨i,e,_⟩
     ·have:=inr1 v
      rw[show f2.ψ0=ψ1 from rfl]at e;rw[this]at e;cases e
     ·cases e
   ·cases hψ:ψ2 (.inl i)with
    |none=>rfl
    |some cb=>
     rcases cp2.news _ _ hψ with e|⟨j,e,_,hj⟩
     ·have:=R1.win i (Nat.le_trans hl2' h1) (by rw[←hs3]at h2;exact h2)
      rw[show f2.ψ0=ψ1 from rfl]at e;rw[this]at e;cases e
     ·cases e;omega
   ·rintro e u' w'' ⟨rfl,hset,ψ3,cp3⟩
    show Leaves C.P fn a'.tmps _ [] (settle u') w'';rw[hset];have cp13:=(cp1.trans R1.len hl2' cp2).trans (Nat.le_trans R1.len hl2') hl3 cp3;exact done hf cp13 (ptr2 hp.ks fun _ _ e=>cp3.ext.mono _ _ (cp2.ext.mono _ _ e))
 ·
  intro E' s' ψ' a' w' h' R';show Leaves C.P fn a'.tmps _ a'.defers .returning w';rw[show a'.defers=[]from R'.defs];refine done h' R'.callPost fun b u hm i o he=>?_
  obtain⟨cb,h1,h2⟩:=ptrs R'.reg b u hm i o he;exact⟨cb,h1,h2⟩
 ·intro ch a' w' s' e hv hp
  show Leaves C.P fn a'.tmps _ a'.defers (.panicking ch) w';rw[show a'.defers=[]from hp.defs];obtain⟨ψ',hp'⟩:=hp.post;exact⟨hv,by rw[e],ψ',by rw[e];exact hp'⟩
end Go.Gv
namespace Go.Gv
theorem Zle {P:Program} {f:FuncId} {fn:Func} {vs:Array Value} {w:World} {R:Ending→World→Prop} (hfn:P.funcs[f]? =some fn) (hname:(fn.name== "runtime.NumGoroutine")=false) (hb:fn.body.isSome=true)
  (h:Calls P f vs w R):ZdZ P f vs w R:=by
 have hname': ¬fn.name= "runtime.NumGoroutine" :=by simpa using hname
 have e:(callFunc f vs).run P w= .ok (.enter f vs) w:=by
  cases hb':fn.body with
  |none=>rw[hb']at hb;cases hb
  |some c=>simp[callFunc,hfn,hname',hb']
 unfold ZdZ;rw[e];exact h
end Go.Gv
namespace Go.Gv
end Go.Gv
