/- What a region's operations do, one behind the other, as the machine takes them. -/
import Derived.Test.YtegglibipjjblaaGreatDoorGvZOps
import Derived.Laws.Externs
import Derived.Lib.Bytealg
import Derived.OrdersHeld
import Derived.Recover
import Derived.Defers
import Derived.Lib.Join
import Derived.Lib.Repeat
set_option linter.all false
namespace Go.Gv
variable {Y:Type}
structure nQ (E E':Env):Prop where
 bS:E'.bS=E.bS
 get: ∀t,E'.get t=E.get t\/E'.get t= .u
def GW (dst:Nat->Option Nat) (E:Env) (o:Oper):Prop:=o.guard=none\/∃j w r,o.guard=some (j,w)/\dst j=some r/\E.get r= .v (.bool w)
def GU (dst:Nat->Option Nat) (E:Env) (o:Oper):Prop:=∃j w r,o.guard=some (j,w)/\dst j=some r/\((∃b,E.get r= .v (.bool b)/\b≠w)\/E.get r= .un)
section
variable (C:bE) (dst:Nat->Option Nat) (pr ms:al)
inductive Step:Oper×Md->Env->St->Env->St->Prop
 |act {p:Oper×Md} {E s E' s'} :GW dst E p.1->nP (oy p.2 E) pr ms p.1 E s E' s'->DJ C p.1 (qT p.2 E) (oy p.2 E) E s E' s'->Step p E s E' s'
 |skip {p:Oper×Md} {E s} :GU dst E p.1->Step p E s (E.fD p.1.dst .un) s
inductive Tr:List (Oper×Md)->Env->St->Env->St->Prop
 |nil (E s):Tr [] E s E s
 |jv {l E E1 s E2 s2} :nQ E E1->Tr l E1 s E2 s2->Tr l E s E2 s2
 |cons {p l E s E1 s1 E2 s2} :Step C dst pr ms p E s E1 s1->Tr l E1 s1 E2 s2->Tr (p::l) E s E2 s2
inductive pE:List (Oper×Md)->Env->St->St->Prop
 |jv {l E E1 s s2} :nQ E E1->pE l E1 s s2->pE l E s s2
 |here {p l E s s'} :GW dst E p.1->p.2.x=0->yk C p.1 (qT p.2 E) E s s'->pE (p::l) E s s'
 |next {p l E s E1 s1 s2} :Step C dst pr ms p E s E1 s1->pE l E1 s1 s2->pE (p::l) E s s2
end
variable {ab de:AB} {a0:Act} {listed:Array Bool} {ops:Array Oper} {cb:CB} {E E' E0 E1 E2 H8:Env} {QQ:Exit->Act->World->Prop} {A:FA} {f wq:FuncId} {Q Q' Q0:Kn} {J:List (Nat×JS)} {l l1 l2:List (Oper×Md)} {vs:List Value} {is:List gS} {N i id j k m n t u x':Nat} {dst:Nat->Option Nat} {L' LQ abL:Nat->Prop} {o:Oper} {p p':Oper×Md} {r:Out Y×St} {P:Program} {jh ψ ψ':Ps} {s s' s0 s1 s2:St} {v:Value} {w w' w0:World} {c:Zf} {args cs cs' ds:ah} {acc iK l' ms pr:al} {C:bE} {h:dN} {k':ni}
section
variable {C:bE} {dst:Nat->Option Nat} {pr ms:al}
theorem Tr.append (h:Tr C dst pr ms l1 E s E1 s1) (k:Tr C dst pr ms l2 E1 s1 E2 s2):Tr C dst pr ms (l1++l2) E s E2 s2:=by
 induction h with
 |nil=>exact k
 |jv w _ ih=>exact .jv w (ih k)
 |cons st _ ih=>exact .cons st (ih k)
theorem pE.left (h:pE C dst pr ms l1 E s s2) (l2:List (Oper×Md)):pE C dst pr ms (l1++l2) E s s2:=by
 induction h with
 |jv w _ ih=>exact .jv w ih
 |here a b c=>exact .here a b c
 |next st _ ih=>exact .next st ih
theorem Tr.fH (h:Tr C dst pr ms l1 E s E1 s1) (k:pE C dst pr ms l2 E1 s1 s2):pE C dst pr ms (l1++l2) E s s2:=by
 induction h with
 |nil=>exact k
 |jv w _ ih=>exact .jv w (ih k)
 |cons st _ ih=>exact .next st (ih k)
theorem Zms {r:Nat} : ∀ {l acc:List (Oper×Md)} {fb:List (Oper×Md)} {pk:Oper} {rest:List (Oper×Md)},D5 r acc l=some (fb,pk,rest)->
  ∃x y z,acc.reverse++l=fb++(pk,x)::rest/\pk.op= .pick (.tmp r) y z
 |[],acc,fb,pk,rest,h=>by cases h
 |(o,x)::l,acc,fb,pk,rest,h=>by
  simp only[D5]at h;have go:D5 r ((o,x)::acc) l=some (fb,pk,rest)->∃x' y z,acc.reverse++(o,x)::l=fb++(pk,x')::rest/\pk.op= .pick (.tmp r) y z:=by
   intro h;have⟨x',y,z,h1,h2⟩:=Zms h;exact⟨x',y,z,by rw[<-h1];simp,h2⟩
  split at h
  .rename_i t y z eD
   cases hb:Nat.beq t r
   .rw[hb]at h;exact go h
   .rw[hb]at h;simp only[ae,gf,FM]at h;obtain⟨rfl,rfl,rfl⟩:=h;have:=dQ hb;subst this;exact⟨x,y,z,rfl,eD⟩
  .exact go h
theorem ZtQ: ∀ {act:List (Nat×Bool)} {g:Nat×Bool},OQ act g=true->g∈act
 |[],_,h=>by cases h
 |(k,b)::r,g,h=>by
  simp only[OQ,mB,aS]at h;rcases h with⟨h1,h2⟩|h
  .have e1:=dQ h1
   have e2:b=g.2:=by simpa using h2
   have:g=(k,b):=by rw[e1,e2]
   rw[this];exact pz
  .exact tj _ (ZtQ h)
theorem MV {j:Nat} {w:Bool} {r:Nat} : ∀ {l:List (Oper×Md)} {sk:al},Eo pr dst j w r sk l=true->∀p∈l,¬Spec pr p.1/\p.1.dst≠some r
 |[],_,_,p,hp=>by cases hp
 |(o,x)::l,sk,h,p,hp=>by
  simp only[Eo,aS]at h;have⟨⟨h1,_⟩,h3⟩:=h;have ja: ¬Spec pr o:=by
   unfold Spec;intro hs;cases eD:o.op<;>rw[eD]at hs h1<;>simp only at hs h1<;>first|exact hs|(cases h1;done)|skip
   all_goals
    have⟨d,hd,jE⟩:=hs;rw[hd]at h1;simp only at h1;rw[jE]at h1;cases h1
  cases hd:o.dst
  .rw[hd]at h3;rcases ep.1 hp with rfl|hp
   .exact⟨ja,by simp[hd]⟩
   .exact MV h3 p hp
  .rename_i d;rw[hd]at h3;simp only[aS]at h3;rcases ep.1 hp with rfl|hp
   .refine⟨ja,?_⟩
    rw[hd];intro e;cases e;have:=h3.1;rw[FG]at this;cases this
   .exact MV h3.2 p hp
theorem Gi: ∀ {l:List (Oper×Md)} {t:Nat},has (il l) t=true↔ ∃p∈l,p.1.dst=some t
 |[],t=>by simp[il,has]
 |(o,x)::l,t=>by
  simp only[il,ep,exists_eq_or_imp];cases hd:o.dst
  .rw[Gi];simp
  .rename_i d;rw[has,mB,Gi,gf];constructor
   .rintro(h|h)
    .exact .inl (dQ h)
    .exact .inr h
   .rintro(h|h)
    .exact .inl (by subst h;exact FG _)
    .exact .inr h
theorem Wv {j:Nat} {w:Bool} {r:Nat} (hj:dst j=some r) {b:Bool} (hb:b≠w): ∀ {l:List (Oper×Md)} {sk:al} {E:Env} {s:St},Eo pr dst j w r sk l=true->E.get r= .v (.bool b)->(∀d,has sk d=true->E.get d= .un)->
  ∃E1,Tr C dst pr ms l E s E1 s/\E1.bS=E.bS/\(∀u,has (il l) u=false->E1.get u=E.get u)
 |[],_,E,s,_,_,_=>⟨E,.nil E s,rfl,λ_ _=>rfl⟩
 |(o,x)::l,sk,E,s,h,hr,hsk=>by
  have aaC:=MV h (o,x) Do;simp only[Eo,aS]at h;have⟨⟨_,h2⟩,h3⟩:=h;have hg:GU dst E o:=by
   cases hg:o.guard
   .rw[hg]at h2;cases h2
   .rename_i g;have⟨j',w'⟩:=g;rw[hg]at h2;simp only[mB,aS]at h2;rcases h2 with⟨h4,h5⟩|h4
    .have:=dQ h4
     have h5:w'=w:=by simpa using h5
     subst this;subst h5;exact⟨_,_,r,hg,hj,.inl ⟨b,hr,hb⟩⟩
    .cases hd:dst j'
     .rw[hd]at h4;cases h4
     .rename_i d;rw[hd]at h4;exact⟨j',w',d,hg,hd,.inr (hsk d h4)⟩
  have kX:(E.fD o.dst .un).get r= .v (.bool b):=by rw[Env.lH,aY aaC.2];exact hr
  cases hd:o.dst
  .rw[hd]at h3;have⟨E1,t1,t2,t3⟩:=Wv hj hb (E:=E.fD o.dst .un) (s:=s) h3 kX (λd h=>by rw[hd];exact hsk d h);refine⟨E1,.cons (.skip hg) t1,by rw[t2];simp,λu hu=>?_⟩;simp only[il,hd]at hu;rw[t3 u hu,hd];rfl
  .rename_i d;rw[hd]at h3;simp only[aS]at h3;have⟨E1,t1,t2,t3⟩:=Wv hj hb (E:=E.fD o.dst .un) (s:=s) h3.2 kX (λd' h=>by
    rw[Env.lH,hd];simp only[has,mB]at h;by_cases e:some d=some d'
    .rw[bx e]
    .rw[aY e]
     rcases h with h|h
     .exact absurd (by rw[dQ h]) e
     .exact hsk d' h)
   refine⟨E1,.cons (.skip hg) t1,by rw[t2];simp,λu hu=>?_⟩;simp only[il,hd,has,yf]at hu;rw[t3 u hu.2,Env.lH,hd,aY];intro e;cases e;rw[FG]at hu;cases hu.1
theorem ZrD {md:Md} {r:Nat} {y z:Operand} {b:Bool} (ho:o.op= .pick (.tmp r) y z) (hb:E.get r= .v (.bool b)) (hg:GW dst E o):
  Step C dst pr ms (o,md) E s (E.fD o.dst (E.src C (if b then y else z))) s:=by
 refine .act hg (nP.abi pr ms _ (Env.LM C E _) (λhE r v n h=>Env.Fk C hE h)) (DJ.pure (N0 md E) _ (Env.LM C E _) λψ Q a w p=>⟨a.eval (if b then y else z),w,?_,.refl w,p.src ?_⟩)
 .have:=p.val (x:= .tmp r) (by simp[Op.operands,ho]) (d:= .bool b) (by rw[Env.src,hb])
  generalize hv:a.eval (.tmp r)=v at this;cases this;cases b<;>simp[execOp,ho,hv,asBool]
 .cases b<;>simp[Op.operands,ho]
structure Mod (un:Nat->Prop) (E E':Env):Prop where
 get: ∀u,un u->E'.get u=E.get u
 bS:E.bS<=E'.bS
 yc: ∀t v n cs,E'.get t= .loc v n cs->(∃nY,E.get t= .loc v n nY)\/E.bS<=v
 zW: ∀t v l p,E'.get t= .it v l p->(∃p0,E.get t= .it v l p0)\/E.bS<=v
theorem Mod.refl (un:Nat->Prop) (E:Env):Mod un E E:=⟨λ_ _=>rfl,aJ _,λ_ _ _ cs h=> .inl ⟨cs,h⟩,λ_ _ _ p h=> .inl ⟨p,h⟩⟩
theorem Mod.trans {un:Nat->Prop} (h:Mod un E E') (k:Mod LQ E' H8) (h1: ∀u,abL u->un u) (h2: ∀u,abL u->LQ u):Mod abL E H8:=by
 refine⟨λu hu=>by rw[k.get u (h2 u hu),h.get u (h1 u hu)],ij h.bS k.bS,λt v n cs e=>?_,λt v l p e=>?_⟩
 .rcases k.yc t v n cs e with⟨c,e⟩|e
  .exact h.yc t v n c e
  .exact .inr (ij h.bS e)
 .rcases k.zW t v l p e with⟨c,e⟩|e
  .exact h.zW t v l c e
  .exact .inr (ij h.bS e)
def Mz (ms:al) (l:List (Oper×Md)) (u:Nat):Prop:=(∀p∈l,p.1.dst≠some u)/\has ms u=false
def aeY (P:Program) (pr:al) (ops:List Oper) (p:Oper×Md):Prop:=p.2= .s\/∃x k m,p.2= .d (wS pr ops k m (cls P pr ops p.1)) x
theorem ZrI (hC:qd C) (hc:ZW C c) {ops:List Oper} : ∀(n:Nat) (l:List (Oper×Md)) (act:List (Nat×Bool)) (E:Env) (K:Env->M Y) (s:St),
  uW C pr ms c dst n l act E K s=some r->(∀p∈l,aeY C.P pr ops p)->
  (∀g∈act,(∃q,dst g.1=some q/\E.get q= .v (.bool g.2)/\∀p∈l,p.1.dst≠some q)/\∀p∈l,¬Spec pr p.1)->
  (∃E' s',Tr C dst pr ms l E s E' s'/\K E' s'=some r/\((∀p∈l,¬Spec pr p.1)->E'.bS=E.bS/\∀u,(∀p∈l,p.1.dst≠some u)->E'.get u=E.get u)/\Mod (Mz ms l) E E')\/
  (∃s',r=(.fH,s')/\pE C dst pr ms l E s s'):=by
 intro n;induction n with
 |zero=>
  intro l act E K s h mm CG;cases l with
  |nil=>exact .inl ⟨E,s,.nil E s,h,λ_=>⟨rfl,λ_ _=>rfl⟩,.refl _ _⟩
  |cons p l=>cases h
 |succ n ih=>
  intro l act E K s h mm CG;cases l with
  |nil=>exact .inl ⟨E,s,.nil E s,h,λ_=>⟨rfl,λ_ _=>rfl⟩,.refl _ _⟩
  |cons p rest=>
   have⟨o,md⟩:=p;simp only[uW]at h;have gw: ∀ {E:Env} {o':Oper},(∀g∈act,∃q,dst g.1=some q/\E.get q= .v (.bool g.2))->OR act o'.guard=true->GW dst E o':=by
    intro E o' ha hg;cases Hn:o'.guard
    .exact .inl Hn
    .rename_i g;rw[Hn]at hg;have⟨q,h1,h2⟩:=ha g (ZtQ hg);exact .inr ⟨g.1,g.2,q,Hn,h1,h2⟩
   cases hg:OR act o.guard
   .rw[hg]at h;simp only[af]at h;cases Hn:o.guard
    .rw[Hn]at h;cases h
    .rename_i g;have⟨j,w⟩:=g;rw[Hn]at h;simp only at h;cases hj:dst j
     .rw[hj]at h;cases h
     .rename_i q;rw[hj]at h;simp only at h;cases hq:E.get q with
      |v d=>
       cases d with
       |bool b=>
        rw[hq]at h;cases Ew:D5 q [] ((o,md)::rest)
        .rw[Ew]at h;cases h
        .rename_i x;have⟨fb,pk,p8⟩:=x;rw[Ew]at h;simp only at h;have⟨uj,y,z,hl,jS⟩:=Zms Ew;simp only[List.reverse_nil,gR]at hl;rw[jS]at h;cases C3:pk.dst
         .rw[C3]at h;cases h
         .rename_i t;rw[C3]at h;simp only at h;have⟨fG,h⟩:=Zq h;rw[aS]at fG;have⟨PC,adC⟩:=fG;have zi:=MV adC;rw[hl];rw[hl]at mm CG;have after: ∀(E1:Env) (s1:St) (v:Bool),Tr C dst pr ms (fb++[(pk,uj)]) E s ((E.del (il fb)).put t (.v (.bool v))) s1->
            uW C pr ms c dst n p8 act ((E.del (il fb)).put t (.v (.bool v))) K s1=some r->
            (∃E' s',Tr C dst pr ms (fb++(pk,uj)::p8) E s E' s'/\K E' s'=some r/\((∀p∈fb++(pk,uj)::p8,¬Spec pr p.1)->E'.bS=E.bS/\∀u,(∀p∈fb++(pk,uj)::p8,p.1.dst≠some u)->E'.get u=E.get u)/\Mod (Mz ms (fb++(pk,uj)::p8)) E E')\/
            (∃s',r=(.fH,s')/\pE C dst pr ms (fb++(pk,uj)::p8) E s s'):=by
           intro E1 s1 v ht hr;have e:fb++(pk,uj)::p8=(fb++[(pk,uj)])++p8:=Do
           have get: ∀u,(∀p∈fb++(pk,uj)::p8,p.1.dst≠some u)->((E.del (il fb)).put t (.v (.bool v))).get u=E.get u:=by
            intro u hu;rw[Env.tT,aY (λe=>hu (pk,uj) Do (by rw[C3,e])),Az];have:has (il fb) u=false:=by
             cases hh:has (il fb) u
             .rfl
             .have⟨p,hp,hd⟩:=Gi.1 hh;exact absurd hd (hu p (by simp[hp]))
            rw[this];rfl
           rcases ih p8 act _ K s1 hr (λp hp=>mm p (by simp[hp])) (λg hm=>by
            have⟨⟨q',h1,h2,h3⟩,h4⟩:=CG g hm;exact⟨⟨q',h1,by rw[get q' h3];exact h2,λp hp=>h3 p (by simp[hp])⟩,λp hp=>h4 p (by simp[hp])⟩)with⟨E2,s2,t2,jR,hn,Y6⟩|⟨s2,e2,t2⟩
           .refine .inl ⟨E2,s2,by rw[e];exact ht.append t2,jR,λhs=>?_,?_⟩
            rotate_left
            .have m1:Mod (λu=>∀p∈fb++(pk,uj)::p8,p.1.dst≠some u) E ((E.del (il fb)).put t (.v (.bool v))):=by
              refine⟨get,aJ _,λu v' n' cs e=>?_,λu v' l' p e=>?_⟩<;>rw[Env.tT,Az]at e<;>split at e
              .cases e
              .split at e
               .cases e
               .exact .inl ⟨cs,e⟩
              .cases e
              .split at e
               .cases e
               .exact .inl ⟨p,e⟩
             exact m1.trans Y6 (λu hu=>hu.1) (λu hu=>⟨λp hp=>hu.1 p (by simp[hp]),hu.2⟩)
            have⟨n1,n2⟩:=hn λp hp=>hs p (by simp[hp])
            exact⟨by rw[n1];rfl,λu hu=>by rw[n2 u λp hp=>hu p (by simp[hp]),get u hu]⟩
           .exact .inr ⟨s2,e2,by rw[e];exact ht.fH t2⟩
          have nd: ∀u,(∀p∈fb++(pk,uj)::p8,p.1.dst≠some u)->has (il fb) u=false:=by
           intro u hu;cases hh:has (il fb) u
           .rfl
           .have⟨p,hp,hd⟩:=Gi.1 hh;exact absurd hd (hu p (by simp[hp]))
          have nq:has (il fb) q=false:=by
           cases hh:has (il fb) q
           .rfl
           .have⟨p,hp,hd⟩:=Gi.1 hh;exact absurd hd (zi p hp).2
          have jk: ∀(d:DV) (s1:St),(lF [d] λd st=>uZ d λv=>aF st (uW C pr ms c dst n p8 act ((E.del (il fb)).put t (.v (.bool v))) K)) s1=some r->
            ∃v,d= .bool v/\uW C pr ms c dst n p8 act ((E.del (il fb)).put t (.v (.bool v))) K s1=some r:=by
           intro d s1 h;cases d with
           |bool v=>exact⟨v,rfl,h⟩
           |_=>cases h
          have aeu: ∀(v:Bool) u,((E.del (il fb)).put t (.v (.bool v))).get u=if t=u then .v (.bool v)else if has (il fb) u then .u else E.get u:=λv u=>by rw[Env.tT,Az]
          simp only[Ov]at h;by_cases wv:b=w
          ·
           subst wv;have h':uW C pr ms c dst n fb ((j,b)::act) (E.put q (.v (.bool b))) (λE1=>fO C E1 (bif b then y else z) λd=>lF [d] λd st=>uZ d λv=>aF st (uW C pr ms c dst n p8 act ((E.del (il fb)).put t (.v (.bool v))) K)) s=some r:=by
            cases b<;>exact h
           have LC: ∀u,(E.put q (.v (.bool b))).get u=E.get u:=λu=>by
            rw[Env.tT];split
            .rename_i e;subst e;exact hq.symm
            .rfl
           have cL:nQ E (E.put q (.v (.bool b))):=⟨rfl,λu=> .inl (LC u)⟩;rcases ih fb ((j,b)::act) _ _ s h' (λp hp=>mm p (by simp[hp])) (λg hm=>by
            refine⟨?_,λp hp=>(zi p hp).1⟩;rcases ep.1 hm with rfl|hm
            .exact⟨q,hj,by rw[LC];exact hq,λp hp=>(zi p hp).2⟩
            .have⟨⟨q',h1,h2,h3⟩,_⟩:=CG g hm
             exact⟨q',h1,by rw[LC];exact h2,λp hp=>h3 p (by simp[hp])⟩)with⟨E1,s1,t1,kW,ub,_⟩|⟨s1,e1,t1⟩
           .have⟨n1,n2⟩:=ub λp hp=>(zi p hp).1
            have⟨d,hd,kW⟩:=Zy kW;obtain⟨v,rfl,kW⟩:=jk d s1 kW;have KO:E1.get q= .v (.bool b):=by rw[n2 q λp hp=>(zi p hp).2,LC];exact hq
            have acD: ∀u,has (il fb) u=false->E1.get u=E.get u:=λu hu=>by
             rw[n2 u (λp hp hd=>by rw[Gi.2 ⟨p,hp,hd⟩]at hu;cases hu),LC]
            have cq:=ZrD (C:=C) (pr:=pr) (ms:=ms) (md:=uj) (s:=s1) jS KO (gw (E:=E1) (λg hm=>by
             have⟨⟨q',h1,h2,h3⟩,_⟩:=CG g hm;exact⟨q',h1,by rw[acD q' (nd q' h3)];exact h2⟩) PC)
            have aaD:E1.src C (if b then y else z)= .v (.bool v):=by cases b<;>exact hd
            rw[aaD,C3]at cq;have gB:nQ (E1.fD (some t) (.v (.bool v))) ((E.del (il fb)).put t (.v (.bool v))):=by
             refine⟨by rw[Env.HM,n1];rfl,λu=>?_⟩;rw[aeu,Env.lH];by_cases e:t=u
             .subst e;simp
             .rw[aY e,aY (λh=>e (DB h))]
              cases hu:has (il fb) u
              .exact .inl (acD u hu).symm
              .exact .inr rfl
            exact after E1 s1 v (.jv cL (t1.append (.cons cq (.jv gB (.nil _ _))))) kW
           .exact .inr ⟨s1,e1,.jv cL (t1.left _)⟩
          ·
           have h':fO C ((E.del (il fb)).put q (.v (.bool !w))) (bif w then z else y) (λd=>lF [d] λd st=>uZ d λv=>aF st (uW C pr ms c dst n p8 act ((E.del (il fb)).put t (.v (.bool v))) K)) s=some r:=by
            cases w<;>cases b<;>first|exact h|exact absurd rfl wv
           have⟨d,hd,kW⟩:=Zy h';obtain⟨v,rfl,kW⟩:=jk d s kW;have⟨E1,t1,t2,t3⟩:=Wv (C:=C) (pr:=pr) (ms:=ms) hj wv (s:=s) adC hq (λd h=>by cases h);have KO:E1.get q= .v (.bool b):=by rw[t3 q nq];exact hq
           have cq:=ZrD (C:=C) (pr:=pr) (ms:=ms) (md:=uj) (s:=s) jS KO (gw (E:=E1) (λg hm=>by
            have⟨⟨q',h1,h2,h3⟩,_⟩:=CG g hm;exact⟨q',h1,by rw[t3 q' (nd q' h3)];exact h2⟩) PC)
           have acT:b= !w:=by cases w<;>cases b<;>first|rfl|exact absurd rfl wv
           have aaD:E1.src C (if b then y else z)= .v (.bool v):=by
            have hx:(if b then y else z)=(bif w then z else y):=by subst acT;cases w<;>rfl
            rw[hx,<-hd];generalize (bif w then z else y)=x at hd;cases x with
            |tmp u=>
             have hg:E1.get u=((E.del (il fb)).put q (.v (.bool !w))).get u:=by
              rw[Env.tT,Az];by_cases e:q=u
              .subst e;rw[bx rfl,KO,acT]
              .rw[aY e]
               cases hu:has (il fb) u
               .exact t3 u hu
               .simp only[Env.src,Env.tT,Az,aY e,hu,nM]at hd;cases hd
             simp only[Env.src,hg]
            |_=>rfl
           rw[aaD,C3]at cq;have gB:nQ (E1.fD (some t) (.v (.bool v))) ((E.del (il fb)).put t (.v (.bool v))):=by
            refine⟨by rw[Env.HM,t2];rfl,λu=>?_⟩;rw[aeu,Env.lH];by_cases e:t=u
            .subst e;simp
            .rw[aY e,aY (λh=>e (DB h))]
             cases hu:has (il fb) u
             .exact .inl (t3 u hu).symm
             .exact .inr rfl
           exact after E1 s v (t1.append (.cons cq (.jv gB (.nil _ _)))) kW
       |_=>rw[hq]at h;cases h
      |_=>rw[hq]at h;cases h
   .rw[hg]at h;simp only[ae]at h;have sA:=gw (E:=E) (λg hm=>let ⟨⟨q,h1,h2,_⟩,_⟩:=CG g hm;⟨q,h1,h2⟩) hg;rcases Wq hC hc (mm (o,md) Do) h with⟨E1,s1,hk,hF,hO⟩|⟨hx,s',rfl,hp⟩
    .have eH:Step C dst pr ms (o,md) E s E1 s1:= .act sA hF hO
     have kE: ¬Spec pr o->E1.bS=E.bS/\∀u,o.dst≠some u->E1.get u=E.get u:=by
      intro hs;rcases hF.plain with⟨e,_,rfl⟩|h
      .exact⟨Do,λu hu=>by rw[Env.lH,aY hu]⟩
      .exact absurd h hs
     rcases ih rest act E1 K s1 hk (λp hp=>mm p (by simp[hp])) (λg hm=>by
      have⟨⟨q,h1,h2,h3⟩,h4⟩:=CG g hm;exact⟨⟨q,h1,by rw[(kE (h4 (o,md) Do)).2 q (h3 (o,md) Do)];exact h2,λp hp=>h3 p (by simp[hp])⟩,λp hp=>h4 p (by simp[hp])⟩)with⟨E2,s2,t,jR,hn,Y6⟩|⟨s2,e,t⟩
     .refine .inl ⟨E2,s2,.cons eH t,jR,λhs=>?_,?_⟩
      rotate_left
      .have m1:Mod (λu=>o.dst≠some u/\has ms u=false) E E1:=⟨λu hu=>hF.other u hu.1 hu.2,hF.bS,λt v n cs h=>(hF.yc t v n cs h).imp id And.left,λt v l p h=>(hF.zW t v l p h).imp id And.left⟩
       exact m1.trans Y6 (λu hu=>⟨hu.1 (o,md) Do,hu.2⟩) (λu hu=>⟨λp hp=>hu.1 p (by simp[hp]),hu.2⟩)
      have⟨k1,k2⟩:=kE (hs (o,md) Do);have⟨n1,n2⟩:=hn λp hp=>hs p (by simp[hp])
      exact⟨by rw[n1,k1],λu hu=>by rw[n2 u λp hp=>hu p (by simp[hp]),k2 u (hu (o,md) Do)]⟩
     .exact .inr ⟨s2,e,.next eH t⟩
    .exact .inr ⟨s',rfl,.here sA hx hp⟩
end
structure Fr where
 N:Nat
 nt:Nat
 jh:Ps
 s0:St
 w0:World
 ok:Nat->Bool
 Ly: ∀x,ok x=true->x<nt
 kv:Nat->Value
 XK:List Deferred
def Ks (f:Fr) (a:Act):Prop:=a.tmps.size=f.nt/\∀t,f.ok t=false->a.tmps.getD t undef=f.kv t
structure Rel (C:bE) (f:Fr) (ψ:Ps) (E:Env) (s:St) (a:Act) (w:World):Prop where
 fp:fI C ψ (CR E s) w
 iw:jV E
 gU:tq ψ w
 mj:Glob C ψ
 kH: ∀t,gh C ψ (E.get t) (a.tmps.getD t undef)
 oZ:Ks f a
 defs:a.defers=f.XK
 uy: ∀i,s.length<=i->i<f.N->ψ (.inl i)=none
 wT: ∀v,E.bS<=v->ψ (.inr v)=none
 ext:Ext f.jh (CS f.s0) f.w0 ψ (CR E s) w
 news: ∀i cb,ψ (.inl i)=some cb->f.jh (.inl i)=some cb\/(f.s0.length<=i/\i<s.length)
 len:f.s0.length<=s.length
 fin: ∀v,f.jh (.inr v)=none
section
variable {C:bE} {f:Fr} {ψ ψ':Ps} {E E':Env} {s s':St} {a:Act} {w w':World} {Q':Kn} {o:Oper} {D W:dN->Prop} {pr ms:al}
theorem jV.jv (h:jV E) (k:nQ E E'):jV E':=by
 have g: ∀t x,E'.get t=x->x≠ .u->E.get t=x:=λt x e hx=>by
  rcases k.get t with h|h
  .rw[<-h];exact e
  grind
 constructor
 .intro t v hv
  rw[k.bS];rcases k.get t with e|e
  .rw[e]at hv;exact h.lt t v hv
  .rw[e]at hv;cases hv
 .intro t r v n e
  rw[k.bS];exact h.pl t r v n (g t _ e Do)
 .intro t v n cs e
  exact h.len t v n cs (g t _ e Do)
 .intro t t' v hv fm
  rcases k.get t with e|e
  .rcases k.get t' with e'|e'
   .rw[e]at hv;rw[e']at fm;exact h.uniq t t' v hv fm
   .rw[e']at fm;cases fm
  .rw[e]at hv;cases hv
theorem CR.jv (k:nQ E E') {h:dN} {ab:AB} (c:CR E' s h ab):CR E s h ab:=by
 have g: ∀t x,E'.get t=x->x≠ .u->E.get t=x:=λt x e hx=>by
  rcases k.get t with h|h
  .rw[<-h];exact e
  grind
 cases h with
 |inl i=>exact c
 |inr v=>
  rcases c with⟨t,n,cs,e,fL⟩|⟨t,l,p,e,fL⟩
  .exact .inl Fd
  .exact .inr Fd
theorem Rel.jv (R:Rel C f ψ E s a w) (k:nQ E E'):Rel C f ψ E' s a w where
 fp:=R.fp.weaken λ_ _ _ _ c=>c.jv k
 iw:=R.iw.jv k
 gU:=R.gU
 mj:=R.mj
 kH:=λt=>by
  rcases k.get t with e|e
  .rw[e];exact R.kH t
  .rw[e];exact trivial
 oZ:=R.oZ
 defs:=R.defs
 uy:=R.uy
 wT:=λv hv=>R.wT v (by rw[<-k.bS];exact hv)
 ext:=R.ext.weaken λ_ _ _ _ c=>c.jv k
 news:=R.news
 len:=R.len
 fin:=R.fin
theorem SA (a:Act) (d:Option Nat) (v:Value):(a.put d v).tmps.size=a.tmps.size:=by cases d<;>simp[Act.put]
theorem M9 (a:Act) (d:Option Nat) (v:Value):(a.put d v).defers=a.defers:=by cases d<;>rfl
theorem Jq {a:Act} {d:Option Nat} (hd: ∀x,d=some x->x<a.tmps.size):(a.put d v).tmps.getD t undef=if d=some t then v else a.tmps.getD t undef:=by
 cases d with
 |none=>simp[Act.put]
 |some x=>
  simp only[Act.put,gf,tg];by_cases e:x=t
  .grind
  grind
theorem Ks.put (h:Ks f a) {d:Option Nat} {v:Value} (hd: ∀x,d=some x->f.ok x=true):Ks f (a.put d v):=by
 refine⟨by rw[SA];exact h.1,λt ht=>?_⟩;rw[Jq λx hx=>by rw[h.1];exact f.Ly x (hd x hx),aY λe=>by rw[hd t e]at ht;cases ht];exact h.2 t ht
theorem Rel.room (R:Rel C f ψ E s a w) (hN:s'.length<=f.N):Mx E s E' s' ψ:=by
 rintro h ⟨n1,n2⟩;cases h with
 |inl i=>exact R.uy i (BH.1 n1) (mE n2 hN)
 |inr v=>exact R.wT v (BH.1 n1)
theorem Rel.pre (R:Rel C f ψ E s a w):aB C o D E s ψ (CR E s) a w:=⟨R.fp,R.gU,R.mj,R.iw,λ_ _ _ _ c _=>c,λt _=>R.kH t⟩
theorem Rel.step (R:Rel C f ψ E s a w) (hF:nP W pr ms o E s E' s') (hP:Mu C D W E s E' s' ψ (CR E s) w ψ' Q' w') (he: ∀d,o.dst=some d->gh C ψ' (E'.get d) v) (hd: ∀x,o.dst=some x->f.ok x=true):
  Rel C f ψ' E' s' (a.put o.dst v) w':=by
 have known: ∀h ab cb,ψ' h=some cb->CR E' s' h ab->Q' h ab:=by
  intro h ab cb e c;by_cases hw:W h\/yj E s E' s' h
  .exact hP.p1 h ab cb c hw e
  .have c':CR E s h ab:=by
    rcases hF.back h ab c with x|x|x
    .grind
    .grind
    .exact x
   rcases hP.news h cb e with e|e
   .exact hP.p2 h ab cb e c' (λx=>hw (.inl x)) (λ_ _=>c')
   grind
 refine⟨hP.fp.weaken known,hF.iw R.iw,hP.ext.gU R.gU,hP.ext.mj R.mj,λt=>?_,R.oZ.put hd,by rw[M9];exact R.defs,λi h1 h2=>?_,λv h1=>?_,R.ext.trans (hP.ext.weaken known),λi cb e=>?_,ij R.len hF.len,R.fin⟩
 .rw[Jq λx hx=>by rw[R.oZ.1];exact f.Ly x (hd x hx)]
  by_cases e:o.dst=some t
  .rw[bx e];exact he t e
  .rw[aY e];exact(hF.br t e C ψ _ (R.kH t)).mono hP.ext.mono
 .cases e:ψ' (.inl i)
  .rfl
  .rename_i cb;rcases hP.news _ cb e with e|⟨_,e⟩
   .rw[R.uy i (ij hF.len h1) h2]at e;cases e
   .simp only[eF]at e;omega
 .cases e:ψ' (.inr v)
  .rfl
  .rename_i cb;rcases hP.news _ cb e with e|⟨_,e⟩
   .rw[R.wT v (ij hF.bS h1)]at e;cases e
   .simp only[eF]at e;omega
 .rcases hP.news _ cb e with e|⟨n1,n2⟩
  .rcases R.news i cb e with h|⟨h1,h2⟩
   .exact .inl h
   .exact .inr ⟨h1,mE h2 hF.len⟩
  .exact .inr ⟨ij R.len (BH.1 n1),n2⟩
structure tA (C:bE) (f:Fr) (s:St) (a:Act) (w:World):Prop where
 defs:a.defers=f.XK
 ks:Ks f a
 post: ∃ψ',kh C f.jh f.s0 f.w0 ψ' s w
theorem Zwn (b:Bool):undef≠Value.bool b:=by unfold undef;simp
theorem NR (a:Act) (r:Nat) (b:Bool) (h:a.tmps.getD r undef= .bool b):a.tmps[r]? =some (.bool b):=by
 rw[tg]at h;cases e:a.tmps[r]?
 .rw[e]at h;exact absurd h (Zwn b)
 .rename_i v;rw[e]at h;grind
def oE (ops:Array Oper) (j:Nat):Option Nat:=match ops.toList[j]? with|some o=>o.dst|none=>none
theorem NO (ops:Array Oper) (j:Nat):oE ops j=(ops[j]?).bind (·.dst):=by
 grind[oE]
theorem Vb (R: ∀t,gh C ψ (E.get t) (a.tmps.getD t undef)) (h:GW (oE ops) E o):Region.wanted o (yielded ops a.tmps)=true:=by
 unfold Region.wanted;rcases h with h|⟨j,w,r,h1,h2,h3⟩
 .rw[h]
 .rw[h1]
  rw[NO]at h2;have hr:=R r;rw[h3]at hr;have:a.tmps.getD r undef= .bool w:=by generalize a.tmps.getD r undef=x at hr;cases hr;rfl
  simp[yielded,h2,NR a r w this]
theorem ZnM (R: ∀t,gh C ψ (E.get t) (a.tmps.getD t undef)) (h:GU (oE ops) E o):Region.wanted o (yielded ops a.tmps)=false:=by
 unfold Region.wanted;have⟨j,w,r,h1,h2,h3⟩:=h;rw[h1];rw[NO]at h2;have hr:=R r;rcases h3 with⟨b,h3,hb⟩|h3
 .rw[h3]at hr
  have:a.tmps.getD r undef= .bool b:=by generalize a.tmps.getD r undef=x at hr;cases hr;rfl
  simp[yielded,h2,NR a r b this,hb]
 .rw[h3]at hr
  have hr:a.tmps.getD r undef=undef:=hr;have:a.tmps[r]? =none\/a.tmps[r]? =some undef:=by
   rw[tg]at hr;grind
  have hy:yielded ops a.tmps j=none:=by
   unfold yielded;rw[h2];rcases this with e|e<;>simp[e,undef]
  simp[hy]
theorem Rel.undef (R:Rel C f ψ E s a w) (hd: ∀x,o.dst=some x->f.ok x=true):Rel C f ψ (E.fD o.dst .un) s (a.put o.dst Go.undef) w:=by
 have y9: ∀h ab,CR (E.fD o.dst .un) s h ab->CR E s h ab:=λh ab c=>c.fD rfl
 refine⟨R.fp.weaken λ_ _ _ _ c=>y9 _ _ c,R.iw.fD rfl (λ_ _ _ h=>by cases h),R.gU,R.mj,λt=>?_,R.oZ.put hd,by rw[M9];exact R.defs,R.uy,λv hv=>R.wT v (by simpa using hv),R.ext.weaken λ_ _ _ _ c=>y9 _ _ c,R.news,R.len,R.fin⟩;rw[Jq λx hx=>by rw[R.oZ.1];exact f.Ly x (hd x hx),Env.lH];by_cases e:o.dst=some t
 .rw[bx e,bx e];rfl
 .rw[aY e,aY e];exact R.kH t
theorem AH (CQ: ∀v,f.jh (.inr v)=none) (Bg:fI C ψ' Q' w') (wy:Ext f.jh (CS f.s0) f.w0 ψ' Q' w')
  (hk: ∀i ab cb,dA s' i=some ab->ψ' (.inl i)=some cb->Q' (.inl i) ab) (al1: ∀i cb,ψ' (.inl i)=some cb->f.jh (.inl i)=some cb\/(f.s0.length<=i/\i<s'.length)):
  kh C f.jh f.s0 f.w0 (oO ψ') s' w':=by
 have Qq: ∀b,vP (oO ψ') (CS s') b->vP ψ' Q' b:=by
  rintro b ⟨k,cb,ab,e,⟨i,rfl,q⟩,hs,hb⟩;exact⟨.inl i,cb,ab,e,hk i ab cb q e,hs,hb⟩
 refine⟨ZtC Bg hk,⟨λh cb e=>?_,λh cb e=>wy.uu h cb (Gj e).1,wy.size,wy.kE,λb hb=>wy.iC b (Qq b hb),λh cb x e q=>?_,wy.tape,wy.os,wy.output⟩,λh cb e=>?_⟩
 .cases h with
  |inl i=>exact wy.mono _ _ e
  |inr v=>rw[CQ]at e;cases e
 .obtain⟨i,rfl,q⟩:=q
  exact wy.live (.inl i) cb x e (hk i x cb q (wy.mono _ _ e))
 .obtain⟨e,i,rfl⟩:=Gj e
  grind
theorem Rel.AH (R:Rel C f ψ E s a w):kh C f.jh f.s0 f.w0 (oO ψ) s w:=
 Go.Gv.AH R.fin R.fp R.ext (λ_ _ _ h _=>h) R.news
theorem Tr.len {dst:Nat->Option Nat} {l:List (Oper×Md)} (h:Tr C dst pr ms l E s E' s'):s.length<=s'.length:=by
 induction h with
 |nil=>exact aJ _
 |jv _ _ ih=>exact ih
 |cons st _ ih=>
  refine ij ?_ ih;cases st with
  |act _ hF _=>exact hF.len
  |skip _=>exact aJ _
theorem pE.len {dst:Nat->Option Nat} {l:List (Oper×Md)} (h:pE C dst pr ms l E s s'):s.length<=s'.length:=by
 induction h with
 |jv _ _ ih=>exact ih
 |here _ _ hp=>exact hp.1
 |next st _ ih=>
  refine ij ?_ ih;cases st with
  |act _ hF _=>exact hF.len
  |skip _=>exact aJ _
theorem Rel.aek (R:Rel C f ψ E s a w) (hN:s'.length<=f.N) (hp:yk C o D E s s') {next:Act->World->Prop} (h: ∀ch a' w',qf ch->tA C f s' a' w'->QQ (.panic ch) a' w'):o.wp C.P a w next QQ:=by
 refine hp.2 ψ (CR E s) a w next QQ R.pre (R.room hN) λψ' Q' ch w' h0 h1 h2 h3 h4=>h ch a w' h0 ⟨R.defs,R.oZ,_,Go.Gv.AH (s':=s') R.fin h1 (R.ext.trans h2) h4 λi cb e=>?_⟩
 rcases h3 _ cb e with e|⟨n1,n2⟩
 .rcases R.news i cb e with h|⟨h1,h2⟩
  .exact .inl h
  .exact .inr ⟨h1,mE h2 hp.1⟩
 .exact .inr ⟨ij R.len (BH.1 n1),n2⟩
theorem Zzv (t:Tr C (oE ops) pr ms l E s E2 s2): ∀ {i:Nat} {a:Act} {w:World} {ψ:Ps},Rel C f ψ E s a w->s2.length<=f.N->
  (∀p∈l,∀x,p.1.dst=some x->f.ok x=true)->(∀k p,l[k]? =some p->ops[i+k]? =some p.1)->(∀ψ' a' w',Rel C f ψ' E2 s2 a' w'->QQ .normal a' w')->wpOps C.P ops QQ (List.range' i l.length) a w:=by
 induction t with
 |nil=>intro i a w ψ R _ _ _ h;exact h ψ a w R
 |jv k _ ih=>intro i a w ψ R hN hd hi h;exact ih (R.jv k) hN hd hi h
 |cons st t ih=>
  rename_i p l E s E1 s1 E2 s2;intro i a w ψ R hN hd hi h;have wB:=hi 0 p rfl;simp only[fE]at wB;have rest: ∀ {ji a1 w1},Rel C f ji E1 s1 a1 w1->wpOps C.P ops QQ (List.range' (i+1) l.length) a1 w1:=λR1=>
   ih R1 hN Fd (λk q hk=>by have:=hi (k+1) q (by simpa using hk);rwa [show i+(k+1)=i+1+k by omega]at this) h
  simp only[cQ,H0,wpOps,wB];cases st with
  |act hg hF hO=>
   rw[bx (Vb R.kH hg)];exact .inl (hO ψ (CR E s) a w _ QQ R.pre (R.room (ij t.len hN)) λψ' Q' v w' hP he=>rest (R.step hF hP he (hd p Do)))
  |skip hg=>
   rw[aY (by rw[ZnM R.kH hg];simp)];exact rest (R.undef (hd p Do))
theorem ZwY (t:pE C (oE ops) pr ms l E s s2): ∀ {i:Nat} {a:Act} {w:World} {ψ:Ps},Rel C f ψ E s a w->s2.length<=f.N->
  (∀p∈l,∀x,p.1.dst=some x->f.ok x=true)->(∀k p,l[k]? =some p->ops[i+k]? =some p.1)->(∀ch a' w',qf ch->tA C f s2 a' w'->QQ (.panic ch) a' w')->wpOps C.P ops QQ (List.range' i l.length) a w:=by
 induction t with
 |jv k _ ih=>intro i a w ψ R hN hd hi h;exact ih (R.jv k) hN hd hi h
 |here hg hx hp=>
  rename_i p l E s s2;intro i a w ψ R hN hd hi h;have wB:=hi 0 p rfl;simp only[fE]at wB;simp only[cQ,H0,wpOps,wB];rw[bx (Vb R.kH hg)];exact .inl (R.aek hN hp h)
 |next st t ih=>
  rename_i p l E s E1 s1 s2;intro i a w ψ R hN hd hi h;have wB:=hi 0 p rfl;simp only[fE]at wB;have rest: ∀ {ji a1 w1},Rel C f ji E1 s1 a1 w1->wpOps C.P ops QQ (List.range' (i+1) l.length) a1 w1:=λR1=>
   ih R1 hN Fd (λk q hk=>by have:=hi (k+1) q (by simpa using hk);rwa [show i+(k+1)=i+1+k by omega]at this) h
  simp only[cQ,H0,wpOps,wB];cases st with
  |act hg hF hO=>
   rw[bx (Vb R.kH hg)];exact .inl (hO ψ (CR E s) a w _ QQ R.pre (R.room (ij t.len hN)) λψ' Q' v w' hP he=>rest (R.step hF hP he (hd p Do)))
  |skip hg=>
   rw[aY (by rw[ZnM R.kH hg];simp)];exact rest (R.undef (hd p Do))
end
theorem nQ.refl (E:Env):nQ E E:=⟨rfl,λ_=> .inl rfl⟩
theorem nQ.trans {E E' H8:Env} (h:nQ E E') (k:nQ E' H8):nQ E H8:=by
 refine⟨k.bS.trans h.bS,λt=>?_⟩;rcases k.get t with e|e
 .rcases h.get t with e'|e'
  .exact .inl (e.trans e')
  grind
 .exact .inr e
section
variable {C:bE} {dst:Nat->Option Nat} {pr ms:al}
theorem Tr.fn (h:Tr C dst pr ms l E s E2 s2):
  ∃(A B:Nat->Env) (ss:Nat->St),A 0=E/\ss 0=s/\ss l.length=s2/\nQ (A l.length) E2/\
   ∀k p,l[k]? =some p->nQ (A k) (B k)/\Step C dst pr ms p (B k) (ss k) (A (k+1)) (ss (k+1)):=by
 induction h with
 |nil E s=>exact⟨λ_=>E,λ_=>E,λ_=>s,rfl,rfl,rfl,.refl E,λk p h=>by simp at h⟩
 | @jv l E E1 s E2 s2 k _ ih=>
  have⟨A,B,ss,h1,h2,h3,h4,h5⟩:=ih;cases l with
  |nil=>
   refine⟨λ_=>E,B,ss,rfl,h2,h3,?_,λk p h=>by simp at h⟩;simp only[Aa]at h4;rw[h1]at h4;exact k.trans h4
  |cons p l=>
   refine⟨λi=>if i=0 then E else A i,B,ss,rfl,h2,h3,by simpa using h4,λi q hq=>?_⟩;have⟨a,b⟩:=h5 i q hq;refine⟨?_,by simpa using b⟩;by_cases hi:i=0
   .subst hi
    simp only[nM];rw[h1]at a;exact k.trans a
   grind
 | @cons p l E s E1 s1 E2 s2 st _ ih=>
  have⟨A,B,ss,h1,h2,h3,h4,h5⟩:=ih;refine⟨λi=>match i with|0=>E|i+1=>A i,λi=>match i with|0=>E|i+1=>B i,λi=>match i with|0=>s|i+1=>ss i,rfl,rfl,h3,h4,λi q hq=>?_⟩;cases i with
  |zero=>
   simp only[ly,gf]at hq;subst hq;refine⟨.refl E,?_⟩;grind
  |succ i=>grind
end
theorem Zy6 (h:(GK o acc).testBit j=true): ∃e∈o.after,Region.binds .any e=true/\(j=e.on\/(acc.getD e.on 0).testBit j=true):=by
 unfold GK at h;have key: ∀(l:List Edge) (m:Nat),(l.foldl (λm e=>bif Region.binds .any e then m|||2^e.on|||acc.getD e.on 0 else m) m).testBit j=true->
   m.testBit j=true\/∃e∈l,Region.binds .any e=true/\(j=e.on\/(acc.getD e.on 0).testBit j=true):=by
  intro l;induction l with
  |nil=>exact λm h=> .inl h
  |cons e l ih=>
   grind
 grind
theorem VZ (P:Program) (pr:al) (ops:List Oper): ∀(r:List Oper) (acc:al) (k:Nat) (p:gS),(sV P pr ops r acc)[k]? =some p->
  ∃o,r[k]? =some o/\p.bf=GK o (acc++((sV P pr ops r acc).take k).map (·.bf))/\p.k=wS pr ops (acc.length+k) p.bf (cls P pr ops o)/\p.dst=o.dst/\p.lk=sS pr ops o
 |[],acc,k,p,h=>by simp[sV]at h
 |o::r,acc,0,p,h=>by
  grind[sV,ly,gf]
 |o::r,acc,k+1,p,h=>by
  simp only[sV,rO]at h;have⟨o',h1,h2,h3,h4⟩:=VZ P pr ops r _ k p h;refine⟨o',by simpa using h1,?_,?_,h4⟩
  .rw[h2]
   simp[sV]
  grind
theorem MO (P:Program) (pr:al) (ops:List Oper): ∀(r:List Oper) (acc:al),(sV P pr ops r acc).length=r.length
 |[],_=>rfl
 |o::r,acc=>by simp[sV,MO P pr ops r]
def QH (p q:gS):Prop:=Xd p.k q.k=false/\OH p.dst q.lk=false/\OH q.dst p.lk=false/\XL p.dst q.dst=false
theorem Zoy {i:Nat} {p:gS} : ∀ {l:List gS},Oh i p l=true->∀(k:Nat) (q:gS),l[k]? =some q->q.bf.testBit i=true\/QH p q
 |[],_,k,q,h=>by simp at h
 |x::l,h,k,q,hq=>by
  simp only[Oh,aS]at h;cases k with
  |zero=>
   simp only[ly,gf]at hq;subst hq;have h1:=h.1;rw[mB]at h1;refine h1.imp id λh1=>?_
   simp only[aS,kN]at h1;exact⟨h1.1.1.1,h1.1.1.2,h1.1.2,h1.2⟩
  |succ k=>exact Zoy h.2 k q (by simpa using hq)
theorem Nb: ∀ {i:Nat} {l:List gS} {os:List Oper},Fh i l os=true->∀(k:Nat) (p:gS),l[k]? =some p->
  p.bf<2^(i+k)/\(∃o,os[k]? =some o/\∀j w,o.guard=some (j,w)->p.bf.testBit j=true)/\∀(m:Nat) (q:gS),k<m->l[m]? =some q->q.bf.testBit (i+k)=true\/QH p q
 |i,[],os,_,k,p,hp=>by simp at hp
 |i,_::_,[],h,k,p,hp=>by cases h
 |i,x::l,o::os,h,k,p,hp=>by
  simp only[Fh,aS]at h;have⟨⟨⟨h1,h2⟩,h3⟩,h4⟩:=h;cases k with
  |zero=>
   simp only[ly,gf]at hp;subst hp;refine⟨by rw[rR]at h1;exact h1,⟨o,rfl,Fd⟩,λm q hm hq=>?_⟩;obtain⟨m',rfl⟩: ∃m',m=m'+1:=⟨m-1,AC⟩;exact Zoy h3 m' q (by simpa using hq)
  |succ k=>
   have⟨a,⟨o',b1,b2⟩,c⟩:=Nb h4 k p (by simpa using hp);grind
theorem Zz3 {e:Edge} (he:e∈o.after) (hb:Region.binds .any e=true):(GK o acc).testBit e.on=true:=by
 unfold GK;have mono: ∀(l:List Edge) (m:Nat),m.testBit e.on=true->(l.foldl (λm e=>bif Region.binds .any e then m|||2^e.on|||acc.getD e.on 0 else m) m).testBit e.on=true:=by
  intro l;induction l with
  |nil=>exact λm h=>h
  |cons x l ih=>
   grind
 have key: ∀(l:List Edge) (m:Nat),e∈l->(l.foldl (λm e=>bif Region.binds .any e then m|||2^e.on|||acc.getD e.on 0 else m) m).testBit e.on=true:=by
  intro l;induction l with
  |nil=>intro m h;cases h
  |cons x l ih=>
   grind
 grind
theorem Nd {mp:Nat->Bool} : ∀(all:List gS) (i:Nat) (is:List gS) (os:List Oper) (k:Nat) (p:Oper×Md),(flags mp all i is os)[k]? =some p->
  ∃q o,is[k]? =some q/\os[k]? =some o/\
   p=(o,.d q.k (bif xp (i+k) q.bf (λ_=>true) 0 all then(bif mpO mp o&& !Ca (i+k) q.bf 0 all then 0 else(match q.k with| .call=>(bif xp (i+k) q.bf HK 0 all then 2 else 1)|_=>1))else 0))
 |all,i,[],os,k,p,h=>by cases os<;>simp[flags]at h
 |all,i,_::_,[],k,p,h=>by simp[flags]at h
 |all,i,q::r,o::os,0,p,h=>by
  grind[flags,ly,gf]
 |all,i,q::r,o::os,k+1,p,h=>by
  simp only[flags,rO]at h;have⟨q',o',h1,h2,h3⟩:=Nd all (i+1) r os k p h;grind
theorem MH {mp:Nat->Bool} : ∀(all:List gS) (i:Nat) (is:List gS) (os:List Oper),is.length=os.length->(flags mp all i is os).length=os.length
 |_,_,[],[],_=>rfl
 |all,i,_::r,_::os,h=>by simp only[flags,cQ];rw[MH all (i+1) r os (by simpa using h)]
 |_,_,[],_::_,h=>by simp at h
 |_,_,_::_,[],h=>by simp at h
theorem ZrB {i bi:Nat} {f:ni->Bool} : ∀ {r:List gS} {j0 j:Nat} {q:gS},r[j]? =some q->i≠j0+j->q.bf.testBit i=false->bi.testBit (j0+j)=false->f q.k=true->xp i bi f j0 r=true
 |[],j0,j,q,h,_,_,_,_=>by simp at h
 |x::r,j0,0,q,h,h1,h2,h3,h4=>by
  simp only[ly,gf]at h;subst h;simp only[fE]at h1 h3;have:Nat.beq i j0=false:=by
   cases e:Nat.beq i j0
   .rfl
   .simp_all
  simp[xp,this,h2,h3,h4]
 |x::r,j0,j+1,q,h,h1,h2,h3,h4=>by
  simp only[rO]at h;rw[xp,mB];exact .inr (ZrB (j0:=j0+1) h AC h2 (by rw[show j0+1+j=j0+(j+1) by omega];exact h3) h4)
theorem ZoV {i bi:Nat} : ∀ {r:List gS} {j0 j:Nat} {q:gS},r[j]? =some q->i≠j0+j->q.bf.testBit i=false->bi.testBit (j0+j)=false->(Nat.blt (j0+j) i&&Ee q.k)=false->Ca i bi j0 r=true
 |[],j0,j,q,h,_,_,_,_=>by simp at h
 |x::r,j0,0,q,h,h1,h2,h3,h4=>by
  simp only[ly,gf]at h;subst h;simp only[fE]at h1 h3 h4;have:Nat.beq i j0=false:=by
   cases e:Nat.beq i j0
   .rfl
   .simp_all
  simp[Ca,this,h2,h3,h4]
 |x::r,j0,j+1,q,h,h1,h2,h3,h4=>by
  simp only[rO]at h;rw[Ca,mB];exact .inr (ZoV (j0:=j0+1) h AC h2 (by rw[show j0+1+j=j0+(j+1) by omega];exact h3) (by rw[show j0+1+j=j0+(j+1) by omega];exact h4))
def Co (is:List gS) (i k:Nat):Prop:=∃q,is[k]? =some q/\q.bf.testBit i=true
theorem ZtN: ∀(l:List Operand) (m t:Nat),(m.testBit t=true\/Operand.tmp t∈l)->(l.foldl (λm x=>match x with| .tmp t=>m|||2^t|_=>m) m).testBit t=true
 |[],m,t,h=>by
  grind
 |x::l,m,t,h=>by
  rw[zZ];refine ZtN l _ t ?_;grind
theorem Zv4 (pr:al) (ops:List Oper) (o:Oper) (m:Nat) (t:Nat) (h:m.testBit t=true):
  (match o.op with
   | .load _ (.tmp a)=>(match uv pr ops 12 a with|some r=>m|||2^r|none=>m)
   | .store _ (.tmp a) _=>(match uv pr ops 12 a with|some r=>m|||2^r|none=>m)
   |_=>m).testBit t=true:=by
 grind
theorem Zq1 {ops:List Oper} (h:Operand.tmp t∈o.op.operands):(sS pr ops o).testBit t=true:=by
 unfold sS;refine Zv4 _ _ _ _ _ ?_;have h1:=ZtN o.op.operands.toList 0 t (.inr (by simpa using h));split
 .grind
 .exact h1
theorem ZwJ {ops:List Oper} {g:Oper} {r:Nat} {w:Bool} (h:o.guard=some (j,w)) (hj:ops[j]? =some g) (hr:g.dst=some r):(sS pr ops o).testBit r=true:=by
 grind[sS]
theorem ZxQ {ops:List Oper} {r:Nat} (h:cls P pr ops o= .yb r\/cls P pr ops o= .qM r):(sS pr ops o).testBit r=true:=by
 cases ho:o.op with
 |load t a=>
  cases a with
  |tmp a=>
   cases hr:uv pr ops 12 a
   .simp[cls,ho,hr]at h
   .rename_i q;simp[cls,ho,hr]at h;subst h;simp[sS,ho,hr]
  |_=>simp[cls,ho]at h
 |store t a y=>
  cases a with
  |tmp a=>
   cases hr:uv pr ops 12 a
   .simp[cls,ho,hr]at h
   .rename_i q;simp[cls,ho,hr]at h;subst h;simp[sS,ho,hr]
  |_=>simp[cls,ho]at h
 |next it b=>
  cases it with
  |tmp t=>
   simp[cls,ho]at h;subst h;exact Zq1 (by simp[Op.operands,ho])
  |_=>simp[cls,ho]at h
 |slice t y lo hi mx=>
  simp only[cls,ho]at h;split at h<;>simp at h
 |call q=>
  cases hp:has pr 1000000<;>simp only[cls,ho,hp,ae,af]at h<;>split at h<;>simp at h
 |_=>simp[cls,ho]at h
structure Su (C:bE) (pr ms:List Nat) (ops:Array Oper) (l:List (Oper×Md)) (is:List gS) (m:Nat) (A B:Nat->Env) (ss:Nat->St):Prop where
 Bb:is=sV C.P pr ops.toList ops.toList []
 hl:l=flags C.mp is 0 is ops.toList
 ok:Fh 0 is ops.toList=true
 hm:m<=ops.size
 w: ∀k,k<=m->nQ (A k) (B k)
 st: ∀k p,k<m->l[k]? =some p->Step C (oE ops) pr ms p (B k) (ss k) (A (k+1)) (ss (k+1))
 e0:jV (A 0)
theorem Step.opF (h:Step C dst pr ms p E s E' s'):nP (oy p.2 E) pr ms p.1 E s E' s':=by
 cases h with
 |act _ hF _=>exact hF
 |skip _=>exact nP.abi pr ms .un rfl λ_ _ _ _ h=>by cases h
section
variable {C:bE} {pr ms:al} {ops:Array Oper} {l:List (Oper×Md)} {is:List gS} {m:Nat} {A B:Nat->Env} {ss:Nat->St}
theorem Su.isLen (S:Su C pr ms ops l is m A B ss):is.length=ops.size:=by rw[S.Bb,MO];simp
theorem Su.P8 (S:Su C pr ms ops l is m A B ss):l.length=ops.size:=by rw[S.hl,MH _ _ _ _ (by rw[S.isLen];simp)];simp
structure OpT (C:bE) (pr:List Nat) (ops:Array Oper) (is:List gS) (k:Nat) (p:Oper×Md) (q:gS) (x:Nat):Prop where
 iq:is[k]? =some q
 op:ops[k]? =some p.1
 md:p.2= .d q.k x
 kc:q.k=wS pr ops.toList k q.bf (cls C.P pr ops.toList p.1)
 dst:q.dst=p.1.dst
 lk:q.lk=sS pr ops.toList p.1
 lt: ∀j,q.bf.testBit j=true->j<k
 gd: ∀j w,p.1.guard=some (j,w)->q.bf.testBit j=true
 on: ∀e∈p.1.after,Region.binds .any e=true->q.bf.testBit e.on=true
 ah8: ∀j,q.bf.testBit j=true->∃e∈p.1.after,Region.binds .any e=true/\(j=e.on\/Co is j e.on)
 zero:x=0->∀j q',is[j]? =some q'->k≠j->q'.bf.testBit k=true\/q.bf.testBit j=true\/(j<k/\Ee q'.k=true)
 two:q.k= .call->∀j q',is[j]? =some q'->k≠j->HK q'.k=true->q'.bf.testBit k=true\/q.bf.testBit j=true\/2<=x
theorem Su.get (S:Su C pr ms ops l is m A B ss) (hp:l[k]? =some p): ∃q x,OpT C pr ops is k p q x:=by
 rw[S.hl]at hp;have⟨q,o,h1,h2,h3⟩:=Nd _ _ _ _ _ _ hp;rw[fq]at h3;have h1':=h1;rw[S.Bb]at h1';have⟨o',g1,g2,g3,g4,g5⟩:=VZ _ _ _ _ _ _ _ h1';rw[h2]at g1;cases g1;have⟨k1,⟨o',k2,k3⟩,_⟩:=Nb S.ok k q h1;rw[h2]at k2;cases k2;rw[fq]at k1;have av: ∀j,q.bf.testBit j=true->j<k:=by
  intro j hj;rcases jw j k with h|h
  .exact h
  .have:q.bf<2^j:=mE k1 (pB AC h)
   rw[FK this]at hj;cases hj
 have bs: ∀f:ni->Bool,∀j q',is[j]? =some q'->k≠j->f q'.k=true->xp k q.bf f 0 is=false->q'.bf.testBit k=true\/q.bf.testBit j=true:=by
  intro f j q' hq cV hf hb;cases e1:q'.bf.testBit k
  .cases e2:q.bf.testBit j
   .rw[ZrB (i:=k) (bi:=q.bf) (f:=f) (j0:=0) hq AC e1 (by rw[fq];exact e2) hf]at hb;cases hb
   .exact .inr rfl
  .exact .inl rfl
 have xx: ∀j q',is[j]? =some q'->k≠j->Ca k q.bf 0 is=false->q'.bf.testBit k=true\/q.bf.testBit j=true\/(j<k/\Ee q'.k=true):=by
  intro j q' hq cV hb;cases e1:q'.bf.testBit k
  .cases e2:q.bf.testBit j
   .cases e3:(Nat.blt j k&&Ee q'.k)
    .rw[ZoV (i:=k) (bi:=q.bf) (j0:=0) hq AC e1 (by rw[fq];exact e2) (by rw[fq];exact e3)]at hb;cases hb
    .rw[aS,rR]at e3;exact .inr (.inr e3)
   .exact .inr (.inl rfl)
  .exact .inl rfl
 refine⟨q,_,h1,?_,by rw[h3],by rw[h3];simp_all,by rw[h3];exact g4,by rw[h3];exact g5,av,Fd,λe he hb=>by rw[g2];exact Zz3 (by rw[h3]at he;exact he) hb,λj hj=>?_,λhx j q' hq cV=>?_,λhc j q' hq cV hh=>?_⟩
 .rw[h3,<-lU];exact h2
 .rw[g2]at hj
  have⟨e,he,hb,hj⟩:=Zy6 hj;rw[h3];refine⟨e,he,hb,hj.imp id λhj=>?_⟩;simp only[gR,cz]at hj;have wD:((((is.take k).map λx:gS=>x.bf)[e.on]?).getD 0).testBit j=true:=by rw[S.Bb];exact hj
  cases hx:((is.take k).map λx:gS=>x.bf)[e.on]?
  .rw[hx]at wD;simp at wD
  .rename_i b;rw[hx]at wD;rw[nf]at hx;cases hy:(is.take k)[e.on]?
   .rw[hy]at hx;cases hx
   .rename_i q';rw[hy]at hx;simp only[pC,gf]at hx;rw[uE]at hy;split at hy
    .exact⟨q',hy,by rw[hx];exact wD⟩
    .cases hy
 .grind
 .cases hb:xp k q.bf HK 0 is
  .grind
  .cases cZ:xp k q.bf (λ_=>true) 0 is
   .grind
   .cases HC:mpO C.mp o&& !Ca k q.bf 0 is
    .grind
    .rw[aS,kN]at HC;rcases xx j q' hq cV HC.2 with h|h|⟨_,h⟩
     .exact .inl h
     .exact .inr (.inl h)
     .exfalso
      generalize q'.k=z at hh h;cases z<;>simp[HK,Ee]at hh h
theorem Su.F (S:Su C pr ms ops l is m A B ss) (hk:k<m) (hp:l[k]? =some p):nP (oy p.2 (B k)) pr ms p.1 (B k) (ss k) (A (k+1)) (ss (k+1)):=(S.st k p hk hp).opF
theorem Su.Dn (S:Su C pr ms ops l is m A B ss) (hk:k<m): ∃p,l[k]? =some p:=by
 have:=S.P8;have:=S.hm;exact⟨l[k]' AC,cc _⟩
theorem Su.wo (S:Su C pr ms ops l is m A B ss): ∀k,k<=m->jV (B k)
 |0,h=>S.e0.jv (S.w 0 h)
 |k+1,h=>by
  have⟨p,hp⟩:=S.Dn (k:=k) AC;exact((S.F AC hp).iw (S.wo k AC)).jv (S.w (k+1) h)
theorem D2 (h:nQ E E') (x:dN):eF E' s x↔eF E s x:=by
 simp[eF,h.bS]
theorem Su.afM (S:Su C pr ms ops l is m A B ss) (hk:k<m) (hd:eF (B k) (ss k) h):eF (A (k+1)) (ss (k+1)) h:=by
 have⟨p,hp⟩:=S.Dn hk;have hF:=S.F hk hp;cases h with
 |inl i=>exact mE hd hF.len
 |inr v=>exact mE hd hF.bS
theorem Su.sr (S:Su C pr ms ops l is m A B ss) {h:dN} {j:Nat} : ∀(d:Nat),j+d<=m->eF (B j) (ss j) h->eF (B (j+d)) (ss (j+d)) h
 |0,_,hd=>hd
 |d+1,hk,hd=>(D2 (S.w (j+d+1) hk) h).2 (S.afM (k:=j+d) AC (S.sr d AC hd))
theorem Su.wi (S:Su C pr ms ops l is m A B ss) (wE:j<=k) (hk:k<=m) (hd:eF (B j) (ss j) h):eF (B k) (ss k) h:=by
 have:=S.sr (j:=j) (k-j) AC hd;rwa [show j+(k-j)=k by omega]at this
def Wr (l:List (Oper×Md)) (B:Nat->Env) (i:Nat) (h:dN):Prop:=∃p,l[i]? =some p/\oy p.2 (B i) h
theorem Su.back (S:Su C pr ms ops l is m A B ss) {h:dN} {ab:AB} {j:Nat} : ∀(d:Nat),j+d<=m->(∀i,j<=i->i<j+d->¬Wr l B i h)->eF (B j) (ss j) h->CR (B (j+d)) (ss (j+d)) h ab->CR (B j) (ss j) h ab
 |0,_,_,_,c=>c
 |d+1,hk,hw,hd,c=>by
  have⟨p,hp⟩:=S.Dn (k:=j+d) AC;rcases(S.F AC hp).back h ab (c.jv (S.w _ hk))with x|x|x
  .exact absurd ⟨p,hp,x⟩ (hw (j+d) AC AC)
  .exact absurd (S.sr d AC hd) x.1
  .exact S.back d AC Fd hd x
theorem Su.Oz (S:Su C pr ms ops l is m A B ss) (wE:j<=k) (hk:k<=m) (hw: ∀i,j<=i->i<k->¬Wr l B i h) (hd:eF (B j) (ss j) h) (c:CR (B k) (ss k) h ab):CR (B j) (ss j) h ab:=by
 have:=S.back (j:=j) (ab:=ab) (k-j) AC Fd hd;rw[show j+(k-j)=k by omega]at this;exact this c
theorem Su.fix (S:Su C pr ms ops l is m A B ss) {x:Nat} {j:Nat} : ∀(d:Nat),j+d<=m->(∀i,j<=i->i<j+d->¬Wr l B i (.inl x))->x<(ss j).length->(ss (j+d))[x]? =(ss j)[x]?
 |0,_,_,_=>rfl
 |d+1,hk,hw,hx=>by
  have⟨p,hp⟩:=S.Dn (k:=j+d) AC;have hd:x<(ss (j+d)).length:=S.sr (h:= .inl x) d AC hx;have:=(S.F AC hp).aer x (λhi=>hw (j+d) AC AC ⟨p,hp,hi⟩) hd;rw[show j+(d+1)=j+d+1 by omega,this,S.fix d AC Fd hx]
theorem Su.br (S:Su C pr ms ops l is m A B ss) {ψ:Ps} {x:Value} {t:Nat} {j:Nat} : ∀(d:Nat),j+d<=m->(∀i p,j<=i->i<j+d->l[i]? =some p->p.1.dst≠some t)->gh C ψ ((B j).get t) x->gh C ψ ((B (j+d)).get t) x
 |0,_,_,r=>r
 |d+1,hk,hw,r=>by
  have⟨p,hp⟩:=S.Dn (k:=j+d) AC;have:=(S.F AC hp).br t Fd C ψ x (S.br d AC Fd r);rcases(S.w _ hk).get t with e|e
  .rw[e];exact this
  .rw[e];trivial
theorem Su.val (S:Su C pr ms ops l is m A B ss) {t j:Nat} {x:DV} : ∀(d:Nat),j+d<=m->(∀i p,j<=i->i<j+d->l[i]? =some p->p.1.dst≠some t)->(B (j+d)).get t= .v x->(B j).get t= .v x
 |0,_,_,e=>e
 |d+1,hk,hw,e=>by
  have⟨p,hp⟩:=S.Dn (k:=j+d) AC;refine S.val d AC Fd ((S.F AC hp).val t x Fd ?_);rcases(S.w _ hk).get t with e'|e'
  .exact e'.symm.trans e
  grind
theorem ZsU (h:nQ E E') {v:Nat} (e:(E'.get t).dp=some v):(E.get t).dp=some v:=by
 rcases h.get t with e'|e'
 .rw[<-e'];exact e
 .rw[e']at e;cases e
theorem nP.dp {W:dN->Prop} {o:Oper} {E E':Env} {s s':St} (hF:nP W pr ms o E s E' s') {t v:Nat} (e:(E'.get t).dp=some v):(E.get t).dp=some v\/(E.bS<=v/\o.dst=some t):=by
 cases he:E'.get t with
 |loc v' n cs=>
  rw[he]at e;simp only[fg.dp,gf]at e;subst e;exact(hF.yc t _ n cs he).imp (λ⟨c,h⟩=>by rw[h];rfl) id
 |it v' s p=>
  rw[he]at e;simp only[fg.dp,gf]at e;subst e;exact(hF.zW t _ s p he).imp (λ⟨c,h⟩=>by rw[h];rfl) id
 |_=>rw[he]at e;cases e
theorem Su.dp (S:Su C pr ms ops l is m A B ss) {t v j:Nat} : ∀(d:Nat),j+d<=m->v<(B j).bS->((B (j+d)).get t).dp=some v->((B j).get t).dp=some v
 |0,_,_,e=>e
 |d+1,hk,hv,e=>by
  have⟨p,hp⟩:=S.Dn (k:=j+d) AC;have hd:v<(B (j+d)).bS:=S.sr (h:= .inr v) d AC hv;rcases(S.F AC hp).dp (ZsU (S.w _ hk) e)with h|h
  .exact S.dp d AC hv h
  .omega
theorem Su.aeA (S:Su C pr ms ops l is m A B ss) {v:Nat} (wE:j<=k) (hk:k<=m) (hv:v<(B j).bS) (e:((B k).get t).dp=some v):((B j).get t).dp=some v:=
 S.dp (j:=j) (k-j) AC hv (by rwa [show j+(k-j)=k by omega])
end
theorem ZvX (k k':ni):AI k k'=AI k' k:=by
 cases k<;>cases k'<;>simp only[AI]<;>(rw[nL];grind[Nat.beq_eq])
theorem Zsp {k:ni} (h:Xd k k'=false):AI k k'=false:=by
 cases k<;>cases k'<;>first|exact h|cases h
theorem ZtI {k:ni} {x:Nat} (c:AI k k'=false) (h2:k= .call->HK k'=true->2<=x) (hv: ∀r q v,(E.get r).dp=some v->(E'.get q).dp=some v->r=q)
  (hb: ∀bs b,k= .ap bs->k'= .lp b->b∈bs->∀j p,E.get b= .v (.ptr (some (j,p)))->E'.get b= .v (.ptr (some (j,p)))):
  ∀h,oy (.d k x) E h->¬qT (.d k' x') E' h:=by
 intro h hw hd;cases k<;>cases k'<;>first
  |exact hw.elim
  |exact hd.elim
  |(simp[AI]at c;done)
  |(have h3:=h2 rfl rfl;have h4:=hw.1;omega)
  |(obtain⟨i,rfl⟩:=hw;have⟨v,e,_⟩:=hd;cases e;done)
  |(obtain⟨_,i,rfl⟩:=hw;have⟨v,e,_⟩:=hd;cases e;done)
  |(obtain⟨v,rfl,_⟩:=hw;have⟨i,e⟩:=hd;cases e;done)
  |(obtain⟨v,rfl,_⟩:=hw;have⟨i,p,_,e⟩:=hd;cases e;done)
  |(obtain⟨i,rfl,_⟩:=hw;have⟨v,e,_⟩:=hd;cases e;done)
  |(obtain⟨v,rfl,e1⟩:=hw
    have⟨v',e,e2⟩:=hd;cases e;have:=hv _ _ _ e1 e2;subst this;simp[AI]at c)
  |(rename_i bs b
    obtain⟨i,rfl,hw⟩:=hw;have⟨i',p',e1,e2⟩:=hd;cases e2;have iL:b∈bs:=by
     have:has bs b=true:=by simpa [AI]using c
     exact(Jl _ _).1 this
    grind)
theorem Zye {ops:List Oper} (h:uK o):cls P pr ops o= .hp\/cls P pr ops o= .call\/cls P pr ops o= .ap []:=by
 unfold uK at h;cases ho:o.op<;>rw[ho]at h<;>simp only at h
 case call q=>
  split at h
  .rename_i hq
   cases hp:has pr 1000000
   .simp[cls,ho,hq,hp]
   .simp[cls,ho,hq,hp]
  .rename_i hq;simp[cls,ho,hq]
  .exact h.elim
 all_goals exact .inl (by simp[cls,ho])
theorem Zvg {ops:List Oper} (h:uK o) (k m:Nat):wS pr ops k m (cls P pr ops o)= .hp\/wS pr ops k m (cls P pr ops o)= .call\/∃bs,wS pr ops k m (cls P pr ops o)= .ap bs:=by
 rcases Zye (P:=P) (pr:=pr) (ops:=ops) h with e|e|e<;>rw[e]
 .exact .inl rfl
 .exact .inr (.inl rfl)
 .exact .inr (.inr ⟨_,rfl⟩)
theorem ZvN {k:ni} {x:Nat} (h:k= .hp\/k= .call\/∃bs,k= .ap bs) (i:Nat):qT (.d k x) E (.inl i):=by
 rcases h with rfl|rfl|⟨bs,rfl⟩<;>exact⟨i,rfl⟩
theorem Zze {ops:List Oper} {b:Nat} {c:ni} (h:wS pr ops k m c= .lp b):c= .lp b:=by
 cases c<;>first|exact h|cases h
theorem Zw1 {ops:List Oper} {b:Nat} {c:ni} (h:wS pr ops k m c= .qM b):c= .qM b:=by
 cases c<;>first|exact h|cases h
theorem ZzF {ops:List Oper} {c:ni} {bs:al} (h:wS pr ops k m c= .ap bs):bs=(JD m 0 (ops.take k)).filter λb=>Ll b (ops.take k)&&(uv pr ops 12 b).isNone:=by
 cases c<;>cases h
 rfl
theorem ZBr {ops:List Oper} {b:Nat} (h:cls P pr ops o= .lp b):zK b o=true:=by
 unfold zK;cases ho:o.op with
 |load t a=>
  cases a with
  |tmp a=>
   cases hr:uv pr ops 12 a
   .simp[cls,ho,hr]at h;simp[h]
   .rename_i q;simp[cls,ho,hr]at h
  |_=>simp[cls,ho]at h
 |store t a y=>
  cases a with
  |tmp a=>cases hr:uv pr ops 12 a<;>simp[cls,ho,hr]at h
  |_=>simp[cls,ho]at h
 |next it b=>cases it<;>simp[cls,ho]at h
 |slice t y lo hi mx=>
  simp only[cls,ho]at h;split at h<;>simp at h
 |call q=>
  cases hp:has pr 1000000<;>simp only[cls,ho,hp,ae,af]at h<;>split at h<;>simp at h
 |_=>simp[cls,ho]at h
theorem Zq6 {b:Nat} : ∀ {L:List Oper},Ll b L=true->∀(i j:Nat) (o o':Oper),L[i]? =some o->zK b o=true->i<=j->L[j]? =some o'->o'.dst≠some b
 |[],_,i,j,o,o',h,_,_,_=>by simp at h
 |x::r,h,i,j,o,o',hi,hl,oI,hj=>by
  unfold Ll at h;cases hx:zK b x
  .rw[hx]at h;simp only[af]at h;cases i with
   |zero=>
    grind
   |succ i=>
    obtain⟨j,rfl⟩: ∃j',j=j'+1:=⟨j-1,AC⟩;exact Zq6 h i j o o' (by simpa using hi) hl AC (by simpa using hj)
  .rw[hx]at h;simp only[ae]at h;have:=qP.1 h o' (qc hj);intro e;rw[e]at this;simp at this
section
variable {C:bE} {pr ms:al} {ops:Array Oper} {l:List (Oper×Md)} {is:List gS} {m:Nat} {A B:Nat->Env} {ss:Nat->St}
abbrev FP (A B:Nat->Env) (ss:Nat->St) (i:Nat) (h:dN):Prop:=yj (B i) (ss i) (A (i+1)) (ss (i+1)) h
structure Mq (pr ms:List Nat) (ops:Array Oper) (l:List (Oper×Md)) (A B:Nat->Env) (ss:Nat->St) (i k:Nat) (p p':Oper×Md):Prop where
 d1: ∀t,p.1.dst=some t->(sS pr ops.toList p'.1).testBit t=false
 d2: ∀t,p'.1.dst=some t->(sS pr ops.toList p.1).testBit t=false
 d3: ∀t,p.1.dst=some t->p'.1.dst≠some t
 w1: ∀h,oy p.2 (B i) h->¬qT p'.2 (B k) h
 w2: ∀h,oy p'.2 (B k) h->¬qT p.2 (B i) h
 n1: ∀h,FP A B ss i h->¬oy p'.2 (B k) h
 n2: ∀h,FP A B ss k h->¬oy p.2 (B i) h
theorem Su.acz (S:Su C pr ms ops l is m A B ss) (Hp:i<k) (hk:k<m) (hp:l[i]? =some p) (gm:l[k]? =some p') (hn: ¬Co is i k):Mq pr ms ops l A B ss i k p p':=by
 have⟨q,x,T⟩:=S.get hp;have⟨q',x',T'⟩:=S.get gm;have yV:QH q q':=by
  have⟨_,_,h⟩:=Nb S.ok i q T.iq;rcases h k q' Hp T'.iq with h|h
  .rw[fq]at h;exact absurd ⟨q',T'.iq,h⟩ hn
  .exact h
 have⟨ct,e1,e2,e3⟩:=yV;have c:=Zsp ct;rw[T.dst,T'.lk]at e1;rw[T'.dst,T.lk]at e2;rw[T.dst,T'.dst]at e3;have hv: ∀r t v,((B i).get r).dp=some v->((B k).get t).dp=some v->r=t:=λr t v h1 h2=>
  (S.wo i AC).uniq r t v h1 (S.aeA AC AC ((S.wo i AC).lt r v h1) h2)
 have w1: ∀h,oy p.2 (B i) h->¬qT p'.2 (B k) h:=by
  rw[T.md,T'.md];refine ZtI c (λh1 h2=>?_) hv (λbs b h1 h2=>by rw[h1,h2]at ct;cases ct);rcases T.two h1 k q' T'.iq AC h2 with h|h|h
  .exact absurd ⟨q',T'.iq,h⟩ hn
  .have:=T.lt k h;omega
  .exact h
 have w2: ∀h,oy p'.2 (B k) h->¬qT p.2 (B i) h:=by
  rw[T.md,T'.md];refine ZtI (by rw[ZvX];exact c) (λh1 h2=>?_) Fd (λbs b h1 h2 iL j pp hg=>?_);rotate_left
  .have y7:=ZzF (T'.kc.symm.trans h1)
   rw[y7,FD]at iL;have rB:zK b p.1=true:=ZBr (Zze (T.kc.symm.trans h2));have eD:ops.toList[i]? =some p.1:=by rw[lU];exact T.op
   refine S.val (j:=i) (k-i) AC (λi' HN g1 g2 g3=>?_) (by rw[show i+(k-i)=k by omega];exact hg);have⟨q'',x'',T''⟩:=S.get g3;have ajs:ops.toList[i']? =some HN.1:=by rw[lU];exact T''.op
   exact Zq6 (Bool.and_eq_true_iff.1 iL.2).1 i i' p.1 HN.1 (by rw[uE,bx AC];exact eD) rB g1 (by rw[uE,bx AC];exact ajs)
  rcases T'.two h1 i q T.iq AC h2 with h|h|h
  .have:=T.lt k h;omega
  .exact absurd ⟨q',T'.iq,h⟩ hn
  .exact h
 have d1: ∀t,p.1.dst=some t->(sS pr ops.toList p'.1).testBit t=false:=λt h=>by rw[h]at e1;exact e1
 refine⟨d1,λt h=>by rw[h]at e2;exact e2,λt h h'=>?_,w1,w2,λh iY hw=>?_,λh iY hw=>?_⟩
 .rw[h,h']at e3
  grind[XL,FG]
 .cases h with
  |inl y=>
   have hF:=S.F AC hp;rcases hF.grow with hg|hg
   .have h1:=iY.1;have h2:=iY.2
    grind[eF]
   .refine w2 _ hw ?_
    rw[T.md,T.kc];exact ZvN (Zvg hg _ _) y
  |inr v=>
   rw[T'.md]at hw;cases hq:q'.k<;>rw[hq]at hw<;>first|exact hw.elim|skip
   .have⟨y,e⟩:=hw;cases e
   .have⟨_,y,e⟩:=hw;cases e
   .rename_i r
    have⟨v',e,fm⟩:=hw;cases e;have av:v<(B (i+1)).bS:=by rw[(S.w (i+1) AC).bS];exact iY.2
    have h1:=ZsU (S.w (i+1) AC) (S.aeA AC AC av fm);rcases(S.F AC hp).dp h1 with h2|⟨_,h2⟩
    .exact iY.1 ((S.wo i AC).lt r v h2)
    .have h3:=d1 r h2
     have h4:=ZxQ (P:=C.P) (pr:=pr) (ops:=ops.toList) (o:=p'.1) (r:=r) (.inr (Zw1 (T'.kc.symm.trans hq)));rw[h3]at h4;cases h4
   .have⟨y,e,_⟩:=hw;cases e
 .cases h with
  |inl y=>
   have hF:=S.F hk gm;rcases hF.grow with hg|hg
   .have h1:=iY.1;have h2:=iY.2
    grind[eF]
   .refine w1 _ hw ?_
    rw[T'.md,T'.kc];exact ZvN (Zvg hg _ _) y
  |inr v=>
   rw[T.md]at hw;cases hq:q.k<;>rw[hq]at hw<;>first|exact hw.elim|skip
   .have⟨y,e⟩:=hw;cases e
   .have⟨_,y,e⟩:=hw;cases e
   .rename_i r
    have⟨v',e,fm⟩:=hw;cases e;have:eF (B i) (ss i) (.inr v):=(S.wo i AC).lt r v fm;exact iY.1 (S.wi AC AC this)
   .have⟨y,e,_⟩:=hw;cases e
theorem Zpf {a:Act} (R: ∀j w r,o.guard=some (j,w)->oE ops j=some r->gh C ψ (E.get r) (a.tmps.getD r undef)) (h:GW (oE ops) E o):Region.wanted o (yielded ops a.tmps)=true:=by
 unfold Region.wanted;rcases h with h|⟨j,w,r,h1,h2,h3⟩
 .rw[h]
 .have hr:=R j w r h1 h2
  rw[h1];rw[NO]at h2;rw[h3]at hr;have:a.tmps.getD r undef= .bool w:=by generalize a.tmps.getD r undef=x at hr;cases hr;rfl
  simp[yielded,h2,NR a r w this]
theorem ZsE {a:Act} (R: ∀j w r,o.guard=some (j,w)->oE ops j=some r->gh C ψ (E.get r) (a.tmps.getD r undef)) (h:GU (oE ops) E o):Region.wanted o (yielded ops a.tmps)=false:=by
 unfold Region.wanted;have⟨j,w,r,h1,h2,h3⟩:=h;have hr:=R j w r h1 h2;rw[h1];rw[NO]at h2;rcases h3 with⟨b,h3,hb⟩|h3
 .rw[h3]at hr
  have:a.tmps.getD r undef= .bool b:=by generalize a.tmps.getD r undef=x at hr;cases hr;rfl
  simp[yielded,h2,NR a r b this,hb]
 .rw[h3]at hr
  have hr:a.tmps.getD r undef=undef:=hr;have:a.tmps[r]? =none\/a.tmps[r]? =some undef:=by
   rw[tg]at hr;grind
  have hy:yielded ops a.tmps j=none:=by
   unfold yielded;rw[h2];rcases this with e|e<;>simp[e,undef]
  simp[hy]
theorem Zyd (st:Step C (oE ops) pr ms p E s E' s') {a:Act} (pre:aB C p.1 (qT p.2 E) E s ψ Q a w) (room:Mx E s E' s' ψ)
  (hg: ∀j w r,p.1.guard=some (j,w)->oE ops j=some r->gh C ψ (E.get r) (a.tmps.getD r undef)) (hi:ops[i]? =some p.1) {K:Act->World->Prop}
  (h: ∀ψ' Q' v w',Mu C (qT p.2 E) (oy p.2 E) E s E' s' ψ Q w ψ' Q' w'->(∀d,p.1.dst=some d->gh C ψ' (E'.get d) v)->K (a.put p.1.dst v) w'):wpOp C.P ops QQ i K a w:=by
 unfold wpOp;simp only[hi];cases st with
 |act g hF hO=>
  rw[bx (Zpf hg g)];exact .inl (hO ψ Q a w K QQ pre room h)
 |skip g=>
  rw[aY (by rw[ZsE hg g];simp)];refine h ψ Q undef w ⟨pre.fp,.refl _ _ _,λh cb e=> .inl e,λh ab cb c hw e=>?_,λh ab cb e q _ _=>q⟩ λd hd=>?_
  .rcases hw with hw|⟨n1,n2⟩
   .exact pre.kF h ab cb (N0 _ _ _ hw) (c.fD rfl) e
   .exact absurd (by cases h<;>simpa [eF]using n2) n1
  .rw[Env.lH,bx hd];rfl
structure Inv (C:bE) (f:Fr) (l:List (Oper×Md)) (is:List gS) (m:Nat) (A B:Nat->Env) (ss:Nat->St) (ψi:Ps) (L:Nat->Prop) (a:Act) (w:World) (ψ:Ps) (Q:Kn):Prop where
 fp:fI C ψ Q w
 gU:tq ψ w
 mj:Glob C ψ
 kH: ∀t j,j<=m->(∀i p,i<j->l[i]? =some p->¬L i->p.1.dst≠some t)->(∀i p,j<=i->l[i]? =some p->L i->p.1.dst≠some t)->gh C ψ ((B j).get t) (a.tmps.getD t undef)
 kF: ∀h j ab cb,j<=m->(∀i,i<j->¬L i->¬Wr l B i h)->(∀i,j<=i->L i->¬Wr l B i h)->CR (B j) (ss j) h ab->ψ h=some cb->Q h ab
 free: ∀i h,i<m->¬L i->FP A B ss i h->ψ h=none
 news: ∀h cb,ψ h=some cb->ψi h=some cb\/(¬eF (B 0) (ss 0) h/\eF (B m) (ss m) h)
 ext:Ext f.jh (CS f.s0) f.w0 ψ Q w
 oZ:Ks f a
 defs:a.defers=f.XK
 sub: ∀i,L i->i<m
 down: ∀i k,L k->Co is i k->L i
theorem ZA8 (hE:jV E) (c:CR E s h ab) (c':CR E s h de):ab=de:=by
 cases h with
 |inl i=>
  have h1:dA s i=some ab:=c;have h2:dA s i=some de:=c';rw[h1]at h2;grind
 |inr v=>
  rcases c with⟨t,n,cs,e,rfl⟩|⟨t,l,p,e,rfl⟩<;>rcases c' with⟨t',n',cs',e',rfl⟩|⟨t',l',p',e',rfl⟩<;>
   (have:=hE.uniq t t' v (by rw[e];rfl) (by rw[e'];rfl);subst this;rw[e]at e';cases e';try rfl)
theorem Su.born (S:Su C pr ms ops l is m A B ss) {h:dN} {j:Nat} : ∀(d:Nat),j+d<=m->¬eF (B j) (ss j) h->eF (B (j+d)) (ss (j+d)) h->∃k,j<=k/\k<j+d/\FP A B ss k h
 |0,_,hn,hd=>absurd hd hn
 |d+1,hk,hn,hd=>by
  have lL:eF (A (j+d+1)) (ss (j+d+1)) h:=(D2 (S.w _ hk) h).1 hd;by_cases e:eF (B (j+d)) (ss (j+d)) h
  .have⟨k,h1,h2,h3⟩:=S.born d AC hn e
   grind
  .exact⟨j+d,AC,AC,e,lL⟩
theorem ZBh {v:Nat} (h:(E.get t).dp=some v): ∃ab,CR E s (.inr v) ab:=by
 cases he:E.get t with
 |loc v' n cs=>
  rw[he]at h;simp only[fg.dp,gf]at h;subst h;exact⟨_,.inl ⟨t,n,cs,he,rfl⟩⟩
 |it v' x p=>
  rw[he]at h;simp only[fg.dp,gf]at h;subst h;exact⟨_,.inr ⟨t,x,p,he,rfl⟩⟩
 |_=>rw[he]at h;cases h
variable {f:Fr} {ψi:Ps} {L:Nat->Prop} {a:Act} {w:World} {ψ:Ps} {Q:Kn}
theorem Inv.pre (S:Su C pr ms ops l is m A B ss) (I:Inv C f l is m A B ss ψi L a w ψ Q) (hi:i<=m) (_hp:l[i]? =some p) (hL: ¬L i) (alD: ∀j,Co is j i->L j)
  (gV: ∀k p',k<i->l[k]? =some p'->¬L k->(∀t,p'.1.dst=some t->(sS pr ops.toList p.1).testBit t=false)/\∀h,oy p'.2 (B k) h->¬qT p.2 (B i) h) (jC: ∀k p',i<k->l[k]? =some p'->L k->Mq pr ms ops l A B ss i k p p'):
  aB C p.1 (qT p.2 (B i)) (B i) (ss i) ψ Q a w/\∀j w r,p.1.guard=some (j,w)->oE ops j=some r->gh C ψ ((B i).get r) (a.tmps.getD r undef):=by
 have kH: ∀t,(sS pr ops.toList p.1).testBit t=true->gh C ψ ((B i).get t) (a.tmps.getD t undef):=by
  intro t ht;refine I.kH t i hi (λk p' hk gm hl e=>?_) (λk p' hk gm hl e=>?_)
  .have:=(gV k p' hk gm hl).1 t e
   rw[ht]at this;cases this
  .rcases Nat.eq_or_lt_of_le hk with h|h
   .subst h;exact hL hl
   .have:=(jC k p' h gm hl).d2 t e
    rw[ht]at this;cases this
 refine⟨⟨I.fp,I.gU,I.mj,S.wo i hi,λh ab cb hD c e=>I.kF h i ab cb hi (λk hk hl=>?_) (λk hk hl=>?_) c e,λt ht=>kH t (Zq1 ht)⟩,λj w r hg hr=>kH r ?_⟩
 .rintro⟨p',gm,hw⟩
  grind
 .rintro⟨p',gm,hw⟩
  rcases Nat.eq_or_lt_of_le hk with e|e
  .subst e;exact hL hl
  .exact(jC k p' e gm hl).w2 h hw hD
 .unfold oE at hr
  split at hr
  .rename_i o ho;exact ZwJ hg ho hr
  .cases hr
theorem Inv.step (S:Su C pr ms ops l is m A B ss) (I:Inv C f l is m A B ss ψi L a w ψ Q) (hi:i<m) (hp:l[i]? =some p) (hL: ¬L i) (ER: ∀j,Co is j i->L j)
  (hd: ∀x,p.1.dst=some x->f.ok x=true) {K:Act->World->Prop}
  (h: ∀a' w' ψ' Q',Inv C f l is m A B ss ψi (λj=>L j\/j=i) a' w' ψ' Q'->K a' w'):wpOp C.P ops QQ i K a w:=by
 have gV: ∀k p',k<i->l[k]? =some p'->¬L k->Mq pr ms ops l A B ss k i p' p:=λk p' hk gm hl=>S.acz hk hi gm hp λhb=>hl (ER k hb)
 have jC: ∀k p',i<k->l[k]? =some p'->L k->Mq pr ms ops l A B ss i k p p':=λk p' hk gm hl=>S.acz hk (I.sub k hl) hp gm λhb=>hL (I.down i k hl hb)
 have⟨pre,hg⟩:=I.pre S (Nat.le_of_lt hi) hp hL ER (λk p' hk gm hl=>⟨(gV k p' hk gm hl).d1,(gV k p' hk gm hl).w1⟩) jC;have⟨q,x,T⟩:=S.get hp;refine Zyd (S.st i p hi hp) pre (λk hk=>I.free i k hi hL hk) hg T.op λψ' Q' v w' P he=>h _ _ ψ' Q' ?_
 have aiN: ∀k h,k<m->¬(L k\/k=i)->FP A B ss k h->ψ' h=none:=by
  intro k h hk hl iY;cases e:ψ' h
  .rfl
  .rename_i cb;rcases P.news h cb e with e|e
   .rw[I.free k h hk (λx=>hl (.inl x)) iY]at e;cases e
   .rcases Nat.lt_trichotomy i k with Hp|Hp|Hp
    .exact absurd (S.wi (j:=i+1) AC AC ((D2 (S.w (i+1) AC) h).2 e.2)) iY.1
    .omega
    .exact absurd (S.wi (j:=k+1) AC AC ((D2 (S.w (k+1) AC) h).2 iY.2)) e.1
 refine⟨P.fp,P.ext.gU I.gU,P.ext.mj I.mj,λt j hj c1 c2=>?_,λh j ab cb hj c1 c2 c e=>?_,aiN,λh cb e=>?_,I.ext.trans P.ext,I.oZ.put hd,by rw[M9];exact I.defs,λk hk=>?_,λj k hk hb=>?_⟩
 .rw[Jq λx hx=>by rw[I.oZ.1];exact f.Ly x (hd x hx)]
  by_cases Hf:p.1.dst=some t
  .rw[bx Hf]
   have oI:i<j:=by
    grind
   have h1:gh C ψ' ((B (i+1)).get t) v:=by
    rcases(S.w (i+1) AC).get t with e|e
    .rw[e];exact he t Hf
    .rw[e];trivial
   have:=S.br (j:=i+1) (ψ:=ψ') (x:=v) (t:=t) (j-(i+1)) AC (λk p' h1 h2 gm=>?_) h1
   .rwa [show i+1+(j-(i+1))=j by omega]at this
   .by_cases hl:L k
    .exact(jC k p' AC gm hl).d3 t Hf
    grind
  .rw[aY Hf]
   refine(I.kH t j hj (λk p' hk gm hl=>?_) Fd).mono P.ext.mono;by_cases e:k=i
   .grind
   grind
 .by_cases hw:oy p.2 (B i) h\/FP A B ss i h
  .have oI:i<j:=by
    rcases jw i j with h'|h'
    .exact h'
    .rcases hw with hw|hw
     .exact absurd ⟨p,hp,hw⟩ (c2 i h' (.inr rfl))
     .exact absurd (S.wi h' AC (c.sr (S.wo j hj))) hw.1
   have iG: ∀k,i+1<=k->k<j->¬Wr l B k h:=by
    rintro k h1 h2 ⟨p',gm,ui⟩;by_cases hl:L k
    .rcases hw with hw|hw
     .exact(jC k p' AC gm hl).w2 h ui (N0 _ _ _ hw)
     .exact(jC k p' AC gm hl).n1 h hw ui
    .exact c1 k AC Fd ⟨p',gm,ui⟩
   have aiB:eF (B (i+1)) (ss (i+1)) h:=by
    rcases hw with hw|hw
    .by_cases e0:eF (B (i+1)) (ss (i+1)) h
     .exact e0
     .have⟨k,k1,k2,k3⟩:=S.born (j:=i+1) (j-(i+1)) AC e0 (by rw[show i+1+(j-(i+1))=j by omega];exact c.sr (S.wo j hj))
      have⟨p',gm⟩:=S.Dn (k:=k) AC;by_cases hl:L k
      .exact absurd hw ((jC k p' AC gm hl).n2 h k3)
      grind
    .exact(D2 (S.w (i+1) AC) h).2 hw.2
   exact P.p1 h ab cb ((S.Oz AC hj iG aiB c).jv (S.w (i+1) AC)) hw e
  .have e0:ψ h=some cb:=by
    rcases P.news h cb e with e|e
    .exact e
    grind
   have ajj: ¬Wr l B i h:=by
    rintro⟨p',gm,ui⟩;rw[hp]at gm;grind
   have hQ:=I.kF h j ab cb hj (λk hk hl=>by
    by_cases e:k=i
    .subst e;exact ajj
    grind) Fd c e0
   refine P.p2 h ab cb e0 hQ (λx=>hw (.inl x)) λhD aii=>?_
   rcases jw j i with oJ|oJ
   .have iG: ∀k,j<=k->k<i->¬Wr l B k h:=by
     rintro k h1 h2 ⟨p',gm,ui⟩;by_cases hl:L k
     .exact c2 k h1 (.inl hl) ⟨p',gm,ui⟩
     .exact(gV k p' h2 gm hl).w1 h ui hD
    cases h with
    |inl y=>
     have c':dA (ss j) y=some ab:=c;have:=S.fix (x:=y) (j:=j) (i-j) AC Fd (Eb c');rw[show j+(i-j)=i by omega]at this;show dA (ss i) y=some ab;grind[dA]
    |inr v=>
     have zD: ∃r,((B i).get r).dp=some v:=by
      rw[T.md]at hD;cases hq:q.k<;>rw[hq]at hD<;>first|exact hD.elim|(have⟨y,e⟩:=hD;cases e;done)|(have⟨y,p',_,e⟩:=hD;cases e;done)|(have⟨v',e,hv⟩:=hD;grind)
     have⟨r,hr⟩:=zD;have⟨de,c'⟩:=ZBh (s:=ss i) hr;have c2':=S.Oz (Nat.le_of_lt oJ) (Nat.le_of_lt hi) iG (c.sr (S.wo j hj)) c';rw[ZA8 (S.wo j hj) c c2'];exact c'
   .refine S.Oz oJ hj (λk h1 h2=>?_) aii c
    rintro⟨p',gm,ui⟩;rcases Nat.eq_or_lt_of_le h1 with e|e
    .grind
    .by_cases hl:L k
     .exact(jC k p' e gm hl).w2 h ui hD
     .exact c1 k h2 Fd ⟨p',gm,ui⟩
 .rcases P.news h cb e with e|e
  .exact I.news h cb e
  .exact .inr ⟨λx=>e.1 (S.wi (cN _) AC x),S.wi (j:=i+1) AC (aJ _) ((D2 (S.w (i+1) AC) h).2 e.2)⟩
 .rcases hk with hk|hk
  .exact I.sub k hk
  .omega
 .rcases hk with hk|hk
  .exact .inl (I.down j k hk hb)
  grind
end
theorem ZvB: ∀(l:List Bool) (i:Nat),l[i]? =some false->(l.set i true).count false+1=l.count false
 |[],i,h=>by simp at h
 |b::l,0,h=>by
  grind
 |b::l,i+1,h=>by
  grind
def ow (listed:Array Bool) (i:Nat):Prop:=listed[i]? =some true
theorem ZAK (hi:i<listed.size) (j:Nat):ow (listed.setIfInBounds i true) j↔ow listed j\/j=i:=by
 grind[ow]
theorem WV (hi:i<listed.size) (h: ¬ow listed i):listed[i]? =some false:=by
 simp_all[ow]
theorem ZrQ (h:i∈Region.ready .any ops listed):i<ops.size/\¬ow listed i/\∀o,ops[i]? =some o->∀e∈o.after,Region.binds .any e=true->ow listed e.on:=by
 unfold Region.ready at h;have⟨h1,h2⟩:=FD.1 h;rw[uG]at h1;simp only[aS,kN]at h2;refine⟨h1,λhl=>?_,λo ho e he hb=>?_⟩
 .simp_all[ow]
 .have h3:=h2.2
  rw[ho]at h3;simp only[pC,Option.getD_some]at h3;rw[Array.all_eq_true']at h3;have:=h3 e he;rw[hb]at this;simp only[bI,wX]at this;unfold ow;rw[tg]at this;grind
theorem Zyk (ho:ops[i]? =some o) (hl:listed[i]? =some false) (h: ∀e∈o.after,Region.binds .any e=true->ow listed e.on):i∈Region.ready .any ops listed:=by
 unfold Region.ready;refine FD.2 ⟨Fd,?_⟩;rw[aS,kN];refine⟨by rw[tg,hl];rfl,?_⟩;rw[ho,pC,Option.getD_some,Array.all_eq_true'];intro e he;cases hb:Region.binds .any e
 .rfl
 .simp_all[ow]
section
variable {C:bE} {pr ms:al} {ops:Array Oper} {l:List (Oper×Md)} {is:List gS} {m:Nat} {A B:Nat->Env} {ss:Nat->St}
variable {f:Fr} {ψi:Ps} {L:Nat->Prop} {a:Act} {w:World} {ψ:Ps} {Q:Kn}
theorem Su.aeo (S:Su C pr ms ops l is m A B ss) {listed:Array Bool} (cJ:listed.size=ops.size): ∀(n i:Nat),i<n->i<ops.size->¬ow listed i->Region.ready .any ops listed≠[]
 |0,i,h,_,_=>absurd h (Nat.not_lt_zero i)
 |n+1,i,hn,hi,hl=>by
  have hp:l[i]? =some (l[i]'(by rw[S.P8];exact hi)):=cc _;have⟨q,x,T⟩:=S.get hp;by_cases h: ∀e∈(l[i]'(by rw[S.P8];exact hi)).1.after,Region.binds .any e=true->ow listed e.on
  .intro e
   have:=Zyk T.op (WV AC hl) h;rw[e]at this;cases this
  .simp only[Classical.not_forall]at h
   have⟨e,he,hb,hle⟩:=h;have:=T.lt _ (T.on e he hb);exact S.aeo cJ n e.on AC AC hle
theorem Inv.congr (I:Inv C f l is m A B ss ψi L a w ψ Q) (h: ∀i,L i↔L' i):Inv C f l is m A B ss ψi L' a w ψ Q:=by
 have:L=L':=funext λi=>propext (h i)
 rw[<-this];exact I
theorem ZtY (S:Su C pr ms ops l is m A B ss) (hd: ∀p∈l,∀x,p.1.dst=some x->f.ok x=true)
  (qt:Nat->Prop) (bar:m<ops.size->(∀k,m<k->k<ops.size->Co is m k)/\∀i,i<m->Co is i m\/qt i)
  (fin:m=ops.size->∀a w ψ Q L,(∀i,i<m->L i)->Inv C f l is m A B ss ψi L a w ψ Q->QQ .normal a w)
  (fH:m<ops.size->∀K a w ψ Q L,(∀i,i<m->L i\/qt i)->Inv C f l is m A B ss ψi L a w ψ Q->wpOp C.P ops QQ m K a w):
  ∀(n:Nat) (listed:Array Bool) (a:Act) (w:World) (ψ:Ps) (Q:Kn),listed.size=ops.size->listed.toList.count false<=n->Inv C f l is m A B ss ψi (ow listed) a w ψ Q->wpAny C.P .any ops QQ n listed a w:=by
 have all: ∀(listed:Array Bool) (a:Act) (w:World) (ψ:Ps) (Q:Kn),listed.size=ops.size->Region.ready .any ops listed=[]->Inv C f l is m A B ss ψi (ow listed) a w ψ Q->QQ .normal a w:=by
  intro listed a w ψ Q cJ hr I;have dH: ∀i,i<ops.size->ow listed i:=λi hi=>Classical.byContradiction λhn=>S.aeo cJ (i+1) i AC hi hn hr
  have hm:m=ops.size:=by
   rcases jw m ops.size with h|h
   .have:=I.sub m (dH m h);omega
   .exact Nat.le_antisymm S.hm h
  grind
 intro n;induction n with
 |zero=>
  intro listed a w ψ Q cJ hc I;have hr:Region.ready .any ops listed=[]:=by
   cases hr:Region.ready .any ops listed with
   |nil=>rfl
   |cons i r=>
    have⟨h1,h2,_⟩:=ZrQ (i:=i) (ops:=ops) (listed:=listed) (by rw[hr];simp);have:=ZvB listed.toList i (by rw[lU];exact WV AC h2);omega
  exact⟨hr,all listed a w ψ Q cJ hr I⟩
 |succ n ih=>
  intro listed a w ψ Q cJ hc I;refine⟨Fd,λi hi=>?_⟩;have⟨h1,h2,h3⟩:=ZrQ hi;have hp:l[i]? =some (l[i]'(by rw[S.P8];exact h1)):=cc _;have⟨q,x,T⟩:=S.get hp;have ER: ∀j,Co is j i->ow listed j:=by
   rintro j ⟨q',hq,hb⟩;rw[T.iq]at hq;cases hq;have⟨e,he,hbi,hj⟩:=T.ah8 j hb;have hl:=h3 _ T.op e he hbi;rcases hj with rfl|hj
   .exact hl
   .exact I.down _ _ hl hj
  have Ym:=ZvB listed.toList i (by rw[lU];exact WV AC h2);rcases Nat.lt_trichotomy i m with EC|EC|EC
  .refine I.step S EC hp h2 ER (hd _ (jj _)) λa' w' ψ' Q' I'=>?_
   exact ih _ _ _ ψ' Q' (by simpa using cJ) (by rw[Array.toList_setIfInBounds];omega) (I'.congr λj=>(ZAK AC j).symm)
  .grind
  .have:=I.sub m Fd
   omega
theorem Rel.drew {E:Env} {s:St} (R:Rel C f ψ E s a w):Rel C f ψ E s a { w with drawn:=w.drawn+1 } where
 fp:=R.fp.more R.gU (iD.drew w)
 iw:=R.iw
 gU:=R.gU
 mj:=R.mj
 kH:=R.kH
 oZ:=R.oZ
 defs:=R.defs
 uy:=R.uy
 wT:=R.wT
 ext:=R.ext.trans (Ext.more (iD.drew w))
 news:=R.news
 len:=R.len
 fin:=R.fin
theorem Su.start (S:Su C pr ms ops l is m A B ss) (R:Rel C f ψ (A 0) (ss 0) a w) (hN:(ss m).length<=f.N):Inv C f l is m A B ss ψ (λ_=>False) a w ψ (CR (B 0) (ss 0)):=by
 have R0:=R.jv (S.w 0 (cN _));have acB: ∀h cb,ψ h=some cb->eF (B m) (ss m) h->eF (B 0) (ss 0) h:=by
  intro h cb e hd;cases h with
  |inl i=>
   rcases jw i (ss 0).length with h|h
   .exact h
   .rw[R0.uy i h (mE hd hN)]at e;cases e
  |inr v=>
   rcases jw v (B 0).bS with h|h
   .exact h
   .rw[R0.wT v h]at e;cases e
 refine⟨R0.fp,R0.gU,R0.mj,λt j hj c1 _=>?_,λh j ab cb hj c1 _ c e=>?_,λi h hi _ hn=>?_,λh cb e=> .inl e,R0.ext,R0.oZ,R0.defs,λ_ h=>h.elim,λ_ _ h=>h.elim⟩
 .have:=S.br (j:=0) (ψ:=ψ) (x:=a.tmps.getD t undef) (t:=t) j AC Fd (R0.kH t)
  rwa [fq]at this
 .exact S.Oz (cN _) hj Fd (acB h cb e (S.wi hj (aJ _) (c.sr (S.wo j hj)))) c
 .cases e:ψ h
  .rfl
  .rename_i cb;have h1:eF (B m) (ss m) h:=S.wi (j:=i+1) AC (aJ _) ((D2 (S.w (i+1) AC) h).2 hn.2);exact absurd (S.wi (cN _) (Nat.le_of_lt hi) (acB h cb e h1)) hn.1
theorem Inv.tail (S:Su C pr ms ops l is m A B ss) (R:Rel C f ψi (A 0) (ss 0) a0 w0) (I:Inv C f l is m A B ss ψi L a w ψ Q):
  (∀i,(ss m).length<=i->i<f.N->ψ (.inl i)=none)/\(∀i cb,ψ (.inl i)=some cb->f.jh (.inl i)=some cb\/(f.s0.length<=i/\i<(ss m).length))/\f.s0.length<=(ss m).length:=by
 have hlen:(ss 0).length<=(ss m).length:=by
  rcases BF (ss 0).length with h|h
  .omega
  .have:=S.wi (h:= .inl ((ss 0).length-1)) (cN m) (aJ m) (by rw[eF];omega)
   grind[eF]
 refine⟨λi h1 h2=>?_,λi cb e=>?_,ij R.len hlen⟩
 .cases e:ψ (.inl i)
  .rfl
  .rename_i cb;rcases I.news _ cb e with e|⟨_,e⟩
   .rw[R.uy i AC h2]at e;cases e
   grind[eF]
 .rcases I.news _ cb e with e|⟨h1,h2⟩
  .rcases R.news i cb e with h|⟨h1,h2⟩
   .exact .inl h
   omega
  .simp only[eF]at h1 h2
   exact .inr ⟨by have:=R.len;omega,h2⟩
theorem Inv.done (S:Su C pr ms ops l is m A B ss) (R:Rel C f ψi (A 0) (ss 0) a0 w0) (I:Inv C f l is m A B ss ψi L a w ψ Q) (hL: ∀i,i<m->L i):Rel C f ψ (B m) (ss m) a w:=by
 have al5:(B 0).bS=(A 0).bS:=(S.w 0 (cN _)).bS;have hlen:(ss 0).length<=(ss m).length:=by
  rcases BF (ss 0).length with h|h
  .omega
  .have:=S.wi (h:= .inl ((ss 0).length-1)) (cN m) (aJ m) (by rw[eF];omega)
   grind[eF]
 have kF: ∀h ab cb,ψ h=some cb->CR (B m) (ss m) h ab->Q h ab:=λh ab cb e c=>I.kF h m ab cb (aJ _) Fd (λi hi hl=>by have:=I.sub i hl;omega) c e
 refine⟨I.fp.weaken kF,S.wo m (aJ _),I.gU,I.mj,λt=>I.kH t m (aJ _) Fd (λi p hi _ hl=>by have:=I.sub i hl;omega),I.oZ,I.defs,λi h1 h2=>?_,λv hv=>?_,I.ext.weaken kF,λi cb e=>?_,ij R.len hlen,R.fin⟩
 .cases e:ψ (.inl i)
  .rfl
  .rename_i cb;rcases I.news _ cb e with e|⟨_,e⟩
   .rw[R.uy i AC h2]at e;cases e
   grind[eF]
 .cases e:ψ (.inr v)
  .rfl
  .rename_i cb;rcases I.news _ cb e with e|⟨_,e⟩
   .refine absurd e ?_
    have:v<(B m).bS\/(A 0).bS<=v:= .inr (by
     rcases jw v (A 0).bS with h|h
     .have:=S.wi (h:= .inr v) (cN m) (aJ m) (by rw[eF];omega)
      grind[eF]
     .exact h)
    rw[R.wT v AC];simp
   grind[eF]
 .rcases I.news _ cb e with e|⟨h1,h2⟩
  .rcases R.news i cb e with h|⟨h1,h2⟩
   .exact .inl h
   omega
  .simp only[eF]at h1 h2
   exact .inr ⟨by have:=R.len;omega,h2⟩
end
section
variable {C:bE} {f:Fr} {ψ:Ps} {E E2:Env} {s s2:St} {a:Act} {w:World} {pr ms:al}
theorem pE.fn (h:pE C dst pr ms l E s s2):
  ∃(m:Nat) (p:Oper×Md) (A B:Nat->Env) (ss:Nat->St),l[m]? =some p/\A 0=E/\ss 0=s/\GW dst (B m) p.1/\p.2.x=0/\yk C p.1 (qT p.2 (B m)) (B m) (ss m) s2/\(∀k,k<=m->nQ (A k) (B k))/\
   ∀k p,k<m->l[k]? =some p->Step C dst pr ms p (B k) (ss k) (A (k+1)) (ss (k+1)):=by
 induction h with
 | @jv l E E1 s s2 k _ ih=>
  have⟨m,p,A,B,ss,h1,h2,h3,h4,h5,h6,h7,h8⟩:=ih;refine⟨m,p,λi=>if i=0 then E else A i,B,ss,h1,rfl,h3,h4,h5,h6,λi hi=>?_,λi q hi hq=>Fd⟩;have:=h7 i hi;by_cases e:i=0
  .subst e
   simp only[nM];rw[h2]at this;exact k.trans this
  grind
 | @here p l E s s' g hx hp=>
  exact⟨0,p,λ_=>E,λ_=>E,λ_=>s,rfl,rfl,rfl,g,hx,hp,λ_ _=> .refl E,λk _ hk=>AC⟩
 | @next p l E s E1 s1 s2 st _ ih=>
  have⟨m,p',A,B,ss,h1,h2,h3,h4,h5,h6,h7,h8⟩:=ih;refine⟨m+1,p',λi=>match i with|0=>E|i+1=>A i,λi=>match i with|0=>E|i+1=>B i,λi=>match i with|0=>s|i+1=>ss i,by simpa using h1,rfl,rfl,h4,h5,h6,λi hi=>?_,λi q hi hq=>?_⟩
  .cases i with
   |zero=>exact .refl E
   |succ i=>exact h7 i AC
  grind
theorem Ztj (n:Nat) (i:Nat): ¬ow (Array.replicate n false) i:=by
 grind[ow]
theorem ZBf (Bb:is=sV C.P pr ops.toList ops.toList []) (hl:l=flags C.mp is 0 is ops.toList) (fG:Fh 0 is ops.toList=true)
  (t:Tr C (oE ops) pr ms l E s E2 s2) (R:Rel C f ψ E s a w) (hN:s2.length<=f.N) (hd: ∀p∈l,∀x,p.1.dst=some x->f.ok x=true)
  (h: ∀ψ' a' w',Rel C f ψ' E2 s2 a' w'->QQ .normal a' w'):wpAny C.P .any ops QQ ops.size (Array.replicate ops.size false) a w:=by
 have hlen:l.length=ops.size:=by rw[hl,MH _ _ _ _ (by rw[Bb,MO])];simp
 have⟨A,B,ss,h1,h2,h3,h4,h5⟩:=t.fn;have S:Su C pr ms ops l is ops.size A (λk=>if k=ops.size then E2 else B k) ss:=by
  refine⟨Bb,hl,fG,aJ _,λk hk=>?_,λk p hk hp=>?_,by rw[h1];exact R.iw⟩
  .by_cases e:k=ops.size
   .grind
   .simp only[e,ot]
    exact(h5 k _ (cc AC)).1
  grind
 rw[<-h1,<-h2]at R;refine ZtY (f:=f) S hd (λ_=>False) AC (λ_ a' w' ψ' Q' L hL I=>?_) AC _ _ _ _ _ _ Do (by rw[Array.toList_replicate,List.count_replicate_self];exact aJ _)
  ((S.start R (by rw[<-hlen,h3];exact hN)).congr λi=>⟨False.elim,Ztj _ i⟩)
 have:=I.done S R hL;grind
theorem ZAw (Bb:is=sV C.P pr ops.toList ops.toList []) (hl:l=flags C.mp is 0 is ops.toList) (fG:Fh 0 is ops.toList=true)
  (t:pE C (oE ops) pr ms l E s s2) (R:Rel C f ψ E s a w) (hN:s2.length<=f.N) (hd: ∀p∈l,∀x,p.1.dst=some x->f.ok x=true)
  (h: ∀ch a' w',qf ch->tA C f s2 a' w'->QQ (.panic ch) a' w'):wpAny C.P .any ops QQ ops.size (Array.replicate ops.size false) a w:=by
 have hlen:l.length=ops.size:=by rw[hl,MH _ _ _ _ (by rw[Bb,MO])];simp
 have⟨m,p,A,B,ss,hp,h1,h2,hg,hx,wH,hw,cq⟩:=t.fn;have hm:m<ops.size:=by
  grind
 have S:Su C pr ms ops l is m A B ss:=⟨Bb,hl,fG,AC,hw,cq,by rw[h1];exact R.iw⟩;have hmN:(ss m).length<=f.N:=ij wH.1 hN;rw[<-h1,<-h2]at R;have⟨q,x,T⟩:=S.get hp;have Bi:x=0:=by rw[T.md]at hx;exact hx
 have hz:=T.zero Bi;refine ZtY (f:=f) (ψi:=ψ) S hd (λi=>∀q',is[i]? =some q'->Ee q'.k=true/\q.bf.testBit i=false/\q'.bf.testBit m=false) (λ_=>⟨λk h1 h2=>?_,λi hi=>?_⟩) (λe=>AC) (λ_ K a' w' ψ' Q' L hL I=>?_) _ _ _ _ _ _ Do (by rw[Array.toList_replicate,List.count_replicate_self];exact aJ _)
  ((S.start R hmN).congr λi=>⟨False.elim,Ztj _ i⟩)
 .have hq:is[k]? =some (is[k]'(by rw[S.isLen];exact h2)):=cc _
  rcases hz k _ hq AC with h|h|h
  .exact⟨_,hq,h⟩
  .have:=T.lt k h;omega
  .omega
 .have hq:is[i]? =some (is[i]'(by rw[S.isLen];omega)):=cc _
  have late:(is[i]'(by rw[S.isLen];omega)).bf.testBit m=false:=by
   cases h:(is[i]'(by rw[S.isLen];omega)).bf.testBit m
   .rfl
   .have hpi:l[i]? =some (l[i]' AC):=cc _;have⟨q',x',T'⟩:=S.get hpi;have e:=T'.iq;rw[hq]at e;cases e;have:=T'.lt m h;omega
  cases hb:q.bf.testBit i
  .grind
  .exact .inl ⟨q,T.iq,hb⟩
 .have hLm: ¬L m:=λh=>by have:=I.sub m h;omega
  have⟨pre,zg⟩:=I.pre S (aJ m) hp hLm (λj hb=>by
   have⟨q',e,hb⟩:=hb;rw[T.iq]at e;cases e;rcases hL j (T.lt j hb)with h|h
   .exact h
   .have hq:is[j]? =some (is[j]'(by rw[S.isLen];have:=T.lt j hb;omega)):=cc _
    rw[(h _ hq).2.1]at hb;cases hb) (λk p' hk gm hl=>by
   have⟨q',x',T'⟩:=S.get gm;rcases hL k hk with h|h
   .exact absurd h hl
   .have⟨h1,h2,_⟩:=h q' T'.iq
    refine⟨λt ht=>?_,λy hw=>?_⟩
    .have⟨_,_,ha⟩:=Nb S.ok k q' T'.iq
     rcases ha m q hk T.iq with ha|ha
     .rw[fq,h2]at ha;cases ha
     .have⟨_,e1,_,_⟩:=ha
      rw[T'.dst,T.lk,ht]at e1;exact e1
    .rw[T'.md]at hw
     generalize q'.k=z at h1 hw;cases z<;>first|exact hw.elim|cases h1) (λk p' hk _ hl=>by have:=I.sub k hl;omega)
  have⟨alz,aeZ,aly⟩:=I.tail S R;unfold wpOp;simp only[T.op];rw[bx (Zpf zg hg)];refine .inl (wH.2 ψ' Q' a' w' K QQ pre (λk hk=>?_) λHV FQ ch yd g0 g1 g2 g3 g4=>h ch a' yd g0 ⟨I.defs,I.oZ,_,Go.Gv.AH (s':=s2) R.fin g1 (I.ext.trans g2) g4 λi cb e=>?_⟩)
  .cases k with
   |inl i=>
    have h1:=hk.1;have h2:=hk.2
    grind[eF]
   |inr v=>
    have h1:=hk.1;have h2:=hk.2
    exact absurd h2 h1
  .rcases g3 _ cb e with e|⟨n1,n2⟩
   .rcases aeZ i cb e with h|⟨h1,h2⟩
    .exact .inl h
    .exact .inr ⟨h1,mE h2 wH.1⟩
   grind[eF]
end
variable {K:Env->M Y}
section
variable {C:bE} {f:Fr} {ψ:Ps} {E E2:Env} {s s2:St} {a:Act} {w:World} {pr:al}
theorem Gu: ∀ {l:List Oper} {n:Nat->Bool},okO n l=true->∀o∈l,∀x,o.dst=some x->n x=true
 |[],_,_,o,ho,_,_=>by cases ho
 |y::r,n,h,o,ho,x,hx=>by
  simp only[okO,aS]at h;cases ho with
  |head=>
   have h1:=h.1;rw[hx]at h1;exact h1
  |tail _ ho=>exact Gu h.2 o ho x hx
theorem ZwB (pr:al) (ops:List Oper) (y:Oper) (r:List Oper) (x:Nat) (h:has (match y.dst with|some d=>d::zL pr ops r|none=>zL pr ops r) x=true):has (zL pr ops (y::r)) x=true:=by
 rw[zL];split
 .split
  .rw[has,mB];exact .inr h
  .exact h
 .rw[has,mB];exact .inr h
 .exact h
theorem ZxG {ops:List Oper} {x:Nat} (hx:o.dst=some x): ∀(l:List Oper),o∈l->has (zL pr ops l) x=true:=by
 intro l;induction l with
 |nil=>intro ho;cases ho
 |cons y r ih=>
  intro ho;refine ZwB pr ops y r x ?_;cases ho with
  |head=>rw[hx];simp[has]
  |tail _ ho=>
   have:=ih ho;cases y.dst with
   |none=>exact this
   |some d=>simp[has,this]
theorem ZsK (hC:qd C) (hc:ZW C c) {d:Bool} (h:Qn C pr c ops d E K s=some r):
  (∃E' s',s.length<=s'.length/\K E' s'=some r/\Mod (λu=>has (nI pr (.region 0 ops d)) u=false) E E'/\
   ∀ {f:Fr} {ψ:Ps} {a:Act} {w:World} (QQ:Exit->Act->World->Prop) (id:Nat),Rel C f ψ E s a w->C.P.follows .mixedOrders=true->okO f.ok ops.toList=true->s'.length<=f.N->
    (∀ψ' a' w',Rel C f ψ' E' s' a' w'->QQ .normal a' w')->(Code.region id ops d).wp C.P QQ a w)\/
  (∃s',r=(.fH,s')/\s.length<=s'.length/\
   ∀ {f:Fr} {ψ:Ps} {a:Act} {w:World} (QQ:Exit->Act->World->Prop) (id:Nat),Rel C f ψ E s a w->C.P.follows .mixedOrders=true->okO f.ok ops.toList=true->s'.length<=f.N->
    (∀ch a' w',qf ch->tA C f s' a' w'->QQ (.panic ch) a' w')->(Code.region id ops d).wp C.P QQ a w):=by
 have ake: ∀(l:List (Oper×Md)),(∀p∈l,p.1∈ops.toList)->∀u,has (nI pr (.region 0 ops d)) u=false->Mz (zL pr ops.toList ops.toList) l u:=by
  intro l hl u hu;refine⟨λp hp e=>?_,hu⟩;have:=ZxG (pr:=pr) (ops:=ops.toList) e _ (hl p hp);simp only[nI]at hu;rw[hu]at this;cases this
 have wk: ∀ {l:List (Oper×Md)} {E':Env},(∀p∈l,p.1∈ops.toList)->Mod (Mz (zL pr ops.toList ops.toList) l) E E'->Mod (λu=>has (nI pr (.region 0 ops d)) u=false) E E':=
  λhl m=>⟨λu hu=>m.get u (ake _ hl u hu),m.bS,m.yc,m.zW⟩
 cases d
 .simp only[Qn,af]at h;have hl: ∀p∈ops.toList.map (λo=>(o,Md.s)),p.1∈ops.toList:=by
   simp
  have hi: ∀k p,(ops.toList.map λo=>(o,Md.s))[k]? =some p->ops[0+k]? =some p.1:=by
   simp
  have cJ:(ops.toList.map λo=>(o,Md.s)).length=ops.size:=Do
  rcases ZrI (dst:=oE ops) hC hc (ops:=ops.toList) _ _ _ _ _ _ h (λp hp=>by obtain⟨o,_,rfl⟩:=jK.1 hp;exact .inl rfl) (λg hg=>by cases hg)with⟨E',s',t,hk,_,hm⟩|⟨s',e,t⟩
  .refine .inl ⟨E',s',t.len,hk,wk hl hm,λQQ id R _ ho hN hn=>wp_region ?_⟩
   have:=Zzv (QQ:=QQ) t R hN (λp hp x hx=>Gu ho p.1 (hl p hp) x hx) hi hn;rw[cJ]at this;rwa [Mh]
  .refine .inr ⟨s',e,t.len,λQQ id R _ ho hN hn=>wp_region ?_⟩
   have:=ZwY (QQ:=QQ) t R hN (λp hp x hx=>Gu ho p.1 (hl p hp) x hx) hi hn;rw[cJ]at this;rwa [Mh]
 .simp only[Qn,ae]at h;have⟨fG,h⟩:=Zq h;have hl: ∀p∈flags C.mp (sV C.P pr ops.toList ops.toList []) 0 (sV C.P pr ops.toList ops.toList []) ops.toList,p.1∈ops.toList:=by
   intro p hp;have⟨k,hk⟩:=Fv hp;obtain⟨q,o,_,h2,rfl⟩:=Nd _ _ _ _ _ _ hk;grind
  rcases ZrI (dst:=oE ops) hC hc (ops:=ops.toList) _ _ _ _ _ _ h (λp hp=>by
   have⟨k,hk⟩:=Fv hp;obtain⟨q,o,h1,h2,rfl⟩:=Nd _ _ _ _ _ _ hk;have⟨o',g1,_,g3,_,_⟩:=VZ _ _ _ _ _ _ _ h1;rw[h2]at g1;cases g1;exact .inr ⟨_,_,_,by rw[g3]⟩) (λg hg=>by cases hg)with⟨E',s',t,hk,_,hm⟩|⟨s',e,t⟩
  .exact .inl ⟨E',s',t.len,hk,wk hl hm,λQQ id R hf ho hN hn=>wp_region_any hf (ZBf rfl rfl fG t R.drew hN (λp hp x hx=>Gu ho p.1 (hl p hp) x hx) hn)⟩
  .exact .inr ⟨s',e,t.len,λQQ id R hf ho hN hn=>wp_region_any hf (ZAw rfl rfl fG t R.drew hN (λp hp x hx=>Gu ho p.1 (hl p hp) x hx) hn)⟩
end
theorem fI.cast (hS:fI C ψ Q w) (hc: ∀h cb ab,ψ' h=some cb->Q' h ab->ψ h=some cb/\∃de,Q h de/\(ab.iC=true->de.iC=true)/\(Holds C ψ w cb de->Holds C ψ' w cb ab)):fI C ψ' Q' w:=by
 constructor
 .intro h cb ab e q
  have⟨e0,de,q0,_,hh⟩:=hc h cb ab e q;exact hh (hS.holds h cb de e0 q0)
 .intro h cb ab h' gH de e q hs e' q' hn
  have⟨e0,x,q0,s0,_⟩:=hc h cb ab e q;have⟨e1,y,q1,_,_⟩:=hc h' gH de e' q';exact hS.vg h cb x h' gH y e0 q0 (s0 hs) e1 q1 hn
theorem Ext.cast (hE:Ext jh Q0 w0 ψ Q w) (hm: ∀h cb,jh h=some cb->ψ' h=some cb) (hp: ∀h cb,ψ' h=some cb->ψ h=some cb)
  (hc: ∀h cb ab,ψ' h=some cb->Q' h ab->∃de,Q h de/\(ab.iC=true->de.iC=true)):Ext jh Q0 w0 ψ' Q' w where
 mono:=hm
 uu:=λh cb e=>hE.uu h cb (hp h cb e)
 size:=hE.size
 kE:=hE.kE
 iC:=λb ⟨h,cb,ab,e,q,hs,hb⟩=>by
  have⟨de,q',jt⟩:=hc h cb ab e q;exact hE.iC b ⟨h,cb,de,hp h cb e,q',jt hs,hb⟩
 live:=λh cb x e q=>by
  have⟨de,q',_⟩:=hc h cb x (hm h cb e) q;exact hE.live h cb de e q'
 tape:=hE.tape
 os:=hE.os
 output:=hE.output
def ve (ψ:Ps) (N:Nat):Ps
 | .inl i=>ψ (.inl i)
 | .inr v=>if v<N then ψ (.inr v)else none
theorem UO (e:ve ψ N h=some cb):ψ h=some cb:=by
 grind[ve]
structure QK (cs cs':List DV):Prop where
 len:cs'.length=cs.length
 rel: ∀(C:bE) ψ vs,bJ C ψ cs vs->bJ C ψ cs' vs
 one:cs.all one=true->cs'.all one=true
theorem Holds.afz {f:Bool} (k:QK cs cs') (h:Holds C ψ w cb (.cells f cs)):Holds C ψ w cb (.cells f cs'):=by
 have⟨h1,h2,h3,h4⟩:=h;refine⟨by rw[k.len];exact h1,k.one h2,λj d hd=>?_,h4⟩;have hv:bJ C ψ cs ((List.range cs.length).map λj=>(w.cell? ⟨cb.b,cb.o+j,none⟩).getD undef):=by
  refine bJ.of _ _ Do λj d v g1 g2=>?_
  grind
 have⟨v,fm,hr⟩:=(k.rel C ψ _ hv).get hd;rw[nf]at fm;have hj:j<cs.length:=by
  grind
 rw[Fw hj]at fm;simp only[pC,gf]at fm;have⟨v',hc,_⟩:=h3 j cs[j] (cc hj);rw[hc]at fm;grind
inductive Wj (e:fg):fg->Prop
 |u:Wj e .u
 |same:Wj e e
 |v (d d':DV):e= .v d->(∀(C:bE) ψ x,VR C ψ d x->VR C ψ d' x)->Wj e (.v d')
 |loc (v n:Nat) (cs cs':ah):e= .loc v n cs->QK cs cs'->Wj e (.loc v n cs')
structure BO (E E':Env):Prop where
 bS:E'.bS<=E.bS
 get: ∀t,Wj (E.get t) (E'.get t)
 dp: ∀t v,(E'.get t).dp=some v->v<E'.bS
 pl: ∀t r v o,E'.get t= .pl r v o->v<E'.bS
theorem Wj.dp {e e':fg} (h:Wj e e') {v:Nat} (hv:e'.dp=some v):e.dp=some v:=by
 cases h with
 |u=>cases hv
 |same=>exact hv
 |v d d' _ _=>cases hv
 |loc v' n cs cs' he _=>rw[he];exact hv
section
variable {C:bE} {f:Fr} {ψ:Ps} {E E':Env} {s:St} {a:Act} {w:World}
theorem CR.zX (k:BO E E') (c:CR E' s h ab): ∃de,CR E s h de/\(ab.iC=true->de.iC=true)/\∀(C:bE) ψ w cb,Holds C ψ w cb de->Holds C ψ w cb ab:=by
 cases h with
 |inl i=>exact⟨ab,c,λh=>h,λ_ _ _ _ h=>h⟩
 |inr v=>
  rcases c with⟨t,n,cs,e,rfl⟩|⟨t,l,p,e,rfl⟩
  .have:=k.get t
   rw[e]at this;generalize he:E.get t=x at this;cases this with
   |same=>exact⟨_,.inl ⟨t,n,cs,he,rfl⟩,λh=>h,λ_ _ _ _ h=>h⟩
   |loc _ _ nY _ h1 h2=>exact⟨_,.inl ⟨t,n,nY,he.trans h1,rfl⟩,λh=>h,λ_ _ _ _ h=>h.afz h2⟩
  .have:=k.get t
   rw[e]at this;generalize he:E.get t=x at this;cases this with
   |same=>exact⟨_,.inr ⟨t,l,p,he,rfl⟩,λh=>h,λ_ _ _ _ h=>h⟩
theorem Holds.ve {N:Nat} {cb:CB} {ab:AB} (h:Holds C ψ w cb ab):Holds C (Go.Gv.ve ψ N) w cb ab:=h.same (ψ:=ψ) (ψ':=Go.Gv.ve ψ N) (λ_ _ e=>e) rfl
theorem jV.zX (h:jV E) (k:BO E E'):jV E':=by
 refine⟨k.dp,k.pl,λt v n cs e=>?_,λt t' v hv fm=>h.uniq t t' v ((k.get t).dp hv) ((k.get t').dp fm)⟩;have:=k.get t;rw[e]at this;generalize he:E.get t=x at this;cases this with
 |same=>exact h.len t v n cs he
 |loc _ _ nY _ h1 h2=>rw[h2.len];exact h.len t v n nY (he.trans h1)
theorem Rel.zX (R:Rel C f ψ E s a w) (k:BO E E'):Rel C f (ve ψ E'.bS) E' s a w where
 fp:=R.fp.cast λh cb ab e c=>by
  have⟨de,c',hs,hh⟩:=c.zX k;exact⟨UO e,de,c',hs,λx=>(hh C ψ w cb x).ve⟩
 iw:=R.iw.zX k
 gU:=λh cb e=>R.gU h cb (UO e)
 mj:=λg hg=>R.mj g hg
 kH:=λt=>by
  have h:=R.kH t;have zD:=k.dp t;have jT:=k.pl t;have kE: ∀v cb,v<E'.bS->ψ (.inr v)=some cb->ve ψ E'.bS (.inr v)=some cb:=λv cb hv e=>by grind[ve]
  have:=k.get t;generalize Hg:E'.get t=x' at this zD jT;generalize he:E.get t=x at this h;have same:gh C ψ x' (a.tmps.getD t Go.undef)->gh C (ve ψ E'.bS) x' (a.tmps.getD t Go.undef):=by
   intro h;cases x' with
   |u=>trivial
   |un=>exact h
   |v d=>exact VR.mono (ψ:=ψ) (ψ':=ve ψ E'.bS) (λ_ _ e=>e) h
   |rN ds=>have⟨vs,e,r⟩:=h;exact⟨vs,e,r.mono (ψ:=ψ) (ψ':=ve ψ E'.bS) λ_ _ e=>e⟩
   |loc v n cs=>have⟨cb,e,r⟩:=h;exact⟨cb,kE v cb (zD v rfl) e,r⟩
   |pl q v n=>have⟨cb,e,r⟩:=h;exact⟨cb,kE v cb (jT q v n rfl) e,r⟩
   |it v l p=>have⟨cb,e,r⟩:=h;exact⟨cb,kE v cb (zD v rfl) e,r⟩
  cases this with
  |u=>trivial
  |same=>exact same h
  |v d d' e hc=>subst e;exact same (hc C ψ _ h)
  |loc v n cs cs' e hc=>subst e;exact same h
 oZ:=R.oZ
 defs:=R.defs
 uy:=R.uy
 wT:=λv hv=>by grind[ve]
 ext:=R.ext.cast (λh cb e=>by
   cases h with
   |inl i=>exact R.ext.mono _ _ e
   |inr v=>rw[R.fin]at e;cases e) (λh cb e=>UO e) (λh cb ab _ c=>by
   have⟨de,c',hs,_⟩:=c.zX k;exact⟨de,c',hs⟩)
 news:=λi cb e=>R.news i cb e
 len:=R.len
 fin:=R.fin
inductive GJ (E0 E:Env):List (Nat×JS)->List DV->Prop
 |nil:GJ E0 E [] []
 |v (t:Nat) (x:Sh) (d:DV) (r:List (Nat×JS)) (ds:ah):E.get t= .v d->GJ E0 E r ds->GJ E0 E ((t,.v x)::r) (d::ds)
 |l (t:Nat) (x:List B) (v n n0:Nat) (cs nY:ah) (r:List (Nat×JS)) (ds:ah):E.get t= .loc v n cs->E0.get t= .loc v n0 nY->GJ E0 E r ds->GJ E0 E ((t,.l x)::r) (.agg cs::ds)
 |t (t:Nat) (v:Nat) (l l0:aj) (p p0:Nat) (r:List (Nat×JS)) (ds:ah):E.get t= .it v l p->E0.get t= .it v l0 p0->GJ E0 E r ds->GJ E0 E ((t,.t)::r) (.nat p::ds)
theorem yv {E0 E:Env} : ∀ {J:List (Nat×JS)} {K:ah->M Y} {s:St} {r:Out Y×St},tS E0 E J K s=some r->∃ds,GJ E0 E J ds/\K ds s=some r
 |[],K,s,r,h=>⟨[],.nil,h⟩
 |(t,x)::J,K,s,r,h=>by
  simp only[tS]at h;cases x with
  |v x=>
   cases e:E.get t with
   |v d=>
    rw[e]at h;have⟨ds,g,hk⟩:=yv h;exact⟨_,.v t x d J ds e g,hk⟩
   |_=>rw[e]at h;cases h
  |l x=>
   cases e:E.get t with
   |loc v n cs=>
    rw[e]at h;cases e0:E0.get t with
    |loc v0 n0 nY=>
     rw[e0]at h;simp only at h;have⟨hv,h2⟩:=Zq h;have:=dQ hv;subst this;have⟨ds,g,hk⟩:=yv h2;exact⟨_,.l t x v0 n n0 cs nY J ds e e0 g,hk⟩
    |_=>rw[e0]at h;cases h
   |_=>rw[e]at h;cases h
  |t=>
   cases e:E.get t with
   |it v l p=>
    rw[e]at h;cases e0:E0.get t with
    |it v0 l0 p0=>
     rw[e0]at h;simp only at h;have⟨hv,h2⟩:=Zq h;have:=dQ hv;subst this;have⟨ds,g,hk⟩:=yv h2;exact⟨_,.t t v0 l l0 p p0 J ds e e0 g,hk⟩
    |_=>rw[e0]at h;cases h
   |_=>rw[e]at h;cases h
inductive PJ (E:Env):List (Nat×JS)->List DV->Env->Env->Prop
 |nil (E1:Env):PJ E [] [] E1 E1
 |v (t:Nat) (x:Sh) (d d':DV) (r:List (Nat×JS)) (ds:ah) (E1 E':Env):(∀(C:bE) ψ x,VR C ψ d x->VR C ψ d' x)->PJ E r ds (E1.put t (.v d')) E'->PJ E ((t,.v x)::r) (d::ds) E1 E'
 |l (t:Nat) (x:List B) (v n:Nat) (nY cs cs':ah) (r:List (Nat×JS)) (ds:ah) (E1 E':Env):E.get t= .loc v n nY->QK cs cs'->PJ E r ds (E1.put t (.loc v n cs')) E'->PJ E ((t,.l x)::r) (.agg cs::ds) E1 E'
 |t (t:Nat) (v:Nat) (l:aj) (p0 p:Nat) (r:List (Nat×JS)) (ds:ah) (E1 E':Env):E.get t= .it v l p0->PJ E r ds (E1.put t (.it v l p)) E'->PJ E ((t,.t)::r) (.nat p::ds) E1 E'
theorem DX {E:Env} : ∀ {J:List (Nat×JS)} {st:ah} {E1:Env} {K:Env->M Y} {s:St} {r:Out Y×St},uq E J st E1 K s=some r->∃E',PJ E J st E1 E'/\K E' s=some r
 |[],st,E1,K,s,r,h=>by
  simp only[uq]at h;cases st with
  |nil=>exact⟨E1,.nil E1,h⟩
  |cons _ _=>cases h
 |(t,x)::J,st,E1,K,s,r,h=>by
  simp only[uq]at h;cases st with
  |nil=>cases h
  |cons d rest=>
   simp only[lF]at h;cases x with
   |v x=>
    have⟨d',h,hd,_⟩:=NV h;have⟨E',g,hk⟩:=DX h;exact⟨E',.v t x d d' J rest E1 E' hd g,hk⟩
   |l x=>
    cases e:E.get t with
    |loc v n nY=>
     rw[e]at h;cases d with
     |agg cs=>
      have⟨cs',h,hl,hr,h1⟩:=IP h;have⟨E',g,hk⟩:=DX h;exact⟨E',.l t x v n nY cs cs' J rest E1 E' e ⟨hl,hr,h1⟩ g,hk⟩
     |_=>cases h
    |_=>rw[e]at h;cases h
   |t=>
    cases e:E.get t with
    |it v l p0=>
     rw[e]at h;cases d with
     |nat p=>
      have⟨E',g,hk⟩:=DX h;exact⟨E',.t t v l p0 p J rest E1 E' e g,hk⟩
     |_=>cases h
    |_=>rw[e]at h;cases h
theorem PJ.zX (h0:jV E0) (hv: ∀t v n cs,E2.get t= .loc v n cs->(∃nY,E0.get t= .loc v n nY)\/E0.bS<=v) (hi: ∀t v l p,E2.get t= .it v l p->(∃p0,E0.get t= .it v l p0)\/E0.bS<=v):
  ∀ {J:List (Nat×JS)} {ds:ah} {E1 E':Env},GJ E0 E2 J ds->PJ E0 J ds E1 E'->E1.bS=E0.bS->E0.bS<=E2.bS->BO E2 E1->BO E2 E'/\E'.bS=E0.bS/\(∀iK u,Dm iK J=true->has iK u=false->E'.get u=E1.get u):=by
 intro J;induction J with
 |nil=>
  intro ds E1 E' g p h1 _ k;cases g;cases p;grind
 |cons x J ih=>
  intro ds E1 E' g p h1 hn k;obtain⟨t,x⟩:=x;have fin: ∀ {e:fg} {ds:ah},Wj (E2.get t) e->(∀v,e.dp=some v->v<E0.bS)->(∀r v o,e≠ .pl r v o)->GJ E0 E2 J ds->PJ E0 J ds (E1.put t e) E'->BO E2 E'/\E'.bS=E0.bS/\(∀iK u,Dm iK ((t,x)::J)=true->has iK u=false->E'.get u=E1.get u):=by
   intro e ds hw zD jT g p;have⟨r1,r2,r3⟩:=ih g p (by simpa using h1) hn ⟨by simp[h1,hn],λu=>by
     rw[Env.tT];split
     .grind
     .exact k.get u,λu v e=>by
     rw[Env.tT]at e;rw[Env.aef,h1];split at e
     .exact zD v e
     .have:=k.dp u v e;omega,λu r v o e=>by
     rw[Env.tT]at e;rw[Env.aef,h1];split at e
     .grind
     .have:=k.pl u r v o e;omega⟩
   refine⟨r1,r2,λiK u h1 h2=>?_⟩;simp only[Dm,aS]at h1;rw[r3 iK u h1.2 h2,Env.tT,aY];grind
  cases p with
  |v _ sx d d' _ ds _ _ hc p=>
   cases g with
   |v _ _ _ _ _ e g=>exact fin (.v d d' e hc) (λv h=>by cases h) (λ_ _ _ h=>by cases h) g p
  |l _ sx v n nY cs cs' _ ds _ _ he hc p=>
   cases g with
   |l _ _ v2 n2 n0 _ cE _ _ e e0 g=>
    rw[he]at e0;cases e0;rcases hv t _ _ _ e with⟨c,e1⟩|e1
    .rw[he]at e1;cases e1
     exact fin (.loc _ _ cs cs' e hc) (λv h=>by cases h;exact h0.lt t _ (by rw[he];rfl)) (λ_ _ _ h=>by cases h) g p
    .have:=h0.lt t _ (by rw[he];rfl);omega
  |t _ v l p0 q _ ds _ _ he p=>
   cases g with
   |t _ v2 l2 l0 _ p2 _ _ e e0 g=>
    rw[he]at e0;cases e0;rcases hi t _ _ _ e with⟨c,e1⟩|e1
    .rw[he]at e1;cases e1
     exact fin (by rw[e];exact .same) (λv h=>by cases h;exact h0.lt t _ (by rw[he];rfl)) (λ_ _ _ h=>by cases h) g p
    .have:=h0.lt t _ (by rw[he];rfl);omega
abbrev Un (l:al) (u:Nat):Prop:=has l u=false
theorem Ur (h0:jV E0) (hm:Mod (Un iK) E0 E2) (g:GJ E0 E2 J ds) (p:PJ E0 J ds (E0.del iK) E') (hj:Dm iK J=true):
  BO E2 E'/\Mod (Un iK) E0 E':=by
 have k0:BO E2 (E0.del iK):=by
  refine⟨hm.bS,λt=>?_,λt v e=>?_,λt r v o e=>?_⟩
  .rw[Az]
   cases h:has iK t
   .rw[hm.get t h];exact .same
   .exact .u
  .rw[Az]at e
   split at e
   .cases e
   .exact h0.lt t v e
  .rw[Az]at e
   split at e
   .cases e
   .exact h0.pl t r v o e
 have⟨r1,r2,r3⟩:=PJ.zX h0 hm.yc hm.zW g p rfl hm.bS k0;have und: ∀u,Un iK u->E'.get u=E0.get u:=λu hu=>by
  have hu':has iK u=false:=hu;rw[r3 iK u hj hu,Az,hu'];rfl
 refine⟨r1,und,AC,λt v n cs e=>?_,λt v l p e=>?_⟩
 .have:=r1.get t
  rw[e]at this;generalize he:E2.get t=x at this;cases this with
  |same=>exact hm.yc t v n cs he
  |loc _ _ nY _ h1 _=>exact hm.yc t v n nY (he.trans h1)
 .have:=r1.get t
  rw[e]at this;generalize he:E2.get t=x at this;cases this with
  |same=>exact hm.zW t v l p he
end
def Lk (K:Env->M Y) (r:Out Y×St):Prop:=∀E s,K E s=some r->s.length<=r.2.length
theorem M6 {g:(Env->M Y)->M Y} (h:aaT E iK J K g s=some r):
  Dm iK J=true/\g (λE1=>tS E E1 J λst=>uq E J st (E.del iK) K) s=some r:=by
 have⟨h1,h⟩:=Zq h;rw[Ov]at h;exact⟨h1,h⟩
theorem U5 (h:tS E0 E1 J (λst=>uq E0 J st (E0.del iK) K) s=some r):
  ∃ds E',GJ E0 E1 J ds/\PJ E0 J ds (E0.del iK) E'/\K E' s=some r:=by
 have⟨ds,g,h⟩:=yv h;have⟨E',p,h⟩:=DX h;grind
theorem Lk.Lj (h:Lk K r):Lk (λE1=>tS E0 E1 J λst=>uq E0 J st (E0.del iK) K) r:=by
 intro E1 s hs;have⟨_,E',_,_,hs⟩:=U5 hs;exact h E' s hs
theorem Lk.block {kx:Nat->Env->M Y} (h:Lk K r) (hx: ∀i,Lk (kx i) r): ∀i,Lk (λE1=>bif Nat.beq i id then K E1 else kx i E1) r:=by
 intro i E s hs;cases hb:Nat.beq i id
 .simp only[hb]at hs;exact hx i E s hs
 .simp only[hb]at hs;exact h E s hs
section
variable {C:bE} {pr:al} {c:Zf} {n:Nat} {r:Out Y×St}
theorem Je (hC:qd C) (hc:ZW C c): ∀(code:Code) (A:rV) (kn:Env->M Y) (kx:Nat->Env->M Y) (kr:Env->M Y),Lk kn r->(∀i,Lk (kx i) r)->Lk kr r->Lk (exec C pr c n code A kn kx kr) r:=by
 intro code;induction code with
 |skip=>intro A kn kx kr hn hx hr E s h;exact hn E s h
 |region id ops d=>
  intro A kn kx kr hn hx hr E s h;simp only[exec]at h;rcases ZsK hC hc h with⟨E',s',hl,hk,_,_⟩|⟨s',e,hl,_⟩
  .exact ij hl (hn E' s' hk)
  .rw[e];exact hl
 |seq a b Fa HJ=>
  intro A kn kx kr hn hx hr E s h;simp only[exec]at h;exact Fa A.a _ kx kr Fd hx hr E s h
 |cond x a b Fa HJ=>
  intro A kn kx kr hn hx hr E s h;simp only[exec]at h;have⟨v,_,h⟩:=UA h;have two: ∀ {A1 A2:rV} {kn:Env->M Y},Lk kn r->(bif v then exec C pr c n a A1 kn kx kr E else exec C pr c n b A2 kn kx kr E) s=some r->s.length<=r.2.length:=by
   intro A1 A2 kn hn h;cases v
   .exact HJ A2 kn kx kr hn hx hr E s h
   .exact Fa A1 kn kx kr hn hx hr E s h
  cases A with
  |j J A1 A2=>exact two (Lk.Lj hn) (M6 h).2
  |z=>exact two hn h
  |n A1 A2=>exact two hn h
 |block id body ih=>
  intro A kn kx kr hn hx hr E s h;simp only[exec]at h;cases A with
  |j J A1 A2=>exact ih A1 _ _ kr (Lk.Lj hn) (Lk.block (Lk.Lj hn) hx) hr E s (M6 h).2
  |z=>exact ih _ _ _ kr hn (Lk.block hn hx) hr E s h
  |n A1 A2=>exact ih _ _ _ kr hn (Lk.block hn hx) hr E s h
 |loop body ih=>
  intro A kn kx kr hn hx hr E s h;simp only[exec]at h;cases A with
  |j J A1 A2=>
   have⟨hj,h⟩:=Zq h;have⟨st,_,h⟩:=yv h;have key: ∀(k:Nat) (st:ah) (s:St),dc (λrec st=>uq E J st (E.del (nI pr body)) λE1=>exec C pr c n body A1 (λE2=>tS E E2 J rec) kx kr E1) k st s=some r->s.length<=r.2.length:=by
    intro k;induction k with
    |zero=>intro st s h;cases h
    |succ k ihk=>
     intro st s h;simp only[dc]at h;have⟨E',_,h⟩:=DX h;refine ih A1 _ kx kr (λE2 s2 h2=>?_) hx hr E' s h;have⟨gL,_,h2⟩:=yv h2;exact ihk gL s2 h2
   exact key n st s h
  |z=>cases h
  |n A1 A2=>cases h
 |exit id=>intro A kn kx kr hn hx hr E s h;exact hx id E s h
 |ret=>intro A kn kx kr hn hx hr E s h;exact hr E s h
 |_=>intros;intro E s h;cases h
theorem Zo2 (l l':al) (u:Nat):has (l++l') u=(has l u||has l' u):=by
 induction l with
 |nil=>rfl
 |cons x l ih=>simp[oo,has,ih,Bool.or_assoc]
theorem Un.left {l:al} (h:Un (l++l') u):Un l u:=by
 have h':has (l++l') u=false:=h;rw[Zo2,yf]at h';exact h'.1
theorem Un.right {l:al} (h:Un (l++l') u):Un l' u:=by
 have h':has (l++l') u=false:=h;rw[Zo2,yf]at h';exact h'.2
theorem Mod.un {un:Nat->Prop} (h:Mod un E E') (k: ∀u,LQ u->un u):Mod LQ E E':=⟨λu hu=>h.get u (k u hu),h.bS,h.yc,h.zW⟩
variable {f:Fr}
theorem Rel.eval {ψ:Ps} {E:Env} {s:St} {a:Act} {w:World} (R:Rel C f ψ E s a w) (x:Operand):gh C ψ (E.src C x) (a.eval x):=by
 have p:aB C ⟨none,.move x,0, "", #[],none⟩ (λ_=>True) E s ψ (CR E s) a w:=R.pre;exact p.src (by simp[Op.operands])
theorem WL (hC:qd C) (hc:ZW C c) (AY:C.P.follows .mixedOrders=true) (hN:r.2.length<=f.N): ∀(code:Code) (A:rV) (kn:Env->M Y) (kx:Nat->Env->M Y) (kr:Env->M Y),zN f.ok code=true->Lk kn r->(∀i,Lk (kx i) r)->Lk kr r->
  ∀(E:Env) (s:St),exec C pr c n code A kn kx kr E s=some r->∀(ψ:Ps) (a:Act) (w:World) (QQ:Exit->Act->World->Prop),Rel C f ψ E s a w->
  (∀E' s' ψ' a' w',kn E' s'=some r->Rel C f ψ' E' s' a' w'->Mod (Un (nI pr code)) E E'->QQ .normal a' w')->
  (∀i E' s' ψ' a' w',kx i E' s'=some r->Rel C f ψ' E' s' a' w'->Mod (Un (nI pr code)) E E'->QQ (.exit i) a' w')->
  (∀E' s' ψ' a' w',kr E' s'=some r->Rel C f ψ' E' s' a' w'->QQ .ret a' w')->
  (∀ch a' w' s',r=(.fH,s')->qf ch->tA C f s' a' w'->QQ (.panic ch) a' w')->code.wp C.P QQ a w:=by
 intro code;induction code with
 |skip=>intro A kn kx kr ho hn hx hr E s h ψ a w QQ R qn qx qr qp;exact wp_skip (qn E s ψ a w h R (.refl _ _))
 |region id ops d=>
  intro A kn kx kr ho hn hx hr E s h ψ a w QQ R qn qx qr qp;simp only[exec]at h;rcases ZsK hC hc h with⟨E',s',hl,hk,hm,hw⟩|⟨s',e,hl,hw⟩
  .exact hw QQ id R AY ho (ij (hn E' s' hk) hN) λψ' a' w' R'=>qn E' s' ψ' a' w' hk R' hm
  .exact hw QQ id R AY ho (by rw[e]at hN;exact hN) λch a' w' hv hp=>qp ch a' w' s' e hv hp
 |seq a b Fa HJ=>
  intro A kn kx kr ho hn hx hr E s h ψ ac w QQ R qn qx qr qp;simp only[zN,aS]at ho;simp only[exec]at h;refine wp_seq (Fa A.a _ kx kr ho.1 (Je hC hc b A.b kn kx kr hn hx hr) hx hr E s h ψ ac w _ R ?_ ?_ ?_ ?_)
  .intro E' s' ψ' a' w' h' R' m'
   refine HJ A.b kn kx kr ho.2 hn hx hr E' s' h' ψ' a' w' QQ R' ?_ ?_ qr qp
   .intro E2 s2 lr a2 w2 h2 R2 m2
    exact qn E2 s2 lr a2 w2 h2 R2 (m'.trans m2 (λu hu=>Un.left hu) λu hu=>Un.right hu)
   .intro i E2 s2 lr a2 w2 h2 R2 m2
    exact qx i E2 s2 lr a2 w2 h2 R2 (m'.trans m2 (λu hu=>Un.left hu) λu hu=>Un.right hu)
  .intro i E' s' ψ' a' w' h' R' m'
   exact qx i E' s' ψ' a' w' h' R' (m'.un λu hu=>Un.left hu)
  .exact qr
  .exact qp
 |cond x a b Fa HJ=>
  intro A kn kx kr ho hn hx hr E s h ψ ac w QQ R qn qx qr qp;simp only[zN,aS]at ho;simp only[exec]at h;have⟨v,hv,h⟩:=UA h;have he:ac.eval x= .bool v:=by
   have:=R.eval x;rw[hv]at this;generalize ac.eval x=y at this;cases this;rfl
  have two: ∀ {A1 A2:rV} {kn:Env->M Y},Lk kn r->(bif v then exec C pr c n a A1 kn kx kr E else exec C pr c n b A2 kn kx kr E) s=some r->
    (∀E' s' ψ' a' w',kn E' s'=some r->Rel C f ψ' E' s' a' w'->Mod (Un (nI pr a++nI pr b)) E E'->QQ .normal a' w')->(if v then a else b).wp C.P QQ ac w:=by
   intro A1 A2 kn hn h qn;cases v
   .exact HJ A2 kn kx kr ho.2 hn hx hr E s h ψ ac w QQ R (λE' s' ψ' a' w' h' R' m'=>qn E' s' ψ' a' w' h' R' (m'.un λu hu=>Un.right hu)) (λi E' s' ψ' a' w' h' R' m'=>qx i E' s' ψ' a' w' h' R' (m'.un λu hu=>Un.right hu)) qr qp
   .exact Fa A1 kn kx kr ho.1 hn hx hr E s h ψ ac w QQ R (λE' s' ψ' a' w' h' R' m'=>qn E' s' ψ' a' w' h' R' (m'.un λu hu=>Un.left hu)) (λi E' s' ψ' a' w' h' R' m'=>qx i E' s' ψ' a' w' h' R' (m'.un λu hu=>Un.left hu)) qr qp
  refine wp_cond he ?_;cases A with
  |j J A1 A2=>
   have⟨hj,h⟩:=M6 h;refine two (Lk.Lj hn) h λE1 s1 ji a1 w1 h1 R1 m1=>?_
   have⟨ds,E',g,p,h1⟩:=U5 h1;have⟨k,m⟩:=Ur R.iw m1 g p hj;exact qn E' s1 _ a1 w1 h1 (R1.zX k) m
  |z=>exact two hn h qn
  |n A1 A2=>exact two hn h qn
 |block id body ih=>
  intro A kn kx kr ho hn hx hr E s h ψ ac w QQ R qn qx qr qp;simp only[exec]at h;have go: ∀ {A1:rV} {kn:Env->M Y},Lk kn r->exec C pr c n body A1 kn (λi E1=>bif Nat.beq i id then kn E1 else kx i E1) kr E s=some r->
    (∀E' s' ψ' a' w',kn E' s'=some r->Rel C f ψ' E' s' a' w'->Mod (Un (nI pr body)) E E'->QQ .normal a' w')->(Code.block id body).wp C.P QQ ac w:=by
   intro A1 kn hn h qn;refine wp_block (ih A1 kn _ kr ho hn (Lk.block hn hx) hr E s h ψ ac w _ R qn ?_ qr qp);intro i E' s' ψ' a' w' h' R' m';rw[Exit.inBlock];cases hb:Nat.beq i id
   .rw[hb]at h';rw[aY (Mk hb)];exact qx i E' s' ψ' a' w' h' R' m'
   .rw[hb]at h';rw[bx (dQ hb)];exact qn E' s' ψ' a' w' h' R' m'
  cases A with
  |j J A1 A2=>
   have⟨hj,h⟩:=M6 h;refine go (Lk.Lj hn) h λE1 s1 ji a1 w1 h1 R1 m1=>?_
   have⟨ds,E',g,p,h1⟩:=U5 h1;have⟨k,m⟩:=Ur R.iw m1 g p hj;exact qn E' s1 _ a1 w1 h1 (R1.zX k) m
  |z=>exact go hn h qn
  |n A1 A2=>exact go hn h qn
 |loop body ih=>
  intro A kn kx kr ho hn hx hr E s h ψ ac w QQ R qn qx qr qp;simp only[exec]at h;cases A with
  |j J A1 A2=>
   have⟨hj,h⟩:=Zq h;have⟨st,g0,h⟩:=yv h;have lk: ∀(k:Nat) (st:ah) (s:St),dc (λrec st=>uq E J st (E.del (nI pr body)) λE1=>exec C pr c n body A1 (λE2=>tS E E2 J rec) kx kr E1) k st s=some r->s.length<=r.2.length:=by
    intro k;induction k with
    |zero=>intro st s h;cases h
    |succ k ihk=>
     intro st s h;simp only[dc]at h;have⟨E',_,h⟩:=DX h;refine Je hC hc body A1 _ kx kr (λE2 s2 h2=>?_) hx hr E' s h;have⟨gL,_,h2⟩:=yv h2;exact ihk gL s2 h2
   refine wp_loop_ghost (λk a' w'=>∃E2 s2 lr ds,GJ E E2 J ds/\Mod (Un (nI pr body)) E E2/\Rel C f lr E2 s2 a' w'/\
    dc (λrec st=>uq E J st (E.del (nI pr body)) λE1=>exec C pr c n body A1 (λE2=>tS E E2 J rec) kx kr E1) k ds s2=some r) n ⟨E,s,ψ,st,g0,.refl _ _,R,h⟩ ?_
   rintro k a' w' ⟨E2,s2,lr,ds,g,m,R2,h2⟩;cases k with
   |zero=>cases h2
   |succ k=>
    simp only[dc]at h2;have⟨E',p,h2⟩:=DX h2;have⟨kw,m'⟩:=Ur R.iw m g p hj;refine ih A1 _ kx kr ho (λE2 s2 h2=>?_) hx hr E' s2 h2 _ a' w' _ (R2.zX kw) ?_ ?_ qr qp
    .have⟨gL,_,h2⟩:=yv h2
     exact lk k gL s2 h2
    .intro E3 s3 L7 a3 w3 h3 R3 m3
     have⟨ds3,g3,h3⟩:=yv h3;exact⟨k,Nat.lt_succ_self k,E3,s3,L7,ds3,g3,m'.trans m3 (λu hu=>hu) (λu hu=>hu),R3,h3⟩
    .intro i E3 s3 L7 a3 w3 h3 R3 m3
     exact qx i E3 s3 L7 a3 w3 h3 R3 (m'.trans m3 (λu hu=>hu) (λu hu=>hu))
  |z=>cases h
  |n A1 A2=>cases h
 |exit id=>intro A kn kx kr ho hn hx hr E s h ψ a w QQ R qn qx qr qp;exact wp_exit (qx id E s ψ a w h R (.refl _ _))
 |ret=>intro A kn kx kr ho hn hx hr E s h ψ a w QQ R qn qx qr qp;exact wp_ret (qr E s ψ a w h R)
 |_=>intro A kn kx kr ho hn hx hr E s h;cases h
end
theorem Nj: ∀(k:Nat) (ds:ah) (t:Nat),look (kS k ds) t=if k<=t then(match ds[t-k]? with|some d=> .v d|none=> .u)else .u
 |k,[],t=>by simp[kS,look]
 |k,d::ds,t=>by
  rw[kS,I4,Nj (k+1) ds t];by_cases h:k=t
  .subst h;simp
  grind
section
variable {C:bE} {f:Fr} {ψ:Ps} {E:Env} {s:St} {a:Act} {w:World} {r:Out Y×St}
def Ol (tmps:Array Value):ResultVar->Sem Value
 | .tmp t=>pure (tmps.getD t undef)
 | .cell a t=>do loadVar t (<-asAddr (tmps.getD a undef))
theorem Jg {g:ResultVar->Sem Value} {x:ResultVar} {l:List ResultVar} (h1:(g x).run P w= .ok v w) (h2:(l.mapM g).run P w= .ok vs w):((x::l).mapM g).run P w= .ok (v::vs) w:=by
 rw[List.mapM_cons];simp_all
theorem NG (R:Rel C f ψ E s a w): ∀ {l:List ResultVar} {K:ah->M Y} ,wQ C E l K s=some r->∃ds vs,K ds s=some r/\bJ C ψ ds vs/\(l.mapM (Ol a.tmps)).run C.P w= .ok vs w
 |[],K,h=>⟨[],[],h,.nil,Do⟩
 | .tmp t::l,K,h=>by
  simp only[wQ]at h;have⟨d,hd,h⟩:=Zy h;have⟨ds,vs,hk,hr,ee⟩:=NG R h;have hv:=R.eval (.tmp t);rw[hd]at hv;exact⟨_,_,hk,.cons _ _ _ _ hv hr,Jg rfl ee⟩
 | .cell x t::l,K,h=>by
  simp only[wQ]at h;cases hx:E.get x with
  |loc v n cs=>
   rw[hx]at h;simp only at h;have⟨td,ht,h⟩:=qX h;have adL:=R.kH x;rw[hx]at adL;have⟨cb,e1,e2,e3⟩:=adL;have hh:=R.fp.holds (.inr v) cb _ e1 (.inl ⟨x,n,cs,hx,rfl⟩);have hlen:=R.iw.len x v n cs hx;cases df:jQ C.P t
   .rw[df]at h;simp only[af]at h;have⟨d,hd,h⟩:=NT h;have⟨ds,vs,hk,hr,ee⟩:=NG R h;have⟨y,hv,mX,_⟩:=Nq (P:=C.P) hh hd;rw[e2,fq]at hv;refine⟨_,_,hk,.cons _ _ _ _ mX hr,Jg ?_ ee⟩;have:=Ir ht df ⟨cb.b,0,none⟩ w hv;show(do loadVar t (<-asAddr (a.tmps.getD x undef)):Sem Value).run C.P w=_;rw[e3,asAddr,Sem.run_bind,Sem.run_pure,Result.andThen_ok];exact this
   .rw[df]at h;simp only[ae]at h;have⟨hn,h⟩:=Zq h;have hn:=dQ hn;have⟨ds,vs,hk,hr,ee⟩:=NG R h;have⟨vc,hv,_,mX,h1⟩:=MT (P:=C.P) hh (p:=0) (n:=C.P.cellsOf t);rw[e2,fq]at hv;rw[dF,dG AC]at mX h1;refine⟨_,_,hk,.cons _ _ _ _ (.agg cs vc mX h1) hr,Jg ?_ ee⟩;have:=MD ht df ⟨cb.b,0,none⟩ w hv;show(do loadVar t (<-asAddr (a.tmps.getD x undef)):Sem Value).run C.P w=_;rw[e3,asAddr,Sem.run_bind,Sem.run_pure,Result.andThen_ok];exact this
  |_=>rw[hx]at h;cases h
theorem ZnC {fn:Func} {tmps:Array Value} (h:(fn.results.toList.mapM (Ol tmps)).run P w= .ok vs w):
  (results fn tmps).run P w= .ok (if h:vs.length=1 then vs[0]else .tuple vs.toArray) w:=by
 have e:results fn tmps=(fn.results.mapM (Ol tmps)>>= λvs=>pure (if h:vs.size=1 then vs[0]else .tuple vs)):=by
  rfl
 rw[e,Array.mapM_eq_mapM_toList];simp[h]
theorem ZyH (b:Nat) (s:St) (i:Nat):dA (lE b s) i=if i<b then dA s i else(dA s i).map λab=>match ab with| .cells _ cs=> .cells true cs|x=>x:=by
 unfold dA lE;by_cases h:i<b
 .rw[bx h]
  by_cases h2:i<s.length
  .rw[nc (by simp;omega),uE,bx h]
  grind
 .rw[aY h]
  by_cases h3:b<=s.length
  .rw[kO (by simp;omega),nf,w4]
   rw[cB,pA h3,show b+(i-b)=i by omega];cases hs:s[i]?
   .rfl
   .rename_i x;cases x<;>rfl
  grind
theorem Zpp (b:Nat) (s:St):(lE b s).length=s.length:=by
 grind[lE]
theorem kh.gk (b:Nat) (h:kh C jh s0 w0 ψ' s w):kh C jh s0 w0 ψ' (lE b s) w:=by
 have key: ∀h ab,CS (lE b s) h ab->∃de,CS s h de/\(ab.iC=true->de.iC=true)/\∀(C:bE) ψ w cb,Holds C ψ w cb de->Holds C ψ w cb ab:=by
  rintro h ab ⟨i,rfl,e⟩;rw[ZyH]at e;split at e
  .exact⟨ab,⟨i,rfl,e⟩,λh=>h,λ_ _ _ _ h=>h⟩
  .cases hs:dA s i
   .rw[hs]at e;cases e
   .rename_i x;rw[hs]at e;cases x with
    |cells fz cs=>
     simp only[pC,gf]at e;subst e;exact⟨_,⟨i,rfl,hs⟩,(λh=>by cases h),λC ψ w cb h=>⟨h.1,h.2.1,h.2.2.1,(λh=>by cases h)⟩⟩
    |iter l p=>
     simp only[pC,gf]at e;subst e;exact⟨_,⟨i,rfl,hs⟩,λh=>h,λ_ _ _ _ h=>h⟩
 refine⟨h.fp.cast λk cb ab e q=>?_,h.ext.cast h.ext.mono (λ_ _ e=>e) λk cb ab _ q=>?_,λk cb e=>?_⟩
 .grind
 .grind
 .rw[Zpp];exact h.news k cb e
def N2 (C:bE) (wq:FuncId) (args:ah) (s:St) (out:Out ah×St):Prop:=
 s.length<=out.2.length/\∀ψ w vs,fI C ψ (CS s) w->tq ψ w->Glob C ψ->bJ C ψ args vs->(∀v,ψ (.inr v)=none)->(∀i,s.length<=i->i<out.2.length->ψ (.inl i)=none)->
   Au C.P wq vs.toArray w λ
    | .returned v,w'=>∃ds,out.1= .val ds/\∃ψ',kh C ψ s w ψ' out.2 w'/\BL C ψ' ds v
    | .panicked ch,w'=>qf ch/\out.1= .fH/\∃ψ',kh C ψ s w ψ' out.2 w'
    | .outgrown,_=>False
structure H9 (C:bE):Prop where
 cfg:qd C
 OO:C.P.follows .mixedOrders=true
theorem ZAJ (hF:H9 C) (hc:ZW C c) {fn:Func} (hfn:C.P.funcs[wq]? =some fn) (sE:(fn.name== "runtime.NumGoroutine")=false) {out:Out ah×St} (h:wh C A fn c n args s=some out):N2 C wq args s out:=by
 unfold wh at h;cases hb:fn.body
 .rw[hb]at h;cases h
 .rename_i code;rw[hb]at h;simp only at h;have⟨fG,h⟩:=Zq h;rw[aS]at fG;have⟨fG,cJ⟩:=fG;have cJ:=rS cJ;have⟨ds,h,nz,lM,vn⟩:=IB h;have main: ∀(kr:Env->M ah) (fz:St->St),(∀s,(fz s).length=s.length)->(∀jh s0 w0 ψ' s w,kh C jh s0 w0 ψ' s w->kh C jh s0 w0 ψ' (fz s) w)->
    (∀E s' r,kr E s'=some r->wQ C E fn.results.toList (λds s=>some (.val ds,fz s)) s'=some r)->
    exec C A.pr c n code A.JC kr (λ_ _=>fail) kr ⟨0,kS 0 ds⟩ s=some out->N2 C wq args s out:=by
   intro kr fz dZ ua Hq h;have amm: ∀ {E:Env} {s':St} {r:Out ah×St},kr E s'=some r->∃ds,r=(.val ds,fz s'):=by
    intro E s' r h';have h':=Hq E s' r h';generalize fn.results.toList=l at h';have: ∀(l:List ResultVar) (K:ah->M ah),wQ C E l K s'=some r->∃ds,K ds s'=some r:=by
     intro l;induction l with
     |nil=>exact λK h=>⟨[],h⟩
     |cons x l ih=>
      intro K h;cases x with
      |tmp t=>
       simp only[wQ]at h;have⟨d,_,h⟩:=Zy h;grind
      |cell x t=>
       simp only[wQ]at h;cases hx:E.get x with
       |loc v n cs=>
        rw[hx]at h;simp only at h;have⟨td,_,h⟩:=qX h;cases df:jQ C.P t
        .rw[df]at h;have⟨d,_,h⟩:=NT h;grind
        .rw[df]at h;have⟨_,h⟩:=Zq h;grind
       |_=>rw[hx]at h;cases h
    grind
   have lk:Lk kr out:=λE s' h'=>by
    grind
   refine⟨Je hF.cfg hc code A.JC kr _ kr lk (λi E s h=>by cases h) lk _ s h,λψ w vs Bg J0 EB lJ CV K6=>?_⟩;have pV:=vn C ψ vs lJ;have Db:=pV.len;unfold Au;have vm:(callFunc wq vs.toArray).run C.P w= .ok (.enter wq vs.toArray) w:=by
    have xM: ¬fn.name= "runtime.NumGoroutine" :=by simpa using sE
    simp[callFunc,hfn,xM,hb]
   rw[vm];refine calls_of_wp hfn hb ?_
   let f:Fr:=⟨out.2.length,fn.ntmps,ψ,s,w,um fn.ntmps,λx h=>by unfold um at h;rw[rR]at h;exact h,λt=>(vs.toArray++Array.replicate (fn.ntmps-vs.toArray.size) Go.undef).getD t Go.undef,[]⟩
   have xD: ∀t,(⟨0,kS 0 ds⟩:Env).get t=match ds[t]? with|some d=> .v d|none=> .u:=by
    intro t;have:=Nj 0 ds t;simp only[cN,nM,w9]at this;exact this
   have Fg: ∀t v,((⟨0,kS 0 ds⟩:Env).get t).dp≠some v:=by
    intro t v;rw[xD];cases ds[t]? <;>simp[fg.dp]
   have Cs: ∀h ab,CR ⟨0,kS 0 ds⟩ s h ab->CS s h ab:=by
    intro h ab c;cases h with
    |inl i=>exact⟨i,rfl,c⟩
    |inr v=>
     rcases c with⟨t,n,cs,e,_⟩|⟨t,l,p,e,_⟩
     .grind
     grind
   have R:Rel C f ψ ⟨0,kS 0 ds⟩ s { tmps:=vs.toArray++Array.replicate (fn.ntmps-vs.toArray.size) Go.undef,defers:=[] } w:=by
    refine⟨Bg.weaken λ_ _ _ _ c=>Cs _ _ c,⟨Fd,λt r v o e=>?_,Fd,Fd⟩,J0,EB,λt=>?_,?_,rfl,K6,λv _=>CV v,(Ext.refl ψ (CS s) w).weaken λ_ _ _ _ c=>Cs _ _ c,λi cb e=> .inl e,aJ _,CV⟩
    .rw[xD]at e
     cases hd:ds[t]? <;>rw[hd]at e<;>cases e
    .rw[xD]
     cases hd:ds[t]?
     .trivial
     .rename_i d;have⟨v,hv,hr⟩:=pV.get hd;have:(vs.toArray++Array.replicate (fn.ntmps-vs.toArray.size) Go.undef).getD t Go.undef=v:=by
       have av:=(eE.1 hv).1;rw[tg,QB (by simpa using av)];simp[hv]
      show gh C ψ (.v d) _;rw[this];exact hr
    .refine⟨?_,λ_ _=>rfl⟩
     grind
   have done: ∀E' s' ψ' a' w',kr E' s'=some out->Rel C f ψ' E' s' a' w'->a'.defers=[]/\∃v,(results fn a'.tmps).run C.P w'= .ok v w'/\∃ds,out.1= .val ds/\∃ψ',kh C ψ s w ψ' out.2 w'/\BL C ψ' ds v:=by
    intro E' s' ψ' a' w' h' R';have⟨nv,jI,hk,hr,ee⟩:=NG R' (Hq E' s' out h');simp only[gf]at hk;refine⟨R'.defs,_,ZnC ee,nv,by rw[<-hk],oO ψ',?_,?_⟩
    .rw[<-hk];exact ua _ _ _ _ _ _ R'.AH
    .have kX:bJ C (oO ψ') nv jI:=Ztp hr
     by_cases h1:jI.length=1
     .rw[dif_pos h1]
      cases kX with
      |nil=>cases h1
      |cons d v ds vs a b=>
       cases b with
       |nil=>exact .inl ⟨d,rfl,a⟩
       |cons _ _ _ _ _ _=>simp at h1
     .rw[dif_neg h1]
      exact .inr ⟨by rw[kX.len];exact h1,_,rfl,kX⟩
   refine WL hF.cfg hc hF.OO (f:=f) (aJ _) code A.JC kr _ kr fG lk (λi E s h=>by cases h) lk _ s h ψ _ w _ R ?_ ?_ ?_ ?_
   .intro E' s' ψ' a' w' h' R' _;exact done E' s' ψ' a' w' h' R'
   .intro i E' s' ψ' a' w' h' _ _;cases h'
   .intro E' s' ψ' a' w' h' R';exact done E' s' ψ' a' w' h' R'
   .intro ch a' w' s' e hv hp
    refine⟨hp.defs,hv,by rw[e],?_⟩;have⟨ψ',gm⟩:=hp.post;grind
  cases hz:A.gk
  .rw[hz]at h;simp only[af]at h;exact main _ id (λ_=>rfl) (λ_ _ _ _ _ _ h=>h) (λE s' r h=>h) h
  .rw[hz]at h;simp only[ae,jm]at h;exact main _ (lE s.length) (Zpp _) (λ_ _ _ _ _ _ h=>h.gk _) (λE s' r h=>h) h
end
def vJ (C:bE) (b:Zf->Nat->ah->M ah) (f:FuncId):Prop:=
 ∀c n args s out,ZW C c->b c n args s=some out->N2 C f args s out
theorem vJ.aeg (hF:H9 C) {fn:Func} {b:Zf->Nat->ah->M ah} (hfn:C.P.funcs[f]? =some fn) (sE:(fn.name== "runtime.NumGoroutine")=false) (ht:wh C A fn=b):vJ C b f:=
 λc n args s out hc h=>ZAJ hF hc hfn sE (by rw[ht];exact h)
theorem Ou {C:bE} {Bd:Zg} (hB: ∀f,C.cov f=true->vJ C (Bd (C.fn f)) f) (cC: ∀g,(∀f,C.cov f=true->C.fn f≠g)->∀c n args s,Bd g c n args s=none): ∀n,ZW C (run Bd n)
 |0=>λg args s out h=>by cases h
 |n+1=>λg args s out h=>by
  by_cases e: ∃f,C.cov f=true/\C.fn f=g
  .obtain⟨f,h1,rfl⟩:=e
   refine⟨(hB f h1 _ _ _ _ _ (Ou hB cC n) h).1,λf' h2 h3=>?_⟩;have h':Bd (C.fn f') (run Bd n) n args s=some out:=by rw[h3];exact h
   exact(hB f' h2 _ _ _ _ _ (Ou hB cC n) h').2
  .have:=cC g (λf h1 h2=>e ⟨f,h1,h2⟩) (run Bd n) n args s
   have h':Bd g (run Bd n) n args s=some out:=h;rw[this]at h';cases h'
end Go.Gv
namespace Go.Gv
def Di:List (Nat×Nat)->Nat->Nat
 |[],_=>0
 |(k,v)::r,x=>bif Nat.beq k x then v else Di r x
def Qu (l:List (Nat×Nat)) (t:Nat):Nat:=bif has (l.map (·.1)) t then Di l t else t+1000
abbrev Body:=Zf->Nat->ah->M ah
def Dh:List (Nat×Body)->Nat->Option Body
 |[],_=>none
 |(k,b)::r,g=>bif Nat.beq k g then some b else Dh r g
def bdOf (l:List (Nat×Body)):Zg:=λg=>match Dh l g with|some b=>b|none=>λ_ _ _ _=>none
theorem WZ: ∀ {l:List (Nat×Body)} {g:Nat} {b:Body},Dh l g=some b->g∈l.map (·.1)
 |[],_,_,h=>by cases h
 |(k,x)::r,g,b,h=>by
  simp only[Dh]at h;cases hk:Nat.beq k g
  .rw[hk]at h;simp only[af]at h;exact tj _ (WZ h)
  .simp_all
variable {next:Act->World->Prop} {eA rA:Array Edge} {ops:Array Oper} {vs:Array Value} {AM gb:Code} {Q:Exit->Act->List Frame->World->Prop} {QQ:Exit->Act->World->Prop} {f g wq:FuncId} {n:Int} {k:IntKind} {cs cs':List Frame} {N fi i id p t3 t4 td:Nat} {o o0 o1 o2 o3 o4 o5 o6 o7:Oper} {P:Program} {s s3:St} {eP rP:String} {e eT rT t ty yP:TypeId} {v:Value} {args ds ds0:ah} {cov rest:al} {C:bE}
theorem ZBj (h:P.underlying P.rt.typeAssertionError=some (.pointer e)) (hs:(P.underlying e).isSome=true): ∃e d,P.underlying P.rt.typeAssertionError=some (.pointer e)/\P.underlying e=some d:=
 ⟨e,_,h,(Option.some_get hs).symm⟩
theorem ZAT (xG:C.cov=has cov) {l:List (Nat×Body)} (hk:l.map (·.1)=cov.map C.fn) (hB: ∀f∈cov,vJ C (bdOf l (C.fn f)) f): ∀n,ZW C (run (bdOf l) n):=by
 refine Ou (λf hf=>hB f (by rw[xG]at hf;exact(Jl cov f).1 hf)) λg hg c n args s=>?_
 unfold bdOf;cases hb:Dh l g
 .rfl
 .rename_i b;have:=WZ hb;rw[hk]at this;obtain⟨f,hf,rfl⟩:=jK.1 this;exact absurd rfl (hg f (by rw[xG];exact(Jl cov f).2 hf))
def aeh (l:List (Nat×Nat)):Bool:=decide ((l.map (·.2)).Nodup)&&l.all λx=>Nat.blt x.2 1000
theorem N9: ∀ {l:List (Nat×Nat)} {t:Nat},has (l.map (·.1)) t=true->(t,Di l t)∈l
 |[],t,h=>by cases h
 |(k,v)::r,t,h=>by
  simp only[kf,has,mB]at h;cases hk:Nat.beq k t
  .rw[Di,hk,af];exact tj _ (N9 Fd)
  .have:=dQ hk;grind[Di]
theorem ZAq {l:List (Nat×Nat)} (h:aeh l=true) (t t':Nat) (e:Qu l t=Qu l t'):t=t':=by
 unfold aeh at h;rw[aS,yi,qP]at h;have⟨h1,h2⟩:=h;have lt: ∀ {t},has (l.map (·.1)) t=true->Di l t<1000:=λ{t} ht=>by
  have:=h2 _ (N9 ht);rwa [rR]at this
 unfold Qu at e;cases ht:has (l.map (·.1)) t
 .grind
 .have m:=N9 ht;cases xR:has (l.map (·.1)) t'
  .rw[ht,xR]at e;grind
  .have m':=N9 xR;rw[ht,xR]at e;simp only[ae]at e;rw[e]at m;have inj: ∀ {l:List (Nat×Nat)},(l.map (·.2)).Nodup->∀ {a b c:Nat},(a,c)∈l->(b,c)∈l->a=b:=by
    intro l;induction l with
    |nil=>simp
    |cons x r ih=>
     grind
   exact inj h1 m m'
variable {Y:Type}
variable {Kk:Env->M Y}
section
variable {C:bE} {f:Fr} {ψ:Ps} {E:Env} {s:St} {a:Act} {w:World} {c:Zf} {o:Oper} {K:Env->M Y} {r:Out Y×St}
theorem sc (hC:qd C) (hc:ZW C c) (o:Oper) (h:Lk K r):Lk (λE=>fU C [] [] .s c o E K) r:=by
 intro E s h';rcases Wq hC hc (ops:=[]) (.inl rfl) h' with⟨E',s',hk,hF,_⟩|⟨_,s',rfl,hp⟩
 .exact ij hF.len (h E' s' hk)
 .exact hp.1
theorem N1 (hC:qd C) (hc:ZW C c) (h:fU C [] [] .s c o E K s=some r) (hl:Lk K r) (hN:r.2.length<=f.N) (hd: ∀x,o.dst=some x->f.ok x=true):
  (∃E' s',K E' s'=some r/\s.length<=s'.length/\∀(ψ:Ps) (a:Act) (w:World) (QQ:Exit->Act->World->Prop) (next:Act->World->Prop),Rel C f ψ E s a w->
    (∀ψ' v w',Rel C f ψ' E' s' (a.put o.dst v) w'->(∀h cb,ψ h=some cb->ψ' h=some cb)->next (a.put o.dst v) w')->o.wp C.P a w next QQ)\/
  (∃s',r=(.fH,s')/\∀(ψ:Ps) (a:Act) (w:World) (QQ:Exit->Act->World->Prop) (next:Act->World->Prop),Rel C f ψ E s a w->(∀ch a' w',qf ch->tA C f s' a' w'->QQ (.panic ch) a' w')->o.wp C.P a w next QQ):=by
 rcases Wq hC hc (ops:=[]) (.inl rfl) h with⟨E',s',hk,hF,hO⟩|⟨_,s',rfl,hp⟩
 .refine .inl ⟨E',s',hk,hF.len,λψ a w QQ next R hn=>?_⟩
  exact hO ψ (CR E s) a w next QQ R.pre (R.room (ij (hl E' s' hk) hN)) λψ' Q' v w' hP he=>hn ψ' v w' (R.step hF hP he hd) hP.ext.mono
 .exact .inr ⟨s',rfl,λψ a w QQ next R hn=>R.aek hN hp hn⟩
theorem tA.ald {d:Option Nat} (hd: ∀x,d=some x->f.ok x=true) (h:tA C f s (a.put d v) w):tA C f s a w:=by
 refine⟨by rw[<-M9 a d v];exact h.defs,⟨by rw[<-SA a d v];exact h.ks.1,λt ht=>?_⟩,h.post⟩;have:=h.ks.2 t ht;rw[Jq (λx hx=>by rw[<-SA a d v,h.ks.1];exact f.Ly x (hd x hx)),aY (λe=>by rw[hd t e]at ht;cases ht)]at this;exact this
def ad2:Sh->Bool
 | .b _=>true
 |_=>false
def P2:Op->Bool
 | .move (.tmp _)=>true
 |_=>false
def okY (ops:Array Oper):Bool:=
 let l (n:Nat):Array Bool:=(([0,2,3,4,5,1,6,7].take n).foldl (λl i=>l.setIfInBounds i true) (Array.replicate 8 false))
 let fst (n i:Nat):Bool:=Region.free .any ops (l n) i&&(Region.ready .any ops (l n)).contains i
 Region.noSelect ops&&fst 0 0&&fst 1 2&&fst 2 3&&fst 3 4&&fst 4 5&&(Region.ready .any ops (l 5)==[1])&&(Region.ready .any ops (l 6)==[6])&&(Region.ready .any ops (l 7)==[7])&&(Region.ready .any ops (l 8)).isEmpty
def JQ:List Oper->Option (Oper×Oper×Oper×Oper×Oper×Oper×Oper×Oper)
 |[o0,o1,o2,o3,o4,o5,o6,o7]=>some (o0,o1,o2,o3,o4,o5,o6,o7)
 |_=>none
theorem Zx3 {l:List Oper} (h:JQ l=some (o0,o1,o2,o3,o4,o5,o6,o7)):l=[o0,o1,o2,o3,o4,o5,o6,o7]:=by
 unfold JQ at h;grind
noncomputable def LH (C:bE) (c:Zf) (ops:Array Oper) (E:Env) (K:Env->M Y):M Y:=
 match JQ ops.toList with
 |some (o0,o1,o2,o3,o4,o5,o6,o7)=>
  bif okY ops&&P2 o0.op&&P2 o2.op&&(o0.guard.isNone&&o1.guard.isNone&&o2.guard.isNone&&o3.guard.isNone&&o4.guard.isNone&&o5.guard.isNone&&o6.guard.isNone&&o7.guard.isNone)then
   match o3.op,o4.op,o5.op with
   | .nilCheck x3,.fieldAddr _ x4 _,.load ty x5=>aA (ad2 (oj C.P ty))<|
    fU C [] [] .s c o0 E λE0=>fU C [] [] .s c o2 E0 λE2=>Bp C E2 x3 λ_ _=>fU C [] [] .s c o3 E2 λE3=>Bp C E3 x4 λ_ _=>fU C [] [] .s c o4 E3 λE4=>Bp C E4 x5 λi p=>yL i p λk n=>fU C [] [] .s c o5 E4 λE5=>
     fU C [] [] .s c o1 E5 λE1=>iP i p k n (fU C [] [] .s c o6 E1 λE6=>iP i p k n (fU C [] [] .s c o7 E6 λE7=>iP i p k n (K E7)))
   |_,_,_=>fail
  else fail
 |none=>fail
theorem Nr {x:Operand} {K:Nat->Nat->M Y} (h:Bp C E x K s=some r): ∃i p,E.src C x= .v (.ptr (some (i,p)))/\K i p s=some r:=by
 unfold Bp at h;cases he:E.src C x with
 |v d=>
  rw[he]at h;cases d with
  |ptr q=>
   cases q with
   |none=>cases h
   |some q=>grind
  |_=>cases h
 |_=>rw[he]at h;cases h
theorem ZoH {K:IntKind->Int->M Y} (h:yL i p K s=some r): ∃k n,(∃fz cs,dA s i=some (.cells fz cs)/\cs[p]? =some (.int k n))/\K k n s=some r:=by
 unfold yL at h;have⟨fz,cs,d,cq,hd,h⟩:=ZoC h;cases d with
 |int k n=>grind
 |_=>cases h
theorem M7 {K:M Y} (h:iP i p k n K s=some r):K s=some r/\∃fz cs,dA s i=some (.cells fz cs)/\cs[p]? =some (.int k n):=by
 unfold iP bH at h;cases hc:s.cells i
 .rw[hc]at h;cases h
 .rename_i cs;rw[hc]at h;simp only at h;cases hd:cs[p]?
  .rw[hd]at h;cases h
  .rename_i d;rw[hd]at h;have cq: ∃fz,dA s i=some (.cells fz cs):=by
    unfold St.cells at hc;split at hc
    .rename_i bk AW
     cases hc;simp[dA,AW]
    .cases hc
   have⟨fz,cq⟩:=cq;cases d with
   |int k' n'=>
    simp only at h;have⟨h0,hK⟩:=Zq h;simp only[aS,Ac]at h0;have h1:=Jn h0.1;have h2:=h0.2;rw[<-h1,<-h2]at hd;grind
   |_=>cases h
theorem Rel.num (R:Rel C f ψ E s a w) {cb:CB} (e:ψ (.inl i)=some cb) (h: ∃fz cs,dA s i=some (.cells fz cs)/\cs[p]? =some (.int k n)):w.cell? ⟨cb.b,cb.o+p,none⟩=some (.int k n):=by
 have⟨fz,cs,h1,h2⟩:=h;have hh:=R.fp.holds (.inl i) cb _ e h1;have⟨v,hv,hr⟩:=hh.2.2.1 p _ h2;cases hr;exact hv
theorem Rel.ptr (R:Rel C f ψ E s a w) {x:Operand} {i p:Nat} (e:E.src C x= .v (.ptr (some (i,p)))): ∃cb:CB,ψ (.inl i)=some cb/\a.eval x= .pointer (some ⟨cb.b,cb.o+p,none⟩):=by
 have h:=R.eval x;rw[e]at h;have h:VR C ψ (.ptr (some (i,p))) (a.eval x):=h;generalize a.eval x=v at h;cases h with
 |ptr _ _ cb e=>exact⟨cb,e,rfl⟩
theorem ZrV {y:Operand} (ho:o.op= .fieldAddr t y fi) (h:fU C [] [] .s c o E Kk s=some r):
  ∃off,∀(a:Act) (w:World) b n,a.eval y= .pointer (some ⟨b,n,none⟩)->(execOp a.eval o).run C.P w= .ok (.value (.pointer (some ⟨b,n+off,none⟩))) w:=by
 unfold fU at h;rw[ho]at h;simp only at h;unfold MP at h;cases ht:C.P.underlying t
 .rw[ht]at h;cases h
 .rename_i td;rw[ht]at h;cases td with
  |struct fs=>
   simp only at h;cases hf:fs[fi]?
   .rw[hf]at h;cases h
   .rename_i fd;rw[hf]at h;simp only at h;have⟨hc,h⟩:=IC h;have hc:=Mk hc;have cJ: ∀w,(sizeOf fd.type).run C.P w= .ok (C.P.cellsOf fd.type) w:=by
     intro w;unfold Program.cellsOf at hc⊢;cases hi:C.P.info? fd.type
     .rw[hi]at hc;simp at hc
     .rename_i i;simp[sizeOf,typeInfo,hi]
    refine⟨fd.offset,λa w b n hy=>?_⟩;simp[execOp,ho,hy,Instr.fieldAt,Zl w ht,hf,xh,fieldPlace,cJ,hc,B1]
  |_=>cases h
theorem ZzG {x:Operand} (ho:o.op= .load t x) (hs:ad2 (oj C.P t)=true) (h:fU C [] [] .s c o E Kk s=some r) (a:Act) (w:World) (A:Addr) (v:Value) (ha:a.eval x= .pointer (some A)) (hw:w.cell? A=some v):
  (execOp a.eval o).run C.P w= .ok (.value v) w:=by
 unfold fU at h;rw[ho]at h;simp only at h;unfold Oq at h;have⟨td,ht,h⟩:=qX h;cases jt:oj C.P t with
 |b y'=>simp only[execOp,ho,ha,Instr.loadAt,Sem.run_bind,xh,Result.andThen_ok,Ir ht (Xm jt) _ w (by rw[run_load,hw]),Sem.run_pure]
 |agg l=>rw[jt]at hs;cases hs
theorem Wo (hi:ops[i]? =some o) (hg:o.guard=none) (h:o.wp P a w next QQ):wpOp P ops QQ i next a w:=by
 unfold wpOp;simp only[hi];rw[bx (by simp[Region.wanted,hg])];exact .inl h
theorem Zxl (he:(execOp a.eval o).run P w= .ok (.value v) w) (h:o.wp P a w next QQ):next (a.put o.dst v) w:=by
 unfold Oper.wp at h;rw[he]at h;exact h
theorem GF {x:Operand} {K:Env->Nat->Nat->M Y} (h: ∀i p,Lk (λE=>K E i p) r):Lk (λE=>Bp C E x (K E)) r:=by
 intro E s h';have⟨i,p,_,h'⟩:=Nr h';exact h i p E s h'
theorem ZvL {K:Env->IntKind->Int->M Y} (h: ∀k n,Lk (λE=>K E k n) r):Lk (λE=>yL i p (K E)) r:=by
 intro E s h';have⟨k,n,_,h'⟩:=ZoH h';exact h k n E s h'
theorem Gz {K:Env->M Y} (h:Lk K r):Lk (λE=>iP i p k n (K E)) r:=by
 intro E s h';exact h E s (M7 h').1
theorem ZyG (hC:qd C) (hc:ZW C c) (fG:okO f.ok ops.toList=true) (h:LH C c ops E K s=some r) (hl:Lk K r) (AY:C.P.follows .mixedOrders=true) (hN:r.2.length<=f.N) (id:Nat) (R:Rel C f ψ E s a w) (QQ:Exit->Act->World->Prop)
  (qn: ∀E' s' ψ' a' w',K E' s'=some r->Rel C f ψ' E' s' a' w'->QQ .normal a' w') (qp: ∀ch a' w' s',r=(.fH,s')->qf ch->tA C f s' a' w'->QQ (.panic ch) a' w'):(Code.region id ops true).wp C.P QQ a w:=by
 unfold LH at h;cases da:JQ ops.toList with
 |none=>rw[da]at h;cases h
 |some q=>
 have⟨o0,o1,o2,o3,o4,o5,o6,o7⟩:=q;rw[da]at h;have zs:=Zx3 da;simp only at h;have⟨hb,h⟩:=Zq h;simp only[aS,Option.isNone_iff_eq_none]at hb;have⟨⟨⟨hy,Hu⟩,eG⟩,⟨⟨⟨⟨⟨⟨⟨g0,g1⟩,g2⟩,g3⟩,g4⟩,g5⟩,g6⟩,g7⟩⟩:=hb;have⟨x3,Qr,x4,ON,Qt,x5,h3,h4,h5⟩: ∃x3 Qr x4 ON Qt x5,o3.op= .nilCheck x3/\o4.op= .fieldAddr Qr x4 ON/\o5.op= .load Qt x5:=by
  cases h3:o3.op with
  |nilCheck x3=>
   cases h4:o4.op with
   |fieldAddr Qr x4 ON=>
    cases h5:o5.op with
    |load Qt x5=>grind
    |_=>rw[h3,h4,h5]at h;cases h
   |_=>rw[h3,h4]at h;cases h
  |_=>rw[h3]at h;cases h
 rw[h3,h4,h5]at h;simp only at h;have⟨PD,h⟩:=nn h;have i0:ops[0]? =some o0:=by rw[<-lU,zs];rfl
 have i1:ops[1]? =some o1:=by rw[<-lU,zs];rfl
 have i2:ops[2]? =some o2:=by rw[<-lU,zs];rfl
 have i3:ops[3]? =some o3:=by rw[<-lU,zs];rfl
 have i4:ops[4]? =some o4:=by rw[<-lU,zs];rfl
 have i5:ops[5]? =some o5:=by rw[<-lU,zs];rfl
 have i6:ops[6]? =some o6:=by rw[<-lU,zs];rfl
 have i7:ops[7]? =some o7:=by rw[<-lU,zs];rfl
 have qD: ∀o∈ops.toList,∀x,o.dst=some x->f.ok x=true:=λo ho x hx=>Gu fG o ho x hx
 rw[zs]at qD;have aj5:ops.size=8:=by rw[<-qb,zs];rfl
 have l7: ∀i p k n,Lk (λE7=>iP i p k n (K E7)) r:=λi p k n=>Gz hl
 have l6: ∀i p k n,Lk (λE6=>iP i p k n (fU C [] [] .s c o7 E6 λE7=>iP i p k n (K E7))) r:=λi p k n=>Gz (sc hC hc o7 (l7 i p k n))
 have l1: ∀i p k n,Lk (λE1=>iP i p k n (fU C [] [] .s c o6 E1 λE6=>iP i p k n (fU C [] [] .s c o7 E6 λE7=>iP i p k n (K E7)))) r:=λi p k n=>Gz (sc hC hc o6 (l6 i p k n))
 have l5: ∀i p k n,Lk (λE5=>fU C [] [] .s c o1 E5 λE1=>iP i p k n (fU C [] [] .s c o6 E1 λE6=>iP i p k n (fU C [] [] .s c o7 E6 λE7=>iP i p k n (K E7)))) r:=λi p k n=>sc hC hc o1 (l1 i p k n)
 have l4:=GF (C:=C) (x:=x5) (K:=λE4 i p=>yL i p λk n=>fU C [] [] .s c o5 E4 λE5=>fU C [] [] .s c o1 E5 λE1=>iP i p k n (fU C [] [] .s c o6 E1 λE6=>iP i p k n (fU C [] [] .s c o7 E6 λE7=>iP i p k n (K E7)))) (r:=r) (λi p=>ZvL (K:=λE4 k n=>fU C [] [] .s c o5 E4 λE5=>fU C [] [] .s c o1 E5 λE1=>iP i p k n (fU C [] [] .s c o6 E1 λE6=>iP i p k n (fU C [] [] .s c o7 E6 λE7=>iP i p k n (K E7)))) λk n=>sc hC hc o5 (l5 i p k n));have l3:=GF (C:=C) (x:=x4) (r:=r) (K:=λE3 _ _=>fU C [] [] .s c o4 E3 λE4=>Bp C E4 x5 λi p=>yL i p λk n=>fU C [] [] .s c o5 E4 λE5=>fU C [] [] .s c o1 E5 λE1=>iP i p k n (fU C [] [] .s c o6 E1 λE6=>iP i p k n (fU C [] [] .s c o7 E6 λE7=>iP i p k n (K E7)))) (λ_ _=>sc hC hc o4 l4);have l2:=GF (C:=C) (x:=x3) (r:=r) (K:=λE2 _ _=>fU C [] [] .s c o3 E2 λE3=>Bp C E3 x4 λ_ _=>fU C [] [] .s c o4 E3 λE4=>Bp C E4 x5 λi p=>yL i p λk n=>fU C [] [] .s c o5 E4 λE5=>fU C [] [] .s c o1 E5 λE1=>iP i p k n (fU C [] [] .s c o6 E1 λE6=>iP i p k n (fU C [] [] .s c o7 E6 λE7=>iP i p k n (K E7)))) (λ_ _=>sc hC hc o3 l3);have l0:=sc hC hc o2 l2;simp only[okY,aS,Ac,List.isEmpty_iff]at hy;have⟨⟨⟨⟨⟨⟨⟨⟨⟨EK,f0,r0⟩,f1,r1⟩,f2,r2⟩,f3,r3⟩,f4,r4⟩,rd5⟩,rd6⟩,rd7⟩,rd8⟩:=hy;have R:=R.drew;generalize cL:({ w with drawn:=w.drawn+1 } :World)=w1 at R;have mv: ∀ {o:Oper},P2 o.op=true->∀(a:Act),∃v,∀w',(execOp a.eval o).run C.P w'= .ok (.value v) w':=by
  intro o ho a;unfold P2 at ho;split at ho
  .rename_i t e
   exact⟨a.eval (.tmp t),λw'=>by simp[execOp,e]⟩
  .cases ho
 have fst: ∀ {o:Oper} {E:Env} {s:St} {ψ:Ps} {a:Act} {K':Env->M Y} {v:Value},o∈[o0,o1,o2,o3,o4,o5,o6,o7]->fU C [] [] .s c o E K' s=some r->Lk K' r->Rel C f ψ E s a w1->(execOp a.eval o).run C.P w1= .ok (.value v) w1->
   ∃E' s' ψ',K' E' s'=some r/\Rel C f ψ' E' s' (a.put o.dst v) w1/\∀h cb,ψ h=some cb->ψ' h=some cb:=by
  intro o E s ψ a K' v ho h hl R hv;rcases N1 (f:=f) hC hc h hl hN (qD o ho)with⟨E',s',hk,_,q⟩|⟨s',_,q⟩
  .have⟨ψ',h1,h2⟩:=Zxl (next:=λa' w'=>∃ψ',Rel C f ψ' E' s' a' w'/\∀h cb,ψ h=some cb->ψ' h=some cb) hv (q ψ a w1 (λ_ _ _=>True) _ R λψ' v w' R' m=>⟨ψ',R',m⟩)
   exact⟨E',s',ψ',hk,h1,h2⟩
  .exact(Zxl (next:=λ_ _=>False) hv (q ψ a w1 (λ_ _ _=>True) _ R λ_ _ _ _ _=>trivial)).elim
 have⟨v0,y0⟩:=mv Hu a;have⟨E0,s0,jh,h,R0,_⟩:=fst Do h l0 R (y0 w1);have⟨v2,y2⟩:=mv eG (a.put o0.dst v0);have⟨E2,s2,lr,h,R2,_⟩:=fst Do h l2 R0 (y2 w1);have⟨b3,p3,K9,h⟩:=Nr h;have⟨cb3,_,e3⟩:=R2.ptr K9;have y3: ∀w',(execOp ((a.put o0.dst v0).put o2.dst v2).eval o3).run C.P w'= .ok (.value (.pointer (some ⟨cb3.b,cb3.o+p3,none⟩))) w':=λw'=>by simp[execOp,h3,e3]
 have⟨E3,s3,L7,h,R3,_⟩:=fst Do h l3 R2 (y3 w1);have⟨b4,p4,hx4,h⟩:=Nr h;have⟨cb4,_,e4⟩:=R3.ptr hx4;have⟨off,y4⟩:=ZrV h4 h;have y4:=λw'=>y4 _ w' _ _ e4
 have⟨E4,s4,ψ4,h,R4,_⟩:=fst Do h l4 R3 (y4 w1);have⟨i,p,hx5,h⟩:=Nr h;have⟨cb,wm,e5⟩:=R4.ptr hx5;have⟨k,n,qC,h⟩:=ZoH h;have y5:=λw' hw=>ZzG h5 PD h _ w' _ (.int k n) e5 hw
 have hS:w1.cell? ⟨cb.b,cb.o+p,none⟩=some (.int k n):=R4.num wm qC;have⟨E5,s5,ψ5,h,R5,m5⟩:=fst Do h (l5 i p k n) R4 (y5 w1 hS);have wm:=m5 _ _ wm;refine wp_mono (Q:=λe a' w'=>match e with
  | .normal=>∃E' s' ψ',K E' s'=some r/\Rel C f ψ' E' s' a' w'
  | .panic ch=>qf ch/\∃s',r=(.fH,s')/\tA C f s' a' w'
  |_=>False) (wp_region_held (S:=λw'=>w'.cell? ⟨cb.b,cb.o+p,none⟩=some (.int k n)) AY ?_) ?_
 rotate_left
 .intro e a' w' he
  cases e with
  |normal=>have⟨E',s',ψ',hk,R'⟩:=he;exact qn E' s' ψ' a' w' hk R'
  |panic ch=>have⟨hv,s',e,hp⟩:=he;exact qp ch a' w' s' e hv hp
  |_=>exact he.elim
 have wanted: ∀ {o:Oper} {y:Nat->Option Bool},o.guard=none->Region.wanted o y=true:=λhg=>by simp[Region.wanted,hg]
 have hQ: ∀ {o:Oper} {v:Value},o∈[o0,o1,o2,o3,o4,o5,o6,o7]->∀ch a' w',(qf ch/\∃s',r=(.fH,s')/\tA C f s' (a'.put o.dst v) w')->(qf ch/\∃s',r=(.fH,s')/\tA C f s' a' w'):=
  λho ch a' w' ⟨hv,s',e,hp⟩=>⟨hv,s',e,hp.ald (qD _ ho)⟩
 rw[aj5,cL];refine wpAnyH_take i0 EK f0 r0 (hQ Do) (.inl ⟨wanted g0,λw' _=>y0 w'⟩) hS ?_;refine wpAnyH_take i2 EK f1 r1 (hQ Do) (.inl ⟨wanted g2,λw' _=>y2 w'⟩) hS ?_;refine wpAnyH_take i3 EK f2 r2 (hQ Do) (.inl ⟨wanted g3,λw' _=>y3 w'⟩) hS ?_;refine wpAnyH_take i4 EK f3 r3 (hQ Do) (.inl ⟨wanted g4,λw' _=>y4 w'⟩) hS ?_;refine wpAnyH_take i5 EK f4 r4 (hQ Do) (.inl ⟨wanted g5,λw' hw=>y5 w' hw⟩) hS ?_;refine wpAnyH_all rd5 Do λj hj=>?_
 rw[cH]at hj;subst hj;refine Wo i1 g1 ?_;rcases N1 (f:=f) hC hc h (l1 i p k n) hN (qD o1 Do)with⟨E1,s1,h,_,q1⟩|⟨s',e,q1⟩
 rotate_left
 .exact q1 _ _ _ _ _ R5 λch a' w' hv hp=>⟨hv,s',e,hp⟩
 refine q1 _ _ _ _ _ R5 λji v1 w2 R1 m1=>?_
 have wm:=m1 _ _ wm;have⟨h,gV⟩:=M7 h;refine⟨R1.num wm gV,wpAnyH_all rd6 Do λj hj=>?_⟩;rw[cH]at hj;subst hj;refine Wo i6 g6 ?_;rcases N1 (f:=f) hC hc h (l6 i p k n) hN (qD o6 Do)with⟨E6,s6,h,_,q6⟩|⟨s',e,q6⟩
 rotate_left
 .exact q6 _ _ _ _ _ R1 λch a' w' hv hp=>⟨hv,s',e,hp⟩
 refine q6 _ _ _ _ _ R1 λψ6 v6 w6 R6 m6=>?_
 have wm:=m6 _ _ wm;have⟨h,hc6⟩:=M7 h;refine⟨R6.num wm hc6,wpAnyH_all rd7 Do λj hj=>?_⟩;rw[cH]at hj;subst hj;refine Wo i7 g7 ?_;rcases N1 (f:=f) hC hc h (l7 i p k n) hN (qD o7 Do)with⟨E7,s7,h,_,q7⟩|⟨s',e,q7⟩
 rotate_left
 .exact q7 _ _ _ _ _ R6 λch a' w' hv hp=>⟨hv,s',e,hp⟩
 refine q7 _ _ _ _ _ R6 λψ7 v7 w7 R7 m7=>?_
 have wm:=m7 _ _ wm;have⟨h,hc7⟩:=M7 h;exact⟨R7.num wm hc7,wpAnyH_done rd8 ⟨E7,s7,ψ7,h,R7⟩ _⟩
end
def qz:Code->List Code
 | .seq a b=>qz a++qz b
 |c=>[c]
def uz (P:Program):List Code->(Exit->Act->World->Prop)->Act->World->Prop
 |[],Q=>Q .normal
 |x::r,Q=>x.wp P (Exit.then (uz P r Q) Q)
theorem Zyu (n m:Act->World->Prop) (Q:Exit->Act->World->Prop):Exit.then n (Exit.then m Q)=Exit.then n Q:=by
 funext e a w;cases e<;>rfl
theorem Zw5 (Q:Exit->Act->World->Prop):Exit.then (Q .normal) Q=Q:=by
 funext e a w;cases e<;>rfl
theorem WO {P:Program} : ∀(l m:List Code) (Q:Exit->Act->World->Prop),uz P (l++m) Q=uz P l (Exit.then (uz P m Q) Q)
 |[],m,Q=>rfl
 |x::l,m,Q=>by
  show x.wp P (Exit.then (uz P (l++m) Q) Q)=x.wp P (Exit.then (uz P l (Exit.then (uz P m Q) Q)) (Exit.then (uz P m Q) Q));rw[WO l m Q,Zyu]
theorem ZAR : ∀(c:Code) (Q:Exit->Act->World->Prop) (a:Act) (w:World),uz P (qz c) Q a w->c.wp P Q a w:=by
 intro c;induction c with
 |seq x y ihx ihy=>
  intro Q a w h;rw[qz,WO]at h;refine wp_seq (wp_mono (ihx _ a w h) λe a w h=>?_);cases e<;>first|exact ihy Q a w h|exact h
 |_=>intro Q a w h;simp only[qz,uz,Zw5]at h;exact h
def Lg:Code->Option (Array Oper)
 | .region _ ops true=>bif okY ops&&Nat.beq ops.size 8 then some ops else none
 |_=>none
noncomputable def JN (C:bE) (c:Zf) (n:Nat) (x:Code) (kn kr:Env->M Y):Env->M Y:=match Lg x with
 |some ops=>λE=>LH C c ops E kn
 |none=>exec C [] c n x .z kn (λ_ _=>fail) kr
noncomputable def yR (C:bE) (c:Zf) (n:Nat):List Code->(Env->M Y)->(Env->M Y)->Env->M Y
 |[],kn,_=>kn
 |x::r,kn,kr=>JN C c n x (yR C c n r kn kr) kr
def Lx (ok:Nat->Bool):List Code->Bool
 |[]=>true
 |x::r=>zN ok x&&Lx ok r
section
variable {C:bE} {f:Fr} {c:Zf} {n:Nat} {r:Out Y×St}
theorem ZyO {x:Code} (h:Lg x=some ops): ∃id,x= .region id ops true:=by
 unfold Lg at h;grind
theorem Zzh (hC:qd C) (hc:ZW C c) {K:Env->M Y} (h:Lk K r):Lk (λE=>LH C c ops E K) r:=by
 intro E s h';unfold LH at h';cases da:JQ ops.toList
 .rw[da]at h';cases h'
 .rename_i q;have⟨o0,o1,o2,o3,o4,o5,o6,o7⟩:=q;rw[da]at h';simp only at h';have⟨_,h'⟩:=Zq h';cases h3:o3.op with
  |nilCheck x3=>
   cases h4:o4.op with
   |fieldAddr Qr x4 ON=>
    cases h5:o5.op with
    |load Qt x5=>
     rw[h3,h4,h5]at h';simp only at h';have⟨_,h'⟩:=nn h';refine sc hC hc o0 (sc hC hc o2 (GF (K:=λE2 _ _=>_) λ_ _=>sc hC hc o3 (GF (K:=λE3 _ _=>_) λ_ _=>sc hC hc o4 (GF (K:=λE4 i p=>_) λi p=>ZvL (K:=λE4 k n=>_) λk n=>sc hC hc o5 (sc hC hc o1 (Gz (sc hC hc o6 (Gz (sc hC hc o7 (Gz h)))))))))) E s h'
    |_=>rw[h3,h4,h5]at h';cases h'
   |_=>rw[h3,h4]at h';cases h'
  |_=>rw[h3]at h';cases h'
theorem Zyt (hC:qd C) (hc:ZW C c) (x:Code) (kn kr:Env->M Y) (h:Lk kn r) (k:Lk kr r):Lk (JN C c n x kn kr) r:=by
 unfold JN;cases Lg x with
 |some ops=>exact Zzh hC hc h
 |none=>exact Je hC hc x .z _ _ kr h (λ_ _ _ h=>by cases h) k
theorem Gl (hC:qd C) (hc:ZW C c): ∀(l:List Code) (kn kr:Env->M Y),Lk kn r->Lk kr r->Lk (yR C c n l kn kr) r
 |[],_,_,h,_=>h
 |x::l,kn,kr,h,k=>Zyt hC hc x _ kr (Gl hC hc l kn kr h k) k
theorem V1 (hC:qd C) (hc:ZW C c) (AY:C.P.follows .mixedOrders=true) (hN:r.2.length<=f.N): ∀(l:List Code) (kn kr:Env->M Y),Lx f.ok l=true->Lk kn r->Lk kr r->
  ∀(E:Env) (s:St),yR C c n l kn kr E s=some r->∀(ψ:Ps) (a:Act) (w:World) (QQ:Exit->Act->World->Prop),Rel C f ψ E s a w->
  (∀E' s' ψ' a' w',kn E' s'=some r->Rel C f ψ' E' s' a' w'->QQ .normal a' w')->
  (∀E' s' ψ' a' w',kr E' s'=some r->Rel C f ψ' E' s' a' w'->QQ .ret a' w')->
  (∀ch a' w' s',r=(.fH,s')->qf ch->tA C f s' a' w'->QQ (.panic ch) a' w')->uz C.P l QQ a w
 |[],kn,kr,_,_,_,E,s,h,ψ,a,w,QQ,R,qn,_,_=>qn E s ψ a w h R
 |x::l,kn,kr,ho,hn,hr,E,s,h,ψ,a,w,QQ,R,qn,qr,qp=>by
  simp only[Lx,aS]at ho;have rest: ∀E' s' ψ' a' w',yR C c n l kn kr E' s'=some r->Rel C f ψ' E' s' a' w'->uz C.P l QQ a' w':=λE' s' ψ' a' w' h' R'=>
   V1 hC hc AY hN l kn kr ho.2 hn hr E' s' h' ψ' a' w' QQ R' qn qr qp
  have h:JN C c n x (yR C c n l kn kr) kr E s=some r:=h;unfold JN at h;cases hy:Lg x
  .rw[hy]at h;exact WL hC hc AY hN x .z _ _ kr ho.1 (Gl hC hc l kn kr hn hr) (λ_ _ _ h=>by cases h) hr E s h ψ a w _ R (λE' s' ψ' a' w' h' R' _=>rest E' s' ψ' a' w' h' R') (λ_ _ _ _ _ _ h=>by cases h) (λE' s' ψ' a' w' h' R'=>qr E' s' ψ' a' w' h' R') (λch a' w' s' e h1 h2=>qp ch a' w' s' e h1 h2)
  .rename_i ops;rw[hy]at h;obtain⟨id,rfl⟩:=ZyO hy;exact ZyG hC hc ho.1 h (Gl hC hc l kn kr hn hr) AY hN id R _ rest (λch a' w' s' e h1 h2=>qp ch a' w' s' e h1 h2)
theorem kh.trans {jh ji lr:Ps} {s0 s1 s2:St} {w0 w1 w2:World} (hl:s0.length<=s1.length) (lM:s1.length<=s2.length) (h:kh C jh s0 w0 ji s1 w1) (k:kh C ji s1 w1 lr s2 w2):kh C jh s0 w0 lr s2 w2:=by
 refine⟨k.fp,h.ext.trans k.ext,λx cb e=>?_⟩;rcases k.news x cb e with e|⟨i,rfl,h1,h2⟩
 .rcases h.news x cb e with e|⟨i,rfl,h1,h2⟩
  .exact .inl e
  grind
 grind
end
def rL (C:bE) (E:Env):List ResultVar->(ah->M Y)->M Y
 |[],K=>K []
 | .cell a t::r,K=>match E.get a with
  | .v (.ptr (some (i,o)))=>sZ C.P t (bif jQ C.P t then bV i o (C.P.cellsOf t) λcs=>rL C E r λds=>K (.agg cs::ds)else bH i o λd=>rL C E r λds=>K (d::ds))
  |_=>fail
 | .tmp _::_,_=>fail
def JJ:Option Code->Option (Nat×FuncId×List Operand)
 |some (.region _ ⟨[⟨some td,.makeFunc (.func g) ⟨[]⟩ ⟨iV⟩,_,_,_,none⟩,⟨none,.defer ⟨.value (.tmp t'),⟨[]⟩,_⟩,_,_,_,none⟩]⟩ false)=>bif Nat.beq td t' then some (td,g,iV)else none
 |_=>none
def zH (P:Program) (ty:TypeId):Bool:=match P.underlying ty with
 |some (.interface _)=>true
 |_=>false
def GQ (P:Program) (m N:Nat):Code->Option Code
 | .seq (.region _ ⟨[⟨some t3,.call ⟨.builtin .recover,⟨[]⟩,_⟩,_,_,_,none⟩,⟨some t4,.binOp .neq ty (.tmp t3') (.const .nilIface) _,_,_,_,none⟩]⟩ false) (.cond (.tmp t4') b .skip)=>
  bif Nat.beq t3 t3'&&Nat.beq t4 t4'&& !Nat.beq t3 t4&&Nat.ble m t3&&Nat.ble m t4&&Nat.blt t3 N&&Nat.blt t4 N&&zH P ty then some b else none
 |_=>none
def P3:fg->Bool
 | .u=>true
 |_=>false
def xX:List ResultVar->Nat->Bool
 |[],_=>true
 | .cell a _::r,t=> !Nat.beq a t&&xX r t
 | .tmp _::_,_=>false
noncomputable def XA (C:bE) (k:Nat) (fn gq:Func) (c:Zf) (n:Nat) (args:ah):M ah:=
 match fn.body,gq.body with
 |some code,some AM=>match JJ ((qz code)[k]?),GQ C.P gq.nfree gq.ntmps AM with
  |some (td,_,iV),some gb=>
   bif Lx (um fn.ntmps) ((qz code).take k)&&Lx (λt=>um fn.ntmps t&&xX fn.results.toList t) ((qz code).drop (k+1))&&zN (um gq.ntmps) gb&&Nat.ble fn.params.size fn.ntmps&&Nat.blt td fn.ntmps&&xX fn.results.toList td
    &&Nat.beq fn.nfree 0&&Nat.beq gq.params.size 0&&gq.results.isEmpty&&Nat.ble gq.nfree gq.ntmps&&Nat.beq iV.length gq.nfree then
    Cu (fn.params.toList.map (oj C.P)) args λds=>
     let fin (E:Env):M ah:=rL C E fn.results.toList λds=>aw ds
     yR C c n ((qz code).take k) (λE=>aA (Nat.beq E.bS 0&&P3 (E.get td)) (Bv C E iV λcs=>
      wg (yR C c n ((qz code).drop (k+1)) (λ_=>aw []) (λ_=>aw []) E)
       λp=>bif p then wg (exec C [] c n gb .z (λ_=>aw []) (λ_ _=>fail) (λ_=>aw []) ⟨0,kS 0 cs⟩) λp=>bif p then fail else fin E
        else fin E)) fin ⟨0,kS 0 ds⟩
   else fail
  |_,_=>fail
 |_,_=>fail
section
variable {C:bE} {ψ:Ps} {s:St} {w:World} {g:FuncId} {gq:Func}
theorem ZqW {m:Nat} {c:Code} (h:GQ P m N c=some gb):
  ∃id t3 t4 ty aT rT rP rA eT yP eP eA,c= .seq (.region id #[⟨some t3,.call ⟨.builtin .recover, #[],aT⟩,rT,rP,rA,none⟩,⟨some t4,.binOp .neq ty (.tmp t3) (.const .nilIface) eT,yP,eP,eA,none⟩] false) (.cond (.tmp t4) gb .skip)/\
   t3≠t4/\m<=t3/\m<=t4/\t3<N/\t4<N/\zH P ty=true:=by
 unfold GQ at h;split at h
 .rename_i id t3 aT rT rP rA t4 ty t3' eT yP eP eA t4' b
  cases hc:(Nat.beq t3 t3'&&Nat.beq t4 t4'&& !Nat.beq t3 t4&&Nat.ble m t3&&Nat.ble m t4&&Nat.blt t3 N&&Nat.blt t4 N&&zH P ty)
  .rw[hc]at h;cases h
  .rw[hc]at h;simp only[ae,gf]at h;subst h;simp only[aS]at hc;have⟨⟨⟨⟨⟨⟨⟨h1,h2⟩,h3⟩,h4⟩,h5⟩,h6⟩,h7⟩,h8⟩:=hc;cases dQ h1;cases dQ h2;refine⟨id,t3,t4,ty,aT,rT,rP,rA,eT,yP,eP,eA,rfl,?_,rS h4,rS h5,by rw[rR]at h6;exact h6,by rw[rR]at h7;exact h7,h8⟩;grind
 .cases h
theorem ZoQ (h:zH P ty=true): ∃ms,P.underlying ty=some (.interface ms):=by
 grind[zH]
theorem ZvQ (h:zH P ty=true) (d:Nat) (t:TypeId) (v:Value) (w:World):(Op.equalIn (d+1) ty (.iface t v) .nilIface).run P w= .ok false w:=by
 have⟨ms,hu⟩:=ZoQ h;rw[Op.equalIn.eq_2,Sem.run_bind,Zl w hu];rfl
theorem Zwd (h:zH P ty=true) (d:Nat) (w:World):(Op.equalIn (d+1) ty .nilIface .nilIface).run P w= .ok true w:=by
 have⟨ms,hu⟩:=ZoQ h;rw[Op.equalIn.eq_2,Sem.run_bind,Zl w hu];rfl
theorem Zx0 (h:zH P ty=true) (t:TypeId) (v:Value) (w:World):(binOp .neq ty (.iface t v) .nilIface).run P w= .ok (.bool true) w:=by
 have e:binOp .neq ty (.iface t v) .nilIface=(do let b <-Op.equal ty (.iface t v) .nilIface;pure (.bool !b)):=by
  unfold binOp;rfl
 rw[e,Sem.run_bind,show Op.equal ty (.iface t v) .nilIface=Op.equalIn (9999+1) ty (.iface t v) .nilIface from rfl,ZvQ h];rfl
theorem ZAx (h:zH P ty=true) (w:World):(binOp .neq ty .nilIface .nilIface).run P w= .ok (.bool false) w:=by
 have e:binOp .neq ty .nilIface .nilIface=(do let b <-Op.equal ty .nilIface .nilIface;pure (.bool !b)):=by
  unfold binOp;rfl
 rw[e,Sem.run_bind,show Op.equal ty .nilIface .nilIface=Op.equalIn (9999+1) ty .nilIface .nilIface from rfl,Zwd h];rfl
theorem Zwx {a:Act} {x:Value} (ho:ops[i]? =some o) (hg:o.guard=none) (he:(execOp a.eval o).run P w= .ok .recover w)
  (aN:(match recoverD cs with|some (v,cs')=>(v,cs')|none=>(Value.nilIface,cs))=(x,cs')) (h:wpOpsS P ops Q rest (a.put o.dst x) cs' w):wpOpsS P ops Q (i::rest) a cs w:=by
 simp only[wpOpsS,ho];rw[bx (by simp[Region.wanted,hg]),he];grind
theorem ZwM {a:Act} {x:Value} (ho:ops[i]? =some o) (hg:o.guard=none) (he:(execOp a.eval o).run P w= .ok (.value x) w)
  (h:wpOpsS P ops Q rest (a.put o.dst x) cs w):wpOpsS P ops Q (i::rest) a cs w:=by
 simp only[wpOpsS,ho];rw[bx (by simp[Region.wanted,hg]),he];exact h
def Fm (vs:Array Value) (N t3 t4:Nat) (x:Value) (b:Bool):Array Value:=((vs++Array.replicate (N-vs.size) Go.undef).setIfInBounds t3 x).setIfInBounds t4 (.bool b)
theorem Zks {aT:Array TypeId} (alC:t3≠t4) (h3:t3<N) (h4:t4<N) (alE:zH C.P ty=true) {yN:Frame} {x:Value} {b:Bool}
  (aN:(match recoverD (yN::cs)with|some (v,cs')=>(v,cs')|none=>(Value.nilIface,yN::cs))=(x,cs')) (hb:(binOp .neq ty x .nilIface).run C.P w= .ok (.bool b) w) (hx:(∃t v,x= .iface t v)\/x= .nilIface)
  (h:(bif b then gb else .skip).wpS C.P Q { tmps:=Fm vs N t3 t4 x b,defers:=[] } cs' w):
  (Code.seq (.region id #[⟨some t3,.call ⟨.builtin .recover, #[],aT⟩,rT,rP,rA,none⟩,⟨some t4,.binOp .neq ty (.tmp t3) (.const .nilIface) eT,yP,eP,eA,none⟩] false) (.cond (.tmp t4) gb .skip)).wpS C.P Q { tmps:=vs++Array.replicate (N-vs.size) Go.undef,defers:=[] } (yN::cs) w:=by
 have cJ:N<=(vs++Array.replicate (N-vs.size) Go.undef).size:=by simp;omega
 refine wpS_seq (wpS_region ?_);have e1: ∀ev:Operand->Value,(execOp ev ⟨some t3,.call ⟨.builtin .recover, #[],aT⟩,rT,rP,rA,none⟩).run C.P w= .ok .recover w:=λ_=>rfl
 have fin:wpOpsS C.P #[⟨some t3,.call ⟨.builtin .recover, #[],aT⟩,rT,rP,rA,none⟩,⟨some t4,.binOp .neq ty (.tmp t3) (.const .nilIface) eT,yP,eP,eA,none⟩] (Exit.thenS ((Code.cond (.tmp t4) gb .skip).wpS C.P Q) Q) [1] (({ tmps:=vs++Array.replicate (N-vs.size) Go.undef,defers:=[] } :Act).put (some t3) x) cs' w:=by
  have Yy:(({ tmps:=vs++Array.replicate (N-vs.size) Go.undef,defers:=[] } :Act).put (some t3) x).eval (.tmp t3)=x:=by
   simp only[Act.put,Act.eval];rw[tg,QC AC];rfl
  have e2:(execOp (({ tmps:=vs++Array.replicate (N-vs.size) Go.undef,defers:=[] } :Act).put (some t3) x).eval ⟨some t4,.binOp .neq ty (.tmp t3) (.const .nilIface) eT,yP,eP,eA,none⟩).run C.P w= .ok (.value (.bool b)) w:=by
   show(do let v <-(do eqGuard .neq ty (.tmp t3) (.const .nilIface) (Act.eval _ (.tmp t3)) (Act.eval _ (.const .nilIface));binOp .neq ty (Act.eval _ (.tmp t3)) (Act.eval _ (.const .nilIface)));pure (Next.value v):Sem Next).run C.P w=_;rw[Yy];have hg:(eqGuard .neq ty (.tmp t3) (.const .nilIface) x .nilIface).run C.P w= .ok () w:=by
    rcases hx with⟨t,v,rfl⟩|rfl<;>rfl
   show((do eqGuard .neq ty (.tmp t3) (.const .nilIface) x .nilIface;binOp .neq ty x .nilIface:Sem Value)>>= λv=>pure (Next.value v)).run C.P w=_;rw[Sem.run_bind,Sem.run_bind,hg,Result.andThen_ok,hb];rfl
  refine ZwM (o:=⟨some t4,.binOp .neq ty (.tmp t3) (.const .nilIface) eT,yP,eP,eA,none⟩) rfl rfl e2 ?_;show Exit.thenS _ Q .normal _ cs' w;refine wpS_cond (t:=b) ?_ ?_
  .simp only[Act.put,Act.eval]
   rw[tg,QC (by simp;omega)];rfl
  .cases b<;>exact h
 show wpOpsS C.P _ _ [0,1] _ _ _;exact Zwx (o:=⟨some t3,.call ⟨.builtin .recover, #[],aT⟩,rT,rP,rA,none⟩) rfl rfl (e1 _) aN fin
theorem Zmt {fn:Func} (h:fn.results.isEmpty=true) (tmps:Array Value) (P:Program) (w:World):(results fn tmps).run P w= .ok (.tuple #[]) w:=by
 have e:fn.results= #[]:=by simpa using h
 simp[results,e]
theorem Zsy (EA:C.P.funcs[g]? =some gq) (AZ:gq.body=some AM) (hd:GQ C.P gq.nfree gq.ntmps AM=some gb) (KT:gq.results.isEmpty=true):
  CallsD C.P g vs .returning w λe u' w'=>e= .returned (.tuple #[])/\u'= .returning/\w'=w:=by
 obtain⟨id,t3,t4,ty,aT,rT,rP,rA,eT,yP,eP,eA,rfl,cV,_,_,h3,h4,sM⟩:=ZqW hd;refine callsD_of_wpS EA AZ λyN cs hu=>?_
 refine Zks (x:= .nilIface) (b:=false) cV h3 h4 sM (cs':=yN::cs) ?_ (ZAx sM w) (.inr rfl) ?_
 .rw[recoverD,hu]
 .refine wpS_of_wp (wp_skip ?_)
  refine⟨rfl,.returning,?_,_,Zmt KT _ _ _,rfl,rfl,rfl⟩;cases yN;grind
theorem ZuP (hF:H9 C) {c:Zf} (hc:ZW C c) {n:Nat} {vs:List Value} (EA:C.P.funcs[g]? =some gq) (AZ:gq.body=some AM) (hd:GQ C.P gq.nfree gq.ntmps AM=some gb) (KT:gq.results.isEmpty=true)
  (fG:zN (um gq.ntmps) gb=true) (hm:vs.length=gq.nfree) (hmN:gq.nfree<=gq.ntmps) (h:exec C [] c n gb .z (λ_=>aw []) (λ_ _=>fail) (λ_=>aw []) ⟨0,kS 0 ds⟩ s=some (.val ds0,s3))
  (Bg:fI C ψ (CS s) w) (J0:tq ψ w) (EB:Glob C ψ) (pV:bJ C ψ ds vs) (CV: ∀v,ψ (.inr v)=none) (K6: ∀i,s.length<=i->i<s3.length->ψ (.inl i)=none) {ch:List PanicEntry} (wx:qf ch):
  CallsD C.P g vs.toArray (.panicking ch) w λe u' w'=>e= .returned (.tuple #[])/\settle u'= .returning/\∃ψ',kh C ψ s w ψ' s3 w':=by
 obtain⟨id,t3,t4,ty,aT,rT,rP,rA,eT,yP,eP,eA,rfl,cV,xL,Pw,h3,h4,sM⟩:=ZqW hd;obtain⟨pt,pv,rfl⟩:=wx;refine callsD_of_wpS EA AZ λyN cs hu=>?_
 refine Zks (x:= .iface pt pv) (b:=true) cV h3 h4 sM (cs':= { yN with mode:= .panicking [{ v:= .iface pt pv,recovered:=true }] } ::cs) ?_ (Zx0 sM _ _ w) (.inl ⟨_,_,rfl⟩) ?_
 .rw[recoverD,hu]
 rw[ae];have lk: ∀r:Out ah×St,Lk (λ_:Env=>(aw []:M ah)) r:=by
  intro r E s' h';simp only[aw,gf]at h';grind
 let f:Fr:=⟨s3.length,gq.ntmps,ψ,s,w,um gq.ntmps,λx h=>by unfold um at h;rw[rR]at h;exact h,λt=>(Fm vs.toArray gq.ntmps t3 t4 (.iface pt pv) true).getD t Go.undef,[]⟩
 have xD: ∀t,(⟨0,kS 0 ds⟩:Env).get t=match ds[t]? with|some d=> .v d|none=> .u:=by
  intro t;have:=Nj 0 ds t;simp only[cN,nM,w9]at this;exact this
 have Fg: ∀t v,((⟨0,kS 0 ds⟩:Env).get t).dp≠some v:=by
  intro t v;rw[xD];cases ds[t]? <;>simp[fg.dp]
 have Cs: ∀h ab,CR ⟨0,kS 0 ds⟩ s h ab->CS s h ab:=by
  intro h ab c;cases h with
  |inl i=>exact⟨i,rfl,c⟩
  |inr v=>
   rcases c with⟨t,n,cs,e,_⟩|⟨t,l,p,e,_⟩
   .grind
   grind
 have R:Rel C f ψ ⟨0,kS 0 ds⟩ s { tmps:=Fm vs.toArray gq.ntmps t3 t4 (.iface pt pv) true,defers:=[] } w:=by
  refine⟨Bg.weaken λ_ _ _ _ c=>Cs _ _ c,⟨Fd,λt r v o e=>?_,Fd,Fd⟩,J0,EB,λt=>?_,?_,rfl,K6,λv _=>CV v,(Ext.refl ψ (CS s) w).weaken λ_ _ _ _ c=>Cs _ _ c,λi cb e=> .inl e,aJ _,CV⟩
  .rw[xD]at e
   cases hd:ds[t]? <;>rw[hd]at e<;>cases e
  .rw[xD]
   cases hd:ds[t]?
   .trivial
   .rename_i d;have⟨v,hv,hr⟩:=pV.get hd;have av:=(eE.1 hv).1;have:(Fm vs.toArray gq.ntmps t3 t4 (.iface pt pv) true).getD t Go.undef=v:=by
     unfold Fm;rw[tg,Array.getElem?_setIfInBounds_ne AC,Array.getElem?_setIfInBounds_ne AC,QB (by simpa using av)];simp[hv]
    show gh C ψ (.v d) _;rw[this];exact hr
  .refine⟨?_,λ_ _=>rfl⟩
   show(Fm vs.toArray gq.ntmps t3 t4 (.iface pt pv) true).size=gq.ntmps;simp[Fm];omega
 refine wpS_of_wp ?_;have done: ∀ {E':Env} {s':St} {ψ':Ps} {a':Act} {w':World},(aw []:M ah) s'=some (.val ds0,s3)->Rel C f ψ' E' s' a' w'->
   a'.defers=[]/\∃u',({ yN with mode:= .panicking [{ v:= .iface pt pv,recovered:=true }] } ::cs:List Frame)= { yN with mode:=u' } ::cs/\∃v,(results gq a'.tmps).run C.P w'= .ok v w'/\Ending.returned v= .returned (.tuple #[])/\settle u'= .returning/\∃ψ',kh C ψ s w ψ' s3 w':=by
  intro E' s' ψ' a' w' h' R';simp only[aw,gf,FM]at h';obtain⟨_,rfl⟩:=h';exact⟨R'.defs,_,rfl,_,Zmt KT _ _ _,rfl,rfl,_,R'.AH⟩
 refine WL hF.cfg hc hF.OO (f:=f) (aJ _) gb .z _ _ _ fG (lk _) (λi E s h=>by cases h) (lk _) _ s h ψ _ w _ R ?_ ?_ ?_ ?_
 .intro E' s' ψ' a' w' h' R' _;exact done h' R'
 .intro i E' s' ψ' a' w' h' _ _;cases h'
 .intro E' s' ψ' a' w' h' R';exact done h' R'
 grind
end
section
variable {C:bE} {ψ:Ps} {E:Env} {s:St} {w:World}
def Ju (ψ:Ps) (E:Env) (tmps:Array Value) (l:List ResultVar):Prop:=
 ∀a t,ResultVar.cell a t∈l->∀i o,E.get a= .v (.ptr (some (i,o)))->∃cb:CB,ψ (.inl i)=some cb/\tmps.getD a undef= .pointer (some ⟨cb.b,cb.o+o,none⟩)
theorem V2 (hs:fI C ψ (CS s) w) {tmps:Array Value} {r:Out Y×St} : ∀ {l:List ResultVar} {K:ah->M Y},Ju ψ E tmps l->rL C E l K s=some r->∃ds vs,K ds s=some r/\bJ C ψ ds vs/\(l.mapM (Ol tmps)).run C.P w= .ok vs w
 |[],K,_,h=>⟨[],[],h,.nil,Do⟩
 | .tmp t::l,K,_,h=>by cases h
 | .cell a t::l,K,hp,h=>by
  have gm:Ju ψ E tmps l:=λa t hm=>hp a t (tj _ hm)
  simp only[rL]at h;cases hx:E.get a with
  |v d=>
   rw[hx]at h;cases d with
   |ptr p=>
    cases p with
    |none=>cases h
    |some q=>
     have⟨i,o⟩:=q;simp only at h;have⟨cb,e1,e3⟩:=hp a t Do i o hx;have⟨td,ht,h⟩:=qX h;have asA:(asAddr (tmps.getD a undef)).run C.P w= .ok ⟨cb.b,cb.o+o,none⟩ w:=by rw[e3];rfl
     cases df:jQ C.P t
     .rw[df]at h;simp only[af]at h;unfold bH at h;cases mR:s.cells i
      .rw[mR]at h;cases h
      .rename_i cs;rw[mR]at h;simp only at h;cases hd:cs[o]?
       .rw[hd]at h;cases h
       .rename_i d;rw[hd]at h;simp only at h;have cq: ∃f,dA s i=some (.cells f cs):=by
         unfold St.cells at mR;split at mR
         .rename_i bk AW
          cases mR;exact⟨bk.gk,by rw[dA,AW]⟩
         .cases mR
        have⟨fz,cq⟩:=cq;have hh:=hs.holds (.inl i) cb _ e1 ⟨i,rfl,cq⟩;have⟨ds,vs,hk,hr,ee⟩:=V2 hs gm h;have⟨y,hv,mX,_⟩:=Nq (P:=C.P) hh hd;refine⟨_,_,hk,.cons _ _ _ _ mX hr,Jg ?_ ee⟩;show(do loadVar t (<-asAddr (tmps.getD a undef)):Sem Value).run C.P w=_;rw[Sem.run_bind,asA,Result.andThen_ok];exact Ir ht df _ w hv
     .rw[df]at h;simp only[ae]at h;have⟨fz,cs,cq,hn,h⟩:=IY h;have hh:=hs.holds (.inl i) cb _ e1 ⟨i,rfl,cq⟩;have⟨ds,vs,hk,hr,ee⟩:=V2 hs gm h;have⟨vc,hv,_,mX,h1⟩:=MT (P:=C.P) hh (p:=o) (n:=C.P.cellsOf t) hn;refine⟨_,_,hk,.cons _ _ _ _ (.agg _ vc mX h1) hr,Jg ?_ ee⟩;show(do loadVar t (<-asAddr (tmps.getD a undef)):Sem Value).run C.P w=_;rw[Sem.run_bind,asA,Result.andThen_ok];exact MD ht df _ w hv
   |_=>cases h
  |_=>rw[hx]at h;cases h
theorem V6 {s s':St} {o:Out ah} : ∀ {l:List ResultVar} {K:ah->M ah},rL C E l K s=some (o,s')->(∀ds s o s',K ds s=some (o,s')->s'=s)->s'=s
 |[],K,h,hK=>hK _ _ _ _ h
 | .tmp t::l,K,h,_=>by cases h
 | .cell a t::l,K,h,hK=>by
  simp only[rL]at h;cases hx:E.get a with
  |v d=>
   rw[hx]at h;cases d with
   |ptr p=>
    cases p with
    |none=>cases h
    |some q=>
     simp only at h;have⟨td,ht,h⟩:=qX h;cases df:jQ C.P t
     .rw[df]at h;simp only[af]at h;unfold bH at h;split at h
      .split at h
       .exact V6 h λds s o s' h=>hK _ s o s' h
       .cases h
      .cases h
     .rw[df]at h;simp only[ae]at h;have⟨_,_,_,_,h⟩:=IY h;exact V6 h λds s o s' h=>hK _ s o s' h
   |_=>cases h
  |_=>rw[hx]at h;cases h
theorem Zs6: ∀ {l:List ResultVar} {t:Nat},xX l t=true->∀a u,ResultVar.cell a u∈l->a≠t
 |[],_,_,a,u,hm=>by cases hm
 | .tmp _::_,_,h,_,_,_=>by cases h
 | .cell b v::l,t,h,a,u,hm=>by
  simp only[xX,aS,kN]at h;rcases ep.1 hm with e|hm
  .grind[FG]
  .exact Zs6 h.2 a u hm
theorem ZrH: ∀ {l:List ResultVar} (_: ∀t,ResultVar.tmp t∉l) {a u:Nat},ResultVar.cell a u∈l->xX l a=false
 |[],_,a,u,hm=>by cases hm
 | .tmp t::_,h,_,_,_=>absurd Do (h t)
 | .cell b v::l,h,a,u,hm=>by
  rw[xX];rcases ep.1 hm with e|hm
  .simp_all
  .rw[ZrH Fd hm,Bz]
theorem ZxY {c:Option Code} {iV:List Operand} (h:JJ c=some (td,g,iV)):
  ∃id t1 p1 a1 aT t2 p2 a2,c=some (.region id #[⟨some td,.makeFunc (.func g) #[] iV.toArray,t1,p1,a1,none⟩,⟨none,.defer ⟨.value (.tmp td), #[],aT⟩,t2,p2,a2,none⟩] false):=by
 unfold JJ at h;split at h
 .rename_i id td' g' alG t1 p1 a1 t' aT t2 p2 a2
  cases hb:Nat.beq td' t'
  .rw[hb]at h;cases h
  .rw[hb]at h;simp_all
 .cases h
theorem ZxS {Q:Exit->Act->World->Prop} {a:Act} {x:Value} (ho:ops[i]? =some o) (hg:o.guard=none) (he:(execOp a.eval o).run P w= .ok (.value x) w)
  (h:wpOps P ops Q rest (a.put o.dst x) w):wpOps P ops Q (i::rest) a w:=by
 simp only[wpOps,ho];rw[bx (by simp[Region.wanted,hg])];left;unfold Oper.wp;rw[he];exact h
theorem ZuH {Q:Exit->Act->World->Prop} {a:Act} {d:Deferred} (ho:ops[i]? =some o) (hg:o.guard=none) (he:(execOp a.eval o).run P w= .ok (.defer d) w)
  (h:wpOps P ops Q rest ({ a with defers:=d::a.defers }.put o.dst Go.undef) w):wpOps P ops Q (i::rest) a w:=by
 simp only[wpOps,ho];rw[bx (by simp[Region.wanted,hg])];left;unfold Oper.wp;rw[he];exact h
end
theorem Zo1 {m:M ah} {H:Bool->M Y} {r:Out Y×St} (h:wg m H s=some r):(∃ds s2,m s=some (.val ds,s2)/\H false s2=some r)\/(∃s2,m s=some (.fH,s2)/\H true s2=some r):=by
 grind[wg]
theorem ZBn {α:Type} {l:List α} {k:Nat} {x:α} (h:l[k]? =some x):l=l.take k++x::l.drop (k+1):=by
 obtain⟨hk,rfl⟩:=eE.1 h;rw[<-iR hk,mD]
theorem Cg (r:Out ah×St):Lk (λ_:Env=>(aw []:M ah)) r:=by
 intro E s' h';grind[aw,gf]
def isG (k:Nat) (fn:Func) (g:FuncId):Bool:=match fn.body with
 |some code=>match JJ ((qz code)[k]?)with
  |some (_,g',_)=>Nat.beq g' g
  |none=>false
 |none=>false
set_option maxHeartbeats 1000000 in
theorem Zzy (hF:H9 C) {c:Zf} (hc:ZW C c) {n k:Nat} {fn gq:Func} (hfn:C.P.funcs[wq]? =some fn) (sE:(fn.name== "runtime.NumGoroutine")=false) (EA:C.P.funcs[g]? =some gq) (aiT:(gq.name== "runtime.NumGoroutine")=false) (hg:isG k fn g=true) {out:Out ah×St} (h:XA C k fn gq c n args s=some out):N2 C wq args s out:=by
 unfold XA at h;cases hb:fn.body with
 |none=>rw[hb]at h;cases h
 |some code=>
 cases AZ:gq.body with
 |none=>rw[hb,AZ]at h;cases h
 |some AM=>
 rw[hb,AZ]at h;simp only at h;cases hd:JJ ((qz code)[k]?)with
 |none=>rw[hd]at h;cases h
 |some p=>
 have⟨td,g',iV⟩:=p;cases Ez:GQ C.P gq.nfree gq.ntmps AM with
 |none=>rw[hd,Ez]at h;cases h
 |some gb=>
 rw[hd,Ez]at h;simp only at h;have:g'=g:=by unfold isG at hg;rw[hb]at hg;simp only at hg;rw[hd]at hg;exact dQ hg
 subst this;have⟨fG,h⟩:=Zq h;simp only[aS]at fG;have⟨⟨⟨⟨⟨⟨⟨⟨⟨⟨k1,k2⟩,k3⟩,k4⟩,k5⟩,k6⟩,k7⟩,k8⟩,k9⟩,k10⟩,k11⟩:=fG;have k4:=rS k4;have k5:td<fn.ntmps:=by rw[rR]at k5;exact k5
 have k7:=dQ k7;have k10:=rS k10;have k11:=dQ k11;have⟨ds,h,nz,lM,vn⟩:=IB h;have hlen:ds.length=fn.params.size:=by rw[lM];simp
 have⟨id,t1,p1,a1',aT,t2,p2,a2',hx⟩:=ZxY hd;have Yo:=ZBn hx;have KD: ∀t,ResultVar.tmp t∉fn.results.toList:=by
  intro t hm;have: ∀(l:List ResultVar) (u:Nat),xX l u=true->ResultVar.tmp t∉l:=by
   intro l;induction l with
   |nil=>intro u _ hm;cases hm
   |cons x l ih=>
    intro u hu hm;cases x with
    |tmp y=>cases hu
    |cell a v=>
     simp only[xX,aS]at hu;rcases ep.1 hm with e|hm
     .cases e
     .exact ih u hu.2 hm
  exact this _ _ k6 hm
 have GZ: ∀E s' r,rL C E fn.results.toList (λds=>(aw ds:M ah)) s'=some r->r.2=s':=by
  intro E s' r h';have⟨o,s2⟩:=r;exact V6 h' λds s o s' h=>by simp only[aw,gf,FM]at h;exact h.2.symm
 have lkf:Lk (λE=>rL C E fn.results.toList λds=>(aw ds:M ah)) out:=λE s' h'=>by rw[GZ E s' out h'];exact aJ _
 have half: ∀E s',(aA (Nat.beq E.bS 0&&P3 (E.get td)) (Bv C E iV λcs=>
      wg (yR C c n ((qz code).drop (k+1)) (λ_=>aw []) (λ_=>aw []) E)
       λp=>bif p then wg (exec C [] c n gb .z (λ_=>aw []) (λ_ _=>fail) (λ_=>aw []) ⟨0,kS 0 cs⟩) λp=>bif p then fail else rL C E fn.results.toList λds=>(aw ds:M ah)
        else rL C E fn.results.toList λds=>(aw ds:M ah))) s'=some out->
   E.bS=0/\E.get td= .u/\∃cs o s2,SV C E iV cs/\yR C c n ((qz code).drop (k+1)) (λ_=>aw []) (λ_=>(aw []:M ah)) E s'=some (o,s2)/\s'.length<=s2.length/\
    (((∃x,o= .val x)/\rL C E fn.results.toList (λds=>(aw ds:M ah)) s2=some out)\/
     (o= .fH/\∃x s3,exec C [] c n gb .z (λ_=>aw []) (λ_ _=>fail) (λ_=>(aw []:M ah)) ⟨0,kS 0 cs⟩ s2=some (.val x,s3)/\s2.length<=s3.length/\rL C E fn.results.toList (λds=>(aw ds:M ah)) s3=some out)):=by
  intro E s' h';have⟨lK,h'⟩:=nn h';rw[aS]at lK;have hu:E.get td= .u:=by
   have:=lK.2;unfold P3 at this;cases he:E.get td<;>rw[he]at this<;>first|rfl|cases this
  have⟨cs,h',PU⟩:=Iz h';refine⟨dQ lK.1,hu,cs,?_⟩;rcases Zo1 h' with⟨x,s2,hm,hf⟩|⟨s2,hm,hf⟩
  .exact⟨_,s2,PU,hm,Gl (r:=(.val x,s2)) hF.cfg hc _ _ _ (Cg _) (Cg _) E s' hm,.inl ⟨⟨x,rfl⟩,hf⟩⟩
  .simp only[ae]at hf
   rcases Zo1 hf with⟨x,s3,eG,hf⟩|⟨s3,_,hf⟩
   .exact⟨_,s2,PU,hm,Gl (r:=(.fH,s2)) hF.cfg hc _ _ _ (Cg _) (Cg _) E s' hm,.inr ⟨rfl,x,s3,eG,Je (r:=(.val x,s3)) hF.cfg hc gb .z _ _ _ (Cg _) (λ_ _ _ h=>by cases h) (Cg _) _ s2 eG,hf⟩⟩
   .cases hf
 have lkh:Lk (λE=>aA (Nat.beq E.bS 0&&P3 (E.get td)) (Bv C E iV λcs=>
      wg (yR C c n ((qz code).drop (k+1)) (λ_=>aw []) (λ_=>aw []) E)
       λp=>bif p then wg (exec C [] c n gb .z (λ_=>aw []) (λ_ _=>fail) (λ_=>aw []) ⟨0,kS 0 cs⟩) λp=>bif p then fail else rL C E fn.results.toList λds=>(aw ds:M ah)
        else rL C E fn.results.toList λds=>(aw ds:M ah))) out:=by
  intro E s' h';have⟨_,_,cs,o,s2,_,_,hl,hh⟩:=half E s' h';rcases hh with⟨_,hf⟩|⟨_,x,s3,_,CY,hf⟩
  .rw[GZ E s2 out hf];exact hl
  .rw[GZ E s3 out hf];omega
 refine⟨Gl hF.cfg hc _ _ _ lkh lkf _ s h,λψ w vs Bg J0 EB lJ CV K6=>?_⟩;have pV:=vn C ψ vs lJ;have Db:=pV.len;unfold Au;have vm:(callFunc wq vs.toArray).run C.P w= .ok (.enter wq vs.toArray) w:=by
  have xM: ¬fn.name= "runtime.NumGoroutine" :=by simpa using sE
  simp[callFunc,hfn,xM,hb]
 rw[vm];refine calls_of_wp_defers hfn hb (ZAR _ _ _ _ ?_)
 let f:Fr:=⟨out.2.length,fn.ntmps,ψ,s,w,um fn.ntmps,λx h=>by unfold um at h;rw[rR]at h;exact h,λt=>(vs.toArray++Array.replicate (fn.ntmps-vs.toArray.size) Go.undef).getD t Go.undef,[]⟩
 have xD: ∀t,(⟨0,kS 0 ds⟩:Env).get t=match ds[t]? with|some d=> .v d|none=> .u:=by
  intro t;have:=Nj 0 ds t;simp only[cN,nM,w9]at this;exact this
 have Fg: ∀t v,((⟨0,kS 0 ds⟩:Env).get t).dp≠some v:=by
  intro t v;rw[xD];cases ds[t]? <;>simp[fg.dp]
 have Cs: ∀h ab,CR ⟨0,kS 0 ds⟩ s h ab->CS s h ab:=by
  intro h ab c;cases h with
  |inl i=>exact⟨i,rfl,c⟩
  |inr v=>
   rcases c with⟨t,n,cs,e,_⟩|⟨t,l,p,e,_⟩
   .exact absurd (by rw[e];rfl) (Fg t v)
   .exact absurd (by rw[e];rfl) (Fg t v)
 have R:Rel C f ψ ⟨0,kS 0 ds⟩ s { tmps:=vs.toArray++Array.replicate (fn.ntmps-vs.toArray.size) Go.undef,defers:=[] } w:=by
  refine⟨Bg.weaken λ_ _ _ _ c=>Cs _ _ c,⟨λt v e=>absurd e (Fg t v),λt r v o e=>?_,λt v n cs e=>absurd (by rw[e];rfl) (Fg t v),λt t' v e _=>absurd e (Fg t v)⟩,J0,EB,λt=>?_,?_,rfl,K6,λv _=>CV v,(Ext.refl ψ (CS s) w).weaken λ_ _ _ _ c=>Cs _ _ c,λi cb e=> .inl e,aJ _,CV⟩
  .rw[xD]at e
   cases hd:ds[t]? <;>rw[hd]at e<;>cases e
  .rw[xD]
   cases hd:ds[t]?
   .trivial
   .rename_i d;have⟨v,hv,hr⟩:=pV.get hd;have:(vs.toArray++Array.replicate (fn.ntmps-vs.toArray.size) Go.undef).getD t Go.undef=v:=by
     have av:=(eE.1 hv).1;rw[tg,QB (by simpa using av)];simp[hv]
    show gh C ψ (.v d) _;rw[this];exact hr
  .refine⟨?_,λ_ _=>rfl⟩
   show(vs.toArray++Array.replicate (fn.ntmps-vs.toArray.size) Go.undef).size=fn.ntmps;rw[Array.size_append,Array.size_replicate,List.size_toArray];omega
 have done: ∀ {E':Env} {s':St} {ψ':Ps} {tmps:Array Value} {w':World},rL C E' fn.results.toList (λds=>(aw ds:M ah)) s'=some out->kh C ψ s w ψ' s' w'->Ju ψ' E' tmps fn.results.toList->
   ∃v,(results fn tmps).run C.P w'= .ok v w'/\∃ds,out.1= .val ds/\∃ψ',kh C ψ s w ψ' out.2 w'/\BL C ψ' ds v:=by
  intro E' s' ψ' tmps w' h' cp hp;have⟨nv,jI,hk,hr,ee⟩:=V2 cp.fp hp h';simp only[aw,gf]at hk;refine⟨_,ZnC ee,nv,by rw[<-hk],ψ',?_,?_⟩
  .rw[<-hk];exact cp
  .by_cases h1:jI.length=1
   .rw[dif_pos h1]
    cases hr with
    |nil=>cases h1
    |cons d v ds vs a b=>
     cases b with
     |nil=>exact .inl ⟨d,rfl,a⟩
     |cons _ _ _ _ _ _=>simp at h1
   .rw[dif_neg h1]
    exact .inr ⟨by rw[hr.len];exact h1,_,rfl,hr⟩
 have aen: ∀ {ψ':Ps} {E':Env} {tmps:Array Value},(∀t,gh C ψ' (E'.get t) (tmps.getD t Go.undef))->Ju ψ' E' tmps fn.results.toList:=by
  intro ψ' E' tmps hr a t _ i o he;have:=hr a;rw[he]at this;have this:VR C ψ' (.ptr (some (i,o))) (tmps.getD a Go.undef):=this;generalize tmps.getD a Go.undef=v at this;cases this with
  |ptr _ _ cb e=>exact⟨cb,e,rfl⟩
 rw[Yo,WO];refine V1 hF.cfg hc hF.OO (f:=f) (aJ _) _ _ _ k1 lkh lkf _ s h ψ _ w _ R ?_ ?_ ?_
 ·
  intro E1 s1 ji a1 w1 h1 R1;have⟨Hw,hu,cs,o,s2,PU,hm,Pq,hh⟩:=half E1 s1 h1;show Code.wp C.P _ _ a1 w1;have aaS: ∀v,ji (.inr v)=none:=λv=>R1.wT v (by rw[Hw];exact cN _)
  have e1:oO ji=ji:=by
   funext x;cases x with
   |inl i=>rfl
   |inr v=>exact(aaS v).symm
  have XF:=R1.AH;rw[e1]at XF;have y9: ∀h ab,CR E1 s1 h ab->CS s1 h ab:=by
   intro h ab c;cases h with
   |inl i=>exact⟨i,rfl,c⟩
   |inr v=>
    rcases c with⟨t,n,cs,e,_⟩|⟨t,l,p,e,_⟩
    .have:=R1.iw.lt t v (by rw[e];rfl);omega
    .have:=R1.iw.lt t v (by rw[e];rfl);omega
  have hN2:s2.length<=out.2.length:=by
   rcases hh with⟨_,hf⟩|⟨_,x,s3,_,CY,hf⟩
   .rw[GZ E1 s2 out hf];exact aJ _
   .rw[GZ E1 s3 out hf];exact CY
  have afy:bJ C ji cs (iV.map a1.eval):=I8 (o:=⟨some td,.makeFunc (.func g') #[] iV.toArray,t1,p1,a1',none⟩) (D:=λ_=>True) R1.pre (λx hx=>by simp[Op.operands];exact hx) PU;refine wp_region (ZxS (o:=⟨some td,.makeFunc (.func g') #[] iV.toArray,t1,p1,a1',none⟩) (x:= .func (.func g') #[] (iV.toArray.map a1.eval)) rfl rfl (by simp[execOp,Instr.makeFunc]) ?_);have akc:a1.tmps.size=fn.ntmps:=R1.oZ.1;have Yy:(a1.put (some td) (.func (.func g') #[] (iV.toArray.map a1.eval))).eval (.tmp td)= .func (.func g') #[] (iV.toArray.map a1.eval):=by
   rw[Act.put,Act.eval,tg,QC AC];rfl
  refine ZuH (o:=⟨none,.defer ⟨.value (.tmp td), #[],aT⟩,t2,p2,a2',none⟩) (d:= { target:= .fn (.func g') (iV.toArray.map a1.eval),args:= #[] }) rfl rfl ?_ ?_
  .simp only[execOp,resolve,Yy,Deferred.ofValue]
   simp
  show uz C.P ((qz code).drop (k+1)) _ _ w1
  let d:Deferred:= { target:= .fn (.func g') (iV.toArray.map a1.eval),args:= #[] }
  let a2:Act:= { tmps:=a1.tmps.setIfInBounds td (.func (.func g') #[] (iV.toArray.map a1.eval)),defers:=[d] }
  have AU:({ (a1.put (some td) (.func (.func g') #[] (iV.toArray.map a1.eval)))with defers:=d::(a1.put (some td) (.func (.func g') #[] (iV.toArray.map a1.eval))).defers } :Act).put none Go.undef=a2:=by
   have:a1.defers=[]:=R1.defs;simp only[Act.put,this,a2]
  show uz C.P ((qz code).drop (k+1)) _ (({ (a1.put (some td) (.func (.func g') #[] (iV.toArray.map a1.eval)))with defers:=d::(a1.put (some td) (.func (.func g') #[] (iV.toArray.map a1.eval))).defers } :Act).put none Go.undef) w1;rw[AU];have aea: ∀t,t≠td->a2.tmps.getD t Go.undef=a1.tmps.getD t Go.undef:=by
   intro t ht;simp only[a2];rw[tg,tg,Array.getElem?_setIfInBounds_ne (Ne.symm ht)]
  let f2:Fr:=⟨s2.length,fn.ntmps,ji,s1,w1,λt=>um fn.ntmps t&&xX fn.results.toList t,λx h=>by rw[aS]at h;have h:=h.1;unfold um at h;rw[rR]at h;exact h,λt=>a2.tmps.getD t Go.undef,[d]⟩
  have R2:Rel C f2 ji E1 s1 a2 w1:=by
   refine⟨R1.fp,R1.iw,R1.gU,R1.mj,λt=>?_,⟨?_,λ_ _=>rfl⟩,rfl,λi h1 h2=>R1.uy i h1 (mE h2 hN2),R1.wT,(Ext.refl ji (CS s1) w1).weaken λ_ _ _ _ c=>y9 _ _ c,λi cb e=> .inl e,aJ _,aaS⟩
   .by_cases ht:t=td
    .subst ht;rw[hu];trivial
    .rw[aea t ht];exact R1.kH t
   .show(a1.tmps.setIfInBounds _ _).size=fn.ntmps
    simp[akc]
  have hinv:(invoke (.fn (.func g') (iV.toArray.map a1.eval)) #[]).run C.P=λw=> .ok (.enter g' (iV.map a1.eval).toArray) w:=by
   funext w';have xM: ¬gq.name= "runtime.NumGoroutine" :=by simpa using aiT
   have:(#[]:Array Value)++iV.toArray.map a1.eval=(iV.map a1.eval).toArray:=Do
   show(callFunc g' (#[]++iV.toArray.map a1.eval)).run C.P w'=_;rw[this];simp[callFunc,EA,xM,AZ]
  have aku: ∀ {a':Act},Ks f2 a'->∀b u,ResultVar.cell b u∈fn.results.toList->a'.tmps.getD b Go.undef=a1.tmps.getD b Go.undef:=by
   intro a' hk b u hm;have fG:f2.ok b=false:=by
    show(um fn.ntmps b&&xX fn.results.toList b)=false;rw[ZrH KD hm,Bz]
   rw[hk.2 b fG];exact aea b (Zs6 k6 b u hm)
  have akS:=aen R1.kH;have aem: ∀ {ψ':Ps} {a':Act},Ks f2 a'->(∀h cb,ji h=some cb->ψ' h=some cb)->Ju ψ' E1 a'.tmps fn.results.toList:=by
   intro ψ' a' hk ajb b u hm i o he;have⟨cb,h1,h2⟩:=akS b u hm i o he;exact⟨cb,ajb _ _ h1,by rw[aku hk b u hm];exact h2⟩
  have AN: ∀ {E':Env} {s':St} {ψ':Ps} {a':Act} {w':World},(aw []:M ah) s'=some (o,s2)->Rel C f2 ψ' E' s' a' w'->Leaves C.P fn a'.tmps (λe w'=>match e,w' with
    | .returned v,w'=>∃ds,out.1= .val ds/\∃ψ',kh C ψ s w ψ' out.2 w'/\BL C ψ' ds v
    | .panicked ch,w'=>qf ch/\out.1= .fH/\∃ψ',kh C ψ s w ψ' out.2 w'
    | .outgrown,_=>False) a'.defers .returning w':=by
   intro E' s' ψ' a' w' h' R';simp only[aw,gf,FM]at h';have⟨ho,jt⟩:=h';have ho:o= .val []:=ho.symm;have jt:s'=s2:=jt;subst jt;have Ys:a'.defers=[d]:=R'.defs;rw[Ys];refine leaves_cons Do (by rw[hinv]) ?_;refine(Zsy (vs:=(iV.map a1.eval).toArray) EA AZ Ez k9).mono ?_;rintro e u' yd ⟨rfl,rfl,rfl⟩;have xz:=R'.AH;rcases hh with⟨_,hf⟩|⟨hp,_⟩
   .exact done hf (XF.trans R1.len Pq xz) (aem R'.oZ xz.ext.mono)
   .rw[ho]at hp;cases hp
  refine V1 hF.cfg hc hF.OO (f:=f2) (r:=(o,s2)) (aJ _) _ _ _ k2 (Cg _) (Cg _) E1 s1 hm ji a2 w1 _ R2 ?_ ?_ ?_
  .intro E' s' ψ' a' w' h' R';exact AN h' R'
  .intro E' s' ψ' a' w' h' R';exact AN h' R'
  .intro ch a' w' s' e hv hp
   cases e;rcases hh with⟨⟨x,hx⟩,_⟩|⟨_,x,s3,xL,CY,hf⟩
   .cases hx
   have⟨lr,xz⟩:=hp.post;have Ys:a'.defers=[d]:=hp.defs;show Leaves C.P fn a'.tmps _ a'.defers (.panicking ch) w';rw[Ys];refine leaves_cons Do (by rw[hinv]) ?_;have xQ:out.2=s3:=GZ E1 s3 out hf;refine(ZuP hF hc (ψ:=lr) (s:=s2) (w:=w') (vs:=iV.map a1.eval) EA AZ Ez k9 k3 (by simpa using k11) k10 xL xz.fp (xz.ext.gU R1.gU) (xz.ext.mj R1.mj) (afy.mono (ψ:=ji) (ψ':=lr) λ_ _ e=>xz.ext.mono _ _ e) (λv=>?_) (λi h1 h2=>?_) hv).mono ?_
   .cases xT:lr (.inr v)
    .rfl
    .rename_i cb;rcases xz.news _ _ xT with e|⟨i,e,_⟩
     .have:=aaS v
      rw[show f2.jh=ji from rfl,this]at e;cases e
     .cases e
   .cases xT:lr (.inl i)
    .rfl
    .rename_i cb;rcases xz.news _ _ xT with e|⟨j,e,_,hj⟩
     .have:=R1.uy i (ij Pq h1) (by rw[<-xQ]at h2;exact h2)
      rw[show f2.jh=ji from rfl,this]at e;cases e
     .cases e;omega
   .rintro e u' yd ⟨rfl,dy,L7,cp3⟩
    show Leaves C.P fn a'.tmps _ [] (settle u') yd;rw[dy];have afA:=(XF.trans R1.len Pq xz).trans (ij R1.len Pq) CY cp3;exact done hf afA (aem hp.ks λ_ _ e=>cp3.ext.mono _ _ (xz.ext.mono _ _ e))
 ·
  intro E' s' ψ' a' w' h' R';show Leaves C.P fn a'.tmps _ a'.defers .returning w';rw[show a'.defers=[]from R'.defs];refine done h' R'.AH λb u hm i o he=>?_
  have⟨cb,h1,h2⟩:=aen R'.kH b u hm i o he;exact⟨cb,h1,h2⟩
 .intro ch a' w' s' e hv hp
  show Leaves C.P fn a'.tmps _ a'.defers (.panicking ch) w';rw[show a'.defers=[]from hp.defs];have⟨ψ',gm⟩:=hp.post;exact⟨hv,by rw[e],ψ',by rw[e];exact gm⟩
theorem ZlE {fn:Func} {w:World} {R:Ending->World->Prop} (hfn:P.funcs[f]? =some fn) (sE:(fn.name== "runtime.NumGoroutine")=false) (hb:fn.body.isSome=true)
  (h:Calls P f vs w R):Au P f vs w R:=by
 have xM: ¬fn.name= "runtime.NumGoroutine" :=by simpa using sE
 have e:(callFunc f vs).run P w= .ok (.enter f vs) w:=by
  cases dq:fn.body
  .rw[dq]at hb;cases hb
  .rename_i c;simp[callFunc,hfn,xM,dq]
 grind[Au]
