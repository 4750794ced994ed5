/- What a region's operations do, one behind the other, as the machine takes them. -/
import Derived.Test.YtegglibipjjblaaGreatDoorGvZOps
import Derived.Laws.Externs
import Derived.Lib.Bytealg
import Derived.OrdersHeld
import Derived.Recover
import Derived.Defers
import Derived.Lib.Join
import Derived.Lib.Repeat
set_option linter.all false
namespace Go.Gv
variable {β:Type}
structure mZ (E E':Env):Prop where
 bW:E'.bW=E.bW
 get: ∀t,E'.get t=E.get t\/E'.get t= .u
def GW (dst:Nat->Option Nat) (E:Env) (o:Oper):Prop:=o.guard=none\/∃j w r,o.guard=some (j,w)/\dst j=some r/\E.get r= .v (.bool w)
def GU (dst:Nat->Option Nat) (E:Env) (o:Oper):Prop:=∃j w r,o.guard=some (j,w)/\dst j=some r/\((∃b,E.get r= .v (.bool b)/\b≠w)\/E.get r= .un)
section
variable (C:bE) (dst:Nat->Option Nat) (pr ms:al)
inductive Step:Oper×Md->Env->St->Env->St->Prop
 |act {p:Oper×Md} {E s E' s'} :GW dst E p.1->mY (nC p.2 E) pr ms p.1 E s E' s'->DO C p.1 (qk p.2 E) (nC p.2 E) E s E' s'->Step p E s E' s'
 |skip {p:Oper×Md} {E s} :GU dst E p.1->Step p E s (E.fu p.1.dst .un) s
inductive Tr:List (Oper×Md)->Env->St->Env->St->Prop
 |nil (E s):Tr [] E s E s
 |jc {l E E1 s E2 s2} :mZ E E1->Tr l E1 s E2 s2->Tr l E s E2 s2
 |cons {p l E s E1 s1 E2 s2} :Step C dst pr ms p E s E1 s1->Tr l E1 s1 E2 s2->Tr (p::l) E s E2 s2
inductive oj:List (Oper×Md)->Env->St->St->Prop
 |jc {l E E1 s s2} :mZ E E1->oj l E1 s s2->oj l E s s2
 |here {p l E s s'} :GW dst E p.1->p.2.x=0->xZ C p.1 (qk p.2 E) E s s'->oj (p::l) E s s'
 |next {p l E s E1 s1 s2} :Step C dst pr ms p E s E1 s1->oj l E1 s1 s2->oj (p::l) E s s2
end
variable {ab df:AB} {a0:Act} {listed:Array Bool} {ops:Array Oper} {cb:CB} {E E' E0 E1 E2 Ij:Env} {QQ:Exit->Act->World->Prop} {A:FA} {f vI:FuncId} {Q Q' Q0:Kn} {J:List (Nat×JS)} {l l1 l2:List (Oper×Md)} {vs:List Value} {is:List gN} {N i id j k m n t u x':Nat} {dst:Nat->Option Nat} {L' LU aa4:Nat->Prop} {o:Oper} {p p':Oper×Md} {r:Out β×St} {P:Program} {iQ ψ ψ':Ps} {s s' s0 s1 s2:St} {v:Value} {w w' w0:World} {c:Zg} {args cs cs' ds:ah} {acc ix l' ms pr:al} {C:bE} {h:dN} {k':mu}
section
variable {C:bE} {dst:Nat->Option Nat} {pr ms:al}
theorem Tr.append (h:Tr C dst pr ms l1 E s E1 s1) (k:Tr C dst pr ms l2 E1 s1 E2 s2):Tr C dst pr ms (l1++l2) E s E2 s2:=by
 induction h with
 |nil=>exact k
 |jc w _ ih=>exact .jc w (ih k)
 |cons st _ ih=>exact .cons st (ih k)
theorem oj.left (h:oj C dst pr ms l1 E s s2) (l2:List (Oper×Md)):oj C dst pr ms (l1++l2) E s s2:=by
 induction h with
 |jc w _ ih=>exact .jc w ih
 |here a b c=>exact .here a b c
 |next st _ ih=>exact .next st ih
theorem Tr.fy (h:Tr C dst pr ms l1 E s E1 s1) (k:oj C dst pr ms l2 E1 s1 s2):oj C dst pr ms (l1++l2) E s s2:=by
 induction h with
 |nil=>exact k
 |jc w _ ih=>exact .jc w (ih k)
 |cons st _ ih=>exact .next st (ih k)
theorem Zmh {r:Nat} : ∀ {l acc:List (Oper×Md)} {eW:List (Oper×Md)} {pk:Oper} {rest:List (Oper×Md)},Eg r acc l=some (eW,pk,rest)->
  ∃x y z,acc.reverse++l=eW++(pk,x)::rest/\pk.op= .pick (.tmp r) y z
 |[],acc,eW,pk,rest,h=>by cases h
 |(o,x)::l,acc,eW,pk,rest,h=>by
  simp only[Eg]at h;have go:Eg r ((o,x)::acc) l=some (eW,pk,rest)->∃x' y z,acc.reverse++(o,x)::l=eW++(pk,x')::rest/\pk.op= .pick (.tmp r) y z:=by
   intro h;have⟨x',y,z,h1,h2⟩:=Zmh h;exact⟨x',y,z,by rw[<-h1];simp,h2⟩
  split at h
  .rename_i t y z dX
   cases hb:Nat.beq t r with
   |true=>
    rw[hb]at h;simp only[ae,fZ,FV]at h;obtain⟨rfl,rfl,rfl⟩:=h;have:=dP hb;subst this;exact⟨x,y,z,rfl,dX⟩
   |false=>rw[hb]at h;exact go h
  .exact go h
theorem ZsN: ∀ {act:List (Nat×Bool)} {g:Nat×Bool},OJ act g=true->g∈act
 |[],_,h=>by cases h
 |(k,b)::r,g,h=>by
  simp only[OJ,mm,aY]at h;rcases h with⟨h1,h2⟩|h
  .have e1:=dP h1
   have e2:b=g.2:=by simpa using h2
   have:g=(k,b):=by rw[e1,e2]
   rw[this];exact tV
  .exact xT _ (ZsN h)
theorem M0 {j:Nat} {w:Bool} {r:Nat} : ∀ {l:List (Oper×Md)} {sk:al},EA pr dst j w r sk l=true->∀p∈l,¬Spec pr p.1/\p.1.dst≠some r
 |[],_,_,p,hp=>by cases hp
 |(o,x)::l,sk,h,p,hp=>by
  simp only[EA,aY]at h;have⟨⟨h1,_⟩,h3⟩:=h;have iZ: ¬Spec pr o:=by
   unfold Spec;intro hs;cases dX:o.op<;>rw[dX]at hs h1<;>simp only at hs h1<;>first|exact hs|(cases h1;done)|skip
   all_goals
    have⟨d,hd,ji⟩:=hs;rw[hd]at h1;simp only at h1;rw[ji]at h1;cases h1
  cases hd:o.dst with
  |none=>
   rw[hd]at h3;rcases eM.1 hp with rfl|hp
   .exact⟨iZ,by simp[hd]⟩
   .exact M0 h3 p hp
  |some d=>
   rw[hd]at h3;simp only[aY]at h3;rcases eM.1 hp with rfl|hp
   .refine⟨iZ,?_⟩
    rw[hd];intro e;cases e;have:=h3.1;rw[FP]at this;cases this
   .exact M0 h3.2 p hp
theorem Gm: ∀ {l:List (Oper×Md)} {t:Nat},has (gW l) t=true↔ ∃p∈l,p.1.dst=some t
 |[],t=>by simp[gW,has]
 |(o,x)::l,t=>by
  simp only[gW,eM,exists_eq_or_imp];cases hd:o.dst with
  |none=>rw[Gm];simp
  |some d=>
   rw[has,mm,Gm,fZ];constructor
   .rintro(h|h)
    .exact .inl (dP h)
    .exact .inr h
   .rintro(h|h)
    .exact .inl (by subst h;exact FP _)
    .exact .inr h
theorem WA {j:Nat} {w:Bool} {r:Nat} (hj:dst j=some r) {b:Bool} (hb:b≠w): ∀ {l:List (Oper×Md)} {sk:al} {E:Env} {s:St},EA pr dst j w r sk l=true->E.get r= .v (.bool b)->(∀d,has sk d=true->E.get d= .un)->
  ∃E1,Tr C dst pr ms l E s E1 s/\E1.bW=E.bW/\(∀u,has (gW l) u=false->E1.get u=E.get u)
 |[],_,E,s,_,_,_=>⟨E,.nil E s,rfl,λ_ _=>rfl⟩
 |(o,x)::l,sk,E,s,h,hr,YW=>by
  have YX:=M0 h (o,x) Do;simp only[EA,aY]at h;have⟨⟨_,h2⟩,h3⟩:=h;have hg:GU dst E o:=by
   cases hg:o.guard with
   |none=>rw[hg]at h2;cases h2
   |some g=>
    have⟨j',w'⟩:=g;rw[hg]at h2;simp only[mm,aY]at h2;rcases h2 with⟨h4,h5⟩|h4
    .have:=dP h4
     have h5:w'=w:=by simpa using h5
     subst this;subst h5;exact⟨_,_,r,hg,hj,.inl ⟨b,hr,hb⟩⟩
    .cases hd:dst j' with
     |none=>rw[hd]at h4;cases h4
     |some d=>rw[hd]at h4;exact⟨j',w',d,hg,hd,.inr (YW d h4)⟩
  have kZ:(E.fu o.dst .un).get r= .v (.bool b):=by rw[Env.kR,bq YX.2];exact hr
  cases hd:o.dst with
  |none=>
   rw[hd]at h3;have⟨E1,t1,t2,t3⟩:=WA hj hb (E:=E.fu o.dst .un) (s:=s) h3 kZ (λd h=>by rw[hd];exact YW d h);refine⟨E1,.cons (.skip hg) t1,by rw[t2];simp,λu hu=>?_⟩;simp only[gW,hd]at hu;rw[t3 u hu,hd];rfl
  |some d=>
   rw[hd]at h3;simp only[aY]at h3;have⟨E1,t1,t2,t3⟩:=WA hj hb (E:=E.fu o.dst .un) (s:=s) h3.2 kZ (λd' h=>by
    rw[Env.kR,hd];simp only[has,mm]at h;by_cases e:some d=some d'
    .rw[bG e]
    .rw[bq e]
     rcases h with h|h
     .exact absurd (by rw[dP h]) e
     .exact YW d' h)
   refine⟨E1,.cons (.skip hg) t1,by rw[t2];simp,λu hu=>?_⟩;simp only[gW,hd,has,BB]at hu;rw[t3 u hu.2,Env.kR,hd,bq];intro e;cases e;rw[FP]at hu;cases hu.1
theorem Zre {md:Md} {r:Nat} {y z:Operand} {b:Bool} (ho:o.op= .pick (.tmp r) y z) (hb:E.get r= .v (.bool b)) (hg:GW dst E o):
  Step C dst pr ms (o,md) E s (E.fu o.dst (E.src C (if b then y else z))) s:=by
 refine .act hg (mY.aaJ pr ms _ (Env.LO C E _) (λhE r v n h=>Env.FE C hE h)) (DO.pure (NY md E) _ (Env.LO C E _) λψ Q a w p=>⟨a.eval (if b then y else z),w,?_,.refl w,p.src ?_⟩)
 .have:=p.val (x:= .tmp r) (by simp[Op.operands,ho]) (d:= .bool b) (by rw[Env.src,hb])
  generalize hv:a.eval (.tmp r)=v at this;cases this;cases b<;>simp[execOp,ho,hv,asBool]
 .cases b<;>simp[Op.operands,ho]
structure Mod (un:Nat->Prop) (E E':Env):Prop where
 get: ∀u,un u->E'.get u=E.get u
 bW:E.bW<=E'.bW
 xO: ∀t v n cs,E'.get t= .loc v n cs->(∃ng,E.get t= .loc v n ng)\/E.bW<=v
 zO: ∀t v l p,E'.get t= .it v l p->(∃p0,E.get t= .it v l p0)\/E.bW<=v
theorem Mod.refl (un:Nat->Prop) (E:Env):Mod un E E:=⟨λ_ _=>rfl,aM _,λ_ _ _ cs h=> .inl ⟨cs,h⟩,λ_ _ _ p h=> .inl ⟨p,h⟩⟩
theorem Mod.trans {un:Nat->Prop} (h:Mod un E E') (k:Mod LU E' Ij) (h1: ∀u,aa4 u->un u) (h2: ∀u,aa4 u->LU u):Mod aa4 E Ij:=by
 refine⟨λu hu=>by rw[k.get u (h2 u hu),h.get u (h1 u hu)],hU h.bW k.bW,λt v n cs e=>?_,λt v l p e=>?_⟩
 .rcases k.xO t v n cs e with⟨c,e⟩|e
  .exact h.xO t v n c e
  .exact .inr (hU h.bW e)
 .rcases k.zO t v l p e with⟨c,e⟩|e
  .exact h.zO t v l c e
  .exact .inr (hU h.bW e)
def Mv (ms:al) (l:List (Oper×Md)) (u:Nat):Prop:=(∀p∈l,p.1.dst≠some u)/\has ms u=false
def ad9 (P:Program) (pr:al) (ops:List Oper) (p:Oper×Md):Prop:=p.2= .s\/∃x k m,p.2= .d (wx pr ops k m (cls P pr ops p.1)) x
theorem Zq5 (hC:pw C) (hc:ZW C c) {ops:List Oper} : ∀(n:Nat) (l:List (Oper×Md)) (act:List (Nat×Bool)) (E:Env) (K:Env->M β) (s:St),
  uk C pr ms c dst n l act E K s=some r->(∀p∈l,ad9 C.P pr ops p)->
  (∀g∈act,(∃q,dst g.1=some q/\E.get q= .v (.bool g.2)/\∀p∈l,p.1.dst≠some q)/\∀p∈l,¬Spec pr p.1)->
  (∃E' s',Tr C dst pr ms l E s E' s'/\K E' s'=some r/\((∀p∈l,¬Spec pr p.1)->E'.bW=E.bW/\∀u,(∀p∈l,p.1.dst≠some u)->E'.get u=E.get u)/\Mod (Mv ms l) E E')\/
  (∃s',r=(.fy,s')/\oj C dst pr ms l E s s'):=by
 intro n;induction n with
 |zero=>
  intro l act E K s h lL CP;cases l with
  |nil=>exact .inl ⟨E,s,.nil E s,h,λ_=>⟨rfl,λ_ _=>rfl⟩,.refl _ _⟩
  |cons p l=>cases h
 |succ n ih=>
  intro l act E K s h lL CP;cases l with
  |nil=>exact .inl ⟨E,s,.nil E s,h,λ_=>⟨rfl,λ_ _=>rfl⟩,.refl _ _⟩
  |cons p rest=>
   have⟨o,md⟩:=p;simp only[uk]at h;have gw: ∀ {E:Env} {o':Oper},(∀g∈act,∃q,dst g.1=some q/\E.get q= .v (.bool g.2))->OK act o'.guard=true->GW dst E o':=by
    intro E o' ha hg;cases Hl:o'.guard with
    |none=>exact .inl Hl
    |some g=>
     rw[Hl]at hg;have⟨q,h1,h2⟩:=ha g (ZsN hg);exact .inr ⟨g.1,g.2,q,Hl,h1,h2⟩
   cases hg:OK act o.guard with
   |true=>
    rw[hg]at h;simp only[ae]at h;have rY:=gw (E:=E) (λg hm=>let ⟨⟨q,h1,h2,_⟩,_⟩:=CP g hm;⟨q,h1,h2⟩) hg;rcases Wp hC hc (lL (o,md) Do) h with⟨E1,s1,hk,hF,hO⟩|⟨hx,s',rfl,hp⟩
    .have eF:Step C dst pr ms (o,md) E s E1 s1:= .act rY hF hO
     have kl: ¬Spec pr o->E1.bW=E.bW/\∀u,o.dst≠some u->E1.get u=E.get u:=by
      intro hs;rcases hF.plain with⟨e,_,rfl⟩|h
      .exact⟨Do,λu hu=>by rw[Env.kR,bq hu]⟩
      .exact absurd h hs
     rcases ih rest act E1 K s1 hk (λp hp=>lL p (by simp[hp])) (λg hm=>by
      have⟨⟨q,h1,h2,h3⟩,h4⟩:=CP g hm;exact⟨⟨q,h1,by rw[(kl (h4 (o,md) Do)).2 q (h3 (o,md) Do)];exact h2,λp hp=>h3 p (by simp[hp])⟩,λp hp=>h4 p (by simp[hp])⟩)with⟨E2,s2,t,jy,hn,Yy⟩|⟨s2,e,t⟩
     .refine .inl ⟨E2,s2,.cons eF t,jy,λhs=>?_,?_⟩
      rotate_left
      .have m1:Mod (λu=>o.dst≠some u/\has ms u=false) E E1:=⟨λu hu=>hF.other u hu.1 hu.2,hF.bW,λt v n cs h=>(hF.xO t v n cs h).imp id And.left,λt v l p h=>(hF.zO t v l p h).imp id And.left⟩
       exact m1.trans Yy (λu hu=>⟨hu.1 (o,md) Do,hu.2⟩) (λu hu=>⟨λp hp=>hu.1 p (by simp[hp]),hu.2⟩)
      have⟨k1,k2⟩:=kl (hs (o,md) Do);have⟨n1,n2⟩:=hn λp hp=>hs p (by simp[hp])
      exact⟨by rw[n1,k1],λu hu=>by rw[n2 u λp hp=>hu p (by simp[hp]),k2 u (hu (o,md) Do)]⟩
     .exact .inr ⟨s2,e,.next eF t⟩
    .exact .inr ⟨s',rfl,.here rY hx hp⟩
   |false=>
    rw[hg]at h;simp only[af]at h;cases Hl:o.guard with
    |none=>rw[Hl]at h;cases h
    |some g=>
     have⟨j,w⟩:=g;rw[Hl]at h;simp only at h;cases hj:dst j with
     |none=>rw[hj]at h;cases h
     |some q=>
      rw[hj]at h;simp only at h;cases hq:E.get q with
      |v d=>
       cases d with
       |bool b=>
        rw[hq]at h;cases Kl:Eg q [] ((o,md)::rest)with
        |none=>rw[Kl]at h;cases h
        |some x=>
         have⟨eW,pk,oQ⟩:=x;rw[Kl]at h;simp only at h;have⟨tH,y,z,hl,kd⟩:=Zmh Kl;simp only[List.reverse_nil,iG]at hl;rw[kd]at h;cases Dc:pk.dst with
         |none=>rw[Dc]at h;cases h
         |some t=>
          rw[Dc]at h;simp only at h;have⟨eL,h⟩:=Zt h;rw[aY]at eL;have⟨Pq,acJ⟩:=eL;have yY:=M0 acJ;rw[hl];rw[hl]at lL CP;have after: ∀(E1:Env) (s1:St) (v:Bool),Tr C dst pr ms (eW++[(pk,tH)]) E s ((E.del (gW eW)).put t (.v (.bool v))) s1->
            uk C pr ms c dst n oQ act ((E.del (gW eW)).put t (.v (.bool v))) K s1=some r->
            (∃E' s',Tr C dst pr ms (eW++(pk,tH)::oQ) E s E' s'/\K E' s'=some r/\((∀p∈eW++(pk,tH)::oQ,¬Spec pr p.1)->E'.bW=E.bW/\∀u,(∀p∈eW++(pk,tH)::oQ,p.1.dst≠some u)->E'.get u=E.get u)/\Mod (Mv ms (eW++(pk,tH)::oQ)) E E')\/
            (∃s',r=(.fy,s')/\oj C dst pr ms (eW++(pk,tH)::oQ) E s s'):=by
           intro E1 s1 v ht hr;have e:eW++(pk,tH)::oQ=(eW++[(pk,tH)])++oQ:=Do
           have get: ∀u,(∀p∈eW++(pk,tH)::oQ,p.1.dst≠some u)->((E.del (gW eW)).put t (.v (.bool v))).get u=E.get u:=by
            intro u hu;rw[Env.tp,bq (λe=>hu (pk,tH) Do (by rw[Dc,e])),Aq];have:has (gW eW) u=false:=by
             cases hh:has (gW eW) u with
             |false=>rfl
             |true=>
              have⟨p,hp,hd⟩:=Gm.1 hh;exact absurd hd (hu p (by simp[hp]))
            rw[this];rfl
           rcases ih oQ act _ K s1 hr (λp hp=>lL p (by simp[hp])) (λg hm=>by
            have⟨⟨q',h1,h2,h3⟩,h4⟩:=CP g hm;exact⟨⟨q',h1,by rw[get q' h3];exact h2,λp hp=>h3 p (by simp[hp])⟩,λp hp=>h4 p (by simp[hp])⟩)with⟨E2,s2,t2,jy,hn,Yy⟩|⟨s2,e2,t2⟩
           .refine .inl ⟨E2,s2,by rw[e];exact ht.append t2,jy,λhs=>?_,?_⟩
            rotate_left
            .have m1:Mod (λu=>∀p∈eW++(pk,tH)::oQ,p.1.dst≠some u) E ((E.del (gW eW)).put t (.v (.bool v))):=by
              refine⟨get,aM _,λu v' n' cs e=>?_,λu v' l' p e=>?_⟩<;>rw[Env.tp,Aq]at e<;>split at e
              .cases e
              .split at e
               .cases e
               .exact .inl ⟨cs,e⟩
              .cases e
              .split at e
               .cases e
               .exact .inl ⟨p,e⟩
             exact m1.trans Yy (λu hu=>hu.1) (λu hu=>⟨λp hp=>hu.1 p (by simp[hp]),hu.2⟩)
            have⟨n1,n2⟩:=hn λp hp=>hs p (by simp[hp])
            exact⟨by rw[n1];rfl,λu hu=>by rw[n2 u λp hp=>hu p (by simp[hp]),get u hu]⟩
           .exact .inr ⟨s2,e2,by rw[e];exact ht.fy t2⟩
          have nd: ∀u,(∀p∈eW++(pk,tH)::oQ,p.1.dst≠some u)->has (gW eW) u=false:=by
           intro u hu;cases hh:has (gW eW) u with
           |false=>rfl
           |true=>
            have⟨p,hp,hd⟩:=Gm.1 hh;exact absurd hd (hu p (by simp[hp]))
          have nq:has (gW eW) q=false:=by
           cases hh:has (gW eW) q with
           |false=>rfl
           |true=>
            have⟨p,hp,hd⟩:=Gm.1 hh;exact absurd hd (yY p hp).2
          have jk: ∀(d:DV) (s1:St),(kP [d] λd st=>uu d λv=>aI st (uk C pr ms c dst n oQ act ((E.del (gW eW)).put t (.v (.bool v))) K)) s1=some r->
            ∃v,d= .bool v/\uk C pr ms c dst n oQ act ((E.del (gW eW)).put t (.v (.bool v))) K s1=some r:=by
           intro d s1 h;cases d with
           |bool v=>exact⟨v,rfl,h⟩
           |_=>cases h
          have adD: ∀(v:Bool) u,((E.del (gW eW)).put t (.v (.bool v))).get u=if t=u then .v (.bool v)else if has (gW eW) u then .u else E.get u:=λv u=>by rw[Env.tp,Aq]
          simp only[Oi]at h;by_cases vN:b=w
          ·
           subst vN;have h':uk C pr ms c dst n eW ((j,b)::act) (E.put q (.v (.bool b))) (λE1=>fH C E1 (bif b then y else z) λd=>kP [d] λd st=>uu d λv=>aI st (uk C pr ms c dst n oQ act ((E.del (gW eW)).put t (.v (.bool v))) K)) s=some r:=by
            cases b<;>exact h
           have LG: ∀u,(E.put q (.v (.bool b))).get u=E.get u:=λu=>by
            rw[Env.tp];split
            .rename_i e;subst e;exact hq.symm
            .rfl
           have cM:mZ E (E.put q (.v (.bool b))):=⟨rfl,λu=> .inl (LG u)⟩;rcases ih eW ((j,b)::act) _ _ s h' (λp hp=>lL p (by simp[hp])) (λg hm=>by
            refine⟨?_,λp hp=>(yY p hp).1⟩;rcases eM.1 hm with rfl|hm
            .exact⟨q,hj,by rw[LG];exact hq,λp hp=>(yY p hp).2⟩
            .have⟨⟨q',h1,h2,h3⟩,_⟩:=CP g hm
             exact⟨q',h1,by rw[LG];exact h2,λp hp=>h3 p (by simp[hp])⟩)with⟨E1,s1,t1,kE,EU,_⟩|⟨s1,e1,t1⟩
           .have⟨n1,n2⟩:=EU λp hp=>(yY p hp).1
            have⟨d,hd,kE⟩:=Zw kE;obtain⟨v,rfl,kE⟩:=jk d s1 kE;have Pz:E1.get q= .v (.bool b):=by rw[n2 q λp hp=>(yY p hp).2,LG];exact hq
            have abR: ∀u,has (gW eW) u=false->E1.get u=E.get u:=λu hu=>by
             rw[n2 u (λp hp hd=>by rw[Gm.2 ⟨p,hp,hd⟩]at hu;cases hu),LG]
            have cd:=Zre (C:=C) (pr:=pr) (ms:=ms) (md:=tH) (s:=s1) kd Pz (gw (E:=E1) (λg hm=>by
             have⟨⟨q',h1,h2,h3⟩,_⟩:=CP g hm;exact⟨q',h1,by rw[abR q' (nd q' h3)];exact h2⟩) Pq)
            have YZ:E1.src C (if b then y else z)= .v (.bool v):=by cases b<;>exact hd
            rw[YZ,Dc]at cd;have fY:mZ (E1.fu (some t) (.v (.bool v))) ((E.del (gW eW)).put t (.v (.bool v))):=by
             refine⟨by rw[Env.HO,n1];rfl,λu=>?_⟩;rw[adD,Env.kR];by_cases e:t=u
             .subst e;simp
             .rw[bq e,bq (λh=>e (Ih h))]
              cases hu:has (gW eW) u with
              |true=>exact .inr rfl
              |false=>exact .inl (abR u hu).symm
            exact after E1 s1 v (.jc cM (t1.append (.cons cd (.jc fY (.nil _ _))))) kE
           .exact .inr ⟨s1,e1,.jc cM (t1.left _)⟩
          ·
           have h':fH C ((E.del (gW eW)).put q (.v (.bool !w))) (bif w then z else y) (λd=>kP [d] λd st=>uu d λv=>aI st (uk C pr ms c dst n oQ act ((E.del (gW eW)).put t (.v (.bool v))) K)) s=some r:=by
            cases w<;>cases b<;>first|exact h|exact absurd rfl vN
           have⟨d,hd,kE⟩:=Zw h';obtain⟨v,rfl,kE⟩:=jk d s kE;have⟨E1,t1,t2,t3⟩:=WA (C:=C) (pr:=pr) (ms:=ms) hj vN (s:=s) acJ hq (λd h=>by cases h);have Pz:E1.get q= .v (.bool b):=by rw[t3 q nq];exact hq
           have cd:=Zre (C:=C) (pr:=pr) (ms:=ms) (md:=tH) (s:=s) kd Pz (gw (E:=E1) (λg hm=>by
            have⟨⟨q',h1,h2,h3⟩,_⟩:=CP g hm;exact⟨q',h1,by rw[t3 q' (nd q' h3)];exact h2⟩) Pq)
           have ab8:b= !w:=by cases w<;>cases b<;>first|rfl|exact absurd rfl vN
           have YZ:E1.src C (if b then y else z)= .v (.bool v):=by
            have hx:(if b then y else z)=(bif w then z else y):=by subst ab8;cases w<;>rfl
            rw[hx,<-hd];generalize (bif w then z else y)=x at hd;cases x with
            |tmp u=>
             have hg:E1.get u=((E.del (gW eW)).put q (.v (.bool !w))).get u:=by
              rw[Env.tp,Aq];by_cases e:q=u
              .subst e;rw[bG rfl,Pz,ab8]
              .rw[bq e]
               cases hu:has (gW eW) u with
               |false=>exact t3 u hu
               |true=>
                simp only[Env.src,Env.tp,Aq,bq e,hu,mV]at hd;cases hd
             simp only[Env.src,hg]
            |_=>rfl
           rw[YZ,Dc]at cd;have fY:mZ (E1.fu (some t) (.v (.bool v))) ((E.del (gW eW)).put t (.v (.bool v))):=by
            refine⟨by rw[Env.HO,t2];rfl,λu=>?_⟩;rw[adD,Env.kR];by_cases e:t=u
            .subst e;simp
            .rw[bq e,bq (λh=>e (Ih h))]
             cases hu:has (gW eW) u with
             |true=>exact .inr rfl
             |false=>exact .inl (t3 u hu).symm
           exact after E1 s v (t1.append (.cons cd (.jc fY (.nil _ _)))) kE
       |_=>rw[hq]at h;cases h
      |_=>rw[hq]at h;cases h
end
structure Fr where
 N:Nat
 nt:Nat
 iQ:Ps
 s0:St
 w0:World
 ok:Nat->Bool
 LB: ∀x,ok x=true->x<nt
 kv:Nat->Value
 Xp:List Deferred
def Ks (f:Fr) (a:Act):Prop:=a.tmps.size=f.nt/\∀t,f.ok t=false->a.tmps.getD t undef=f.kv t
structure Rel (C:bE) (f:Fr) (ψ:Ps) (E:Env) (s:St) (a:Act) (w:World):Prop where
 fh:fC C ψ (CR E s) w
 gX:jJ E
 gO:sF ψ w
 lK:Glob C ψ
 kq: ∀t,fV C ψ (E.get t) (a.tmps.getD t undef)
 nZ:Ks f a
 defs:a.defers=f.Xp
 tR: ∀i,s.length<=i->i<f.N->ψ (.inl i)=none
 wy: ∀v,E.bW<=v->ψ (.inr v)=none
 ext:Ext f.iQ (CS f.s0) f.w0 ψ (CR E s) w
 news: ∀i cb,ψ (.inl i)=some cb->f.iQ (.inl i)=some cb\/(f.s0.length<=i/\i<s.length)
 len:f.s0.length<=s.length
 fin: ∀v,f.iQ (.inr v)=none
section
variable {C:bE} {f:Fr} {ψ ψ':Ps} {E E':Env} {s s':St} {a:Act} {w w':World} {Q':Kn} {o:Oper} {D W:dN->Prop} {pr ms:al}
theorem jJ.jc (h:jJ E) (k:mZ E E'):jJ E':=by
 have g: ∀t x,E'.get t=x->x≠ .u->E.get t=x:=λt x e hx=>by
  rcases k.get t with h|h
  .rw[<-h];exact e
  grind
 constructor
 .intro t v hv
  rw[k.bW];rcases k.get t with e|e
  .rw[e]at hv;exact h.lt t v hv
  .rw[e]at hv;cases hv
 .intro t r v n e
  rw[k.bW];exact h.pl t r v n (g t _ e Do)
 .intro t v n cs e
  exact h.len t v n cs (g t _ e Do)
 .intro t t' v hv fg
  rcases k.get t with e|e
  .rcases k.get t' with e'|e'
   .rw[e]at hv;rw[e']at fg;exact h.uniq t t' v hv fg
   .rw[e']at fg;cases fg
  .rw[e]at hv;cases hv
theorem CR.jc (k:mZ E E') {h:dN} {ab:AB} (c:CR E' s h ab):CR E s h ab:=by
 have g: ∀t x,E'.get t=x->x≠ .u->E.get t=x:=λt x e hx=>by
  rcases k.get t with h|h
  .rw[<-h];exact e
  grind
 cases h with
 |inl i=>exact c
 |inr v=>
  rcases c with⟨t,n,cs,e,gf⟩|⟨t,l,p,e,gf⟩
  .exact .inl Fd
  .exact .inr Fd
theorem Rel.jc (R:Rel C f ψ E s a w) (k:mZ E E'):Rel C f ψ E' s a w where
 fh:=R.fh.weaken λ_ _ _ _ c=>c.jc k
 gX:=R.gX.jc k
 gO:=R.gO
 lK:=R.lK
 kq:=λt=>by
  rcases k.get t with e|e
  .rw[e];exact R.kq t
  .rw[e];exact trivial
 nZ:=R.nZ
 defs:=R.defs
 tR:=R.tR
 wy:=λv hv=>R.wy v (by rw[<-k.bW];exact hv)
 ext:=R.ext.weaken λ_ _ _ _ c=>c.jc k
 news:=R.news
 len:=R.len
 fin:=R.fin
theorem SZ (a:Act) (d:Option Nat) (v:Value):(a.put d v).tmps.size=a.tmps.size:=by cases d<;>simp[Act.put]
theorem M1 (a:Act) (d:Option Nat) (v:Value):(a.put d v).defers=a.defers:=by cases d<;>rfl
theorem Js {a:Act} {d:Option Nat} (hd: ∀x,d=some x->x<a.tmps.size):(a.put d v).tmps.getD t undef=if d=some t then v else a.tmps.getD t undef:=by
 cases d with
 |none=>simp[Act.put]
 |some x=>
  simp only[Act.put,fZ,sB];by_cases e:x=t
  .grind
  grind
theorem Ks.put (h:Ks f a) {d:Option Nat} {v:Value} (hd: ∀x,d=some x->f.ok x=true):Ks f (a.put d v):=by
 refine⟨by rw[SZ];exact h.1,λt ht=>?_⟩;rw[Js λx hx=>by rw[h.1];exact f.LB x (hd x hx),bq λe=>by rw[hd t e]at ht;cases ht];exact h.2 t ht
theorem Rel.room (R:Rel C f ψ E s a w) (hN:s'.length<=f.N):Mt E s E' s' ψ:=by
 rintro h ⟨n1,n2⟩;cases h with
 |inl i=>exact R.tR i (BJ.1 n1) (mo n2 hN)
 |inr v=>exact R.wy v (BJ.1 n1)
theorem Rel.pre (R:Rel C f ψ E s a w):aA C o D E s ψ (CR E s) a w:=⟨R.fh,R.gO,R.lK,R.gX,λ_ _ _ _ c _=>c,λt _=>R.kq t⟩
theorem Rel.step (R:Rel C f ψ E s a w) (hF:mY W pr ms o E s E' s') (hP:Mq C D W E s E' s' ψ (CR E s) w ψ' Q' w') (he: ∀d,o.dst=some d->fV C ψ' (E'.get d) v) (hd: ∀x,o.dst=some x->f.ok x=true):
  Rel C f ψ' E' s' (a.put o.dst v) w':=by
 have known: ∀h ab cb,ψ' h=some cb->CR E' s' h ab->Q' h ab:=by
  intro h ab cb e c;by_cases hw:W h\/xY E s E' s' h
  .exact hP.p1 h ab cb c hw e
  .have c':CR E s h ab:=by
    rcases hF.back h ab c with x|x|x
    .grind
    .grind
    .exact x
   rcases hP.news h cb e with e|e
   .exact hP.p2 h ab cb e c' (λx=>hw (.inl x)) (λ_ _=>c')
   grind
 refine⟨hP.fh.weaken known,hF.gX R.gX,hP.ext.gO R.gO,hP.ext.lK R.lK,λt=>?_,R.nZ.put hd,by rw[M1];exact R.defs,λi h1 h2=>?_,λv h1=>?_,R.ext.trans (hP.ext.weaken known),λi cb e=>?_,hU R.len hF.len,R.fin⟩
 .rw[Js λx hx=>by rw[R.nZ.1];exact f.LB x (hd x hx)]
  by_cases e:o.dst=some t
  .rw[bG e];exact he t e
  .rw[bq e];exact(hF.bL t e C ψ _ (R.kq t)).mono hP.ext.mono
 .cases e:ψ' (.inl i)with
  |none=>rfl
  |some cb=>
   rcases hP.news _ cb e with e|⟨_,e⟩
   .rw[R.tR i (hU hF.len h1) h2]at e;cases e
   .simp only[eC]at e;omega
 .cases e:ψ' (.inr v)with
  |none=>rfl
  |some cb=>
   rcases hP.news _ cb e with e|⟨_,e⟩
   .rw[R.wy v (hU hF.bW h1)]at e;cases e
   .simp only[eC]at e;omega
 .rcases hP.news _ cb e with e|⟨n1,n2⟩
  .rcases R.news i cb e with h|⟨h1,h2⟩
   .exact .inl h
   .exact .inr ⟨h1,mo h2 hF.len⟩
  .exact .inr ⟨hU R.len (BJ.1 n1),n2⟩
structure sM (C:bE) (f:Fr) (s:St) (a:Act) (w:World):Prop where
 defs:a.defers=f.Xp
 ks:Ks f a
 post: ∃ψ',jT C f.iQ f.s0 f.w0 ψ' s w
theorem ZvP (b:Bool):undef≠Value.bool b:=by unfold undef;simp
theorem NH (a:Act) (r:Nat) (b:Bool) (h:a.tmps.getD r undef= .bool b):a.tmps[r]? =some (.bool b):=by
 rw[sB]at h;cases e:a.tmps[r]? with
 |none=>rw[e]at h;exact absurd h (ZvP b)
 |some v=>rw[e]at h;grind
def nI (ops:Array Oper) (j:Nat):Option Nat:=match ops.toList[j]? with|some o=>o.dst|none=>none
theorem NN (ops:Array Oper) (j:Nat):nI ops j=(ops[j]?).bind (·.dst):=by
 grind[nI]
theorem Vf (R: ∀t,fV C ψ (E.get t) (a.tmps.getD t undef)) (h:GW (nI ops) E o):Region.wanted o (yielded ops a.tmps)=true:=by
 unfold Region.wanted;rcases h with h|⟨j,w,r,h1,h2,h3⟩
 .rw[h]
 .rw[h1]
  rw[NN]at h2;have hr:=R r;rw[h3]at hr;have:a.tmps.getD r undef= .bool w:=by generalize a.tmps.getD r undef=x at hr;cases hr;rfl
  simp[yielded,h2,NH a r w this]
theorem ZnV (R: ∀t,fV C ψ (E.get t) (a.tmps.getD t undef)) (h:GU (nI ops) E o):Region.wanted o (yielded ops a.tmps)=false:=by
 unfold Region.wanted;have⟨j,w,r,h1,h2,h3⟩:=h;rw[h1];rw[NN]at h2;have hr:=R r;rcases h3 with⟨b,h3,hb⟩|h3
 .rw[h3]at hr
  have:a.tmps.getD r undef= .bool b:=by generalize a.tmps.getD r undef=x at hr;cases hr;rfl
  simp[yielded,h2,NH a r b this,hb]
 .rw[h3]at hr
  have hr:a.tmps.getD r undef=undef:=hr;have:a.tmps[r]? =none\/a.tmps[r]? =some undef:=by
   rw[sB]at hr;grind
  have hy:yielded ops a.tmps j=none:=by
   unfold yielded;rw[h2];rcases this with e|e<;>simp[e,undef]
  simp[hy]
theorem Rel.undef (R:Rel C f ψ E s a w) (hd: ∀x,o.dst=some x->f.ok x=true):Rel C f ψ (E.fu o.dst .un) s (a.put o.dst Go.undef) w:=by
 have EG: ∀h ab,CR (E.fu o.dst .un) s h ab->CR E s h ab:=λh ab c=>c.fu rfl
 refine⟨R.fh.weaken λ_ _ _ _ c=>EG _ _ c,R.gX.fu rfl (λ_ _ _ h=>by cases h),R.gO,R.lK,λt=>?_,R.nZ.put hd,by rw[M1];exact R.defs,R.tR,λv hv=>R.wy v (by simpa using hv),R.ext.weaken λ_ _ _ _ c=>EG _ _ c,R.news,R.len,R.fin⟩;rw[Js λx hx=>by rw[R.nZ.1];exact f.LB x (hd x hx),Env.kR];by_cases e:o.dst=some t
 .rw[bG e,bG e];rfl
 .rw[bq e,bq e];exact R.kq t
theorem AJ (C1: ∀v,f.iQ (.inr v)=none) (Bh:fC C ψ' Q' w') (vP:Ext f.iQ (CS f.s0) f.w0 ψ' Q' w')
  (hk: ∀i ab cb,dD s' i=some ab->ψ' (.inl i)=some cb->Q' (.inl i) ab) (alq: ∀i cb,ψ' (.inl i)=some cb->f.iQ (.inl i)=some cb\/(f.s0.length<=i/\i<s'.length)):
  jT C f.iQ f.s0 f.w0 (nQ ψ') s' w':=by
 have Qp: ∀b,vk (nQ ψ') (CS s') b->vk ψ' Q' b:=by
  rintro b ⟨k,cb,ab,e,⟨i,rfl,q⟩,hs,hb⟩;exact⟨.inl i,cb,ab,e,hk i ab cb q e,hs,hb⟩
 refine⟨ZsA Bh hk,⟨λh cb e=>?_,λh cb e=>vP.tN h cb (Gj e).1,vP.size,vP.kl,λb hb=>vP.hJ b (Qp b hb),λh cb x e q=>?_,vP.tape,vP.os,vP.output⟩,λh cb e=>?_⟩
 .cases h with
  |inl i=>exact vP.mono _ _ e
  |inr v=>rw[C1]at e;cases e
 .obtain⟨i,rfl,q⟩:=q
  exact vP.live (.inl i) cb x e (hk i x cb q (vP.mono _ _ e))
 .obtain⟨e,i,rfl⟩:=Gj e
  grind
theorem Rel.AJ (R:Rel C f ψ E s a w):jT C f.iQ f.s0 f.w0 (nQ ψ) s w:=
 Go.Gv.AJ R.fin R.fh R.ext (λ_ _ _ h _=>h) R.news
theorem Tr.len {dst:Nat->Option Nat} {l:List (Oper×Md)} (h:Tr C dst pr ms l E s E' s'):s.length<=s'.length:=by
 induction h with
 |nil=>exact aM _
 |jc _ _ ih=>exact ih
 |cons st _ ih=>
  refine hU ?_ ih;cases st with
  |act _ hF _=>exact hF.len
  |skip _=>exact aM _
theorem oj.len {dst:Nat->Option Nat} {l:List (Oper×Md)} (h:oj C dst pr ms l E s s'):s.length<=s'.length:=by
 induction h with
 |jc _ _ ih=>exact ih
 |here _ _ hp=>exact hp.1
 |next st _ ih=>
  refine hU ?_ ih;cases st with
  |act _ hF _=>exact hF.len
  |skip _=>exact aM _
theorem Rel.adr (R:Rel C f ψ E s a w) (hN:s'.length<=f.N) (hp:xZ C o D E s s') {next:Act->World->Prop} (h: ∀ch a' w',pz ch->sM C f s' a' w'->QQ (.panic ch) a' w'):o.wp C.P a w next QQ:=by
 refine hp.2 ψ (CR E s) a w next QQ R.pre (R.room hN) λψ' Q' ch w' h0 h1 h2 h3 h4=>h ch a w' h0 ⟨R.defs,R.nZ,_,Go.Gv.AJ (s':=s') R.fin h1 (R.ext.trans h2) h4 λi cb e=>?_⟩
 rcases h3 _ cb e with e|⟨n1,n2⟩
 .rcases R.news i cb e with h|⟨h1,h2⟩
  .exact .inl h
  .exact .inr ⟨h1,mo h2 hp.1⟩
 .exact .inr ⟨hU R.len (BJ.1 n1),n2⟩
theorem ZyT (t:Tr C (nI ops) pr ms l E s E2 s2): ∀ {i:Nat} {a:Act} {w:World} {ψ:Ps},Rel C f ψ E s a w->s2.length<=f.N->
  (∀p∈l,∀x,p.1.dst=some x->f.ok x=true)->(∀k p,l[k]? =some p->ops[i+k]? =some p.1)->(∀ψ' a' w',Rel C f ψ' E2 s2 a' w'->QQ .normal a' w')->wpOps C.P ops QQ (List.range' i l.length) a w:=by
 induction t with
 |nil=>intro i a w ψ R _ _ _ h;exact h ψ a w R
 |jc k _ ih=>intro i a w ψ R hN hd hi h;exact ih (R.jc k) hN hd hi h
 |cons st t ih=>
  rename_i p l E s E1 s1 E2 s2;intro i a w ψ R hN hd hi h;have vS:=hi 0 p rfl;simp only[gQ]at vS;have rest: ∀ {iR a1 w1},Rel C f iR E1 s1 a1 w1->wpOps C.P ops QQ (List.range' (i+1) l.length) a1 w1:=λR1=>
   ih R1 hN Fd (λk q hk=>by have:=hi (k+1) q (by simpa using hk);rwa [show i+(k+1)=i+1+k by omega]at this) h
  simp only[cQ,Me,wpOps,vS];cases st with
  |act hg hF hO=>
   rw[bG (Vf R.kq hg)];exact .inl (hO ψ (CR E s) a w _ QQ R.pre (R.room (hU t.len hN)) λψ' Q' v w' hP he=>rest (R.step hF hP he (hd p Do)))
  |skip hg=>
   rw[bq (by rw[ZnV R.kq hg];simp)];exact rest (R.undef (hd p Do))
theorem ZxV (t:oj C (nI ops) pr ms l E s s2): ∀ {i:Nat} {a:Act} {w:World} {ψ:Ps},Rel C f ψ E s a w->s2.length<=f.N->
  (∀p∈l,∀x,p.1.dst=some x->f.ok x=true)->(∀k p,l[k]? =some p->ops[i+k]? =some p.1)->(∀ch a' w',pz ch->sM C f s2 a' w'->QQ (.panic ch) a' w')->wpOps C.P ops QQ (List.range' i l.length) a w:=by
 induction t with
 |jc k _ ih=>intro i a w ψ R hN hd hi h;exact ih (R.jc k) hN hd hi h
 |here hg hx hp=>
  rename_i p l E s s2;intro i a w ψ R hN hd hi h;have vS:=hi 0 p rfl;simp only[gQ]at vS;simp only[cQ,Me,wpOps,vS];rw[bG (Vf R.kq hg)];exact .inl (R.adr hN hp h)
 |next st t ih=>
  rename_i p l E s E1 s1 s2;intro i a w ψ R hN hd hi h;have vS:=hi 0 p rfl;simp only[gQ]at vS;have rest: ∀ {iR a1 w1},Rel C f iR E1 s1 a1 w1->wpOps C.P ops QQ (List.range' (i+1) l.length) a1 w1:=λR1=>
   ih R1 hN Fd (λk q hk=>by have:=hi (k+1) q (by simpa using hk);rwa [show i+(k+1)=i+1+k by omega]at this) h
  simp only[cQ,Me,wpOps,vS];cases st with
  |act hg hF hO=>
   rw[bG (Vf R.kq hg)];exact .inl (hO ψ (CR E s) a w _ QQ R.pre (R.room (hU t.len hN)) λψ' Q' v w' hP he=>rest (R.step hF hP he (hd p Do)))
  |skip hg=>
   rw[bq (by rw[ZnV R.kq hg];simp)];exact rest (R.undef (hd p Do))
end
theorem mZ.refl (E:Env):mZ E E:=⟨rfl,λ_=> .inl rfl⟩
theorem mZ.trans {E E' Ij:Env} (h:mZ E E') (k:mZ E' Ij):mZ E Ij:=by
 refine⟨k.bW.trans h.bW,λt=>?_⟩;rcases k.get t with e|e
 .rcases h.get t with e'|e'
  .exact .inl (e.trans e')
  grind
 .exact .inr e
section
variable {C:bE} {dst:Nat->Option Nat} {pr ms:al}
theorem Tr.fn (h:Tr C dst pr ms l E s E2 s2):
  ∃(A B:Nat->Env) (ss:Nat->St),A 0=E/\ss 0=s/\ss l.length=s2/\mZ (A l.length) E2/\
   ∀k p,l[k]? =some p->mZ (A k) (B k)/\Step C dst pr ms p (B k) (ss k) (A (k+1)) (ss (k+1)):=by
 induction h with
 |nil E s=>exact⟨λ_=>E,λ_=>E,λ_=>s,rfl,rfl,rfl,.refl E,λk p h=>by simp at h⟩
 | @jc l E E1 s E2 s2 k _ ih=>
  have⟨A,B,ss,h1,h2,h3,h4,h5⟩:=ih;cases l with
  |nil=>
   refine⟨λ_=>E,B,ss,rfl,h2,h3,?_,λk p h=>by simp at h⟩;simp only[xS]at h4;rw[h1]at h4;exact k.trans h4
  |cons p l=>
   refine⟨λi=>if i=0 then E else A i,B,ss,rfl,h2,h3,by simpa using h4,λi q hq=>?_⟩;have⟨a,b⟩:=h5 i q hq;refine⟨?_,by simpa using b⟩;by_cases hi:i=0
   .subst hi
    simp only[mV];rw[h1]at a;exact k.trans a
   grind
 | @cons p l E s E1 s1 E2 s2 st _ ih=>
  have⟨A,B,ss,h1,h2,h3,h4,h5⟩:=ih;refine⟨λi=>match i with|0=>E|i+1=>A i,λi=>match i with|0=>E|i+1=>B i,λi=>match i with|0=>s|i+1=>ss i,rfl,rfl,h3,h4,λi q hq=>?_⟩;cases i with
  |zero=>
   simp only[lz,fZ]at hq;subst hq;refine⟨.refl E,?_⟩;grind
  |succ i=>grind
end
theorem Zza (h:(GK o acc).testBit j=true): ∃e∈o.after,Region.binds .any e=true/\(j=e.on\/(acc.getD e.on 0).testBit j=true):=by
 unfold GK at h;have key: ∀(l:List Edge) (m:Nat),(l.foldl (λm e=>bif Region.binds .any e then m|||2^e.on|||acc.getD e.on 0 else m) m).testBit j=true->
   m.testBit j=true\/∃e∈l,Region.binds .any e=true/\(j=e.on\/(acc.getD e.on 0).testBit j=true):=by
  intro l;induction l with
  |nil=>exact λm h=> .inl h
  |cons e l ih=>
   grind
 grind
theorem VT (P:Program) (pr:al) (ops:List Oper): ∀(r:List Oper) (acc:al) (k:Nat) (p:gN),(sj P pr ops r acc)[k]? =some p->
  ∃o,r[k]? =some o/\p.bf=GK o (acc++((sj P pr ops r acc).take k).map (·.bf))/\p.k=wx pr ops (acc.length+k) p.bf (cls P pr ops o)/\p.dst=o.dst/\p.lk=sh pr ops o
 |[],acc,k,p,h=>by simp[sj]at h
 |o::r,acc,0,p,h=>by
  grind[sj,lz,fZ]
 |o::r,acc,k+1,p,h=>by
  simp only[sj,qV]at h;have⟨o',h1,h2,h3,h4⟩:=VT P pr ops r _ k p h;refine⟨o',by simpa using h1,?_,?_,h4⟩
  .rw[h2]
   simp[sj]
  grind
theorem MO (P:Program) (pr:al) (ops:List Oper): ∀(r:List Oper) (acc:al),(sj P pr ops r acc).length=r.length
 |[],_=>rfl
 |o::r,acc=>by simp[sj,MO P pr ops r]
def QJ (p q:gN):Prop:=WT p.k q.k=false/\Oz p.dst q.lk=false/\Oz q.dst p.lk=false/\Xq p.dst q.dst=false
theorem Zpj {i:Nat} {p:gN} : ∀ {l:List gN},Of i p l=true->∀(k:Nat) (q:gN),l[k]? =some q->q.bf.testBit i=true\/QJ p q
 |[],_,k,q,h=>by simp at h
 |x::l,h,k,q,hq=>by
  simp only[Of,aY]at h;cases k with
  |zero=>
   simp only[lz,fZ]at hq;subst hq;have h1:=h.1;rw[mm]at h1;refine h1.imp id λh1=>?_
   simp only[aY,lT]at h1;exact⟨h1.1.1.1,h1.1.1.2,h1.1.2,h1.2⟩
  |succ k=>exact Zpj h.2 k q (by simpa using hq)
theorem Nr: ∀ {i:Nat} {l:List gN} {os:List Oper},Fw i l os=true->∀(k:Nat) (p:gN),l[k]? =some p->
  p.bf<2^(i+k)/\(∃o,os[k]? =some o/\∀j w,o.guard=some (j,w)->p.bf.testBit j=true)/\∀(m:Nat) (q:gN),k<m->l[m]? =some q->q.bf.testBit (i+k)=true\/QJ p q
 |i,[],os,_,k,p,hp=>by simp at hp
 |i,_::_,[],h,k,p,hp=>by cases h
 |i,x::l,o::os,h,k,p,hp=>by
  simp only[Fw,aY]at h;have⟨⟨⟨h1,h2⟩,h3⟩,h4⟩:=h;cases k with
  |zero=>
   simp only[lz,fZ]at hp;subst hp;refine⟨by rw[qX]at h1;exact h1,⟨o,rfl,Fd⟩,λm q hm hq=>?_⟩;obtain⟨m',rfl⟩: ∃m',m=m'+1:=⟨m-1,AC⟩;exact Zpj h3 m' q (by simpa using hq)
  |succ k=>
   have⟨a,⟨o',b1,b2⟩,c⟩:=Nr h4 k p (by simpa using hp);grind
theorem Zzt {e:Edge} (he:e∈o.after) (hb:Region.binds .any e=true):(GK o acc).testBit e.on=true:=by
 unfold GK;have mono: ∀(l:List Edge) (m:Nat),m.testBit e.on=true->(l.foldl (λm e=>bif Region.binds .any e then m|||2^e.on|||acc.getD e.on 0 else m) m).testBit e.on=true:=by
  intro l;induction l with
  |nil=>exact λm h=>h
  |cons x l ih=>
   grind
 have key: ∀(l:List Edge) (m:Nat),e∈l->(l.foldl (λm e=>bif Region.binds .any e then m|||2^e.on|||acc.getD e.on 0 else m) m).testBit e.on=true:=by
  intro l;induction l with
  |nil=>intro m h;cases h
  |cons x l ih=>
   grind
 grind
theorem M7 {mp:Nat->Bool} : ∀(all:List gN) (i:Nat) (is:List gN) (os:List Oper) (k:Nat) (p:Oper×Md),(flags mp all i is os)[k]? =some p->
  ∃q o,is[k]? =some q/\os[k]? =some o/\
   p=(o,.d q.k (bif wQ (i+k) q.bf (λ_=>true) 0 all then(bif mpO mp o&& !Ch (i+k) q.bf 0 all then 0 else(match q.k with| .call=>(bif wQ (i+k) q.bf HN 0 all then 2 else 1)|_=>1))else 0))
 |all,i,[],os,k,p,h=>by cases os<;>simp[flags]at h
 |all,i,_::_,[],k,p,h=>by simp[flags]at h
 |all,i,q::r,o::os,0,p,h=>by
  grind[flags,lz,fZ]
 |all,i,q::r,o::os,k+1,p,h=>by
  simp only[flags,qV]at h;have⟨q',o',h1,h2,h3⟩:=M7 all (i+1) r os k p h;grind
theorem MG {mp:Nat->Bool} : ∀(all:List gN) (i:Nat) (is:List gN) (os:List Oper),is.length=os.length->(flags mp all i is os).length=os.length
 |_,_,[],[],_=>rfl
 |all,i,_::r,_::os,h=>by simp only[flags,cQ];rw[MG all (i+1) r os (by simpa using h)]
 |_,_,[],_::_,h=>by simp at h
 |_,_,_::_,[],h=>by simp at h
theorem Zrg {i bi:Nat} {f:mu->Bool} : ∀ {r:List gN} {j0 j:Nat} {q:gN},r[j]? =some q->i≠j0+j->q.bf.testBit i=false->bi.testBit (j0+j)=false->f q.k=true->wQ i bi f j0 r=true
 |[],j0,j,q,h,_,_,_,_=>by simp at h
 |x::r,j0,0,q,h,h1,h2,h3,h4=>by
  simp only[lz,fZ]at h;subst h;simp only[gQ]at h1 h3;have:Nat.beq i j0=false:=by
   cases e:Nat.beq i j0 with
   |false=>rfl
   |true=>simp_all
  simp[wQ,this,h2,h3,h4]
 |x::r,j0,j+1,q,h,h1,h2,h3,h4=>by
  simp only[qV]at h;rw[wQ,mm];exact .inr (Zrg (j0:=j0+1) h AC h2 (by rw[show j0+1+j=j0+(j+1) by omega];exact h3) h4)
theorem ZoH {i bi:Nat} : ∀ {r:List gN} {j0 j:Nat} {q:gN},r[j]? =some q->i≠j0+j->q.bf.testBit i=false->bi.testBit (j0+j)=false->(Nat.blt (j0+j) i&&Er q.k)=false->Ch i bi j0 r=true
 |[],j0,j,q,h,_,_,_,_=>by simp at h
 |x::r,j0,0,q,h,h1,h2,h3,h4=>by
  simp only[lz,fZ]at h;subst h;simp only[gQ]at h1 h3 h4;have:Nat.beq i j0=false:=by
   cases e:Nat.beq i j0 with
   |false=>rfl
   |true=>simp_all
  simp[Ch,this,h2,h3,h4]
 |x::r,j0,j+1,q,h,h1,h2,h3,h4=>by
  simp only[qV]at h;rw[Ch,mm];exact .inr (ZoH (j0:=j0+1) h AC h2 (by rw[show j0+1+j=j0+(j+1) by omega];exact h3) (by rw[show j0+1+j=j0+(j+1) by omega];exact h4))
def Cz (is:List gN) (i k:Nat):Prop:=∃q,is[k]? =some q/\q.bf.testBit i=true
theorem ZtH: ∀(l:List Operand) (m t:Nat),(m.testBit t=true\/Operand.tmp t∈l)->(l.foldl (λm x=>match x with| .tmp t=>m|||2^t|_=>m) m).testBit t=true
 |[],m,t,h=>by
  grind
 |x::l,m,t,h=>by
  rw[BF];refine ZtH l _ t ?_;grind
theorem ZvR (pr:al) (ops:List Oper) (o:Oper) (m:Nat) (t:Nat) (h:m.testBit t=true):
  (match o.op with
   | .load _ (.tmp a)=>(match tO pr ops 12 a with|some r=>m|||2^r|none=>m)
   | .store _ (.tmp a) _=>(match tO pr ops 12 a with|some r=>m|||2^r|none=>m)
   |_=>m).testBit t=true:=by
 grind
theorem ZrP {ops:List Oper} (h:Operand.tmp t∈o.op.operands):(sh pr ops o).testBit t=true:=by
 unfold sh;refine ZvR _ _ _ _ _ ?_;have h1:=ZtH o.op.operands.toList 0 t (.inr (by simpa using h));split
 .grind
 .exact h1
theorem Zv4 {ops:List Oper} {g:Oper} {r:Nat} {w:Bool} (h:o.guard=some (j,w)) (hj:ops[j]? =some g) (hr:g.dst=some r):(sh pr ops o).testBit r=true:=by
 grind[sh]
theorem ZwA {ops:List Oper} {r:Nat} (h:cls P pr ops o= .xK r\/cls P pr ops o= .qd r):(sh pr ops o).testBit r=true:=by
 cases ho:o.op with
 |load t a=>
  cases a with
  |tmp a=>
   cases hr:tO pr ops 12 a with
   |none=>simp[cls,ho,hr]at h
   |some q=>
    simp[cls,ho,hr]at h;subst h;simp[sh,ho,hr]
  |_=>simp[cls,ho]at h
 |store t a y=>
  cases a with
  |tmp a=>
   cases hr:tO pr ops 12 a with
   |none=>simp[cls,ho,hr]at h
   |some q=>
    simp[cls,ho,hr]at h;subst h;simp[sh,ho,hr]
  |_=>simp[cls,ho]at h
 |next it b=>
  cases it with
  |tmp t=>
   simp[cls,ho]at h;subst h;exact ZrP (by simp[Op.operands,ho])
  |_=>simp[cls,ho]at h
 |slice t y lo hi mx=>
  simp only[cls,ho]at h;split at h<;>simp at h
 |call q=>
  cases hp:has pr 1000000<;>simp only[cls,ho,hp,ae,af]at h<;>split at h<;>simp at h
 |_=>simp[cls,ho]at h
structure Su (C:bE) (pr ms:List Nat) (ops:Array Oper) (l:List (Oper×Md)) (is:List gN) (m:Nat) (A B:Nat->Env) (ss:Nat->St):Prop where
 A9:is=sj C.P pr ops.toList ops.toList []
 hl:l=flags C.mp is 0 is ops.toList
 ok:Fw 0 is ops.toList=true
 hm:m<=ops.size
 w: ∀k,k<=m->mZ (A k) (B k)
 st: ∀k p,k<m->l[k]? =some p->Step C (nI ops) pr ms p (B k) (ss k) (A (k+1)) (ss (k+1))
 e0:jJ (A 0)
theorem Step.opF (h:Step C dst pr ms p E s E' s'):mY (nC p.2 E) pr ms p.1 E s E' s':=by
 cases h with
 |act _ hF _=>exact hF
 |skip _=>exact mY.aaJ pr ms .un rfl λ_ _ _ _ h=>by cases h
section
variable {C:bE} {pr ms:al} {ops:Array Oper} {l:List (Oper×Md)} {is:List gN} {m:Nat} {A B:Nat->Env} {ss:Nat->St}
theorem Su.isLen (S:Su C pr ms ops l is m A B ss):is.length=ops.size:=by rw[S.A9,MO];simp
theorem Su.PZ (S:Su C pr ms ops l is m A B ss):l.length=ops.size:=by rw[S.hl,MG _ _ _ _ (by rw[S.isLen];simp)];simp
structure OpT (C:bE) (pr:List Nat) (ops:Array Oper) (is:List gN) (k:Nat) (p:Oper×Md) (q:gN) (x:Nat):Prop where
 iq:is[k]? =some q
 op:ops[k]? =some p.1
 md:p.2= .d q.k x
 kc:q.k=wx pr ops.toList k q.bf (cls C.P pr ops.toList p.1)
 dst:q.dst=p.1.dst
 lk:q.lk=sh pr ops.toList p.1
 lt: ∀j,q.bf.testBit j=true->j<k
 gd: ∀j w,p.1.guard=some (j,w)->q.bf.testBit j=true
 on: ∀e∈p.1.after,Region.binds .any e=true->q.bf.testBit e.on=true
 ahA: ∀j,q.bf.testBit j=true->∃e∈p.1.after,Region.binds .any e=true/\(j=e.on\/Cz is j e.on)
 zero:x=0->∀j q',is[j]? =some q'->k≠j->q'.bf.testBit k=true\/q.bf.testBit j=true\/(j<k/\Er q'.k=true)
 two:q.k= .call->∀j q',is[j]? =some q'->k≠j->HN q'.k=true->q'.bf.testBit k=true\/q.bf.testBit j=true\/2<=x
theorem Su.get (S:Su C pr ms ops l is m A B ss) (hp:l[k]? =some p): ∃q x,OpT C pr ops is k p q x:=by
 rw[S.hl]at hp;have⟨q,o,h1,h2,h3⟩:=M7 _ _ _ _ _ _ hp;rw[eJ]at h3;have h1':=h1;rw[S.A9]at h1';have⟨o',g1,g2,g3,g4,g5⟩:=VT _ _ _ _ _ _ _ h1';rw[h2]at g1;cases g1;have⟨k1,⟨o',k2,k3⟩,_⟩:=Nr S.ok k q h1;rw[h2]at k2;cases k2;rw[eJ]at k1;have aw: ∀j,q.bf.testBit j=true->j<k:=by
  intro j hj;rcases kz j k with h|h
  .exact h
  .have:q.bf<2^j:=mo k1 (oh AC h)
   rw[If this]at hj;cases hj
 have bs: ∀f:mu->Bool,∀j q',is[j]? =some q'->k≠j->f q'.k=true->wQ k q.bf f 0 is=false->q'.bf.testBit k=true\/q.bf.testBit j=true:=by
  intro f j q' hq dQ hf hb;cases e1:q'.bf.testBit k with
  |true=>exact .inl rfl
  |false=>
   cases e2:q.bf.testBit j with
   |true=>exact .inr rfl
   |false=>rw[Zrg (i:=k) (bi:=q.bf) (f:=f) (j0:=0) hq AC e1 (by rw[eJ];exact e2) hf]at hb;cases hb
 have wV: ∀j q',is[j]? =some q'->k≠j->Ch k q.bf 0 is=false->q'.bf.testBit k=true\/q.bf.testBit j=true\/(j<k/\Er q'.k=true):=by
  intro j q' hq dQ hb;cases e1:q'.bf.testBit k with
  |true=>exact .inl rfl
  |false=>
   cases e2:q.bf.testBit j with
   |true=>exact .inr (.inl rfl)
   |false=>
    cases e3:(Nat.blt j k&&Er q'.k)with
    |false=>rw[ZoH (i:=k) (bi:=q.bf) (j0:=0) hq AC e1 (by rw[eJ];exact e2) (by rw[eJ];exact e3)]at hb;cases hb
    |true=>
     rw[aY,qX]at e3;exact .inr (.inr e3)
 refine⟨q,_,h1,?_,by rw[h3],by rw[h3];simp_all,by rw[h3];exact g4,by rw[h3];exact g5,aw,Fd,λe he hb=>by rw[g2];exact Zzt (by rw[h3]at he;exact he) hb,λj hj=>?_,λhx j q' hq dQ=>?_,λhc j q' hq dQ hh=>?_⟩
 .rw[h3,<-lx];exact h2
 .rw[g2]at hj
  have⟨e,he,hb,hj⟩:=Zza hj;rw[h3];refine⟨e,he,hb,hj.imp id λhj=>?_⟩;simp only[iG,ef]at hj;have C6:((((is.take k).map λx:gN=>x.bf)[e.on]?).getD 0).testBit j=true:=by rw[S.A9];exact hj
  cases hx:((is.take k).map λx:gN=>x.bf)[e.on]? with
  |none=>rw[hx]at C6;simp at C6
  |some b=>
   rw[hx]at C6;rw[sC]at hx;cases hy:(is.take k)[e.on]? with
   |none=>rw[hy]at hx;cases hx
   |some q'=>
    rw[hy]at hx;simp only[ny,fZ]at hx;rw[xR]at hy;split at hy
    .exact⟨q',hy,by rw[hx];exact C6⟩
    .cases hy
 .grind
 .cases hb:wQ k q.bf HN 0 is with
  |false=>grind
  |true=>
   cases dh:wQ k q.bf (λ_=>true) 0 is with
   |false=>grind
   |true=>
    cases Fa:mpO C.mp o&& !Ch k q.bf 0 is with
    |true=>
     rw[aY,lT]at Fa;rcases wV j q' hq dQ Fa.2 with h|h|⟨_,h⟩
     .exact .inl h
     .exact .inr (.inl h)
     .exfalso
      generalize q'.k=z at hh h;cases z<;>simp[HN,Er]at hh h
    |false=>grind
theorem Su.F (S:Su C pr ms ops l is m A B ss) (hk:k<m) (hp:l[k]? =some p):mY (nC p.2 (B k)) pr ms p.1 (B k) (ss k) (A (k+1)) (ss (k+1)):=(S.st k p hk hp).opF
theorem Su.Dr (S:Su C pr ms ops l is m A B ss) (hk:k<m): ∃p,l[k]? =some p:=by
 have:=S.PZ;have:=S.hm;exact⟨l[k]' AC,cu _⟩
theorem Su.vH (S:Su C pr ms ops l is m A B ss): ∀k,k<=m->jJ (B k)
 |0,h=>S.e0.jc (S.w 0 h)
 |k+1,h=>by
  have⟨p,hp⟩:=S.Dr (k:=k) AC;exact((S.F AC hp).gX (S.vH k AC)).jc (S.w (k+1) h)
theorem Ea (h:mZ E E') (x:dN):eC E' s x↔eC E s x:=by
 simp[eC,h.bW]
theorem Su.ae1 (S:Su C pr ms ops l is m A B ss) (hk:k<m) (hd:eC (B k) (ss k) h):eC (A (k+1)) (ss (k+1)) h:=by
 have⟨p,hp⟩:=S.Dr hk;have hF:=S.F hk hp;cases h with
 |inl i=>exact mo hd hF.len
 |inr v=>exact mo hd hF.bW
theorem Su.rQ (S:Su C pr ms ops l is m A B ss) {h:dN} {j:Nat} : ∀(d:Nat),j+d<=m->eC (B j) (ss j) h->eC (B (j+d)) (ss (j+d)) h
 |0,_,hd=>hd
 |d+1,hk,hd=>(Ea (S.w (j+d+1) hk) h).2 (S.ae1 (k:=j+d) AC (S.rQ d AC hd))
theorem Su.vF (S:Su C pr ms ops l is m A B ss) (vU:j<=k) (hk:k<=m) (hd:eC (B j) (ss j) h):eC (B k) (ss k) h:=by
 have:=S.rQ (j:=j) (k-j) AC hd;rwa [show j+(k-j)=k by omega]at this
def Wr (l:List (Oper×Md)) (B:Nat->Env) (i:Nat) (h:dN):Prop:=∃p,l[i]? =some p/\nC p.2 (B i) h
theorem Su.back (S:Su C pr ms ops l is m A B ss) {h:dN} {ab:AB} {j:Nat} : ∀(d:Nat),j+d<=m->(∀i,j<=i->i<j+d->¬Wr l B i h)->eC (B j) (ss j) h->CR (B (j+d)) (ss (j+d)) h ab->CR (B j) (ss j) h ab
 |0,_,_,_,c=>c
 |d+1,hk,hw,hd,c=>by
  have⟨p,hp⟩:=S.Dr (k:=j+d) AC;rcases(S.F AC hp).back h ab (c.jc (S.w _ hk))with x|x|x
  .exact absurd ⟨p,hp,x⟩ (hw (j+d) AC AC)
  .exact absurd (S.rQ d AC hd) x.1
  .exact S.back d AC Fd hd x
theorem Su.Oo (S:Su C pr ms ops l is m A B ss) (vU:j<=k) (hk:k<=m) (hw: ∀i,j<=i->i<k->¬Wr l B i h) (hd:eC (B j) (ss j) h) (c:CR (B k) (ss k) h ab):CR (B j) (ss j) h ab:=by
 have:=S.back (j:=j) (ab:=ab) (k-j) AC Fd hd;rw[show j+(k-j)=k by omega]at this;exact this c
theorem Su.fix (S:Su C pr ms ops l is m A B ss) {x:Nat} {j:Nat} : ∀(d:Nat),j+d<=m->(∀i,j<=i->i<j+d->¬Wr l B i (.inl x))->x<(ss j).length->(ss (j+d))[x]? =(ss j)[x]?
 |0,_,_,_=>rfl
 |d+1,hk,hw,hx=>by
  have⟨p,hp⟩:=S.Dr (k:=j+d) AC;have hd:x<(ss (j+d)).length:=S.rQ (h:= .inl x) d AC hx;have:=(S.F AC hp).adx x (λhi=>hw (j+d) AC AC ⟨p,hp,hi⟩) hd;rw[show j+(d+1)=j+d+1 by omega,this,S.fix d AC Fd hx]
theorem Su.bL (S:Su C pr ms ops l is m A B ss) {ψ:Ps} {x:Value} {t:Nat} {j:Nat} : ∀(d:Nat),j+d<=m->(∀i p,j<=i->i<j+d->l[i]? =some p->p.1.dst≠some t)->fV C ψ ((B j).get t) x->fV C ψ ((B (j+d)).get t) x
 |0,_,_,r=>r
 |d+1,hk,hw,r=>by
  have⟨p,hp⟩:=S.Dr (k:=j+d) AC;have:=(S.F AC hp).bL t Fd C ψ x (S.bL d AC Fd r);rcases(S.w _ hk).get t with e|e
  .rw[e];exact this
  .rw[e];trivial
theorem Su.val (S:Su C pr ms ops l is m A B ss) {t j:Nat} {x:DV} : ∀(d:Nat),j+d<=m->(∀i p,j<=i->i<j+d->l[i]? =some p->p.1.dst≠some t)->(B (j+d)).get t= .v x->(B j).get t= .v x
 |0,_,_,e=>e
 |d+1,hk,hw,e=>by
  have⟨p,hp⟩:=S.Dr (k:=j+d) AC;refine S.val d AC Fd ((S.F AC hp).val t x Fd ?_);rcases(S.w _ hk).get t with e'|e'
  .exact e'.symm.trans e
  grind
theorem Zte (h:mZ E E') {v:Nat} (e:(E'.get t).dr=some v):(E.get t).dr=some v:=by
 rcases h.get t with e'|e'
 .rw[<-e'];exact e
 .rw[e']at e;cases e
theorem mY.dr {W:dN->Prop} {o:Oper} {E E':Env} {s s':St} (hF:mY W pr ms o E s E' s') {t v:Nat} (e:(E'.get t).dr=some v):(E.get t).dr=some v\/(E.bW<=v/\o.dst=some t):=by
 cases he:E'.get t with
 |loc v' n cs=>
  rw[he]at e;simp only[eZ.dr,fZ]at e;subst e;exact(hF.xO t _ n cs he).imp (λ⟨c,h⟩=>by rw[h];rfl) id
 |it v' s p=>
  rw[he]at e;simp only[eZ.dr,fZ]at e;subst e;exact(hF.zO t _ s p he).imp (λ⟨c,h⟩=>by rw[h];rfl) id
 |_=>rw[he]at e;cases e
theorem Su.dr (S:Su C pr ms ops l is m A B ss) {t v j:Nat} : ∀(d:Nat),j+d<=m->v<(B j).bW->((B (j+d)).get t).dr=some v->((B j).get t).dr=some v
 |0,_,_,e=>e
 |d+1,hk,hv,e=>by
  have⟨p,hp⟩:=S.Dr (k:=j+d) AC;have hd:v<(B (j+d)).bW:=S.rQ (h:= .inr v) d AC hv;rcases(S.F AC hp).dr (Zte (S.w _ hk) e)with h|h
  .exact S.dr d AC hv h
  .omega
theorem Su.adK (S:Su C pr ms ops l is m A B ss) {v:Nat} (vU:j<=k) (hk:k<=m) (hv:v<(B j).bW) (e:((B k).get t).dr=some v):((B j).get t).dr=some v:=
 S.dr (j:=j) (k-j) AC hv (by rwa [show j+(k-j)=k by omega])
end
theorem ZvZ (k k':mu):AK k k'=AK k' k:=by
 cases k<;>cases k'<;>simp only[AK]<;>(rw[lS];grind[Nat.beq_eq])
theorem ZtC {k:mu} (h:WT k k'=false):AK k k'=false:=by
 cases k<;>cases k'<;>first|exact h|cases h
theorem Zs4 {k:mu} {x:Nat} (c:AK k k'=false) (h2:k= .call->HN k'=true->2<=x) (hv: ∀r q v,(E.get r).dr=some v->(E'.get q).dr=some v->r=q)
  (hb: ∀bs b,k= .ap bs->k'= .lp b->b∈bs->∀j p,E.get b= .v (.ptr (some (j,p)))->E'.get b= .v (.ptr (some (j,p)))):
  ∀h,nC (.d k x) E h->¬qk (.d k' x') E' h:=by
 intro h hw hd;cases k<;>cases k'<;>first
  |exact hw.elim
  |exact hd.elim
  |(simp[AK]at c;done)
  |(have h3:=h2 rfl rfl;have h4:=hw.1;omega)
  |(obtain⟨i,rfl⟩:=hw;have⟨v,e,_⟩:=hd;cases e;done)
  |(obtain⟨_,i,rfl⟩:=hw;have⟨v,e,_⟩:=hd;cases e;done)
  |(obtain⟨v,rfl,_⟩:=hw;have⟨i,e⟩:=hd;cases e;done)
  |(obtain⟨v,rfl,_⟩:=hw;have⟨i,p,_,e⟩:=hd;cases e;done)
  |(obtain⟨i,rfl,_⟩:=hw;have⟨v,e,_⟩:=hd;cases e;done)
  |(obtain⟨v,rfl,e1⟩:=hw
    have⟨v',e,e2⟩:=hd;cases e;have:=hv _ _ _ e1 e2;subst this;simp[AK]at c)
  |(rename_i bs b
    obtain⟨i,rfl,hw⟩:=hw;have⟨i',p',e1,e2⟩:=hd;cases e2;have gY:b∈bs:=by
     have:has bs b=true:=by simpa [AK]using c
     exact(Jx _ _).1 this
    grind)
theorem ZwP {ops:List Oper} (h:tZ o):cls P pr ops o= .hp\/cls P pr ops o= .call\/cls P pr ops o= .ap []:=by
 unfold tZ at h;cases ho:o.op<;>rw[ho]at h<;>simp only at h
 case call q=>
  split at h
  .rename_i hq
   cases hp:has pr 1000000 with
   |true=>simp[cls,ho,hq,hp]
   |false=>simp[cls,ho,hq,hp]
  .rename_i hq;simp[cls,ho,hq]
  .exact h.elim
 all_goals exact .inl (by simp[cls,ho])
theorem Zvr {ops:List Oper} (h:tZ o) (k m:Nat):wx pr ops k m (cls P pr ops o)= .hp\/wx pr ops k m (cls P pr ops o)= .call\/∃bs,wx pr ops k m (cls P pr ops o)= .ap bs:=by
 rcases ZwP (P:=P) (pr:=pr) (ops:=ops) h with e|e|e<;>rw[e]
 .exact .inl rfl
 .exact .inr (.inl rfl)
 .exact .inr (.inr ⟨_,rfl⟩)
theorem Zu5 {k:mu} {x:Nat} (h:k= .hp\/k= .call\/∃bs,k= .ap bs) (i:Nat):qk (.d k x) E (.inl i):=by
 rcases h with rfl|rfl|⟨bs,rfl⟩<;>exact⟨i,rfl⟩
theorem ZyJ {ops:List Oper} {b:Nat} {c:mu} (h:wx pr ops k m c= .lp b):c= .lp b:=by
 cases c<;>first|exact h|cases h
theorem ZxI {ops:List Oper} {b:Nat} {c:mu} (h:wx pr ops k m c= .qd b):c= .qd b:=by
 cases c<;>first|exact h|cases h
theorem ZyA {ops:List Oper} {c:mu} {bs:al} (h:wx pr ops k m c= .ap bs):bs=(JQ m 0 (ops.take k)).filter λb=>Lo b (ops.take k)&&(tO pr ops 12 b).isNone:=by
 cases c<;>cases h
 rfl
theorem ZA3 {ops:List Oper} {b:Nat} (h:cls P pr ops o= .lp b):zA b o=true:=by
 unfold zA;cases ho:o.op with
 |load t a=>
  cases a with
  |tmp a=>
   cases hr:tO pr ops 12 a with
   |none=>simp[cls,ho,hr]at h;simp[h]
   |some q=>simp[cls,ho,hr]at h
  |_=>simp[cls,ho]at h
 |store t a y=>
  cases a with
  |tmp a=>cases hr:tO pr ops 12 a<;>simp[cls,ho,hr]at h
  |_=>simp[cls,ho]at h
 |next it b=>cases it<;>simp[cls,ho]at h
 |slice t y lo hi mx=>
  simp only[cls,ho]at h;split at h<;>simp at h
 |call q=>
  cases hp:has pr 1000000<;>simp only[cls,ho,hp,ae,af]at h<;>split at h<;>simp at h
 |_=>simp[cls,ho]at h
theorem Zra {b:Nat} : ∀ {L:List Oper},Lo b L=true->∀(i j:Nat) (o o':Oper),L[i]? =some o->zA b o=true->i<=j->L[j]? =some o'->o'.dst≠some b
 |[],_,i,j,o,o',h,_,_,_=>by simp at h
 |x::r,h,i,j,o,o',hi,hl,mI,hj=>by
  unfold Lo at h;cases hx:zA b x with
  |true=>
   rw[hx]at h;simp only[ae]at h;have:=wF.1 h o' (sD hj);intro e;rw[e]at this;simp at this
  |false=>
   rw[hx]at h;simp only[af]at h;cases i with
   |zero=>
    grind
   |succ i=>
    obtain⟨j,rfl⟩: ∃j',j=j'+1:=⟨j-1,AC⟩;exact Zra h i j o o' (by simpa using hi) hl AC (by simpa using hj)
section
variable {C:bE} {pr ms:al} {ops:Array Oper} {l:List (Oper×Md)} {is:List gN} {m:Nat} {A B:Nat->Env} {ss:Nat->St}
abbrev FY (A B:Nat->Env) (ss:Nat->St) (i:Nat) (h:dN):Prop:=xY (B i) (ss i) (A (i+1)) (ss (i+1)) h
structure Mm (pr ms:List Nat) (ops:Array Oper) (l:List (Oper×Md)) (A B:Nat->Env) (ss:Nat->St) (i k:Nat) (p p':Oper×Md):Prop where
 d1: ∀t,p.1.dst=some t->(sh pr ops.toList p'.1).testBit t=false
 d2: ∀t,p'.1.dst=some t->(sh pr ops.toList p.1).testBit t=false
 d3: ∀t,p.1.dst=some t->p'.1.dst≠some t
 w1: ∀h,nC p.2 (B i) h->¬qk p'.2 (B k) h
 w2: ∀h,nC p'.2 (B k) h->¬qk p.2 (B i) h
 n1: ∀h,FY A B ss i h->¬nC p'.2 (B k) h
 n2: ∀h,FY A B ss k h->¬nC p.2 (B i) h
theorem Su.abN (S:Su C pr ms ops l is m A B ss) (Ho:i<k) (hk:k<m) (hp:l[i]? =some p) (fX:l[k]? =some p') (hn: ¬Cz is i k):Mm pr ms ops l A B ss i k p p':=by
 have⟨q,x,T⟩:=S.get hp;have⟨q',x',T'⟩:=S.get fX;have yP:QJ q q':=by
  have⟨_,_,h⟩:=Nr S.ok i q T.iq;rcases h k q' Ho T'.iq with h|h
  .rw[eJ]at h;exact absurd ⟨q',T'.iq,h⟩ hn
  .exact h
 have⟨ct,e1,e2,e3⟩:=yP;have c:=ZtC ct;rw[T.dst,T'.lk]at e1;rw[T'.dst,T.lk]at e2;rw[T.dst,T'.dst]at e3;have hv: ∀r t v,((B i).get r).dr=some v->((B k).get t).dr=some v->r=t:=λr t v h1 h2=>
  (S.vH i AC).uniq r t v h1 (S.adK AC AC ((S.vH i AC).lt r v h1) h2)
 have w1: ∀h,nC p.2 (B i) h->¬qk p'.2 (B k) h:=by
  rw[T.md,T'.md];refine Zs4 c (λh1 h2=>?_) hv (λbs b h1 h2=>by rw[h1,h2]at ct;cases ct);rcases T.two h1 k q' T'.iq AC h2 with h|h|h
  .exact absurd ⟨q',T'.iq,h⟩ hn
  .have:=T.lt k h;omega
  .exact h
 have w2: ∀h,nC p'.2 (B k) h->¬qk p.2 (B i) h:=by
  rw[T.md,T'.md];refine Zs4 (by rw[ZvZ];exact c) (λh1 h2=>?_) Fd (λbs b h1 h2 gY j pp hg=>?_);rotate_left
  .have vM:=ZyA (T'.kc.symm.trans h1)
   rw[vM,FN]at gY;have qI:zA b p.1=true:=ZA3 (ZyJ (T.kc.symm.trans h2));have dX:ops.toList[i]? =some p.1:=by rw[lx];exact T.op
   refine S.val (j:=i) (k-i) AC (λi' HP g1 g2 g3=>?_) (by rw[show i+(k-i)=k by omega];exact hg);have⟨q'',x'',T''⟩:=S.get g3;have aiV:ops.toList[i']? =some HP.1:=by rw[lx];exact T''.op
   exact Zra (Bool.and_eq_true_iff.1 gY.2).1 i i' p.1 HP.1 (by rw[xR,bG AC];exact dX) qI g1 (by rw[xR,bG AC];exact aiV)
  rcases T'.two h1 i q T.iq AC h2 with h|h|h
  .have:=T.lt k h;omega
  .exact absurd ⟨q',T'.iq,h⟩ hn
  .exact h
 have d1: ∀t,p.1.dst=some t->(sh pr ops.toList p'.1).testBit t=false:=λt h=>by rw[h]at e1;exact e1
 refine⟨d1,λt h=>by rw[h]at e2;exact e2,λt h h'=>?_,w1,w2,λh iL hw=>?_,λh iL hw=>?_⟩
 .rw[h,h']at e3
  grind[Xq,FP]
 .cases h with
  |inl y=>
   have hF:=S.F AC hp;rcases hF.grow with hg|hg
   .have h1:=iL.1;have h2:=iL.2
    grind[eC]
   .refine w2 _ hw ?_
    rw[T.md,T.kc];exact Zu5 (Zvr hg _ _) y
  |inr v=>
   rw[T'.md]at hw;cases hq:q'.k<;>rw[hq]at hw<;>first|exact hw.elim|skip
   .have⟨y,e⟩:=hw;cases e
   .have⟨_,y,e⟩:=hw;cases e
   .rename_i r
    have⟨v',e,fg⟩:=hw;cases e;have aw:v<(B (i+1)).bW:=by rw[(S.w (i+1) AC).bW];exact iL.2
    have h1:=Zte (S.w (i+1) AC) (S.adK AC AC aw fg);rcases(S.F AC hp).dr h1 with h2|⟨_,h2⟩
    .exact iL.1 ((S.vH i AC).lt r v h2)
    .have h3:=d1 r h2
     have h4:=ZwA (P:=C.P) (pr:=pr) (ops:=ops.toList) (o:=p'.1) (r:=r) (.inr (ZxI (T'.kc.symm.trans hq)));rw[h3]at h4;cases h4
   .have⟨y,e,_⟩:=hw;cases e
 .cases h with
  |inl y=>
   have hF:=S.F hk fX;rcases hF.grow with hg|hg
   .have h1:=iL.1;have h2:=iL.2
    grind[eC]
   .refine w1 _ hw ?_
    rw[T'.md,T'.kc];exact Zu5 (Zvr hg _ _) y
  |inr v=>
   rw[T.md]at hw;cases hq:q.k<;>rw[hq]at hw<;>first|exact hw.elim|skip
   .have⟨y,e⟩:=hw;cases e
   .have⟨_,y,e⟩:=hw;cases e
   .rename_i r
    have⟨v',e,fg⟩:=hw;cases e;have:eC (B i) (ss i) (.inr v):=(S.vH i AC).lt r v fg;exact iL.1 (S.vF AC AC this)
   .have⟨y,e,_⟩:=hw;cases e
theorem ZoN {a:Act} (R: ∀j w r,o.guard=some (j,w)->nI ops j=some r->fV C ψ (E.get r) (a.tmps.getD r undef)) (h:GW (nI ops) E o):Region.wanted o (yielded ops a.tmps)=true:=by
 unfold Region.wanted;rcases h with h|⟨j,w,r,h1,h2,h3⟩
 .rw[h]
 .have hr:=R j w r h1 h2
  rw[h1];rw[NN]at h2;rw[h3]at hr;have:a.tmps.getD r undef= .bool w:=by generalize a.tmps.getD r undef=x at hr;cases hr;rfl
  simp[yielded,h2,NH a r w this]
theorem Zt5 {a:Act} (R: ∀j w r,o.guard=some (j,w)->nI ops j=some r->fV C ψ (E.get r) (a.tmps.getD r undef)) (h:GU (nI ops) E o):Region.wanted o (yielded ops a.tmps)=false:=by
 unfold Region.wanted;have⟨j,w,r,h1,h2,h3⟩:=h;have hr:=R j w r h1 h2;rw[h1];rw[NN]at h2;rcases h3 with⟨b,h3,hb⟩|h3
 .rw[h3]at hr
  have:a.tmps.getD r undef= .bool b:=by generalize a.tmps.getD r undef=x at hr;cases hr;rfl
  simp[yielded,h2,NH a r b this,hb]
 .rw[h3]at hr
  have hr:a.tmps.getD r undef=undef:=hr;have:a.tmps[r]? =none\/a.tmps[r]? =some undef:=by
   rw[sB]at hr;grind
  have hy:yielded ops a.tmps j=none:=by
   unfold yielded;rw[h2];rcases this with e|e<;>simp[e,undef]
  simp[hy]
theorem ZwV (st:Step C (nI ops) pr ms p E s E' s') {a:Act} (pre:aA C p.1 (qk p.2 E) E s ψ Q a w) (room:Mt E s E' s' ψ)
  (hg: ∀j w r,p.1.guard=some (j,w)->nI ops j=some r->fV C ψ (E.get r) (a.tmps.getD r undef)) (hi:ops[i]? =some p.1) {K:Act->World->Prop}
  (h: ∀ψ' Q' v w',Mq C (qk p.2 E) (nC p.2 E) E s E' s' ψ Q w ψ' Q' w'->(∀d,p.1.dst=some d->fV C ψ' (E'.get d) v)->K (a.put p.1.dst v) w'):wpOp C.P ops QQ i K a w:=by
 unfold wpOp;simp only[hi];cases st with
 |act g hF hO=>
  rw[bG (ZoN hg g)];exact .inl (hO ψ Q a w K QQ pre room h)
 |skip g=>
  rw[bq (by rw[Zt5 hg g];simp)];refine h ψ Q undef w ⟨pre.fh,.refl _ _ _,λh cb e=> .inl e,λh ab cb c hw e=>?_,λh ab cb e q _ _=>q⟩ λd hd=>?_
  .rcases hw with hw|⟨n1,n2⟩
   .exact pre.ko h ab cb (NY _ _ _ hw) (c.fu rfl) e
   .exact absurd (by cases h<;>simpa [eC]using n2) n1
  .rw[Env.kR,bG hd];rfl
structure Inv (C:bE) (f:Fr) (l:List (Oper×Md)) (is:List gN) (m:Nat) (A B:Nat->Env) (ss:Nat->St) (ψi:Ps) (L:Nat->Prop) (a:Act) (w:World) (ψ:Ps) (Q:Kn):Prop where
 fh:fC C ψ Q w
 gO:sF ψ w
 lK:Glob C ψ
 kq: ∀t j,j<=m->(∀i p,i<j->l[i]? =some p->¬L i->p.1.dst≠some t)->(∀i p,j<=i->l[i]? =some p->L i->p.1.dst≠some t)->fV C ψ ((B j).get t) (a.tmps.getD t undef)
 ko: ∀h j ab cb,j<=m->(∀i,i<j->¬L i->¬Wr l B i h)->(∀i,j<=i->L i->¬Wr l B i h)->CR (B j) (ss j) h ab->ψ h=some cb->Q h ab
 free: ∀i h,i<m->¬L i->FY A B ss i h->ψ h=none
 news: ∀h cb,ψ h=some cb->ψi h=some cb\/(¬eC (B 0) (ss 0) h/\eC (B m) (ss m) h)
 ext:Ext f.iQ (CS f.s0) f.w0 ψ Q w
 nZ:Ks f a
 defs:a.defers=f.Xp
 sub: ∀i,L i->i<m
 down: ∀i k,L k->Cz is i k->L i
theorem ZAD (hE:jJ E) (c:CR E s h ab) (c':CR E s h df):ab=df:=by
 cases h with
 |inl i=>
  have h1:dD s i=some ab:=c;have h2:dD s i=some df:=c';rw[h1]at h2;grind
 |inr v=>
  rcases c with⟨t,n,cs,e,rfl⟩|⟨t,l,p,e,rfl⟩<;>rcases c' with⟨t',n',cs',e',rfl⟩|⟨t',l',p',e',rfl⟩<;>
   (have:=hE.uniq t t' v (by rw[e];rfl) (by rw[e'];rfl);subst this;rw[e]at e';cases e';try rfl)
theorem Su.born (S:Su C pr ms ops l is m A B ss) {h:dN} {j:Nat} : ∀(d:Nat),j+d<=m->¬eC (B j) (ss j) h->eC (B (j+d)) (ss (j+d)) h->∃k,j<=k/\k<j+d/\FY A B ss k h
 |0,_,hn,hd=>absurd hd hn
 |d+1,hk,hn,hd=>by
  have kV:eC (A (j+d+1)) (ss (j+d+1)) h:=(Ea (S.w _ hk) h).1 hd;by_cases e:eC (B (j+d)) (ss (j+d)) h
  .have⟨k,h1,h2,h3⟩:=S.born d AC hn e
   grind
  .exact⟨j+d,AC,AC,e,kV⟩
theorem ZAS {v:Nat} (h:(E.get t).dr=some v): ∃ab,CR E s (.inr v) ab:=by
 cases he:E.get t with
 |loc v' n cs=>
  rw[he]at h;simp only[eZ.dr,fZ]at h;subst h;exact⟨_,.inl ⟨t,n,cs,he,rfl⟩⟩
 |it v' x p=>
  rw[he]at h;simp only[eZ.dr,fZ]at h;subst h;exact⟨_,.inr ⟨t,x,p,he,rfl⟩⟩
 |_=>rw[he]at h;cases h
variable {f:Fr} {ψi:Ps} {L:Nat->Prop} {a:Act} {w:World} {ψ:Ps} {Q:Kn}
theorem Inv.pre (S:Su C pr ms ops l is m A B ss) (I:Inv C f l is m A B ss ψi L a w ψ Q) (hi:i<=m) (_hp:l[i]? =some p) (hL: ¬L i) (ak1: ∀j,Cz is j i->L j)
  (jg: ∀k p',k<i->l[k]? =some p'->¬L k->(∀t,p'.1.dst=some t->(sh pr ops.toList p.1).testBit t=false)/\∀h,nC p'.2 (B k) h->¬qk p.2 (B i) h) (kU: ∀k p',i<k->l[k]? =some p'->L k->Mm pr ms ops l A B ss i k p p'):
  aA C p.1 (qk p.2 (B i)) (B i) (ss i) ψ Q a w/\∀j w r,p.1.guard=some (j,w)->nI ops j=some r->fV C ψ ((B i).get r) (a.tmps.getD r undef):=by
 have kq: ∀t,(sh pr ops.toList p.1).testBit t=true->fV C ψ ((B i).get t) (a.tmps.getD t undef):=by
  intro t ht;refine I.kq t i hi (λk p' hk fX hl e=>?_) (λk p' hk fX hl e=>?_)
  .have:=(jg k p' hk fX hl).1 t e
   rw[ht]at this;cases this
  .rcases Nat.eq_or_lt_of_le hk with h|h
   .subst h;exact hL hl
   .have:=(kU k p' h fX hl).d2 t e
    rw[ht]at this;cases this
 refine⟨⟨I.fh,I.gO,I.lK,S.vH i hi,λh ab cb hD c e=>I.ko h i ab cb hi (λk hk hl=>?_) (λk hk hl=>?_) c e,λt ht=>kq t (ZrP ht)⟩,λj w r hg hr=>kq r ?_⟩
 .rintro⟨p',fX,hw⟩
  grind
 .rintro⟨p',fX,hw⟩
  rcases Nat.eq_or_lt_of_le hk with e|e
  .subst e;exact hL hl
  .exact(kU k p' e fX hl).w2 h hw hD
 .unfold nI at hr
  split at hr
  .rename_i o ho;exact Zv4 hg ho hr
  .cases hr
theorem Inv.step (S:Su C pr ms ops l is m A B ss) (I:Inv C f l is m A B ss ψi L a w ψ Q) (hi:i<m) (hp:l[i]? =some p) (hL: ¬L i) (E9: ∀j,Cz is j i->L j)
  (hd: ∀x,p.1.dst=some x->f.ok x=true) {K:Act->World->Prop}
  (h: ∀a' w' ψ' Q',Inv C f l is m A B ss ψi (λj=>L j\/j=i) a' w' ψ' Q'->K a' w'):wpOp C.P ops QQ i K a w:=by
 have jg: ∀k p',k<i->l[k]? =some p'->¬L k->Mm pr ms ops l A B ss k i p' p:=λk p' hk fX hl=>S.abN hk hi fX hp λhb=>hl (E9 k hb)
 have kU: ∀k p',i<k->l[k]? =some p'->L k->Mm pr ms ops l A B ss i k p p':=λk p' hk fX hl=>S.abN hk (I.sub k hl) hp fX λhb=>hL (I.down i k hl hb)
 have⟨pre,hg⟩:=I.pre S (Nat.le_of_lt hi) hp hL E9 (λk p' hk fX hl=>⟨(jg k p' hk fX hl).d1,(jg k p' hk fX hl).w1⟩) kU;have⟨q,x,T⟩:=S.get hp;refine ZwV (S.st i p hi hp) pre (λk hk=>I.free i k hi hL hk) hg T.op λψ' Q' v w' P he=>h _ _ ψ' Q' ?_
 have aic: ∀k h,k<m->¬(L k\/k=i)->FY A B ss k h->ψ' h=none:=by
  intro k h hk hl iL;cases e:ψ' h with
  |none=>rfl
  |some cb=>
   rcases P.news h cb e with e|e
   .rw[I.free k h hk (λx=>hl (.inl x)) iL]at e;cases e
   .rcases Nat.lt_trichotomy i k with Ho|Ho|Ho
    .exact absurd (S.vF (j:=i+1) AC AC ((Ea (S.w (i+1) AC) h).2 e.2)) iL.1
    .omega
    .exact absurd (S.vF (j:=k+1) AC AC ((Ea (S.w (k+1) AC) h).2 iL.2)) e.1
 refine⟨P.fh,P.ext.gO I.gO,P.ext.lK I.lK,λt j hj c1 c2=>?_,λh j ab cb hj c1 c2 c e=>?_,aic,λh cb e=>?_,I.ext.trans P.ext,I.nZ.put hd,by rw[M1];exact I.defs,λk hk=>?_,λj k hk hb=>?_⟩
 .rw[Js λx hx=>by rw[I.nZ.1];exact f.LB x (hd x hx)]
  by_cases Hg:p.1.dst=some t
  .rw[bG Hg]
   have mI:i<j:=by
    grind
   have h1:fV C ψ' ((B (i+1)).get t) v:=by
    rcases(S.w (i+1) AC).get t with e|e
    .rw[e];exact he t Hg
    .rw[e];trivial
   have:=S.bL (j:=i+1) (ψ:=ψ') (x:=v) (t:=t) (j-(i+1)) AC (λk p' h1 h2 fX=>?_) h1
   .rwa [show i+1+(j-(i+1))=j by omega]at this
   .by_cases hl:L k
    .exact(kU k p' AC fX hl).d3 t Hg
    grind
  .rw[bq Hg]
   refine(I.kq t j hj (λk p' hk fX hl=>?_) Fd).mono P.ext.mono;by_cases e:k=i
   .grind
   grind
 .by_cases hw:nC p.2 (B i) h\/FY A B ss i h
  .have mI:i<j:=by
    rcases kz i j with h'|h'
    .exact h'
    .rcases hw with hw|hw
     .exact absurd ⟨p,hp,hw⟩ (c2 i h' (.inr rfl))
     .exact absurd (S.vF h' AC (c.rQ (S.vH j hj))) hw.1
   have ig: ∀k,i+1<=k->k<j->¬Wr l B k h:=by
    rintro k h1 h2 ⟨p',fX,tF⟩;by_cases hl:L k
    .rcases hw with hw|hw
     .exact(kU k p' AC fX hl).w2 h tF (NY _ _ _ hw)
     .exact(kU k p' AC fX hl).n1 h hw tF
    .exact c1 k AC Fd ⟨p',fX,tF⟩
   have ah4:eC (B (i+1)) (ss (i+1)) h:=by
    rcases hw with hw|hw
    .by_cases e0:eC (B (i+1)) (ss (i+1)) h
     .exact e0
     .have⟨k,k1,k2,k3⟩:=S.born (j:=i+1) (j-(i+1)) AC e0 (by rw[show i+1+(j-(i+1))=j by omega];exact c.rQ (S.vH j hj))
      have⟨p',fX⟩:=S.Dr (k:=k) AC;by_cases hl:L k
      .exact absurd hw ((kU k p' AC fX hl).n2 h k3)
      grind
    .exact(Ea (S.w (i+1) AC) h).2 hw.2
   exact P.p1 h ab cb ((S.Oo AC hj ig ah4 c).jc (S.w (i+1) AC)) hw e
  .have e0:ψ h=some cb:=by
    rcases P.news h cb e with e|e
    .exact e
    grind
   have aiM: ¬Wr l B i h:=by
    rintro⟨p',fX,tF⟩;rw[hp]at fX;grind
   have hQ:=I.ko h j ab cb hj (λk hk hl=>by
    by_cases e:k=i
    .subst e;exact aiM
    grind) Fd c e0
   refine P.p2 h ab cb e0 hQ (λx=>hw (.inl x)) λhD ahK=>?_
   rcases kz j i with mJ|mJ
   .have ig: ∀k,j<=k->k<i->¬Wr l B k h:=by
     rintro k h1 h2 ⟨p',fX,tF⟩;by_cases hl:L k
     .exact c2 k h1 (.inl hl) ⟨p',fX,tF⟩
     .exact(jg k p' h2 fX hl).w1 h tF hD
    cases h with
    |inl y=>
     have c':dD (ss j) y=some ab:=c;have:=S.fix (x:=y) (j:=j) (i-j) AC Fd (Ee c');rw[show j+(i-j)=i by omega]at this;show dD (ss i) y=some ab;grind[dD]
    |inr v=>
     have zj: ∃r,((B i).get r).dr=some v:=by
      rw[T.md]at hD;cases hq:q.k<;>rw[hq]at hD<;>first|exact hD.elim|(have⟨y,e⟩:=hD;cases e;done)|(have⟨y,p',_,e⟩:=hD;cases e;done)|(have⟨v',e,hv⟩:=hD;grind)
     have⟨r,hr⟩:=zj;have⟨df,c'⟩:=ZAS (s:=ss i) hr;have c2':=S.Oo (Nat.le_of_lt mJ) (Nat.le_of_lt hi) ig (c.rQ (S.vH j hj)) c';rw[ZAD (S.vH j hj) c c2'];exact c'
   .refine S.Oo mJ hj (λk h1 h2=>?_) ahK c
    rintro⟨p',fX,tF⟩;rcases Nat.eq_or_lt_of_le h1 with e|e
    .grind
    .by_cases hl:L k
     .exact(kU k p' e fX hl).w2 h tF hD
     .exact c1 k h2 Fd ⟨p',fX,tF⟩
 .rcases P.news h cb e with e|e
  .exact I.news h cb e
  .exact .inr ⟨λx=>e.1 (S.vF (cB _) AC x),S.vF (j:=i+1) AC (aM _) ((Ea (S.w (i+1) AC) h).2 e.2)⟩
 .rcases hk with hk|hk
  .exact I.sub k hk
  .omega
 .rcases hk with hk|hk
  .exact .inl (I.down j k hk hb)
  grind
end
theorem ZuW: ∀(l:List Bool) (i:Nat),l[i]? =some false->(l.set i true).count false+1=l.count false
 |[],i,h=>by simp at h
 |b::l,0,h=>by
  grind
 |b::l,i+1,h=>by
  grind
def nA (listed:Array Bool) (i:Nat):Prop:=listed[i]? =some true
theorem ZzS (hi:i<listed.size) (j:Nat):nA (listed.setIfInBounds i true) j↔nA listed j\/j=i:=by
 grind[nA]
theorem Wl (hi:i<listed.size) (h: ¬nA listed i):listed[i]? =some false:=by
 simp_all[nA]
theorem Zrm (h:i∈Region.ready .any ops listed):i<ops.size/\¬nA listed i/\∀o,ops[i]? =some o->∀e∈o.after,Region.binds .any e=true->nA listed e.on:=by
 unfold Region.ready at h;have⟨h1,h2⟩:=FN.1 h;rw[uY]at h1;simp only[aY,lT]at h2;refine⟨h1,λhl=>?_,λo ho e he hb=>?_⟩
 .simp_all[nA]
 .have h3:=h2.2
  rw[ho]at h3;simp only[ny,Option.getD_some]at h3;rw[Array.all_eq_true']at h3;have:=h3 e he;rw[hb]at this;simp only[bw,wD]at this;unfold nA;rw[sB]at this;grind
theorem Zxh (ho:ops[i]? =some o) (hl:listed[i]? =some false) (h: ∀e∈o.after,Region.binds .any e=true->nA listed e.on):i∈Region.ready .any ops listed:=by
 unfold Region.ready;refine FN.2 ⟨Fd,?_⟩;rw[aY,lT];refine⟨by rw[sB,hl];rfl,?_⟩;rw[ho,ny,Option.getD_some,Array.all_eq_true'];intro e he;cases hb:Region.binds .any e with
 |false=>rfl
 |true=>
  simp_all[nA]
section
variable {C:bE} {pr ms:al} {ops:Array Oper} {l:List (Oper×Md)} {is:List gN} {m:Nat} {A B:Nat->Env} {ss:Nat->St}
variable {f:Fr} {ψi:Ps} {L:Nat->Prop} {a:Act} {w:World} {ψ:Ps} {Q:Kn}
theorem Su.adu (S:Su C pr ms ops l is m A B ss) {listed:Array Bool} (cL:listed.size=ops.size): ∀(n i:Nat),i<n->i<ops.size->¬nA listed i->Region.ready .any ops listed≠[]
 |0,i,h,_,_=>absurd h (Nat.not_lt_zero i)
 |n+1,i,hn,hi,hl=>by
  have hp:l[i]? =some (l[i]'(by rw[S.PZ];exact hi)):=cu _;have⟨q,x,T⟩:=S.get hp;by_cases h: ∀e∈(l[i]'(by rw[S.PZ];exact hi)).1.after,Region.binds .any e=true->nA listed e.on
  .intro e
   have:=Zxh T.op (Wl AC hl) h;rw[e]at this;cases this
  .simp only[Classical.not_forall]at h
   have⟨e,he,hb,hle⟩:=h;have:=T.lt _ (T.on e he hb);exact S.adu cL n e.on AC AC hle
theorem Inv.congr (I:Inv C f l is m A B ss ψi L a w ψ Q) (h: ∀i,L i↔L' i):Inv C f l is m A B ss ψi L' a w ψ Q:=by
 have:L=L':=funext λi=>propext (h i)
 rw[<-this];exact I
theorem Zs7 (S:Su C pr ms ops l is m A B ss) (hd: ∀p∈l,∀x,p.1.dst=some x->f.ok x=true)
  (qt:Nat->Prop) (bar:m<ops.size->(∀k,m<k->k<ops.size->Cz is m k)/\∀i,i<m->Cz is i m\/qt i)
  (fin:m=ops.size->∀a w ψ Q L,(∀i,i<m->L i)->Inv C f l is m A B ss ψi L a w ψ Q->QQ .normal a w)
  (fy:m<ops.size->∀K a w ψ Q L,(∀i,i<m->L i\/qt i)->Inv C f l is m A B ss ψi L a w ψ Q->wpOp C.P ops QQ m K a w):
  ∀(n:Nat) (listed:Array Bool) (a:Act) (w:World) (ψ:Ps) (Q:Kn),listed.size=ops.size->listed.toList.count false<=n->Inv C f l is m A B ss ψi (nA listed) a w ψ Q->wpAny C.P .any ops QQ n listed a w:=by
 have all: ∀(listed:Array Bool) (a:Act) (w:World) (ψ:Ps) (Q:Kn),listed.size=ops.size->Region.ready .any ops listed=[]->Inv C f l is m A B ss ψi (nA listed) a w ψ Q->QQ .normal a w:=by
  intro listed a w ψ Q cL hr I;have dt: ∀i,i<ops.size->nA listed i:=λi hi=>Classical.byContradiction λhn=>S.adu cL (i+1) i AC hi hn hr
  have hm:m=ops.size:=by
   rcases kz m ops.size with h|h
   .have:=I.sub m (dt m h);omega
   .exact Nat.le_antisymm S.hm h
  grind
 intro n;induction n with
 |zero=>
  intro listed a w ψ Q cL hc I;have hr:Region.ready .any ops listed=[]:=by
   cases hr:Region.ready .any ops listed with
   |nil=>rfl
   |cons i r=>
    have⟨h1,h2,_⟩:=Zrm (i:=i) (ops:=ops) (listed:=listed) (by rw[hr];simp);have:=ZuW listed.toList i (by rw[lx];exact Wl AC h2);omega
  exact⟨hr,all listed a w ψ Q cL hr I⟩
 |succ n ih=>
  intro listed a w ψ Q cL hc I;refine⟨Fd,λi hi=>?_⟩;have⟨h1,h2,h3⟩:=Zrm hi;have hp:l[i]? =some (l[i]'(by rw[S.PZ];exact h1)):=cu _;have⟨q,x,T⟩:=S.get hp;have E9: ∀j,Cz is j i->nA listed j:=by
   rintro j ⟨q',hq,hb⟩;rw[T.iq]at hq;cases hq;have⟨e,he,hbi,hj⟩:=T.ahA j hb;have hl:=h3 _ T.op e he hbi;rcases hj with rfl|hj
   .exact hl
   .exact I.down _ _ hl hj
  have ala:=ZuW listed.toList i (by rw[lx];exact Wl AC h2);rcases Nat.lt_trichotomy i m with EN|EN|EN
  .refine I.step S EN hp h2 E9 (hd _ (ku _)) λa' w' ψ' Q' I'=>?_
   exact ih _ _ _ ψ' Q' (by simpa using cL) (by rw[Array.toList_setIfInBounds];omega) (I'.congr λj=>(ZzS AC j).symm)
  .grind
  .have:=I.sub m Fd
   omega
theorem Rel.drew {E:Env} {s:St} (R:Rel C f ψ E s a w):Rel C f ψ E s a { w with drawn:=w.drawn+1 } where
 fh:=R.fh.more R.gO (hY.drew w)
 gX:=R.gX
 gO:=R.gO
 lK:=R.lK
 kq:=R.kq
 nZ:=R.nZ
 defs:=R.defs
 tR:=R.tR
 wy:=R.wy
 ext:=R.ext.trans (Ext.more (hY.drew w))
 news:=R.news
 len:=R.len
 fin:=R.fin
theorem Su.start (S:Su C pr ms ops l is m A B ss) (R:Rel C f ψ (A 0) (ss 0) a w) (hN:(ss m).length<=f.N):Inv C f l is m A B ss ψ (λ_=>False) a w ψ (CR (B 0) (ss 0)):=by
 have R0:=R.jc (S.w 0 (cB _));have abP: ∀h cb,ψ h=some cb->eC (B m) (ss m) h->eC (B 0) (ss 0) h:=by
  intro h cb e hd;cases h with
  |inl i=>
   rcases kz i (ss 0).length with h|h
   .exact h
   .rw[R0.tR i h (mo hd hN)]at e;cases e
  |inr v=>
   rcases kz v (B 0).bW with h|h
   .exact h
   .rw[R0.wy v h]at e;cases e
 refine⟨R0.fh,R0.gO,R0.lK,λt j hj c1 _=>?_,λh j ab cb hj c1 _ c e=>?_,λi h hi _ hn=>?_,λh cb e=> .inl e,R0.ext,R0.nZ,R0.defs,λ_ h=>h.elim,λ_ _ h=>h.elim⟩
 .have:=S.bL (j:=0) (ψ:=ψ) (x:=a.tmps.getD t undef) (t:=t) j AC Fd (R0.kq t)
  rwa [eJ]at this
 .exact S.Oo (cB _) hj Fd (abP h cb e (S.vF hj (aM _) (c.rQ (S.vH j hj)))) c
 .cases e:ψ h with
  |none=>rfl
  |some cb=>
   have h1:eC (B m) (ss m) h:=S.vF (j:=i+1) AC (aM _) ((Ea (S.w (i+1) AC) h).2 hn.2);exact absurd (S.vF (cB _) (Nat.le_of_lt hi) (abP h cb e h1)) hn.1
theorem Inv.tail (S:Su C pr ms ops l is m A B ss) (R:Rel C f ψi (A 0) (ss 0) a0 w0) (I:Inv C f l is m A B ss ψi L a w ψ Q):
  (∀i,(ss m).length<=i->i<f.N->ψ (.inl i)=none)/\(∀i cb,ψ (.inl i)=some cb->f.iQ (.inl i)=some cb\/(f.s0.length<=i/\i<(ss m).length))/\f.s0.length<=(ss m).length:=by
 have hlen:(ss 0).length<=(ss m).length:=by
  rcases BI (ss 0).length with h|h
  .omega
  .have:=S.vF (h:= .inl ((ss 0).length-1)) (cB m) (aM m) (by rw[eC];omega)
   grind[eC]
 refine⟨λi h1 h2=>?_,λi cb e=>?_,hU R.len hlen⟩
 .cases e:ψ (.inl i)with
  |none=>rfl
  |some cb=>
   rcases I.news _ cb e with e|⟨_,e⟩
   .rw[R.tR i AC h2]at e;cases e
   grind[eC]
 .rcases I.news _ cb e with e|⟨h1,h2⟩
  .rcases R.news i cb e with h|⟨h1,h2⟩
   .exact .inl h
   omega
  .simp only[eC]at h1 h2
   exact .inr ⟨by have:=R.len;omega,h2⟩
theorem Inv.done (S:Su C pr ms ops l is m A B ss) (R:Rel C f ψi (A 0) (ss 0) a0 w0) (I:Inv C f l is m A B ss ψi L a w ψ Q) (hL: ∀i,i<m->L i):Rel C f ψ (B m) (ss m) a w:=by
 have alv:(B 0).bW=(A 0).bW:=(S.w 0 (cB _)).bW;have hlen:(ss 0).length<=(ss m).length:=by
  rcases BI (ss 0).length with h|h
  .omega
  .have:=S.vF (h:= .inl ((ss 0).length-1)) (cB m) (aM m) (by rw[eC];omega)
   grind[eC]
 have ko: ∀h ab cb,ψ h=some cb->CR (B m) (ss m) h ab->Q h ab:=λh ab cb e c=>I.ko h m ab cb (aM _) Fd (λi hi hl=>by have:=I.sub i hl;omega) c e
 refine⟨I.fh.weaken ko,S.vH m (aM _),I.gO,I.lK,λt=>I.kq t m (aM _) Fd (λi p hi _ hl=>by have:=I.sub i hl;omega),I.nZ,I.defs,λi h1 h2=>?_,λv hv=>?_,I.ext.weaken ko,λi cb e=>?_,hU R.len hlen,R.fin⟩
 .cases e:ψ (.inl i)with
  |none=>rfl
  |some cb=>
   rcases I.news _ cb e with e|⟨_,e⟩
   .rw[R.tR i AC h2]at e;cases e
   grind[eC]
 .cases e:ψ (.inr v)with
  |none=>rfl
  |some cb=>
   rcases I.news _ cb e with e|⟨_,e⟩
   .refine absurd e ?_
    have:v<(B m).bW\/(A 0).bW<=v:= .inr (by
     rcases kz v (A 0).bW with h|h
     .have:=S.vF (h:= .inr v) (cB m) (aM m) (by rw[eC];omega)
      grind[eC]
     .exact h)
    rw[R.wy v AC];simp
   grind[eC]
 .rcases I.news _ cb e with e|⟨h1,h2⟩
  .rcases R.news i cb e with h|⟨h1,h2⟩
   .exact .inl h
   omega
  .simp only[eC]at h1 h2
   exact .inr ⟨by have:=R.len;omega,h2⟩
end
section
variable {C:bE} {f:Fr} {ψ:Ps} {E E2:Env} {s s2:St} {a:Act} {w:World} {pr ms:al}
theorem oj.fn (h:oj C dst pr ms l E s s2):
  ∃(m:Nat) (p:Oper×Md) (A B:Nat->Env) (ss:Nat->St),l[m]? =some p/\A 0=E/\ss 0=s/\GW dst (B m) p.1/\p.2.x=0/\xZ C p.1 (qk p.2 (B m)) (B m) (ss m) s2/\(∀k,k<=m->mZ (A k) (B k))/\
   ∀k p,k<m->l[k]? =some p->Step C dst pr ms p (B k) (ss k) (A (k+1)) (ss (k+1)):=by
 induction h with
 | @jc l E E1 s s2 k _ ih=>
  have⟨m,p,A,B,ss,h1,h2,h3,h4,h5,h6,h7,h8⟩:=ih;refine⟨m,p,λi=>if i=0 then E else A i,B,ss,h1,rfl,h3,h4,h5,h6,λi hi=>?_,λi q hi hq=>Fd⟩;have:=h7 i hi;by_cases e:i=0
  .subst e
   simp only[mV];rw[h2]at this;exact k.trans this
  grind
 | @here p l E s s' g hx hp=>
  exact⟨0,p,λ_=>E,λ_=>E,λ_=>s,rfl,rfl,rfl,g,hx,hp,λ_ _=> .refl E,λk _ hk=>AC⟩
 | @next p l E s E1 s1 s2 st _ ih=>
  have⟨m,p',A,B,ss,h1,h2,h3,h4,h5,h6,h7,h8⟩:=ih;refine⟨m+1,p',λi=>match i with|0=>E|i+1=>A i,λi=>match i with|0=>E|i+1=>B i,λi=>match i with|0=>s|i+1=>ss i,by simpa using h1,rfl,rfl,h4,h5,h6,λi hi=>?_,λi q hi hq=>?_⟩
  .cases i with
   |zero=>exact .refl E
   |succ i=>exact h7 i AC
  grind
theorem Zs9 (n:Nat) (i:Nat): ¬nA (Array.replicate n false) i:=by
 grind[nA]
theorem ZAB (A9:is=sj C.P pr ops.toList ops.toList []) (hl:l=flags C.mp is 0 is ops.toList) (eL:Fw 0 is ops.toList=true)
  (t:Tr C (nI ops) pr ms l E s E2 s2) (R:Rel C f ψ E s a w) (hN:s2.length<=f.N) (hd: ∀p∈l,∀x,p.1.dst=some x->f.ok x=true)
  (h: ∀ψ' a' w',Rel C f ψ' E2 s2 a' w'->QQ .normal a' w'):wpAny C.P .any ops QQ ops.size (Array.replicate ops.size false) a w:=by
 have hlen:l.length=ops.size:=by rw[hl,MG _ _ _ _ (by rw[A9,MO])];simp
 have⟨A,B,ss,h1,h2,h3,h4,h5⟩:=t.fn;have S:Su C pr ms ops l is ops.size A (λk=>if k=ops.size then E2 else B k) ss:=by
  refine⟨A9,hl,eL,aM _,λk hk=>?_,λk p hk hp=>?_,by rw[h1];exact R.gX⟩
  .by_cases e:k=ops.size
   .grind
   .simp only[e,nz]
    exact(h5 k _ (cu AC)).1
  grind
 rw[<-h1,<-h2]at R;refine Zs7 (f:=f) S hd (λ_=>False) AC (λ_ a' w' ψ' Q' L hL I=>?_) AC _ _ _ _ _ _ Do (by rw[Array.toList_replicate,List.count_replicate_self];exact aM _)
  ((S.start R (by rw[<-hlen,h3];exact hN)).congr λi=>⟨False.elim,Zs9 _ i⟩)
 have:=I.done S R hL;grind
theorem ZAg (A9:is=sj C.P pr ops.toList ops.toList []) (hl:l=flags C.mp is 0 is ops.toList) (eL:Fw 0 is ops.toList=true)
  (t:oj C (nI ops) pr ms l E s s2) (R:Rel C f ψ E s a w) (hN:s2.length<=f.N) (hd: ∀p∈l,∀x,p.1.dst=some x->f.ok x=true)
  (h: ∀ch a' w',pz ch->sM C f s2 a' w'->QQ (.panic ch) a' w'):wpAny C.P .any ops QQ ops.size (Array.replicate ops.size false) a w:=by
 have hlen:l.length=ops.size:=by rw[hl,MG _ _ _ _ (by rw[A9,MO])];simp
 have⟨m,p,A,B,ss,hp,h1,h2,hg,hx,vZ,hw,cd⟩:=t.fn;have hm:m<ops.size:=by
  grind
 have S:Su C pr ms ops l is m A B ss:=⟨A9,hl,eL,AC,hw,cd,by rw[h1];exact R.gX⟩;have hmN:(ss m).length<=f.N:=hU vZ.1 hN;rw[<-h1,<-h2]at R;have⟨q,x,T⟩:=S.get hp;have PQ:x=0:=by rw[T.md]at hx;exact hx
 have hz:=T.zero PQ;refine Zs7 (f:=f) (ψi:=ψ) S hd (λi=>∀q',is[i]? =some q'->Er q'.k=true/\q.bf.testBit i=false/\q'.bf.testBit m=false) (λ_=>⟨λk h1 h2=>?_,λi hi=>?_⟩) (λe=>AC) (λ_ K a' w' ψ' Q' L hL I=>?_) _ _ _ _ _ _ Do (by rw[Array.toList_replicate,List.count_replicate_self];exact aM _)
  ((S.start R hmN).congr λi=>⟨False.elim,Zs9 _ i⟩)
 .have hq:is[k]? =some (is[k]'(by rw[S.isLen];exact h2)):=cu _
  rcases hz k _ hq AC with h|h|h
  .exact⟨_,hq,h⟩
  .have:=T.lt k h;omega
  .omega
 .have hq:is[i]? =some (is[i]'(by rw[S.isLen];omega)):=cu _
  have late:(is[i]'(by rw[S.isLen];omega)).bf.testBit m=false:=by
   cases h:(is[i]'(by rw[S.isLen];omega)).bf.testBit m with
   |false=>rfl
   |true=>
    have hpi:l[i]? =some (l[i]' AC):=cu _;have⟨q',x',T'⟩:=S.get hpi;have e:=T'.iq;rw[hq]at e;cases e;have:=T'.lt m h;omega
  cases hb:q.bf.testBit i with
  |true=>exact .inl ⟨q,T.iq,hb⟩
  |false=>
   grind
 .have hLm: ¬L m:=λh=>by have:=I.sub m h;omega
  have⟨pre,yW⟩:=I.pre S (aM m) hp hLm (λj hb=>by
   have⟨q',e,hb⟩:=hb;rw[T.iq]at e;cases e;rcases hL j (T.lt j hb)with h|h
   .exact h
   .have hq:is[j]? =some (is[j]'(by rw[S.isLen];have:=T.lt j hb;omega)):=cu _
    rw[(h _ hq).2.1]at hb;cases hb) (λk p' hk fX hl=>by
   have⟨q',x',T'⟩:=S.get fX;rcases hL k hk with h|h
   .exact absurd h hl
   .have⟨h1,h2,_⟩:=h q' T'.iq
    refine⟨λt ht=>?_,λy hw=>?_⟩
    .have⟨_,_,ha⟩:=Nr S.ok k q' T'.iq
     rcases ha m q hk T.iq with ha|ha
     .rw[eJ,h2]at ha;cases ha
     .have⟨_,e1,_,_⟩:=ha
      rw[T'.dst,T.lk,ht]at e1;exact e1
    .rw[T'.md]at hw
     generalize q'.k=z at h1 hw;cases z<;>first|exact hw.elim|cases h1) (λk p' hk _ hl=>by have:=I.sub k hl;omega)
  have⟨akX,aeb,akW⟩:=I.tail S R;unfold wpOp;simp only[T.op];rw[bG (ZoN yW hg)];refine .inl (vZ.2 ψ' Q' a' w' K QQ pre (λk hk=>?_) λH5 FZ ch xP g0 g1 g2 g3 g4=>h ch a' xP g0 ⟨I.defs,I.nZ,_,Go.Gv.AJ (s':=s2) R.fin g1 (I.ext.trans g2) g4 λi cb e=>?_⟩)
  .cases k with
   |inl i=>
    have h1:=hk.1;have h2:=hk.2
    grind[eC]
   |inr v=>
    have h1:=hk.1;have h2:=hk.2
    exact absurd h2 h1
  .rcases g3 _ cb e with e|⟨n1,n2⟩
   .rcases aeb i cb e with h|⟨h1,h2⟩
    .exact .inl h
    .exact .inr ⟨h1,mo h2 vZ.1⟩
   grind[eC]
end
variable {K:Env->M β}
section
variable {C:bE} {f:Fr} {ψ:Ps} {E E2:Env} {s s2:St} {a:Act} {w:World} {pr:al}
theorem GA: ∀ {l:List Oper} {n:Nat->Bool},okO n l=true->∀o∈l,∀x,o.dst=some x->n x=true
 |[],_,_,o,ho,_,_=>by cases ho
 |y::r,n,h,o,ho,x,hx=>by
  simp only[okO,aY]at h;cases ho with
  |head=>
   have h1:=h.1;rw[hx]at h1;exact h1
  |tail _ ho=>exact GA h.2 o ho x hx
theorem ZvF (pr:al) (ops:List Oper) (y:Oper) (r:List Oper) (x:Nat) (h:has (match y.dst with|some d=>d::zB pr ops r|none=>zB pr ops r) x=true):has (zB pr ops (y::r)) x=true:=by
 rw[zB];split
 .split
  .rw[has,mm];exact .inr h
  .exact h
 .rw[has,mm];exact .inr h
 .exact h
theorem Zw6 {ops:List Oper} {x:Nat} (hx:o.dst=some x): ∀(l:List Oper),o∈l->has (zB pr ops l) x=true:=by
 intro l;induction l with
 |nil=>intro ho;cases ho
 |cons y r ih=>
  intro ho;refine ZvF pr ops y r x ?_;cases ho with
  |head=>rw[hx];simp[has]
  |tail _ ho=>
   have:=ih ho;cases y.dst with
   |none=>exact this
   |some d=>simp[has,this]
theorem Ztn (hC:pw C) (hc:ZW C c) {d:Bool} (h:Ql C pr c ops d E K s=some r):
  (∃E' s',s.length<=s'.length/\K E' s'=some r/\Mod (λu=>has (mP pr (.region 0 ops d)) u=false) E E'/\
   ∀ {f:Fr} {ψ:Ps} {a:Act} {w:World} (QQ:Exit->Act->World->Prop) (id:Nat),Rel C f ψ E s a w->C.P.follows .mixedOrders=true->okO f.ok ops.toList=true->s'.length<=f.N->
    (∀ψ' a' w',Rel C f ψ' E' s' a' w'->QQ .normal a' w')->(Code.region id ops d).wp C.P QQ a w)\/
  (∃s',r=(.fy,s')/\s.length<=s'.length/\
   ∀ {f:Fr} {ψ:Ps} {a:Act} {w:World} (QQ:Exit->Act->World->Prop) (id:Nat),Rel C f ψ E s a w->C.P.follows .mixedOrders=true->okO f.ok ops.toList=true->s'.length<=f.N->
    (∀ch a' w',pz ch->sM C f s' a' w'->QQ (.panic ch) a' w')->(Code.region id ops d).wp C.P QQ a w):=by
 have ajJ: ∀(l:List (Oper×Md)),(∀p∈l,p.1∈ops.toList)->∀u,has (mP pr (.region 0 ops d)) u=false->Mv (zB pr ops.toList ops.toList) l u:=by
  intro l hl u hu;refine⟨λp hp e=>?_,hu⟩;have:=Zw6 (pr:=pr) (ops:=ops.toList) e _ (hl p hp);simp only[mP]at hu;rw[hu]at this;cases this
 have wk: ∀ {l:List (Oper×Md)} {E':Env},(∀p∈l,p.1∈ops.toList)->Mod (Mv (zB pr ops.toList ops.toList) l) E E'->Mod (λu=>has (mP pr (.region 0 ops d)) u=false) E E':=
  λhl m=>⟨λu hu=>m.get u (ajJ _ hl u hu),m.bW,m.xO,m.zO⟩
 cases d with
 |false=>
  simp only[Ql,af]at h;have hl: ∀p∈ops.toList.map (λo=>(o,Md.s)),p.1∈ops.toList:=by
   simp
  have hi: ∀k p,(ops.toList.map λo=>(o,Md.s))[k]? =some p->ops[0+k]? =some p.1:=by
   simp
  have cL:(ops.toList.map λo=>(o,Md.s)).length=ops.size:=Do
  rcases Zq5 (dst:=nI ops) hC hc (ops:=ops.toList) _ _ _ _ _ _ h (λp hp=>by obtain⟨o,_,rfl⟩:=oW.1 hp;exact .inl rfl) (λg hg=>by cases hg)with⟨E',s',t,hk,_,hm⟩|⟨s',e,t⟩
  .refine .inl ⟨E',s',t.len,hk,wk hl hm,λQQ id R _ ho hN hn=>wp_region ?_⟩
   have:=ZyT (QQ:=QQ) t R hN (λp hp x hx=>GA ho p.1 (hl p hp) x hx) hi hn;rw[cL]at this;rwa [List.range_eq_range']
  .refine .inr ⟨s',e,t.len,λQQ id R _ ho hN hn=>wp_region ?_⟩
   have:=ZxV (QQ:=QQ) t R hN (λp hp x hx=>GA ho p.1 (hl p hp) x hx) hi hn;rw[cL]at this;rwa [List.range_eq_range']
 |true=>
  simp only[Ql,ae]at h;have⟨eL,h⟩:=Zt h;have hl: ∀p∈flags C.mp (sj C.P pr ops.toList ops.toList []) 0 (sj C.P pr ops.toList ops.toList []) ops.toList,p.1∈ops.toList:=by
   intro p hp;have⟨k,hk⟩:=FM hp;obtain⟨q,o,_,h2,rfl⟩:=M7 _ _ _ _ _ _ hk;grind
  rcases Zq5 (dst:=nI ops) hC hc (ops:=ops.toList) _ _ _ _ _ _ h (λp hp=>by
   have⟨k,hk⟩:=FM hp;obtain⟨q,o,h1,h2,rfl⟩:=M7 _ _ _ _ _ _ hk;have⟨o',g1,_,g3,_,_⟩:=VT _ _ _ _ _ _ _ h1;rw[h2]at g1;cases g1;exact .inr ⟨_,_,_,by rw[g3]⟩) (λg hg=>by cases hg)with⟨E',s',t,hk,_,hm⟩|⟨s',e,t⟩
  .exact .inl ⟨E',s',t.len,hk,wk hl hm,λQQ id R hf ho hN hn=>wp_region_any hf (ZAB rfl rfl eL t R.drew hN (λp hp x hx=>GA ho p.1 (hl p hp) x hx) hn)⟩
  .exact .inr ⟨s',e,t.len,λQQ id R hf ho hN hn=>wp_region_any hf (ZAg rfl rfl eL t R.drew hN (λp hp x hx=>GA ho p.1 (hl p hp) x hx) hn)⟩
end
theorem fC.cast (hS:fC C ψ Q w) (hc: ∀h cb ab,ψ' h=some cb->Q' h ab->ψ h=some cb/\∃df,Q h df/\(ab.hJ=true->df.hJ=true)/\(Holds C ψ w cb df->Holds C ψ' w cb ab)):fC C ψ' Q' w:=by
 constructor
 .intro h cb ab e q
  have⟨e0,df,q0,_,hh⟩:=hc h cb ab e q;exact hh (hS.holds h cb df e0 q0)
 .intro h cb ab h' gC df e q hs e' q' hn
  have⟨e0,x,q0,s0,_⟩:=hc h cb ab e q;have⟨e1,y,q1,_,_⟩:=hc h' gC df e' q';exact hS.uA h cb x h' gC y e0 q0 (s0 hs) e1 q1 hn
theorem Ext.cast (hE:Ext iQ Q0 w0 ψ Q w) (hm: ∀h cb,iQ h=some cb->ψ' h=some cb) (hp: ∀h cb,ψ' h=some cb->ψ h=some cb)
  (hc: ∀h cb ab,ψ' h=some cb->Q' h ab->∃df,Q h df/\(ab.hJ=true->df.hJ=true)):Ext iQ Q0 w0 ψ' Q' w where
 mono:=hm
 tN:=λh cb e=>hE.tN h cb (hp h cb e)
 size:=hE.size
 kl:=hE.kl
 hJ:=λb ⟨h,cb,ab,e,q,hs,hb⟩=>by
  have⟨df,q',iY⟩:=hc h cb ab e q;exact hE.hJ b ⟨h,cb,df,hp h cb e,q',iY hs,hb⟩
 live:=λh cb x e q=>by
  have⟨df,q',_⟩:=hc h cb x (hm h cb e) q;exact hE.live h cb df e q'
 tape:=hE.tape
 os:=hE.os
 output:=hE.output
def ux (ψ:Ps) (N:Nat):Ps
 | .inl i=>ψ (.inl i)
 | .inr v=>if v<N then ψ (.inr v)else none
theorem Vo (e:ux ψ N h=some cb):ψ h=some cb:=by
 grind[ux]
structure QL (cs cs':List DV):Prop where
 len:cs'.length=cs.length
 rel: ∀(C:bE) ψ vs,bH C ψ cs vs->bH C ψ cs' vs
 one:cs.all one=true->cs'.all one=true
theorem Holds.aeO {f:Bool} (k:QL cs cs') (h:Holds C ψ w cb (.cells f cs)):Holds C ψ w cb (.cells f cs'):=by
 have⟨h1,h2,h3,h4⟩:=h;refine⟨by rw[k.len];exact h1,k.one h2,λj d hd=>?_,h4⟩;have hv:bH C ψ cs ((List.range cs.length).map λj=>(w.cell? ⟨cb.b,cb.o+j,none⟩).getD undef):=by
  refine bH.of _ _ Do λj d v g1 g2=>?_
  grind
 have⟨v,fg,hr⟩:=(k.rel C ψ _ hv).get hd;rw[sC]at fg;have hj:j<cs.length:=by
  grind
 rw[List.getElem?_range hj]at fg;simp only[ny,fZ]at fg;have⟨v',hc,_⟩:=h3 j cs[j] (cu hj);rw[hc]at fg;grind
inductive Wj (e:eZ):eZ->Prop
 |u:Wj e .u
 |same:Wj e e
 |v (d d':DV):e= .v d->(∀(C:bE) ψ x,VR C ψ d x->VR C ψ d' x)->Wj e (.v d')
 |loc (v n:Nat) (cs cs':ah):e= .loc v n cs->QL cs cs'->Wj e (.loc v n cs')
structure BR (E E':Env):Prop where
 bW:E'.bW<=E.bW
 get: ∀t,Wj (E.get t) (E'.get t)
 dr: ∀t v,(E'.get t).dr=some v->v<E'.bW
 pl: ∀t r v o,E'.get t= .pl r v o->v<E'.bW
theorem Wj.dr {e e':eZ} (h:Wj e e') {v:Nat} (hv:e'.dr=some v):e.dr=some v:=by
 cases h with
 |u=>cases hv
 |same=>exact hv
 |v d d' _ _=>cases hv
 |loc v' n cs cs' he _=>rw[he];exact hv
section
variable {C:bE} {f:Fr} {ψ:Ps} {E E':Env} {s:St} {a:Act} {w:World}
theorem CR.zP (k:BR E E') (c:CR E' s h ab): ∃df,CR E s h df/\(ab.hJ=true->df.hJ=true)/\∀(C:bE) ψ w cb,Holds C ψ w cb df->Holds C ψ w cb ab:=by
 cases h with
 |inl i=>exact⟨ab,c,λh=>h,λ_ _ _ _ h=>h⟩
 |inr v=>
  rcases c with⟨t,n,cs,e,rfl⟩|⟨t,l,p,e,rfl⟩
  .have:=k.get t
   rw[e]at this;generalize he:E.get t=x at this;cases this with
   |same=>exact⟨_,.inl ⟨t,n,cs,he,rfl⟩,λh=>h,λ_ _ _ _ h=>h⟩
   |loc _ _ ng _ h1 h2=>exact⟨_,.inl ⟨t,n,ng,he.trans h1,rfl⟩,λh=>h,λ_ _ _ _ h=>h.aeO h2⟩
  .have:=k.get t
   rw[e]at this;generalize he:E.get t=x at this;cases this with
   |same=>exact⟨_,.inr ⟨t,l,p,he,rfl⟩,λh=>h,λ_ _ _ _ h=>h⟩
theorem Holds.ux {N:Nat} {cb:CB} {ab:AB} (h:Holds C ψ w cb ab):Holds C (Go.Gv.ux ψ N) w cb ab:=h.same (ψ:=ψ) (ψ':=Go.Gv.ux ψ N) (λ_ _ e=>e) rfl
theorem jJ.zP (h:jJ E) (k:BR E E'):jJ E':=by
 refine⟨k.dr,k.pl,λt v n cs e=>?_,λt t' v hv fg=>h.uniq t t' v ((k.get t).dr hv) ((k.get t').dr fg)⟩;have:=k.get t;rw[e]at this;generalize he:E.get t=x at this;cases this with
 |same=>exact h.len t v n cs he
 |loc _ _ ng _ h1 h2=>rw[h2.len];exact h.len t v n ng (he.trans h1)
theorem Rel.zP (R:Rel C f ψ E s a w) (k:BR E E'):Rel C f (ux ψ E'.bW) E' s a w where
 fh:=R.fh.cast λh cb ab e c=>by
  have⟨df,c',hs,hh⟩:=c.zP k;exact⟨Vo e,df,c',hs,λx=>(hh C ψ w cb x).ux⟩
 gX:=R.gX.zP k
 gO:=λh cb e=>R.gO h cb (Vo e)
 lK:=λg hg=>R.lK g hg
 kq:=λt=>by
  have h:=R.kq t;have zj:=k.dr t;have lN:=k.pl t;have kl: ∀v cb,v<E'.bW->ψ (.inr v)=some cb->ux ψ E'.bW (.inr v)=some cb:=λv cb hv e=>by grind[ux]
  have:=k.get t;generalize he':E'.get t=x' at this zj lN;generalize he:E.get t=x at this h;have same:fV C ψ x' (a.tmps.getD t Go.undef)->fV C (ux ψ E'.bW) x' (a.tmps.getD t Go.undef):=by
   intro h;cases x' with
   |u=>trivial
   |un=>exact h
   |v d=>exact VR.mono (ψ:=ψ) (ψ':=ux ψ E'.bW) (λ_ _ e=>e) h
   |qR ds=>have⟨vs,e,r⟩:=h;exact⟨vs,e,r.mono (ψ:=ψ) (ψ':=ux ψ E'.bW) λ_ _ e=>e⟩
   |loc v n cs=>have⟨cb,e,r⟩:=h;exact⟨cb,kl v cb (zj v rfl) e,r⟩
   |pl q v n=>have⟨cb,e,r⟩:=h;exact⟨cb,kl v cb (lN q v n rfl) e,r⟩
   |it v l p=>have⟨cb,e,r⟩:=h;exact⟨cb,kl v cb (zj v rfl) e,r⟩
  cases this with
  |u=>trivial
  |same=>exact same h
  |v d d' e hc=>subst e;exact same (hc C ψ _ h)
  |loc v n cs cs' e hc=>subst e;exact same h
 nZ:=R.nZ
 defs:=R.defs
 tR:=R.tR
 wy:=λv hv=>by grind[ux]
 ext:=R.ext.cast (λh cb e=>by
   cases h with
   |inl i=>exact R.ext.mono _ _ e
   |inr v=>rw[R.fin]at e;cases e) (λh cb e=>Vo e) (λh cb ab _ c=>by
   have⟨df,c',hs,_⟩:=c.zP k;exact⟨df,c',hs⟩)
 news:=λi cb e=>R.news i cb e
 len:=R.len
 fin:=R.fin
inductive GJ (E0 E:Env):List (Nat×JS)->List DV->Prop
 |nil:GJ E0 E [] []
 |v (t:Nat) (x:Sh) (d:DV) (r:List (Nat×JS)) (ds:ah):E.get t= .v d->GJ E0 E r ds->GJ E0 E ((t,.v x)::r) (d::ds)
 |l (t:Nat) (x:List B) (v n n0:Nat) (cs ng:ah) (r:List (Nat×JS)) (ds:ah):E.get t= .loc v n cs->E0.get t= .loc v n0 ng->GJ E0 E r ds->GJ E0 E ((t,.l x)::r) (.agg cs::ds)
 |t (t:Nat) (v:Nat) (l l0:aj) (p p0:Nat) (r:List (Nat×JS)) (ds:ah):E.get t= .it v l p->E0.get t= .it v l0 p0->GJ E0 E r ds->GJ E0 E ((t,.t)::r) (.nat p::ds)
theorem yh {E0 E:Env} : ∀ {J:List (Nat×JS)} {K:ah->M β} {s:St} {r:Out β×St},tn E0 E J K s=some r->∃ds,GJ E0 E J ds/\K ds s=some r
 |[],K,s,r,h=>⟨[],.nil,h⟩
 |(t,x)::J,K,s,r,h=>by
  simp only[tn]at h;cases x with
  |v x=>
   cases e:E.get t with
   |v d=>
    rw[e]at h;have⟨ds,g,hk⟩:=yh h;exact⟨_,.v t x d J ds e g,hk⟩
   |_=>rw[e]at h;cases h
  |l x=>
   cases e:E.get t with
   |loc v n cs=>
    rw[e]at h;cases e0:E0.get t with
    |loc v0 n0 ng=>
     rw[e0]at h;simp only at h;have⟨hv,h2⟩:=Zt h;have:=dP hv;subst this;have⟨ds,g,hk⟩:=yh h2;exact⟨_,.l t x v0 n n0 cs ng J ds e e0 g,hk⟩
    |_=>rw[e0]at h;cases h
   |_=>rw[e]at h;cases h
  |t=>
   cases e:E.get t with
   |it v l p=>
    rw[e]at h;cases e0:E0.get t with
    |it v0 l0 p0=>
     rw[e0]at h;simp only at h;have⟨hv,h2⟩:=Zt h;have:=dP hv;subst this;have⟨ds,g,hk⟩:=yh h2;exact⟨_,.t t v0 l l0 p p0 J ds e e0 g,hk⟩
    |_=>rw[e0]at h;cases h
   |_=>rw[e]at h;cases h
inductive PJ (E:Env):List (Nat×JS)->List DV->Env->Env->Prop
 |nil (E1:Env):PJ E [] [] E1 E1
 |v (t:Nat) (x:Sh) (d d':DV) (r:List (Nat×JS)) (ds:ah) (E1 E':Env):(∀(C:bE) ψ x,VR C ψ d x->VR C ψ d' x)->PJ E r ds (E1.put t (.v d')) E'->PJ E ((t,.v x)::r) (d::ds) E1 E'
 |l (t:Nat) (x:List B) (v n:Nat) (ng cs cs':ah) (r:List (Nat×JS)) (ds:ah) (E1 E':Env):E.get t= .loc v n ng->QL cs cs'->PJ E r ds (E1.put t (.loc v n cs')) E'->PJ E ((t,.l x)::r) (.agg cs::ds) E1 E'
 |t (t:Nat) (v:Nat) (l:aj) (p0 p:Nat) (r:List (Nat×JS)) (ds:ah) (E1 E':Env):E.get t= .it v l p0->PJ E r ds (E1.put t (.it v l p)) E'->PJ E ((t,.t)::r) (.nat p::ds) E1 E'
theorem D2 {E:Env} : ∀ {J:List (Nat×JS)} {st:ah} {E1:Env} {K:Env->M β} {s:St} {r:Out β×St},tK E J st E1 K s=some r->∃E',PJ E J st E1 E'/\K E' s=some r
 |[],st,E1,K,s,r,h=>by
  simp only[tK]at h;cases st with
  |nil=>exact⟨E1,.nil E1,h⟩
  |cons _ _=>cases h
 |(t,x)::J,st,E1,K,s,r,h=>by
  simp only[tK]at h;cases st with
  |nil=>cases h
  |cons d rest=>
   simp only[kP]at h;cases x with
   |v x=>
    have⟨d',h,hd,_⟩:=NP h;have⟨E',g,hk⟩:=D2 h;exact⟨E',.v t x d d' J rest E1 E' hd g,hk⟩
   |l x=>
    cases e:E.get t with
    |loc v n ng=>
     rw[e]at h;cases d with
     |agg cs=>
      have⟨cs',h,hl,hr,h1⟩:=IN h;have⟨E',g,hk⟩:=D2 h;exact⟨E',.l t x v n ng cs cs' J rest E1 E' e ⟨hl,hr,h1⟩ g,hk⟩
     |_=>cases h
    |_=>rw[e]at h;cases h
   |t=>
    cases e:E.get t with
    |it v l p0=>
     rw[e]at h;cases d with
     |nat p=>
      have⟨E',g,hk⟩:=D2 h;exact⟨E',.t t v l p0 p J rest E1 E' e g,hk⟩
     |_=>cases h
    |_=>rw[e]at h;cases h
theorem PJ.zP (h0:jJ E0) (hv: ∀t v n cs,E2.get t= .loc v n cs->(∃ng,E0.get t= .loc v n ng)\/E0.bW<=v) (hi: ∀t v l p,E2.get t= .it v l p->(∃p0,E0.get t= .it v l p0)\/E0.bW<=v):
  ∀ {J:List (Nat×JS)} {ds:ah} {E1 E':Env},GJ E0 E2 J ds->PJ E0 J ds E1 E'->E1.bW=E0.bW->E0.bW<=E2.bW->BR E2 E1->BR E2 E'/\E'.bW=E0.bW/\(∀ix u,Dq ix J=true->has ix u=false->E'.get u=E1.get u):=by
 intro J;induction J with
 |nil=>
  intro ds E1 E' g p h1 _ k;cases g;cases p;grind
 |cons x J ih=>
  intro ds E1 E' g p h1 hn k;obtain⟨t,x⟩:=x;have fin: ∀ {e:eZ} {ds:ah},Wj (E2.get t) e->(∀v,e.dr=some v->v<E0.bW)->(∀r v o,e≠ .pl r v o)->GJ E0 E2 J ds->PJ E0 J ds (E1.put t e) E'->BR E2 E'/\E'.bW=E0.bW/\(∀ix u,Dq ix ((t,x)::J)=true->has ix u=false->E'.get u=E1.get u):=by
   intro e ds hw zj lN g p;have⟨r1,r2,r3⟩:=ih g p (by simpa using h1) hn ⟨by simp[h1,hn],λu=>by
     rw[Env.tp];split
     .grind
     .exact k.get u,λu v e=>by
     rw[Env.tp]at e;rw[Env.adm,h1];split at e
     .exact zj v e
     .have:=k.dr u v e;omega,λu r v o e=>by
     rw[Env.tp]at e;rw[Env.adm,h1];split at e
     .grind
     .have:=k.pl u r v o e;omega⟩
   refine⟨r1,r2,λix u h1 h2=>?_⟩;simp only[Dq,aY]at h1;rw[r3 ix u h1.2 h2,Env.tp,bq];grind
  cases p with
  |v _ sx d d' _ ds _ _ hc p=>
   cases g with
   |v _ _ _ _ _ e g=>exact fin (.v d d' e hc) (λv h=>by cases h) (λ_ _ _ h=>by cases h) g p
  |l _ sx v n ng cs cs' _ ds _ _ he hc p=>
   cases g with
   |l _ _ v2 n2 n0 _ cI _ _ e e0 g=>
    rw[he]at e0;cases e0;rcases hv t _ _ _ e with⟨c,e1⟩|e1
    .rw[he]at e1;cases e1
     exact fin (.loc _ _ cs cs' e hc) (λv h=>by cases h;exact h0.lt t _ (by rw[he];rfl)) (λ_ _ _ h=>by cases h) g p
    .have:=h0.lt t _ (by rw[he];rfl);omega
  |t _ v l p0 q _ ds _ _ he p=>
   cases g with
   |t _ v2 l2 l0 _ p2 _ _ e e0 g=>
    rw[he]at e0;cases e0;rcases hi t _ _ _ e with⟨c,e1⟩|e1
    .rw[he]at e1;cases e1
     exact fin (by rw[e];exact .same) (λv h=>by cases h;exact h0.lt t _ (by rw[he];rfl)) (λ_ _ _ h=>by cases h) g p
    .have:=h0.lt t _ (by rw[he];rfl);omega
abbrev Un (l:al) (u:Nat):Prop:=has l u=false
theorem UH (h0:jJ E0) (hm:Mod (Un ix) E0 E2) (g:GJ E0 E2 J ds) (p:PJ E0 J ds (E0.del ix) E') (hj:Dq ix J=true):
  BR E2 E'/\Mod (Un ix) E0 E':=by
 have k0:BR E2 (E0.del ix):=by
  refine⟨hm.bW,λt=>?_,λt v e=>?_,λt r v o e=>?_⟩
  .rw[Aq]
   cases h:has ix t with
   |true=>exact .u
   |false=>rw[hm.get t h];exact .same
  .rw[Aq]at e
   split at e
   .cases e
   .exact h0.lt t v e
  .rw[Aq]at e
   split at e
   .cases e
   .exact h0.pl t r v o e
 have⟨r1,r2,r3⟩:=PJ.zP h0 hm.xO hm.zO g p rfl hm.bW k0;have und: ∀u,Un ix u->E'.get u=E0.get u:=λu hu=>by
  have hu':has ix u=false:=hu;rw[r3 ix u hj hu,Aq,hu'];rfl
 refine⟨r1,und,AC,λt v n cs e=>?_,λt v l p e=>?_⟩
 .have:=r1.get t
  rw[e]at this;generalize he:E2.get t=x at this;cases this with
  |same=>exact hm.xO t v n cs he
  |loc _ _ ng _ h1 _=>exact hm.xO t v n ng (he.trans h1)
 .have:=r1.get t
  rw[e]at this;generalize he:E2.get t=x at this;cases this with
  |same=>exact hm.zO t v l p he
end
def Lk (K:Env->M β) (r:Out β×St):Prop:=∀E s,K E s=some r->s.length<=r.2.length
theorem Zip {g:(Env->M β)->M β} (h:aak E ix J K g s=some r):
  Dq ix J=true/\g (λE1=>tn E E1 J λst=>tK E J st (E.del ix) K) s=some r:=by
 have⟨h1,h⟩:=Zt h;rw[Oi]at h;exact⟨h1,h⟩
theorem UD (h:tn E0 E1 J (λst=>tK E0 J st (E0.del ix) K) s=some r):
  ∃ds E',GJ E0 E1 J ds/\PJ E0 J ds (E0.del ix) E'/\K E' s=some r:=by
 have⟨ds,g,h⟩:=yh h;have⟨E',p,h⟩:=D2 h;grind
theorem Lk.Ln (h:Lk K r):Lk (λE1=>tn E0 E1 J λst=>tK E0 J st (E0.del ix) K) r:=by
 intro E1 s hs;have⟨_,E',_,_,hs⟩:=UD hs;exact h E' s hs
theorem Lk.block {kx:Nat->Env->M β} (h:Lk K r) (hx: ∀i,Lk (kx i) r): ∀i,Lk (λE1=>bif Nat.beq i id then K E1 else kx i E1) r:=by
 intro i E s hs;cases hb:Nat.beq i id with
 |true=>simp only[hb]at hs;exact h E s hs
 |false=>simp only[hb]at hs;exact hx i E s hs
section
variable {C:bE} {pr:al} {c:Zg} {n:Nat} {r:Out β×St}
theorem Jg (hC:pw C) (hc:ZW C c): ∀(code:Code) (A:qZ) (kn:Env->M β) (kx:Nat->Env->M β) (kr:Env->M β),Lk kn r->(∀i,Lk (kx i) r)->Lk kr r->Lk (exec C pr c n code A kn kx kr) r:=by
 intro code;induction code with
 |skip=>intro A kn kx kr hn hx hr E s h;exact hn E s h
 |region id ops d=>
  intro A kn kx kr hn hx hr E s h;simp only[exec]at h;rcases Ztn hC hc h with⟨E',s',hl,hk,_,_⟩|⟨s',e,hl,_⟩
  .exact hU hl (hn E' s' hk)
  .rw[e];exact hl
 |seq a b Fp HM=>
  intro A kn kx kr hn hx hr E s h;simp only[exec]at h;exact Fp A.a _ kx kr Fd hx hr E s h
 |cond x a b Fp HM=>
  intro A kn kx kr hn hx hr E s h;simp only[exec]at h;have⟨v,_,h⟩:=UL h;have two: ∀ {A1 A2:qZ} {kn:Env->M β},Lk kn r->(bif v then exec C pr c n a A1 kn kx kr E else exec C pr c n b A2 kn kx kr E) s=some r->s.length<=r.2.length:=by
   intro A1 A2 kn hn h;cases v with
   |true=>exact Fp A1 kn kx kr hn hx hr E s h
   |false=>exact HM A2 kn kx kr hn hx hr E s h
  cases A with
  |j J A1 A2=>exact two (Lk.Ln hn) (Zip h).2
  |z=>exact two hn h
  |n A1 A2=>exact two hn h
 |block id body ih=>
  intro A kn kx kr hn hx hr E s h;simp only[exec]at h;cases A with
  |j J A1 A2=>exact ih A1 _ _ kr (Lk.Ln hn) (Lk.block (Lk.Ln hn) hx) hr E s (Zip h).2
  |z=>exact ih _ _ _ kr hn (Lk.block hn hx) hr E s h
  |n A1 A2=>exact ih _ _ _ kr hn (Lk.block hn hx) hr E s h
 |loop body ih=>
  intro A kn kx kr hn hx hr E s h;simp only[exec]at h;cases A with
  |j J A1 A2=>
   have⟨hj,h⟩:=Zt h;have⟨st,_,h⟩:=yh h;have key: ∀(k:Nat) (st:ah) (s:St),cY (λrec st=>tK E J st (E.del (mP pr body)) λE1=>exec C pr c n body A1 (λE2=>tn E E2 J rec) kx kr E1) k st s=some r->s.length<=r.2.length:=by
    intro k;induction k with
    |zero=>intro st s h;cases h
    |succ k ihk=>
     intro st s h;simp only[cY]at h;have⟨E',_,h⟩:=D2 h;refine ih A1 _ kx kr (λE2 s2 h2=>?_) hx hr E' s h;have⟨gF,_,h2⟩:=yh h2;exact ihk gF s2 h2
   exact key n st s h
  |z=>cases h
  |n A1 A2=>cases h
 |exit id=>intro A kn kx kr hn hx hr E s h;exact hx id E s h
 |ret=>intro A kn kx kr hn hx hr E s h;exact hr E s h
 |_=>intros;intro E s h;cases h
theorem ZoF (l l':al) (u:Nat):has (l++l') u=(has l u||has l' u):=by
 induction l with
 |nil=>rfl
 |cons x l ih=>simp[od,has,ih,Bool.or_assoc]
theorem Un.left {l:al} (h:Un (l++l') u):Un l u:=by
 have h':has (l++l') u=false:=h;rw[ZoF,BB]at h';exact h'.1
theorem Un.right {l:al} (h:Un (l++l') u):Un l' u:=by
 have h':has (l++l') u=false:=h;rw[ZoF,BB]at h';exact h'.2
theorem Mod.un {un:Nat->Prop} (h:Mod un E E') (k: ∀u,LU u->un u):Mod LU E E':=⟨λu hu=>h.get u (k u hu),h.bW,h.xO,h.zO⟩
variable {f:Fr}
theorem Rel.eval {ψ:Ps} {E:Env} {s:St} {a:Act} {w:World} (R:Rel C f ψ E s a w) (x:Operand):fV C ψ (E.src C x) (a.eval x):=by
 have p:aA C ⟨none,.move x,0, "", #[],none⟩ (λ_=>True) E s ψ (CR E s) a w:=R.pre;exact p.src (by simp[Op.operands])
theorem Wf (hC:pw C) (hc:ZW C c) (C2:C.P.follows .mixedOrders=true) (hN:r.2.length<=f.N): ∀(code:Code) (A:qZ) (kn:Env->M β) (kx:Nat->Env->M β) (kr:Env->M β),zD f.ok code=true->Lk kn r->(∀i,Lk (kx i) r)->Lk kr r->
  ∀(E:Env) (s:St),exec C pr c n code A kn kx kr E s=some r->∀(ψ:Ps) (a:Act) (w:World) (QQ:Exit->Act->World->Prop),Rel C f ψ E s a w->
  (∀E' s' ψ' a' w',kn E' s'=some r->Rel C f ψ' E' s' a' w'->Mod (Un (mP pr code)) E E'->QQ .normal a' w')->
  (∀i E' s' ψ' a' w',kx i E' s'=some r->Rel C f ψ' E' s' a' w'->Mod (Un (mP pr code)) E E'->QQ (.exit i) a' w')->
  (∀E' s' ψ' a' w',kr E' s'=some r->Rel C f ψ' E' s' a' w'->QQ .ret a' w')->
  (∀ch a' w' s',r=(.fy,s')->pz ch->sM C f s' a' w'->QQ (.panic ch) a' w')->code.wp C.P QQ a w:=by
 intro code;induction code with
 |skip=>intro A kn kx kr ho hn hx hr E s h ψ a w QQ R qn qx qr qp;exact wp_skip (qn E s ψ a w h R (.refl _ _))
 |region id ops d=>
  intro A kn kx kr ho hn hx hr E s h ψ a w QQ R qn qx qr qp;simp only[exec]at h;rcases Ztn hC hc h with⟨E',s',hl,hk,hm,hw⟩|⟨s',e,hl,hw⟩
  .exact hw QQ id R C2 ho (hU (hn E' s' hk) hN) λψ' a' w' R'=>qn E' s' ψ' a' w' hk R' hm
  .exact hw QQ id R C2 ho (by rw[e]at hN;exact hN) λch a' w' hv hp=>qp ch a' w' s' e hv hp
 |seq a b Fp HM=>
  intro A kn kx kr ho hn hx hr E s h ψ ac w QQ R qn qx qr qp;simp only[zD,aY]at ho;simp only[exec]at h;refine wp_seq (Fp A.a _ kx kr ho.1 (Jg hC hc b A.b kn kx kr hn hx hr) hx hr E s h ψ ac w _ R ?_ ?_ ?_ ?_)
  .intro E' s' ψ' a' w' h' R' m'
   refine HM A.b kn kx kr ho.2 hn hx hr E' s' h' ψ' a' w' QQ R' ?_ ?_ qr qp
   .intro E2 s2 kJ a2 w2 h2 R2 m2
    exact qn E2 s2 kJ a2 w2 h2 R2 (m'.trans m2 (λu hu=>Un.left hu) λu hu=>Un.right hu)
   .intro i E2 s2 kJ a2 w2 h2 R2 m2
    exact qx i E2 s2 kJ a2 w2 h2 R2 (m'.trans m2 (λu hu=>Un.left hu) λu hu=>Un.right hu)
  .intro i E' s' ψ' a' w' h' R' m'
   exact qx i E' s' ψ' a' w' h' R' (m'.un λu hu=>Un.left hu)
  .exact qr
  .exact qp
 |cond x a b Fp HM=>
  intro A kn kx kr ho hn hx hr E s h ψ ac w QQ R qn qx qr qp;simp only[zD,aY]at ho;simp only[exec]at h;have⟨v,hv,h⟩:=UL h;have he:ac.eval x= .bool v:=by
   have:=R.eval x;rw[hv]at this;generalize ac.eval x=y at this;cases this;rfl
  have two: ∀ {A1 A2:qZ} {kn:Env->M β},Lk kn r->(bif v then exec C pr c n a A1 kn kx kr E else exec C pr c n b A2 kn kx kr E) s=some r->
    (∀E' s' ψ' a' w',kn E' s'=some r->Rel C f ψ' E' s' a' w'->Mod (Un (mP pr a++mP pr b)) E E'->QQ .normal a' w')->(if v then a else b).wp C.P QQ ac w:=by
   intro A1 A2 kn hn h qn;cases v with
   |true=>exact Fp A1 kn kx kr ho.1 hn hx hr E s h ψ ac w QQ R (λE' s' ψ' a' w' h' R' m'=>qn E' s' ψ' a' w' h' R' (m'.un λu hu=>Un.left hu)) (λi E' s' ψ' a' w' h' R' m'=>qx i E' s' ψ' a' w' h' R' (m'.un λu hu=>Un.left hu)) qr qp
   |false=>exact HM A2 kn kx kr ho.2 hn hx hr E s h ψ ac w QQ R (λE' s' ψ' a' w' h' R' m'=>qn E' s' ψ' a' w' h' R' (m'.un λu hu=>Un.right hu)) (λi E' s' ψ' a' w' h' R' m'=>qx i E' s' ψ' a' w' h' R' (m'.un λu hu=>Un.right hu)) qr qp
  refine wp_cond he ?_;cases A with
  |j J A1 A2=>
   have⟨hj,h⟩:=Zip h;refine two (Lk.Ln hn) h λE1 s1 iR a1 w1 h1 R1 m1=>?_
   have⟨ds,E',g,p,h1⟩:=UD h1;have⟨k,m⟩:=UH R.gX m1 g p hj;exact qn E' s1 _ a1 w1 h1 (R1.zP k) m
  |z=>exact two hn h qn
  |n A1 A2=>exact two hn h qn
 |block id body ih=>
  intro A kn kx kr ho hn hx hr E s h ψ ac w QQ R qn qx qr qp;simp only[exec]at h;have go: ∀ {A1:qZ} {kn:Env->M β},Lk kn r->exec C pr c n body A1 kn (λi E1=>bif Nat.beq i id then kn E1 else kx i E1) kr E s=some r->
    (∀E' s' ψ' a' w',kn E' s'=some r->Rel C f ψ' E' s' a' w'->Mod (Un (mP pr body)) E E'->QQ .normal a' w')->(Code.block id body).wp C.P QQ ac w:=by
   intro A1 kn hn h qn;refine wp_block (ih A1 kn _ kr ho hn (Lk.block hn hx) hr E s h ψ ac w _ R qn ?_ qr qp);intro i E' s' ψ' a' w' h' R' m';rw[Exit.inBlock];cases hb:Nat.beq i id with
   |true=>
    rw[hb]at h';rw[bG (dP hb)];exact qn E' s' ψ' a' w' h' R' m'
   |false=>
    rw[hb]at h';rw[bq (Mg hb)];exact qx i E' s' ψ' a' w' h' R' m'
  cases A with
  |j J A1 A2=>
   have⟨hj,h⟩:=Zip h;refine go (Lk.Ln hn) h λE1 s1 iR a1 w1 h1 R1 m1=>?_
   have⟨ds,E',g,p,h1⟩:=UD h1;have⟨k,m⟩:=UH R.gX m1 g p hj;exact qn E' s1 _ a1 w1 h1 (R1.zP k) m
  |z=>exact go hn h qn
  |n A1 A2=>exact go hn h qn
 |loop body ih=>
  intro A kn kx kr ho hn hx hr E s h ψ ac w QQ R qn qx qr qp;simp only[exec]at h;cases A with
  |j J A1 A2=>
   have⟨hj,h⟩:=Zt h;have⟨st,g0,h⟩:=yh h;have lk: ∀(k:Nat) (st:ah) (s:St),cY (λrec st=>tK E J st (E.del (mP pr body)) λE1=>exec C pr c n body A1 (λE2=>tn E E2 J rec) kx kr E1) k st s=some r->s.length<=r.2.length:=by
    intro k;induction k with
    |zero=>intro st s h;cases h
    |succ k ihk=>
     intro st s h;simp only[cY]at h;have⟨E',_,h⟩:=D2 h;refine Jg hC hc body A1 _ kx kr (λE2 s2 h2=>?_) hx hr E' s h;have⟨gF,_,h2⟩:=yh h2;exact ihk gF s2 h2
   refine wp_loop_ghost (λk a' w'=>∃E2 s2 kJ ds,GJ E E2 J ds/\Mod (Un (mP pr body)) E E2/\Rel C f kJ E2 s2 a' w'/\
    cY (λrec st=>tK E J st (E.del (mP pr body)) λE1=>exec C pr c n body A1 (λE2=>tn E E2 J rec) kx kr E1) k ds s2=some r) n ⟨E,s,ψ,st,g0,.refl _ _,R,h⟩ ?_
   rintro k a' w' ⟨E2,s2,kJ,ds,g,m,R2,h2⟩;cases k with
   |zero=>cases h2
   |succ k=>
    simp only[cY]at h2;have⟨E',p,h2⟩:=D2 h2;have⟨kw,m'⟩:=UH R.gX m g p hj;refine ih A1 _ kx kr ho (λE2 s2 h2=>?_) hx hr E' s2 h2 _ a' w' _ (R2.zP kw) ?_ ?_ qr qp
    .have⟨gF,_,h2⟩:=yh h2
     exact lk k gF s2 h2
    .intro E3 s3 LY a3 w3 h3 R3 m3
     have⟨ds3,g3,h3⟩:=yh h3;exact⟨k,Nat.lt_succ_self k,E3,s3,LY,ds3,g3,m'.trans m3 (λu hu=>hu) (λu hu=>hu),R3,h3⟩
    .intro i E3 s3 LY a3 w3 h3 R3 m3
     exact qx i E3 s3 LY a3 w3 h3 R3 (m'.trans m3 (λu hu=>hu) (λu hu=>hu))
  |z=>cases h
  |n A1 A2=>cases h
 |exit id=>intro A kn kx kr ho hn hx hr E s h ψ a w QQ R qn qx qr qp;exact wp_exit (qx id E s ψ a w h R (.refl _ _))
 |ret=>intro A kn kx kr ho hn hx hr E s h ψ a w QQ R qn qx qr qp;exact wp_ret (qr E s ψ a w h R)
 |_=>intro A kn kx kr ho hn hx hr E s h;cases h
end
theorem Nf: ∀(k:Nat) (ds:ah) (t:Nat),look (kD k ds) t=if k<=t then(match ds[t-k]? with|some d=> .v d|none=> .u)else .u
 |k,[],t=>by simp[kD,look]
 |k,d::ds,t=>by
  rw[kD,Je,Nf (k+1) ds t];by_cases h:k=t
  .subst h;simp
  grind
section
variable {C:bE} {f:Fr} {ψ:Ps} {E:Env} {s:St} {a:Act} {w:World} {r:Out β×St}
def N5 (tmps:Array Value):ResultVar->Sem Value
 | .tmp t=>pure (tmps.getD t undef)
 | .cell a t=>do loadVar t (<-asAddr (tmps.getD a undef))
theorem Ji {g:ResultVar->Sem Value} {x:ResultVar} {l:List ResultVar} (h1:(g x).run P w= .ok v w) (h2:(l.mapM g).run P w= .ok vs w):((x::l).mapM g).run P w= .ok (v::vs) w:=by
 rw[List.mapM_cons];simp_all
theorem NI (R:Rel C f ψ E s a w): ∀ {l:List ResultVar} {K:ah->M β} ,wu C E l K s=some r->∃ds vs,K ds s=some r/\bH C ψ ds vs/\(l.mapM (N5 a.tmps)).run C.P w= .ok vs w
 |[],K,h=>⟨[],[],h,.nil,Do⟩
 | .tmp t::l,K,h=>by
  simp only[wu]at h;have⟨d,hd,h⟩:=Zw h;have⟨ds,vs,hk,hr,ec⟩:=NI R h;have hv:=R.eval (.tmp t);rw[hd]at hv;exact⟨_,_,hk,.cons _ _ _ _ hv hr,Ji rfl ec⟩
 | .cell x t::l,K,h=>by
  simp only[wu]at h;cases hx:E.get x with
  |loc v n cs=>
   rw[hx]at h;simp only at h;have⟨td,ht,h⟩:=qu h;have acS:=R.kq x;rw[hx]at acS;have⟨cb,e1,e2,e3⟩:=acS;have hh:=R.fh.holds (.inr v) cb _ e1 (.inl ⟨x,n,cs,hx,rfl⟩);have hlen:=R.gX.len x v n cs hx;cases cC:jv C.P t with
   |true=>
    rw[cC]at h;simp only[ae]at h;have⟨hn,h⟩:=Zt h;have hn:=dP hn;have⟨ds,vs,hk,hr,ec⟩:=NI R h;have⟨vc,hv,_,mh,h1⟩:=MN (P:=C.P) hh (p:=0) (n:=C.P.cellsOf t);rw[e2,eJ]at hv;rw[dE,dF AC]at mh h1;refine⟨_,_,hk,.cons _ _ _ _ (.agg cs vc mh h1) hr,Ji ?_ ec⟩;have:=MC ht cC ⟨cb.b,0,none⟩ w hv;show(do loadVar t (<-asAddr (a.tmps.getD x undef)):Sem Value).run C.P w=_;rw[e3,asAddr,Sem.run_bind,Sem.run_pure,Result.andThen_ok];exact this
   |false=>
    rw[cC]at h;simp only[af]at h;have⟨d,hd,h⟩:=NQ h;have⟨ds,vs,hk,hr,ec⟩:=NI R h;have⟨y,hv,mh,_⟩:=Nj (P:=C.P) hh hd;rw[e2,eJ]at hv;refine⟨_,_,hk,.cons _ _ _ _ mh hr,Ji ?_ ec⟩;have:=IA ht cC ⟨cb.b,0,none⟩ w hv;show(do loadVar t (<-asAddr (a.tmps.getD x undef)):Sem Value).run C.P w=_;rw[e3,asAddr,Sem.run_bind,Sem.run_pure,Result.andThen_ok];exact this
  |_=>rw[hx]at h;cases h
theorem ZnD {fn:Func} {tmps:Array Value} (h:(fn.results.toList.mapM (N5 tmps)).run P w= .ok vs w):
  (results fn tmps).run P w= .ok (if h:vs.length=1 then vs[0]else .tuple vs.toArray) w:=by
 have e:results fn tmps=(fn.results.mapM (N5 tmps)>>= λvs=>pure (if h:vs.size=1 then vs[0]else .tuple vs)):=by
  rfl
 rw[e,Array.mapM_eq_mapM_toList];simp[h]
theorem ZyC (b:Nat) (s:St) (i:Nat):dD (Z2 b s) i=if i<b then dD s i else(dD s i).map λab=>match ab with| .cells _ cs=> .cells true cs|x=>x:=by
 unfold dD Z2;by_cases h:i<b
 .rw[bG h]
  by_cases h2:i<s.length
  .rw[mn (by simp;omega),xR,bG h]
  grind
 .rw[bq h]
  by_cases h3:b<=s.length
  .rw[kL (by simp;omega),sC,BG]
   rw[cR,og h3,show b+(i-b)=i by omega];cases hs:s[i]? with
   |none=>rfl
   |some x=>cases x<;>rfl
  grind
theorem ZoE (b:Nat) (s:St):(Z2 b s).length=s.length:=by
 grind[Z2]
theorem jT.dU (b:Nat) (h:jT C iQ s0 w0 ψ' s w):jT C iQ s0 w0 ψ' (Z2 b s) w:=by
 have key: ∀h ab,CS (Z2 b s) h ab->∃df,CS s h df/\(ab.hJ=true->df.hJ=true)/\∀(C:bE) ψ w cb,Holds C ψ w cb df->Holds C ψ w cb ab:=by
  rintro h ab ⟨i,rfl,e⟩;rw[ZyC]at e;split at e
  .exact⟨ab,⟨i,rfl,e⟩,λh=>h,λ_ _ _ _ h=>h⟩
  .cases hs:dD s i with
   |none=>rw[hs]at e;cases e
   |some x=>
    rw[hs]at e;cases x with
    |cells fz cs=>
     simp only[ny,fZ]at e;subst e;exact⟨_,⟨i,rfl,hs⟩,(λh=>by cases h),λC ψ w cb h=>⟨h.1,h.2.1,h.2.2.1,(λh=>by cases h)⟩⟩
    |iter l p=>
     simp only[ny,fZ]at e;subst e;exact⟨_,⟨i,rfl,hs⟩,λh=>h,λ_ _ _ _ h=>h⟩
 refine⟨h.fh.cast λk cb ab e q=>?_,h.ext.cast h.ext.mono (λ_ _ e=>e) λk cb ab _ q=>?_,λk cb e=>?_⟩
 .grind
 .grind
 .rw[ZoE];exact h.news k cb e
def NZ (C:bE) (vI:FuncId) (args:ah) (s:St) (out:Out ah×St):Prop:=
 s.length<=out.2.length/\∀ψ w vs,fC C ψ (CS s) w->sF ψ w->Glob C ψ->bH C ψ args vs->(∀v,ψ (.inr v)=none)->(∀i,s.length<=i->i<out.2.length->ψ (.inl i)=none)->
   As C.P vI vs.toArray w λ
    | .returned v,w'=>∃ds,out.1= .val ds/\∃ψ',jT C ψ s w ψ' out.2 w'/\BN C ψ' ds v
    | .panicked ch,w'=>pz ch/\out.1= .fy/\∃ψ',jT C ψ s w ψ' out.2 w'
    | .outgrown,_=>False
structure Ik (C:bE):Prop where
 cfg:pw C
 OF:C.P.follows .mixedOrders=true
theorem Zzy (hF:Ik C) (hc:ZW C c) {fn:Func} (hfn:C.P.funcs[vI]? =some fn) (sa:(fn.name== "runtime.NumGoroutine")=false) {out:Out ah×St} (h:vE C A fn c n args s=some out):NZ C vI args s out:=by
 unfold vE at h;cases hb:fn.body with
 |none=>rw[hb]at h;cases h
 |some code=>
  rw[hb]at h;simp only at h;have⟨eL,h⟩:=Zt h;rw[aY]at eL;have⟨eL,cL⟩:=eL;have cL:=qY cL;have⟨ds,h,nn,nN,uF⟩:=IV h;have main: ∀(kr:Env->M ah) (fz:St->St),(∀s,(fz s).length=s.length)->(∀iQ s0 w0 ψ' s w,jT C iQ s0 w0 ψ' s w->jT C iQ s0 w0 ψ' (fz s) w)->
    (∀E s' r,kr E s'=some r->wu C E fn.results.toList (λds s=>some (.val ds,fz s)) s'=some r)->
    exec C A.pr c n code A.JP kr (λ_ _=>fail) kr ⟨0,kD 0 ds⟩ s=some out->NZ C vI args s out:=by
   intro kr fz eE tz Kw h;have alM: ∀ {E:Env} {s':St} {r:Out ah×St},kr E s'=some r->∃ds,r=(.val ds,fz s'):=by
    intro E s' r h';have h':=Kw E s' r h';generalize fn.results.toList=l at h';have: ∀(l:List ResultVar) (K:ah->M ah),wu C E l K s'=some r->∃ds,K ds s'=some r:=by
     intro l;induction l with
     |nil=>exact λK h=>⟨[],h⟩
     |cons x l ih=>
      intro K h;cases x with
      |tmp t=>
       simp only[wu]at h;have⟨d,_,h⟩:=Zw h;grind
      |cell x t=>
       simp only[wu]at h;cases hx:E.get x with
       |loc v n cs=>
        rw[hx]at h;simp only at h;have⟨td,_,h⟩:=qu h;cases cC:jv C.P t with
        |true=>
         rw[cC]at h;have⟨_,h⟩:=Zt h;grind
        |false=>
         rw[cC]at h;have⟨d,_,h⟩:=NQ h;grind
       |_=>rw[hx]at h;cases h
    grind
   have lk:Lk kr out:=λE s' h'=>by
    grind
   refine⟨Jg hF.cfg hc code A.JP kr _ kr lk (λi E s h=>by cases h) lk _ s h,λψ w vs Bh Kf EM kS C5 Lc=>?_⟩;have oL:=uF C ψ vs kS;have Df:=oL.len;unfold As;have uE:(callFunc vI vs.toArray).run C.P w= .ok (.enter vI vs.toArray) w:=by
    have xl: ¬fn.name= "runtime.NumGoroutine" :=by simpa using sa
    simp[callFunc,hfn,xl,hb]
   rw[uE];refine calls_of_wp hfn hb ?_
   let f:Fr:=⟨out.2.length,fn.ntmps,ψ,s,w,tI fn.ntmps,λx h=>by unfold tI at h;rw[qX]at h;exact h,λt=>(vs.toArray++Array.replicate (fn.ntmps-vs.toArray.size) Go.undef).getD t Go.undef,[]⟩
   have w5: ∀t,(⟨0,kD 0 ds⟩:Env).get t=match ds[t]? with|some d=> .v d|none=> .u:=by
    intro t;have:=Nf 0 ds t;simp only[cB,mV,BL]at this;exact this
   have Fv: ∀t v,((⟨0,kD 0 ds⟩:Env).get t).dr≠some v:=by
    intro t v;rw[w5];cases ds[t]? <;>simp[eZ.dr]
   have CE: ∀h ab,CR ⟨0,kD 0 ds⟩ s h ab->CS s h ab:=by
    intro h ab c;cases h with
    |inl i=>exact⟨i,rfl,c⟩
    |inr v=>
     rcases c with⟨t,n,cs,e,_⟩|⟨t,l,p,e,_⟩
     .grind
     grind
   have R:Rel C f ψ ⟨0,kD 0 ds⟩ s { tmps:=vs.toArray++Array.replicate (fn.ntmps-vs.toArray.size) Go.undef,defers:=[] } w:=by
    refine⟨Bh.weaken λ_ _ _ _ c=>CE _ _ c,⟨Fd,λt r v o e=>?_,Fd,Fd⟩,Kf,EM,λt=>?_,?_,rfl,Lc,λv _=>C5 v,(Ext.refl ψ (CS s) w).weaken λ_ _ _ _ c=>CE _ _ c,λi cb e=> .inl e,aM _,C5⟩
    .rw[w5]at e
     cases hd:ds[t]? <;>rw[hd]at e<;>cases e
    .rw[w5]
     cases hd:ds[t]? with
     |none=>trivial
     |some d=>
      have⟨v,hv,hr⟩:=oL.get hd;have:(vs.toArray++Array.replicate (fn.ntmps-vs.toArray.size) Go.undef).getD t Go.undef=v:=by
       have aw:=(eB.1 hv).1;rw[sB,QD (by simpa using aw)];simp[hv]
      show fV C ψ (.v d) _;rw[this];exact hr
    .refine⟨?_,λ_ _=>rfl⟩
     grind
   have done: ∀E' s' ψ' a' w',kr E' s'=some out->Rel C f ψ' E' s' a' w'->a'.defers=[]/\∃v,(results fn a'.tmps).run C.P w'= .ok v w'/\∃ds,out.1= .val ds/\∃ψ',jT C ψ s w ψ' out.2 w'/\BN C ψ' ds v:=by
    intro E' s' ψ' a' w' h' R';have⟨mD,jm,hk,hr,ec⟩:=NI R' (Kw E' s' out h');simp only[fZ]at hk;refine⟨R'.defs,_,ZnD ec,mD,by rw[<-hk],nQ ψ',?_,?_⟩
    .rw[<-hk];exact tz _ _ _ _ _ _ R'.AJ
    .have kZ:bH C (nQ ψ') mD jm:=ZtK hr
     by_cases h1:jm.length=1
     .rw[dif_pos h1]
      cases kZ with
      |nil=>cases h1
      |cons d v ds vs a b=>
       cases b with
       |nil=>exact .inl ⟨d,rfl,a⟩
       |cons _ _ _ _ _ _=>simp at h1
     .rw[dif_neg h1]
      exact .inr ⟨by rw[kZ.len];exact h1,_,rfl,kZ⟩
   refine Wf hF.cfg hc hF.OF (f:=f) (aM _) code A.JP kr _ kr eL lk (λi E s h=>by cases h) lk _ s h ψ _ w _ R ?_ ?_ ?_ ?_
   .intro E' s' ψ' a' w' h' R' _;exact done E' s' ψ' a' w' h' R'
   .intro i E' s' ψ' a' w' h' _ _;cases h'
   .intro E' s' ψ' a' w' h' R';exact done E' s' ψ' a' w' h' R'
   .intro ch a' w' s' e hv hp
    refine⟨hp.defs,hv,by rw[e],?_⟩;have⟨ψ',fX⟩:=hp.post;grind
  cases hz:A.dU with
  |true=>
   rw[hz]at h;simp only[ae,gB]at h;exact main _ (Z2 s.length) (ZoE _) (λ_ _ _ _ _ _ h=>h.dU _) (λE s' r h=>h) h
  |false=>
   rw[hz]at h;simp only[af]at h;exact main _ id (λ_=>rfl) (λ_ _ _ _ _ _ h=>h) (λE s' r h=>h) h
end
def vb (C:bE) (b:Zg->Nat->ah->M ah) (f:FuncId):Prop:=
 ∀c n args s out,ZW C c->b c n args s=some out->NZ C f args s out
theorem vb.adn (hF:Ik C) {fn:Func} {b:Zg->Nat->ah->M ah} (hfn:C.P.funcs[f]? =some fn) (sa:(fn.name== "runtime.NumGoroutine")=false) (ht:vE C A fn=b):vb C b f:=
 λc n args s out hc h=>Zzy hF hc hfn sa (by rw[ht];exact h)
theorem Oa {C:bE} {Bd:Zh} (hB: ∀f,C.cov f=true->vb C (Bd (C.fn f)) f) (cD: ∀g,(∀f,C.cov f=true->C.fn f≠g)->∀c n args s,Bd g c n args s=none): ∀n,ZW C (run Bd n)
 |0=>λg args s out h=>by cases h
 |n+1=>λg args s out h=>by
  by_cases e: ∃f,C.cov f=true/\C.fn f=g
  .obtain⟨f,h1,rfl⟩:=e
   refine⟨(hB f h1 _ _ _ _ _ (Oa hB cD n) h).1,λf' h2 h3=>?_⟩;have h':Bd (C.fn f') (run Bd n) n args s=some out:=by rw[h3];exact h
   exact(hB f' h2 _ _ _ _ _ (Oa hB cD n) h').2
  .have:=cD g (λf h1 h2=>e ⟨f,h1,h2⟩) (run Bd n) n args s
   have h':Bd g (run Bd n) n args s=some out:=h;rw[this]at h';cases h'
end Go.Gv
namespace Go.Gv
def Dl:List (Nat×Nat)->Nat->Nat
 |[],_=>0
 |(k,v)::r,x=>bif Nat.beq k x then v else Dl r x
def Qt (l:List (Nat×Nat)) (t:Nat):Nat:=bif has (l.map (·.1)) t then Dl l t else t+1000
abbrev Body:=Zg->Nat->ah->M ah
def Dk:List (Nat×Body)->Nat->Option Body
 |[],_=>none
 |(k,b)::r,g=>bif Nat.beq k g then some b else Dk r g
def bdOf (l:List (Nat×Body)):Zh:=λg=>match Dk l g with|some b=>b|none=>λ_ _ _ _=>none
theorem WH: ∀ {l:List (Nat×Body)} {g:Nat} {b:Body},Dk l g=some b->g∈l.map (·.1)
 |[],_,_,h=>by cases h
 |(k,x)::r,g,b,h=>by
  simp only[Dk]at h;cases hk:Nat.beq k g with
  |true=>simp_all
  |false=>rw[hk]at h;simp only[af]at h;exact xT _ (WH h)
variable {next:Act->World->Prop} {eA rA:Array Edge} {ops:Array Oper} {vs:Array Value} {AO gb:Code} {Q:Exit->Act->List Frame->World->Prop} {QQ:Exit->Act->World->Prop} {f g vI:FuncId} {n:Int} {k:IntKind} {cs cs':List Frame} {N fi i id p t3 t4 td:Nat} {o o0 o1 o2 o3 o4 o5 o6 o7:Oper} {P:Program} {s s3:St} {eP rP:String} {e eT rT t ty yH:TypeId} {v:Value} {args ds ds0:ah} {cov rest:al} {C:bE}
theorem ZAF (h:P.underlying P.rt.typeAssertionError=some (.pointer e)) (hs:(P.underlying e).isSome=true): ∃e d,P.underlying P.rt.typeAssertionError=some (.pointer e)/\P.underlying e=some d:=
 ⟨e,_,h,(Option.some_get hs).symm⟩
theorem ZAh (xd:C.cov=has cov) {l:List (Nat×Body)} (hk:l.map (·.1)=cov.map C.fn) (hB: ∀f∈cov,vb C (bdOf l (C.fn f)) f): ∀n,ZW C (run (bdOf l) n):=by
 refine Oa (λf hf=>hB f (by rw[xd]at hf;exact(Jx cov f).1 hf)) λg hg c n args s=>?_
 unfold bdOf;cases hb:Dk l g with
 |none=>rfl
 |some b=>
  have:=WH hb;rw[hk]at this;obtain⟨f,hf,rfl⟩:=oW.1 this;exact absurd rfl (hg f (by rw[xd];exact(Jx cov f).2 hf))
def ado (l:List (Nat×Nat)):Bool:=decide ((l.map (·.2)).Nodup)&&l.all λx=>Nat.blt x.2 1000
theorem NT: ∀ {l:List (Nat×Nat)} {t:Nat},has (l.map (·.1)) t=true->(t,Dl l t)∈l
 |[],t,h=>by cases h
 |(k,v)::r,t,h=>by
  simp only[oe,has,mm]at h;cases hk:Nat.beq k t with
  |true=>
   have:=dP hk;grind[Dl]
  |false=>
   rw[Dl,hk,af];exact xT _ (NT Fd)
theorem ZzY {l:List (Nat×Nat)} (h:ado l=true) (t t':Nat) (e:Qt l t=Qt l t'):t=t':=by
 unfold ado at h;rw[aY,z8,wF]at h;have⟨h1,h2⟩:=h;have lt: ∀ {t},has (l.map (·.1)) t=true->Dl l t<1000:=λ{t} ht=>by
  have:=h2 _ (NT ht);rwa [qX]at this
 unfold Qt at e;cases ht:has (l.map (·.1)) t with
 |true=>
  have m:=NT ht;cases xu:has (l.map (·.1)) t' with
  |true=>
   have m':=NT xu;rw[ht,xu]at e;simp only[ae]at e;rw[e]at m;have inj: ∀ {l:List (Nat×Nat)},(l.map (·.2)).Nodup->∀ {a b c:Nat},(a,c)∈l->(b,c)∈l->a=b:=by
    intro l;induction l with
    |nil=>simp
    |cons x r ih=>
     grind
   exact inj h1 m m'
  |false=>rw[ht,xu]at e;grind
 |false=>
  grind
variable {β:Type}
variable {Kk:Env->M β}
section
variable {C:bE} {f:Fr} {ψ:Ps} {E:Env} {s:St} {a:Act} {w:World} {c:Zg} {o:Oper} {K:Env->M β} {r:Out β×St}
theorem rC (hC:pw C) (hc:ZW C c) (o:Oper) (h:Lk K r):Lk (λE=>fP C [] [] .s c o E K) r:=by
 intro E s h';rcases Wp hC hc (ops:=[]) (.inl rfl) h' with⟨E',s',hk,hF,_⟩|⟨_,s',rfl,hp⟩
 .exact hU hF.len (h E' s' hk)
 .exact hp.1
theorem NX (hC:pw C) (hc:ZW C c) (h:fP C [] [] .s c o E K s=some r) (hl:Lk K r) (hN:r.2.length<=f.N) (hd: ∀x,o.dst=some x->f.ok x=true):
  (∃E' s',K E' s'=some r/\s.length<=s'.length/\∀(ψ:Ps) (a:Act) (w:World) (QQ:Exit->Act->World->Prop) (next:Act->World->Prop),Rel C f ψ E s a w->
    (∀ψ' v w',Rel C f ψ' E' s' (a.put o.dst v) w'->(∀h cb,ψ h=some cb->ψ' h=some cb)->next (a.put o.dst v) w')->o.wp C.P a w next QQ)\/
  (∃s',r=(.fy,s')/\∀(ψ:Ps) (a:Act) (w:World) (QQ:Exit->Act->World->Prop) (next:Act->World->Prop),Rel C f ψ E s a w->(∀ch a' w',pz ch->sM C f s' a' w'->QQ (.panic ch) a' w')->o.wp C.P a w next QQ):=by
 rcases Wp hC hc (ops:=[]) (.inl rfl) h with⟨E',s',hk,hF,hO⟩|⟨_,s',rfl,hp⟩
 .refine .inl ⟨E',s',hk,hF.len,λψ a w QQ next R hn=>?_⟩
  exact hO ψ (CR E s) a w next QQ R.pre (R.room (hU (hl E' s' hk) hN)) λψ' Q' v w' hP he=>hn ψ' v w' (R.step hF hP he hd) hP.ext.mono
 .exact .inr ⟨s',rfl,λψ a w QQ next R hn=>R.adr hN hp hn⟩
theorem sM.akF {d:Option Nat} (hd: ∀x,d=some x->f.ok x=true) (h:sM C f s (a.put d v) w):sM C f s a w:=by
 refine⟨by rw[<-M1 a d v];exact h.defs,⟨by rw[<-SZ a d v];exact h.ks.1,λt ht=>?_⟩,h.post⟩;have:=h.ks.2 t ht;rw[Js (λx hx=>by rw[<-SZ a d v,h.ks.1];exact f.LB x (hd x hx)),bq (λe=>by rw[hd t e]at ht;cases ht)]at this;exact this
def ac6:Sh->Bool
 | .b _=>true
 |_=>false
def PT:Op->Bool
 | .move (.tmp _)=>true
 |_=>false
def okY (ops:Array Oper):Bool:=
 let l (n:Nat):Array Bool:=(([0,2,3,4,5,1,6,7].take n).foldl (λl i=>l.setIfInBounds i true) (Array.replicate 8 false))
 let fst (n i:Nat):Bool:=Region.free .any ops (l n) i&&(Region.ready .any ops (l n)).contains i
 Region.noSelect ops&&fst 0 0&&fst 1 2&&fst 2 3&&fst 3 4&&fst 4 5&&(Region.ready .any ops (l 5)==[1])&&(Region.ready .any ops (l 6)==[6])&&(Region.ready .any ops (l 7)==[7])&&(Region.ready .any ops (l 8)).isEmpty
def J5:List Oper->Option (Oper×Oper×Oper×Oper×Oper×Oper×Oper×Oper)
 |[o0,o1,o2,o3,o4,o5,o6,o7]=>some (o0,o1,o2,o3,o4,o5,o6,o7)
 |_=>none
theorem Zw9 {l:List Oper} (h:J5 l=some (o0,o1,o2,o3,o4,o5,o6,o7)):l=[o0,o1,o2,o3,o4,o5,o6,o7]:=by
 unfold J5 at h;grind
noncomputable def LK (C:bE) (c:Zg) (ops:Array Oper) (E:Env) (K:Env->M β):M β:=
 match J5 ops.toList with
 |some (o0,o1,o2,o3,o4,o5,o6,o7)=>
  bif okY ops&&PT o0.op&&PT o2.op&&(o0.guard.isNone&&o1.guard.isNone&&o2.guard.isNone&&o3.guard.isNone&&o4.guard.isNone&&o5.guard.isNone&&o6.guard.isNone&&o7.guard.isNone)then
   match o3.op,o4.op,o5.op with
   | .nilCheck x3,.fieldAddr _ x4 _,.load ty x5=>aB (ac6 (nv C.P ty))<|
    fP C [] [] .s c o0 E λE0=>fP C [] [] .s c o2 E0 λE2=>Br C E2 x3 λ_ _=>fP C [] [] .s c o3 E2 λE3=>Br C E3 x4 λ_ _=>fP C [] [] .s c o4 E3 λE4=>Br C E4 x5 λi p=>yD i p λk n=>fP C [] [] .s c o5 E4 λE5=>
     fP C [] [] .s c o1 E5 λE1=>iE i p k n (fP C [] [] .s c o6 E1 λE6=>iE i p k n (fP C [] [] .s c o7 E6 λE7=>iE i p k n (K E7)))
   |_,_,_=>fail
  else fail
 |none=>fail
theorem Nh {x:Operand} {K:Nat->Nat->M β} (h:Br C E x K s=some r): ∃i p,E.src C x= .v (.ptr (some (i,p)))/\K i p s=some r:=by
 unfold Br at h;cases he:E.src C x with
 |v d=>
  rw[he]at h;cases d with
  |ptr q=>
   cases q with
   |none=>cases h
   |some q=>grind
  |_=>cases h
 |_=>rw[he]at h;cases h
theorem Zpq {K:IntKind->Int->M β} (h:yD i p K s=some r): ∃k n,(∃fz cs,dD s i=some (.cells fz cs)/\cs[p]? =some (.int k n))/\K k n s=some r:=by
 unfold yD at h;have⟨fz,cs,d,cd,hd,h⟩:=ZoO h;cases d with
 |int k n=>grind
 |_=>cases h
theorem MZ {K:M β} (h:iE i p k n K s=some r):K s=some r/\∃fz cs,dD s i=some (.cells fz cs)/\cs[p]? =some (.int k n):=by
 unfold iE bD at h;cases hc:s.cells i with
 |none=>rw[hc]at h;cases h
 |some cs=>
  rw[hc]at h;simp only at h;cases hd:cs[p]? with
  |none=>rw[hd]at h;cases h
  |some d=>
   rw[hd]at h;have cd: ∃fz,dD s i=some (.cells fz cs):=by
    unfold St.cells at hc;split at hc
    .rename_i bk AW
     cases hc;simp[dD,AW]
    .cases hc
   have⟨fz,cd⟩:=cd;cases d with
   |int k' n'=>
    simp only at h;have⟨h0,hK⟩:=Zt h;simp only[aY,va]at h0;have h1:=JA h0.1;have h2:=h0.2;rw[<-h1,<-h2]at hd;grind
   |_=>cases h
theorem Rel.num (R:Rel C f ψ E s a w) {cb:CB} (e:ψ (.inl i)=some cb) (h: ∃fz cs,dD s i=some (.cells fz cs)/\cs[p]? =some (.int k n)):w.cell? ⟨cb.b,cb.o+p,none⟩=some (.int k n):=by
 have⟨fz,cs,h1,h2⟩:=h;have hh:=R.fh.holds (.inl i) cb _ e h1;have⟨v,hv,hr⟩:=hh.2.2.1 p _ h2;cases hr;exact hv
theorem Rel.ptr (R:Rel C f ψ E s a w) {x:Operand} {i p:Nat} (e:E.src C x= .v (.ptr (some (i,p)))): ∃cb:CB,ψ (.inl i)=some cb/\a.eval x= .pointer (some ⟨cb.b,cb.o+p,none⟩):=by
 have h:=R.eval x;rw[e]at h;have h:VR C ψ (.ptr (some (i,p))) (a.eval x):=h;generalize a.eval x=v at h;cases h with
 |ptr _ _ cb e=>exact⟨cb,e,rfl⟩
theorem Zsu {y:Operand} (ho:o.op= .fieldAddr t y fi) (h:fP C [] [] .s c o E Kk s=some r):
  ∃off,∀(a:Act) (w:World) b n,a.eval y= .pointer (some ⟨b,n,none⟩)->(execOp a.eval o).run C.P w= .ok (.value (.pointer (some ⟨b,n+off,none⟩))) w:=by
 unfold fP at h;rw[ho]at h;simp only at h;unfold MK at h;cases ht:C.P.underlying t with
 |none=>rw[ht]at h;cases h
 |some td=>
  rw[ht]at h;cases td with
  |struct fs=>
   simp only at h;cases hf:fs[fi]? with
   |none=>rw[hf]at h;cases h
   |some fd=>
    rw[hf]at h;simp only at h;have⟨hc,h⟩:=IE h;have hc:=Mg hc;have cL: ∀w,(sizeOf fd.type).run C.P w= .ok (C.P.cellsOf fd.type) w:=by
     intro w;unfold Program.cellsOf at hc⊢;cases hi:C.P.info? fd.type with
     |none=>rw[hi]at hc;simp at hc
     |some i=>simp[sizeOf,typeInfo,hi]
    refine⟨fd.offset,λa w b n hy=>?_⟩;simp[execOp,ho,hy,Instr.fieldAt,Zl w ht,hf,wK,fieldPlace,cL,hc,Cb]
  |_=>cases h
theorem Zyk {x:Operand} (ho:o.op= .load t x) (hs:ac6 (nv C.P t)=true) (h:fP C [] [] .s c o E Kk s=some r) (a:Act) (w:World) (A:Addr) (v:Value) (ha:a.eval x= .pointer (some A)) (hw:w.cell? A=some v):
  (execOp a.eval o).run C.P w= .ok (.value v) w:=by
 unfold fP at h;rw[ho]at h;simp only at h;unfold N6 at h;have⟨td,ht,h⟩:=qu h;cases iY:nv C.P t with
 |b y'=>simp only[execOp,ho,ha,Instr.loadAt,Sem.run_bind,wK,Result.andThen_ok,IA ht (W3 iY) _ w (by rw[run_load,hw]),Sem.run_pure]
 |agg l=>rw[iY]at hs;cases hs
theorem WM (hi:ops[i]? =some o) (hg:o.guard=none) (h:o.wp P a w next QQ):wpOp P ops QQ i next a w:=by
 unfold wpOp;simp only[hi];rw[bG (by simp[Region.wanted,hg])];exact .inl h
theorem ZwF (he:(execOp a.eval o).run P w= .ok (.value v) w) (h:o.wp P a w next QQ):next (a.put o.dst v) w:=by
 unfold Oper.wp at h;rw[he]at h;exact h
theorem GG {x:Operand} {K:Env->Nat->Nat->M β} (h: ∀i p,Lk (λE=>K E i p) r):Lk (λE=>Br C E x (K E)) r:=by
 intro E s h';have⟨i,p,_,h'⟩:=Nh h';exact h i p E s h'
theorem Zvn {K:Env->IntKind->Int->M β} (h: ∀k n,Lk (λE=>K E k n) r):Lk (λE=>yD i p (K E)) r:=by
 intro E s h';have⟨k,n,_,h'⟩:=Zpq h';exact h k n E s h'
theorem Gy {K:Env->M β} (h:Lk K r):Lk (λE=>iE i p k n (K E)) r:=by
 intro E s h';exact h E s (MZ h').1
theorem Zyd (hC:pw C) (hc:ZW C c) (eL:okO f.ok ops.toList=true) (h:LK C c ops E K s=some r) (hl:Lk K r) (C2:C.P.follows .mixedOrders=true) (hN:r.2.length<=f.N) (id:Nat) (R:Rel C f ψ E s a w) (QQ:Exit->Act->World->Prop)
  (qn: ∀E' s' ψ' a' w',K E' s'=some r->Rel C f ψ' E' s' a' w'->QQ .normal a' w') (qp: ∀ch a' w' s',r=(.fy,s')->pz ch->sM C f s' a' w'->QQ (.panic ch) a' w'):(Code.region id ops true).wp C.P QQ a w:=by
 unfold LK at h;cases di:J5 ops.toList with
 |none=>rw[di]at h;cases h
 |some q=>
 have⟨o0,o1,o2,o3,o4,o5,o6,o7⟩:=q;rw[di]at h;have y8:=Zw9 di;simp only at h;have⟨hb,h⟩:=Zt h;simp only[aY,Option.isNone_iff_eq_none]at hb;have⟨⟨⟨hy,Hs⟩,fE⟩,⟨⟨⟨⟨⟨⟨⟨g0,g1⟩,g2⟩,g3⟩,g4⟩,g5⟩,g6⟩,g7⟩⟩:=hb;have⟨x3,Qq,x4,OE,Qs,x5,h3,h4,h5⟩: ∃x3 Qq x4 OE Qs x5,o3.op= .nilCheck x3/\o4.op= .fieldAddr Qq x4 OE/\o5.op= .load Qs x5:=by
  cases h3:o3.op with
  |nilCheck x3=>
   cases h4:o4.op with
   |fieldAddr Qq x4 OE=>
    cases h5:o5.op with
    |load Qs x5=>grind
    |_=>rw[h3,h4,h5]at h;cases h
   |_=>rw[h3,h4]at h;cases h
  |_=>rw[h3]at h;cases h
 rw[h3,h4,h5]at h;simp only at h;have⟨Pr,h⟩:=mC h;have i0:ops[0]? =some o0:=by rw[<-lx,y8];rfl
 have i1:ops[1]? =some o1:=by rw[<-lx,y8];rfl
 have i2:ops[2]? =some o2:=by rw[<-lx,y8];rfl
 have i3:ops[3]? =some o3:=by rw[<-lx,y8];rfl
 have i4:ops[4]? =some o4:=by rw[<-lx,y8];rfl
 have i5:ops[5]? =some o5:=by rw[<-lx,y8];rfl
 have i6:ops[6]? =some o6:=by rw[<-lx,y8];rfl
 have i7:ops[7]? =some o7:=by rw[<-lx,y8];rfl
 have pU: ∀o∈ops.toList,∀x,o.dst=some x->f.ok x=true:=λo ho x hx=>GA eL o ho x hx
 rw[y8]at pU;have ajx:ops.size=8:=by rw[<-oU,y8];rfl
 have l7: ∀i p k n,Lk (λE7=>iE i p k n (K E7)) r:=λi p k n=>Gy hl
 have l6: ∀i p k n,Lk (λE6=>iE i p k n (fP C [] [] .s c o7 E6 λE7=>iE i p k n (K E7))) r:=λi p k n=>Gy (rC hC hc o7 (l7 i p k n))
 have l1: ∀i p k n,Lk (λE1=>iE i p k n (fP C [] [] .s c o6 E1 λE6=>iE i p k n (fP C [] [] .s c o7 E6 λE7=>iE i p k n (K E7)))) r:=λi p k n=>Gy (rC hC hc o6 (l6 i p k n))
 have l5: ∀i p k n,Lk (λE5=>fP C [] [] .s c o1 E5 λE1=>iE i p k n (fP C [] [] .s c o6 E1 λE6=>iE i p k n (fP C [] [] .s c o7 E6 λE7=>iE i p k n (K E7)))) r:=λi p k n=>rC hC hc o1 (l1 i p k n)
 have l4:=GG (C:=C) (x:=x5) (K:=λE4 i p=>yD i p λk n=>fP C [] [] .s c o5 E4 λE5=>fP C [] [] .s c o1 E5 λE1=>iE i p k n (fP C [] [] .s c o6 E1 λE6=>iE i p k n (fP C [] [] .s c o7 E6 λE7=>iE i p k n (K E7)))) (r:=r) (λi p=>Zvn (K:=λE4 k n=>fP C [] [] .s c o5 E4 λE5=>fP C [] [] .s c o1 E5 λE1=>iE i p k n (fP C [] [] .s c o6 E1 λE6=>iE i p k n (fP C [] [] .s c o7 E6 λE7=>iE i p k n (K E7)))) λk n=>rC hC hc o5 (l5 i p k n));have l3:=GG (C:=C) (x:=x4) (r:=r) (K:=λE3 _ _=>fP C [] [] .s c o4 E3 λE4=>Br C E4 x5 λi p=>yD i p λk n=>fP C [] [] .s c o5 E4 λE5=>fP C [] [] .s c o1 E5 λE1=>iE i p k n (fP C [] [] .s c o6 E1 λE6=>iE i p k n (fP C [] [] .s c o7 E6 λE7=>iE i p k n (K E7)))) (λ_ _=>rC hC hc o4 l4);have l2:=GG (C:=C) (x:=x3) (r:=r) (K:=λE2 _ _=>fP C [] [] .s c o3 E2 λE3=>Br C E3 x4 λ_ _=>fP C [] [] .s c o4 E3 λE4=>Br C E4 x5 λi p=>yD i p λk n=>fP C [] [] .s c o5 E4 λE5=>fP C [] [] .s c o1 E5 λE1=>iE i p k n (fP C [] [] .s c o6 E1 λE6=>iE i p k n (fP C [] [] .s c o7 E6 λE7=>iE i p k n (K E7)))) (λ_ _=>rC hC hc o3 l3);have l0:=rC hC hc o2 l2;simp only[okY,aY,va,List.isEmpty_iff]at hy;have⟨⟨⟨⟨⟨⟨⟨⟨⟨KN,f0,r0⟩,f1,r1⟩,f2,r2⟩,f3,r3⟩,f4,r4⟩,rd5⟩,rd6⟩,rd7⟩,rd8⟩:=hy;have R:=R.drew;generalize cM:({ w with drawn:=w.drawn+1 } :World)=w1 at R;have mv: ∀ {o:Oper},PT o.op=true->∀(a:Act),∃v,∀w',(execOp a.eval o).run C.P w'= .ok (.value v) w':=by
  intro o ho a;unfold PT at ho;split at ho
  .rename_i t e
   exact⟨a.eval (.tmp t),λw'=>by simp[execOp,e]⟩
  .cases ho
 have fst: ∀ {o:Oper} {E:Env} {s:St} {ψ:Ps} {a:Act} {K':Env->M β} {v:Value},o∈[o0,o1,o2,o3,o4,o5,o6,o7]->fP C [] [] .s c o E K' s=some r->Lk K' r->Rel C f ψ E s a w1->(execOp a.eval o).run C.P w1= .ok (.value v) w1->
   ∃E' s' ψ',K' E' s'=some r/\Rel C f ψ' E' s' (a.put o.dst v) w1/\∀h cb,ψ h=some cb->ψ' h=some cb:=by
  intro o E s ψ a K' v ho h hl R hv;rcases NX (f:=f) hC hc h hl hN (pU o ho)with⟨E',s',hk,_,q⟩|⟨s',_,q⟩
  .have⟨ψ',h1,h2⟩:=ZwF (next:=λa' w'=>∃ψ',Rel C f ψ' E' s' a' w'/\∀h cb,ψ h=some cb->ψ' h=some cb) hv (q ψ a w1 (λ_ _ _=>True) _ R λψ' v w' R' m=>⟨ψ',R',m⟩)
   exact⟨E',s',ψ',hk,h1,h2⟩
  .exact(ZwF (next:=λ_ _=>False) hv (q ψ a w1 (λ_ _ _=>True) _ R λ_ _ _ _ _=>trivial)).elim
 have⟨v0,y0⟩:=mv Hs a;have⟨E0,s0,iQ,h,R0,_⟩:=fst Do h l0 R (y0 w1);have⟨v2,y2⟩:=mv fE (a.put o0.dst v0);have⟨E2,s2,kJ,h,R2,_⟩:=fst Do h l2 R0 (y2 w1);have⟨b3,p3,Y9,h⟩:=Nh h;have⟨cb3,_,e3⟩:=R2.ptr Y9;have y3: ∀w',(execOp ((a.put o0.dst v0).put o2.dst v2).eval o3).run C.P w'= .ok (.value (.pointer (some ⟨cb3.b,cb3.o+p3,none⟩))) w':=λw'=>by simp[execOp,h3,e3]
 have⟨E3,s3,LY,h,R3,_⟩:=fst Do h l3 R2 (y3 w1);have⟨b4,p4,hx4,h⟩:=Nh h;have⟨cb4,_,e4⟩:=R3.ptr hx4;have⟨off,y4⟩:=Zsu h4 h;have y4:=λw'=>y4 _ w' _ _ e4
 have⟨E4,s4,ψ4,h,R4,_⟩:=fst Do h l4 R3 (y4 w1);have⟨i,p,hx5,h⟩:=Nh h;have⟨cb,vG,e5⟩:=R4.ptr hx5;have⟨k,n,mG,h⟩:=Zpq h;have y5:=λw' hw=>Zyk h5 Pr h _ w' _ (.int k n) e5 hw
 have hS:w1.cell? ⟨cb.b,cb.o+p,none⟩=some (.int k n):=R4.num vG mG;have⟨E5,s5,ψ5,h,R5,m5⟩:=fst Do h (l5 i p k n) R4 (y5 w1 hS);have vG:=m5 _ _ vG;refine wp_mono (Q:=λe a' w'=>match e with
  | .normal=>∃E' s' ψ',K E' s'=some r/\Rel C f ψ' E' s' a' w'
  | .panic ch=>pz ch/\∃s',r=(.fy,s')/\sM C f s' a' w'
  |_=>False) (wp_region_held (S:=λw'=>w'.cell? ⟨cb.b,cb.o+p,none⟩=some (.int k n)) C2 ?_) ?_
 rotate_left
 .intro e a' w' he
  cases e with
  |normal=>have⟨E',s',ψ',hk,R'⟩:=he;exact qn E' s' ψ' a' w' hk R'
  |panic ch=>have⟨hv,s',e,hp⟩:=he;exact qp ch a' w' s' e hv hp
  |_=>exact he.elim
 have wanted: ∀ {o:Oper} {y:Nat->Option Bool},o.guard=none->Region.wanted o y=true:=λhg=>by simp[Region.wanted,hg]
 have hQ: ∀ {o:Oper} {v:Value},o∈[o0,o1,o2,o3,o4,o5,o6,o7]->∀ch a' w',(pz ch/\∃s',r=(.fy,s')/\sM C f s' (a'.put o.dst v) w')->(pz ch/\∃s',r=(.fy,s')/\sM C f s' a' w'):=
  λho ch a' w' ⟨hv,s',e,hp⟩=>⟨hv,s',e,hp.akF (pU _ ho)⟩
 rw[ajx,cM];refine wpAnyH_take i0 KN f0 r0 (hQ Do) (.inl ⟨wanted g0,λw' _=>y0 w'⟩) hS ?_;refine wpAnyH_take i2 KN f1 r1 (hQ Do) (.inl ⟨wanted g2,λw' _=>y2 w'⟩) hS ?_;refine wpAnyH_take i3 KN f2 r2 (hQ Do) (.inl ⟨wanted g3,λw' _=>y3 w'⟩) hS ?_;refine wpAnyH_take i4 KN f3 r3 (hQ Do) (.inl ⟨wanted g4,λw' _=>y4 w'⟩) hS ?_;refine wpAnyH_take i5 KN f4 r4 (hQ Do) (.inl ⟨wanted g5,λw' hw=>y5 w' hw⟩) hS ?_;refine wpAnyH_all rd5 Do λj hj=>?_
 rw[cE]at hj;subst hj;refine WM i1 g1 ?_;rcases NX (f:=f) hC hc h (l1 i p k n) hN (pU o1 Do)with⟨E1,s1,h,_,q1⟩|⟨s',e,q1⟩
 rotate_left
 .exact q1 _ _ _ _ _ R5 λch a' w' hv hp=>⟨hv,s',e,hp⟩
 refine q1 _ _ _ _ _ R5 λiR v1 w2 R1 m1=>?_
 have vG:=m1 _ _ vG;have⟨h,jg⟩:=MZ h;refine⟨R1.num vG jg,wpAnyH_all rd6 Do λj hj=>?_⟩;rw[cE]at hj;subst hj;refine WM i6 g6 ?_;rcases NX (f:=f) hC hc h (l6 i p k n) hN (pU o6 Do)with⟨E6,s6,h,_,q6⟩|⟨s',e,q6⟩
 rotate_left
 .exact q6 _ _ _ _ _ R1 λch a' w' hv hp=>⟨hv,s',e,hp⟩
 refine q6 _ _ _ _ _ R1 λψ6 v6 w6 R6 m6=>?_
 have vG:=m6 _ _ vG;have⟨h,hc6⟩:=MZ h;refine⟨R6.num vG hc6,wpAnyH_all rd7 Do λj hj=>?_⟩;rw[cE]at hj;subst hj;refine WM i7 g7 ?_;rcases NX (f:=f) hC hc h (l7 i p k n) hN (pU o7 Do)with⟨E7,s7,h,_,q7⟩|⟨s',e,q7⟩
 rotate_left
 .exact q7 _ _ _ _ _ R6 λch a' w' hv hp=>⟨hv,s',e,hp⟩
 refine q7 _ _ _ _ _ R6 λψ7 v7 w7 R7 m7=>?_
 have vG:=m7 _ _ vG;have⟨h,hc7⟩:=MZ h;exact⟨R7.num vG hc7,wpAnyH_done rd8 ⟨E7,s7,ψ7,h,R7⟩ _⟩
end
def pR:Code->List Code
 | .seq a b=>pR a++pR b
 |c=>[c]
def tS (P:Program):List Code->(Exit->Act->World->Prop)->Act->World->Prop
 |[],Q=>Q .normal
 |x::r,Q=>x.wp P (Exit.then (tS P r Q) Q)
theorem ZwO (n m:Act->World->Prop) (Q:Exit->Act->World->Prop):Exit.then n (Exit.then m Q)=Exit.then n Q:=by
 funext e a w;cases e<;>rfl
theorem ZxG (Q:Exit->Act->World->Prop):Exit.then (Q .normal) Q=Q:=by
 funext e a w;cases e<;>rfl
theorem Wq {P:Program} : ∀(l m:List Code) (Q:Exit->Act->World->Prop),tS P (l++m) Q=tS P l (Exit.then (tS P m Q) Q)
 |[],m,Q=>rfl
 |x::l,m,Q=>by
  show x.wp P (Exit.then (tS P (l++m) Q) Q)=x.wp P (Exit.then (tS P l (Exit.then (tS P m Q) Q)) (Exit.then (tS P m Q) Q));rw[Wq l m Q,ZwO]
theorem ZAv : ∀(c:Code) (Q:Exit->Act->World->Prop) (a:Act) (w:World),tS P (pR c) Q a w->c.wp P Q a w:=by
 intro c;induction c with
 |seq x y ihx ihy=>
  intro Q a w h;rw[pR,Wq]at h;refine wp_seq (wp_mono (ihx _ a w h) λe a w h=>?_);cases e<;>first|exact ihy Q a w h|exact h
 |_=>intro Q a w h;simp only[pR,tS,ZxG]at h;exact h
def Ll:Code->Option (Array Oper)
 | .region _ ops true=>bif okY ops&&Nat.beq ops.size 8 then some ops else none
 |_=>none
noncomputable def J1 (C:bE) (c:Zg) (n:Nat) (x:Code) (kn kr:Env->M β):Env->M β:=match Ll x with
 |some ops=>λE=>LK C c ops E kn
 |none=>exec C [] c n x .z kn (λ_ _=>fail) kr
noncomputable def yK (C:bE) (c:Zg) (n:Nat):List Code->(Env->M β)->(Env->M β)->Env->M β
 |[],kn,_=>kn
 |x::r,kn,kr=>J1 C c n x (yK C c n r kn kr) kr
def LA (ok:Nat->Bool):List Code->Bool
 |[]=>true
 |x::r=>zD ok x&&LA ok r
section
variable {C:bE} {f:Fr} {c:Zg} {n:Nat} {r:Out β×St}
theorem ZyR {x:Code} (h:Ll x=some ops): ∃id,x= .region id ops true:=by
 unfold Ll at h;grind
theorem Zy3 (hC:pw C) (hc:ZW C c) {K:Env->M β} (h:Lk K r):Lk (λE=>LK C c ops E K) r:=by
 intro E s h';unfold LK at h';cases di:J5 ops.toList with
 |none=>rw[di]at h';cases h'
 |some q=>
  have⟨o0,o1,o2,o3,o4,o5,o6,o7⟩:=q;rw[di]at h';simp only at h';have⟨_,h'⟩:=Zt h';cases h3:o3.op with
  |nilCheck x3=>
   cases h4:o4.op with
   |fieldAddr Qq x4 OE=>
    cases h5:o5.op with
    |load Qs x5=>
     rw[h3,h4,h5]at h';simp only at h';have⟨_,h'⟩:=mC h';refine rC hC hc o0 (rC hC hc o2 (GG (K:=λE2 _ _=>_) λ_ _=>rC hC hc o3 (GG (K:=λE3 _ _=>_) λ_ _=>rC hC hc o4 (GG (K:=λE4 i p=>_) λi p=>Zvn (K:=λE4 k n=>_) λk n=>rC hC hc o5 (rC hC hc o1 (Gy (rC hC hc o6 (Gy (rC hC hc o7 (Gy h)))))))))) E s h'
    |_=>rw[h3,h4,h5]at h';cases h'
   |_=>rw[h3,h4]at h';cases h'
  |_=>rw[h3]at h';cases h'
theorem Zw0 (hC:pw C) (hc:ZW C c) (x:Code) (kn kr:Env->M β) (h:Lk kn r) (k:Lk kr r):Lk (J1 C c n x kn kr) r:=by
 unfold J1;cases Ll x with
 |some ops=>exact Zy3 hC hc h
 |none=>exact Jg hC hc x .z _ _ kr h (λ_ _ _ h=>by cases h) k
theorem Gk (hC:pw C) (hc:ZW C c): ∀(l:List Code) (kn kr:Env->M β),Lk kn r->Lk kr r->Lk (yK C c n l kn kr) r
 |[],_,_,h,_=>h
 |x::l,kn,kr,h,k=>Zw0 hC hc x _ kr (Gk hC hc l kn kr h k) k
theorem VY (hC:pw C) (hc:ZW C c) (C2:C.P.follows .mixedOrders=true) (hN:r.2.length<=f.N): ∀(l:List Code) (kn kr:Env->M β),LA f.ok l=true->Lk kn r->Lk kr r->
  ∀(E:Env) (s:St),yK C c n l kn kr E s=some r->∀(ψ:Ps) (a:Act) (w:World) (QQ:Exit->Act->World->Prop),Rel C f ψ E s a w->
  (∀E' s' ψ' a' w',kn E' s'=some r->Rel C f ψ' E' s' a' w'->QQ .normal a' w')->
  (∀E' s' ψ' a' w',kr E' s'=some r->Rel C f ψ' E' s' a' w'->QQ .ret a' w')->
  (∀ch a' w' s',r=(.fy,s')->pz ch->sM C f s' a' w'->QQ (.panic ch) a' w')->tS C.P l QQ a w
 |[],kn,kr,_,_,_,E,s,h,ψ,a,w,QQ,R,qn,_,_=>qn E s ψ a w h R
 |x::l,kn,kr,ho,hn,hr,E,s,h,ψ,a,w,QQ,R,qn,qr,qp=>by
  simp only[LA,aY]at ho;have rest: ∀E' s' ψ' a' w',yK C c n l kn kr E' s'=some r->Rel C f ψ' E' s' a' w'->tS C.P l QQ a' w':=λE' s' ψ' a' w' h' R'=>
   VY hC hc C2 hN l kn kr ho.2 hn hr E' s' h' ψ' a' w' QQ R' qn qr qp
  have h:J1 C c n x (yK C c n l kn kr) kr E s=some r:=h;unfold J1 at h;cases hy:Ll x with
  |some ops=>
   rw[hy]at h;obtain⟨id,rfl⟩:=ZyR hy;exact Zyd hC hc ho.1 h (Gk hC hc l kn kr hn hr) C2 hN id R _ rest (λch a' w' s' e h1 h2=>qp ch a' w' s' e h1 h2)
  |none=>
   rw[hy]at h;exact Wf hC hc C2 hN x .z _ _ kr ho.1 (Gk hC hc l kn kr hn hr) (λ_ _ _ h=>by cases h) hr E s h ψ a w _ R (λE' s' ψ' a' w' h' R' _=>rest E' s' ψ' a' w' h' R') (λ_ _ _ _ _ _ h=>by cases h) (λE' s' ψ' a' w' h' R'=>qr E' s' ψ' a' w' h' R') (λch a' w' s' e h1 h2=>qp ch a' w' s' e h1 h2)
theorem jT.trans {iQ iR kJ:Ps} {s0 s1 s2:St} {w0 w1 w2:World} (hl:s0.length<=s1.length) (nN:s1.length<=s2.length) (h:jT C iQ s0 w0 iR s1 w1) (k:jT C iR s1 w1 kJ s2 w2):jT C iQ s0 w0 kJ s2 w2:=by
 refine⟨k.fh,h.ext.trans k.ext,λx cb e=>?_⟩;rcases k.news x cb e with e|⟨i,rfl,h1,h2⟩
 .rcases h.news x cb e with e|⟨i,rfl,h1,h2⟩
  .exact .inl e
  grind
 grind
end
def qP (C:bE) (E:Env):List ResultVar->(ah->M β)->M β
 |[],K=>K []
 | .cell a t::r,K=>match E.get a with
  | .v (.ptr (some (i,o)))=>sv C.P t (bif jv C.P t then bX i o (C.P.cellsOf t) λcs=>qP C E r λds=>K (.agg cs::ds)else bD i o λd=>qP C E r λds=>K (d::ds))
  |_=>fail
 | .tmp _::_,_=>fail
def JX:Option Code->Option (Nat×FuncId×List Operand)
 |some (.region _ ⟨[⟨some td,.makeFunc (.func g) ⟨[]⟩ ⟨iJ⟩,_,_,_,none⟩,⟨none,.defer ⟨.value (.tmp t'),⟨[]⟩,_⟩,_,_,_,none⟩]⟩ false)=>bif Nat.beq td t' then some (td,g,iJ)else none
 |_=>none
def zs (P:Program) (ty:TypeId):Bool:=match P.underlying ty with
 |some (.interface _)=>true
 |_=>false
def GR (P:Program) (m N:Nat):Code->Option Code
 | .seq (.region _ ⟨[⟨some t3,.call ⟨.builtin .recover,⟨[]⟩,_⟩,_,_,_,none⟩,⟨some t4,.binOp .neq ty (.tmp t3') (.const .nilIface) _,_,_,_,none⟩]⟩ false) (.cond (.tmp t4') b .skip)=>
  bif Nat.beq t3 t3'&&Nat.beq t4 t4'&& !Nat.beq t3 t4&&Nat.ble m t3&&Nat.ble m t4&&Nat.blt t3 N&&Nat.blt t4 N&&zs P ty then some b else none
 |_=>none
def PU:eZ->Bool
 | .u=>true
 |_=>false
def xF:List ResultVar->Nat->Bool
 |[],_=>true
 | .cell a _::r,t=> !Nat.beq a t&&xF r t
 | .tmp _::_,_=>false
noncomputable def Xh (C:bE) (k:Nat) (fn ga:Func) (c:Zg) (n:Nat) (args:ah):M ah:=
 match fn.body,ga.body with
 |some code,some AO=>match JX ((pR code)[k]?),GR C.P ga.nfree ga.ntmps AO with
  |some (td,_,iJ),some gb=>
   bif LA (tI fn.ntmps) ((pR code).take k)&&LA (λt=>tI fn.ntmps t&&xF fn.results.toList t) ((pR code).drop (k+1))&&zD (tI ga.ntmps) gb&&Nat.ble fn.params.size fn.ntmps&&Nat.blt td fn.ntmps&&xF fn.results.toList td
    &&Nat.beq fn.nfree 0&&Nat.beq ga.params.size 0&&ga.results.isEmpty&&Nat.ble ga.nfree ga.ntmps&&Nat.beq iJ.length ga.nfree then
    CG (fn.params.toList.map (nv C.P)) args λds=>
     let fin (E:Env):M ah:=qP C E fn.results.toList λds=>ax ds
     yK C c n ((pR code).take k) (λE=>aB (Nat.beq E.bW 0&&PU (E.get td)) (Bx C E iJ λcs=>
      vD (yK C c n ((pR code).drop (k+1)) (λ_=>ax []) (λ_=>ax []) E)
       λp=>bif p then vD (exec C [] c n gb .z (λ_=>ax []) (λ_ _=>fail) (λ_=>ax []) ⟨0,kD 0 cs⟩) λp=>bif p then fail else fin E
        else fin E)) fin ⟨0,kD 0 ds⟩
   else fail
  |_,_=>fail
 |_,_=>fail
section
variable {C:bE} {ψ:Ps} {s:St} {w:World} {g:FuncId} {ga:Func}
theorem Zrq {m:Nat} {c:Code} (h:GR P m N c=some gb):
  ∃id t3 t4 ty aT rT rP rA eT yH eP eA,c= .seq (.region id #[⟨some t3,.call ⟨.builtin .recover, #[],aT⟩,rT,rP,rA,none⟩,⟨some t4,.binOp .neq ty (.tmp t3) (.const .nilIface) eT,yH,eP,eA,none⟩] false) (.cond (.tmp t4) gb .skip)/\
   t3≠t4/\m<=t3/\m<=t4/\t3<N/\t4<N/\zs P ty=true:=by
 unfold GR at h;split at h
 .rename_i id t3 aT rT rP rA t4 ty t3' eT yH eP eA t4' b
  cases hc:(Nat.beq t3 t3'&&Nat.beq t4 t4'&& !Nat.beq t3 t4&&Nat.ble m t3&&Nat.ble m t4&&Nat.blt t3 N&&Nat.blt t4 N&&zs P ty)with
  |false=>rw[hc]at h;cases h
  |true=>
   rw[hc]at h;simp only[ae,fZ]at h;subst h;simp only[aY]at hc;have⟨⟨⟨⟨⟨⟨⟨h1,h2⟩,h3⟩,h4⟩,h5⟩,h6⟩,h7⟩,h8⟩:=hc;cases dP h1;cases dP h2;refine⟨id,t3,t4,ty,aT,rT,rP,rA,eT,yH,eP,eA,rfl,?_,qY h4,qY h5,by rw[qX]at h6;exact h6,by rw[qX]at h7;exact h7,h8⟩;grind
 .cases h
theorem Zpw (h:zs P ty=true): ∃ms,P.underlying ty=some (.interface ms):=by
 grind[zs]
theorem ZvC (h:zs P ty=true) (d:Nat) (t:TypeId) (v:Value) (w:World):(Op.equalIn (d+1) ty (.iface t v) .nilIface).run P w= .ok false w:=by
 have⟨ms,hu⟩:=Zpw h;rw[Op.equalIn.eq_2,Sem.run_bind,Zl w hu];rfl
theorem Zwd (h:zs P ty=true) (d:Nat) (w:World):(Op.equalIn (d+1) ty .nilIface .nilIface).run P w= .ok true w:=by
 have⟨ms,hu⟩:=Zpw h;rw[Op.equalIn.eq_2,Sem.run_bind,Zl w hu];rfl
theorem ZwK (h:zs P ty=true) (t:TypeId) (v:Value) (w:World):(binOp .neq ty (.iface t v) .nilIface).run P w= .ok (.bool true) w:=by
 have e:binOp .neq ty (.iface t v) .nilIface=(do let b <-Op.equal ty (.iface t v) .nilIface;pure (.bool !b)):=by
  unfold binOp;rfl
 rw[e,Sem.run_bind,show Op.equal ty (.iface t v) .nilIface=Op.equalIn (9999+1) ty (.iface t v) .nilIface from rfl,ZvC h];rfl
theorem ZAu (h:zs P ty=true) (w:World):(binOp .neq ty .nilIface .nilIface).run P w= .ok (.bool false) w:=by
 have e:binOp .neq ty .nilIface .nilIface=(do let b <-Op.equal ty .nilIface .nilIface;pure (.bool !b)):=by
  unfold binOp;rfl
 rw[e,Sem.run_bind,show Op.equal ty .nilIface .nilIface=Op.equalIn (9999+1) ty .nilIface .nilIface from rfl,Zwd h];rfl
theorem Zwh {a:Act} {x:Value} (ho:ops[i]? =some o) (hg:o.guard=none) (he:(execOp a.eval o).run P w= .ok .recover w)
  (aL:(match recoverD cs with|some (v,cs')=>(v,cs')|none=>(Value.nilIface,cs))=(x,cs')) (h:wpOpsS P ops Q rest (a.put o.dst x) cs' w):wpOpsS P ops Q (i::rest) a cs w:=by
 simp only[wpOpsS,ho];rw[bG (by simp[Region.wanted,hg]),he];grind
theorem Zvx {a:Act} {x:Value} (ho:ops[i]? =some o) (hg:o.guard=none) (he:(execOp a.eval o).run P w= .ok (.value x) w)
  (h:wpOpsS P ops Q rest (a.put o.dst x) cs w):wpOpsS P ops Q (i::rest) a cs w:=by
 simp only[wpOpsS,ho];rw[bG (by simp[Region.wanted,hg]),he];exact h
def FH (vs:Array Value) (N t3 t4:Nat) (x:Value) (b:Bool):Array Value:=((vs++Array.replicate (N-vs.size) Go.undef).setIfInBounds t3 x).setIfInBounds t4 (.bool b)
theorem ZkE {aT:Array TypeId} (ak0:t3≠t4) (h3:t3<N) (h4:t4<N) (ak2:zs C.P ty=true) {yF:Frame} {x:Value} {b:Bool}
  (aL:(match recoverD (yF::cs)with|some (v,cs')=>(v,cs')|none=>(Value.nilIface,yF::cs))=(x,cs')) (hb:(binOp .neq ty x .nilIface).run C.P w= .ok (.bool b) w) (hx:(∃t v,x= .iface t v)\/x= .nilIface)
  (h:(bif b then gb else .skip).wpS C.P Q { tmps:=FH vs N t3 t4 x b,defers:=[] } cs' w):
  (Code.seq (.region id #[⟨some t3,.call ⟨.builtin .recover, #[],aT⟩,rT,rP,rA,none⟩,⟨some t4,.binOp .neq ty (.tmp t3) (.const .nilIface) eT,yH,eP,eA,none⟩] false) (.cond (.tmp t4) gb .skip)).wpS C.P Q { tmps:=vs++Array.replicate (N-vs.size) Go.undef,defers:=[] } (yF::cs) w:=by
 have cL:N<=(vs++Array.replicate (N-vs.size) Go.undef).size:=by simp;omega
 refine wpS_seq (wpS_region ?_);have e1: ∀ev:Operand->Value,(execOp ev ⟨some t3,.call ⟨.builtin .recover, #[],aT⟩,rT,rP,rA,none⟩).run C.P w= .ok .recover w:=λ_=>rfl
 have fin:wpOpsS C.P #[⟨some t3,.call ⟨.builtin .recover, #[],aT⟩,rT,rP,rA,none⟩,⟨some t4,.binOp .neq ty (.tmp t3) (.const .nilIface) eT,yH,eP,eA,none⟩] (Exit.thenS ((Code.cond (.tmp t4) gb .skip).wpS C.P Q) Q) [1] (({ tmps:=vs++Array.replicate (N-vs.size) Go.undef,defers:=[] } :Act).put (some t3) x) cs' w:=by
  have X4:(({ tmps:=vs++Array.replicate (N-vs.size) Go.undef,defers:=[] } :Act).put (some t3) x).eval (.tmp t3)=x:=by
   simp only[Act.put,Act.eval];rw[sB,QE AC];rfl
  have e2:(execOp (({ tmps:=vs++Array.replicate (N-vs.size) Go.undef,defers:=[] } :Act).put (some t3) x).eval ⟨some t4,.binOp .neq ty (.tmp t3) (.const .nilIface) eT,yH,eP,eA,none⟩).run C.P w= .ok (.value (.bool b)) w:=by
   show(do let v <-(do eqGuard .neq ty (.tmp t3) (.const .nilIface) (Act.eval _ (.tmp t3)) (Act.eval _ (.const .nilIface));binOp .neq ty (Act.eval _ (.tmp t3)) (Act.eval _ (.const .nilIface)));pure (Next.value v):Sem Next).run C.P w=_;rw[X4];have hg:(eqGuard .neq ty (.tmp t3) (.const .nilIface) x .nilIface).run C.P w= .ok () w:=by
    rcases hx with⟨t,v,rfl⟩|rfl<;>rfl
   show((do eqGuard .neq ty (.tmp t3) (.const .nilIface) x .nilIface;binOp .neq ty x .nilIface:Sem Value)>>= λv=>pure (Next.value v)).run C.P w=_;rw[Sem.run_bind,Sem.run_bind,hg,Result.andThen_ok,hb];rfl
  refine Zvx (o:=⟨some t4,.binOp .neq ty (.tmp t3) (.const .nilIface) eT,yH,eP,eA,none⟩) rfl rfl e2 ?_;show Exit.thenS _ Q .normal _ cs' w;refine wpS_cond (t:=b) ?_ ?_
  .simp only[Act.put,Act.eval]
   rw[sB,QE (by simp;omega)];rfl
  .cases b<;>exact h
 show wpOpsS C.P _ _ [0,1] _ _ _;exact Zwh (o:=⟨some t3,.call ⟨.builtin .recover, #[],aT⟩,rT,rP,rA,none⟩) rfl rfl (e1 _) aL fin
theorem ZmC {fn:Func} (h:fn.results.isEmpty=true) (tmps:Array Value) (P:Program) (w:World):(results fn tmps).run P w= .ok (.tuple #[]) w:=by
 have e:fn.results= #[]:=by simpa using h
 simp[results,e]
theorem Ztt (EL:C.P.funcs[g]? =some ga) (yV:ga.body=some AO) (hd:GR C.P ga.nfree ga.ntmps AO=some gb) (K2:ga.results.isEmpty=true):
  CallsD C.P g vs .returning w λe u' w'=>e= .returned (.tuple #[])/\u'= .returning/\w'=w:=by
 obtain⟨id,t3,t4,ty,aT,rT,rP,rA,eT,yH,eP,eA,rfl,dQ,_,_,h3,h4,se⟩:=Zrq hd;refine callsD_of_wpS EL yV λyF cs hu=>?_
 refine ZkE (x:= .nilIface) (b:=false) dQ h3 h4 se (cs':=yF::cs) ?_ (ZAu se w) (.inr rfl) ?_
 .rw[recoverD,hu]
 .refine wpS_of_wp (wp_skip ?_)
  refine⟨rfl,.returning,?_,_,ZmC K2 _ _ _,rfl,rfl,rfl⟩;cases yF;grind
theorem Zuf (hF:Ik C) {c:Zg} (hc:ZW C c) {n:Nat} {vs:List Value} (EL:C.P.funcs[g]? =some ga) (yV:ga.body=some AO) (hd:GR C.P ga.nfree ga.ntmps AO=some gb) (K2:ga.results.isEmpty=true)
  (eL:zD (tI ga.ntmps) gb=true) (hm:vs.length=ga.nfree) (hmN:ga.nfree<=ga.ntmps) (h:exec C [] c n gb .z (λ_=>ax []) (λ_ _=>fail) (λ_=>ax []) ⟨0,kD 0 ds⟩ s=some (.val ds0,s3))
  (Bh:fC C ψ (CS s) w) (Kf:sF ψ w) (EM:Glob C ψ) (oL:bH C ψ ds vs) (C5: ∀v,ψ (.inr v)=none) (Lc: ∀i,s.length<=i->i<s3.length->ψ (.inl i)=none) {ch:List PanicEntry} (uG:pz ch):
  CallsD C.P g vs.toArray (.panicking ch) w λe u' w'=>e= .returned (.tuple #[])/\settle u'= .returning/\∃ψ',jT C ψ s w ψ' s3 w':=by
 obtain⟨id,t3,t4,ty,aT,rT,rP,rA,eT,yH,eP,eA,rfl,dQ,tA,Be,h3,h4,se⟩:=Zrq hd;obtain⟨pt,pv,rfl⟩:=uG;refine callsD_of_wpS EL yV λyF cs hu=>?_
 refine ZkE (x:= .iface pt pv) (b:=true) dQ h3 h4 se (cs':= { yF with mode:= .panicking [{ v:= .iface pt pv,recovered:=true }] } ::cs) ?_ (ZwK se _ _ w) (.inl ⟨_,_,rfl⟩) ?_
 .rw[recoverD,hu]
 rw[ae];have lk: ∀r:Out ah×St,Lk (λ_:Env=>(ax []:M ah)) r:=by
  intro r E s' h';simp only[ax,fZ]at h';grind
 let f:Fr:=⟨s3.length,ga.ntmps,ψ,s,w,tI ga.ntmps,λx h=>by unfold tI at h;rw[qX]at h;exact h,λt=>(FH vs.toArray ga.ntmps t3 t4 (.iface pt pv) true).getD t Go.undef,[]⟩
 have w5: ∀t,(⟨0,kD 0 ds⟩:Env).get t=match ds[t]? with|some d=> .v d|none=> .u:=by
  intro t;have:=Nf 0 ds t;simp only[cB,mV,BL]at this;exact this
 have Fv: ∀t v,((⟨0,kD 0 ds⟩:Env).get t).dr≠some v:=by
  intro t v;rw[w5];cases ds[t]? <;>simp[eZ.dr]
 have CE: ∀h ab,CR ⟨0,kD 0 ds⟩ s h ab->CS s h ab:=by
  intro h ab c;cases h with
  |inl i=>exact⟨i,rfl,c⟩
  |inr v=>
   rcases c with⟨t,n,cs,e,_⟩|⟨t,l,p,e,_⟩
   .grind
   grind
 have R:Rel C f ψ ⟨0,kD 0 ds⟩ s { tmps:=FH vs.toArray ga.ntmps t3 t4 (.iface pt pv) true,defers:=[] } w:=by
  refine⟨Bh.weaken λ_ _ _ _ c=>CE _ _ c,⟨Fd,λt r v o e=>?_,Fd,Fd⟩,Kf,EM,λt=>?_,?_,rfl,Lc,λv _=>C5 v,(Ext.refl ψ (CS s) w).weaken λ_ _ _ _ c=>CE _ _ c,λi cb e=> .inl e,aM _,C5⟩
  .rw[w5]at e
   cases hd:ds[t]? <;>rw[hd]at e<;>cases e
  .rw[w5]
   cases hd:ds[t]? with
   |none=>trivial
   |some d=>
    have⟨v,hv,hr⟩:=oL.get hd;have aw:=(eB.1 hv).1;have:(FH vs.toArray ga.ntmps t3 t4 (.iface pt pv) true).getD t Go.undef=v:=by
     unfold FH;rw[sB,Array.getElem?_setIfInBounds_ne AC,Array.getElem?_setIfInBounds_ne AC,QD (by simpa using aw)];simp[hv]
    show fV C ψ (.v d) _;rw[this];exact hr
  .refine⟨?_,λ_ _=>rfl⟩
   show(FH vs.toArray ga.ntmps t3 t4 (.iface pt pv) true).size=ga.ntmps;simp[FH];omega
 refine wpS_of_wp ?_;have done: ∀ {E':Env} {s':St} {ψ':Ps} {a':Act} {w':World},(ax []:M ah) s'=some (.val ds0,s3)->Rel C f ψ' E' s' a' w'->
   a'.defers=[]/\∃u',({ yF with mode:= .panicking [{ v:= .iface pt pv,recovered:=true }] } ::cs:List Frame)= { yF with mode:=u' } ::cs/\∃v,(results ga a'.tmps).run C.P w'= .ok v w'/\Ending.returned v= .returned (.tuple #[])/\settle u'= .returning/\∃ψ',jT C ψ s w ψ' s3 w':=by
  intro E' s' ψ' a' w' h' R';simp only[ax,fZ,FV]at h';obtain⟨_,rfl⟩:=h';exact⟨R'.defs,_,rfl,_,ZmC K2 _ _ _,rfl,rfl,_,R'.AJ⟩
 refine Wf hF.cfg hc hF.OF (f:=f) (aM _) gb .z _ _ _ eL (lk _) (λi E s h=>by cases h) (lk _) _ s h ψ _ w _ R ?_ ?_ ?_ ?_
 .intro E' s' ψ' a' w' h' R' _;exact done h' R'
 .intro i E' s' ψ' a' w' h' _ _;cases h'
 .intro E' s' ψ' a' w' h' R';exact done h' R'
 grind
end
section
variable {C:bE} {ψ:Ps} {E:Env} {s:St} {w:World}
def JF (ψ:Ps) (E:Env) (tmps:Array Value) (l:List ResultVar):Prop:=
 ∀a t,ResultVar.cell a t∈l->∀i o,E.get a= .v (.ptr (some (i,o)))->∃cb:CB,ψ (.inl i)=some cb/\tmps.getD a undef= .pointer (some ⟨cb.b,cb.o+o,none⟩)
theorem V3 (hs:fC C ψ (CS s) w) {tmps:Array Value} {r:Out β×St} : ∀ {l:List ResultVar} {K:ah->M β},JF ψ E tmps l->qP C E l K s=some r->∃ds vs,K ds s=some r/\bH C ψ ds vs/\(l.mapM (N5 tmps)).run C.P w= .ok vs w
 |[],K,_,h=>⟨[],[],h,.nil,Do⟩
 | .tmp t::l,K,_,h=>by cases h
 | .cell a t::l,K,hp,h=>by
  have fX:JF ψ E tmps l:=λa t hm=>hp a t (xT _ hm)
  simp only[qP]at h;cases hx:E.get a with
  |v d=>
   rw[hx]at h;cases d with
   |ptr p=>
    cases p with
    |none=>cases h
    |some q=>
     have⟨i,o⟩:=q;simp only at h;have⟨cb,e1,e3⟩:=hp a t Do i o hx;have⟨td,ht,h⟩:=qu h;have asA:(asAddr (tmps.getD a undef)).run C.P w= .ok ⟨cb.b,cb.o+o,none⟩ w:=by rw[e3];rfl
     cases cC:jv C.P t with
     |true=>
      rw[cC]at h;simp only[ae]at h;have⟨fz,cs,cd,hn,h⟩:=I6 h;have hh:=hs.holds (.inl i) cb _ e1 ⟨i,rfl,cd⟩;have⟨ds,vs,hk,hr,ec⟩:=V3 hs fX h;have⟨vc,hv,_,mh,h1⟩:=MN (P:=C.P) hh (p:=o) (n:=C.P.cellsOf t) hn;refine⟨_,_,hk,.cons _ _ _ _ (.agg _ vc mh h1) hr,Ji ?_ ec⟩;show(do loadVar t (<-asAddr (tmps.getD a undef)):Sem Value).run C.P w=_;rw[Sem.run_bind,asA,Result.andThen_ok];exact MC ht cC _ w hv
     |false=>
      rw[cC]at h;simp only[af]at h;unfold bD at h;cases ni:s.cells i with
      |none=>rw[ni]at h;cases h
      |some cs=>
       rw[ni]at h;simp only at h;cases hd:cs[o]? with
       |none=>rw[hd]at h;cases h
       |some d=>
        rw[hd]at h;simp only at h;have cd: ∃f,dD s i=some (.cells f cs):=by
         unfold St.cells at ni;split at ni
         .rename_i bk AW
          cases ni;exact⟨bk.dU,by rw[dD,AW]⟩
         .cases ni
        have⟨fz,cd⟩:=cd;have hh:=hs.holds (.inl i) cb _ e1 ⟨i,rfl,cd⟩;have⟨ds,vs,hk,hr,ec⟩:=V3 hs fX h;have⟨y,hv,mh,_⟩:=Nj (P:=C.P) hh hd;refine⟨_,_,hk,.cons _ _ _ _ mh hr,Ji ?_ ec⟩;show(do loadVar t (<-asAddr (tmps.getD a undef)):Sem Value).run C.P w=_;rw[Sem.run_bind,asA,Result.andThen_ok];exact IA ht cC _ w hv
   |_=>cases h
  |_=>rw[hx]at h;cases h
theorem VU {s s':St} {o:Out ah} : ∀ {l:List ResultVar} {K:ah->M ah},qP C E l K s=some (o,s')->(∀ds s o s',K ds s=some (o,s')->s'=s)->s'=s
 |[],K,h,hK=>hK _ _ _ _ h
 | .tmp t::l,K,h,_=>by cases h
 | .cell a t::l,K,h,hK=>by
  simp only[qP]at h;cases hx:E.get a with
  |v d=>
   rw[hx]at h;cases d with
   |ptr p=>
    cases p with
    |none=>cases h
    |some q=>
     simp only at h;have⟨td,ht,h⟩:=qu h;cases cC:jv C.P t with
     |true=>
      rw[cC]at h;simp only[ae]at h;have⟨_,_,_,_,h⟩:=I6 h;exact VU h λds s o s' h=>hK _ s o s' h
     |false=>
      rw[cC]at h;simp only[af]at h;unfold bD at h;split at h
      .split at h
       .exact VU h λds s o s' h=>hK _ s o s' h
       .cases h
      .cases h
   |_=>cases h
  |_=>rw[hx]at h;cases h
theorem Zt7: ∀ {l:List ResultVar} {t:Nat},xF l t=true->∀a u,ResultVar.cell a u∈l->a≠t
 |[],_,_,a,u,hm=>by cases hm
 | .tmp _::_,_,h,_,_,_=>by cases h
 | .cell b v::l,t,h,a,u,hm=>by
  simp only[xF,aY,lT]at h;rcases eM.1 hm with e|hm
  .grind[FP]
  .exact Zt7 h.2 a u hm
theorem Zq6: ∀ {l:List ResultVar} (_: ∀t,ResultVar.tmp t∉l) {a u:Nat},ResultVar.cell a u∈l->xF l a=false
 |[],_,a,u,hm=>by cases hm
 | .tmp t::_,h,_,_,_=>absurd Do (h t)
 | .cell b v::l,h,a,u,hm=>by
  rw[xF];rcases eM.1 hm with e|hm
  .simp_all
  .rw[Zq6 Fd hm,DD]
theorem ZxQ {c:Option Code} {iJ:List Operand} (h:JX c=some (td,g,iJ)):
  ∃id t1 p1 a1 aT t2 p2 a2,c=some (.region id #[⟨some td,.makeFunc (.func g) #[] iJ.toArray,t1,p1,a1,none⟩,⟨none,.defer ⟨.value (.tmp td), #[],aT⟩,t2,p2,a2,none⟩] false):=by
 unfold JX at h;split at h
 .rename_i id td' g' ak4 t1 p1 a1 t' aT t2 p2 a2
  cases hb:Nat.beq td' t' with
  |false=>rw[hb]at h;cases h
  |true=>
   rw[hb]at h;simp_all
 .cases h
theorem ZxJ {Q:Exit->Act->World->Prop} {a:Act} {x:Value} (ho:ops[i]? =some o) (hg:o.guard=none) (he:(execOp a.eval o).run P w= .ok (.value x) w)
  (h:wpOps P ops Q rest (a.put o.dst x) w):wpOps P ops Q (i::rest) a w:=by
 simp only[wpOps,ho];rw[bG (by simp[Region.wanted,hg])];left;unfold Oper.wp;rw[he];exact h
theorem Zur {Q:Exit->Act->World->Prop} {a:Act} {d:Deferred} (ho:ops[i]? =some o) (hg:o.guard=none) (he:(execOp a.eval o).run P w= .ok (.defer d) w)
  (h:wpOps P ops Q rest ({ a with defers:=d::a.defers }.put o.dst Go.undef) w):wpOps P ops Q (i::rest) a w:=by
 simp only[wpOps,ho];rw[bG (by simp[Region.wanted,hg])];left;unfold Oper.wp;rw[he];exact h
end
theorem ZpW {m:M ah} {H:Bool->M β} {r:Out β×St} (h:vD m H s=some r):(∃ds s2,m s=some (.val ds,s2)/\H false s2=some r)\/(∃s2,m s=some (.fy,s2)/\H true s2=some r):=by
 grind[vD]
theorem ZAE {α:Type} {l:List α} {k:Nat} {x:α} (h:l[k]? =some x):l=l.take k++x::l.drop (k+1):=by
 obtain⟨hk,rfl⟩:=eB.1 h;rw[<-jd hk,oX]
theorem Cr (r:Out ah×St):Lk (λ_:Env=>(ax []:M ah)) r:=by
 intro E s' h';grind[ax,fZ]
def isG (k:Nat) (fn:Func) (g:FuncId):Bool:=match fn.body with
 |some code=>match JX ((pR code)[k]?)with
  |some (_,g',_)=>Nat.beq g' g
  |none=>false
 |none=>false
set_option maxHeartbeats 1000000 in
theorem ZyY (hF:Ik C) {c:Zg} (hc:ZW C c) {n k:Nat} {fn ga:Func} (hfn:C.P.funcs[vI]? =some fn) (sa:(fn.name== "runtime.NumGoroutine")=false) (EL:C.P.funcs[g]? =some ga) (aik:(ga.name== "runtime.NumGoroutine")=false) (hg:isG k fn g=true) {out:Out ah×St} (h:Xh C k fn ga c n args s=some out):NZ C vI args s out:=by
 unfold Xh at h;cases hb:fn.body with
 |none=>rw[hb]at h;cases h
 |some code=>
 cases yV:ga.body with
 |none=>rw[hb,yV]at h;cases h
 |some AO=>
 rw[hb,yV]at h;simp only at h;cases hd:JX ((pR code)[k]?)with
 |none=>rw[hd]at h;cases h
 |some p=>
 have⟨td,g',iJ⟩:=p;cases EI:GR C.P ga.nfree ga.ntmps AO with
 |none=>rw[hd,EI]at h;cases h
 |some gb=>
 rw[hd,EI]at h;simp only at h;have:g'=g:=by unfold isG at hg;rw[hb]at hg;simp only at hg;rw[hd]at hg;exact dP hg
 subst this;have⟨eL,h⟩:=Zt h;simp only[aY]at eL;have⟨⟨⟨⟨⟨⟨⟨⟨⟨⟨k1,k2⟩,k3⟩,k4⟩,k5⟩,k6⟩,k7⟩,k8⟩,k9⟩,k10⟩,k11⟩:=eL;have k4:=qY k4;have k5:td<fn.ntmps:=by rw[qX]at k5;exact k5
 have k7:=dP k7;have k10:=qY k10;have k11:=dP k11;have⟨ds,h,nn,nN,uF⟩:=IV h;have hlen:ds.length=fn.params.size:=by rw[nN];simp
 have⟨id,t1,p1,a1',aT,t2,p2,a2',hx⟩:=ZxQ hd;have XX:=ZAE hx;have KO: ∀t,ResultVar.tmp t∉fn.results.toList:=by
  intro t hm;have: ∀(l:List ResultVar) (u:Nat),xF l u=true->ResultVar.tmp t∉l:=by
   intro l;induction l with
   |nil=>intro u _ hm;cases hm
   |cons x l ih=>
    intro u hu hm;cases x with
    |tmp y=>cases hu
    |cell a v=>
     simp only[xF,aY]at hu;rcases eM.1 hm with e|hm
     .cases e
     .exact ih u hu.2 hm
  exact this _ _ k6 hm
 have G0: ∀E s' r,qP C E fn.results.toList (λds=>(ax ds:M ah)) s'=some r->r.2=s':=by
  intro E s' r h';have⟨o,s2⟩:=r;exact VU h' λds s o s' h=>by simp only[ax,fZ,FV]at h;exact h.2.symm
 have lkf:Lk (λE=>qP C E fn.results.toList λds=>(ax ds:M ah)) out:=λE s' h'=>by rw[G0 E s' out h'];exact aM _
 have half: ∀E s',(aB (Nat.beq E.bW 0&&PU (E.get td)) (Bx C E iJ λcs=>
      vD (yK C c n ((pR code).drop (k+1)) (λ_=>ax []) (λ_=>ax []) E)
       λp=>bif p then vD (exec C [] c n gb .z (λ_=>ax []) (λ_ _=>fail) (λ_=>ax []) ⟨0,kD 0 cs⟩) λp=>bif p then fail else qP C E fn.results.toList λds=>(ax ds:M ah)
        else qP C E fn.results.toList λds=>(ax ds:M ah))) s'=some out->
   E.bW=0/\E.get td= .u/\∃cs o s2,SV C E iJ cs/\yK C c n ((pR code).drop (k+1)) (λ_=>ax []) (λ_=>(ax []:M ah)) E s'=some (o,s2)/\s'.length<=s2.length/\
    (((∃x,o= .val x)/\qP C E fn.results.toList (λds=>(ax ds:M ah)) s2=some out)\/
     (o= .fy/\∃x s3,exec C [] c n gb .z (λ_=>ax []) (λ_ _=>fail) (λ_=>(ax []:M ah)) ⟨0,kD 0 cs⟩ s2=some (.val x,s3)/\s2.length<=s3.length/\qP C E fn.results.toList (λds=>(ax ds:M ah)) s3=some out)):=by
  intro E s' h';have⟨kT,h'⟩:=mC h';rw[aY]at kT;have hu:E.get td= .u:=by
   have:=kT.2;unfold PU at this;cases he:E.get td<;>rw[he]at this<;>first|rfl|cases this
  have⟨cs,h',PK⟩:=IF h';refine⟨dP kT.1,hu,cs,?_⟩;rcases ZpW h' with⟨x,s2,hm,hf⟩|⟨s2,hm,hf⟩
  .exact⟨_,s2,PK,hm,Gk (r:=(.val x,s2)) hF.cfg hc _ _ _ (Cr _) (Cr _) E s' hm,.inl ⟨⟨x,rfl⟩,hf⟩⟩
  .simp only[ae]at hf
   rcases ZpW hf with⟨x,s3,fE,hf⟩|⟨s3,_,hf⟩
   .exact⟨_,s2,PK,hm,Gk (r:=(.fy,s2)) hF.cfg hc _ _ _ (Cr _) (Cr _) E s' hm,.inr ⟨rfl,x,s3,fE,Jg (r:=(.val x,s3)) hF.cfg hc gb .z _ _ _ (Cr _) (λ_ _ _ h=>by cases h) (Cr _) _ s2 fE,hf⟩⟩
   .cases hf
 have lkh:Lk (λE=>aB (Nat.beq E.bW 0&&PU (E.get td)) (Bx C E iJ λcs=>
      vD (yK C c n ((pR code).drop (k+1)) (λ_=>ax []) (λ_=>ax []) E)
       λp=>bif p then vD (exec C [] c n gb .z (λ_=>ax []) (λ_ _=>fail) (λ_=>ax []) ⟨0,kD 0 cs⟩) λp=>bif p then fail else qP C E fn.results.toList λds=>(ax ds:M ah)
        else qP C E fn.results.toList λds=>(ax ds:M ah))) out:=by
  intro E s' h';have⟨_,_,cs,o,s2,_,_,hl,hh⟩:=half E s' h';rcases hh with⟨_,hf⟩|⟨_,x,s3,_,Da,hf⟩
  .rw[G0 E s2 out hf];exact hl
  .rw[G0 E s3 out hf];omega
 refine⟨Gk hF.cfg hc _ _ _ lkh lkf _ s h,λψ w vs Bh Kf EM kS C5 Lc=>?_⟩;have oL:=uF C ψ vs kS;have Df:=oL.len;unfold As;have uE:(callFunc vI vs.toArray).run C.P w= .ok (.enter vI vs.toArray) w:=by
  have xl: ¬fn.name= "runtime.NumGoroutine" :=by simpa using sa
  simp[callFunc,hfn,xl,hb]
 rw[uE];refine calls_of_wp_defers hfn hb (ZAv _ _ _ _ ?_)
 let f:Fr:=⟨out.2.length,fn.ntmps,ψ,s,w,tI fn.ntmps,λx h=>by unfold tI at h;rw[qX]at h;exact h,λt=>(vs.toArray++Array.replicate (fn.ntmps-vs.toArray.size) Go.undef).getD t Go.undef,[]⟩
 have w5: ∀t,(⟨0,kD 0 ds⟩:Env).get t=match ds[t]? with|some d=> .v d|none=> .u:=by
  intro t;have:=Nf 0 ds t;simp only[cB,mV,BL]at this;exact this
 have Fv: ∀t v,((⟨0,kD 0 ds⟩:Env).get t).dr≠some v:=by
  intro t v;rw[w5];cases ds[t]? <;>simp[eZ.dr]
 have CE: ∀h ab,CR ⟨0,kD 0 ds⟩ s h ab->CS s h ab:=by
  intro h ab c;cases h with
  |inl i=>exact⟨i,rfl,c⟩
  |inr v=>
   rcases c with⟨t,n,cs,e,_⟩|⟨t,l,p,e,_⟩
   .exact absurd (by rw[e];rfl) (Fv t v)
   .exact absurd (by rw[e];rfl) (Fv t v)
 have R:Rel C f ψ ⟨0,kD 0 ds⟩ s { tmps:=vs.toArray++Array.replicate (fn.ntmps-vs.toArray.size) Go.undef,defers:=[] } w:=by
  refine⟨Bh.weaken λ_ _ _ _ c=>CE _ _ c,⟨λt v e=>absurd e (Fv t v),λt r v o e=>?_,λt v n cs e=>absurd (by rw[e];rfl) (Fv t v),λt t' v e _=>absurd e (Fv t v)⟩,Kf,EM,λt=>?_,?_,rfl,Lc,λv _=>C5 v,(Ext.refl ψ (CS s) w).weaken λ_ _ _ _ c=>CE _ _ c,λi cb e=> .inl e,aM _,C5⟩
  .rw[w5]at e
   cases hd:ds[t]? <;>rw[hd]at e<;>cases e
  .rw[w5]
   cases hd:ds[t]? with
   |none=>trivial
   |some d=>
    have⟨v,hv,hr⟩:=oL.get hd;have:(vs.toArray++Array.replicate (fn.ntmps-vs.toArray.size) Go.undef).getD t Go.undef=v:=by
     have aw:=(eB.1 hv).1;rw[sB,QD (by simpa using aw)];simp[hv]
    show fV C ψ (.v d) _;rw[this];exact hr
  .refine⟨?_,λ_ _=>rfl⟩
   show(vs.toArray++Array.replicate (fn.ntmps-vs.toArray.size) Go.undef).size=fn.ntmps;rw[Array.size_append,Array.size_replicate,List.size_toArray];omega
 have done: ∀ {E':Env} {s':St} {ψ':Ps} {tmps:Array Value} {w':World},qP C E' fn.results.toList (λds=>(ax ds:M ah)) s'=some out->jT C ψ s w ψ' s' w'->JF ψ' E' tmps fn.results.toList->
   ∃v,(results fn tmps).run C.P w'= .ok v w'/\∃ds,out.1= .val ds/\∃ψ',jT C ψ s w ψ' out.2 w'/\BN C ψ' ds v:=by
  intro E' s' ψ' tmps w' h' cp hp;have⟨mD,jm,hk,hr,ec⟩:=V3 cp.fh hp h';simp only[ax,fZ]at hk;refine⟨_,ZnD ec,mD,by rw[<-hk],ψ',?_,?_⟩
  .rw[<-hk];exact cp
  .by_cases h1:jm.length=1
   .rw[dif_pos h1]
    cases hr with
    |nil=>cases h1
    |cons d v ds vs a b=>
     cases b with
     |nil=>exact .inl ⟨d,rfl,a⟩
     |cons _ _ _ _ _ _=>simp at h1
   .rw[dif_neg h1]
    exact .inr ⟨by rw[hr.len];exact h1,_,rfl,hr⟩
 have adt: ∀ {ψ':Ps} {E':Env} {tmps:Array Value},(∀t,fV C ψ' (E'.get t) (tmps.getD t Go.undef))->JF ψ' E' tmps fn.results.toList:=by
  intro ψ' E' tmps hr a t _ i o he;have:=hr a;rw[he]at this;have this:VR C ψ' (.ptr (some (i,o))) (tmps.getD a Go.undef):=this;generalize tmps.getD a Go.undef=v at this;cases this with
  |ptr _ _ cb e=>exact⟨cb,e,rfl⟩
 rw[XX,Wq];refine VY hF.cfg hc hF.OF (f:=f) (aM _) _ _ _ k1 lkh lkf _ s h ψ _ w _ R ?_ ?_ ?_
 ·
  intro E1 s1 iR a1 w1 h1 R1;have⟨Hu,hu,cs,o,s2,PK,hm,Pc,hh⟩:=half E1 s1 h1;show Code.wp C.P _ _ a1 w1;have aaj: ∀v,iR (.inr v)=none:=λv=>R1.wy v (by rw[Hu];exact cB _)
  have e1:nQ iR=iR:=by
   funext x;cases x with
   |inl i=>rfl
   |inr v=>exact(aaj v).symm
  have Xk:=R1.AJ;rw[e1]at Xk;have EG: ∀h ab,CR E1 s1 h ab->CS s1 h ab:=by
   intro h ab c;cases h with
   |inl i=>exact⟨i,rfl,c⟩
   |inr v=>
    rcases c with⟨t,n,cs,e,_⟩|⟨t,l,p,e,_⟩
    .have:=R1.gX.lt t v (by rw[e];rfl);omega
    .have:=R1.gX.lt t v (by rw[e];rfl);omega
  have hN2:s2.length<=out.2.length:=by
   rcases hh with⟨_,hf⟩|⟨_,x,s3,_,Da,hf⟩
   .rw[G0 E1 s2 out hf];exact aM _
   .rw[G0 E1 s3 out hf];exact Da
  have aeN:bH C iR cs (iJ.map a1.eval):=Jj (o:=⟨some td,.makeFunc (.func g') #[] iJ.toArray,t1,p1,a1',none⟩) (D:=λ_=>True) R1.pre (λx hx=>by simp[Op.operands];exact hx) PK;refine wp_region (ZxJ (o:=⟨some td,.makeFunc (.func g') #[] iJ.toArray,t1,p1,a1',none⟩) (x:= .func (.func g') #[] (iJ.toArray.map a1.eval)) rfl rfl (by simp[execOp,Instr.makeFunc]) ?_);have ajG:a1.tmps.size=fn.ntmps:=R1.nZ.1;have X4:(a1.put (some td) (.func (.func g') #[] (iJ.toArray.map a1.eval))).eval (.tmp td)= .func (.func g') #[] (iJ.toArray.map a1.eval):=by
   rw[Act.put,Act.eval,sB,QE AC];rfl
  refine Zur (o:=⟨none,.defer ⟨.value (.tmp td), #[],aT⟩,t2,p2,a2',none⟩) (d:= { target:= .fn (.func g') (iJ.toArray.map a1.eval),args:= #[] }) rfl rfl ?_ ?_
  .simp only[execOp,resolve,X4,Deferred.ofValue]
   simp
  show tS C.P ((pR code).drop (k+1)) _ _ w1
  let d:Deferred:= { target:= .fn (.func g') (iJ.toArray.map a1.eval),args:= #[] }
  let a2:Act:= { tmps:=a1.tmps.setIfInBounds td (.func (.func g') #[] (iJ.toArray.map a1.eval)),defers:=[d] }
  have AV:({ (a1.put (some td) (.func (.func g') #[] (iJ.toArray.map a1.eval)))with defers:=d::(a1.put (some td) (.func (.func g') #[] (iJ.toArray.map a1.eval))).defers } :Act).put none Go.undef=a2:=by
   have:a1.defers=[]:=R1.defs;simp only[Act.put,this,a2]
  show tS C.P ((pR code).drop (k+1)) _ (({ (a1.put (some td) (.func (.func g') #[] (iJ.toArray.map a1.eval)))with defers:=d::(a1.put (some td) (.func (.func g') #[] (iJ.toArray.map a1.eval))).defers } :Act).put none Go.undef) w1;rw[AV];have adh: ∀t,t≠td->a2.tmps.getD t Go.undef=a1.tmps.getD t Go.undef:=by
   intro t ht;simp only[a2];rw[sB,sB,Array.getElem?_setIfInBounds_ne (Ne.symm ht)]
  let f2:Fr:=⟨s2.length,fn.ntmps,iR,s1,w1,λt=>tI fn.ntmps t&&xF fn.results.toList t,λx h=>by rw[aY]at h;have h:=h.1;unfold tI at h;rw[qX]at h;exact h,λt=>a2.tmps.getD t Go.undef,[d]⟩
  have R2:Rel C f2 iR E1 s1 a2 w1:=by
   refine⟨R1.fh,R1.gX,R1.gO,R1.lK,λt=>?_,⟨?_,λ_ _=>rfl⟩,rfl,λi h1 h2=>R1.tR i h1 (mo h2 hN2),R1.wy,(Ext.refl iR (CS s1) w1).weaken λ_ _ _ _ c=>EG _ _ c,λi cb e=> .inl e,aM _,aaj⟩
   .by_cases ht:t=td
    .subst ht;rw[hu];trivial
    .rw[adh t ht];exact R1.kq t
   .show(a1.tmps.setIfInBounds _ _).size=fn.ntmps
    simp[ajG]
  have hinv:(invoke (.fn (.func g') (iJ.toArray.map a1.eval)) #[]).run C.P=λw=> .ok (.enter g' (iJ.map a1.eval).toArray) w:=by
   funext w';have xl: ¬ga.name= "runtime.NumGoroutine" :=by simpa using aik
   have:(#[]:Array Value)++iJ.toArray.map a1.eval=(iJ.map a1.eval).toArray:=Do
   show(callFunc g' (#[]++iJ.toArray.map a1.eval)).run C.P w'=_;rw[this];simp[callFunc,EL,xl,yV]
  have ajZ: ∀ {a':Act},Ks f2 a'->∀b u,ResultVar.cell b u∈fn.results.toList->a'.tmps.getD b Go.undef=a1.tmps.getD b Go.undef:=by
   intro a' hk b u hm;have eL:f2.ok b=false:=by
    show(tI fn.ntmps b&&xF fn.results.toList b)=false;rw[Zq6 KO hm,DD]
   rw[hk.2 b eL];exact adh b (Zt7 k6 b u hm)
  have akl:=adt R1.kq;have ads: ∀ {ψ':Ps} {a':Act},Ks f2 a'->(∀h cb,iR h=some cb->ψ' h=some cb)->JF ψ' E1 a'.tmps fn.results.toList:=by
   intro ψ' a' hk aiC b u hm i o he;have⟨cb,h1,h2⟩:=akl b u hm i o he;exact⟨cb,aiC _ _ h1,by rw[ajZ hk b u hm];exact h2⟩
  have AP: ∀ {E':Env} {s':St} {ψ':Ps} {a':Act} {w':World},(ax []:M ah) s'=some (o,s2)->Rel C f2 ψ' E' s' a' w'->Leaves C.P fn a'.tmps (λe w'=>match e,w' with
    | .returned v,w'=>∃ds,out.1= .val ds/\∃ψ',jT C ψ s w ψ' out.2 w'/\BN C ψ' ds v
    | .panicked ch,w'=>pz ch/\out.1= .fy/\∃ψ',jT C ψ s w ψ' out.2 w'
    | .outgrown,_=>False) a'.defers .returning w':=by
   intro E' s' ψ' a' w' h' R';simp only[ax,fZ,FV]at h';have⟨ho,iY⟩:=h';have ho:o= .val []:=ho.symm;have iY:s'=s2:=iY;subst iY;have X0:a'.defers=[d]:=R'.defs;rw[X0];refine leaves_cons Do (by rw[hinv]) ?_;refine(Ztt (vs:=(iJ.map a1.eval).toArray) EL yV EI k9).mono ?_;rintro e u' xP ⟨rfl,rfl,rfl⟩;have wX:=R'.AJ;rcases hh with⟨_,hf⟩|⟨hp,_⟩
   .exact done hf (Xk.trans R1.len Pc wX) (ads R'.nZ wX.ext.mono)
   .rw[ho]at hp;cases hp
  refine VY hF.cfg hc hF.OF (f:=f2) (r:=(o,s2)) (aM _) _ _ _ k2 (Cr _) (Cr _) E1 s1 hm iR a2 w1 _ R2 ?_ ?_ ?_
  .intro E' s' ψ' a' w' h' R';exact AP h' R'
  .intro E' s' ψ' a' w' h' R';exact AP h' R'
  .intro ch a' w' s' e hv hp
   cases e;rcases hh with⟨⟨x,hx⟩,_⟩|⟨_,x,s3,tA,Da,hf⟩
   .cases hx
   have⟨kJ,wX⟩:=hp.post;have X0:a'.defers=[d]:=hp.defs;show Leaves C.P fn a'.tmps _ a'.defers (.panicking ch) w';rw[X0];refine leaves_cons Do (by rw[hinv]) ?_;have xq:out.2=s3:=G0 E1 s3 out hf;refine(Zuf hF hc (ψ:=kJ) (s:=s2) (w:=w') (vs:=iJ.map a1.eval) EL yV EI k9 k3 (by simpa using k11) k10 tA wX.fh (wX.ext.gO R1.gO) (wX.ext.lK R1.lK) (aeN.mono (ψ:=iR) (ψ':=kJ) λ_ _ e=>wX.ext.mono _ _ e) (λv=>?_) (λi h1 h2=>?_) hv).mono ?_
   .cases xy:kJ (.inr v)with
    |none=>rfl
    |some cb=>
     rcases wX.news _ _ xy with e|⟨i,e,_⟩
     .have:=aaj v
      rw[show f2.iQ=iR from rfl,this]at e;cases e
     .cases e
   .cases xy:kJ (.inl i)with
    |none=>rfl
    |some cb=>
     rcases wX.news _ _ xy with e|⟨j,e,_,hj⟩
     .have:=R1.tR i (hU Pc h1) (by rw[<-xq]at h2;exact h2)
      rw[show f2.iQ=iR from rfl,this]at e;cases e
     .cases e;omega
   .rintro e u' xP ⟨rfl,dp,LY,cp3⟩
    show Leaves C.P fn a'.tmps _ [] (settle u') xP;rw[dp];have aeP:=(Xk.trans R1.len Pc wX).trans (hU R1.len Pc) Da cp3;exact done hf aeP (ads hp.ks λ_ _ e=>cp3.ext.mono _ _ (wX.ext.mono _ _ e))
 ·
  intro E' s' ψ' a' w' h' R';show Leaves C.P fn a'.tmps _ a'.defers .returning w';rw[show a'.defers=[]from R'.defs];refine done h' R'.AJ λb u hm i o he=>?_
  have⟨cb,h1,h2⟩:=adt R'.kq b u hm i o he;exact⟨cb,h1,h2⟩
 .intro ch a' w' s' e hv hp
  show Leaves C.P fn a'.tmps _ a'.defers (.panicking ch) w';rw[show a'.defers=[]from hp.defs];have⟨ψ',fX⟩:=hp.post;exact⟨hv,by rw[e],ψ',by rw[e];exact fX⟩
theorem ZlV {fn:Func} {w:World} {R:Ending->World->Prop} (hfn:P.funcs[f]? =some fn) (sa:(fn.name== "runtime.NumGoroutine")=false) (hb:fn.body.isSome=true)
  (h:Calls P f vs w R):As P f vs w R:=by
 have xl: ¬fn.name= "runtime.NumGoroutine" :=by simpa using sa
 have e:(callFunc f vs).run P w= .ok (.enter f vs) w:=by
  cases dV:fn.body with
  |none=>rw[dV]at hb;cases hb
  |some c=>simp[callFunc,hfn,xl,dV]
 grind[As]
end Go.Gv
