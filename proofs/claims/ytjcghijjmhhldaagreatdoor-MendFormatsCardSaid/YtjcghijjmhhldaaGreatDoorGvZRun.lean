/- What a region's operations do, one behind the other, as the machine takes them. -/
import Derived.Test.YtjcghijjmhhldaaGreatDoorGvZOps
import Derived.Laws.Externs
import Derived.Lib.Bytealg
import Derived.OrdersHeld
import Derived.Recover
import Derived.Defers
import Derived.Lib.Join
import Derived.Lib.Repeat
set_option linter.all false
namespace Go.Gv
variable {β:Type}
structure jy (E E':Env):Prop where
 bq:E'.bq=E.bq
 get: ∀t,E'.get t=E.get t\/E'.get t= .u
def GW (dst:Nat->Option Nat) (E:Env) (o:Oper):Prop:=o.guard=none\/∃j w r,o.guard=some (j,w)/\dst j=some r/\E.get r= .v (.bool w)
def GU (dst:Nat->Option Nat) (E:Env) (o:Oper):Prop:=∃j w r,o.guard=some (j,w)/\dst j=some r/\((∃b,E.get r= .v (.bool b)/\b≠w)\/E.get r= .un)
section
variable (C:aY) (dst:Nat->Option Nat) (pr ms:al)
inductive Step:Oper×Md->Env->St->Env->St->Prop
 |act {p:Oper×Md} {E s E' s'} :GW dst E p.1->jw (jN p.2 E) pr ms p.1 E s E' s'->vI C p.1 (ls p.2 E) (jN p.2 E) E s E' s'->Step p E s E' s'
 |skip {p:Oper×Md} {E s} :GU dst E p.1->Step p E s (E.dI p.1.dst .un) s
inductive Tr:List (Oper×Md)->Env->St->Env->St->Prop
 |nil (E s):Tr [] E s E s
 |gh {l E E1 s E2 s2} :jy E E1->Tr l E1 s E2 s2->Tr l E s E2 s2
 |cons {p l E s E1 s1 E2 s2} :Step C dst pr ms p E s E1 s1->Tr l E1 s1 E2 s2->Tr (p::l) E s E2 s2
inductive kh:List (Oper×Md)->Env->St->St->Prop
 |gh {l E E1 s s2} :jy E E1->kh l E1 s s2->kh l E s s2
 |here {p l E s s'} :GW dst E p.1->p.2.x=0->qT C p.1 (ls p.2 E) E s s'->kh (p::l) E s s'
 |next {p l E s E1 s1 s2} :Step C dst pr ms p E s E1 s1->kh l E1 s1 s2->kh (p::l) E s s2
end
variable {ab ca:AB} {a0:Act} {listed:Array Bool} {ops:Array Oper} {cb:CB} {Ae E E' E0 E1 E2:Env} {QQ:Exit->Act->World->Prop} {A:FA} {f oR:FuncId} {Q Q' Q0:Kn} {J:List (Nat×JS)} {l l1 l2:List (Oper×Md)} {vs:List Value} {is:List eQ} {N i id j k m n t u x':Nat} {dst:Nat->Option Nat} {C8 L' OR:Nat->Prop} {o:Oper} {p p':Oper×Md} {r:Out β×St} {P:Program} {fS ψ ψ':Ps} {s s' s0 s1 s2:St} {v:Value} {w w' w0:World} {c:Zd} {C:aY} {args cs' ds:af} {acc fG l' ms pr:al} {h:cJ} {k':jf}
section
variable {C:aY} {dst:Nat->Option Nat} {pr ms:al}
theorem Tr.append (h:Tr C dst pr ms l1 E s E1 s1) (k:Tr C dst pr ms l2 E1 s1 E2 s2):Tr C dst pr ms (l1++l2) E s E2 s2:=by
 induction h with
 |nil=>exact k
 |gh w _ ih=>exact .gh w (ih k)
 |cons st _ ih=>exact .cons st (ih k)
theorem kh.left (h:kh C dst pr ms l1 E s s2) (l2:List (Oper×Md)):kh C dst pr ms (l1++l2) E s s2:=by
 induction h with
 |gh w _ ih=>exact .gh w ih
 |here a b c=>exact .here a b c
 |next st _ ih=>exact .next st ih
theorem Tr.dM (h:Tr C dst pr ms l1 E s E1 s1) (k:kh C dst pr ms l2 E1 s1 s2):kh C dst pr ms (l1++l2) E s s2:=by
 induction h with
 |nil=>exact k
 |gh w _ ih=>exact .gh w (ih k)
 |cons st _ ih=>exact .next st (ih k)
theorem Zj4 {r:Nat} : ∀ {l acc:List (Oper×Md)} {dw:List (Oper×Md)} {pk:Oper} {rest:List (Oper×Md)},vS r acc l=some (dw,pk,rest)->
  ∃x y z,acc.reverse++l=dw++(pk,x)::rest/\pk.op= .pick (.tmp r) y z
 |[],acc,dw,pk,rest,h=>by cases h
 |(o,x)::l,acc,dw,pk,rest,h=>by
  simp only[vS]at h;have go:vS r ((o,x)::acc) l=some (dw,pk,rest)->∃x' y z,acc.reverse++(o,x)::l=dw++(pk,x')::rest/\pk.op= .pick (.tmp r) y z:=by
   intro h;have⟨x',y,z,h1,h2⟩:=Zj4 h;exact⟨x',y,z,by rw[<-h1];simp,h2⟩
  split at h
  .rename_i t y z cX
   cases hb:Nat.beq t r with
   |true=>
    rw[hb]at h;simp only[aa,eO,xF]at h;obtain⟨rfl,rfl,rfl⟩:=h;have:=cO hb;subst this;exact⟨x,y,z,rfl,cX⟩
   |false=>rw[hb]at h;exact go h
  .exact go h
theorem Zpq: ∀ {act:List (Nat×Bool)} {g:Nat×Bool},FC act g=true->g∈act
 |[],_,h=>by cases h
 |(k,b)::r,g,h=>by
  simp only[FC,kb,aZ]at h;rcases h with⟨h1,h2⟩|h
  .have e1:=cO h1
   have e2:b=g.2:=by simpa using h2
   have:g=(k,b):=by rw[e1,e2]
   rw[this];exact List.mem_cons_self
  .exact De _ (Zpq h)
theorem D0 {j:Nat} {w:Bool} {r:Nat} : ∀ {l:List (Oper×Md)} {sk:al},wu pr dst j w r sk l=true->∀p∈l,¬Spec pr p.1/\p.1.dst≠some r
 |[],_,_,p,hp=>by cases hp
 |(o,x)::l,sk,h,p,hp=>by
  simp only[wu,aZ]at h;have⟨⟨h1,_⟩,h3⟩:=h;have iN: ¬Spec pr o:=by
   unfold Spec;intro hs;cases cX:o.op<;>rw[cX]at hs h1<;>simp only at hs h1<;>first|exact hs|(cases h1;done)|skip
   all_goals
    have⟨d,hd,iS⟩:=hs;rw[hd]at h1;simp only at h1;rw[iS]at h1;cases h1
  cases hd:o.dst with
  |none=>
   rw[hd]at h3;rcases dR.1 hp with rfl|hp
   .exact⟨iN,by simp[hd]⟩
   .exact D0 h3 p hp
  |some d=>
   rw[hd]at h3;simp only[aZ]at h3;rcases dR.1 hp with rfl|hp
   .refine⟨iN,?_⟩
    rw[hd];intro e;cases e;have:=h3.1;rw[xA]at this;cases this
   .exact D0 h3.2 p hp
theorem yb: ∀ {l:List (Oper×Md)} {t:Nat},has (fg l) t=true↔ ∃p∈l,p.1.dst=some t
 |[],t=>by simp[fg,has]
 |(o,x)::l,t=>by
  simp only[fg,dR,exists_eq_or_imp];cases hd:o.dst with
  |none=>rw[yb];simp
  |some d=>
   rw[has,kb,yb,eO];constructor
   .rintro(h|h)
    .exact .inl (cO h)
    .exact .inr h
   .rintro(h|h)
    .exact .inl (by subst h;exact xA _)
    .exact .inr h
theorem LI {j:Nat} {w:Bool} {r:Nat} (hj:dst j=some r) {b:Bool} (hb:b≠w): ∀ {l:List (Oper×Md)} {sk:al} {E:Env} {s:St},wu pr dst j w r sk l=true->E.get r= .v (.bool b)->(∀d,has sk d=true->E.get d= .un)->
  ∃E1,Tr C dst pr ms l E s E1 s/\E1.bq=E.bq/\(∀u,has (fg l) u=false->E1.get u=E.get u)
 |[],_,E,s,_,_,_=>⟨E,.nil E s,rfl,λ_ _=>rfl⟩
 |(o,x)::l,sk,E,s,h,hr,NV=>by
  have NX:=D0 h (o,x) Do;simp only[wu,aZ]at h;have⟨⟨_,h2⟩,h3⟩:=h;have hg:GU dst E o:=by
   cases hg:o.guard with
   |none=>rw[hg]at h2;cases h2
   |some g=>
    have⟨j',w'⟩:=g;rw[hg]at h2;simp only[kb,aZ]at h2;rcases h2 with⟨h4,h5⟩|h4
    .have:=cO h4
     have h5:w'=w:=by simpa using h5
     subst this;subst h5;exact⟨_,_,r,hg,hj,.inl ⟨b,hr,hb⟩⟩
    .cases hd:dst j' with
     |none=>rw[hd]at h4;cases h4
     |some d=>rw[hd]at h4;exact⟨j',w',d,hg,hd,.inr (NV d h4)⟩
  have iB:(E.dI o.dst .un).get r= .v (.bool b):=by rw[Env.iw,cG NX.2];exact hr
  cases hd:o.dst with
  |none=>
   rw[hd]at h3;have⟨E1,t1,t2,t3⟩:=LI hj hb (E:=E.dI o.dst .un) (s:=s) h3 iB (λd h=>by rw[hd];exact NV d h);refine⟨E1,.cons (.skip hg) t1,by rw[t2];simp,λu hu=>?_⟩;simp only[fg,hd]at hu;rw[t3 u hu,hd];rfl
  |some d=>
   rw[hd]at h3;simp only[aZ]at h3;have⟨E1,t1,t2,t3⟩:=LI hj hb (E:=E.dI o.dst .un) (s:=s) h3.2 iB (λd' h=>by
    rw[Env.iw,hd];simp only[has,kb]at h;by_cases e:some d=some d'
    .rw[bO e]
    .rw[cG e]
     rcases h with h|h
     .exact absurd (by rw[cO h]) e
     .exact NV d' h)
   refine⟨E1,.cons (.skip hg) t1,by rw[t2];simp,λu hu=>?_⟩;simp only[fg,hd,has,xk]at hu;rw[t3 u hu.2,Env.iw,hd,cG];intro e;cases e;rw[xA]at hu;cases hu.1
theorem Znu {md:Md} {r:Nat} {y z:Operand} {b:Bool} (ho:o.op= .pick (.tmp r) y z) (hb:E.get r= .v (.bool b)) (hg:GW dst E o):
  Step C dst pr ms (o,md) E s (E.dI o.dst (E.src C (if b then y else z))) s:=by
 refine .act hg (jw.OB pr ms _ (Env.CX C E _) (λhE r v n h=>Env.xe C hE h)) (vI.pure (EG md E) _ (Env.CX C E _) λψ Q a w p=>⟨a.eval (if b then y else z),w,?_,.refl w,p.src ?_⟩)
 .have:=p.val (x:= .tmp r) (by simp[Op.operands,ho]) (d:= .bool b) (by rw[Env.src,hb])
  generalize hv:a.eval (.tmp r)=v at this;cases this;cases b<;>simp[execOp,ho,hv,asBool]
 .cases b<;>simp[Op.operands,ho]
structure Mod (un:Nat->Prop) (E E':Env):Prop where
 get: ∀u,un u->E'.get u=E.get u
 bq:E.bq<=E'.bq
 qJ: ∀t v n cs,E'.get t= .loc v n cs->(∃jA,E.get t= .loc v n jA)\/E.bq<=v
 sm: ∀t v l p,E'.get t= .it v l p->(∃p0,E.get t= .it v l p0)\/E.bq<=v
theorem Mod.refl (un:Nat->Prop) (E:Env):Mod un E E:=⟨λ_ _=>rfl,aW _,λ_ _ _ cs h=> .inl ⟨cs,h⟩,λ_ _ _ p h=> .inl ⟨p,h⟩⟩
theorem Mod.trans {un:Nat->Prop} (h:Mod un E E') (k:Mod C8 E' Ae) (h1: ∀u,OR u->un u) (h2: ∀u,OR u->C8 u):Mod OR E Ae:=by
 refine⟨λu hu=>by rw[k.get u (h2 u hu),h.get u (h1 u hu)],fF h.bq k.bq,λt v n cs e=>?_,λt v l p e=>?_⟩
 .rcases k.qJ t v n cs e with⟨c,e⟩|e
  .exact h.qJ t v n c e
  .exact .inr (fF h.bq e)
 .rcases k.sm t v l p e with⟨c,e⟩|e
  .exact h.sm t v l c e
  .exact .inr (fF h.bq e)
def Du (ms:al) (l:List (Oper×Md)) (u:Nat):Prop:=(∀p∈l,p.1.dst≠some u)/\has ms u=false
def Rh (P:Program) (pr:al) (ops:List Oper) (p:Oper×Md):Prop:=p.2= .s\/∃x k m,p.2= .d (ph pr ops k m (cls P pr ops p.1)) x
theorem ZnO (hC:kI C) (hc:ZI C c) {ops:List Oper} : ∀(n:Nat) (l:List (Oper×Md)) (act:List (Nat×Bool)) (E:Env) (K:Env->M β) (s:St),
  nY C pr ms c dst n l act E K s=some r->(∀p∈l,Rh C.P pr ops p)->
  (∀g∈act,(∃q,dst g.1=some q/\E.get q= .v (.bool g.2)/\∀p∈l,p.1.dst≠some q)/\∀p∈l,¬Spec pr p.1)->
  (∃E' s',Tr C dst pr ms l E s E' s'/\K E' s'=some r/\((∀p∈l,¬Spec pr p.1)->E'.bq=E.bq/\∀u,(∀p∈l,p.1.dst≠some u)->E'.get u=E.get u)/\Mod (Du ms l) E E')\/
  (∃s',r=(.dM,s')/\kh C dst pr ms l E s s'):=by
 intro n;induction n with
 |zero=>
  intro l act E K s h iM uP;cases l with
  |nil=>exact .inl ⟨E,s,.nil E s,h,λ_=>⟨rfl,λ_ _=>rfl⟩,.refl _ _⟩
  |cons p l=>cases h
 |succ n ih=>
  intro l act E K s h iM uP;cases l with
  |nil=>exact .inl ⟨E,s,.nil E s,h,λ_=>⟨rfl,λ_ _=>rfl⟩,.refl _ _⟩
  |cons p rest=>
   have⟨o,md⟩:=p;simp only[nY]at h;have gw: ∀ {E:Env} {o':Oper},(∀g∈act,∃q,dst g.1=some q/\E.get q= .v (.bool g.2))->FD act o'.guard=true->GW dst E o':=by
    intro E o' ha hg;cases ze:o'.guard with
    |none=>exact .inl ze
    |some g=>
     rw[ze]at hg;have⟨q,h1,h2⟩:=ha g (Zpq hg);exact .inr ⟨g.1,g.2,q,ze,h1,h2⟩
   cases hg:FD act o.guard with
   |true=>
    rw[hg]at h;simp only[aa]at h;have F0:=gw (E:=E) (λg hm=>let ⟨⟨q,h1,h2,_⟩,_⟩:=uP g hm;⟨q,h1,h2⟩) hg;rcases LU hC hc (iM (o,md) Do) h with⟨E1,s1,hk,hF,hO⟩|⟨hx,s',rfl,hp⟩
    .have Cs:Step C dst pr ms (o,md) E s E1 s1:= .act F0 hF hO
     have gU: ¬Spec pr o->E1.bq=E.bq/\∀u,o.dst≠some u->E1.get u=E.get u:=by
      intro hs;rcases hF.plain with⟨e,_,rfl⟩|h
      .exact⟨Do,λu hu=>by rw[Env.iw,cG hu]⟩
      .exact absurd h hs
     rcases ih rest act E1 K s1 hk (λp hp=>iM p (by simp[hp])) (λg hm=>by
      have⟨⟨q,h1,h2,h3⟩,h4⟩:=uP g hm;exact⟨⟨q,h1,by rw[(gU (h4 (o,md) Do)).2 q (h3 (o,md) Do)];exact h2,λp hp=>h3 p (by simp[hp])⟩,λp hp=>h4 p (by simp[hp])⟩)with⟨E2,s2,t,fQ,hn,ND⟩|⟨s2,e,t⟩
     .refine .inl ⟨E2,s2,.cons Cs t,fQ,λhs=>?_,?_⟩
      rotate_left
      .have m1:Mod (λu=>o.dst≠some u/\has ms u=false) E E1:=⟨λu hu=>hF.other u hu.1 hu.2,hF.bq,λt v n cs h=>(hF.qJ t v n cs h).imp id And.left,λt v l p h=>(hF.sm t v l p h).imp id And.left⟩
       exact m1.trans ND (λu hu=>⟨hu.1 (o,md) Do,hu.2⟩) (λu hu=>⟨λp hp=>hu.1 p (by simp[hp]),hu.2⟩)
      have⟨k1,k2⟩:=gU (hs (o,md) Do);have⟨n1,n2⟩:=hn λp hp=>hs p (by simp[hp])
      exact⟨by rw[n1,k1],λu hu=>by rw[n2 u λp hp=>hu p (by simp[hp]),k2 u (hu (o,md) Do)]⟩
     .exact .inr ⟨s2,e,.next Cs t⟩
    .exact .inr ⟨s',rfl,.here F0 hx hp⟩
   |false=>
    rw[hg]at h;simp only[ae]at h;cases ze:o.guard with
    |none=>rw[ze]at h;cases h
    |some g=>
     have⟨j,w⟩:=g;rw[ze]at h;simp only at h;cases hj:dst j with
     |none=>rw[hj]at h;cases h
     |some q=>
      rw[hj]at h;simp only at h;cases hq:E.get q with
      |v d=>
       cases d with
       |bool b=>
        rw[hq]at h;cases BM:vS q [] ((o,md)::rest)with
        |none=>rw[BM]at h;cases h
        |some x=>
         have⟨dw,pk,kB⟩:=x;rw[BM]at h;simp only at h;have⟨nB,y,z,hl,Ci⟩:=Zj4 BM;simp only[List.reverse_nil,mN]at hl;rw[Ci]at h;cases Ch:pk.dst with
         |none=>rw[Ch]at h;cases h
         |some t=>
          rw[Ch]at h;simp only at h;have⟨gT,h⟩:=Zq h;rw[aZ]at gT;have⟨Qg,Qh⟩:=gT;have wG:=D0 Qh;rw[hl];rw[hl]at iM uP;have after: ∀(E1:Env) (s1:St) (v:Bool),Tr C dst pr ms (dw++[(pk,nB)]) E s ((E.del (fg dw)).put t (.v (.bool v))) s1->
            nY C pr ms c dst n kB act ((E.del (fg dw)).put t (.v (.bool v))) K s1=some r->
            (∃E' s',Tr C dst pr ms (dw++(pk,nB)::kB) E s E' s'/\K E' s'=some r/\((∀p∈dw++(pk,nB)::kB,¬Spec pr p.1)->E'.bq=E.bq/\∀u,(∀p∈dw++(pk,nB)::kB,p.1.dst≠some u)->E'.get u=E.get u)/\Mod (Du ms (dw++(pk,nB)::kB)) E E')\/
            (∃s',r=(.dM,s')/\kh C dst pr ms (dw++(pk,nB)::kB) E s s'):=by
           intro E1 s1 v ht hr;have e:dw++(pk,nB)::kB=(dw++[(pk,nB)])++kB:=Do
           have get: ∀u,(∀p∈dw++(pk,nB)::kB,p.1.dst≠some u)->((E.del (fg dw)).put t (.v (.bool v))).get u=E.get u:=by
            intro u hu;rw[Env.nk,cG (λe=>hu (pk,nB) Do (by rw[Ch,e])),sO];have:has (fg dw) u=false:=by
             cases hh:has (fg dw) u with
             |false=>rfl
             |true=>
              have⟨p,hp,hd⟩:=yb.1 hh;exact absurd hd (hu p (by simp[hp]))
            rw[this];rfl
           rcases ih kB act _ K s1 hr (λp hp=>iM p (by simp[hp])) (λg hm=>by
            have⟨⟨q',h1,h2,h3⟩,h4⟩:=uP g hm;exact⟨⟨q',h1,by rw[get q' h3];exact h2,λp hp=>h3 p (by simp[hp])⟩,λp hp=>h4 p (by simp[hp])⟩)with⟨E2,s2,t2,fQ,hn,ND⟩|⟨s2,e2,t2⟩
           .refine .inl ⟨E2,s2,by rw[e];exact ht.append t2,fQ,λhs=>?_,?_⟩
            rotate_left
            .have m1:Mod (λu=>∀p∈dw++(pk,nB)::kB,p.1.dst≠some u) E ((E.del (fg dw)).put t (.v (.bool v))):=by
              refine⟨get,aW _,λu v' n' cs e=>?_,λu v' l' p e=>?_⟩<;>rw[Env.nk,sO]at e<;>split at e
              .cases e
              .split at e
               .cases e
               .exact .inl ⟨cs,e⟩
              .cases e
              .split at e
               .cases e
               .exact .inl ⟨p,e⟩
             exact m1.trans ND (λu hu=>hu.1) (λu hu=>⟨λp hp=>hu.1 p (by simp[hp]),hu.2⟩)
            have⟨n1,n2⟩:=hn λp hp=>hs p (by simp[hp])
            exact⟨by rw[n1];rfl,λu hu=>by rw[n2 u λp hp=>hu p (by simp[hp]),get u hu]⟩
           .exact .inr ⟨s2,e2,by rw[e];exact ht.dM t2⟩
          have nd: ∀u,(∀p∈dw++(pk,nB)::kB,p.1.dst≠some u)->has (fg dw) u=false:=by
           intro u hu;cases hh:has (fg dw) u with
           |false=>rfl
           |true=>
            have⟨p,hp,hd⟩:=yb.1 hh;exact absurd hd (hu p (by simp[hp]))
          have nq:has (fg dw) q=false:=by
           cases hh:has (fg dw) q with
           |false=>rfl
           |true=>
            have⟨p,hp,hd⟩:=yb.1 hh;exact absurd hd (wG p hp).2
          have jk: ∀(d:DV) (s1:St),(im [d] λd st=>p7 d λv=>aL st (nY C pr ms c dst n kB act ((E.del (fg dw)).put t (.v (.bool v))) K)) s1=some r->
            ∃v,d= .bool v/\nY C pr ms c dst n kB act ((E.del (fg dw)).put t (.v (.bool v))) K s1=some r:=by
           intro d s1 h;cases d with
           |bool v=>exact⟨v,rfl,h⟩
           |_=>cases h
          have Q5: ∀(v:Bool) u,((E.del (fg dw)).put t (.v (.bool v))).get u=if t=u then .v (.bool v)else if has (fg dw) u then .u else E.get u:=λv u=>by rw[Env.nk,sO]
          simp only[Ff]at h;by_cases oT:b=w
          ·
           subst oT;have h':nY C pr ms c dst n dw ((j,b)::act) (E.put q (.v (.bool b))) (λE1=>dQ C E1 (bif b then y else z) λd=>im [d] λd st=>p7 d λv=>aL st (nY C pr ms c dst n kB act ((E.del (fg dw)).put t (.v (.bool v))) K)) s=some r:=by
            cases b<;>exact h
           have CO: ∀u,(E.put q (.v (.bool b))).get u=E.get u:=λu=>by
            rw[Env.nk];split
            .rename_i e;subst e;exact hq.symm
            .rfl
           have cD:jy E (E.put q (.v (.bool b))):=⟨rfl,λu=> .inl (CO u)⟩;rcases ih dw ((j,b)::act) _ _ s h' (λp hp=>iM p (by simp[hp])) (λg hm=>by
            refine⟨?_,λp hp=>(wG p hp).1⟩;rcases dR.1 hm with rfl|hm
            .exact⟨q,hj,by rw[CO];exact hq,λp hp=>(wG p hp).2⟩
            .have⟨⟨q',h1,h2,h3⟩,_⟩:=uP g hm
             exact⟨q',h1,by rw[CO];exact h2,λp hp=>h3 p (by simp[hp])⟩)with⟨E1,s1,t1,jl,wL,_⟩|⟨s1,e1,t1⟩
           .have⟨n1,n2⟩:=wL λp hp=>(wG p hp).1
            have⟨d,hd,jl⟩:=Zt jl;obtain⟨v,rfl,jl⟩:=jk d s1 jl;have Gd:E1.get q= .v (.bool b):=by rw[n2 q λp hp=>(wG p hp).2,CO];exact hq
            have Pt: ∀u,has (fg dw) u=false->E1.get u=E.get u:=λu hu=>by
             rw[n2 u (λp hp hd=>by rw[yb.2 ⟨p,hp,hd⟩]at hu;cases hu),CO]
            have bx:=Znu (C:=C) (pr:=pr) (ms:=ms) (md:=nB) (s:=s1) Ci Gd (gw (E:=E1) (λg hm=>by
             have⟨⟨q',h1,h2,h3⟩,_⟩:=uP g hm;exact⟨q',h1,by rw[Pt q' (nd q' h3)];exact h2⟩) Qg)
            have NY:E1.src C (if b then y else z)= .v (.bool v):=by cases b<;>exact hd
            rw[NY,Ch]at bx;have fR:jy (E1.dI (some t) (.v (.bool v))) ((E.del (fg dw)).put t (.v (.bool v))):=by
             refine⟨by rw[Env.zK,n1];rfl,λu=>?_⟩;rw[Q5,Env.iw];by_cases e:t=u
             .subst e;simp
             .rw[cG e,cG (λh=>e (xE h))]
              cases hu:has (fg dw) u with
              |true=>exact .inr rfl
              |false=>exact .inl (Pt u hu).symm
            exact after E1 s1 v (.gh cD (t1.append (.cons bx (.gh fR (.nil _ _))))) jl
           .exact .inr ⟨s1,e1,.gh cD (t1.left _)⟩
          ·
           have h':dQ C ((E.del (fg dw)).put q (.v (.bool !w))) (bif w then z else y) (λd=>im [d] λd st=>p7 d λv=>aL st (nY C pr ms c dst n kB act ((E.del (fg dw)).put t (.v (.bool v))) K)) s=some r:=by
            cases w<;>cases b<;>first|exact h|exact absurd rfl oT
           have⟨d,hd,jl⟩:=Zt h';obtain⟨v,rfl,jl⟩:=jk d s jl;have⟨E1,t1,t2,t3⟩:=LI (C:=C) (pr:=pr) (ms:=ms) hj oT (s:=s) Qh hq (λd h=>by cases h);have Gd:E1.get q= .v (.bool b):=by rw[t3 q nq];exact hq
           have bx:=Znu (C:=C) (pr:=pr) (ms:=ms) (md:=nB) (s:=s) Ci Gd (gw (E:=E1) (λg hm=>by
            have⟨⟨q',h1,h2,h3⟩,_⟩:=uP g hm;exact⟨q',h1,by rw[t3 q' (nd q' h3)];exact h2⟩) Qg)
           have PI:b= !w:=by cases w<;>cases b<;>first|rfl|exact absurd rfl oT
           have NY:E1.src C (if b then y else z)= .v (.bool v):=by
            have hx:(if b then y else z)=(bif w then z else y):=by subst PI;cases w<;>rfl
            rw[hx,<-hd];generalize (bif w then z else y)=x at hd;cases x with
            |tmp u=>
             have hg:E1.get u=((E.del (fg dw)).put q (.v (.bool !w))).get u:=by
              rw[Env.nk,sO];by_cases e:q=u
              .subst e;rw[bO rfl,Gd,PI]
              .rw[cG e]
               cases hu:has (fg dw) u with
               |false=>exact t3 u hu
               |true=>
                simp only[Env.src,Env.nk,sO,cG e,hu,ju]at hd;cases hd
             simp only[Env.src,hg]
            |_=>rfl
           rw[NY,Ch]at bx;have fR:jy (E1.dI (some t) (.v (.bool v))) ((E.del (fg dw)).put t (.v (.bool v))):=by
            refine⟨by rw[Env.zK,t2];rfl,λu=>?_⟩;rw[Q5,Env.iw];by_cases e:t=u
            .subst e;simp
            .rw[cG e,cG (λh=>e (xE h))]
             cases hu:has (fg dw) u with
             |true=>exact .inr rfl
             |false=>exact .inl (t3 u hu).symm
           exact after E1 s v (t1.append (.cons bx (.gh fR (.nil _ _)))) jl
       |_=>rw[hq]at h;cases h
      |_=>rw[hq]at h;cases h
end
structure Fr where
 N:Nat
 nt:Nat
 fS:Ps
 s0:St
 w0:World
 ok:Nat->Bool
 CL: ∀x,ok x=true->x<nt
 kv:Nat->Value
 MI:List Deferred
def Ks (f:Fr) (a:Act):Prop:=a.tmps.size=f.nt/\∀t,f.ok t=false->a.tmps.getD t undef=f.kv t
structure Rel (C:aY) (f:Fr) (ψ:Ps) (E:Env) (s:St) (a:Act) (w:World):Prop where
 dD:dN C ψ (CR E s) w
 fh:gG E
 eS:mP ψ w
 iK:Glob C ψ
 gW: ∀t,eV C ψ (E.get t) (a.tmps.getD t undef)
 j6:Ks f a
 defs:a.defers=f.MI
 nK: ∀i,s.length<=i->i<f.N->ψ (.inl i)=none
 pj: ∀v,E.bq<=v->ψ (.inr v)=none
 ext:Ext f.fS (CS f.s0) f.w0 ψ (CR E s) w
 news: ∀i cb,ψ (.inl i)=some cb->f.fS (.inl i)=some cb\/(f.s0.length<=i/\i<s.length)
 len:f.s0.length<=s.length
 fin: ∀v,f.fS (.inr v)=none
section
variable {C:aY} {f:Fr} {ψ ψ':Ps} {E E':Env} {s s':St} {a:Act} {w w':World} {Q':Kn} {o:Oper} {D W:cJ->Prop} {pr ms:al}
theorem gG.gh (h:gG E) (k:jy E E'):gG E':=by
 have g: ∀t x,E'.get t=x->x≠ .u->E.get t=x:=λt x e hx=>by
  rcases k.get t with h|h
  .rw[<-h];exact e
  grind
 constructor
 .intro t v hv
  rw[k.bq];rcases k.get t with e|e
  .rw[e]at hv;exact h.lt t v hv
  .rw[e]at hv;cases hv
 .intro t r v n e
  rw[k.bq];exact h.pl t r v n (g t _ e Do)
 .intro t v n cs e
  exact h.len t v n cs (g t _ e Do)
 .intro t t' v hv dB
  rcases k.get t with e|e
  .rcases k.get t' with e'|e'
   .rw[e]at hv;rw[e']at dB;exact h.uniq t t' v hv dB
   .rw[e']at dB;cases dB
  .rw[e]at hv;cases hv
theorem CR.gh (k:jy E E') {h:cJ} {ab:AB} (c:CR E' s h ab):CR E s h ab:=by
 have g: ∀t x,E'.get t=x->x≠ .u->E.get t=x:=λt x e hx=>by
  rcases k.get t with h|h
  .rw[<-h];exact e
  grind
 cases h with
 |inl i=>exact c
 |inr v=>
  rcases c with⟨t,n,cs,e,fm⟩|⟨t,l,p,e,fm⟩
  .exact .inl Fd
  .exact .inr Fd
theorem Rel.gh (R:Rel C f ψ E s a w) (k:jy E E'):Rel C f ψ E' s a w where
 dD:=R.dD.weaken λ_ _ _ _ c=>c.gh k
 fh:=R.fh.gh k
 eS:=R.eS
 iK:=R.iK
 gW:=λt=>by
  rcases k.get t with e|e
  .rw[e];exact R.gW t
  .rw[e];exact trivial
 j6:=R.j6
 defs:=R.defs
 nK:=R.nK
 pj:=λv hv=>R.pj v (by rw[<-k.bq];exact hv)
 ext:=R.ext.weaken λ_ _ _ _ c=>c.gh k
 news:=R.news
 len:=R.len
 fin:=R.fin
theorem IE (a:Act) (d:Option Nat) (v:Value):(a.put d v).tmps.size=a.tmps.size:=by cases d<;>simp[Act.put]
theorem D2 (a:Act) (d:Option Nat) (v:Value):(a.put d v).defers=a.defers:=by cases d<;>rfl
theorem Bf {a:Act} {d:Option Nat} (hd: ∀x,d=some x->x<a.tmps.size):(a.put d v).tmps.getD t undef=if d=some t then v else a.tmps.getD t undef:=by
 cases d with
 |none=>simp[Act.put]
 |some x=>
  simp only[Act.put,eO,mM];by_cases e:x=t
  .grind
  grind
theorem Ks.put (h:Ks f a) {d:Option Nat} {v:Value} (hd: ∀x,d=some x->f.ok x=true):Ks f (a.put d v):=by
 refine⟨by rw[IE];exact h.1,λt ht=>?_⟩;rw[Bf λx hx=>by rw[h.1];exact f.CL x (hd x hx),cG λe=>by rw[hd t e]at ht;cases ht];exact h.2 t ht
theorem Rel.room (R:Rel C f ψ E s a w) (hN:s'.length<=f.N):Dr E s E' s' ψ:=by
 rintro h ⟨n1,n2⟩;cases h with
 |inl i=>exact R.nK i (ui.1 n1) (lR n2 hN)
 |inr v=>exact R.pj v (ui.1 n1)
theorem Rel.pre (R:Rel C f ψ E s a w):ax C o D E s ψ (CR E s) a w:=⟨R.dD,R.eS,R.iK,R.fh,λ_ _ _ _ c _=>c,λt _=>R.gW t⟩
theorem Rel.step (R:Rel C f ψ E s a w) (hF:jw W pr ms o E s E' s') (hP:Dp C D W E s E' s' ψ (CR E s) w ψ' Q' w') (he: ∀d,o.dst=some d->eV C ψ' (E'.get d) v) (hd: ∀x,o.dst=some x->f.ok x=true):
  Rel C f ψ' E' s' (a.put o.dst v) w':=by
 have known: ∀h ab cb,ψ' h=some cb->CR E' s' h ab->Q' h ab:=by
  intro h ab cb e c;by_cases hw:W h\/qS E s E' s' h
  .exact hP.p1 h ab cb c hw e
  .have c':CR E s h ab:=by
    rcases hF.back h ab c with x|x|x
    .grind
    .grind
    .exact x
   rcases hP.news h cb e with e|e
   .exact hP.p2 h ab cb e c' (λx=>hw (.inl x)) (λ_ _=>c')
   grind
 refine⟨hP.dD.weaken known,hF.fh R.fh,hP.ext.eS R.eS,hP.ext.iK R.iK,λt=>?_,R.j6.put hd,by rw[D2];exact R.defs,λi h1 h2=>?_,λv h1=>?_,R.ext.trans (hP.ext.weaken known),λi cb e=>?_,fF R.len hF.len,R.fin⟩
 .rw[Bf λx hx=>by rw[R.j6.1];exact f.CL x (hd x hx)]
  by_cases e:o.dst=some t
  .rw[bO e];exact he t e
  .rw[cG e];exact(hF.du t e C ψ _ (R.gW t)).mono hP.ext.mono
 .cases e:ψ' (.inl i)with
  |none=>rfl
  |some cb=>
   rcases hP.news _ cb e with e|⟨_,e⟩
   .rw[R.nK i (fF hF.len h1) h2]at e;cases e
   .simp only[cY]at e;omega
 .cases e:ψ' (.inr v)with
  |none=>rfl
  |some cb=>
   rcases hP.news _ cb e with e|⟨_,e⟩
   .rw[R.pj v (fF hF.bq h1)]at e;cases e
   .simp only[cY]at e;omega
 .rcases hP.news _ cb e with e|⟨n1,n2⟩
  .rcases R.news i cb e with h|⟨h1,h2⟩
   .exact .inl h
   .exact .inr ⟨h1,lR h2 hF.len⟩
  .exact .inr ⟨fF R.len (ui.1 n1),n2⟩
structure mU (C:aY) (f:Fr) (s:St) (a:Act) (w:World):Prop where
 defs:a.defers=f.MI
 ks:Ks f a
 post: ∃ψ',gO C f.fS f.s0 f.w0 ψ' s w
theorem ZqV (b:Bool):undef≠Value.bool b:=by unfold undef;simp
theorem Ez (a:Act) (r:Nat) (b:Bool) (h:a.tmps.getD r undef= .bool b):a.tmps[r]? =some (.bool b):=by
 rw[mM]at h;cases e:a.tmps[r]? with
 |none=>rw[e]at h;exact absurd h (ZqV b)
 |some v=>rw[e]at h;grind
def jQ (ops:Array Oper) (j:Nat):Option Nat:=match ops.toList[j]? with|some o=>o.dst|none=>none
theorem ED (ops:Array Oper) (j:Nat):jQ ops j=(ops[j]?).bind (·.dst):=by
 grind[jQ]
theorem KW (R: ∀t,eV C ψ (E.get t) (a.tmps.getD t undef)) (h:GW (jQ ops) E o):Region.wanted o (yielded ops a.tmps)=true:=by
 unfold Region.wanted;rcases h with h|⟨j,w,r,h1,h2,h3⟩
 .rw[h]
 .rw[h1]
  rw[ED]at h2;have hr:=R r;rw[h3]at hr;have:a.tmps.getD r undef= .bool w:=by generalize a.tmps.getD r undef=x at hr;cases hr;rfl
  simp[yielded,h2,Ez a r w this]
theorem ZkR (R: ∀t,eV C ψ (E.get t) (a.tmps.getD t undef)) (h:GU (jQ ops) E o):Region.wanted o (yielded ops a.tmps)=false:=by
 unfold Region.wanted;have⟨j,w,r,h1,h2,h3⟩:=h;rw[h1];rw[ED]at h2;have hr:=R r;rcases h3 with⟨b,h3,hb⟩|h3
 .rw[h3]at hr
  have:a.tmps.getD r undef= .bool b:=by generalize a.tmps.getD r undef=x at hr;cases hr;rfl
  simp[yielded,h2,Ez a r b this,hb]
 .rw[h3]at hr
  have hr:a.tmps.getD r undef=undef:=hr;have:a.tmps[r]? =none\/a.tmps[r]? =some undef:=by
   rw[mM]at hr;grind
  have hy:yielded ops a.tmps j=none:=by
   unfold yielded;rw[h2];rcases this with e|e<;>simp[e,undef]
  simp[hy]
theorem Rel.undef (R:Rel C f ψ E s a w) (hd: ∀x,o.dst=some x->f.ok x=true):Rel C f ψ (E.dI o.dst .un) s (a.put o.dst Go.undef) w:=by
 have FV: ∀h ab,CR (E.dI o.dst .un) s h ab->CR E s h ab:=λh ab c=>c.dI rfl
 refine⟨R.dD.weaken λ_ _ _ _ c=>FV _ _ c,R.fh.dI rfl (λ_ _ _ h=>by cases h),R.eS,R.iK,λt=>?_,R.j6.put hd,by rw[D2];exact R.defs,R.nK,λv hv=>R.pj v (by simpa using hv),R.ext.weaken λ_ _ _ _ c=>FV _ _ c,R.news,R.len,R.fin⟩;rw[Bf λx hx=>by rw[R.j6.1];exact f.CL x (hd x hx),Env.iw];by_cases e:o.dst=some t
 .rw[bO e,bO e];rfl
 .rw[cG e,cG e];exact R.gW t
theorem tc (wC: ∀v,f.fS (.inr v)=none) (tK:dN C ψ' Q' w') (oV:Ext f.fS (CS f.s0) f.w0 ψ' Q' w')
  (hk: ∀i ab cb,cu s' i=some ab->ψ' (.inl i)=some cb->Q' (.inl i) ab) (Xc: ∀i cb,ψ' (.inl i)=some cb->f.fS (.inl i)=some cb\/(f.s0.length<=i/\i<s'.length)):
  gO C f.fS f.s0 f.w0 (j4 ψ') s' w':=by
 have GR: ∀b,oF (j4 ψ') (CS s') b->oF ψ' Q' b:=by
  rintro b ⟨k,cb,ab,e,⟨i,rfl,q⟩,hs,hb⟩;exact⟨.inl i,cb,ab,e,hk i ab cb q e,hs,hb⟩
 refine⟨Zoz tK hk,⟨λh cb e=>?_,λh cb e=>oV.nF h cb (xZ e).1,oV.size,oV.gU,λb hb=>oV.fq b (GR b hb),λh cb x e q=>?_,oV.tape,oV.os,oV.output⟩,λh cb e=>?_⟩
 .cases h with
  |inl i=>exact oV.mono _ _ e
  |inr v=>rw[wC]at e;cases e
 .obtain⟨i,rfl,q⟩:=q
  exact oV.live (.inl i) cb x e (hk i x cb q (oV.mono _ _ e))
 .obtain⟨e,i,rfl⟩:=xZ e
  grind
theorem Rel.tc (R:Rel C f ψ E s a w):gO C f.fS f.s0 f.w0 (j4 ψ) s w:=
 Go.Gv.tc R.fin R.dD R.ext (λ_ _ _ h _=>h) R.news
theorem Tr.len {dst:Nat->Option Nat} {l:List (Oper×Md)} (h:Tr C dst pr ms l E s E' s'):s.length<=s'.length:=by
 induction h with
 |nil=>exact aW _
 |gh _ _ ih=>exact ih
 |cons st _ ih=>
  refine fF ?_ ih;cases st with
  |act _ hF _=>exact hF.len
  |skip _=>exact aW _
theorem kh.len {dst:Nat->Option Nat} {l:List (Oper×Md)} (h:kh C dst pr ms l E s s'):s.length<=s'.length:=by
 induction h with
 |gh _ _ ih=>exact ih
 |here _ _ hp=>exact hp.1
 |next st _ ih=>
  refine fF ?_ ih;cases st with
  |act _ hF _=>exact hF.len
  |skip _=>exact aW _
theorem Rel.QV (R:Rel C f ψ E s a w) (hN:s'.length<=f.N) (hp:qT C o D E s s') {next:Act->World->Prop} (h: ∀ch a' w',kK ch->mU C f s' a' w'->QQ (.panic ch) a' w'):o.wp C.P a w next QQ:=by
 refine hp.2 ψ (CR E s) a w next QQ R.pre (R.room hN) λψ' Q' ch w' h0 h1 h2 h3 h4=>h ch a w' h0 ⟨R.defs,R.j6,_,Go.Gv.tc (s':=s') R.fin h1 (R.ext.trans h2) h4 λi cb e=>?_⟩
 rcases h3 _ cb e with e|⟨n1,n2⟩
 .rcases R.news i cb e with h|⟨h1,h2⟩
  .exact .inl h
  .exact .inr ⟨h1,lR h2 hp.1⟩
 .exact .inr ⟨fF R.len (ui.1 n1),n2⟩
theorem ZsQ (t:Tr C (jQ ops) pr ms l E s E2 s2): ∀ {i:Nat} {a:Act} {w:World} {ψ:Ps},Rel C f ψ E s a w->s2.length<=f.N->
  (∀p∈l,∀x,p.1.dst=some x->f.ok x=true)->(∀k p,l[k]? =some p->ops[i+k]? =some p.1)->(∀ψ' a' w',Rel C f ψ' E2 s2 a' w'->QQ .normal a' w')->wpOps C.P ops QQ (List.range' i l.length) a w:=by
 induction t with
 |nil=>intro i a w ψ R _ _ _ h;exact h ψ a w R
 |gh k _ ih=>intro i a w ψ R hN hd hi h;exact ih (R.gh k) hN hd hi h
 |cons st t ih=>
  rename_i p l E s E1 s1 E2 s2;intro i a w ψ R hN hd hi h;have oX:=hi 0 p rfl;simp only[dK]at oX;have rest: ∀ {fT a1 w1},Rel C f fT E1 s1 a1 w1->wpOps C.P ops QQ (List.range' (i+1) l.length) a1 w1:=λR1=>
   ih R1 hN Fd (λk q hk=>by have:=hi (k+1) q (by simpa using hk);rwa [show i+(k+1)=i+1+k by omega]at this) h
  simp only[eK,List.range'_succ,wpOps,oX];cases st with
  |act hg hF hO=>
   rw[bO (KW R.gW hg)];exact .inl (hO ψ (CR E s) a w _ QQ R.pre (R.room (fF t.len hN)) λψ' Q' v w' hP he=>rest (R.step hF hP he (hd p Do)))
  |skip hg=>
   rw[cG (by rw[ZkR R.gW hg];simp)];exact rest (R.undef (hd p Do))
theorem ZrP (t:kh C (jQ ops) pr ms l E s s2): ∀ {i:Nat} {a:Act} {w:World} {ψ:Ps},Rel C f ψ E s a w->s2.length<=f.N->
  (∀p∈l,∀x,p.1.dst=some x->f.ok x=true)->(∀k p,l[k]? =some p->ops[i+k]? =some p.1)->(∀ch a' w',kK ch->mU C f s2 a' w'->QQ (.panic ch) a' w')->wpOps C.P ops QQ (List.range' i l.length) a w:=by
 induction t with
 |gh k _ ih=>intro i a w ψ R hN hd hi h;exact ih (R.gh k) hN hd hi h
 |here hg hx hp=>
  rename_i p l E s s2;intro i a w ψ R hN hd hi h;have oX:=hi 0 p rfl;simp only[dK]at oX;simp only[eK,List.range'_succ,wpOps,oX];rw[bO (KW R.gW hg)];exact .inl (R.QV hN hp h)
 |next st t ih=>
  rename_i p l E s E1 s1 s2;intro i a w ψ R hN hd hi h;have oX:=hi 0 p rfl;simp only[dK]at oX;have rest: ∀ {fT a1 w1},Rel C f fT E1 s1 a1 w1->wpOps C.P ops QQ (List.range' (i+1) l.length) a1 w1:=λR1=>
   ih R1 hN Fd (λk q hk=>by have:=hi (k+1) q (by simpa using hk);rwa [show i+(k+1)=i+1+k by omega]at this) h
  simp only[eK,List.range'_succ,wpOps,oX];cases st with
  |act hg hF hO=>
   rw[bO (KW R.gW hg)];exact .inl (hO ψ (CR E s) a w _ QQ R.pre (R.room (fF t.len hN)) λψ' Q' v w' hP he=>rest (R.step hF hP he (hd p Do)))
  |skip hg=>
   rw[cG (by rw[ZkR R.gW hg];simp)];exact rest (R.undef (hd p Do))
end
theorem jy.refl (E:Env):jy E E:=⟨rfl,λ_=> .inl rfl⟩
theorem jy.trans {E E' Ae:Env} (h:jy E E') (k:jy E' Ae):jy E Ae:=by
 refine⟨k.bq.trans h.bq,λt=>?_⟩;rcases k.get t with e|e
 .rcases h.get t with e'|e'
  .exact .inl (e.trans e')
  grind
 .exact .inr e
section
variable {C:aY} {dst:Nat->Option Nat} {pr ms:al}
theorem Tr.fn (h:Tr C dst pr ms l E s E2 s2):
  ∃(A B:Nat->Env) (ss:Nat->St),A 0=E/\ss 0=s/\ss l.length=s2/\jy (A l.length) E2/\
   ∀k p,l[k]? =some p->jy (A k) (B k)/\Step C dst pr ms p (B k) (ss k) (A (k+1)) (ss (k+1)):=by
 induction h with
 |nil E s=>exact⟨λ_=>E,λ_=>E,λ_=>s,rfl,rfl,rfl,.refl E,λk p h=>by simp at h⟩
 | @gh l E E1 s E2 s2 k _ ih=>
  have⟨A,B,ss,h1,h2,h3,h4,h5⟩:=ih;cases l with
  |nil=>
   refine⟨λ_=>E,B,ss,rfl,h2,h3,?_,λk p h=>by simp at h⟩;simp only[List.length_nil]at h4;rw[h1]at h4;exact k.trans h4
  |cons p l=>
   refine⟨λi=>if i=0 then E else A i,B,ss,rfl,h2,h3,by simpa using h4,λi q hq=>?_⟩;have⟨a,b⟩:=h5 i q hq;refine⟨?_,by simpa using b⟩;by_cases hi:i=0
   .subst hi
    simp only[ju];rw[h1]at a;exact k.trans a
   grind
 | @cons p l E s E1 s1 E2 s2 st _ ih=>
  have⟨A,B,ss,h1,h2,h3,h4,h5⟩:=ih;refine⟨λi=>match i with|0=>E|i+1=>A i,λi=>match i with|0=>E|i+1=>B i,λi=>match i with|0=>s|i+1=>ss i,rfl,rfl,h3,h4,λi q hq=>?_⟩;cases i with
  |zero=>
   simp only[jI,eO]at hq;subst hq;refine⟨.refl E,?_⟩;grind
  |succ i=>grind
end
theorem Zs3 (h:(yC o acc).testBit j=true): ∃e∈o.after,Region.binds .any e=true/\(j=e.on\/(acc.getD e.on 0).testBit j=true):=by
 unfold yC at h;have key: ∀(l:List Edge) (m:Nat),(l.foldl (λm e=>bif Region.binds .any e then m|||2^e.on|||acc.getD e.on 0 else m) m).testBit j=true->
   m.testBit j=true\/∃e∈l,Region.binds .any e=true/\(j=e.on\/(acc.getD e.on 0).testBit j=true):=by
  intro l;induction l with
  |nil=>exact λm h=> .inl h
  |cons e l ih=>
   grind
 grind
theorem K2 (P:Program) (pr:al) (ops:List Oper): ∀(r:List Oper) (acc:al) (k:Nat) (p:eQ),(mG P pr ops r acc)[k]? =some p->
  ∃o,r[k]? =some o/\p.bf=yC o (acc++((mG P pr ops r acc).take k).map (·.bf))/\p.k=ph pr ops (acc.length+k) p.bf (cls P pr ops o)/\p.dst=o.dst/\p.lk=mE pr ops o
 |[],acc,k,p,h=>by simp[mG]at h
 |o::r,acc,0,p,h=>by
  grind[mG,jI,eO]
 |o::r,acc,k+1,p,h=>by
  simp only[mG,nO]at h;have⟨o',h1,h2,h3,h4⟩:=K2 P pr ops r _ k p h;refine⟨o',by simpa using h1,?_,?_,h4⟩
  .rw[h2]
   simp[mG]
  grind
theorem DW (P:Program) (pr:al) (ops:List Oper): ∀(r:List Oper) (acc:al),(mG P pr ops r acc).length=r.length
 |[],_=>rfl
 |o::r,acc=>by simp[mG,DW P pr ops r]
def G9 (p q:eQ):Prop:=Mc p.k q.k=false/\Fp p.dst q.lk=false/\Fp q.dst p.lk=false/\MJ p.dst q.dst=false
theorem Zma {i:Nat} {p:eQ} : ∀ {l:List eQ},ER i p l=true->∀(k:Nat) (q:eQ),l[k]? =some q->q.bf.testBit i=true\/G9 p q
 |[],_,k,q,h=>by simp at h
 |x::l,h,k,q,hq=>by
  simp only[ER,aZ]at h;cases k with
  |zero=>
   simp only[jI,eO]at hq;subst hq;have h1:=h.1;rw[kb]at h1;refine h1.imp id λh1=>?_
   simp only[aZ,nN]at h1;exact⟨h1.1.1.1,h1.1.1.2,h1.1.2,h1.2⟩
  |succ k=>exact Zma h.2 k q (by simpa using hq)
theorem D9: ∀ {i:Nat} {l:List eQ} {os:List Oper},w8 i l os=true->∀(k:Nat) (p:eQ),l[k]? =some p->
  p.bf<2^(i+k)/\(∃o,os[k]? =some o/\∀j w,o.guard=some (j,w)->p.bf.testBit j=true)/\∀(m:Nat) (q:eQ),k<m->l[m]? =some q->q.bf.testBit (i+k)=true\/G9 p q
 |i,[],os,_,k,p,hp=>by simp at hp
 |i,_::_,[],h,k,p,hp=>by cases h
 |i,x::l,o::os,h,k,p,hp=>by
  simp only[w8,aZ]at h;have⟨⟨⟨h1,h2⟩,h3⟩,h4⟩:=h;cases k with
  |zero=>
   simp only[jI,eO]at hp;subst hp;refine⟨by rw[lP]at h1;exact h1,⟨o,rfl,Fd⟩,λm q hm hq=>?_⟩;obtain⟨m',rfl⟩: ∃m',m=m'+1:=⟨m-1,AC⟩;exact Zma h3 m' q (by simpa using hq)
  |succ k=>
   have⟨a,⟨o',b1,b2⟩,c⟩:=D9 h4 k p (by simpa using hp);grind
theorem ZtH {e:Edge} (he:e∈o.after) (hb:Region.binds .any e=true):(yC o acc).testBit e.on=true:=by
 unfold yC;have mono: ∀(l:List Edge) (m:Nat),m.testBit e.on=true->(l.foldl (λm e=>bif Region.binds .any e then m|||2^e.on|||acc.getD e.on 0 else m) m).testBit e.on=true:=by
  intro l;induction l with
  |nil=>exact λm h=>h
  |cons x l ih=>
   grind
 have key: ∀(l:List Edge) (m:Nat),e∈l->(l.foldl (λm e=>bif Region.binds .any e then m|||2^e.on|||acc.getD e.on 0 else m) m).testBit e.on=true:=by
  intro l;induction l with
  |nil=>intro m h;cases h
  |cons x l ih=>
   grind
 grind
theorem Ek {mp:Nat->Bool} : ∀(all:List eQ) (i:Nat) (is:List eQ) (os:List Oper) (k:Nat) (p:Oper×Md),(flags mp all i is os)[k]? =some p->
  ∃q o,is[k]? =some q/\os[k]? =some o/\
   p=(o,.d q.k (bif pQ (i+k) q.bf (λ_=>true) 0 all then(bif Oj mp o&& !uB (i+k) q.bf 0 all then 0 else(match q.k with| .call=>(bif pQ (i+k) q.bf zH 0 all then 2 else 1)|_=>1))else 0))
 |all,i,[],os,k,p,h=>by cases os<;>simp[flags]at h
 |all,i,_::_,[],k,p,h=>by simp[flags]at h
 |all,i,q::r,o::os,0,p,h=>by
  grind[flags,jI,eO]
 |all,i,q::r,o::os,k+1,p,h=>by
  simp only[flags,nO]at h;have⟨q',o',h1,h2,h3⟩:=Ek all (i+1) r os k p h;grind
theorem DK {mp:Nat->Bool} : ∀(all:List eQ) (i:Nat) (is:List eQ) (os:List Oper),is.length=os.length->(flags mp all i is os).length=os.length
 |_,_,[],[],_=>rfl
 |all,i,_::r,_::os,h=>by simp only[flags,eK];rw[DK all (i+1) r os (by simpa using h)]
 |_,_,[],_::_,h=>by simp at h
 |_,_,_::_,[],h=>by simp at h
theorem ZnC {i bi:Nat} {f:jf->Bool} : ∀ {r:List eQ} {j0 j:Nat} {q:eQ},r[j]? =some q->i≠j0+j->q.bf.testBit i=false->bi.testBit (j0+j)=false->f q.k=true->pQ i bi f j0 r=true
 |[],j0,j,q,h,_,_,_,_=>by simp at h
 |x::r,j0,0,q,h,h1,h2,h3,h4=>by
  simp only[jI,eO]at h;subst h;simp only[dK]at h1 h3;have:Nat.beq i j0=false:=by
   cases e:Nat.beq i j0 with
   |false=>rfl
   |true=>simp_all
  simp[pQ,this,h2,h3,h4]
 |x::r,j0,j+1,q,h,h1,h2,h3,h4=>by
  simp only[nO]at h;rw[pQ,kb];exact .inr (ZnC (j0:=j0+1) h AC h2 (by rw[show j0+1+j=j0+(j+1) by omega];exact h3) h4)
theorem ZlK {i bi:Nat} : ∀ {r:List eQ} {j0 j:Nat} {q:eQ},r[j]? =some q->i≠j0+j->q.bf.testBit i=false->bi.testBit (j0+j)=false->(Nat.blt (j0+j) i&&v8 q.k)=false->uB i bi j0 r=true
 |[],j0,j,q,h,_,_,_,_=>by simp at h
 |x::r,j0,0,q,h,h1,h2,h3,h4=>by
  simp only[jI,eO]at h;subst h;simp only[dK]at h1 h3 h4;have:Nat.beq i j0=false:=by
   cases e:Nat.beq i j0 with
   |false=>rfl
   |true=>simp_all
  simp[uB,this,h2,h3,h4]
 |x::r,j0,j+1,q,h,h1,h2,h3,h4=>by
  simp only[nO]at h;rw[uB,kb];exact .inr (ZlK (j0:=j0+1) h AC h2 (by rw[show j0+1+j=j0+(j+1) by omega];exact h3) (by rw[show j0+1+j=j0+(j+1) by omega];exact h4))
def uJ (is:List eQ) (i k:Nat):Prop:=∃q,is[k]? =some q/\q.bf.testBit i=true
theorem ZoR: ∀(l:List Operand) (m t:Nat),(m.testBit t=true\/Operand.tmp t∈l)->(l.foldl (λm x=>match x with| .tmp t=>m|||2^t|_=>m) m).testBit t=true
 |[],m,t,h=>by
  grind
 |x::l,m,t,h=>by
  rw[List.foldl_cons];refine ZoR l _ t ?_;grind
theorem Zrl (pr:al) (ops:List Oper) (o:Oper) (m:Nat) (t:Nat) (h:m.testBit t=true):
  (match o.op with
   | .load _ (.tmp a)=>(match nG pr ops 12 a with|some r=>m|||2^r|none=>m)
   | .store _ (.tmp a) _=>(match nG pr ops 12 a with|some r=>m|||2^r|none=>m)
   |_=>m).testBit t=true:=by
 grind
theorem Znv {ops:List Oper} (h:Operand.tmp t∈o.op.operands):(mE pr ops o).testBit t=true:=by
 unfold mE;refine Zrl _ _ _ _ _ ?_;have h1:=ZoR o.op.operands.toList 0 t (.inr (by simpa using h));split
 .grind
 .exact h1
theorem Zrd {ops:List Oper} {g:Oper} {r:Nat} {w:Bool} (h:o.guard=some (j,w)) (hj:ops[j]? =some g) (hr:g.dst=some r):(mE pr ops o).testBit r=true:=by
 grind[mE]
theorem Zst {ops:List Oper} {r:Nat} (h:cls P pr ops o= .qE r\/cls P pr ops o= .lb r):(mE pr ops o).testBit r=true:=by
 cases ho:o.op with
 |load t a=>
  cases a with
  |tmp a=>
   cases hr:nG pr ops 12 a with
   |none=>simp[cls,ho,hr]at h
   |some q=>
    simp[cls,ho,hr]at h;subst h;simp[mE,ho,hr]
  |_=>simp[cls,ho]at h
 |store t a y=>
  cases a with
  |tmp a=>
   cases hr:nG pr ops 12 a with
   |none=>simp[cls,ho,hr]at h
   |some q=>
    simp[cls,ho,hr]at h;subst h;simp[mE,ho,hr]
  |_=>simp[cls,ho]at h
 |next it b=>
  cases it with
  |tmp t=>
   simp[cls,ho]at h;subst h;exact Znv (by simp[Op.operands,ho])
  |_=>simp[cls,ho]at h
 |slice t y lo hi mx=>
  simp only[cls,ho]at h;split at h<;>simp at h
 |call q=>
  cases hp:has pr 1000000<;>simp only[cls,ho,hp,aa,ae]at h<;>split at h<;>simp at h
 |_=>simp[cls,ho]at h
structure Su (C:aY) (pr ms:List Nat) (ops:Array Oper) (l:List (Oper×Md)) (is:List eQ) (m:Nat) (A B:Nat->Env) (ss:Nat->St):Prop where
 tC:is=mG C.P pr ops.toList ops.toList []
 hl:l=flags C.mp is 0 is ops.toList
 ok:w8 0 is ops.toList=true
 hm:m<=ops.size
 w: ∀k,k<=m->jy (A k) (B k)
 st: ∀k p,k<m->l[k]? =some p->Step C (jQ ops) pr ms p (B k) (ss k) (A (k+1)) (ss (k+1))
 e0:gG (A 0)
theorem Step.opF (h:Step C dst pr ms p E s E' s'):jw (jN p.2 E) pr ms p.1 E s E' s':=by
 cases h with
 |act _ hF _=>exact hF
 |skip _=>exact jw.OB pr ms .un rfl λ_ _ _ _ h=>by cases h
section
variable {C:aY} {pr ms:al} {ops:Array Oper} {l:List (Oper×Md)} {is:List eQ} {m:Nat} {A B:Nat->Env} {ss:Nat->St}
theorem Su.isLen (S:Su C pr ms ops l is m A B ss):is.length=ops.size:=by rw[S.tC,DW];simp
theorem Su.GD (S:Su C pr ms ops l is m A B ss):l.length=ops.size:=by rw[S.hl,DK _ _ _ _ (by rw[S.isLen];simp)];simp
structure OpT (C:aY) (pr:List Nat) (ops:Array Oper) (is:List eQ) (k:Nat) (p:Oper×Md) (q:eQ) (x:Nat):Prop where
 iq:is[k]? =some q
 op:ops[k]? =some p.1
 md:p.2= .d q.k x
 kc:q.k=ph pr ops.toList k q.bf (cls C.P pr ops.toList p.1)
 dst:q.dst=p.1.dst
 lk:q.lk=mE pr ops.toList p.1
 lt: ∀j,q.bf.testBit j=true->j<k
 gd: ∀j w,p.1.guard=some (j,w)->q.bf.testBit j=true
 on: ∀e∈p.1.after,Region.binds .any e=true->q.bf.testBit e.on=true
 UK: ∀j,q.bf.testBit j=true->∃e∈p.1.after,Region.binds .any e=true/\(j=e.on\/uJ is j e.on)
 zero:x=0->∀j q',is[j]? =some q'->k≠j->q'.bf.testBit k=true\/q.bf.testBit j=true\/(j<k/\v8 q'.k=true)
 two:q.k= .call->∀j q',is[j]? =some q'->k≠j->zH q'.k=true->q'.bf.testBit k=true\/q.bf.testBit j=true\/2<=x
theorem Su.get (S:Su C pr ms ops l is m A B ss) (hp:l[k]? =some p): ∃q x,OpT C pr ops is k p q x:=by
 rw[S.hl]at hp;have⟨q,o,h1,h2,h3⟩:=Ek _ _ _ _ _ _ hp;rw[ei]at h3;have h1':=h1;rw[S.tC]at h1';have⟨o',g1,g2,g3,g4,g5⟩:=K2 _ _ _ _ _ _ _ h1';rw[h2]at g1;cases g1;have⟨k1,⟨o',k2,k3⟩,_⟩:=D9 S.ok k q h1;rw[h2]at k2;cases k2;rw[ei]at k1;have aw: ∀j,q.bf.testBit j=true->j<k:=by
  intro j hj;rcases jd j k with h|h
  .exact h
  .have:q.bf<2^j:=lR k1 (xC AC h)
   rw[Nat.testBit_lt_two_pow this]at hj;cases hj
 have bs: ∀f:jf->Bool,∀j q',is[j]? =some q'->k≠j->f q'.k=true->pQ k q.bf f 0 is=false->q'.bf.testBit k=true\/q.bf.testBit j=true:=by
  intro f j q' hq cS hf hb;cases e1:q'.bf.testBit k with
  |true=>exact .inl rfl
  |false=>
   cases e2:q.bf.testBit j with
   |true=>exact .inr rfl
   |false=>rw[ZnC (i:=k) (bi:=q.bf) (f:=f) (j0:=0) hq AC e1 (by rw[ei];exact e2) hf]at hb;cases hb
 have bs2: ∀j q',is[j]? =some q'->k≠j->uB k q.bf 0 is=false->q'.bf.testBit k=true\/q.bf.testBit j=true\/(j<k/\v8 q'.k=true):=by
  intro j q' hq cS hb;cases e1:q'.bf.testBit k with
  |true=>exact .inl rfl
  |false=>
   cases e2:q.bf.testBit j with
   |true=>exact .inr (.inl rfl)
   |false=>
    cases e3:(Nat.blt j k&&v8 q'.k)with
    |false=>rw[ZlK (i:=k) (bi:=q.bf) (j0:=0) hq AC e1 (by rw[ei];exact e2) (by rw[ei];exact e3)]at hb;cases hb
    |true=>
     rw[aZ,lP]at e3;exact .inr (.inr e3)
 refine⟨q,_,h1,?_,by rw[h3],by rw[h3];simp_all,by rw[h3];exact g4,by rw[h3];exact g5,aw,Fd,λe he hb=>by rw[g2];exact ZtH (by rw[h3]at he;exact he) hb,λj hj=>?_,λhx j q' hq cS=>?_,λhc j q' hq cS hh=>?_⟩
 .rw[h3,<-iE];exact h2
 .rw[g2]at hj
  have⟨e,he,hb,hj⟩:=Zs3 hj;rw[h3];refine⟨e,he,hb,hj.imp id λhj=>?_⟩;simp only[mN,gF]at hj;have zf:((((is.take k).map λx:eQ=>x.bf)[e.on]?).getD 0).testBit j=true:=by rw[S.tC];exact hj
  cases hx:((is.take k).map λx:eQ=>x.bf)[e.on]? with
  |none=>rw[hx]at zf;simp at zf
  |some b=>
   rw[hx]at zf;rw[jJ]at hx;cases hy:(is.take k)[e.on]? with
   |none=>rw[hy]at hx;cases hx
   |some q'=>
    rw[hy]at hx;simp only[sG,eO]at hx;rw[ug]at hy;split at hy
    .exact⟨q',hy,by rw[hx];exact zf⟩
    .cases hy
 .grind
 .cases hb:pQ k q.bf zH 0 is with
  |false=>grind
  |true=>
   cases fV:pQ k q.bf (λ_=>true) 0 is with
   |false=>grind
   |true=>
    cases zw:Oj C.mp o&& !uB k q.bf 0 is with
    |true=>
     rw[aZ,nN]at zw;rcases bs2 j q' hq cS zw.2 with h|h|⟨_,h⟩
     .exact .inl h
     .exact .inr (.inl h)
     .exfalso
      generalize q'.k=z at hh h;cases z<;>simp[zH,v8]at hh h
    |false=>grind
theorem Su.F (S:Su C pr ms ops l is m A B ss) (hk:k<m) (hp:l[k]? =some p):jw (jN p.2 (B k)) pr ms p.1 (B k) (ss k) (A (k+1)) (ss (k+1)):=(S.st k p hk hp).opF
theorem Su.vk (S:Su C pr ms ops l is m A B ss) (hk:k<m): ∃p,l[k]? =some p:=by
 have:=S.GD;have:=S.hm;exact⟨l[k]' AC,dt _⟩
theorem Su.oQ (S:Su C pr ms ops l is m A B ss): ∀k,k<=m->gG (B k)
 |0,h=>S.e0.gh (S.w 0 h)
 |k+1,h=>by
  have⟨p,hp⟩:=S.vk (k:=k) AC;exact((S.F AC hp).fh (S.oQ k AC)).gh (S.w (k+1) h)
theorem vO (h:jy E E') (x:cJ):cY E' s x↔cY E s x:=by
 simp[cY,h.bq]
theorem Su.RT (S:Su C pr ms ops l is m A B ss) (hk:k<m) (hd:cY (B k) (ss k) h):cY (A (k+1)) (ss (k+1)) h:=by
 have⟨p,hp⟩:=S.vk hk;have hF:=S.F hk hp;cases h with
 |inl i=>exact lR hd hF.len
 |inr v=>exact lR hd hF.bq
theorem Su.mh (S:Su C pr ms ops l is m A B ss) {h:cJ} {j:Nat} : ∀(d:Nat),j+d<=m->cY (B j) (ss j) h->cY (B (j+d)) (ss (j+d)) h
 |0,_,hd=>hd
 |d+1,hk,hd=>(vO (S.w (j+d+1) hk) h).2 (S.RT (k:=j+d) AC (S.mh d AC hd))
theorem Su.oN (S:Su C pr ms ops l is m A B ss) (hjk:j<=k) (hk:k<=m) (hd:cY (B j) (ss j) h):cY (B k) (ss k) h:=by
 have:=S.mh (j:=j) (k-j) AC hd;rwa [show j+(k-j)=k by omega]at this
def Wr (l:List (Oper×Md)) (B:Nat->Env) (i:Nat) (h:cJ):Prop:=∃p,l[i]? =some p/\jN p.2 (B i) h
theorem Su.back (S:Su C pr ms ops l is m A B ss) {h:cJ} {ab:AB} {j:Nat} : ∀(d:Nat),j+d<=m->(∀i,j<=i->i<j+d->¬Wr l B i h)->cY (B j) (ss j) h->CR (B (j+d)) (ss (j+d)) h ab->CR (B j) (ss j) h ab
 |0,_,_,_,c=>c
 |d+1,hk,hw,hd,c=>by
  have⟨p,hp⟩:=S.vk (k:=j+d) AC;rcases(S.F AC hp).back h ab (c.gh (S.w _ hk))with x|x|x
  .exact absurd ⟨p,hp,x⟩ (hw (j+d) AC AC)
  .exact absurd (S.mh d AC hd) x.1
  .exact S.back d AC Fd hd x
theorem Su.Fj (S:Su C pr ms ops l is m A B ss) (hjk:j<=k) (hk:k<=m) (hw: ∀i,j<=i->i<k->¬Wr l B i h) (hd:cY (B j) (ss j) h) (c:CR (B k) (ss k) h ab):CR (B j) (ss j) h ab:=by
 have:=S.back (j:=j) (ab:=ab) (k-j) AC Fd hd;rw[show j+(k-j)=k by omega]at this;exact this c
theorem Su.fix (S:Su C pr ms ops l is m A B ss) {x:Nat} {j:Nat} : ∀(d:Nat),j+d<=m->(∀i,j<=i->i<j+d->¬Wr l B i (.inl x))->x<(ss j).length->(ss (j+d))[x]? =(ss j)[x]?
 |0,_,_,_=>rfl
 |d+1,hk,hw,hx=>by
  have⟨p,hp⟩:=S.vk (k:=j+d) AC;have hd:x<(ss (j+d)).length:=S.mh (h:= .inl x) d AC hx;have:=(S.F AC hp).Q3 x (λhi=>hw (j+d) AC AC ⟨p,hp,hi⟩) hd;rw[show j+(d+1)=j+d+1 by omega,this,S.fix d AC Fd hx]
theorem Su.du (S:Su C pr ms ops l is m A B ss) {ψ:Ps} {x:Value} {t:Nat} {j:Nat} : ∀(d:Nat),j+d<=m->(∀i p,j<=i->i<j+d->l[i]? =some p->p.1.dst≠some t)->eV C ψ ((B j).get t) x->eV C ψ ((B (j+d)).get t) x
 |0,_,_,r=>r
 |d+1,hk,hw,r=>by
  have⟨p,hp⟩:=S.vk (k:=j+d) AC;have:=(S.F AC hp).du t Fd C ψ x (S.du d AC Fd r);rcases(S.w _ hk).get t with e|e
  .rw[e];exact this
  .rw[e];trivial
theorem Su.val (S:Su C pr ms ops l is m A B ss) {t j:Nat} {x:DV} : ∀(d:Nat),j+d<=m->(∀i p,j<=i->i<j+d->l[i]? =some p->p.1.dst≠some t)->(B (j+d)).get t= .v x->(B j).get t= .v x
 |0,_,_,e=>e
 |d+1,hk,hw,e=>by
  have⟨p,hp⟩:=S.vk (k:=j+d) AC;refine S.val d AC Fd ((S.F AC hp).val t x Fd ?_);rcases(S.w _ hk).get t with e'|e'
  .exact e'.symm.trans e
  grind
theorem ZoG (h:jy E E') {v:Nat} (e:(E'.get t).cd=some v):(E.get t).cd=some v:=by
 rcases h.get t with e'|e'
 .rw[<-e'];exact e
 .rw[e']at e;cases e
theorem jw.cd {W:cJ->Prop} {o:Oper} {E E':Env} {s s':St} (hF:jw W pr ms o E s E' s') {t v:Nat} (e:(E'.get t).cd=some v):(E.get t).cd=some v\/(E.bq<=v/\o.dst=some t):=by
 cases he:E'.get t with
 |loc v' n cs=>
  rw[he]at e;simp only[dz.cd,eO]at e;subst e;exact(hF.qJ t _ n cs he).imp (λ⟨c,h⟩=>by rw[h];rfl) id
 |it v' s p=>
  rw[he]at e;simp only[dz.cd,eO]at e;subst e;exact(hF.sm t _ s p he).imp (λ⟨c,h⟩=>by rw[h];rfl) id
 |_=>rw[he]at e;cases e
theorem Su.cd (S:Su C pr ms ops l is m A B ss) {t v j:Nat} : ∀(d:Nat),j+d<=m->v<(B j).bq->((B (j+d)).get t).cd=some v->((B j).get t).cd=some v
 |0,_,_,e=>e
 |d+1,hk,hv,e=>by
  have⟨p,hp⟩:=S.vk (k:=j+d) AC;have hd:v<(B (j+d)).bq:=S.mh (h:= .inr v) d AC hv;rcases(S.F AC hp).cd (ZoG (S.w _ hk) e)with h|h
  .exact S.cd d AC hv h
  .omega
theorem Su.Q8 (S:Su C pr ms ops l is m A B ss) {v:Nat} (hjk:j<=k) (hk:k<=m) (hv:v<(B j).bq) (e:((B k).get t).cd=some v):((B j).get t).cd=some v:=
 S.cd (j:=j) (k-j) AC hv (by rwa [show j+(k-j)=k by omega])
end
theorem Zq1 (k k':jf):tf k k'=tf k' k:=by
 cases k<;>cases k'<;>simp only[tf]<;>(rw[zX];grind[Nat.beq_eq])
theorem ZoM {k:jf} (h:Mc k k'=false):tf k k'=false:=by
 cases k<;>cases k'<;>first|exact h|cases h
theorem Zpa {k:jf} {x:Nat} (c:tf k k'=false) (h2:k= .call->zH k'=true->2<=x) (hv: ∀r q v,(E.get r).cd=some v->(E'.get q).cd=some v->r=q)
  (hb: ∀bs b,k= .ap bs->k'= .lp b->b∈bs->∀j p,E.get b= .v (.ptr (some (j,p)))->E'.get b= .v (.ptr (some (j,p)))):
  ∀h,jN (.d k x) E h->¬ls (.d k' x') E' h:=by
 intro h hw hd;cases k<;>cases k'<;>first
  |exact hw.elim
  |exact hd.elim
  |(simp[tf]at c;done)
  |(have h3:=h2 rfl rfl;have h4:=hw.1;omega)
  |(obtain⟨i,rfl⟩:=hw;have⟨v,e,_⟩:=hd;cases e;done)
  |(obtain⟨_,i,rfl⟩:=hw;have⟨v,e,_⟩:=hd;cases e;done)
  |(obtain⟨v,rfl,_⟩:=hw;have⟨i,e⟩:=hd;cases e;done)
  |(obtain⟨v,rfl,_⟩:=hw;have⟨i,p,_,e⟩:=hd;cases e;done)
  |(obtain⟨i,rfl,_⟩:=hw;have⟨v,e,_⟩:=hd;cases e;done)
  |(obtain⟨v,rfl,e1⟩:=hw
    have⟨v',e,e2⟩:=hd;cases e;have:=hv _ _ _ e1 e2;subst this;simp[tf]at c)
  |(rename_i bs b
    obtain⟨i,rfl,hw⟩:=hw;have⟨i',p',e1,e2⟩:=hd;cases e2;have rQ:b∈bs:=by
     have:has bs b=true:=by simpa [tf]using c
     exact(A0 _ _).1 this
    grind)
theorem Zrx {ops:List Oper} (h:nS o):cls P pr ops o= .hp\/cls P pr ops o= .call\/cls P pr ops o= .ap []:=by
 unfold nS at h;cases ho:o.op<;>rw[ho]at h<;>simp only at h
 case call q=>
  split at h
  .rename_i hq
   cases hp:has pr 1000000 with
   |true=>simp[cls,ho,hq,hp]
   |false=>simp[cls,ho,hq,hp]
  .rename_i hq;simp[cls,ho,hq]
  .exact h.elim
 all_goals exact .inl (by simp[cls,ho])
theorem Zqh {ops:List Oper} (h:nS o) (k m:Nat):ph pr ops k m (cls P pr ops o)= .hp\/ph pr ops k m (cls P pr ops o)= .call\/∃bs,ph pr ops k m (cls P pr ops o)= .ap bs:=by
 rcases Zrx (P:=P) (pr:=pr) (ops:=ops) h with e|e|e<;>rw[e]
 .exact .inl rfl
 .exact .inr (.inl rfl)
 .exact .inr (.inr ⟨_,rfl⟩)
theorem Zqm {k:jf} {x:Nat} (h:k= .hp\/k= .call\/∃bs,k= .ap bs) (i:Nat):ls (.d k x) E (.inl i):=by
 rcases h with rfl|rfl|⟨bs,rfl⟩<;>exact⟨i,rfl⟩
theorem ZsA {ops:List Oper} {b:Nat} {c:jf} (h:ph pr ops k m c= .lp b):c= .lp b:=by
 cases c<;>first|exact h|cases h
theorem ZrE {ops:List Oper} {b:Nat} {c:jf} (h:ph pr ops k m c= .lb b):c= .lb b:=by
 cases c<;>first|exact h|cases h
theorem Zta {ops:List Oper} {c:jf} {bs:al} (h:ph pr ops k m c= .ap bs):bs=(Bs m 0 (ops.take k)).filter λb=>CD b (ops.take k)&&(nG pr ops 12 b).isNone:=by
 cases c<;>cases h
 rfl
theorem Zt1 {ops:List Oper} {b:Nat} (h:cls P pr ops o= .lp b):rY b o=true:=by
 unfold rY;cases ho:o.op with
 |load t a=>
  cases a with
  |tmp a=>
   cases hr:nG pr ops 12 a with
   |none=>simp[cls,ho,hr]at h;simp[h]
   |some q=>simp[cls,ho,hr]at h
  |_=>simp[cls,ho]at h
 |store t a y=>
  cases a with
  |tmp a=>cases hr:nG pr ops 12 a<;>simp[cls,ho,hr]at h
  |_=>simp[cls,ho]at h
 |next it b=>cases it<;>simp[cls,ho]at h
 |slice t y lo hi mx=>
  simp only[cls,ho]at h;split at h<;>simp at h
 |call q=>
  cases hp:has pr 1000000<;>simp only[cls,ho,hp,aa,ae]at h<;>split at h<;>simp at h
 |_=>simp[cls,ho]at h
theorem Zns {b:Nat} : ∀ {L:List Oper},CD b L=true->∀(i j:Nat) (o o':Oper),L[i]? =some o->rY b o=true->i<=j->L[j]? =some o'->o'.dst≠some b
 |[],_,i,j,o,o',h,_,_,_=>by simp at h
 |x::r,h,i,j,o,o',hi,hl,ky,hj=>by
  unfold CD at h;cases hx:rY b x with
  |true=>
   rw[hx]at h;simp only[aa]at h;have:=sD.1 h o' (z7 hj);intro e;rw[e]at this;simp at this
  |false=>
   rw[hx]at h;simp only[ae]at h;cases i with
   |zero=>
    grind
   |succ i=>
    obtain⟨j,rfl⟩: ∃j',j=j'+1:=⟨j-1,AC⟩;exact Zns h i j o o' (by simpa using hi) hl AC (by simpa using hj)
section
variable {C:aY} {pr ms:al} {ops:Array Oper} {l:List (Oper×Md)} {is:List eQ} {m:Nat} {A B:Nat->Env} {ss:Nat->St}
abbrev xI (A B:Nat->Env) (ss:Nat->St) (i:Nat) (h:cJ):Prop:=qS (B i) (ss i) (A (i+1)) (ss (i+1)) h
structure Dm (pr ms:List Nat) (ops:Array Oper) (l:List (Oper×Md)) (A B:Nat->Env) (ss:Nat->St) (i k:Nat) (p p':Oper×Md):Prop where
 d1: ∀t,p.1.dst=some t->(mE pr ops.toList p'.1).testBit t=false
 d2: ∀t,p'.1.dst=some t->(mE pr ops.toList p.1).testBit t=false
 d3: ∀t,p.1.dst=some t->p'.1.dst≠some t
 w1: ∀h,jN p.2 (B i) h->¬ls p'.2 (B k) h
 w2: ∀h,jN p'.2 (B k) h->¬ls p.2 (B i) h
 n1: ∀h,xI A B ss i h->¬jN p'.2 (B k) h
 n2: ∀h,xI A B ss k h->¬jN p.2 (B i) h
theorem Su.Po (S:Su C pr ms ops l is m A B ss) (F3:i<k) (hk:k<m) (hp:l[i]? =some p) (ee:l[k]? =some p') (hn: ¬uJ is i k):Dm pr ms ops l A B ss i k p p':=by
 have⟨q,x,T⟩:=S.get hp;have⟨q',x',T'⟩:=S.get ee;have uQ:G9 q q':=by
  have⟨_,_,h⟩:=D9 S.ok i q T.iq;rcases h k q' F3 T'.iq with h|h
  .rw[ei]at h;exact absurd ⟨q',T'.iq,h⟩ hn
  .exact h
 have⟨ct,e1,e2,e3⟩:=uQ;have c:=ZoM ct;rw[T.dst,T'.lk]at e1;rw[T'.dst,T.lk]at e2;rw[T.dst,T'.dst]at e3;have hv: ∀r t v,((B i).get r).cd=some v->((B k).get t).cd=some v->r=t:=λr t v h1 h2=>
  (S.oQ i AC).uniq r t v h1 (S.Q8 AC AC ((S.oQ i AC).lt r v h1) h2)
 have w1: ∀h,jN p.2 (B i) h->¬ls p'.2 (B k) h:=by
  rw[T.md,T'.md];refine Zpa c (λh1 h2=>?_) hv (λbs b h1 h2=>by rw[h1,h2]at ct;cases ct);rcases T.two h1 k q' T'.iq AC h2 with h|h|h
  .exact absurd ⟨q',T'.iq,h⟩ hn
  .have:=T.lt k h;omega
  .exact h
 have w2: ∀h,jN p'.2 (B k) h->¬ls p.2 (B i) h:=by
  rw[T.md,T'.md];refine Zpa (by rw[Zq1];exact c) (λh1 h2=>?_) Fd (λbs b h1 h2 rQ j pp hg=>?_);rotate_left
  .have uT:=Zta (T'.kc.symm.trans h1)
   rw[uT,List.mem_filter]at rQ;have qo:rY b p.1=true:=Zt1 (ZsA (T.kc.symm.trans h2));have cX:ops.toList[i]? =some p.1:=by rw[iE];exact T.op
   refine S.val (j:=i) (k-i) AC (λi' zN g1 g2 g3=>?_) (by rw[show i+(k-i)=k by omega];exact hg);have⟨q'',x'',T''⟩:=S.get g3;have Vw:ops.toList[i']? =some zN.1:=by rw[iE];exact T''.op
   exact Zns (Bool.and_eq_true_iff.1 rQ.2).1 i i' p.1 zN.1 (by rw[ug,bO AC];exact cX) qo g1 (by rw[ug,bO AC];exact Vw)
  rcases T'.two h1 i q T.iq AC h2 with h|h|h
  .have:=T.lt k h;omega
  .exact absurd ⟨q',T'.iq,h⟩ hn
  .exact h
 have d1: ∀t,p.1.dst=some t->(mE pr ops.toList p'.1).testBit t=false:=λt h=>by rw[h]at e1;exact e1
 refine⟨d1,λt h=>by rw[h]at e2;exact e2,λt h h'=>?_,w1,w2,λh gB hw=>?_,λh gB hw=>?_⟩
 .rw[h,h']at e3
  grind[MJ,xA]
 .cases h with
  |inl y=>
   have hF:=S.F AC hp;rcases hF.grow with hg|hg
   .have h1:=gB.1;have h2:=gB.2
    grind[cY]
   .refine w2 _ hw ?_
    rw[T.md,T.kc];exact Zqm (Zqh hg _ _) y
  |inr v=>
   rw[T'.md]at hw;cases hq:q'.k<;>rw[hq]at hw<;>first|exact hw.elim|skip
   .have⟨y,e⟩:=hw;cases e
   .have⟨_,y,e⟩:=hw;cases e
   .rename_i r
    have⟨v',e,dB⟩:=hw;cases e;have aw:v<(B (i+1)).bq:=by rw[(S.w (i+1) AC).bq];exact gB.2
    have h1:=ZoG (S.w (i+1) AC) (S.Q8 AC AC aw dB);rcases(S.F AC hp).cd h1 with h2|⟨_,h2⟩
    .exact gB.1 ((S.oQ i AC).lt r v h2)
    .have h3:=d1 r h2
     have h4:=Zst (P:=C.P) (pr:=pr) (ops:=ops.toList) (o:=p'.1) (r:=r) (.inr (ZrE (T'.kc.symm.trans hq)));rw[h3]at h4;cases h4
   .have⟨y,e,_⟩:=hw;cases e
 .cases h with
  |inl y=>
   have hF:=S.F hk ee;rcases hF.grow with hg|hg
   .have h1:=gB.1;have h2:=gB.2
    grind[cY]
   .refine w1 _ hw ?_
    rw[T'.md,T'.kc];exact Zqm (Zqh hg _ _) y
  |inr v=>
   rw[T.md]at hw;cases hq:q.k<;>rw[hq]at hw<;>first|exact hw.elim|skip
   .have⟨y,e⟩:=hw;cases e
   .have⟨_,y,e⟩:=hw;cases e
   .rename_i r
    have⟨v',e,dB⟩:=hw;cases e;have:cY (B i) (ss i) (.inr v):=(S.oQ i AC).lt r v dB;exact gB.1 (S.oN AC AC this)
   .have⟨y,e,_⟩:=hw;cases e
theorem ZlE {a:Act} (R: ∀j w r,o.guard=some (j,w)->jQ ops j=some r->eV C ψ (E.get r) (a.tmps.getD r undef)) (h:GW (jQ ops) E o):Region.wanted o (yielded ops a.tmps)=true:=by
 unfold Region.wanted;rcases h with h|⟨j,w,r,h1,h2,h3⟩
 .rw[h]
 .have hr:=R j w r h1 h2
  rw[h1];rw[ED]at h2;rw[h3]at hr;have:a.tmps.getD r undef= .bool w:=by generalize a.tmps.getD r undef=x at hr;cases hr;rfl
  simp[yielded,h2,Ez a r w this]
theorem ZoY {a:Act} (R: ∀j w r,o.guard=some (j,w)->jQ ops j=some r->eV C ψ (E.get r) (a.tmps.getD r undef)) (h:GU (jQ ops) E o):Region.wanted o (yielded ops a.tmps)=false:=by
 unfold Region.wanted;have⟨j,w,r,h1,h2,h3⟩:=h;have hr:=R j w r h1 h2;rw[h1];rw[ED]at h2;rcases h3 with⟨b,h3,hb⟩|h3
 .rw[h3]at hr
  have:a.tmps.getD r undef= .bool b:=by generalize a.tmps.getD r undef=x at hr;cases hr;rfl
  simp[yielded,h2,Ez a r b this,hb]
 .rw[h3]at hr
  have hr:a.tmps.getD r undef=undef:=hr;have:a.tmps[r]? =none\/a.tmps[r]? =some undef:=by
   rw[mM]at hr;grind
  have hy:yielded ops a.tmps j=none:=by
   unfold yielded;rw[h2];rcases this with e|e<;>simp[e,undef]
  simp[hy]
theorem Zss (st:Step C (jQ ops) pr ms p E s E' s') {a:Act} (pre:ax C p.1 (ls p.2 E) E s ψ Q a w) (room:Dr E s E' s' ψ)
  (hg: ∀j w r,p.1.guard=some (j,w)->jQ ops j=some r->eV C ψ (E.get r) (a.tmps.getD r undef)) (hi:ops[i]? =some p.1) {K:Act->World->Prop}
  (h: ∀ψ' Q' v w',Dp C (ls p.2 E) (jN p.2 E) E s E' s' ψ Q w ψ' Q' w'->(∀d,p.1.dst=some d->eV C ψ' (E'.get d) v)->K (a.put p.1.dst v) w'):wpOp C.P ops QQ i K a w:=by
 unfold wpOp;simp only[hi];cases st with
 |act g hF hO=>
  rw[bO (ZlE hg g)];exact .inl (hO ψ Q a w K QQ pre room h)
 |skip g=>
  rw[cG (by rw[ZoY hg g];simp)];refine h ψ Q undef w ⟨pre.dD,.refl _ _ _,λh cb e=> .inl e,λh ab cb c hw e=>?_,λh ab cb e q _ _=>q⟩ λd hd=>?_
  .rcases hw with hw|⟨n1,n2⟩
   .exact pre.gV h ab cb (EG _ _ _ hw) (c.dI rfl) e
   .exact absurd (by cases h<;>simpa [cY]using n2) n1
  .rw[Env.iw,bO hd];rfl
structure Inv (C:aY) (f:Fr) (l:List (Oper×Md)) (is:List eQ) (m:Nat) (A B:Nat->Env) (ss:Nat->St) (ψi:Ps) (L:Nat->Prop) (a:Act) (w:World) (ψ:Ps) (Q:Kn):Prop where
 dD:dN C ψ Q w
 eS:mP ψ w
 iK:Glob C ψ
 gW: ∀t j,j<=m->(∀i p,i<j->l[i]? =some p->¬L i->p.1.dst≠some t)->(∀i p,j<=i->l[i]? =some p->L i->p.1.dst≠some t)->eV C ψ ((B j).get t) (a.tmps.getD t undef)
 gV: ∀h j ab cb,j<=m->(∀i,i<j->¬L i->¬Wr l B i h)->(∀i,j<=i->L i->¬Wr l B i h)->CR (B j) (ss j) h ab->ψ h=some cb->Q h ab
 free: ∀i h,i<m->¬L i->xI A B ss i h->ψ h=none
 news: ∀h cb,ψ h=some cb->ψi h=some cb\/(¬cY (B 0) (ss 0) h/\cY (B m) (ss m) h)
 ext:Ext f.fS (CS f.s0) f.w0 ψ Q w
 j6:Ks f a
 defs:a.defers=f.MI
 sub: ∀i,L i->i<m
 down: ∀i k,L k->uJ is i k->L i
theorem Zt2 (hE:gG E) (c:CR E s h ab) (c':CR E s h ca):ab=ca:=by
 cases h with
 |inl i=>
  have h1:cu s i=some ab:=c;have h2:cu s i=some ca:=c';rw[h1]at h2;grind
 |inr v=>
  rcases c with⟨t,n,cs,e,rfl⟩|⟨t,l,p,e,rfl⟩<;>rcases c' with⟨t',n',cs',e',rfl⟩|⟨t',l',p',e',rfl⟩<;>
   (have:=hE.uniq t t' v (by rw[e];rfl) (by rw[e'];rfl);subst this;rw[e]at e';cases e';try rfl)
theorem Su.born (S:Su C pr ms ops l is m A B ss) {h:cJ} {j:Nat} : ∀(d:Nat),j+d<=m->¬cY (B j) (ss j) h->cY (B (j+d)) (ss (j+d)) h->∃k,j<=k/\k<j+d/\xI A B ss k h
 |0,_,hn,hd=>absurd hd hn
 |d+1,hk,hn,hd=>by
  have dO:cY (A (j+d+1)) (ss (j+d+1)) h:=(vO (S.w _ hk) h).1 hd;by_cases e:cY (B (j+d)) (ss (j+d)) h
  .have⟨k,h1,h2,h3⟩:=S.born d AC hn e
   grind
  .exact⟨j+d,AC,AC,e,dO⟩
theorem Zt5 {v:Nat} (h:(E.get t).cd=some v): ∃ab,CR E s (.inr v) ab:=by
 cases he:E.get t with
 |loc v' n cs=>
  rw[he]at h;simp only[dz.cd,eO]at h;subst h;exact⟨_,.inl ⟨t,n,cs,he,rfl⟩⟩
 |it v' x p=>
  rw[he]at h;simp only[dz.cd,eO]at h;subst h;exact⟨_,.inr ⟨t,x,p,he,rfl⟩⟩
 |_=>rw[he]at h;cases h
variable {f:Fr} {ψi:Ps} {L:Nat->Prop} {a:Act} {w:World} {ψ:Ps} {Q:Kn}
theorem Inv.pre (S:Su C pr ms ops l is m A B ss) (I:Inv C f l is m A B ss ψi L a w ψ Q) (hi:i<=m) (_hp:l[i]? =some p) (hL: ¬L i) (WR: ∀j,uJ is j i->L j)
  (fW: ∀k p',k<i->l[k]? =some p'->¬L k->(∀t,p'.1.dst=some t->(mE pr ops.toList p.1).testBit t=false)/\∀h,jN p'.2 (B k) h->¬ls p.2 (B i) h) (jB: ∀k p',i<k->l[k]? =some p'->L k->Dm pr ms ops l A B ss i k p p'):
  ax C p.1 (ls p.2 (B i)) (B i) (ss i) ψ Q a w/\∀j w r,p.1.guard=some (j,w)->jQ ops j=some r->eV C ψ ((B i).get r) (a.tmps.getD r undef):=by
 have gW: ∀t,(mE pr ops.toList p.1).testBit t=true->eV C ψ ((B i).get t) (a.tmps.getD t undef):=by
  intro t ht;refine I.gW t i hi (λk p' hk ee hl e=>?_) (λk p' hk ee hl e=>?_)
  .have:=(fW k p' hk ee hl).1 t e
   rw[ht]at this;cases this
  .rcases Nat.eq_or_lt_of_le hk with h|h
   .subst h;exact hL hl
   .have:=(jB k p' h ee hl).d2 t e
    rw[ht]at this;cases this
 refine⟨⟨I.dD,I.eS,I.iK,S.oQ i hi,λh ab cb hD c e=>I.gV h i ab cb hi (λk hk hl=>?_) (λk hk hl=>?_) c e,λt ht=>gW t (Znv ht)⟩,λj w r hg hr=>gW r ?_⟩
 .rintro⟨p',ee,hw⟩
  grind
 .rintro⟨p',ee,hw⟩
  rcases Nat.eq_or_lt_of_le hk with e|e
  .subst e;exact hL hl
  .exact(jB k p' e ee hl).w2 h hw hD
 .unfold jQ at hr
  split at hr
  .rename_i o ho;exact Zrd hg ho hr
  .cases hr
theorem Inv.step (S:Su C pr ms ops l is m A B ss) (I:Inv C f l is m A B ss ψi L a w ψ Q) (hi:i<m) (hp:l[i]? =some p) (hL: ¬L i) (wP: ∀j,uJ is j i->L j)
  (hd: ∀x,p.1.dst=some x->f.ok x=true) {K:Act->World->Prop}
  (h: ∀a' w' ψ' Q',Inv C f l is m A B ss ψi (λj=>L j\/j=i) a' w' ψ' Q'->K a' w'):wpOp C.P ops QQ i K a w:=by
 have fW: ∀k p',k<i->l[k]? =some p'->¬L k->Dm pr ms ops l A B ss k i p' p:=λk p' hk ee hl=>S.Po hk hi ee hp λhb=>hl (wP k hb)
 have jB: ∀k p',i<k->l[k]? =some p'->L k->Dm pr ms ops l A B ss i k p p':=λk p' hk ee hl=>S.Po hk (I.sub k hl) hp ee λhb=>hL (I.down i k hl hb)
 have⟨pre,hg⟩:=I.pre S (Nat.le_of_lt hi) hp hL wP (λk p' hk ee hl=>⟨(fW k p' hk ee hl).d1,(fW k p' hk ee hl).w1⟩) jB;have⟨q,x,T⟩:=S.get hp;refine Zss (S.st i p hi hp) pre (λk hk=>I.free i k hi hL hk) hg T.op λψ' Q' v w' P he=>h _ _ ψ' Q' ?_
 have U7: ∀k h,k<m->¬(L k\/k=i)->xI A B ss k h->ψ' h=none:=by
  intro k h hk hl gB;cases e:ψ' h with
  |none=>rfl
  |some cb=>
   rcases P.news h cb e with e|e
   .rw[I.free k h hk (λx=>hl (.inl x)) gB]at e;cases e
   .rcases Nat.lt_trichotomy i k with F3|F3|F3
    .exact absurd (S.oN (j:=i+1) AC AC ((vO (S.w (i+1) AC) h).2 e.2)) gB.1
    .omega
    .exact absurd (S.oN (j:=k+1) AC AC ((vO (S.w (k+1) AC) h).2 gB.2)) e.1
 refine⟨P.dD,P.ext.eS I.eS,P.ext.iK I.iK,λt j hj c1 c2=>?_,λh j ab cb hj c1 c2 c e=>?_,U7,λh cb e=>?_,I.ext.trans P.ext,I.j6.put hd,by rw[D2];exact I.defs,λk hk=>?_,λj k hk hb=>?_⟩
 .rw[Bf λx hx=>by rw[I.j6.1];exact f.CL x (hd x hx)]
  by_cases y9:p.1.dst=some t
  .rw[bO y9]
   have ky:i<j:=by
    grind
   have h1:eV C ψ' ((B (i+1)).get t) v:=by
    rcases(S.w (i+1) AC).get t with e|e
    .rw[e];exact he t y9
    .rw[e];trivial
   have:=S.du (j:=i+1) (ψ:=ψ') (x:=v) (t:=t) (j-(i+1)) AC (λk p' h1 h2 ee=>?_) h1
   .rwa [show i+1+(j-(i+1))=j by omega]at this
   .by_cases hl:L k
    .exact(jB k p' AC ee hl).d3 t y9
    grind
  .rw[cG y9]
   refine(I.gW t j hj (λk p' hk ee hl=>?_) Fd).mono P.ext.mono;by_cases e:k=i
   .grind
   grind
 .by_cases hw:jN p.2 (B i) h\/xI A B ss i h
  .have ky:i<j:=by
    rcases jd i j with h'|h'
    .exact h'
    .rcases hw with hw|hw
     .exact absurd ⟨p,hp,hw⟩ (c2 i h' (.inr rfl))
     .exact absurd (S.oN h' AC (c.mh (S.oQ j hj))) hw.1
   have fA: ∀k,i+1<=k->k<j->¬Wr l B k h:=by
    rintro k h1 h2 ⟨p',ee,eZ⟩;by_cases hl:L k
    .rcases hw with hw|hw
     .exact(jB k p' AC ee hl).w2 h eZ (EG _ _ _ hw)
     .exact(jB k p' AC ee hl).n1 h hw eZ
    .exact c1 k AC Fd ⟨p',ee,eZ⟩
   have U4:cY (B (i+1)) (ss (i+1)) h:=by
    rcases hw with hw|hw
    .by_cases e0:cY (B (i+1)) (ss (i+1)) h
     .exact e0
     .have⟨k,k1,k2,k3⟩:=S.born (j:=i+1) (j-(i+1)) AC e0 (by rw[show i+1+(j-(i+1))=j by omega];exact c.mh (S.oQ j hj))
      have⟨p',ee⟩:=S.vk (k:=k) AC;by_cases hl:L k
      .exact absurd hw ((jB k p' AC ee hl).n2 h k3)
      grind
    .exact(vO (S.w (i+1) AC) h).2 hw.2
   exact P.p1 h ab cb ((S.Fj AC hj fA U4 c).gh (S.w (i+1) AC)) hw e
  .have e0:ψ h=some cb:=by
    rcases P.news h cb e with e|e
    .exact e
    grind
   have Vq: ¬Wr l B i h:=by
    rintro⟨p',ee,eZ⟩;rw[hp]at ee;grind
   have hQ:=I.gV h j ab cb hj (λk hk hl=>by
    by_cases e:k=i
    .subst e;exact Vq
    grind) Fd c e0
   refine P.p2 h ab cb e0 hQ (λx=>hw (.inl x)) λhD UP=>?_
   rcases jd j i with tD|tD
   .have fA: ∀k,j<=k->k<i->¬Wr l B k h:=by
     rintro k h1 h2 ⟨p',ee,eZ⟩;by_cases hl:L k
     .exact c2 k h1 (.inl hl) ⟨p',ee,eZ⟩
     .exact(fW k p' h2 ee hl).w1 h eZ hD
    cases h with
    |inl y=>
     have c':cu (ss j) y=some ab:=c;have:=S.fix (x:=y) (j:=j) (i-j) AC Fd (vW c');rw[show j+(i-j)=i by omega]at this;show cu (ss i) y=some ab;grind[cu]
    |inr v=>
     have rU: ∃r,((B i).get r).cd=some v:=by
      rw[T.md]at hD;cases hq:q.k<;>rw[hq]at hD<;>first|exact hD.elim|(have⟨y,e⟩:=hD;cases e;done)|(have⟨y,p',_,e⟩:=hD;cases e;done)|(have⟨v',e,hv⟩:=hD;grind)
     have⟨r,hr⟩:=rU;have⟨ca,c'⟩:=Zt5 (s:=ss i) hr;have c2':=S.Fj (Nat.le_of_lt tD) (Nat.le_of_lt hi) fA (c.mh (S.oQ j hj)) c';rw[Zt2 (S.oQ j hj) c c2'];exact c'
   .refine S.Fj tD hj (λk h1 h2=>?_) UP c
    rintro⟨p',ee,eZ⟩;rcases Nat.eq_or_lt_of_le h1 with e|e
    .grind
    .by_cases hl:L k
     .exact(jB k p' e ee hl).w2 h eZ hD
     .exact c1 k h2 Fd ⟨p',ee,eZ⟩
 .rcases P.news h cb e with e|e
  .exact I.news h cb e
  .exact .inr ⟨λx=>e.1 (S.oN (eB _) AC x),S.oN (j:=i+1) AC (aW _) ((vO (S.w (i+1) AC) h).2 e.2)⟩
 .rcases hk with hk|hk
  .exact I.sub k hk
  .omega
 .rcases hk with hk|hk
  .exact .inl (I.down j k hk hb)
  grind
end
theorem Zql: ∀(l:List Bool) (i:Nat),l[i]? =some false->(l.set i true).count false+1=l.count false
 |[],i,h=>by simp at h
 |b::l,0,h=>by
  grind
 |b::l,i+1,h=>by
  grind
def jL (listed:Array Bool) (i:Nat):Prop:=listed[i]? =some true
theorem ZtD (hi:i<listed.size) (j:Nat):jL (listed.setIfInBounds i true) j↔jL listed j\/j=i:=by
 grind[jL]
theorem LM (hi:i<listed.size) (h: ¬jL listed i):listed[i]? =some false:=by
 simp_all[jL]
theorem Znq (h:i∈Region.ready .any ops listed):i<ops.size/\¬jL listed i/\∀o,ops[i]? =some o->∀e∈o.after,Region.binds .any e=true->jL listed e.on:=by
 unfold Region.ready at h;have⟨h1,h2⟩:=List.mem_filter.1 h;rw[vw]at h1;simp only[aZ,nN]at h2;refine⟨h1,λhl=>?_,λo ho e he hb=>?_⟩
 .simp_all[jL]
 .have h3:=h2.2
  rw[ho]at h3;simp only[sG,Option.getD_some]at h3;rw[Array.all_eq_true']at h3;have:=h3 e he;rw[hb]at this;simp only[bU,ue]at this;unfold jL;rw[mM]at this;grind
theorem Zsf (ho:ops[i]? =some o) (hl:listed[i]? =some false) (h: ∀e∈o.after,Region.binds .any e=true->jL listed e.on):i∈Region.ready .any ops listed:=by
 unfold Region.ready;refine List.mem_filter.2 ⟨Fd,?_⟩;rw[aZ,nN];refine⟨by rw[mM,hl];rfl,?_⟩;rw[ho,sG,Option.getD_some,Array.all_eq_true'];intro e he;cases hb:Region.binds .any e with
 |false=>rfl
 |true=>
  simp_all[jL]
section
variable {C:aY} {pr ms:al} {ops:Array Oper} {l:List (Oper×Md)} {is:List eQ} {m:Nat} {A B:Nat->Env} {ss:Nat->St}
variable {f:Fr} {ψi:Ps} {L:Nat->Prop} {a:Act} {w:World} {ψ:Ps} {Q:Kn}
theorem Su.QZ (S:Su C pr ms ops l is m A B ss) {listed:Array Bool} (bS:listed.size=ops.size): ∀(n i:Nat),i<n->i<ops.size->¬jL listed i->Region.ready .any ops listed≠[]
 |0,i,h,_,_=>absurd h (Nat.not_lt_zero i)
 |n+1,i,hn,hi,hl=>by
  have hp:l[i]? =some (l[i]'(by rw[S.GD];exact hi)):=dt _;have⟨q,x,T⟩:=S.get hp;by_cases h: ∀e∈(l[i]'(by rw[S.GD];exact hi)).1.after,Region.binds .any e=true->jL listed e.on
  .intro e
   have:=Zsf T.op (LM AC hl) h;rw[e]at this;cases this
  .simp only[Classical.not_forall]at h
   have⟨e,he,hb,hle⟩:=h;have:=T.lt _ (T.on e he hb);exact S.QZ bS n e.on AC AC hle
theorem Inv.congr (I:Inv C f l is m A B ss ψi L a w ψ Q) (h: ∀i,L i↔L' i):Inv C f l is m A B ss ψi L' a w ψ Q:=by
 have:L=L':=funext λi=>propext (h i)
 rw[<-this];exact I
theorem ZoL (S:Su C pr ms ops l is m A B ss) (hd: ∀p∈l,∀x,p.1.dst=some x->f.ok x=true)
  (qt:Nat->Prop) (bar:m<ops.size->(∀k,m<k->k<ops.size->uJ is m k)/\∀i,i<m->uJ is i m\/qt i)
  (fin:m=ops.size->∀a w ψ Q L,(∀i,i<m->L i)->Inv C f l is m A B ss ψi L a w ψ Q->QQ .normal a w)
  (dM:m<ops.size->∀K a w ψ Q L,(∀i,i<m->L i\/qt i)->Inv C f l is m A B ss ψi L a w ψ Q->wpOp C.P ops QQ m K a w):
  ∀(n:Nat) (listed:Array Bool) (a:Act) (w:World) (ψ:Ps) (Q:Kn),listed.size=ops.size->listed.toList.count false<=n->Inv C f l is m A B ss ψi (jL listed) a w ψ Q->wpAny C.P .any ops QQ n listed a w:=by
 have all: ∀(listed:Array Bool) (a:Act) (w:World) (ψ:Ps) (Q:Kn),listed.size=ops.size->Region.ready .any ops listed=[]->Inv C f l is m A B ss ψi (jL listed) a w ψ Q->QQ .normal a w:=by
  intro listed a w ψ Q bS hr I;have gq: ∀i,i<ops.size->jL listed i:=λi hi=>Classical.byContradiction λhn=>S.QZ bS (i+1) i AC hi hn hr
  have hm:m=ops.size:=by
   rcases jd m ops.size with h|h
   .have:=I.sub m (gq m h);omega
   .exact Nat.le_antisymm S.hm h
  grind
 intro n;induction n with
 |zero=>
  intro listed a w ψ Q bS hc I;have hr:Region.ready .any ops listed=[]:=by
   cases hr:Region.ready .any ops listed with
   |nil=>rfl
   |cons i r=>
    have⟨h1,h2,_⟩:=Znq (i:=i) (ops:=ops) (listed:=listed) (by rw[hr];simp);have:=Zql listed.toList i (by rw[iE];exact LM AC h2);omega
  exact⟨hr,all listed a w ψ Q bS hr I⟩
 |succ n ih=>
  intro listed a w ψ Q bS hc I;refine⟨Fd,λi hi=>?_⟩;have⟨h1,h2,h3⟩:=Znq hi;have hp:l[i]? =some (l[i]'(by rw[S.GD];exact h1)):=dt _;have⟨q,x,T⟩:=S.get hp;have wP: ∀j,uJ is j i->jL listed j:=by
   rintro j ⟨q',hq,hb⟩;rw[T.iq]at hq;cases hq;have⟨e,he,hbi,hj⟩:=T.UK j hb;have hl:=h3 _ T.op e he hbi;rcases hj with rfl|hj
   .exact hl
   .exact I.down _ _ hl hj
  have W3:=Zql listed.toList i (by rw[iE];exact LM AC h2);rcases Nat.lt_trichotomy i m with Nr|Nr|Nr
  .refine I.step S Nr hp h2 wP (hd _ (nP _)) λa' w' ψ' Q' I'=>?_
   exact ih _ _ _ ψ' Q' (by simpa using bS) (by rw[Array.toList_setIfInBounds];omega) (I'.congr λj=>(ZtD AC j).symm)
  .grind
  .have:=I.sub m Fd
   omega
theorem Rel.drew {E:Env} {s:St} (R:Rel C f ψ E s a w):Rel C f ψ E s a { w with drawn:=w.drawn+1 } where
 dD:=R.dD.more R.eS (fu.drew w)
 fh:=R.fh
 eS:=R.eS
 iK:=R.iK
 gW:=R.gW
 j6:=R.j6
 defs:=R.defs
 nK:=R.nK
 pj:=R.pj
 ext:=R.ext.trans (Ext.more (fu.drew w))
 news:=R.news
 len:=R.len
 fin:=R.fin
theorem Su.start (S:Su C pr ms ops l is m A B ss) (R:Rel C f ψ (A 0) (ss 0) a w) (hN:(ss m).length<=f.N):Inv C f l is m A B ss ψ (λ_=>False) a w ψ (CR (B 0) (ss 0)):=by
 have R0:=R.gh (S.w 0 (eB _));have Pr: ∀h cb,ψ h=some cb->cY (B m) (ss m) h->cY (B 0) (ss 0) h:=by
  intro h cb e hd;cases h with
  |inl i=>
   rcases jd i (ss 0).length with h|h
   .exact h
   .rw[R0.nK i h (lR hd hN)]at e;cases e
  |inr v=>
   rcases jd v (B 0).bq with h|h
   .exact h
   .rw[R0.pj v h]at e;cases e
 refine⟨R0.dD,R0.eS,R0.iK,λt j hj c1 _=>?_,λh j ab cb hj c1 _ c e=>?_,λi h hi _ hn=>?_,λh cb e=> .inl e,R0.ext,R0.j6,R0.defs,λ_ h=>h.elim,λ_ _ h=>h.elim⟩
 .have:=S.du (j:=0) (ψ:=ψ) (x:=a.tmps.getD t undef) (t:=t) j AC Fd (R0.gW t)
  rwa [ei]at this
 .exact S.Fj (eB _) hj Fd (Pr h cb e (S.oN hj (aW _) (c.mh (S.oQ j hj)))) c
 .cases e:ψ h with
  |none=>rfl
  |some cb=>
   have h1:cY (B m) (ss m) h:=S.oN (j:=i+1) AC (aW _) ((vO (S.w (i+1) AC) h).2 hn.2);exact absurd (S.oN (eB _) (Nat.le_of_lt hi) (Pr h cb e h1)) hn.1
theorem Inv.tail (S:Su C pr ms ops l is m A B ss) (R:Rel C f ψi (A 0) (ss 0) a0 w0) (I:Inv C f l is m A B ss ψi L a w ψ Q):
  (∀i,(ss m).length<=i->i<f.N->ψ (.inl i)=none)/\(∀i cb,ψ (.inl i)=some cb->f.fS (.inl i)=some cb\/(f.s0.length<=i/\i<(ss m).length))/\f.s0.length<=(ss m).length:=by
 have hlen:(ss 0).length<=(ss m).length:=by
  rcases z8 (ss 0).length with h|h
  .omega
  .have:=S.oN (h:= .inl ((ss 0).length-1)) (eB m) (aW m) (by rw[cY];omega)
   grind[cY]
 refine⟨λi h1 h2=>?_,λi cb e=>?_,fF R.len hlen⟩
 .cases e:ψ (.inl i)with
  |none=>rfl
  |some cb=>
   rcases I.news _ cb e with e|⟨_,e⟩
   .rw[R.nK i AC h2]at e;cases e
   grind[cY]
 .rcases I.news _ cb e with e|⟨h1,h2⟩
  .rcases R.news i cb e with h|⟨h1,h2⟩
   .exact .inl h
   omega
  .simp only[cY]at h1 h2
   exact .inr ⟨by have:=R.len;omega,h2⟩
theorem Inv.done (S:Su C pr ms ops l is m A B ss) (R:Rel C f ψi (A 0) (ss 0) a0 w0) (I:Inv C f l is m A B ss ψi L a w ψ Q) (hL: ∀i,i<m->L i):Rel C f ψ (B m) (ss m) a w:=by
 have Xf:(B 0).bq=(A 0).bq:=(S.w 0 (eB _)).bq;have hlen:(ss 0).length<=(ss m).length:=by
  rcases z8 (ss 0).length with h|h
  .omega
  .have:=S.oN (h:= .inl ((ss 0).length-1)) (eB m) (aW m) (by rw[cY];omega)
   grind[cY]
 have gV: ∀h ab cb,ψ h=some cb->CR (B m) (ss m) h ab->Q h ab:=λh ab cb e c=>I.gV h m ab cb (aW _) Fd (λi hi hl=>by have:=I.sub i hl;omega) c e
 refine⟨I.dD.weaken gV,S.oQ m (aW _),I.eS,I.iK,λt=>I.gW t m (aW _) Fd (λi p hi _ hl=>by have:=I.sub i hl;omega),I.j6,I.defs,λi h1 h2=>?_,λv hv=>?_,I.ext.weaken gV,λi cb e=>?_,fF R.len hlen,R.fin⟩
 .cases e:ψ (.inl i)with
  |none=>rfl
  |some cb=>
   rcases I.news _ cb e with e|⟨_,e⟩
   .rw[R.nK i AC h2]at e;cases e
   grind[cY]
 .cases e:ψ (.inr v)with
  |none=>rfl
  |some cb=>
   rcases I.news _ cb e with e|⟨_,e⟩
   .refine absurd e ?_
    have:v<(B m).bq\/(A 0).bq<=v:= .inr (by
     rcases jd v (A 0).bq with h|h
     .have:=S.oN (h:= .inr v) (eB m) (aW m) (by rw[cY];omega)
      grind[cY]
     .exact h)
    rw[R.pj v AC];simp
   grind[cY]
 .rcases I.news _ cb e with e|⟨h1,h2⟩
  .rcases R.news i cb e with h|⟨h1,h2⟩
   .exact .inl h
   omega
  .simp only[cY]at h1 h2
   exact .inr ⟨by have:=R.len;omega,h2⟩
end
section
variable {C:aY} {f:Fr} {ψ:Ps} {E E2:Env} {s s2:St} {a:Act} {w:World} {pr ms:al}
theorem kh.fn (h:kh C dst pr ms l E s s2):
  ∃(m:Nat) (p:Oper×Md) (A B:Nat->Env) (ss:Nat->St),l[m]? =some p/\A 0=E/\ss 0=s/\GW dst (B m) p.1/\p.2.x=0/\qT C p.1 (ls p.2 (B m)) (B m) (ss m) s2/\(∀k,k<=m->jy (A k) (B k))/\
   ∀k p,k<m->l[k]? =some p->Step C dst pr ms p (B k) (ss k) (A (k+1)) (ss (k+1)):=by
 induction h with
 | @gh l E E1 s s2 k _ ih=>
  have⟨m,p,A,B,ss,h1,h2,h3,h4,h5,h6,h7,h8⟩:=ih;refine⟨m,p,λi=>if i=0 then E else A i,B,ss,h1,rfl,h3,h4,h5,h6,λi hi=>?_,λi q hi hq=>Fd⟩;have:=h7 i hi;by_cases e:i=0
  .subst e
   simp only[ju];rw[h2]at this;exact k.trans this
  grind
 | @here p l E s s' g hx hp=>
  exact⟨0,p,λ_=>E,λ_=>E,λ_=>s,rfl,rfl,rfl,g,hx,hp,λ_ _=> .refl E,λk _ hk=>AC⟩
 | @next p l E s E1 s1 s2 st _ ih=>
  have⟨m,p',A,B,ss,h1,h2,h3,h4,h5,h6,h7,h8⟩:=ih;refine⟨m+1,p',λi=>match i with|0=>E|i+1=>A i,λi=>match i with|0=>E|i+1=>B i,λi=>match i with|0=>s|i+1=>ss i,by simpa using h1,rfl,rfl,h4,h5,h6,λi hi=>?_,λi q hi hq=>?_⟩
  .cases i with
   |zero=>exact .refl E
   |succ i=>exact h7 i AC
  grind
theorem Zpv (n:Nat) (i:Nat): ¬jL (Array.replicate n false) i:=by
 grind[jL]
theorem Zua (tC:is=mG C.P pr ops.toList ops.toList []) (hl:l=flags C.mp is 0 is ops.toList) (gT:w8 0 is ops.toList=true)
  (t:Tr C (jQ ops) pr ms l E s E2 s2) (R:Rel C f ψ E s a w) (hN:s2.length<=f.N) (hd: ∀p∈l,∀x,p.1.dst=some x->f.ok x=true)
  (h: ∀ψ' a' w',Rel C f ψ' E2 s2 a' w'->QQ .normal a' w'):wpAny C.P .any ops QQ ops.size (Array.replicate ops.size false) a w:=by
 have hlen:l.length=ops.size:=by rw[hl,DK _ _ _ _ (by rw[tC,DW])];simp
 have⟨A,B,ss,h1,h2,h3,h4,h5⟩:=t.fn;have S:Su C pr ms ops l is ops.size A (λk=>if k=ops.size then E2 else B k) ss:=by
  refine⟨tC,hl,gT,aW _,λk hk=>?_,λk p hk hp=>?_,by rw[h1];exact R.fh⟩
  .by_cases e:k=ops.size
   .grind
   .simp only[e,ke]
    exact(h5 k _ (dt AC)).1
  grind
 rw[<-h1,<-h2]at R;refine ZoL (f:=f) S hd (λ_=>False) AC (λ_ a' w' ψ' Q' L hL I=>?_) AC _ _ _ _ _ _ Do (by rw[Array.toList_replicate,List.count_replicate_self];exact aW _)
  ((S.start R (by rw[<-hlen,h3];exact hN)).congr λi=>⟨False.elim,Zpv _ i⟩)
 have:=I.done S R hL;grind
theorem ZtI (tC:is=mG C.P pr ops.toList ops.toList []) (hl:l=flags C.mp is 0 is ops.toList) (gT:w8 0 is ops.toList=true)
  (t:kh C (jQ ops) pr ms l E s s2) (R:Rel C f ψ E s a w) (hN:s2.length<=f.N) (hd: ∀p∈l,∀x,p.1.dst=some x->f.ok x=true)
  (h: ∀ch a' w',kK ch->mU C f s2 a' w'->QQ (.panic ch) a' w'):wpAny C.P .any ops QQ ops.size (Array.replicate ops.size false) a w:=by
 have hlen:l.length=ops.size:=by rw[hl,DK _ _ _ _ (by rw[tC,DW])];simp
 have⟨m,p,A,B,ss,hp,h1,h2,hg,hx,oZ,hw,bx⟩:=t.fn;have hm:m<ops.size:=by
  grind
 have S:Su C pr ms ops l is m A B ss:=⟨tC,hl,gT,AC,hw,bx,by rw[h1];exact R.fh⟩;have hmN:(ss m).length<=f.N:=fF oZ.1 hN;rw[<-h1,<-h2]at R;have⟨q,x,T⟩:=S.get hp;have zC:x=0:=by rw[T.md]at hx;exact hx
 have hz:=T.zero zC;refine ZoL (f:=f) (ψi:=ψ) S hd (λi=>∀q',is[i]? =some q'->v8 q'.k=true/\q.bf.testBit i=false/\q'.bf.testBit m=false) (λ_=>⟨λk h1 h2=>?_,λi hi=>?_⟩) (λe=>AC) (λ_ K a' w' ψ' Q' L hL I=>?_) _ _ _ _ _ _ Do (by rw[Array.toList_replicate,List.count_replicate_self];exact aW _)
  ((S.start R hmN).congr λi=>⟨False.elim,Zpv _ i⟩)
 .have hq:is[k]? =some (is[k]'(by rw[S.isLen];exact h2)):=dt _
  rcases hz k _ hq AC with h|h|h
  .exact⟨_,hq,h⟩
  .have:=T.lt k h;omega
  .omega
 .have hq:is[i]? =some (is[i]'(by rw[S.isLen];omega)):=dt _
  have late:(is[i]'(by rw[S.isLen];omega)).bf.testBit m=false:=by
   cases h:(is[i]'(by rw[S.isLen];omega)).bf.testBit m with
   |false=>rfl
   |true=>
    have hpi:l[i]? =some (l[i]' AC):=dt _;have⟨q',x',T'⟩:=S.get hpi;have e:=T'.iq;rw[hq]at e;cases e;have:=T'.lt m h;omega
  cases hb:q.bf.testBit i with
  |true=>exact .inl ⟨q,T.iq,hb⟩
  |false=>
   grind
 .have hLm: ¬L m:=λh=>by have:=I.sub m h;omega
  have⟨pre,rM⟩:=I.pre S (aW m) hp hLm (λj hb=>by
   have⟨q',e,hb⟩:=hb;rw[T.iq]at e;cases e;rcases hL j (T.lt j hb)with h|h
   .exact h
   .have hq:is[j]? =some (is[j]'(by rw[S.isLen];have:=T.lt j hb;omega)):=dt _
    rw[(h _ hq).2.1]at hb;cases hb) (λk p' hk ee hl=>by
   have⟨q',x',T'⟩:=S.get ee;rcases hL k hk with h|h
   .exact absurd h hl
   .have⟨h1,h2,_⟩:=h q' T'.iq
    refine⟨λt ht=>?_,λy hw=>?_⟩
    .have⟨_,_,ha⟩:=D9 S.ok k q' T'.iq
     rcases ha m q hk T.iq with ha|ha
     .rw[ei,h2]at ha;cases ha
     .have⟨_,e1,_,_⟩:=ha
      rw[T'.dst,T.lk,ht]at e1;exact e1
    .rw[T'.md]at hw
     generalize q'.k=z at h1 hw;cases z<;>first|exact hw.elim|cases h1) (λk p' hk _ hl=>by have:=I.sub k hl;omega)
  have⟨WN,Ri,WM⟩:=I.tail S R;unfold wpOp;simp only[T.op];rw[bO (ZlE rM hg)];refine .inl (oZ.2 ψ' Q' a' w' K QQ pre (λk hk=>?_) λzV xJ ch qK g0 g1 g2 g3 g4=>h ch a' qK g0 ⟨I.defs,I.j6,_,Go.Gv.tc (s':=s2) R.fin g1 (I.ext.trans g2) g4 λi cb e=>?_⟩)
  .cases k with
   |inl i=>
    have h1:=hk.1;have h2:=hk.2
    grind[cY]
   |inr v=>
    have h1:=hk.1;have h2:=hk.2
    exact absurd h2 h1
  .rcases g3 _ cb e with e|⟨n1,n2⟩
   .rcases Ri i cb e with h|⟨h1,h2⟩
    .exact .inl h
    .exact .inr ⟨h1,lR h2 oZ.1⟩
   grind[cY]
end
variable {K:Env->M β}
section
variable {C:aY} {f:Fr} {ψ:Ps} {E E2:Env} {s s2:St} {a:Act} {w:World} {pr:al}
theorem yk: ∀ {l:List Oper} {n:Nat->Bool},okO n l=true->∀o∈l,∀x,o.dst=some x->n x=true
 |[],_,_,o,ho,_,_=>by cases ho
 |y::r,n,h,o,ho,x,hx=>by
  simp only[okO,aZ]at h;cases ho with
  |head=>
   have h1:=h.1;rw[hx]at h1;exact h1
  |tail _ ho=>exact yk h.2 o ho x hx
theorem ZqL (pr:al) (ops:List Oper) (y:Oper) (r:List Oper) (x:Nat) (h:has (match y.dst with|some d=>d::rZ pr ops r|none=>rZ pr ops r) x=true):has (rZ pr ops (y::r)) x=true:=by
 rw[rZ];split
 .split
  .rw[has,kb];exact .inr h
  .exact h
 .rw[has,kb];exact .inr h
 .exact h
theorem ZrB {ops:List Oper} {x:Nat} (hx:o.dst=some x): ∀(l:List Oper),o∈l->has (rZ pr ops l) x=true:=by
 intro l;induction l with
 |nil=>intro ho;cases ho
 |cons y r ih=>
  intro ho;refine ZqL pr ops y r x ?_;cases ho with
  |head=>rw[hx];simp[has]
  |tail _ ho=>
   have:=ih ho;cases y.dst with
   |none=>exact this
   |some d=>simp[has,this]
theorem Zpz (hC:kI C) (hc:ZI C c) {d:Bool} (h:GN C pr c ops d E K s=some r):
  (∃E' s',s.length<=s'.length/\K E' s'=some r/\Mod (λu=>has (jn pr (.region 0 ops d)) u=false) E E'/\
   ∀ {f:Fr} {ψ:Ps} {a:Act} {w:World} (QQ:Exit->Act->World->Prop) (id:Nat),Rel C f ψ E s a w->C.P.follows .mixedOrders=true->okO f.ok ops.toList=true->s'.length<=f.N->
    (∀ψ' a' w',Rel C f ψ' E' s' a' w'->QQ .normal a' w')->(Code.region id ops d).wp C.P QQ a w)\/
  (∃s',r=(.dM,s')/\s.length<=s'.length/\
   ∀ {f:Fr} {ψ:Ps} {a:Act} {w:World} (QQ:Exit->Act->World->Prop) (id:Nat),Rel C f ψ E s a w->C.P.follows .mixedOrders=true->okO f.ok ops.toList=true->s'.length<=f.N->
    (∀ch a' w',kK ch->mU C f s' a' w'->QQ (.panic ch) a' w')->(Code.region id ops d).wp C.P QQ a w):=by
 have V0: ∀(l:List (Oper×Md)),(∀p∈l,p.1∈ops.toList)->∀u,has (jn pr (.region 0 ops d)) u=false->Du (rZ pr ops.toList ops.toList) l u:=by
  intro l hl u hu;refine⟨λp hp e=>?_,hu⟩;have:=ZrB (pr:=pr) (ops:=ops.toList) e _ (hl p hp);simp only[jn]at hu;rw[hu]at this;cases this
 have wk: ∀ {l:List (Oper×Md)} {E':Env},(∀p∈l,p.1∈ops.toList)->Mod (Du (rZ pr ops.toList ops.toList) l) E E'->Mod (λu=>has (jn pr (.region 0 ops d)) u=false) E E':=
  λhl m=>⟨λu hu=>m.get u (V0 _ hl u hu),m.bq,m.qJ,m.sm⟩
 cases d with
 |false=>
  simp only[GN,ae]at h;have hl: ∀p∈ops.toList.map (λo=>(o,Md.s)),p.1∈ops.toList:=by
   simp
  have hi: ∀k p,(ops.toList.map λo=>(o,Md.s))[k]? =some p->ops[0+k]? =some p.1:=by
   simp
  have bS:(ops.toList.map λo=>(o,Md.s)).length=ops.size:=Do
  rcases ZnO (dst:=jQ ops) hC hc (ops:=ops.toList) _ _ _ _ _ _ h (λp hp=>by obtain⟨o,_,rfl⟩:=ox.1 hp;exact .inl rfl) (λg hg=>by cases hg)with⟨E',s',t,hk,_,hm⟩|⟨s',e,t⟩
  .refine .inl ⟨E',s',t.len,hk,wk hl hm,λQQ id R _ ho hN hn=>wp_region ?_⟩
   have:=ZsQ (QQ:=QQ) t R hN (λp hp x hx=>yk ho p.1 (hl p hp) x hx) hi hn;rw[bS]at this;rwa [List.range_eq_range']
  .refine .inr ⟨s',e,t.len,λQQ id R _ ho hN hn=>wp_region ?_⟩
   have:=ZrP (QQ:=QQ) t R hN (λp hp x hx=>yk ho p.1 (hl p hp) x hx) hi hn;rw[bS]at this;rwa [List.range_eq_range']
 |true=>
  simp only[GN,aa]at h;have⟨gT,h⟩:=Zq h;have hl: ∀p∈flags C.mp (mG C.P pr ops.toList ops.toList []) 0 (mG C.P pr ops.toList ops.toList []) ops.toList,p.1∈ops.toList:=by
   intro p hp;have⟨k,hk⟩:=xr hp;obtain⟨q,o,_,h2,rfl⟩:=Ek _ _ _ _ _ _ hk;grind
  rcases ZnO (dst:=jQ ops) hC hc (ops:=ops.toList) _ _ _ _ _ _ h (λp hp=>by
   have⟨k,hk⟩:=xr hp;obtain⟨q,o,h1,h2,rfl⟩:=Ek _ _ _ _ _ _ hk;have⟨o',g1,_,g3,_,_⟩:=K2 _ _ _ _ _ _ _ h1;rw[h2]at g1;cases g1;exact .inr ⟨_,_,_,by rw[g3]⟩) (λg hg=>by cases hg)with⟨E',s',t,hk,_,hm⟩|⟨s',e,t⟩
  .exact .inl ⟨E',s',t.len,hk,wk hl hm,λQQ id R hf ho hN hn=>wp_region_any hf (Zua rfl rfl gT t R.drew hN (λp hp x hx=>yk ho p.1 (hl p hp) x hx) hn)⟩
  .exact .inr ⟨s',e,t.len,λQQ id R hf ho hN hn=>wp_region_any hf (ZtI rfl rfl gT t R.drew hN (λp hp x hx=>yk ho p.1 (hl p hp) x hx) hn)⟩
end
theorem dN.cast (hS:dN C ψ Q w) (hc: ∀h cb ab,ψ' h=some cb->Q' h ab->ψ h=some cb/\∃ca,Q h ca/\(ab.fq=true->ca.fq=true)/\(Holds C ψ w cb ca->Holds C ψ' w cb ab)):dN C ψ' Q' w:=by
 constructor
 .intro h cb ab e q
  have⟨e0,ca,q0,_,hh⟩:=hc h cb ab e q;exact hh (hS.holds h cb ca e0 q0)
 .intro h cb ab h' eI ca e q hs e' q' hn
  have⟨e0,x,q0,s0,_⟩:=hc h cb ab e q;have⟨e1,y,q1,_,_⟩:=hc h' eI ca e' q';exact hS.oh h cb x h' eI y e0 q0 (s0 hs) e1 q1 hn
theorem Ext.cast (hE:Ext fS Q0 w0 ψ Q w) (hm: ∀h cb,fS h=some cb->ψ' h=some cb) (hp: ∀h cb,ψ' h=some cb->ψ h=some cb)
  (hc: ∀h cb ab,ψ' h=some cb->Q' h ab->∃ca,Q h ca/\(ab.fq=true->ca.fq=true)):Ext fS Q0 w0 ψ' Q' w where
 mono:=hm
 nF:=λh cb e=>hE.nF h cb (hp h cb e)
 size:=hE.size
 gU:=hE.gU
 fq:=λb ⟨h,cb,ab,e,q,hs,hb⟩=>by
  have⟨ca,q',mu⟩:=hc h cb ab e q;exact hE.fq b ⟨h,cb,ca,hp h cb e,q',mu hs,hb⟩
 live:=λh cb x e q=>by
  have⟨ca,q',_⟩:=hc h cb x (hm h cb e) q;exact hE.live h cb ca e q'
 tape:=hE.tape
 os:=hE.os
 output:=hE.output
def og (ψ:Ps) (N:Nat):Ps
 | .inl i=>ψ (.inl i)
 | .inr v=>if v<N then ψ (.inr v)else none
theorem Lc (e:og ψ N h=some cb):ψ h=some cb:=by
 grind[og]
structure Hb (cs cs':List DV):Prop where
 len:cs'.length=cs.length
 rel: ∀(C:aY) ψ vs,ba C ψ cs vs->ba C ψ cs' vs
 one:cs.all one=true->cs'.all one=true
theorem Holds.RO {f:Bool} {cs:af} (k:Hb cs cs') (h:Holds C ψ w cb (.cells f cs)):Holds C ψ w cb (.cells f cs'):=by
 have⟨h1,h2,h3,h4⟩:=h;refine⟨by rw[k.len];exact h1,k.one h2,λj d hd=>?_,h4⟩;have hv:ba C ψ cs ((List.range cs.length).map λj=>(w.cell? ⟨cb.b,cb.o+j,none⟩).getD undef):=by
  refine ba.of _ _ Do λj d v g1 g2=>?_
  grind
 have⟨v,dB,hr⟩:=(k.rel C ψ _ hv).get hd;rw[jJ]at dB;have hj:j<cs.length:=by
  grind
 rw[List.getElem?_range hj]at dB;simp only[sG,eO]at dB;have⟨v',hc,_⟩:=h3 j cs[j] (dt hj);rw[hc]at dB;grind
inductive Wj (e:dz):dz->Prop
 |u:Wj e .u
 |same:Wj e e
 |v (d d':DV):e= .v d->(∀(C:aY) ψ x,VR C ψ d x->VR C ψ d' x)->Wj e (.v d')
 |loc (v n:Nat) (cs cs':af):e= .loc v n cs->Hb cs cs'->Wj e (.loc v n cs')
structure ur (E E':Env):Prop where
 bq:E'.bq<=E.bq
 get: ∀t,Wj (E.get t) (E'.get t)
 cd: ∀t v,(E'.get t).cd=some v->v<E'.bq
 pl: ∀t r v o,E'.get t= .pl r v o->v<E'.bq
theorem Wj.cd {e e':dz} (h:Wj e e') {v:Nat} (hv:e'.cd=some v):e.cd=some v:=by
 cases h with
 |u=>cases hv
 |same=>exact hv
 |v d d' _ _=>cases hv
 |loc v' n cs cs' he _=>rw[he];exact hv
section
variable {C:aY} {f:Fr} {ψ:Ps} {E E':Env} {s:St} {a:Act} {w:World}
theorem CR.sq (k:ur E E') (c:CR E' s h ab): ∃ca,CR E s h ca/\(ab.fq=true->ca.fq=true)/\∀(C:aY) ψ w cb,Holds C ψ w cb ca->Holds C ψ w cb ab:=by
 cases h with
 |inl i=>exact⟨ab,c,λh=>h,λ_ _ _ _ h=>h⟩
 |inr v=>
  rcases c with⟨t,n,cs,e,rfl⟩|⟨t,l,p,e,rfl⟩
  .have:=k.get t
   rw[e]at this;generalize he:E.get t=x at this;cases this with
   |same=>exact⟨_,.inl ⟨t,n,cs,he,rfl⟩,λh=>h,λ_ _ _ _ h=>h⟩
   |loc _ _ jA _ h1 h2=>exact⟨_,.inl ⟨t,n,jA,he.trans h1,rfl⟩,λh=>h,λ_ _ _ _ h=>h.RO h2⟩
  .have:=k.get t
   rw[e]at this;generalize he:E.get t=x at this;cases this with
   |same=>exact⟨_,.inr ⟨t,l,p,he,rfl⟩,λh=>h,λ_ _ _ _ h=>h⟩
theorem Holds.og {N:Nat} {cb:CB} {ab:AB} (h:Holds C ψ w cb ab):Holds C (Go.Gv.og ψ N) w cb ab:=h.same (ψ:=ψ) (ψ':=Go.Gv.og ψ N) (λ_ _ e=>e) rfl
theorem gG.sq (h:gG E) (k:ur E E'):gG E':=by
 refine⟨k.cd,k.pl,λt v n cs e=>?_,λt t' v hv dB=>h.uniq t t' v ((k.get t).cd hv) ((k.get t').cd dB)⟩;have:=k.get t;rw[e]at this;generalize he:E.get t=x at this;cases this with
 |same=>exact h.len t v n cs he
 |loc _ _ jA _ h1 h2=>rw[h2.len];exact h.len t v n jA (he.trans h1)
theorem Rel.sq (R:Rel C f ψ E s a w) (k:ur E E'):Rel C f (og ψ E'.bq) E' s a w where
 dD:=R.dD.cast λh cb ab e c=>by
  have⟨ca,c',hs,hh⟩:=c.sq k;exact⟨Lc e,ca,c',hs,λx=>(hh C ψ w cb x).og⟩
 fh:=R.fh.sq k
 eS:=λh cb e=>R.eS h cb (Lc e)
 iK:=λg hg=>R.iK g hg
 gW:=λt=>by
  have h:=R.gW t;have rU:=k.cd t;have fY:=k.pl t;have gU: ∀v cb,v<E'.bq->ψ (.inr v)=some cb->og ψ E'.bq (.inr v)=some cb:=λv cb hv e=>by grind[og]
  have:=k.get t;generalize he':E'.get t=x' at this rU fY;generalize he:E.get t=x at this h;have same:eV C ψ x' (a.tmps.getD t Go.undef)->eV C (og ψ E'.bq) x' (a.tmps.getD t Go.undef):=by
   intro h;cases x' with
   |u=>trivial
   |un=>exact h
   |v d=>exact VR.mono (ψ:=ψ) (ψ':=og ψ E'.bq) (λ_ _ e=>e) h
   |lL ds=>have⟨vs,e,r⟩:=h;exact⟨vs,e,r.mono (ψ:=ψ) (ψ':=og ψ E'.bq) λ_ _ e=>e⟩
   |loc v n cs=>have⟨cb,e,r⟩:=h;exact⟨cb,gU v cb (rU v rfl) e,r⟩
   |pl q v n=>have⟨cb,e,r⟩:=h;exact⟨cb,gU v cb (fY q v n rfl) e,r⟩
   |it v l p=>have⟨cb,e,r⟩:=h;exact⟨cb,gU v cb (rU v rfl) e,r⟩
  cases this with
  |u=>trivial
  |same=>exact same h
  |v d d' e hc=>subst e;exact same (hc C ψ _ h)
  |loc v n cs cs' e hc=>subst e;exact same h
 j6:=R.j6
 defs:=R.defs
 nK:=R.nK
 pj:=λv hv=>by grind[og]
 ext:=R.ext.cast (λh cb e=>by
   cases h with
   |inl i=>exact R.ext.mono _ _ e
   |inr v=>rw[R.fin]at e;cases e) (λh cb e=>Lc e) (λh cb ab _ c=>by
   have⟨ca,c',hs,_⟩:=c.sq k;exact⟨ca,c',hs⟩)
 news:=λi cb e=>R.news i cb e
 len:=R.len
 fin:=R.fin
inductive GJ (E0 E:Env):List (Nat×JS)->List DV->Prop
 |nil:GJ E0 E [] []
 |v (t:Nat) (x:Sh) (d:DV) (r:List (Nat×JS)) (ds:af):E.get t= .v d->GJ E0 E r ds->GJ E0 E ((t,.v x)::r) (d::ds)
 |l (t:Nat) (x:List B) (v n n0:Nat) (cs jA:af) (r:List (Nat×JS)) (ds:af):E.get t= .loc v n cs->E0.get t= .loc v n0 jA->GJ E0 E r ds->GJ E0 E ((t,.l x)::r) (.agg cs::ds)
 |t (t:Nat) (v:Nat) (l l0:aj) (p p0:Nat) (r:List (Nat×JS)) (ds:af):E.get t= .it v l p->E0.get t= .it v l0 p0->GJ E0 E r ds->GJ E0 E ((t,.t)::r) (.nat p::ds)
theorem qV {E0 E:Env} : ∀ {J:List (Nat×JS)} {K:af->M β} {s:St} {r:Out β×St},nj E0 E J K s=some r->∃ds,GJ E0 E J ds/\K ds s=some r
 |[],K,s,r,h=>⟨[],.nil,h⟩
 |(t,x)::J,K,s,r,h=>by
  simp only[nj]at h;cases x with
  |v x=>
   cases e:E.get t with
   |v d=>
    rw[e]at h;have⟨ds,g,hk⟩:=qV h;exact⟨_,.v t x d J ds e g,hk⟩
   |_=>rw[e]at h;cases h
  |l x=>
   cases e:E.get t with
   |loc v n cs=>
    rw[e]at h;cases e0:E0.get t with
    |loc v0 n0 jA=>
     rw[e0]at h;simp only at h;have⟨hv,h2⟩:=Zq h;have:=cO hv;subst this;have⟨ds,g,hk⟩:=qV h2;exact⟨_,.l t x v0 n n0 cs jA J ds e e0 g,hk⟩
    |_=>rw[e0]at h;cases h
   |_=>rw[e]at h;cases h
  |t=>
   cases e:E.get t with
   |it v l p=>
    rw[e]at h;cases e0:E0.get t with
    |it v0 l0 p0=>
     rw[e0]at h;simp only at h;have⟨hv,h2⟩:=Zq h;have:=cO hv;subst this;have⟨ds,g,hk⟩:=qV h2;exact⟨_,.t t v0 l l0 p p0 J ds e e0 g,hk⟩
    |_=>rw[e0]at h;cases h
   |_=>rw[e]at h;cases h
inductive PJ (E:Env):List (Nat×JS)->List DV->Env->Env->Prop
 |nil (E1:Env):PJ E [] [] E1 E1
 |v (t:Nat) (x:Sh) (d d':DV) (r:List (Nat×JS)) (ds:af) (E1 E':Env):(∀(C:aY) ψ x,VR C ψ d x->VR C ψ d' x)->PJ E r ds (E1.put t (.v d')) E'->PJ E ((t,.v x)::r) (d::ds) E1 E'
 |l (t:Nat) (x:List B) (v n:Nat) (jA cs cs':af) (r:List (Nat×JS)) (ds:af) (E1 E':Env):E.get t= .loc v n jA->Hb cs cs'->PJ E r ds (E1.put t (.loc v n cs')) E'->PJ E ((t,.l x)::r) (.agg cs::ds) E1 E'
 |t (t:Nat) (v:Nat) (l:aj) (p0 p:Nat) (r:List (Nat×JS)) (ds:af) (E1 E':Env):E.get t= .it v l p0->PJ E r ds (E1.put t (.it v l p)) E'->PJ E ((t,.t)::r) (.nat p::ds) E1 E'
theorem vP {E:Env} : ∀ {J:List (Nat×JS)} {st:af} {E1:Env} {K:Env->M β} {s:St} {r:Out β×St},nD E J st E1 K s=some r->∃E',PJ E J st E1 E'/\K E' s=some r
 |[],st,E1,K,s,r,h=>by
  simp only[nD]at h;cases st with
  |nil=>exact⟨E1,.nil E1,h⟩
  |cons _ _=>cases h
 |(t,x)::J,st,E1,K,s,r,h=>by
  simp only[nD]at h;cases st with
  |nil=>cases h
  |cons d rest=>
   simp only[im]at h;cases x with
   |v x=>
    have⟨d',h,hd,_⟩:=Ev h;have⟨E',g,hk⟩:=vP h;exact⟨E',.v t x d d' J rest E1 E' hd g,hk⟩
   |l x=>
    cases e:E.get t with
    |loc v n jA=>
     rw[e]at h;cases d with
     |agg cs=>
      have⟨cs',h,hl,hr,h1⟩:=Ar h;have⟨E',g,hk⟩:=vP h;exact⟨E',.l t x v n jA cs cs' J rest E1 E' e ⟨hl,hr,h1⟩ g,hk⟩
     |_=>cases h
    |_=>rw[e]at h;cases h
   |t=>
    cases e:E.get t with
    |it v l p0=>
     rw[e]at h;cases d with
     |nat p=>
      have⟨E',g,hk⟩:=vP h;exact⟨E',.t t v l p0 p J rest E1 E' e g,hk⟩
     |_=>cases h
    |_=>rw[e]at h;cases h
theorem PJ.sq (h0:gG E0) (hv: ∀t v n cs,E2.get t= .loc v n cs->(∃jA,E0.get t= .loc v n jA)\/E0.bq<=v) (hi: ∀t v l p,E2.get t= .it v l p->(∃p0,E0.get t= .it v l p0)\/E0.bq<=v):
  ∀ {J:List (Nat×JS)} {ds:af} {E1 E':Env},GJ E0 E2 J ds->PJ E0 J ds E1 E'->E1.bq=E0.bq->E0.bq<=E2.bq->ur E2 E1->ur E2 E'/\E'.bq=E0.bq/\(∀fG u,vj fG J=true->has fG u=false->E'.get u=E1.get u):=by
 intro J;induction J with
 |nil=>
  intro ds E1 E' g p h1 _ k;cases g;cases p;grind
 |cons x J ih=>
  intro ds E1 E' g p h1 hn k;obtain⟨t,x⟩:=x;have fin: ∀ {e:dz} {ds:af},Wj (E2.get t) e->(∀v,e.cd=some v->v<E0.bq)->(∀r v o,e≠ .pl r v o)->GJ E0 E2 J ds->PJ E0 J ds (E1.put t e) E'->ur E2 E'/\E'.bq=E0.bq/\(∀fG u,vj fG ((t,x)::J)=true->has fG u=false->E'.get u=E1.get u):=by
   intro e ds hw rU fY g p;have⟨r1,r2,r3⟩:=ih g p (by simpa using h1) hn ⟨by simp[h1,hn],λu=>by
     rw[Env.nk];split
     .grind
     .exact k.get u,λu v e=>by
     rw[Env.nk]at e;rw[Env.QO,h1];split at e
     .exact rU v e
     .have:=k.cd u v e;omega,λu r v o e=>by
     rw[Env.nk]at e;rw[Env.QO,h1];split at e
     .grind
     .have:=k.pl u r v o e;omega⟩
   refine⟨r1,r2,λfG u h1 h2=>?_⟩;simp only[vj,aZ]at h1;rw[r3 fG u h1.2 h2,Env.nk,cG];grind
  cases p with
  |v _ sx d d' _ ds _ _ hc p=>
   cases g with
   |v _ _ _ _ _ e g=>exact fin (.v d d' e hc) (λv h=>by cases h) (λ_ _ _ h=>by cases h) g p
  |l _ sx v n jA cs cs' _ ds _ _ he hc p=>
   cases g with
   |l _ _ v2 n2 n0 _ eb _ _ e e0 g=>
    rw[he]at e0;cases e0;rcases hv t _ _ _ e with⟨c,e1⟩|e1
    .rw[he]at e1;cases e1
     exact fin (.loc _ _ cs cs' e hc) (λv h=>by cases h;exact h0.lt t _ (by rw[he];rfl)) (λ_ _ _ h=>by cases h) g p
    .have:=h0.lt t _ (by rw[he];rfl);omega
  |t _ v l p0 q _ ds _ _ he p=>
   cases g with
   |t _ v2 l2 l0 _ p2 _ _ e e0 g=>
    rw[he]at e0;cases e0;rcases hi t _ _ _ e with⟨c,e1⟩|e1
    .rw[he]at e1;cases e1
     exact fin (by rw[e];exact .same) (λv h=>by cases h;exact h0.lt t _ (by rw[he];rfl)) (λ_ _ _ h=>by cases h) g p
    .have:=h0.lt t _ (by rw[he];rfl);omega
abbrev Un (l:al) (u:Nat):Prop:=has l u=false
theorem Kx (h0:gG E0) (hm:Mod (Un fG) E0 E2) (g:GJ E0 E2 J ds) (p:PJ E0 J ds (E0.del fG) E') (hj:vj fG J=true):
  ur E2 E'/\Mod (Un fG) E0 E':=by
 have k0:ur E2 (E0.del fG):=by
  refine⟨hm.bq,λt=>?_,λt v e=>?_,λt r v o e=>?_⟩
  .rw[sO]
   cases h:has fG t with
   |true=>exact .u
   |false=>rw[hm.get t h];exact .same
  .rw[sO]at e
   split at e
   .cases e
   .exact h0.lt t v e
  .rw[sO]at e
   split at e
   .cases e
   .exact h0.pl t r v o e
 have⟨r1,r2,r3⟩:=PJ.sq h0 hm.qJ hm.sm g p rfl hm.bq k0;have und: ∀u,Un fG u->E'.get u=E0.get u:=λu hu=>by
  have hu':has fG u=false:=hu;rw[r3 fG u hj hu,sO,hu'];rfl
 refine⟨r1,und,AC,λt v n cs e=>?_,λt v l p e=>?_⟩
 .have:=r1.get t
  rw[e]at this;generalize he:E2.get t=x at this;cases this with
  |same=>exact hm.qJ t v n cs he
  |loc _ _ jA _ h1 _=>exact hm.qJ t v n jA (he.trans h1)
 .have:=r1.get t
  rw[e]at this;generalize he:E2.get t=x at this;cases this with
  |same=>exact hm.sm t v l p he
end
def Lk (K:Env->M β) (r:Out β×St):Prop:=∀E s,K E s=some r->s.length<=r.2.length
theorem D7 {g:(Env->M β)->M β} (h:Od E fG J K g s=some r):
  vj fG J=true/\g (λE1=>nj E E1 J λst=>nD E J st (E.del fG) K) s=some r:=by
 have⟨h1,h⟩:=Zq h;rw[Ff]at h;exact⟨h1,h⟩
theorem KB (h:nj E0 E1 J (λst=>nD E0 J st (E0.del fG) K) s=some r):
  ∃ds E',GJ E0 E1 J ds/\PJ E0 J ds (E0.del fG) E'/\K E' s=some r:=by
 have⟨ds,g,h⟩:=qV h;have⟨E',p,h⟩:=vP h;grind
theorem Lk.CC (h:Lk K r):Lk (λE1=>nj E0 E1 J λst=>nD E0 J st (E0.del fG) K) r:=by
 intro E1 s hs;have⟨_,E',_,_,hs⟩:=KB hs;exact h E' s hs
theorem Lk.block {kx:Nat->Env->M β} (h:Lk K r) (hx: ∀i,Lk (kx i) r): ∀i,Lk (λE1=>bif Nat.beq i id then K E1 else kx i E1) r:=by
 intro i E s hs;cases hb:Nat.beq i id with
 |true=>simp only[hb]at hs;exact h E s hs
 |false=>simp only[hb]at hs;exact hx i E s hs
section
variable {C:aY} {pr:al} {c:Zd} {n:Nat} {r:Out β×St}
theorem AR (hC:kI C) (hc:ZI C c): ∀(code:Code) (A:lS) (kn:Env->M β) (kx:Nat->Env->M β) (kr:Env->M β),Lk kn r->(∀i,Lk (kx i) r)->Lk kr r->Lk (exec C pr c n code A kn kx kr) r:=by
 intro code;induction code with
 |skip=>intro A kn kx kr hn hx hr E s h;exact hn E s h
 |region id ops d=>
  intro A kn kx kr hn hx hr E s h;simp only[exec]at h;rcases Zpz hC hc h with⟨E',s',hl,hk,_,_⟩|⟨s',e,hl,_⟩
  .exact fF hl (hn E' s' hk)
  .rw[e];exact hl
 |seq a b wW zG=>
  intro A kn kx kr hn hx hr E s h;simp only[exec]at h;exact wW A.a _ kx kr Fd hx hr E s h
 |cond x a b wW zG=>
  intro A kn kx kr hn hx hr E s h;simp only[exec]at h;have⟨v,_,h⟩:=Kj h;have two: ∀ {A1 A2:lS} {kn:Env->M β},Lk kn r->(bif v then exec C pr c n a A1 kn kx kr E else exec C pr c n b A2 kn kx kr E) s=some r->s.length<=r.2.length:=by
   intro A1 A2 kn hn h;cases v with
   |true=>exact wW A1 kn kx kr hn hx hr E s h
   |false=>exact zG A2 kn kx kr hn hx hr E s h
  cases A with
  |j J A1 A2=>exact two (Lk.CC hn) (D7 h).2
  |z=>exact two hn h
  |n A1 A2=>exact two hn h
 |block id body ih=>
  intro A kn kx kr hn hx hr E s h;simp only[exec]at h;cases A with
  |j J A1 A2=>exact ih A1 _ _ kr (Lk.CC hn) (Lk.block (Lk.CC hn) hx) hr E s (D7 h).2
  |z=>exact ih _ _ _ kr hn (Lk.block hn hx) hr E s h
  |n A1 A2=>exact ih _ _ _ kr hn (Lk.block hn hx) hr E s h
 |loop body ih=>
  intro A kn kx kr hn hx hr E s h;simp only[exec]at h;cases A with
  |j J A1 A2=>
   have⟨hj,h⟩:=Zq h;have⟨st,_,h⟩:=qV h;have key: ∀(k:Nat) (st:af) (s:St),dL (λrec st=>nD E J st (E.del (jn pr body)) λE1=>exec C pr c n body A1 (λE2=>nj E E2 J rec) kx kr E1) k st s=some r->s.length<=r.2.length:=by
    intro k;induction k with
    |zero=>intro st s h;cases h
    |succ k Ob=>
     intro st s h;simp only[dL]at h;have⟨E',_,h⟩:=vP h;refine ih A1 _ kx kr (λE2 s2 h2=>?_) hx hr E' s h;have⟨sf,_,h2⟩:=qV h2;exact Ob sf s2 h2
   exact key n st s h
  |z=>cases h
  |n A1 A2=>cases h
 |exit id=>intro A kn kx kr hn hx hr E s h;exact hx id E s h
 |ret=>intro A kn kx kr hn hx hr E s h;exact hr E s h
 |_=>intros;intro E s h;cases h
theorem Zl0 (l l':al) (u:Nat):has (l++l') u=(has l u||has l' u):=by
 induction l with
 |nil=>rfl
 |cons x l ih=>simp[qN,has,ih,Bool.or_assoc]
theorem Un.left {l:al} (h:Un (l++l') u):Un l u:=by
 have h':has (l++l') u=false:=h;rw[Zl0,xk]at h';exact h'.1
theorem Un.right {l:al} (h:Un (l++l') u):Un l' u:=by
 have h':has (l++l') u=false:=h;rw[Zl0,xk]at h';exact h'.2
theorem Mod.un {un:Nat->Prop} (h:Mod un E E') (k: ∀u,C8 u->un u):Mod C8 E E':=⟨λu hu=>h.get u (k u hu),h.bq,h.qJ,h.sm⟩
variable {f:Fr}
theorem Rel.eval {ψ:Ps} {E:Env} {s:St} {a:Act} {w:World} (R:Rel C f ψ E s a w) (x:Operand):eV C ψ (E.src C x) (a.eval x):=by
 have p:ax C ⟨none,.move x,0, "", #[],none⟩ (λ_=>True) E s ψ (CR E s) a w:=R.pre;exact p.src (by simp[Op.operands])
theorem LO (hC:kI C) (hc:ZI C c) (uX:C.P.follows .mixedOrders=true) (hN:r.2.length<=f.N): ∀(code:Code) (A:lS) (kn:Env->M β) (kx:Nat->Env->M β) (kr:Env->M β),sa f.ok code=true->Lk kn r->(∀i,Lk (kx i) r)->Lk kr r->
  ∀(E:Env) (s:St),exec C pr c n code A kn kx kr E s=some r->∀(ψ:Ps) (a:Act) (w:World) (QQ:Exit->Act->World->Prop),Rel C f ψ E s a w->
  (∀E' s' ψ' a' w',kn E' s'=some r->Rel C f ψ' E' s' a' w'->Mod (Un (jn pr code)) E E'->QQ .normal a' w')->
  (∀i E' s' ψ' a' w',kx i E' s'=some r->Rel C f ψ' E' s' a' w'->Mod (Un (jn pr code)) E E'->QQ (.exit i) a' w')->
  (∀E' s' ψ' a' w',kr E' s'=some r->Rel C f ψ' E' s' a' w'->QQ .ret a' w')->
  (∀ch a' w' s',r=(.dM,s')->kK ch->mU C f s' a' w'->QQ (.panic ch) a' w')->code.wp C.P QQ a w:=by
 intro code;induction code with
 |skip=>intro A kn kx kr ho hn hx hr E s h ψ a w QQ R qn qx qr qp;exact wp_skip (qn E s ψ a w h R (.refl _ _))
 |region id ops d=>
  intro A kn kx kr ho hn hx hr E s h ψ a w QQ R qn qx qr qp;simp only[exec]at h;rcases Zpz hC hc h with⟨E',s',hl,hk,hm,hw⟩|⟨s',e,hl,hw⟩
  .exact hw QQ id R uX ho (fF (hn E' s' hk) hN) λψ' a' w' R'=>qn E' s' ψ' a' w' hk R' hm
  .exact hw QQ id R uX ho (by rw[e]at hN;exact hN) λch a' w' hv hp=>qp ch a' w' s' e hv hp
 |seq a b wW zG=>
  intro A kn kx kr ho hn hx hr E s h ψ ac w QQ R qn qx qr qp;simp only[sa,aZ]at ho;simp only[exec]at h;refine wp_seq (wW A.a _ kx kr ho.1 (AR hC hc b A.b kn kx kr hn hx hr) hx hr E s h ψ ac w _ R ?_ ?_ ?_ ?_)
  .intro E' s' ψ' a' w' h' R' m'
   refine zG A.b kn kx kr ho.2 hn hx hr E' s' h' ψ' a' w' QQ R' ?_ ?_ qr qp
   .intro E2 s2 ij a2 w2 h2 R2 m2
    exact qn E2 s2 ij a2 w2 h2 R2 (m'.trans m2 (λu hu=>Un.left hu) λu hu=>Un.right hu)
   .intro i E2 s2 ij a2 w2 h2 R2 m2
    exact qx i E2 s2 ij a2 w2 h2 R2 (m'.trans m2 (λu hu=>Un.left hu) λu hu=>Un.right hu)
  .intro i E' s' ψ' a' w' h' R' m'
   exact qx i E' s' ψ' a' w' h' R' (m'.un λu hu=>Un.left hu)
  .exact qr
  .exact qp
 |cond x a b wW zG=>
  intro A kn kx kr ho hn hx hr E s h ψ ac w QQ R qn qx qr qp;simp only[sa,aZ]at ho;simp only[exec]at h;have⟨v,hv,h⟩:=Kj h;have he:ac.eval x= .bool v:=by
   have:=R.eval x;rw[hv]at this;generalize ac.eval x=y at this;cases this;rfl
  have two: ∀ {A1 A2:lS} {kn:Env->M β},Lk kn r->(bif v then exec C pr c n a A1 kn kx kr E else exec C pr c n b A2 kn kx kr E) s=some r->
    (∀E' s' ψ' a' w',kn E' s'=some r->Rel C f ψ' E' s' a' w'->Mod (Un (jn pr a++jn pr b)) E E'->QQ .normal a' w')->(if v then a else b).wp C.P QQ ac w:=by
   intro A1 A2 kn hn h qn;cases v with
   |true=>exact wW A1 kn kx kr ho.1 hn hx hr E s h ψ ac w QQ R (λE' s' ψ' a' w' h' R' m'=>qn E' s' ψ' a' w' h' R' (m'.un λu hu=>Un.left hu)) (λi E' s' ψ' a' w' h' R' m'=>qx i E' s' ψ' a' w' h' R' (m'.un λu hu=>Un.left hu)) qr qp
   |false=>exact zG A2 kn kx kr ho.2 hn hx hr E s h ψ ac w QQ R (λE' s' ψ' a' w' h' R' m'=>qn E' s' ψ' a' w' h' R' (m'.un λu hu=>Un.right hu)) (λi E' s' ψ' a' w' h' R' m'=>qx i E' s' ψ' a' w' h' R' (m'.un λu hu=>Un.right hu)) qr qp
  refine wp_cond he ?_;cases A with
  |j J A1 A2=>
   have⟨hj,h⟩:=D7 h;refine two (Lk.CC hn) h λE1 s1 fT a1 w1 h1 R1 m1=>?_
   have⟨ds,E',g,p,h1⟩:=KB h1;have⟨k,m⟩:=Kx R.fh m1 g p hj;exact qn E' s1 _ a1 w1 h1 (R1.sq k) m
  |z=>exact two hn h qn
  |n A1 A2=>exact two hn h qn
 |block id body ih=>
  intro A kn kx kr ho hn hx hr E s h ψ ac w QQ R qn qx qr qp;simp only[exec]at h;have go: ∀ {A1:lS} {kn:Env->M β},Lk kn r->exec C pr c n body A1 kn (λi E1=>bif Nat.beq i id then kn E1 else kx i E1) kr E s=some r->
    (∀E' s' ψ' a' w',kn E' s'=some r->Rel C f ψ' E' s' a' w'->Mod (Un (jn pr body)) E E'->QQ .normal a' w')->(Code.block id body).wp C.P QQ ac w:=by
   intro A1 kn hn h qn;refine wp_block (ih A1 kn _ kr ho hn (Lk.block hn hx) hr E s h ψ ac w _ R qn ?_ qr qp);intro i E' s' ψ' a' w' h' R' m';rw[Exit.inBlock];cases hb:Nat.beq i id with
   |true=>
    rw[hb]at h';rw[bO (cO hb)];exact qn E' s' ψ' a' w' h' R' m'
   |false=>
    rw[hb]at h';rw[cG (Dg hb)];exact qx i E' s' ψ' a' w' h' R' m'
  cases A with
  |j J A1 A2=>
   have⟨hj,h⟩:=D7 h;refine go (Lk.CC hn) h λE1 s1 fT a1 w1 h1 R1 m1=>?_
   have⟨ds,E',g,p,h1⟩:=KB h1;have⟨k,m⟩:=Kx R.fh m1 g p hj;exact qn E' s1 _ a1 w1 h1 (R1.sq k) m
  |z=>exact go hn h qn
  |n A1 A2=>exact go hn h qn
 |loop body ih=>
  intro A kn kx kr ho hn hx hr E s h ψ ac w QQ R qn qx qr qp;simp only[exec]at h;cases A with
  |j J A1 A2=>
   have⟨hj,h⟩:=Zq h;have⟨st,g0,h⟩:=qV h;have lk: ∀(k:Nat) (st:af) (s:St),dL (λrec st=>nD E J st (E.del (jn pr body)) λE1=>exec C pr c n body A1 (λE2=>nj E E2 J rec) kx kr E1) k st s=some r->s.length<=r.2.length:=by
    intro k;induction k with
    |zero=>intro st s h;cases h
    |succ k Ob=>
     intro st s h;simp only[dL]at h;have⟨E',_,h⟩:=vP h;refine AR hC hc body A1 _ kx kr (λE2 s2 h2=>?_) hx hr E' s h;have⟨sf,_,h2⟩:=qV h2;exact Ob sf s2 h2
   refine wp_loop_ghost (λk a' w'=>∃E2 s2 ij ds,GJ E E2 J ds/\Mod (Un (jn pr body)) E E2/\Rel C f ij E2 s2 a' w'/\
    dL (λrec st=>nD E J st (E.del (jn pr body)) λE1=>exec C pr c n body A1 (λE2=>nj E E2 J rec) kx kr E1) k ds s2=some r) n ⟨E,s,ψ,st,g0,.refl _ _,R,h⟩ ?_
   rintro k a' w' ⟨E2,s2,ij,ds,g,m,R2,h2⟩;cases k with
   |zero=>cases h2
   |succ k=>
    simp only[dL]at h2;have⟨E',p,h2⟩:=vP h2;have⟨kw,m'⟩:=Kx R.fh m g p hj;refine ih A1 _ kx kr ho (λE2 s2 h2=>?_) hx hr E' s2 h2 _ a' w' _ (R2.sq kw) ?_ ?_ qr qp
    .have⟨sf,_,h2⟩:=qV h2
     exact lk k sf s2 h2
    .intro E3 s3 Db a3 w3 h3 R3 m3
     have⟨ds3,g3,h3⟩:=qV h3;exact⟨k,Nat.lt_succ_self k,E3,s3,Db,ds3,g3,m'.trans m3 (λu hu=>hu) (λu hu=>hu),R3,h3⟩
    .intro i E3 s3 Db a3 w3 h3 R3 m3
     exact qx i E3 s3 Db a3 w3 h3 R3 (m'.trans m3 (λu hu=>hu) (λu hu=>hu))
  |z=>cases h
  |n A1 A2=>cases h
 |exit id=>intro A kn kx kr ho hn hx hr E s h ψ a w QQ R qn qx qr qp;exact wp_exit (qx id E s ψ a w h R (.refl _ _))
 |ret=>intro A kn kx kr ho hn hx hr E s h ψ a w QQ R qn qx qr qp;exact wp_ret (qr E s ψ a w h R)
 |_=>intro A kn kx kr ho hn hx hr E s h;cases h
end
theorem Eg: ∀(k:Nat) (ds:af) (t:Nat),look (hU k ds) t=if k<=t then(match ds[t-k]? with|some d=> .v d|none=> .u)else .u
 |k,[],t=>by simp[hU,look]
 |k,d::ds,t=>by
  rw[hU,AJ,Eg (k+1) ds t];by_cases h:k=t
  .subst h;simp
  grind
section
variable {C:aY} {f:Fr} {ψ:Ps} {E:Env} {s:St} {a:Act} {w:World} {r:Out β×St}
def Fb (tmps:Array Value):ResultVar->Sem Value
 | .tmp t=>pure (tmps.getD t undef)
 | .cell a t=>do loadVar t (<-asAddr (tmps.getD a undef))
theorem AV {g:ResultVar->Sem Value} {x:ResultVar} {l:List ResultVar} (h1:(g x).run P w= .ok v w) (h2:(l.mapM g).run P w= .ok vs w):((x::l).mapM g).run P w= .ok (v::vs) w:=by
 rw[List.mapM_cons];simp_all
theorem Er (R:Rel C f ψ E s a w): ∀ {l:List ResultVar} {K:af->M β} ,pf C E l K s=some r->∃ds vs,K ds s=some r/\ba C ψ ds vs/\(l.mapM (Fb a.tmps)).run C.P w= .ok vs w
 |[],K,h=>⟨[],[],h,.nil,Do⟩
 | .tmp t::l,K,h=>by
  simp only[pf]at h;have⟨d,hd,h⟩:=Zt h;have⟨ds,vs,hk,hr,cm⟩:=Er R h;have hv:=R.eval (.tmp t);rw[hd]at hv;exact⟨_,_,hk,.cons _ _ _ _ hv hr,AV rfl cm⟩
 | .cell x t::l,K,h=>by
  simp only[pf]at h;cases hx:E.get x with
  |loc v n cs=>
   rw[hx]at h;simp only at h;have⟨td,ht,h⟩:=Z5 h;have Qo:=R.gW x;rw[hx]at Qo;have⟨cb,e1,e2,e3⟩:=Qo;have hh:=R.dD.holds (.inr v) cb _ e1 (.inl ⟨x,n,cs,hx,rfl⟩);have hlen:=R.fh.len x v n cs hx;cases gp:ZW C.P t with
   |true=>
    rw[gp]at h;simp only[aa]at h;have⟨hn,h⟩:=Zq h;have hn:=cO hn;have⟨ds,vs,hk,hr,cm⟩:=Er R h;have⟨vc,hv,_,iU,h1⟩:=DO (P:=C.P) hh (p:=0) (n:=C.P.cellsOf t);rw[e2,ei]at hv;rw[eG,dJ AC]at iU h1;refine⟨_,_,hk,.cons _ _ _ _ (.agg cs vc iU h1) hr,AV ?_ cm⟩;have:=Dy ht gp ⟨cb.b,0,none⟩ w hv;show(do loadVar t (<-asAddr (a.tmps.getD x undef)):Sem Value).run C.P w=_;rw[e3,asAddr,Sem.run_bind,Sem.run_pure,Result.andThen_ok];exact this
   |false=>
    rw[gp]at h;simp only[ae]at h;have⟨d,hd,h⟩:=Ep h;have⟨ds,vs,hk,hr,cm⟩:=Er R h;have⟨y,hv,iU,_⟩:=Eb (P:=C.P) hh hd;rw[e2,ei]at hv;refine⟨_,_,hk,.cons _ _ _ _ iU hr,AV ?_ cm⟩;have:=Al ht gp ⟨cb.b,0,none⟩ w hv;show(do loadVar t (<-asAddr (a.tmps.getD x undef)):Sem Value).run C.P w=_;rw[e3,asAddr,Sem.run_bind,Sem.run_pure,Result.andThen_ok];exact this
  |_=>rw[hx]at h;cases h
theorem ZkT {fn:Func} {tmps:Array Value} (h:(fn.results.toList.mapM (Fb tmps)).run P w= .ok vs w):
  (results fn tmps).run P w= .ok (if h:vs.length=1 then vs[0]else .tuple vs.toArray) w:=by
 have e:results fn tmps=(fn.results.mapM (Fb tmps)>>= λvs=>pure (if h:vs.size=1 then vs[0]else .tuple vs)):=by
  rfl
 rw[e,Array.mapM_eq_mapM_toList];simp[h]
theorem ZsT (b:Nat) (s:St) (i:Nat):cu (ZX b s) i=if i<b then cu s i else(cu s i).map λab=>match ab with| .cells _ cs=> .cells true cs|x=>x:=by
 unfold cu ZX;by_cases h:i<b
 .rw[bO h]
  by_cases h2:i<s.length
  .rw[lj (by simp;omega),ug,bO h]
  grind
 .rw[cG h]
  by_cases h3:b<=s.length
  .rw[iO (by simp;omega),jJ,xq]
   rw[dh,je h3,show b+(i-b)=i by omega];cases hs:s[i]? with
   |none=>rfl
   |some x=>cases x<;>rfl
  grind
theorem ZlB (b:Nat) (s:St):(ZX b s).length=s.length:=by
 grind[ZX]
theorem gO.jS (b:Nat) (h:gO C fS s0 w0 ψ' s w):gO C fS s0 w0 ψ' (ZX b s) w:=by
 have key: ∀h ab,CS (ZX b s) h ab->∃ca,CS s h ca/\(ab.fq=true->ca.fq=true)/\∀(C:aY) ψ w cb,Holds C ψ w cb ca->Holds C ψ w cb ab:=by
  rintro h ab ⟨i,rfl,e⟩;rw[ZsT]at e;split at e
  .exact⟨ab,⟨i,rfl,e⟩,λh=>h,λ_ _ _ _ h=>h⟩
  .cases hs:cu s i with
   |none=>rw[hs]at e;cases e
   |some x=>
    rw[hs]at e;cases x with
    |cells fz cs=>
     simp only[sG,eO]at e;subst e;exact⟨_,⟨i,rfl,hs⟩,(λh=>by cases h),λC ψ w cb h=>⟨h.1,h.2.1,h.2.2.1,(λh=>by cases h)⟩⟩
    |iter l p=>
     simp only[sG,eO]at e;subst e;exact⟨_,⟨i,rfl,hs⟩,λh=>h,λ_ _ _ _ h=>h⟩
 refine⟨h.dD.cast λk cb ab e q=>?_,h.ext.cast h.ext.mono (λ_ _ e=>e) λk cb ab _ q=>?_,λk cb e=>?_⟩
 .grind
 .grind
 .rw[ZlB];exact h.news k cb e
def EK (C:aY) (oR:FuncId) (args:af) (s:St) (out:Out af×St):Prop:=
 s.length<=out.2.length/\∀ψ w vs,dN C ψ (CS s) w->mP ψ w->Glob C ψ->ba C ψ args vs->(∀v,ψ (.inr v)=none)->(∀i,s.length<=i->i<out.2.length->ψ (.inl i)=none)->
   sR C.P oR vs.toArray w λ
    | .returned v,w'=>∃ds,out.1= .val ds/\∃ψ',gO C ψ s w ψ' out.2 w'/\um C ψ' ds v
    | .panicked ch,w'=>kK ch/\out.1= .dM/\∃ψ',gO C ψ s w ψ' out.2 w'
    | .outgrown,_=>False
structure Af (C:aY):Prop where
 cfg:kI C
 Fw:C.P.follows .mixedOrders=true
theorem ZtN (hF:Af C) (hc:ZI C c) {fn:Func} (hfn:C.P.funcs[oR]? =some fn) (mq:(fn.name== "runtime.NumGoroutine")=false) {out:Out af×St} (h:oM C A fn c n args s=some out):EK C oR args s out:=by
 unfold oM at h;cases hb:fn.body with
 |none=>rw[hb]at h;cases h
 |some code=>
  rw[hb]at h;simp only at h;have⟨gT,h⟩:=Zq h;rw[aZ]at gT;have⟨gT,bS⟩:=gT;have bS:=lQ bS;have⟨ds,h,zi,qm,oi⟩:=AF h;have main: ∀(kr:Env->M af) (fz:St->St),(∀s,(fz s).length=s.length)->(∀fS s0 w0 ψ' s w,gO C fS s0 w0 ψ' s w->gO C fS s0 w0 ψ' (fz s) w)->
    (∀E s' r,kr E s'=some r->pf C E fn.results.toList (λds s=>some (.val ds,fz s)) s'=some r)->
    exec C A.pr c n code A.Bq kr (λ_ _=>fail) kr ⟨0,hU 0 ds⟩ s=some out->EK C oR args s out:=by
   intro kr fz iz jV hkr h;have Xr: ∀ {E:Env} {s':St} {r:Out af×St},kr E s'=some r->∃ds,r=(.val ds,fz s'):=by
    intro E s' r h';have h':=hkr E s' r h';generalize fn.results.toList=l at h';have: ∀(l:List ResultVar) (K:af->M af),pf C E l K s'=some r->∃ds,K ds s'=some r:=by
     intro l;induction l with
     |nil=>exact λK h=>⟨[],h⟩
     |cons x l ih=>
      intro K h;cases x with
      |tmp t=>
       simp only[pf]at h;have⟨d,_,h⟩:=Zt h;grind
      |cell x t=>
       simp only[pf]at h;cases hx:E.get x with
       |loc v n cs=>
        rw[hx]at h;simp only at h;have⟨td,_,h⟩:=Z5 h;cases gp:ZW C.P t with
        |true=>
         rw[gp]at h;have⟨_,h⟩:=Zq h;grind
        |false=>
         rw[gp]at h;have⟨d,_,h⟩:=Ep h;grind
       |_=>rw[hx]at h;cases h
    grind
   have lk:Lk kr out:=λE s' h'=>by
    grind
   refine⟨AR hF.cfg hc code A.Bq kr _ kr lk (λi E s h=>by cases h) lk _ s h,λψ w vs tK BK wF ix uZ Cw=>?_⟩;have kz:=oi C ψ vs ix;have u7:=kz.len;unfold sR;have wA:(callFunc oR vs.toArray).run C.P w= .ok (.enter oR vs.toArray) w:=by
    have qu: ¬fn.name= "runtime.NumGoroutine" :=by simpa using mq
    simp[callFunc,hfn,qu,hb]
   rw[wA];refine calls_of_wp hfn hb ?_
   let f:Fr:=⟨out.2.length,fn.ntmps,ψ,s,w,nC fn.ntmps,λx h=>by unfold nC at h;rw[lP]at h;exact h,λt=>(vs.toArray++Array.replicate (fn.ntmps-vs.toArray.size) Go.undef).getD t Go.undef,[]⟩
   have qe: ∀t,(⟨0,hU 0 ds⟩:Env).get t=match ds[t]? with|some d=> .v d|none=> .u:=by
    intro t;have:=Eg 0 ds t;simp only[eB,ju,Nat.sub_zero]at this;exact this
   have w5: ∀t v,((⟨0,hU 0 ds⟩:Env).get t).cd≠some v:=by
    intro t v;rw[qe];cases ds[t]? <;>simp[dz.cd]
   have uK: ∀h ab,CR ⟨0,hU 0 ds⟩ s h ab->CS s h ab:=by
    intro h ab c;cases h with
    |inl i=>exact⟨i,rfl,c⟩
    |inr v=>
     rcases c with⟨t,n,cs,e,_⟩|⟨t,l,p,e,_⟩
     .grind
     grind
   have R:Rel C f ψ ⟨0,hU 0 ds⟩ s { tmps:=vs.toArray++Array.replicate (fn.ntmps-vs.toArray.size) Go.undef,defers:=[] } w:=by
    refine⟨tK.weaken λ_ _ _ _ c=>uK _ _ c,⟨Fd,λt r v o e=>?_,Fd,Fd⟩,BK,wF,λt=>?_,?_,rfl,Cw,λv _=>uZ v,(Ext.refl ψ (CS s) w).weaken λ_ _ _ _ c=>uK _ _ c,λi cb e=> .inl e,aW _,uZ⟩
    .rw[qe]at e
     cases hd:ds[t]? <;>rw[hd]at e<;>cases e
    .rw[qe]
     cases hd:ds[t]? with
     |none=>trivial
     |some d=>
      have⟨v,hv,hr⟩:=kz.get hd;have:(vs.toArray++Array.replicate (fn.ntmps-vs.toArray.size) Go.undef).getD t Go.undef=v:=by
       have aw:=(cF.1 hv).1;rw[mM,G6 (by simpa using aw)];simp[hv]
      show eV C ψ (.v d) _;rw[this];exact hr
    .refine⟨?_,λ_ _=>rfl⟩
     grind
   have done: ∀E' s' ψ' a' w',kr E' s'=some out->Rel C f ψ' E' s' a' w'->a'.defers=[]/\∃v,(results fn a'.tmps).run C.P w'= .ok v w'/\∃ds,out.1= .val ds/\∃ψ',gO C ψ s w ψ' out.2 w'/\um C ψ' ds v:=by
    intro E' s' ψ' a' w' h' R';have⟨ji,gx,hk,hr,cm⟩:=Er R' (hkr E' s' out h');simp only[eO]at hk;refine⟨R'.defs,_,ZkT cm,ji,by rw[<-hk],j4 ψ',?_,?_⟩
    .rw[<-hk];exact jV _ _ _ _ _ _ R'.tc
    .have iB:ba C (j4 ψ') ji gx:=Zop hr
     by_cases h1:gx.length=1
     .rw[dif_pos h1]
      cases iB with
      |nil=>cases h1
      |cons d v ds vs a b=>
       cases b with
       |nil=>exact .inl ⟨d,rfl,a⟩
       |cons _ _ _ _ _ _=>simp at h1
     .rw[dif_neg h1]
      exact .inr ⟨by rw[iB.len];exact h1,_,rfl,iB⟩
   refine LO hF.cfg hc hF.Fw (f:=f) (aW _) code A.Bq kr _ kr gT lk (λi E s h=>by cases h) lk _ s h ψ _ w _ R ?_ ?_ ?_ ?_
   .intro E' s' ψ' a' w' h' R' _;exact done E' s' ψ' a' w' h' R'
   .intro i E' s' ψ' a' w' h' _ _;cases h'
   .intro E' s' ψ' a' w' h' R';exact done E' s' ψ' a' w' h' R'
   .intro ch a' w' s' e hv hp
    refine⟨hp.defs,hv,by rw[e],?_⟩;have⟨ψ',ee⟩:=hp.post;grind
  cases hz:A.jS with
  |true=>
   rw[hz]at h;simp only[aa,kS]at h;exact main _ (ZX s.length) (ZlB _) (λ_ _ _ _ _ _ h=>h.jS _) (λE s' r h=>h) h
  |false=>
   rw[hz]at h;simp only[ae]at h;exact main _ id (λ_=>rfl) (λ_ _ _ _ _ _ h=>h) (λE s' r h=>h) h
end
def oB (C:aY) (b:Zd->Nat->af->M af) (f:FuncId):Prop:=
 ∀c n args s out,ZI C c->b c n args s=some out->EK C f args s out
theorem oB.QP (hF:Af C) {fn:Func} {b:Zd->Nat->af->M af} (hfn:C.P.funcs[f]? =some fn) (mq:(fn.name== "runtime.NumGoroutine")=false) (ht:oM C A fn=b):oB C b f:=
 λc n args s out hc h=>ZtN hF hc hfn mq (by rw[ht];exact h)
theorem E8 {C:aY} {Bd:Ze} (hB: ∀f,C.cov f=true->oB C (Bd (C.fn f)) f) (dq: ∀g,(∀f,C.cov f=true->C.fn f≠g)->∀c n args s,Bd g c n args s=none): ∀n,ZI C (run Bd n)
 |0=>λg args s out h=>by cases h
 |n+1=>λg args s out h=>by
  by_cases e: ∃f,C.cov f=true/\C.fn f=g
  .obtain⟨f,h1,rfl⟩:=e
   refine⟨(hB f h1 _ _ _ _ _ (E8 hB dq n) h).1,λf' h2 h3=>?_⟩;have h':Bd (C.fn f') (run Bd n) n args s=some out:=by rw[h3];exact h
   exact(hB f' h2 _ _ _ _ _ (E8 hB dq n) h').2
  .have:=dq g (λf h1 h2=>e ⟨f,h1,h2⟩) (run Bd n) n args s
   have h':Bd g (run Bd n) n args s=some out:=h;rw[this]at h';cases h'
end Go.Gv
namespace Go.Gv
def vh:List (Nat×Nat)->Nat->Nat
 |[],_=>0
 |(k,v)::r,x=>bif Nat.beq k x then v else vh r x
def GZ (l:List (Nat×Nat)) (t:Nat):Nat:=bif has (l.map (·.1)) t then vh l t else t+1000
abbrev Body:=Zd->Nat->af->M af
def vg:List (Nat×Body)->Nat->Option Body
 |[],_=>none
 |(k,b)::r,g=>bif Nat.beq k g then some b else vg r g
def bdOf (l:List (Nat×Body)):Ze:=λg=>match vg l g with|some b=>b|none=>λ_ _ _ _=>none
theorem LG: ∀ {l:List (Nat×Body)} {g:Nat} {b:Body},vg l g=some b->g∈l.map (·.1)
 |[],_,_,h=>by cases h
 |(k,x)::r,g,b,h=>by
  simp only[vg]at h;cases hk:Nat.beq k g with
  |true=>simp_all
  |false=>rw[hk]at h;simp only[ae]at h;exact De _ (LG h)
variable {next:Act->World->Prop} {eA rA:Array Edge} {ops:Array Oper} {vs:Array Value} {gb tl:Code} {Q:Exit->Act->List Frame->World->Prop} {QQ:Exit->Act->World->Prop} {f g oR:FuncId} {n:Int} {k:IntKind} {cs':List Frame} {N fi i id p t3 t4 td:Nat} {o o0 o1 o2 o3 o4 o5 o6 o7:Oper} {P:Program} {s s3:St} {eP rP:String} {e eT rC rT t ty:TypeId} {v:Value} {C:aY} {args ds ds0:af} {cov rest:al}
theorem ZtZ (h:P.underlying P.rt.typeAssertionError=some (.pointer e)) (hs:(P.underlying e).isSome=true): ∃e d,P.underlying P.rt.typeAssertionError=some (.pointer e)/\P.underlying e=some d:=
 ⟨e,_,h,(Option.some_get hs).symm⟩
theorem Ztd (qi:C.cov=has cov) {l:List (Nat×Body)} (hk:l.map (·.1)=cov.map C.fn) (hB: ∀f∈cov,oB C (bdOf l (C.fn f)) f): ∀n,ZI C (run (bdOf l) n):=by
 refine E8 (λf hf=>hB f (by rw[qi]at hf;exact(A0 cov f).1 hf)) λg hg c n args s=>?_
 unfold bdOf;cases hb:vg l g with
 |none=>rfl
 |some b=>
  have:=LG hb;rw[hk]at this;obtain⟨f,hf,rfl⟩:=ox.1 this;exact absurd rfl (hg f (by rw[qi];exact(A0 cov f).2 hf))
def QR (l:List (Nat×Nat)):Bool:=decide ((l.map (·.2)).Nodup)&&l.all λx=>Nat.blt x.2 1000
theorem EL: ∀ {l:List (Nat×Nat)} {t:Nat},has (l.map (·.1)) t=true->(t,vh l t)∈l
 |[],t,h=>by cases h
 |(k,v)::r,t,h=>by
  simp only[pC,has,kb]at h;cases hk:Nat.beq k t with
  |true=>
   have:=cO hk;grind[vh]
  |false=>
   rw[vh,hk,ae];exact De _ (EL Fd)
theorem ZtF {l:List (Nat×Nat)} (h:QR l=true) (t t':Nat) (e:GZ l t=GZ l t'):t=t':=by
 unfold QR at h;rw[aZ,vB,sD]at h;have⟨h1,h2⟩:=h;have lt: ∀ {t},has (l.map (·.1)) t=true->vh l t<1000:=λ{t} ht=>by
  have:=h2 _ (EL ht);rwa [lP]at this
 unfold GZ at e;cases ht:has (l.map (·.1)) t with
 |true=>
  have m:=EL ht;cases N0:has (l.map (·.1)) t' with
  |true=>
   have m':=EL N0;rw[ht,N0]at e;simp only[aa]at e;rw[e]at m;have inj: ∀ {l:List (Nat×Nat)},(l.map (·.2)).Nodup->∀ {a b c:Nat},(a,c)∈l->(b,c)∈l->a=b:=by
    intro l;induction l with
    |nil=>simp
    |cons x r ih=>
     grind
   exact inj h1 m m'
  |false=>rw[ht,N0]at e;grind
 |false=>
  grind
variable {β:Type}
variable {Kk:Env->M β}
section
variable {C:aY} {f:Fr} {ψ:Ps} {E:Env} {s:St} {a:Act} {w:World} {c:Zd} {o:Oper} {K:Env->M β} {r:Out β×St}
theorem l8 (hC:kI C) (hc:ZI C c) (o:Oper) (h:Lk K r):Lk (λE=>dW C [] [] .s c o E K) r:=by
 intro E s h';rcases LU hC hc (ops:=[]) (.inl rfl) h' with⟨E',s',hk,hF,_⟩|⟨_,s',rfl,hp⟩
 .exact fF hF.len (h E' s' hk)
 .exact hp.1
theorem EO (hC:kI C) (hc:ZI C c) (h:dW C [] [] .s c o E K s=some r) (hl:Lk K r) (hN:r.2.length<=f.N) (hd: ∀x,o.dst=some x->f.ok x=true):
  (∃E' s',K E' s'=some r/\s.length<=s'.length/\∀(ψ:Ps) (a:Act) (w:World) (QQ:Exit->Act->World->Prop) (next:Act->World->Prop),Rel C f ψ E s a w->
    (∀ψ' v w',Rel C f ψ' E' s' (a.put o.dst v) w'->(∀h cb,ψ h=some cb->ψ' h=some cb)->next (a.put o.dst v) w')->o.wp C.P a w next QQ)\/
  (∃s',r=(.dM,s')/\∀(ψ:Ps) (a:Act) (w:World) (QQ:Exit->Act->World->Prop) (next:Act->World->Prop),Rel C f ψ E s a w->(∀ch a' w',kK ch->mU C f s' a' w'->QQ (.panic ch) a' w')->o.wp C.P a w next QQ):=by
 rcases LU hC hc (ops:=[]) (.inl rfl) h with⟨E',s',hk,hF,hO⟩|⟨_,s',rfl,hp⟩
 .refine .inl ⟨E',s',hk,hF.len,λψ a w QQ next R hn=>?_⟩
  exact hO ψ (CR E s) a w next QQ R.pre (R.room (fF (hl E' s' hk) hN)) λψ' Q' v w' hP he=>hn ψ' v w' (R.step hF hP he hd) hP.ext.mono
 .exact .inr ⟨s',rfl,λψ a w QQ next R hn=>R.QV hN hp hn⟩
theorem mU.WA {d:Option Nat} (hd: ∀x,d=some x->f.ok x=true) (h:mU C f s (a.put d v) w):mU C f s a w:=by
 refine⟨by rw[<-D2 a d v];exact h.defs,⟨by rw[<-IE a d v];exact h.ks.1,λt ht=>?_⟩,h.post⟩;have:=h.ks.2 t ht;rw[Bf (λx hx=>by rw[<-IE a d v,h.ks.1];exact f.CL x (hd x hx)),cG (λe=>by rw[hd t e]at ht;cases ht)]at this;exact this
def QD:Sh->Bool
 | .b _=>true
 |_=>false
def Gu:Op->Bool
 | .move (.tmp _)=>true
 |_=>false
def Oq (ops:Array Oper):Bool:=
 let l (n:Nat):Array Bool:=(([0,2,3,4,5,1,6,7].take n).foldl (λl i=>l.setIfInBounds i true) (Array.replicate 8 false))
 let fst (n i:Nat):Bool:=Region.free .any ops (l n) i&&(Region.ready .any ops (l n)).contains i
 Region.noSelect ops&&fst 0 0&&fst 1 2&&fst 2 3&&fst 3 4&&fst 4 5&&(Region.ready .any ops (l 5)==[1])&&(Region.ready .any ops (l 6)==[6])&&(Region.ready .any ops (l 7)==[7])&&(Region.ready .any ops (l 8)).isEmpty
def BD:List Oper->Option (Oper×Oper×Oper×Oper×Oper×Oper×Oper×Oper)
 |[o0,o1,o2,o3,o4,o5,o6,o7]=>some (o0,o1,o2,o3,o4,o5,o6,o7)
 |_=>none
theorem Zsq {l:List Oper} (h:BD l=some (o0,o1,o2,o3,o4,o5,o6,o7)):l=[o0,o1,o2,o3,o4,o5,o6,o7]:=by
 unfold BD at h;grind
noncomputable def CU (C:aY) (c:Zd) (ops:Array Oper) (E:Env) (K:Env->M β):M β:=
 match BD ops.toList with
 |some (o0,o1,o2,o3,o4,o5,o6,o7)=>
  bif Oq ops&&Gu o0.op&&Gu o2.op&&(o0.guard.isNone&&o1.guard.isNone&&o2.guard.isNone&&o3.guard.isNone&&o4.guard.isNone&&o5.guard.isNone&&o6.guard.isNone&&o7.guard.isNone)then
   match o3.op,o4.op,o5.op with
   | .nilCheck x3,.fieldAddr _ x4 _,.load ty x5=>aJ (QD (jG C.P ty))<|
    dW C [] [] .s c o0 E λE0=>dW C [] [] .s c o2 E0 λE2=>tS C E2 x3 λ_ _=>dW C [] [] .s c o3 E2 λE3=>tS C E3 x4 λ_ _=>dW C [] [] .s c o4 E3 λE4=>tS C E4 x5 λi p=>rr i p λk n=>dW C [] [] .s c o5 E4 λE5=>
     dW C [] [] .s c o1 E5 λE1=>fK i p k n (dW C [] [] .s c o6 E1 λE6=>fK i p k n (dW C [] [] .s c o7 E6 λE7=>fK i p k n (K E7)))
   |_,_,_=>fail
  else fail
 |none=>fail
theorem Ee {x:Operand} {K:Nat->Nat->M β} (h:tS C E x K s=some r): ∃i p,E.src C x= .v (.ptr (some (i,p)))/\K i p s=some r:=by
 unfold tS at h;cases he:E.src C x with
 |v d=>
  rw[he]at h;cases d with
  |ptr q=>
   cases q with
   |none=>cases h
   |some q=>grind
  |_=>cases h
 |_=>rw[he]at h;cases h
theorem Zlt {K:IntKind->Int->M β} (h:rr i p K s=some r): ∃k n,(∃fz cs,cu s i=some (.cells fz cs)/\cs[p]? =some (.int k n))/\K k n s=some r:=by
 unfold rr at h;have⟨fz,cs,d,bx,hd,h⟩:=Zly h;cases d with
 |int k n=>grind
 |_=>cases h
theorem D8 {K:M β} (h:fK i p k n K s=some r):K s=some r/\∃fz cs,cu s i=some (.cells fz cs)/\cs[p]? =some (.int k n):=by
 unfold fK bc at h;cases hc:s.cells i with
 |none=>rw[hc]at h;cases h
 |some cs=>
  rw[hc]at h;simp only at h;cases hd:cs[p]? with
  |none=>rw[hd]at h;cases h
  |some d=>
   rw[hd]at h;have bx: ∃fz,cu s i=some (.cells fz cs):=by
    unfold St.cells at hc;split at hc
    .rename_i bk BJ
     cases hc;simp[cu,BJ]
    .cases hc
   have⟨fz,bx⟩:=bx;cases d with
   |int k' n'=>
    simp only at h;have⟨h0,hK⟩:=Zq h;simp only[aZ,beq_iff_eq]at h0;have h1:=Bc h0.1;have h2:=h0.2;rw[<-h1,<-h2]at hd;grind
   |_=>cases h
theorem Rel.num (R:Rel C f ψ E s a w) {cb:CB} (e:ψ (.inl i)=some cb) (h: ∃fz cs,cu s i=some (.cells fz cs)/\cs[p]? =some (.int k n)):w.cell? ⟨cb.b,cb.o+p,none⟩=some (.int k n):=by
 have⟨fz,cs,h1,h2⟩:=h;have hh:=R.dD.holds (.inl i) cb _ e h1;have⟨v,hv,hr⟩:=hh.2.2.1 p _ h2;cases hr;exact hv
theorem Rel.ptr (R:Rel C f ψ E s a w) {x:Operand} {i p:Nat} (e:E.src C x= .v (.ptr (some (i,p)))): ∃cb:CB,ψ (.inl i)=some cb/\a.eval x= .pointer (some ⟨cb.b,cb.o+p,none⟩):=by
 have h:=R.eval x;rw[e]at h;have h:VR C ψ (.ptr (some (i,p))) (a.eval x):=h;generalize a.eval x=v at h;cases h with
 |ptr _ _ cb e=>exact⟨cb,e,rfl⟩
theorem ZnX {y:Operand} (ho:o.op= .fieldAddr t y fi) (h:dW C [] [] .s c o E Kk s=some r):
  ∃off,∀(a:Act) (w:World) b n,a.eval y= .pointer (some ⟨b,n,none⟩)->(execOp a.eval o).run C.P w= .ok (.value (.pointer (some ⟨b,n+off,none⟩))) w:=by
 unfold dW at h;rw[ho]at h;simp only at h;unfold DS at h;cases ht:C.P.underlying t with
 |none=>rw[ht]at h;cases h
 |some td=>
  rw[ht]at h;cases td with
  |struct fs=>
   simp only at h;cases hf:fs[fi]? with
   |none=>rw[hf]at h;cases h
   |some fd=>
    rw[hf]at h;simp only at h;have⟨hc,h⟩:=Az h;have hc:=Dg hc;have bS: ∀w,(sizeOf fd.type).run C.P w= .ok (C.P.cellsOf fd.type) w:=by
     intro w;unfold Program.cellsOf at hc⊢;cases hi:C.P.info? fd.type with
     |none=>rw[hi]at hc;simp at hc
     |some i=>simp[sizeOf,typeInfo,hi]
    refine⟨fd.offset,λa w b n hy=>?_⟩;simp[execOp,ho,hy,Instr.fieldAt,Zk w ht,hf,Z2,fieldPlace,bS,hc,uz]
  |_=>cases h
theorem ZsH {x:Operand} (ho:o.op= .load t x) (hs:QD (jG C.P t)=true) (h:dW C [] [] .s c o E Kk s=some r) (a:Act) (w:World) (A:Addr) (v:Value) (ha:a.eval x= .pointer (some A)) (hw:w.cell? A=some v):
  (execOp a.eval o).run C.P w= .ok (.value v) w:=by
 unfold dW at h;rw[ho]at h;simp only at h;unfold EV at h;have⟨td,ht,h⟩:=Z5 h;cases mu:jG C.P t with
 |b y'=>simp only[execOp,ho,ha,Instr.loadAt,Sem.run_bind,Z2,Result.andThen_ok,Al ht (Mb mu) _ w (by rw[run_load,hw]),Sem.run_pure]
 |agg l=>rw[mu]at hs;cases hs
theorem LR (hi:ops[i]? =some o) (hg:o.guard=none) (h:o.wp P a w next QQ):wpOp P ops QQ i next a w:=by
 unfold wpOp;simp only[hi];rw[bO (by simp[Region.wanted,hg])];exact .inl h
theorem ZrG (he:(execOp a.eval o).run P w= .ok (.value v) w) (h:o.wp P a w next QQ):next (a.put o.dst v) w:=by
 unfold Oper.wp at h;rw[he]at h;exact h
theorem yz {x:Operand} {K:Env->Nat->Nat->M β} (h: ∀i p,Lk (λE=>K E i p) r):Lk (λE=>tS C E x (K E)) r:=by
 intro E s h';have⟨i,p,_,h'⟩:=Ee h';exact h i p E s h'
theorem ZqB {K:Env->IntKind->Int->M β} (h: ∀k n,Lk (λE=>K E k n) r):Lk (λE=>rr i p (K E)) r:=by
 intro E s h';have⟨k,n,_,h'⟩:=Zlt h';exact h k n E s h'
theorem yi {K:Env->M β} (h:Lk K r):Lk (λE=>fK i p k n (K E)) r:=by
 intro E s h';exact h E s (D8 h').1
theorem ZsL (hC:kI C) (hc:ZI C c) (gT:okO f.ok ops.toList=true) (h:CU C c ops E K s=some r) (hl:Lk K r) (uX:C.P.follows .mixedOrders=true) (hN:r.2.length<=f.N) (id:Nat) (R:Rel C f ψ E s a w) (QQ:Exit->Act->World->Prop)
  (qn: ∀E' s' ψ' a' w',K E' s'=some r->Rel C f ψ' E' s' a' w'->QQ .normal a' w') (qp: ∀ch a' w' s',r=(.dM,s')->kK ch->mU C f s' a' w'->QQ (.panic ch) a' w'):(Code.region id ops true).wp C.P QQ a w:=by
 unfold CU at h;cases iT:BD ops.toList with
 |none=>rw[iT]at h;cases h
 |some q=>
 have⟨o0,o1,o2,o3,o4,o5,o6,o7⟩:=q;rw[iT]at h;have rR:=Zsq iT;simp only at h;have⟨hb,h⟩:=Zq h;simp only[aZ,Option.isNone_iff_eq_none]at hb;have⟨⟨⟨hy,hm0⟩,oY⟩,⟨⟨⟨⟨⟨⟨⟨g0,g1⟩,g2⟩,g3⟩,g4⟩,g5⟩,g6⟩,g7⟩⟩:=hb;have⟨x3,GS,x4,Fv,GY,x5,h3,h4,h5⟩: ∃x3 GS x4 Fv GY x5,o3.op= .nilCheck x3/\o4.op= .fieldAddr GS x4 Fv/\o5.op= .load GY x5:=by
  cases h3:o3.op with
  |nilCheck x3=>
   cases h4:o4.op with
   |fieldAddr GS x4 Fv=>
    cases h5:o5.op with
    |load GY x5=>grind
    |_=>rw[h3,h4,h5]at h;cases h
   |_=>rw[h3,h4]at h;cases h
  |_=>rw[h3]at h;cases h
 rw[h3,h4,h5]at h;simp only at h;have⟨F9,h⟩:=ZU h;have i0:ops[0]? =some o0:=by rw[<-iE,rR];rfl
 have i1:ops[1]? =some o1:=by rw[<-iE,rR];rfl
 have i2:ops[2]? =some o2:=by rw[<-iE,rR];rfl
 have i3:ops[3]? =some o3:=by rw[<-iE,rR];rfl
 have i4:ops[4]? =some o4:=by rw[<-iE,rR];rfl
 have i5:ops[5]? =some o5:=by rw[<-iE,rR];rfl
 have i6:ops[6]? =some o6:=by rw[<-iE,rR];rfl
 have i7:ops[7]? =some o7:=by rw[<-iE,rR];rfl
 have mn: ∀o∈ops.toList,∀x,o.dst=some x->f.ok x=true:=λo ho x hx=>yk gT o ho x hx
 rw[rR]at mn;have VU:ops.size=8:=by rw[<-kG,rR];rfl
 have l7: ∀i p k n,Lk (λE7=>fK i p k n (K E7)) r:=λi p k n=>yi hl
 have l6: ∀i p k n,Lk (λE6=>fK i p k n (dW C [] [] .s c o7 E6 λE7=>fK i p k n (K E7))) r:=λi p k n=>yi (l8 hC hc o7 (l7 i p k n))
 have l1: ∀i p k n,Lk (λE1=>fK i p k n (dW C [] [] .s c o6 E1 λE6=>fK i p k n (dW C [] [] .s c o7 E6 λE7=>fK i p k n (K E7)))) r:=λi p k n=>yi (l8 hC hc o6 (l6 i p k n))
 have l5: ∀i p k n,Lk (λE5=>dW C [] [] .s c o1 E5 λE1=>fK i p k n (dW C [] [] .s c o6 E1 λE6=>fK i p k n (dW C [] [] .s c o7 E6 λE7=>fK i p k n (K E7)))) r:=λi p k n=>l8 hC hc o1 (l1 i p k n)
 have l4:=yz (C:=C) (x:=x5) (K:=λE4 i p=>rr i p λk n=>dW C [] [] .s c o5 E4 λE5=>dW C [] [] .s c o1 E5 λE1=>fK i p k n (dW C [] [] .s c o6 E1 λE6=>fK i p k n (dW C [] [] .s c o7 E6 λE7=>fK i p k n (K E7)))) (r:=r) (λi p=>ZqB (K:=λE4 k n=>dW C [] [] .s c o5 E4 λE5=>dW C [] [] .s c o1 E5 λE1=>fK i p k n (dW C [] [] .s c o6 E1 λE6=>fK i p k n (dW C [] [] .s c o7 E6 λE7=>fK i p k n (K E7)))) λk n=>l8 hC hc o5 (l5 i p k n));have l3:=yz (C:=C) (x:=x4) (r:=r) (K:=λE3 _ _=>dW C [] [] .s c o4 E3 λE4=>tS C E4 x5 λi p=>rr i p λk n=>dW C [] [] .s c o5 E4 λE5=>dW C [] [] .s c o1 E5 λE1=>fK i p k n (dW C [] [] .s c o6 E1 λE6=>fK i p k n (dW C [] [] .s c o7 E6 λE7=>fK i p k n (K E7)))) (λ_ _=>l8 hC hc o4 l4);have l2:=yz (C:=C) (x:=x3) (r:=r) (K:=λE2 _ _=>dW C [] [] .s c o3 E2 λE3=>tS C E3 x4 λ_ _=>dW C [] [] .s c o4 E3 λE4=>tS C E4 x5 λi p=>rr i p λk n=>dW C [] [] .s c o5 E4 λE5=>dW C [] [] .s c o1 E5 λE1=>fK i p k n (dW C [] [] .s c o6 E1 λE6=>fK i p k n (dW C [] [] .s c o7 E6 λE7=>fK i p k n (K E7)))) (λ_ _=>l8 hC hc o3 l3);have l0:=l8 hC hc o2 l2;simp only[Oq,aZ,beq_iff_eq,List.isEmpty_iff]at hy;have⟨⟨⟨⟨⟨⟨⟨⟨⟨Cb,f0,r0⟩,f1,r1⟩,f2,r2⟩,f3,r3⟩,f4,r4⟩,rd5⟩,rd6⟩,rd7⟩,rd8⟩:=hy;have R:=R.drew;generalize cD:({ w with drawn:=w.drawn+1 } :World)=w1 at R;have mv: ∀ {o:Oper},Gu o.op=true->∀(a:Act),∃v,∀w',(execOp a.eval o).run C.P w'= .ok (.value v) w':=by
  intro o ho a;unfold Gu at ho;split at ho
  .rename_i t e
   exact⟨a.eval (.tmp t),λw'=>by simp[execOp,e]⟩
  .cases ho
 have fst: ∀ {o:Oper} {E:Env} {s:St} {ψ:Ps} {a:Act} {K':Env->M β} {v:Value},o∈[o0,o1,o2,o3,o4,o5,o6,o7]->dW C [] [] .s c o E K' s=some r->Lk K' r->Rel C f ψ E s a w1->(execOp a.eval o).run C.P w1= .ok (.value v) w1->
   ∃E' s' ψ',K' E' s'=some r/\Rel C f ψ' E' s' (a.put o.dst v) w1/\∀h cb,ψ h=some cb->ψ' h=some cb:=by
  intro o E s ψ a K' v ho h hl R hv;rcases EO (f:=f) hC hc h hl hN (mn o ho)with⟨E',s',hk,_,q⟩|⟨s',_,q⟩
  .have⟨ψ',h1,h2⟩:=ZrG (next:=λa' w'=>∃ψ',Rel C f ψ' E' s' a' w'/\∀h cb,ψ h=some cb->ψ' h=some cb) hv (q ψ a w1 (λ_ _ _=>True) _ R λψ' v w' R' m=>⟨ψ',R',m⟩)
   exact⟨E',s',ψ',hk,h1,h2⟩
  .exact(ZrG (next:=λ_ _=>False) hv (q ψ a w1 (λ_ _ _=>True) _ R λ_ _ _ _ _=>trivial)).elim
 have⟨v0,y0⟩:=mv hm0 a;have⟨E0,s0,fS,h,R0,_⟩:=fst Do h l0 R (y0 w1);have⟨v2,y2⟩:=mv oY (a.put o0.dst v0);have⟨E2,s2,ij,h,R2,_⟩:=fst Do h l2 R0 (y2 w1);have⟨b3,p3,N6,h⟩:=Ee h;have⟨cb3,_,e3⟩:=R2.ptr N6;have y3: ∀w',(execOp ((a.put o0.dst v0).put o2.dst v2).eval o3).run C.P w'= .ok (.value (.pointer (some ⟨cb3.b,cb3.o+p3,none⟩))) w':=λw'=>by simp[execOp,h3,e3]
 have⟨E3,s3,Db,h,R3,_⟩:=fst Do h l3 R2 (y3 w1);have⟨b4,p4,hx4,h⟩:=Ee h;have⟨cb4,_,e4⟩:=R3.ptr hx4;have⟨off,y4⟩:=ZnX h4 h;have y4:=λw'=>y4 _ w' _ _ e4
 have⟨E4,s4,ψ4,h,R4,_⟩:=fst Do h l4 R3 (y4 w1);have⟨i,p,N7,h⟩:=Ee h;have⟨cb,oO,e5⟩:=R4.ptr N7;have⟨k,n,tr,h⟩:=Zlt h;have y5:=λw' hw=>ZsH h5 F9 h _ w' _ (.int k n) e5 hw
 have hS:w1.cell? ⟨cb.b,cb.o+p,none⟩=some (.int k n):=R4.num oO tr;have⟨E5,s5,ψ5,h,R5,m5⟩:=fst Do h (l5 i p k n) R4 (y5 w1 hS);have oO:=m5 _ _ oO;refine wp_mono (Q:=λe a' w'=>match e with
  | .normal=>∃E' s' ψ',K E' s'=some r/\Rel C f ψ' E' s' a' w'
  | .panic ch=>kK ch/\∃s',r=(.dM,s')/\mU C f s' a' w'
  |_=>False) (wp_region_held (S:=λw'=>w'.cell? ⟨cb.b,cb.o+p,none⟩=some (.int k n)) uX ?_) ?_
 rotate_left
 .intro e a' w' he
  cases e with
  |normal=>have⟨E',s',ψ',hk,R'⟩:=he;exact qn E' s' ψ' a' w' hk R'
  |panic ch=>have⟨hv,s',e,hp⟩:=he;exact qp ch a' w' s' e hv hp
  |_=>exact he.elim
 have wanted: ∀ {o:Oper} {y:Nat->Option Bool},o.guard=none->Region.wanted o y=true:=λhg=>by simp[Region.wanted,hg]
 have hQ: ∀ {o:Oper} {v:Value},o∈[o0,o1,o2,o3,o4,o5,o6,o7]->∀ch a' w',(kK ch/\∃s',r=(.dM,s')/\mU C f s' (a'.put o.dst v) w')->(kK ch/\∃s',r=(.dM,s')/\mU C f s' a' w'):=
  λho ch a' w' ⟨hv,s',e,hp⟩=>⟨hv,s',e,hp.WA (mn _ ho)⟩
 rw[VU,cD];refine wpAnyH_take i0 Cb f0 r0 (hQ Do) (.inl ⟨wanted g0,λw' _=>y0 w'⟩) hS ?_;refine wpAnyH_take i2 Cb f1 r1 (hQ Do) (.inl ⟨wanted g2,λw' _=>y2 w'⟩) hS ?_;refine wpAnyH_take i3 Cb f2 r2 (hQ Do) (.inl ⟨wanted g3,λw' _=>y3 w'⟩) hS ?_;refine wpAnyH_take i4 Cb f3 r3 (hQ Do) (.inl ⟨wanted g4,λw' _=>y4 w'⟩) hS ?_;refine wpAnyH_take i5 Cb f4 r4 (hQ Do) (.inl ⟨wanted g5,λw' hw=>y5 w' hw⟩) hS ?_;refine wpAnyH_all rd5 Do λj hj=>?_
 rw[cA]at hj;subst hj;refine LR i1 g1 ?_;rcases EO (f:=f) hC hc h (l1 i p k n) hN (mn o1 Do)with⟨E1,s1,h,_,q1⟩|⟨s',e,q1⟩
 rotate_left
 .exact q1 _ _ _ _ _ R5 λch a' w' hv hp=>⟨hv,s',e,hp⟩
 refine q1 _ _ _ _ _ R5 λfT v1 w2 R1 m1=>?_
 have oO:=m1 _ _ oO;have⟨h,fW⟩:=D8 h;refine⟨R1.num oO fW,wpAnyH_all rd6 Do λj hj=>?_⟩;rw[cA]at hj;subst hj;refine LR i6 g6 ?_;rcases EO (f:=f) hC hc h (l6 i p k n) hN (mn o6 Do)with⟨E6,s6,h,_,q6⟩|⟨s',e,q6⟩
 rotate_left
 .exact q6 _ _ _ _ _ R1 λch a' w' hv hp=>⟨hv,s',e,hp⟩
 refine q6 _ _ _ _ _ R1 λψ6 v6 w6 R6 m6=>?_
 have oO:=m6 _ _ oO;have⟨h,hc6⟩:=D8 h;refine⟨R6.num oO hc6,wpAnyH_all rd7 Do λj hj=>?_⟩;rw[cA]at hj;subst hj;refine LR i7 g7 ?_;rcases EO (f:=f) hC hc h (l7 i p k n) hN (mn o7 Do)with⟨E7,s7,h,_,q7⟩|⟨s',e,q7⟩
 rotate_left
 .exact q7 _ _ _ _ _ R6 λch a' w' hv hp=>⟨hv,s',e,hp⟩
 refine q7 _ _ _ _ _ R6 λψ7 v7 w7 R7 m7=>?_
 have oO:=m7 _ _ oO;have⟨h,hc7⟩:=D8 h;exact⟨R7.num oO hc7,wpAnyH_done rd8 ⟨E7,s7,ψ7,h,R7⟩ _⟩
end
def kV:Code->List Code
 | .seq a b=>kV a++kV b
 |c=>[c]
def nL (P:Program):List Code->(Exit->Act->World->Prop)->Act->World->Prop
 |[],Q=>Q .normal
 |x::r,Q=>x.wp P (Exit.then (nL P r Q) Q)
theorem Zr8 (n m:Act->World->Prop) (Q:Exit->Act->World->Prop):Exit.then n (Exit.then m Q)=Exit.then n Q:=by
 funext e a w;cases e<;>rfl
theorem Zsk (Q:Exit->Act->World->Prop):Exit.then (Q .normal) Q=Q:=by
 funext e a w;cases e<;>rfl
theorem LJ {P:Program} : ∀(l m:List Code) (Q:Exit->Act->World->Prop),nL P (l++m) Q=nL P l (Exit.then (nL P m Q) Q)
 |[],m,Q=>rfl
 |x::l,m,Q=>by
  show x.wp P (Exit.then (nL P (l++m) Q) Q)=x.wp P (Exit.then (nL P l (Exit.then (nL P m Q) Q)) (Exit.then (nL P m Q) Q));rw[LJ l m Q,Zr8]
theorem ZtL : ∀(c:Code) (Q:Exit->Act->World->Prop) (a:Act) (w:World),nL P (kV c) Q a w->c.wp P Q a w:=by
 intro c;induction c with
 |seq x y ihx ihy=>
  intro Q a w h;rw[kV,LJ]at h;refine wp_seq (wp_mono (ihx _ a w h) λe a w h=>?_);cases e<;>first|exact ihy Q a w h|exact h
 |_=>intro Q a w h;simp only[kV,nL,Zsk]at h;exact h
def CA:Code->Option (Array Oper)
 | .region _ ops true=>bif Oq ops&&Nat.beq ops.size 8 then some ops else none
 |_=>none
noncomputable def BA (C:aY) (c:Zd) (n:Nat) (x:Code) (kn kr:Env->M β):Env->M β:=match CA x with
 |some ops=>λE=>CU C c ops E kn
 |none=>exec C [] c n x .z kn (λ_ _=>fail) kr
noncomputable def rD (C:aY) (c:Zd) (n:Nat):List Code->(Env->M β)->(Env->M β)->Env->M β
 |[],kn,_=>kn
 |x::r,kn,kr=>BA C c n x (rD C c n r kn kr) kr
def CK (ok:Nat->Bool):List Code->Bool
 |[]=>true
 |x::r=>sa ok x&&CK ok r
section
variable {C:aY} {f:Fr} {c:Zd} {n:Nat} {r:Out β×St}
theorem ZsV {x:Code} (h:CA x=some ops): ∃id,x= .region id ops true:=by
 unfold CA at h;grind
theorem Zs2 (hC:kI C) (hc:ZI C c) {K:Env->M β} (h:Lk K r):Lk (λE=>CU C c ops E K) r:=by
 intro E s h';unfold CU at h';cases iT:BD ops.toList with
 |none=>rw[iT]at h';cases h'
 |some q=>
  have⟨o0,o1,o2,o3,o4,o5,o6,o7⟩:=q;rw[iT]at h';simp only at h';have⟨_,h'⟩:=Zq h';cases h3:o3.op with
  |nilCheck x3=>
   cases h4:o4.op with
   |fieldAddr GS x4 Fv=>
    cases h5:o5.op with
    |load GY x5=>
     rw[h3,h4,h5]at h';simp only at h';have⟨_,h'⟩:=ZU h';refine l8 hC hc o0 (l8 hC hc o2 (yz (K:=λE2 _ _=>_) λ_ _=>l8 hC hc o3 (yz (K:=λE3 _ _=>_) λ_ _=>l8 hC hc o4 (yz (K:=λE4 i p=>_) λi p=>ZqB (K:=λE4 k n=>_) λk n=>l8 hC hc o5 (l8 hC hc o1 (yi (l8 hC hc o6 (yi (l8 hC hc o7 (yi h)))))))))) E s h'
    |_=>rw[h3,h4,h5]at h';cases h'
   |_=>rw[h3,h4]at h';cases h'
  |_=>rw[h3]at h';cases h'
theorem ZrF (hC:kI C) (hc:ZI C c) (x:Code) (kn kr:Env->M β) (h:Lk kn r) (k:Lk kr r):Lk (BA C c n x kn kr) r:=by
 unfold BA;cases CA x with
 |some ops=>exact Zs2 hC hc h
 |none=>exact AR hC hc x .z _ _ kr h (λ_ _ _ h=>by cases h) k
theorem xX (hC:kI C) (hc:ZI C c): ∀(l:List Code) (kn kr:Env->M β),Lk kn r->Lk kr r->Lk (rD C c n l kn kr) r
 |[],_,_,h,_=>h
 |x::l,kn,kr,h,k=>ZrF hC hc x _ kr (xX hC hc l kn kr h k) k
theorem Lm (hC:kI C) (hc:ZI C c) (uX:C.P.follows .mixedOrders=true) (hN:r.2.length<=f.N): ∀(l:List Code) (kn kr:Env->M β),CK f.ok l=true->Lk kn r->Lk kr r->
  ∀(E:Env) (s:St),rD C c n l kn kr E s=some r->∀(ψ:Ps) (a:Act) (w:World) (QQ:Exit->Act->World->Prop),Rel C f ψ E s a w->
  (∀E' s' ψ' a' w',kn E' s'=some r->Rel C f ψ' E' s' a' w'->QQ .normal a' w')->
  (∀E' s' ψ' a' w',kr E' s'=some r->Rel C f ψ' E' s' a' w'->QQ .ret a' w')->
  (∀ch a' w' s',r=(.dM,s')->kK ch->mU C f s' a' w'->QQ (.panic ch) a' w')->nL C.P l QQ a w
 |[],kn,kr,_,_,_,E,s,h,ψ,a,w,QQ,R,qn,_,_=>qn E s ψ a w h R
 |x::l,kn,kr,ho,hn,hr,E,s,h,ψ,a,w,QQ,R,qn,qr,qp=>by
  simp only[CK,aZ]at ho;have rest: ∀E' s' ψ' a' w',rD C c n l kn kr E' s'=some r->Rel C f ψ' E' s' a' w'->nL C.P l QQ a' w':=λE' s' ψ' a' w' h' R'=>
   Lm hC hc uX hN l kn kr ho.2 hn hr E' s' h' ψ' a' w' QQ R' qn qr qp
  have h:BA C c n x (rD C c n l kn kr) kr E s=some r:=h;unfold BA at h;cases hy:CA x with
  |some ops=>
   rw[hy]at h;obtain⟨id,rfl⟩:=ZsV hy;exact ZsL hC hc ho.1 h (xX hC hc l kn kr hn hr) uX hN id R _ rest (λch a' w' s' e h1 h2=>qp ch a' w' s' e h1 h2)
  |none=>
   rw[hy]at h;exact LO hC hc uX hN x .z _ _ kr ho.1 (xX hC hc l kn kr hn hr) (λ_ _ _ h=>by cases h) hr E s h ψ a w _ R (λE' s' ψ' a' w' h' R' _=>rest E' s' ψ' a' w' h' R') (λ_ _ _ _ _ _ h=>by cases h) (λE' s' ψ' a' w' h' R'=>qr E' s' ψ' a' w' h' R') (λch a' w' s' e h1 h2=>qp ch a' w' s' e h1 h2)
theorem gO.trans {fS fT ij:Ps} {s0 s1 s2:St} {w0 w1 w2:World} (hl:s0.length<=s1.length) (qm:s1.length<=s2.length) (h:gO C fS s0 w0 fT s1 w1) (k:gO C fT s1 w1 ij s2 w2):gO C fS s0 w0 ij s2 w2:=by
 refine⟨k.dD,h.ext.trans k.ext,λx cb e=>?_⟩;rcases k.news x cb e with e|⟨i,rfl,h1,h2⟩
 .rcases h.news x cb e with e|⟨i,rfl,h1,h2⟩
  .exact .inl e
  grind
 grind
end
def lK (C:aY) (E:Env):List ResultVar->(af->M β)->M β
 |[],K=>K []
 | .cell a t::r,K=>match E.get a with
  | .v (.ptr (some (i,o)))=>mI C.P t (bif ZW C.P t then bP i o (C.P.cellsOf t) λcs=>lK C E r λds=>K (.agg cs::ds)else bc i o λd=>lK C E r λds=>K (d::ds))
  |_=>fail
 | .tmp _::_,_=>fail
def Bx:Option Code->Option (Nat×FuncId×List Operand)
 |some (.region _ ⟨[⟨some td,.makeFunc (.func g) ⟨[]⟩ ⟨fO⟩,_,_,_,none⟩,⟨none,.defer ⟨.value (.tmp t'),⟨[]⟩,_⟩,_,_,_,none⟩]⟩ false)=>bif Nat.beq td t' then some (td,g,fO)else none
 |_=>none
def rW (P:Program) (ty:TypeId):Bool:=match P.underlying ty with
 |some (.interface _)=>true
 |_=>false
def yJ (P:Program) (m N:Nat):Code->Option Code
 | .seq (.region _ ⟨[⟨some t3,.call ⟨.builtin .recover,⟨[]⟩,_⟩,_,_,_,none⟩,⟨some t4,.binOp .neq ty (.tmp OK) (.const .nilIface) _,_,_,_,none⟩]⟩ false) (.cond (.tmp OL) b .skip)=>
  bif Nat.beq t3 OK&&Nat.beq t4 OL&& !Nat.beq t3 t4&&Nat.ble m t3&&Nat.ble m t4&&Nat.blt t3 N&&Nat.blt t4 N&&rW P ty then some b else none
 |_=>none
def Gw:dz->Bool
 | .u=>true
 |_=>false
def qC:List ResultVar->Nat->Bool
 |[],_=>true
 | .cell a _::r,t=> !Nat.beq a t&&qC r t
 | .tmp _::_,_=>false
noncomputable def My (C:aY) (k:Nat) (fn et:Func) (c:Zd) (n:Nat) (args:af):M af:=
 match fn.body,et.body with
 |some code,some tl=>match Bx ((kV code)[k]?),yJ C.P et.nfree et.ntmps tl with
  |some (td,_,fO),some gb=>
   bif CK (nC fn.ntmps) ((kV code).take k)&&CK (λt=>nC fn.ntmps t&&qC fn.results.toList t) ((kV code).drop (k+1))&&sa (nC et.ntmps) gb&&Nat.ble fn.params.size fn.ntmps&&Nat.blt td fn.ntmps&&qC fn.results.toList td
    &&Nat.beq fn.nfree 0&&Nat.beq et.params.size 0&&et.results.isEmpty&&Nat.ble et.nfree et.ntmps&&Nat.beq fO.length et.nfree then
    uL (fn.params.toList.map (jG C.P)) args λds=>
     let fin (E:Env):M af:=lK C E fn.results.toList λds=>au ds
     rD C c n ((kV code).take k) (λE=>aJ (Nat.beq E.bq 0&&Gw (E.get td)) (tZ C E fO λcs=>
      oL (rD C c n ((kV code).drop (k+1)) (λ_=>au []) (λ_=>au []) E)
       λp=>bif p then oL (exec C [] c n gb .z (λ_=>au []) (λ_ _=>fail) (λ_=>au []) ⟨0,hU 0 cs⟩) λp=>bif p then fail else fin E
        else fin E)) fin ⟨0,hU 0 ds⟩
   else fail
  |_,_=>fail
 |_,_=>fail
section
variable {C:aY} {ψ:Ps} {s:St} {w:World} {g:FuncId} {et:Func}
theorem Znm {m:Nat} {c:Code} (h:yJ P m N c=some gb):
  ∃id t3 t4 ty aT rT rP rA eT rC eP eA,c= .seq (.region id #[⟨some t3,.call ⟨.builtin .recover, #[],aT⟩,rT,rP,rA,none⟩,⟨some t4,.binOp .neq ty (.tmp t3) (.const .nilIface) eT,rC,eP,eA,none⟩] false) (.cond (.tmp t4) gb .skip)/\
   t3≠t4/\m<=t3/\m<=t4/\t3<N/\t4<N/\rW P ty=true:=by
 unfold yJ at h;split at h
 .rename_i id t3 aT rT rP rA t4 ty OK eT rC eP eA OL b
  cases hc:(Nat.beq t3 OK&&Nat.beq t4 OL&& !Nat.beq t3 t4&&Nat.ble m t3&&Nat.ble m t4&&Nat.blt t3 N&&Nat.blt t4 N&&rW P ty)with
  |false=>rw[hc]at h;cases h
  |true=>
   rw[hc]at h;simp only[aa,eO]at h;subst h;simp only[aZ]at hc;have⟨⟨⟨⟨⟨⟨⟨h1,h2⟩,h3⟩,h4⟩,h5⟩,h6⟩,h7⟩,h8⟩:=hc;cases cO h1;cases cO h2;refine⟨id,t3,t4,ty,aT,rT,rP,rA,eT,rC,eP,eA,rfl,?_,lQ h4,lQ h5,by rw[lP]at h6;exact h6,by rw[lP]at h7;exact h7,h8⟩;grind
 .cases h
theorem Zmj (h:rW P ty=true): ∃ms,P.underlying ty=some (.interface ms):=by
 grind[rW]
theorem ZqN (h:rW P ty=true) (d:Nat) (t:TypeId) (v:Value) (w:World):(Op.equalIn (d+1) ty (.iface t v) .nilIface).run P w= .ok false w:=by
 have⟨ms,hu⟩:=Zmj h;rw[Op.equalIn.eq_2,Sem.run_bind,Zk w hu];rfl
theorem ZqW (h:rW P ty=true) (d:Nat) (w:World):(Op.equalIn (d+1) ty .nilIface .nilIface).run P w= .ok true w:=by
 have⟨ms,hu⟩:=Zmj h;rw[Op.equalIn.eq_2,Sem.run_bind,Zk w hu];rfl
theorem ZrZ (h:rW P ty=true) (t:TypeId) (v:Value) (w:World):(binOp .neq ty (.iface t v) .nilIface).run P w= .ok (.bool true) w:=by
 have e:binOp .neq ty (.iface t v) .nilIface=(do let b <-Op.equal ty (.iface t v) .nilIface;pure (.bool !b)):=by
  unfold binOp;rfl
 rw[e,Sem.run_bind,show Op.equal ty (.iface t v) .nilIface=Op.equalIn (9999+1) ty (.iface t v) .nilIface from rfl,ZqN h];rfl
theorem Zti (h:rW P ty=true) (w:World):(binOp .neq ty .nilIface .nilIface).run P w= .ok (.bool false) w:=by
 have e:binOp .neq ty .nilIface .nilIface=(do let b <-Op.equal ty .nilIface .nilIface;pure (.bool !b)):=by
  unfold binOp;rfl
 rw[e,Sem.run_bind,show Op.equal ty .nilIface .nilIface=Op.equalIn (9999+1) ty .nilIface .nilIface from rfl,ZqW h];rfl
theorem Zre {a:Act} {cs:List Frame} {x:Value} (ho:ops[i]? =some o) (hg:o.guard=none) (he:(execOp a.eval o).run P w= .ok .recover w)
  (aQ:(match recoverD cs with|some (v,cs')=>(v,cs')|none=>(Value.nilIface,cs))=(x,cs')) (h:wpOpsS P ops Q rest (a.put o.dst x) cs' w):wpOpsS P ops Q (i::rest) a cs w:=by
 simp only[wpOpsS,ho];rw[bO (by simp[Region.wanted,hg]),he];grind
theorem ZqH {a:Act} {cs:List Frame} {x:Value} (ho:ops[i]? =some o) (hg:o.guard=none) (he:(execOp a.eval o).run P w= .ok (.value x) w)
  (h:wpOpsS P ops Q rest (a.put o.dst x) cs w):wpOpsS P ops Q (i::rest) a cs w:=by
 simp only[wpOpsS,ho];rw[bO (by simp[Region.wanted,hg]),he];exact h
def xg (vs:Array Value) (N t3 t4:Nat) (x:Value) (b:Bool):Array Value:=((vs++Array.replicate (N-vs.size) Go.undef).setIfInBounds t3 x).setIfInBounds t4 (.bool b)
theorem Ziw {aT:Array TypeId} (WQ:t3≠t4) (h3:t3<N) (h4:t4<N) (WS:rW C.P ty=true) {ry:Frame} {cs:List Frame} {x:Value} {b:Bool}
  (aQ:(match recoverD (ry::cs)with|some (v,cs')=>(v,cs')|none=>(Value.nilIface,ry::cs))=(x,cs')) (hb:(binOp .neq ty x .nilIface).run C.P w= .ok (.bool b) w) (hx:(∃t v,x= .iface t v)\/x= .nilIface)
  (h:(bif b then gb else .skip).wpS C.P Q { tmps:=xg vs N t3 t4 x b,defers:=[] } cs' w):
  (Code.seq (.region id #[⟨some t3,.call ⟨.builtin .recover, #[],aT⟩,rT,rP,rA,none⟩,⟨some t4,.binOp .neq ty (.tmp t3) (.const .nilIface) eT,rC,eP,eA,none⟩] false) (.cond (.tmp t4) gb .skip)).wpS C.P Q { tmps:=vs++Array.replicate (N-vs.size) Go.undef,defers:=[] } (ry::cs) w:=by
 have bS:N<=(vs++Array.replicate (N-vs.size) Go.undef).size:=by simp;omega
 refine wpS_seq (wpS_region ?_);have e1: ∀ev:Operand->Value,(execOp ev ⟨some t3,.call ⟨.builtin .recover, #[],aT⟩,rT,rP,rA,none⟩).run C.P w= .ok .recover w:=λ_=>rfl
 have fin:wpOpsS C.P #[⟨some t3,.call ⟨.builtin .recover, #[],aT⟩,rT,rP,rA,none⟩,⟨some t4,.binOp .neq ty (.tmp t3) (.const .nilIface) eT,rC,eP,eA,none⟩] (Exit.thenS ((Code.cond (.tmp t4) gb .skip).wpS C.P Q) Q) [1] (({ tmps:=vs++Array.replicate (N-vs.size) Go.undef,defers:=[] } :Act).put (some t3) x) cs' w:=by
  have Nb:(({ tmps:=vs++Array.replicate (N-vs.size) Go.undef,defers:=[] } :Act).put (some t3) x).eval (.tmp t3)=x:=by
   simp only[Act.put,Act.eval];rw[mM,G7 AC];rfl
  have e2:(execOp (({ tmps:=vs++Array.replicate (N-vs.size) Go.undef,defers:=[] } :Act).put (some t3) x).eval ⟨some t4,.binOp .neq ty (.tmp t3) (.const .nilIface) eT,rC,eP,eA,none⟩).run C.P w= .ok (.value (.bool b)) w:=by
   show(do let v <-(do eqGuard .neq ty (.tmp t3) (.const .nilIface) (Act.eval _ (.tmp t3)) (Act.eval _ (.const .nilIface));binOp .neq ty (Act.eval _ (.tmp t3)) (Act.eval _ (.const .nilIface)));pure (Next.value v):Sem Next).run C.P w=_;rw[Nb];have hg:(eqGuard .neq ty (.tmp t3) (.const .nilIface) x .nilIface).run C.P w= .ok () w:=by
    rcases hx with⟨t,v,rfl⟩|rfl<;>rfl
   show((do eqGuard .neq ty (.tmp t3) (.const .nilIface) x .nilIface;binOp .neq ty x .nilIface:Sem Value)>>= λv=>pure (Next.value v)).run C.P w=_;rw[Sem.run_bind,Sem.run_bind,hg,Result.andThen_ok,hb];rfl
  refine ZqH (o:=⟨some t4,.binOp .neq ty (.tmp t3) (.const .nilIface) eT,rC,eP,eA,none⟩) rfl rfl e2 ?_;show Exit.thenS _ Q .normal _ cs' w;refine wpS_cond (t:=b) ?_ ?_
  .simp only[Act.put,Act.eval]
   rw[mM,G7 (by simp;omega)];rfl
  .cases b<;>exact h
 show wpOpsS C.P _ _ [0,1] _ _ _;exact Zre (o:=⟨some t3,.call ⟨.builtin .recover, #[],aT⟩,rT,rP,rA,none⟩) rfl rfl (e1 _) aQ fin
theorem ZjO {fn:Func} (h:fn.results.isEmpty=true) (tmps:Array Value) (P:Program) (w:World):(results fn tmps).run P w= .ok (.tuple #[]) w:=by
 have e:fn.results= #[]:=by simpa using h
 simp[results,e]
theorem Zo4 (wE:C.P.funcs[g]? =some et) (tz:et.body=some tl) (hd:yJ C.P et.nfree et.ntmps tl=some gb) (Cp:et.results.isEmpty=true):
  CallsD C.P g vs .returning w λe u' w'=>e= .returned (.tuple #[])/\u'= .returning/\w'=w:=by
 obtain⟨id,t3,t4,ty,aT,rT,rP,rA,eT,rC,eP,eA,rfl,cS,_,_,h3,h4,mw⟩:=Znm hd;refine callsD_of_wpS wE tz λry cs hu=>?_
 refine Ziw (x:= .nilIface) (b:=false) cS h3 h4 mw (cs':=ry::cs) ?_ (Zti mw w) (.inr rfl) ?_
 .rw[recoverD,hu]
 .refine wpS_of_wp (wp_skip ?_)
  refine⟨rfl,.returning,?_,_,ZjO Cp _ _ _,rfl,rfl,rfl⟩;cases ry;grind
theorem Zp1 (hF:Af C) {c:Zd} (hc:ZI C c) {n:Nat} {vs:List Value} (wE:C.P.funcs[g]? =some et) (tz:et.body=some tl) (hd:yJ C.P et.nfree et.ntmps tl=some gb) (Cp:et.results.isEmpty=true)
  (gT:sa (nC et.ntmps) gb=true) (hm:vs.length=et.nfree) (hmN:et.nfree<=et.ntmps) (h:exec C [] c n gb .z (λ_=>au []) (λ_ _=>fail) (λ_=>au []) ⟨0,hU 0 ds⟩ s=some (.val ds0,s3))
  (tK:dN C ψ (CS s) w) (BK:mP ψ w) (wF:Glob C ψ) (kz:ba C ψ ds vs) (uZ: ∀v,ψ (.inr v)=none) (Cw: ∀i,s.length<=i->i<s3.length->ψ (.inl i)=none) {ch:List PanicEntry} (oU:kK ch):
  CallsD C.P g vs.toArray (.panicking ch) w λe u' w'=>e= .returned (.tuple #[])/\settle u'= .returning/\∃ψ',gO C ψ s w ψ' s3 w':=by
 obtain⟨id,t3,t4,ty,aT,rT,rP,rA,eT,rC,eP,eA,rfl,cS,B1,hm4,h3,h4,mw⟩:=Znm hd;obtain⟨pt,pv,rfl⟩:=oU;refine callsD_of_wpS wE tz λry cs hu=>?_
 refine Ziw (x:= .iface pt pv) (b:=true) cS h3 h4 mw (cs':= { ry with mode:= .panicking [{ v:= .iface pt pv,recovered:=true }] } ::cs) ?_ (ZrZ mw _ _ w) (.inl ⟨_,_,rfl⟩) ?_
 .rw[recoverD,hu]
 rw[aa];have lk: ∀r:Out af×St,Lk (λ_:Env=>(au []:M af)) r:=by
  intro r E s' h';simp only[au,eO]at h';grind
 let f:Fr:=⟨s3.length,et.ntmps,ψ,s,w,nC et.ntmps,λx h=>by unfold nC at h;rw[lP]at h;exact h,λt=>(xg vs.toArray et.ntmps t3 t4 (.iface pt pv) true).getD t Go.undef,[]⟩
 have qe: ∀t,(⟨0,hU 0 ds⟩:Env).get t=match ds[t]? with|some d=> .v d|none=> .u:=by
  intro t;have:=Eg 0 ds t;simp only[eB,ju,Nat.sub_zero]at this;exact this
 have w5: ∀t v,((⟨0,hU 0 ds⟩:Env).get t).cd≠some v:=by
  intro t v;rw[qe];cases ds[t]? <;>simp[dz.cd]
 have uK: ∀h ab,CR ⟨0,hU 0 ds⟩ s h ab->CS s h ab:=by
  intro h ab c;cases h with
  |inl i=>exact⟨i,rfl,c⟩
  |inr v=>
   rcases c with⟨t,n,cs,e,_⟩|⟨t,l,p,e,_⟩
   .grind
   grind
 have R:Rel C f ψ ⟨0,hU 0 ds⟩ s { tmps:=xg vs.toArray et.ntmps t3 t4 (.iface pt pv) true,defers:=[] } w:=by
  refine⟨tK.weaken λ_ _ _ _ c=>uK _ _ c,⟨Fd,λt r v o e=>?_,Fd,Fd⟩,BK,wF,λt=>?_,?_,rfl,Cw,λv _=>uZ v,(Ext.refl ψ (CS s) w).weaken λ_ _ _ _ c=>uK _ _ c,λi cb e=> .inl e,aW _,uZ⟩
  .rw[qe]at e
   cases hd:ds[t]? <;>rw[hd]at e<;>cases e
  .rw[qe]
   cases hd:ds[t]? with
   |none=>trivial
   |some d=>
    have⟨v,hv,hr⟩:=kz.get hd;have aw:=(cF.1 hv).1;have:(xg vs.toArray et.ntmps t3 t4 (.iface pt pv) true).getD t Go.undef=v:=by
     unfold xg;rw[mM,Array.getElem?_setIfInBounds_ne AC,Array.getElem?_setIfInBounds_ne AC,G6 (by simpa using aw)];simp[hv]
    show eV C ψ (.v d) _;rw[this];exact hr
  .refine⟨?_,λ_ _=>rfl⟩
   show(xg vs.toArray et.ntmps t3 t4 (.iface pt pv) true).size=et.ntmps;simp[xg];omega
 refine wpS_of_wp ?_;have done: ∀ {E':Env} {s':St} {ψ':Ps} {a':Act} {w':World},(au []:M af) s'=some (.val ds0,s3)->Rel C f ψ' E' s' a' w'->
   a'.defers=[]/\∃u',({ ry with mode:= .panicking [{ v:= .iface pt pv,recovered:=true }] } ::cs:List Frame)= { ry with mode:=u' } ::cs/\∃v,(results et a'.tmps).run C.P w'= .ok v w'/\Ending.returned v= .returned (.tuple #[])/\settle u'= .returning/\∃ψ',gO C ψ s w ψ' s3 w':=by
  intro E' s' ψ' a' w' h' R';simp only[au,eO,xF]at h';obtain⟨_,rfl⟩:=h';exact⟨R'.defs,_,rfl,_,ZjO Cp _ _ _,rfl,rfl,_,R'.tc⟩
 refine LO hF.cfg hc hF.Fw (f:=f) (aW _) gb .z _ _ _ gT (lk _) (λi E s h=>by cases h) (lk _) _ s h ψ _ w _ R ?_ ?_ ?_ ?_
 .intro E' s' ψ' a' w' h' R' _;exact done h' R'
 .intro i E' s' ψ' a' w' h' _ _;cases h'
 .intro E' s' ψ' a' w' h' R';exact done h' R'
 grind
end
section
variable {C:aY} {ψ:Ps} {E:Env} {s:St} {w:World}
def Bl (ψ:Ps) (E:Env) (tmps:Array Value) (l:List ResultVar):Prop:=
 ∀a t,ResultVar.cell a t∈l->∀i o,E.get a= .v (.ptr (some (i,o)))->∃cb:CB,ψ (.inl i)=some cb/\tmps.getD a undef= .pointer (some ⟨cb.b,cb.o+o,none⟩)
theorem Lo (hs:dN C ψ (CS s) w) {tmps:Array Value} {r:Out β×St} : ∀ {l:List ResultVar} {K:af->M β},Bl ψ E tmps l->lK C E l K s=some r->∃ds vs,K ds s=some r/\ba C ψ ds vs/\(l.mapM (Fb tmps)).run C.P w= .ok vs w
 |[],K,_,h=>⟨[],[],h,.nil,Do⟩
 | .tmp t::l,K,_,h=>by cases h
 | .cell a t::l,K,hp,h=>by
  have ee:Bl ψ E tmps l:=λa t hm=>hp a t (De _ hm)
  simp only[lK]at h;cases hx:E.get a with
  |v d=>
   rw[hx]at h;cases d with
   |ptr p=>
    cases p with
    |none=>cases h
    |some q=>
     have⟨i,o⟩:=q;simp only at h;have⟨cb,e1,e3⟩:=hp a t Do i o hx;have⟨td,ht,h⟩:=Z5 h;have asA:(asAddr (tmps.getD a undef)).run C.P w= .ok ⟨cb.b,cb.o+o,none⟩ w:=by rw[e3];rfl
     cases gp:ZW C.P t with
     |true=>
      rw[gp]at h;simp only[aa]at h;have⟨fz,cs,bx,hn,h⟩:=AG h;have hh:=hs.holds (.inl i) cb _ e1 ⟨i,rfl,bx⟩;have⟨ds,vs,hk,hr,cm⟩:=Lo hs ee h;have⟨vc,hv,_,iU,h1⟩:=DO (P:=C.P) hh (p:=o) (n:=C.P.cellsOf t) hn;refine⟨_,_,hk,.cons _ _ _ _ (.agg _ vc iU h1) hr,AV ?_ cm⟩;show(do loadVar t (<-asAddr (tmps.getD a undef)):Sem Value).run C.P w=_;rw[Sem.run_bind,asA,Result.andThen_ok];exact Dy ht gp _ w hv
     |false=>
      rw[gp]at h;simp only[ae]at h;unfold bc at h;cases fH:s.cells i with
      |none=>rw[fH]at h;cases h
      |some cs=>
       rw[fH]at h;simp only at h;cases hd:cs[o]? with
       |none=>rw[hd]at h;cases h
       |some d=>
        rw[hd]at h;simp only at h;have bx: ∃f,cu s i=some (.cells f cs):=by
         unfold St.cells at fH;split at fH
         .rename_i bk BJ
          cases fH;exact⟨bk.jS,by rw[cu,BJ]⟩
         .cases fH
        have⟨fz,bx⟩:=bx;have hh:=hs.holds (.inl i) cb _ e1 ⟨i,rfl,bx⟩;have⟨ds,vs,hk,hr,cm⟩:=Lo hs ee h;have⟨y,hv,iU,_⟩:=Eb (P:=C.P) hh hd;refine⟨_,_,hk,.cons _ _ _ _ iU hr,AV ?_ cm⟩;show(do loadVar t (<-asAddr (tmps.getD a undef)):Sem Value).run C.P w=_;rw[Sem.run_bind,asA,Result.andThen_ok];exact Al ht gp _ w hv
   |_=>cases h
  |_=>rw[hx]at h;cases h
theorem Lg {s s':St} {o:Out af} : ∀ {l:List ResultVar} {K:af->M af},lK C E l K s=some (o,s')->(∀ds s o s',K ds s=some (o,s')->s'=s)->s'=s
 |[],K,h,hK=>hK _ _ _ _ h
 | .tmp t::l,K,h,_=>by cases h
 | .cell a t::l,K,h,hK=>by
  simp only[lK]at h;cases hx:E.get a with
  |v d=>
   rw[hx]at h;cases d with
   |ptr p=>
    cases p with
    |none=>cases h
    |some q=>
     simp only at h;have⟨td,ht,h⟩:=Z5 h;cases gp:ZW C.P t with
     |true=>
      rw[gp]at h;simp only[aa]at h;have⟨_,_,_,_,h⟩:=AG h;exact Lg h λds s o s' h=>hK _ s o s' h
     |false=>
      rw[gp]at h;simp only[ae]at h;unfold bc at h;split at h
      .split at h
       .exact Lg h λds s o s' h=>hK _ s o s' h
       .cases h
      .cases h
   |_=>cases h
  |_=>rw[hx]at h;cases h
theorem Zpo: ∀ {l:List ResultVar} {t:Nat},qC l t=true->∀a u,ResultVar.cell a u∈l->a≠t
 |[],_,_,a,u,hm=>by cases hm
 | .tmp _::_,_,h,_,_,_=>by cases h
 | .cell b v::l,t,h,a,u,hm=>by
  simp only[qC,aZ,nN]at h;rcases dR.1 hm with e|hm
  .grind[xA]
  .exact Zpo h.2 a u hm
theorem ZnB: ∀ {l:List ResultVar} (_: ∀t,ResultVar.tmp t∉l) {a u:Nat},ResultVar.cell a u∈l->qC l a=false
 |[],_,a,u,hm=>by cases hm
 | .tmp t::_,h,_,_,_=>absurd Do (h t)
 | .cell b v::l,h,a,u,hm=>by
  rw[qC];rcases dR.1 hm with e|hm
  .simp_all
  .rw[ZnB Fd hm,zW]
theorem Zr1 {c:Option Code} {fO:List Operand} (h:Bx c=some (td,g,fO)):
  ∃id t1 p1 a1 aT t2 p2 a2,c=some (.region id #[⟨some td,.makeFunc (.func g) #[] fO.toArray,t1,p1,a1,none⟩,⟨none,.defer ⟨.value (.tmp td), #[],aT⟩,t2,p2,a2,none⟩] false):=by
 unfold Bx at h;split at h
 .rename_i id td' g' WV t1 p1 a1 t' aT t2 p2 a2
  cases hb:Nat.beq td' t' with
  |false=>rw[hb]at h;cases h
  |true=>
   rw[hb]at h;simp_all
 .cases h
theorem Zrr {Q:Exit->Act->World->Prop} {a:Act} {x:Value} (ho:ops[i]? =some o) (hg:o.guard=none) (he:(execOp a.eval o).run P w= .ok (.value x) w)
  (h:wpOps P ops Q rest (a.put o.dst x) w):wpOps P ops Q (i::rest) a w:=by
 simp only[wpOps,ho];rw[bO (by simp[Region.wanted,hg])];left;unfold Oper.wp;rw[he];exact h
theorem ZpO {Q:Exit->Act->World->Prop} {a:Act} {d:Deferred} (ho:ops[i]? =some o) (hg:o.guard=none) (he:(execOp a.eval o).run P w= .ok (.defer d) w)
  (h:wpOps P ops Q rest ({ a with defers:=d::a.defers }.put o.dst Go.undef) w):wpOps P ops Q (i::rest) a w:=by
 simp only[wpOps,ho];rw[bO (by simp[Region.wanted,hg])];left;unfold Oper.wp;rw[he];exact h
end
theorem ZlH {m:M af} {H:Bool->M β} {r:Out β×St} (h:oL m H s=some r):(∃ds s2,m s=some (.val ds,s2)/\H false s2=some r)\/(∃s2,m s=some (.dM,s2)/\H true s2=some r):=by
 grind[oL]
theorem Zt6 {α:Type} {l:List α} {k:Nat} {x:α} (h:l[k]? =some x):l=l.take k++x::l.drop (k+1):=by
 obtain⟨hk,rfl⟩:=cF.1 h;rw[<-il hk,List.take_append_drop]
theorem uH (r:Out af×St):Lk (λ_:Env=>(au []:M af)) r:=by
 intro E s' h';grind[au,eO]
def isG (k:Nat) (fn:Func) (g:FuncId):Bool:=match fn.body with
 |some code=>match Bx ((kV code)[k]?)with
  |some (_,g',_)=>Nat.beq g' g
  |none=>false
 |none=>false
set_option maxHeartbeats 1000000 in
theorem Zs6 (hF:Af C) {c:Zd} (hc:ZI C c) {n k:Nat} {fn et:Func} (hfn:C.P.funcs[oR]? =some fn) (mq:(fn.name== "runtime.NumGoroutine")=false) (wE:C.P.funcs[g]? =some et) (U9:(et.name== "runtime.NumGoroutine")=false) (hg:isG k fn g=true) {out:Out af×St} (h:My C k fn et c n args s=some out):EK C oR args s out:=by
 unfold My at h;cases hb:fn.body with
 |none=>rw[hb]at h;cases h
 |some code=>
 cases tz:et.body with
 |none=>rw[hb,tz]at h;cases h
 |some tl=>
 rw[hb,tz]at h;simp only at h;cases hd:Bx ((kV code)[k]?)with
 |none=>rw[hd]at h;cases h
 |some p=>
 have⟨td,g',fO⟩:=p;cases wB:yJ C.P et.nfree et.ntmps tl with
 |none=>rw[hd,wB]at h;cases h
 |some gb=>
 rw[hd,wB]at h;simp only at h;have:g'=g:=by unfold isG at hg;rw[hb]at hg;simp only at hg;rw[hd]at hg;exact cO hg
 subst this;have⟨gT,h⟩:=Zq h;simp only[aZ]at gT;have⟨⟨⟨⟨⟨⟨⟨⟨⟨⟨k1,k2⟩,k3⟩,k4⟩,k5⟩,k6⟩,k7⟩,k8⟩,k9⟩,Oe⟩,Of⟩:=gT;have k4:=lQ k4;have k5:td<fn.ntmps:=by rw[lP]at k5;exact k5
 have k7:=cO k7;have Oe:=lQ Oe;have Of:=cO Of;have⟨ds,h,zi,qm,oi⟩:=AF h;have hlen:ds.length=fn.params.size:=by rw[qm];simp
 have⟨id,t1,p1,a1',aT,t2,p2,a2',hx⟩:=Zr1 hd;have M7:=Zt6 hx;have Cc: ∀t,ResultVar.tmp t∉fn.results.toList:=by
  intro t hm;have: ∀(l:List ResultVar) (u:Nat),qC l u=true->ResultVar.tmp t∉l:=by
   intro l;induction l with
   |nil=>intro u _ hm;cases hm
   |cons x l ih=>
    intro u hu hm;cases x with
    |tmp y=>cases hu
    |cell a v=>
     simp only[qC,aZ]at hu;rcases dR.1 hm with e|hm
     .cases e
     .exact ih u hu.2 hm
  exact this _ _ k6 hm
 have yP: ∀E s' r,lK C E fn.results.toList (λds=>(au ds:M af)) s'=some r->r.2=s':=by
  intro E s' r h';have⟨o,s2⟩:=r;exact Lg h' λds s o s' h=>by simp only[au,eO,xF]at h;exact h.2.symm
 have lkf:Lk (λE=>lK C E fn.results.toList λds=>(au ds:M af)) out:=λE s' h'=>by rw[yP E s' out h'];exact aW _
 have half: ∀E s',(aJ (Nat.beq E.bq 0&&Gw (E.get td)) (tZ C E fO λcs=>
      oL (rD C c n ((kV code).drop (k+1)) (λ_=>au []) (λ_=>au []) E)
       λp=>bif p then oL (exec C [] c n gb .z (λ_=>au []) (λ_ _=>fail) (λ_=>au []) ⟨0,hU 0 cs⟩) λp=>bif p then fail else lK C E fn.results.toList λds=>(au ds:M af)
        else lK C E fn.results.toList λds=>(au ds:M af))) s'=some out->
   E.bq=0/\E.get td= .u/\∃cs o s2,SV C E fO cs/\rD C c n ((kV code).drop (k+1)) (λ_=>au []) (λ_=>(au []:M af)) E s'=some (o,s2)/\s'.length<=s2.length/\
    (((∃x,o= .val x)/\lK C E fn.results.toList (λds=>(au ds:M af)) s2=some out)\/
     (o= .dM/\∃x s3,exec C [] c n gb .z (λ_=>au []) (λ_ _=>fail) (λ_=>(au []:M af)) ⟨0,hU 0 cs⟩ s2=some (.val x,s3)/\s2.length<=s3.length/\lK C E fn.results.toList (λds=>(au ds:M af)) s3=some out)):=by
  intro E s' h';have⟨hZ,h'⟩:=ZU h';rw[aZ]at hZ;have hu:E.get td= .u:=by
   have:=hZ.2;unfold Gw at this;cases he:E.get td<;>rw[he]at this<;>first|rfl|cases this
  have⟨cs,h',Gl⟩:=AA h';refine⟨cO hZ.1,hu,cs,?_⟩;rcases ZlH h' with⟨x,s2,hm,hf⟩|⟨s2,hm,hf⟩
  .exact⟨_,s2,Gl,hm,xX (r:=(.val x,s2)) hF.cfg hc _ _ _ (uH _) (uH _) E s' hm,.inl ⟨⟨x,rfl⟩,hf⟩⟩
  .simp only[aa]at hf
   rcases ZlH hf with⟨x,s3,oY,hf⟩|⟨s3,_,hf⟩
   .exact⟨_,s2,Gl,hm,xX (r:=(.dM,s2)) hF.cfg hc _ _ _ (uH _) (uH _) E s' hm,.inr ⟨rfl,x,s3,oY,AR (r:=(.val x,s3)) hF.cfg hc gb .z _ _ _ (uH _) (λ_ _ _ h=>by cases h) (uH _) _ s2 oY,hf⟩⟩
   .cases hf
 have lkh:Lk (λE=>aJ (Nat.beq E.bq 0&&Gw (E.get td)) (tZ C E fO λcs=>
      oL (rD C c n ((kV code).drop (k+1)) (λ_=>au []) (λ_=>au []) E)
       λp=>bif p then oL (exec C [] c n gb .z (λ_=>au []) (λ_ _=>fail) (λ_=>au []) ⟨0,hU 0 cs⟩) λp=>bif p then fail else lK C E fn.results.toList λds=>(au ds:M af)
        else lK C E fn.results.toList λds=>(au ds:M af))) out:=by
  intro E s' h';have⟨_,_,cs,o,s2,_,_,hl,hh⟩:=half E s' h';rcases hh with⟨_,hf⟩|⟨_,x,s3,_,u2,hf⟩
  .rw[yP E s2 out hf];exact hl
  .rw[yP E s3 out hf];omega
 refine⟨xX hF.cfg hc _ _ _ lkh lkf _ s h,λψ w vs tK BK wF ix uZ Cw=>?_⟩;have kz:=oi C ψ vs ix;have u7:=kz.len;unfold sR;have wA:(callFunc oR vs.toArray).run C.P w= .ok (.enter oR vs.toArray) w:=by
  have qu: ¬fn.name= "runtime.NumGoroutine" :=by simpa using mq
  simp[callFunc,hfn,qu,hb]
 rw[wA];refine calls_of_wp_defers hfn hb (ZtL _ _ _ _ ?_)
 let f:Fr:=⟨out.2.length,fn.ntmps,ψ,s,w,nC fn.ntmps,λx h=>by unfold nC at h;rw[lP]at h;exact h,λt=>(vs.toArray++Array.replicate (fn.ntmps-vs.toArray.size) Go.undef).getD t Go.undef,[]⟩
 have qe: ∀t,(⟨0,hU 0 ds⟩:Env).get t=match ds[t]? with|some d=> .v d|none=> .u:=by
  intro t;have:=Eg 0 ds t;simp only[eB,ju,Nat.sub_zero]at this;exact this
 have w5: ∀t v,((⟨0,hU 0 ds⟩:Env).get t).cd≠some v:=by
  intro t v;rw[qe];cases ds[t]? <;>simp[dz.cd]
 have uK: ∀h ab,CR ⟨0,hU 0 ds⟩ s h ab->CS s h ab:=by
  intro h ab c;cases h with
  |inl i=>exact⟨i,rfl,c⟩
  |inr v=>
   rcases c with⟨t,n,cs,e,_⟩|⟨t,l,p,e,_⟩
   .exact absurd (by rw[e];rfl) (w5 t v)
   .exact absurd (by rw[e];rfl) (w5 t v)
 have R:Rel C f ψ ⟨0,hU 0 ds⟩ s { tmps:=vs.toArray++Array.replicate (fn.ntmps-vs.toArray.size) Go.undef,defers:=[] } w:=by
  refine⟨tK.weaken λ_ _ _ _ c=>uK _ _ c,⟨λt v e=>absurd e (w5 t v),λt r v o e=>?_,λt v n cs e=>absurd (by rw[e];rfl) (w5 t v),λt t' v e _=>absurd e (w5 t v)⟩,BK,wF,λt=>?_,?_,rfl,Cw,λv _=>uZ v,(Ext.refl ψ (CS s) w).weaken λ_ _ _ _ c=>uK _ _ c,λi cb e=> .inl e,aW _,uZ⟩
  .rw[qe]at e
   cases hd:ds[t]? <;>rw[hd]at e<;>cases e
  .rw[qe]
   cases hd:ds[t]? with
   |none=>trivial
   |some d=>
    have⟨v,hv,hr⟩:=kz.get hd;have:(vs.toArray++Array.replicate (fn.ntmps-vs.toArray.size) Go.undef).getD t Go.undef=v:=by
     have aw:=(cF.1 hv).1;rw[mM,G6 (by simpa using aw)];simp[hv]
    show eV C ψ (.v d) _;rw[this];exact hr
  .refine⟨?_,λ_ _=>rfl⟩
   show(vs.toArray++Array.replicate (fn.ntmps-vs.toArray.size) Go.undef).size=fn.ntmps;rw[Array.size_append,Array.size_replicate,List.size_toArray];omega
 have done: ∀ {E':Env} {s':St} {ψ':Ps} {tmps:Array Value} {w':World},lK C E' fn.results.toList (λds=>(au ds:M af)) s'=some out->gO C ψ s w ψ' s' w'->Bl ψ' E' tmps fn.results.toList->
   ∃v,(results fn tmps).run C.P w'= .ok v w'/\∃ds,out.1= .val ds/\∃ψ',gO C ψ s w ψ' out.2 w'/\um C ψ' ds v:=by
  intro E' s' ψ' tmps w' h' cp hp;have⟨ji,gx,hk,hr,cm⟩:=Lo cp.dD hp h';simp only[au,eO]at hk;refine⟨_,ZkT cm,ji,by rw[<-hk],ψ',?_,?_⟩
  .rw[<-hk];exact cp
  .by_cases h1:gx.length=1
   .rw[dif_pos h1]
    cases hr with
    |nil=>cases h1
    |cons d v ds vs a b=>
     cases b with
     |nil=>exact .inl ⟨d,rfl,a⟩
     |cons _ _ _ _ _ _=>simp at h1
   .rw[dif_neg h1]
    exact .inr ⟨by rw[hr.len];exact h1,_,rfl,hr⟩
 have QY: ∀ {ψ':Ps} {E':Env} {tmps:Array Value},(∀t,eV C ψ' (E'.get t) (tmps.getD t Go.undef))->Bl ψ' E' tmps fn.results.toList:=by
  intro ψ' E' tmps hr a t _ i o he;have:=hr a;rw[he]at this;have this:VR C ψ' (.ptr (some (i,o))) (tmps.getD a Go.undef):=this;generalize tmps.getD a Go.undef=v at this;cases this with
  |ptr _ _ cb e=>exact⟨cb,e,rfl⟩
 rw[M7,LJ];refine Lm hF.cfg hc hF.Fw (f:=f) (aW _) _ _ _ k1 lkh lkf _ s h ψ _ w _ R ?_ ?_ ?_
 ·
  intro E1 s1 fT a1 w1 h1 R1;have⟨hnx,hu,cs,o,s2,Gl,hm,F4,hh⟩:=half E1 s1 h1;show Code.wp C.P _ _ a1 w1;have Oc: ∀v,fT (.inr v)=none:=λv=>R1.pj v (by rw[hnx];exact eB _)
  have e1:j4 fT=fT:=by
   funext x;cases x with
   |inl i=>rfl
   |inr v=>exact(Oc v).symm
  have MD:=R1.tc;rw[e1]at MD;have FV: ∀h ab,CR E1 s1 h ab->CS s1 h ab:=by
   intro h ab c;cases h with
   |inl i=>exact⟨i,rfl,c⟩
   |inr v=>
    rcases c with⟨t,n,cs,e,_⟩|⟨t,l,p,e,_⟩
    .have:=R1.fh.lt t v (by rw[e];rfl);omega
    .have:=R1.fh.lt t v (by rw[e];rfl);omega
  have hN2:s2.length<=out.2.length:=by
   rcases hh with⟨_,hf⟩|⟨_,x,s3,_,u2,hf⟩
   .rw[yP E1 s2 out hf];exact aW _
   .rw[yP E1 s3 out hf];exact u2
  have RN:ba C fT cs (fO.map a1.eval):=AO (o:=⟨some td,.makeFunc (.func g') #[] fO.toArray,t1,p1,a1',none⟩) (D:=λ_=>True) R1.pre (λx hx=>by simp[Op.operands];exact hx) Gl;refine wp_region (Zrr (o:=⟨some td,.makeFunc (.func g') #[] fO.toArray,t1,p1,a1',none⟩) (x:= .func (.func g') #[] (fO.toArray.map a1.eval)) rfl rfl (by simp[execOp,Instr.makeFunc]) ?_);have VZ:a1.tmps.size=fn.ntmps:=R1.j6.1;have Nb:(a1.put (some td) (.func (.func g') #[] (fO.toArray.map a1.eval))).eval (.tmp td)= .func (.func g') #[] (fO.toArray.map a1.eval):=by
   rw[Act.put,Act.eval,mM,G7 AC];rfl
  refine ZpO (o:=⟨none,.defer ⟨.value (.tmp td), #[],aT⟩,t2,p2,a2',none⟩) (d:= { target:= .fn (.func g') (fO.toArray.map a1.eval),args:= #[] }) rfl rfl ?_ ?_
  .simp only[execOp,resolve,Nb,Deferred.ofValue]
   simp
  show nL C.P ((kV code).drop (k+1)) _ _ w1
  let d:Deferred:= { target:= .fn (.func g') (fO.toArray.map a1.eval),args:= #[] }
  let a2:Act:= { tmps:=a1.tmps.setIfInBounds td (.func (.func g') #[] (fO.toArray.map a1.eval)),defers:=[d] }
  have tp:({ (a1.put (some td) (.func (.func g') #[] (fO.toArray.map a1.eval)))with defers:=d::(a1.put (some td) (.func (.func g') #[] (fO.toArray.map a1.eval))).defers } :Act).put none Go.undef=a2:=by
   have:a1.defers=[]:=R1.defs;simp only[Act.put,this,a2]
  show nL C.P ((kV code).drop (k+1)) _ (({ (a1.put (some td) (.func (.func g') #[] (fO.toArray.map a1.eval)))with defers:=d::(a1.put (some td) (.func (.func g') #[] (fO.toArray.map a1.eval))).defers } :Act).put none Go.undef) w1;rw[tp];have QK: ∀t,t≠td->a2.tmps.getD t Go.undef=a1.tmps.getD t Go.undef:=by
   intro t ht;simp only[a2];rw[mM,mM,Array.getElem?_setIfInBounds_ne (Ne.symm ht)]
  let f2:Fr:=⟨s2.length,fn.ntmps,fT,s1,w1,λt=>nC fn.ntmps t&&qC fn.results.toList t,λx h=>by rw[aZ]at h;have h:=h.1;unfold nC at h;rw[lP]at h;exact h,λt=>a2.tmps.getD t Go.undef,[d]⟩
  have R2:Rel C f2 fT E1 s1 a2 w1:=by
   refine⟨R1.dD,R1.fh,R1.eS,R1.iK,λt=>?_,⟨?_,λ_ _=>rfl⟩,rfl,λi h1 h2=>R1.nK i h1 (lR h2 hN2),R1.pj,(Ext.refl fT (CS s1) w1).weaken λ_ _ _ _ c=>FV _ _ c,λi cb e=> .inl e,aW _,Oc⟩
   .by_cases ht:t=td
    .subst ht;rw[hu];trivial
    .rw[QK t ht];exact R1.gW t
   .show(a1.tmps.setIfInBounds _ _).size=fn.ntmps
    simp[VZ]
  have hinv:(invoke (.fn (.func g') (fO.toArray.map a1.eval)) #[]).run C.P=λw=> .ok (.enter g' (fO.map a1.eval).toArray) w:=by
   funext w';have qu: ¬et.name= "runtime.NumGoroutine" :=by simpa using U9
   have:(#[]:Array Value)++fO.toArray.map a1.eval=(fO.map a1.eval).toArray:=Do
   show(callFunc g' (#[]++fO.toArray.map a1.eval)).run C.P w'=_;rw[this];simp[callFunc,wE,qu,tz]
  have V9: ∀ {a':Act},Ks f2 a'->∀b u,ResultVar.cell b u∈fn.results.toList->a'.tmps.getD b Go.undef=a1.tmps.getD b Go.undef:=by
   intro a' hk b u hm;have gT:f2.ok b=false:=by
    show(nC fn.ntmps b&&qC fn.results.toList b)=false;rw[ZnB Cc hm,zW]
   rw[hk.2 b gT];exact QK b (Zpo k6 b u hm)
  have Wl:=QY R1.gW;have QX: ∀ {ψ':Ps} {a':Act},Ks f2 a'->(∀h cb,fT h=some cb->ψ' h=some cb)->Bl ψ' E1 a'.tmps fn.results.toList:=by
   intro ψ' a' hk Vh b u hm i o he;have⟨cb,h1,h2⟩:=Wl b u hm i o he;exact⟨cb,Vh _ _ h1,by rw[V9 hk b u hm];exact h2⟩
  have FE: ∀ {E':Env} {s':St} {ψ':Ps} {a':Act} {w':World},(au []:M af) s'=some (o,s2)->Rel C f2 ψ' E' s' a' w'->Leaves C.P fn a'.tmps (λe w'=>match e,w' with
    | .returned v,w'=>∃ds,out.1= .val ds/\∃ψ',gO C ψ s w ψ' out.2 w'/\um C ψ' ds v
    | .panicked ch,w'=>kK ch/\out.1= .dM/\∃ψ',gO C ψ s w ψ' out.2 w'
    | .outgrown,_=>False) a'.defers .returning w':=by
   intro E' s' ψ' a' w' h' R';simp only[au,eO,xF]at h';have⟨ho,mu⟩:=h';have ho:o= .val []:=ho.symm;have mu:s'=s2:=mu;subst mu;have M9:a'.defers=[d]:=R'.defs;rw[M9];refine leaves_cons Do (by rw[hinv]) ?_;refine(Zo4 (vs:=(fO.map a1.eval).toArray) wE tz wB k9).mono ?_;rintro e u' qK ⟨rfl,rfl,rfl⟩;have qc:=R'.tc;rcases hh with⟨_,hf⟩|⟨hp,_⟩
   .exact done hf (MD.trans R1.len F4 qc) (QX R'.j6 qc.ext.mono)
   .rw[ho]at hp;cases hp
  refine Lm hF.cfg hc hF.Fw (f:=f2) (r:=(o,s2)) (aW _) _ _ _ k2 (uH _) (uH _) E1 s1 hm fT a2 w1 _ R2 ?_ ?_ ?_
  .intro E' s' ψ' a' w' h' R';exact FE h' R'
  .intro E' s' ψ' a' w' h' R';exact FE h' R'
  .intro ch a' w' s' e hv hp
   cases e;rcases hh with⟨⟨x,hx⟩,_⟩|⟨_,x,s3,B1,u2,hf⟩
   .cases hx
   have⟨ij,qc⟩:=hp.post;have M9:a'.defers=[d]:=hp.defs;show Leaves C.P fn a'.tmps _ a'.defers (.panicking ch) w';rw[M9];refine leaves_cons Do (by rw[hinv]) ?_;have zx:out.2=s3:=yP E1 s3 out hf;refine(Zp1 hF hc (ψ:=ij) (s:=s2) (w:=w') (vs:=fO.map a1.eval) wE tz wB k9 k3 (by simpa using Of) Oe B1 qc.dD (qc.ext.eS R1.eS) (qc.ext.iK R1.iK) (RN.mono (ψ:=fT) (ψ':=ij) λ_ _ e=>qc.ext.mono _ _ e) (λv=>?_) (λi h1 h2=>?_) hv).mono ?_
   .cases qy:ij (.inr v)with
    |none=>rfl
    |some cb=>
     rcases qc.news _ _ qy with e|⟨i,e,_⟩
     .have:=Oc v
      rw[show f2.fS=fT from rfl,this]at e;cases e
     .cases e
   .cases qy:ij (.inl i)with
    |none=>rfl
    |some cb=>
     rcases qc.news _ _ qy with e|⟨j,e,_,hj⟩
     .have:=R1.nK i (fF F4 h1) (by rw[<-zx]at h2;exact h2)
      rw[show f2.fS=fT from rfl,this]at e;cases e
     .cases e;omega
   .rintro e u' qK ⟨rfl,bN,Db,cp3⟩
    show Leaves C.P fn a'.tmps _ [] (settle u') qK;rw[bN];have RP:=(MD.trans R1.len F4 qc).trans (fF R1.len F4) u2 cp3;exact done hf RP (QX hp.ks λ_ _ e=>cp3.ext.mono _ _ (qc.ext.mono _ _ e))
 ·
  intro E' s' ψ' a' w' h' R';show Leaves C.P fn a'.tmps _ a'.defers .returning w';rw[show a'.defers=[]from R'.defs];refine done h' R'.tc λb u hm i o he=>?_
  have⟨cb,h1,h2⟩:=QY R'.gW b u hm i o he;exact⟨cb,h1,h2⟩
 .intro ch a' w' s' e hv hp
  show Leaves C.P fn a'.tmps _ a'.defers (.panicking ch) w';rw[show a'.defers=[]from hp.defs];have⟨ψ',ee⟩:=hp.post;exact⟨hv,by rw[e],ψ',by rw[e];exact ee⟩
theorem Zji {fn:Func} {w:World} {R:Ending->World->Prop} (hfn:P.funcs[f]? =some fn) (mq:(fn.name== "runtime.NumGoroutine")=false) (hb:fn.body.isSome=true)
  (h:Calls P f vs w R):sR P f vs w R:=by
 have qu: ¬fn.name= "runtime.NumGoroutine" :=by simpa using mq
 have e:(callFunc f vs).run P w= .ok (.enter f vs) w:=by
  cases dH:fn.body with
  |none=>rw[dH]at hb;cases hb
  |some c=>simp[callFunc,hfn,qu,dH]
 grind[sR]
end Go.Gv
