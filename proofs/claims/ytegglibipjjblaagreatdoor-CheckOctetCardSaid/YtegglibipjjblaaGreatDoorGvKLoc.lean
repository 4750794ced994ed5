/- A walk looks at what it takes alone, and what it takes is right. -/
import Derived.Test.YtegglibipjjblaaGreatDoorGvZKa
set_option linter.all false
namespace Go.Gv.F
open Go.Gv
set_option maxHeartbeats 4000000
variable {K K':bu} {v v1 v2:aI} {A E:Prop}
structure Loc (K K':bu) (v v1:aI) (E:Prop):Prop where
 len:v1.W.length=v.W.length
 mono: ∀b,cD v.W b=true->cD v1.W b=true
 right: ∀b,cD v1.W b=true->cD v.W b=true\/ZA (Zv K.img b)≠ .none
 same:(∀b,cD v1.W b=true->Zv K'.img b=Zv K.img b)->E
theorem Loc.refl (h:E) (e:v1.W=v.W):Loc K K' v v1 E:=⟨by rw[e],λb h=>by rw[e];exact h,λb h=> .inl (by rw[<-e];exact h),λ_=>h⟩
theorem Loc.comp (h:Loc K K' v v1 A) (g:Loc K K' v1 v2 E):Loc K K' v v2 (A/\E):=
 ⟨g.len.trans h.len,λb hb=>g.mono b (h.mono b hb),λb hb=>(g.right b hb).elim (λhb=>h.right b hb) .inr,λH=>⟨h.same λb hb=>H b (g.mono b hb),g.same H⟩⟩
theorem Loc.imp (h:Loc K K' v v1 A) (f:A->E):Loc K K' v v1 E:=⟨h.len,h.mono,h.right,λH=>f (h.same H)⟩
theorem Loc.eqW (h:Loc K K' v v1 A) (e:v2.W=v1.W):Loc K K' v v2 A:=⟨by rw[e];exact h.len,λb hb=>by rw[e];exact h.mono b hb,λb hb=>h.right b (by rw[<-e];exact hb),λH=>h.same λb hb=>H b (by rw[e];exact hb)⟩
theorem Loc.ofW {u:aI} (h:Loc K K' v1 v2 A) (e:v1.W=u.W):Loc K K' u v2 A:=⟨by rw[<-e];exact h.len,λb hb=>h.mono b (by rw[e];exact hb),λb hb=>by rw[<-e];exact h.right b hb,h.same⟩
variable {k slot:Int}
theorem Gn {x:xa} (hm:K'.m=K.m) (hl:v.W.length=(K.m+63)/64) (h:dC K k v=some (x,v1)) (hx:x≠ .none):Loc K K' v v1 (dC K' k v=some (x,v1)):=by
 unfold dC at h⊢;rw[hm];cases hf:fK K.m v.W k
 .rw[hf]at h;cases h
 .rw[hf,ae]at h;cases h;have fA:=λb=>oz (n:=K.m) (a:=k) (b:=b) hl
  unfold fK at hf;refine⟨np _ _ _,λb hb=>?_,λb hb=>?_,λH=>?_⟩
  .rw[fA,hb,Bool.true_or]
  .rw[fA]at hb
   grind
  .have hk:cD (bA K.m v.W k) k.toNat=true:=by rw[fA];grind
   rw[ae,H _ hk]
theorem ZwK {x:aX} (h:mO K k x v=some v1):v1.W=v.W:=by
 unfold mO at h;cases h1:decide (k>=K.sup.used)<;>rw[h1]at h
 .cases h2:nk K.sup x<;>rw[h2]at h
  .cases h
  .cases h;rfl
 .cases h2:oA x<;>rw[h2]at h
  .cases h
  .cases h;rfl
theorem Zum: ∀ {l:List aX} {k:Int} {v v1:aI},jY K k l v=some v1->v1.W=v.W
 |[],_,_,_,h=>by cases h;rfl
 |x::r,k,v,v1,h=>by
  unfold jY at h;split at h
  .cases h
  .rename_i v' hs
   exact(Zum h).trans (ZwK hs)
theorem ZtP (hs:K'.sup=K.sup): ∀(l:List aX) (k:Int) (v:aI),jY K' k l v=jY K k l v
 |[],_,_=>rfl
 |x::r,k,v=>by
  unfold jY;rw[show mO K' k x v=mO K k x v by unfold mO;rw[hs]];split
  .rfl
  .exact ZtP hs _ _ _
theorem ZwW (hm:K'.m=K.m) (hs:K'.sup=K.sup) (hl:v.W.length=(K.m+63)/64) (h:kG K k slot v=some v1):Loc K K' v v1 (kG K' k slot v=some v1):=by
 unfold kG at h;split at h
 .rename_i x v' ht
  refine((Gn (K':=K') hm hl ht (λe=>nomatch e)).eqW (Zum h)).imp λe=>?_
  unfold kG;rw[e];exact(ZtP hs _ _ _).trans h
 .cases h
theorem UZ {cnt x5:Int} (hm:K'.m=K.m) (hs:K'.sup=K.sup): ∀ {l:ak} {k:Int} {v v1:aI},v.W.length=(K.m+63)/64->jl K cnt x5 k l v=some v1->Loc K K' v v1 (jl K' cnt x5 k l v=some v1)
 |[],_,_,_,_,h=>by cases h;exact .refl rfl rfl
 |y::r,k,v,v1,hl,h=>by
  unfold jl at h⊢;cases h1:((!(y==0))==decide (x5*16+k<cnt))
  .rw[h1]at h;cases h
  .rw[h1,ae]at h;rw[ae];cases h2: !(y==0)
   .rw[h2,af]at h;rw[af];exact UZ hm hs hl h
   .rw[h2,ae]at h;rw[ae];split at h
    .cases h
    .rename_i v' ht
     have a:=ZwW (K':=K') hm hs hl ht;refine(a.comp (UZ hm hs (a.len.trans hl) h)).imp λe=>?_
     rw[e.1];exact e.2
theorem Ug {cnt:Int} (hm:K'.m=K.m) (hs:K'.sup=K.sup): ∀ {l:ak} {k:Int} {v v1:aI},v.W.length=(K.m+63)/64->lC K cnt k l v=some v1->Loc K K' v v1 (lC K' cnt k l v=some v1)
 |[],_,_,_,_,h=>by cases h;exact .refl rfl rfl
 |y::r,k,v,v1,hl,h=>by
  unfold lC at h⊢;cases h1:((!(y==0))==decide (k*16<cnt))
  .rw[h1]at h;cases h
  .rw[h1,ae]at h;rw[ae];cases h2:y==0
   .rw[h2,af]at h;rw[af];split at h
    .rename_i x v' ht
     split at h
     .cases h
     .rename_i v'' hf
      have a:=Gn (K':=K') hm hl ht (λe=>nomatch e);have b:=UZ (K':=K') hm hs (a.len.trans hl) hf;have c:=Ug hm hs (b.len.trans (a.len.trans hl)) h;refine((a.comp b).comp c).imp λe=>?_
      rw[e.1.1];simp only;rw[e.1.2];exact e.2
    .cases h
   .rw[h2,ae]at h;rw[ae];exact Ug hm hs hl h
theorem Zv1 (hm:K'.m=K.m) (hs:K'.sup=K.sup) (hl:v.W.length=(K.m+63)/64) (h:lD K v=some v1):Loc K K' v v1 (lD K' v=some v1):=by
 unfold lD at h⊢;rw[hs];cases h1:K.sup.used==0
 .rw[h1,af]at h;rw[af];split at h
  .rename_i x v' ht
   have a:=Gn (K':=K') hm hl ht (λe=>nomatch e);refine(a.comp (Ug (K':=K') hm hs (a.len.trans hl) h)).imp λe=>?_
   rw[e.1];exact e.2
  .cases h
 .rw[h1]at h;cases h;exact .refl rfl rfl
theorem Zsw (hs:K'.sup=K.sup): ∀(f:Nat) (fl:List Bool) (n:Int) (v:aI),jZ K' f fl n v=jZ K f fl n v
 |0,_,_,_=>rfl
 |f+1,fl,n,v=>by
  unfold jZ;rw[hs];have:=Zsw hs f;split
  .rfl
  .rw[this]
theorem ZsH (hs:K'.sup=K.sup): ∀(l:List aX) (fl:List Bool),nj K' fl l=nj K fl l
 |[],_=>rfl
 |x::r,fl=>by
  unfold nj;rw[ZsH hs r,show vV K' (fl.getD 0 false) x=vV K (fl.getD 0 false) x by unfold vV;rw[hs]]
theorem Zs0: ∀ {f:Nat} {fl mh:List Bool} {n:Int} {v v1:aI},jZ K f fl n v=some (mh,v1)->v1.W=v.W
 |0,_,_,_,_,_,h=>by cases h
 |f+1,fl,mh,n,v,v1,h=>by
  unfold jZ at h;cases h1:n==0
  .rw[h1,af]at h;cases h2:decide (n<=K.sup.used)
   .rw[h2]at h;cases h
   .rw[h2,ae]at h;split at h
    .cases h
    .rename_i x hx
     cases h3:(bif (bif !x.live then decide (x.gen<K.sup.g)else false)then !fl.getD (n-1).toNat false else false)
     .rw[h3]at h;cases h
     .rw[h3,ae]at h;exact Zs0 (v:= { v with free:=v.free++[n-1] }) h
  .rw[h1]at h;cases h;rfl
theorem ZxW (hs:K'.sup=K.sup) (h:oa K v=some v1):Loc K K' v v1 (oa K' v=some v1):=by
 refine .refl ?_ ?_
 .unfold oa at h⊢
  rw[hs,Zsw hs];unfold xm at h⊢;split at h
  .cases h
  .rw[ZsH hs]
   exact h
 .unfold oa xm at h
  split at h
  .cases h
  .rename_i fl w hg
   cases h1:nj K fl w.ay
   .rw[h1]at h;cases h
   .rw[h1]at h;cases h;exact Zs0 hg
theorem Zps (hm:K'.m=K.m) (hs:K'.sup=K.sup): ∀ {f:Nat} {out o:List aP} {l:List l8} {v v1:aI},v.W.length=(K.m+63)/64->ZT K f out l v=some (o,v1)->Loc K K' v v1 (ZT K' f out l v=some (o,v1))
 |0,_,_,_,_,_,_,h=>by cases h
 |_+1,_,_,[],_,_,_,h=>by cases h;exact .refl rfl rfl
 |f+1,out,o,t::r,v,v1,hl,h=>by
  unfold ZT at h⊢;split at h
  .rename_i x v' ht
   have a:=Gn (K':=K') hm hl ht (λe=>nomatch e);cases h1:qj K v' t x with
   |false=>rw[h1]at h;cases h
   |true=>
    rw[h1,ae]at h;have b:=Zps hm hs (v:= { v' with nodes:=v'.nodes+1 }) (a.len.trans hl) h;refine(a.comp (b.ofW (u:=v') rfl)).imp λe=>?_
    rw[e.1];simp only;rw[show qj K' v' t x=true by rw[<-h1];unfold qj;rw[hs],ae];exact e.2
  .cases h
theorem TY (hm:K'.m=K.m) (hs:K'.sup=K.sup): ∀ {l:ak} {k:Int} {acc o:List aP} {v v1:aI},v.W.length=(K.m+63)/64->Z2 K k l acc v=some (o,v1)->Loc K K' v v1 (Z2 K' k l acc v=some (o,v1))
 |[],_,_,_,_,_,_,h=>by cases h;exact .refl rfl rfl
 |y::r,k,acc,o,v,v1,hl,h=>by
  unfold Z2 at h⊢;cases h1: !(y==0)
  .rw[h1,af]at h;rw[af];exact TY hm hs hl h
  .rw[h1,ae]at h;rw[ae];split at h
   .cases h
   .rename_i out v' ht
    unfold oY at ht;have a:=Zps (K':=K') hm hs hl ht;refine(a.comp (TY hm hs (a.len.trans hl) h)).imp λe=>?_
    unfold oY;rw[hm,e.1];exact e.2
theorem Zq0 (hm:K'.m=K.m) (hs:K'.sup=K.sup): ∀ {l:ak} {k:Nat} {v v1:aI},v.W.length=(K.m+63)/64->oD K k l v=some v1->Loc K K' v v1 (oD K' k l v=some v1)
 |[],_,_,_,_,h=>by cases h;exact .refl rfl rfl
 |y::r,k,v,v1,hl,h=>by
  unfold oD at h⊢;split at h
  .rename_i q w ht
   have a:=Gn (K':=K') hm hl ht (λe=>nomatch e);cases h1:v8 w k q.name with
   |false=>rw[h1]at h;cases h
   |true=>
    rw[h1,ae]at h;split at h
    .cases h
    .rename_i es w2 hh
     have b:=TY (K':=K') hm hs (a.len.trans hl) hh;have c:=Zq0 hm hs (v:= { w2 with aD:=w2.aD++[⟨q.name,kK es⟩] }) (b.len.trans (a.len.trans hl)) h;refine((a.comp b).comp (c.ofW (u:=w2) rfl)).imp λe=>?_
     rw[e.1.1];simp only;rw[h1,ae,e.1.2];exact e.2
  .cases h
theorem Vq (hm:K'.m=K.m) (hs:K'.sup=K.sup) (h:om K=some v1):Loc K K' (lj K.m) v1 (om K'=some v1):=by
 have hl:(lj K.m).W.length=(K.m+63)/64:=by
  show(gD K.m [0,1]).length=_;unfold gD;rw[(ZG _ _ _).1,pw]
 unfold om at h⊢;split at h
 .cases h
 .rename_i w1 h1
  split at h
  .cases h
  .rename_i w2 h2
   split at h
   .cases h
   .rename_i w3 h3
    have a:=Zv1 (K':=K') hm hs hl h1;have b:=ZxW (K':=K') hs h2;have lM:=b.len.trans (a.len.trans hl);have c:Loc K K' w2 w3 (nS K' w2=some w3):=by
     unfold nS at h3⊢;rw[hs];cases hd:K.sup.dir==0
     .rw[hd,af]at h3;rw[af];split at h3
      .rename_i x w ht
       have a:=Gn (K':=K') hm lM ht (λe=>nomatch e);refine(a.comp (Zq0 (K':=K') hm hs (a.len.trans lM) h3)).imp λe=>?_
       rw[e.1];exact e.2
      .cases h3
     .rw[hd]at h3;cases h3;exact .refl rfl rfl
    cases h4:decide ((vB w3:Int)=w3.nodes)
    .rw[h4]at h;cases h
    .rw[h4,ae]at h;cases h;refine(((a.comp b).comp c).eqW (v2:=sR w3) rfl).imp λe=>?_
     rw[hm,e.1.1];simp only;rw[e.1.2];simp only;rw[e.2];simp only;rw[h4,ae]
