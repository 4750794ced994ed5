/- slices.SortFunc at entries: our body, joined to the kit's contract. -/
import Derived.Test.YtegglibipjjblaaGreatDoorGvZPf
import Derived.Shelf.SlSortCmp.WholeK
import Derived.Shelf.SlSortCmp.NoneTotal
set_option linter.all false
namespace Go.Gv
open Go.Sort
def ZyT (P:Program) (g:Nat) (cf:E4->E4->Int) (w0:World):Prop:=
 ∀(x y:E4) (W:World),w0.heap.size<=W.heap.size->Calls P g #[.agg #[.int .i64 x.1,.int .i64 x.2.1,.int .i64 x.2.2.1,.int .i64 x.2.2.2],.agg #[.int .i64 y.1,.int .i64 y.2.1,.int .i64 y.2.2.1,.int .i64 y.2.2.2]] W λe W'=>e= .returned (.int .i64 (cf x y))/\∃q YX,W'=grow (W.drewN q) YX
variable {cf:E4->E4->Int} {f fc:FuncId} {N:Nat} {W W' w:World} {c c':Zf} {C:bC}
theorem ZzN (hs:W.heap.size<=W'.heap.size) (hk: ∀b,b<W.heap.size->W'.heap[b]? =W.heap[b]?) (ht:W'.tape=W.tape) (ho:W'.os=W.os) (hu:uH W W'): ∃q YX,W'=grow (W.drewN q) YX:=by
 refine⟨W'.drawn-W.drawn,W'.heap.extract W.heap.size W'.heap.size,?_⟩;have hd:W.drawn+(W'.drawn-W.drawn)=W'.drawn:=by have:=hu.2;omega
 have hh:W'.heap=W.heap++W'.heap.extract W.heap.size W'.heap.size:=by
  grind
 have⟨heap,tape,drawn,os,output⟩:=W';simp only at hd hh ht ho;have vD:=hu.1;simp only at vD;rw[grow,World.drewN,hd,<-hh];subst ht ho vD;rfl
theorem ZxR (hc:ZT C c) (wJ:C.cov fc=true) (hfn:C.fn fc=159) {fn:Func} (hf:C.P.funcs[fc]? =some fn) (rp:(fn.name== "runtime.NumGoroutine")=false) (hb:fn.body.isSome=true) (hN: ∀g,C.Cd g=true->C.gl g<N) (dV: ∀x y,∃s',c 159 [.agg (sy x),.agg (sy y)] (List.replicate N none)=some (.val [.int .i64 (cf x y)],s')) {ψ:Ps} (hg:Glob C ψ) (jl:rV ψ w):ZyT C.P fc cf w:=by
 intro x y W hW;have⟨s',hr⟩:=dV x y
 let ψ':Ps:=λh=>match h with
  | .inl i=>if i<N then ψ (.inl i)else none
  | .inr _=>none
 have no: ∀i ab,¬dx (List.replicate N none) i=some ab:=by
  grind[dx]
 have hs:ft C ψ' (CS (List.replicate N none)) W:=⟨λh cb ab _ ⟨i,_,q⟩=>absurd q (no i ab),λh cb ab h' gm cZ _ ⟨i,_,q⟩=>absurd q (no i ab)⟩;have ag5:rV ψ' W:=by
  intro h cb e;cases h with
  |inl i=>
   simp only[ψ']at e;split at e
   .exact mI (jl _ cb e) hW
   .cases e
  |inr v=>cases e
 have oo:Glob C ψ':=λg e=>by
  have⟨cb,e1,e2⟩:=hg g e;grind
 have hv:bG C ψ' [.agg (sy x),.agg (sy y)] [.agg #[.int .i64 x.1,.int .i64 x.2.1,.int .i64 x.2.2.1,.int .i64 x.2.2.2],.agg #[.int .i64 y.1,.int .i64 y.2.1,.int .i64 y.2.2.1,.int .i64 y.2.2.2]]:=by
  refine .cons _ _ _ _ (.agg _ _ ?_ rfl) (.cons _ _ _ _ (.agg _ _ ?_ rfl) .nil)
  .exact .cons _ _ _ _ (.int _ _) (.cons _ _ _ _ (.int _ _) (.cons _ _ _ _ (.int _ _) (.cons _ _ _ _ (.int _ _) .nil)))
  .exact .cons _ _ _ _ (.int _ _) (.cons _ _ _ _ (.int _ _) (.cons _ _ _ _ (.int _ _) (.cons _ _ _ _ (.int _ _) .nil)))
 have ok:=(hc 159 _ _ _ hr).2 fc wJ hfn ψ' W _ hs ag5 oo hv (λ_=>rfl) (λi h1 _=>by
  grind)
 have wP: ¬fn.name= "runtime.NumGoroutine" :=by simpa using rp
 have e: ∀vs,(callFunc fc vs).run C.P W= .ok (.enter fc vs) W:=by
  intro vs;cases dR:fn.body with
  |none=>rw[dR]at hb;cases hb
  |some c=>simp[callFunc,hf,wP,dR]
 unfold zW at ok;rw[e]at ok;refine Calls.mono ok λen W' he=>?_
 cases en with
 |returned v=>
  have⟨ds,e1,ky,cp,rv⟩:=he;cases e1;refine⟨?_,ZzN cp.ext.size (λb hb=>cp.ext.j6 b hb λ⟨h,cb,ab,_,⟨i,_,q⟩,_⟩=>no i ab q) cp.ext.tape cp.ext.os cp.ext.output⟩;rcases rv with⟨d,h1,h2⟩|⟨h1,_⟩
  .cases h1
   cases h2;rfl
  .exact absurd rfl h1
 |panicked ch=>grind
 |outgrown=>exact he.elim
def sC (x:E4):List Value:=[.int .i64 x.1,.int .i64 x.2.1,.int .i64 x.2.2.1,.int .i64 x.2.2.2]
theorem Zpy: ∀(l:List E4) (j:Nat),(mO l)[j]? =match l[j/4]? with
  |some x=>(sy x)[j%4]?
  |none=>none
 |[],j=>by simp[mO]
 |x::r,j=>by
  rw[mO];by_cases h:j<4
  .rw[mH (by exact h),show j/4=0 by omega,show j%4=j by omega]
   rfl
  .rw[kX (by show 4<=j;omega),show(sy x).length=4 from rfl,Zpy r (j-4),show j/4=(j-4)/4+1 by omega,qw,show(j-4)%4=j%4 by omega]
theorem Vh (l:List E4) (j:Nat) (d:DV) (hd:(mO l)[j]? =some d): ∃n,d= .int .i64 n/\(flatK sC 4 l.toArray)[j]! = .int .i64 n:=by
 have hj:j<l.length*4:=by
  have:=(ef.1 hd).1;rwa [FH]at this
 rw[Zpy]at hd;rw[get_flatK sC 4 l.toArray j (by simpa using hj)];have hx:l[j/4]? =some l[j/4]:=by simp
 rw[hx]at hd;simp only at hd;have e:l.toArray[j/4]! =l[j/4]:=by
  rw[getElem!_pos l.toArray (j/4) (by simp;omega)];simp
 rw[e];generalize l[j/4]=x at hd⊢;have h4:j%4<4:=Nat.mod_lt _ (by decide);generalize j%4=m at hd h4⊢;rcases m with _|_|_|_|m
 .cases hd;exact⟨_,rfl,rfl⟩
 .cases hd;exact⟨_,rfl,rfl⟩
 .cases hd;exact⟨_,rfl,rfl⟩
 .cases hd;exact⟨_,rfl,rfl⟩
 .omega
theorem ZtI (off:Nat) (F c:Array Value) (h:off+F.size<=c.size):putCells id off F c=qh c off F.toList:=by
 apply Array.ext_getElem?;intro k;rw[Nc _ _ _ _ (by simpa using h),putCells,Array.getElem?_mapIdx,oE];by_cases hk:off<=k/\k<off+F.size
 .rw[bE hk,Array.getElem?_eq_getElem (show k<c.size by omega),kV]
  grind
 grind
theorem ajE (h: ∀x y,decide (cf x y<0)=fL x y):SWO (Go.Proofs.ltOf cf):=by
 have e:Go.Proofs.ltOf cf=fL:=by
  funext x y;exact h x y
 rw[e];have irr: ∀x,fL x x=false:=λx=>by
  cases e:fL x x with
  |false=>rfl
  |true=>have:=T1 e;rw[e]at this;cases this
 exact⟨irr,λ_ _ _=>UD,λ_ _ _=>ZvF⟩
theorem Zun {ρ:Go.Shelf.Ren} (L:Go.Proofs.SlLaysF0.n6 C.P ρ) (aE: ∀w,(isAgg (ρ.t 24)).run C.P w= .ok true w) (zE: ∀w,(Go.sizeOf (ρ.t 24)).run C.P w= .ok 4 w) (hf:ρ.f 6=f) {fn:Func} (hfn:C.P.funcs[f]? =some fn) (rp:(fn.name== "runtime.NumGoroutine")=false) (hb:fn.body.isSome=true) (hc':ZT C c') (wJ:C.cov fc=true) (Om:C.fn fc=159) (ahy: ∀k,C.cov k=true->C.fn k=159->k=fc) {Js:Func} (abC:C.P.funcs[fc]? =some Js) (abw:(Js.name== "runtime.NumGoroutine")=false) (ja:Js.body.isSome=true) (hN: ∀g,C.Cd g=true->C.gl g<N)
  (dV: ∀x y,∃z s',c' 159 [.agg (sy x),.agg (sy y)] (List.replicate N none)=some (.val [.int .i64 z],s')/\decide (z<0)=fL x y):uB C IC f:=by
 subst hf;have⟨cf,yr⟩: ∃cf:E4->E4->Int,∀x y,(∃s',c' 159 [.agg (sy x),.agg (sy y)] (List.replicate N none)=some (.val [.int .i64 (cf x y)],s'))/\decide (cf x y<0)=fL x y:=
  ⟨λx y=>Classical.choose (dV x y),by grind⟩
 have aha: ¬Js.name= "runtime.NumGoroutine" :=by simpa using abw
 have eg: ∀args w,(callFunc fc args).run C.P w= .ok (.enter fc args) w:=by
  intro args w;cases dR:Js.body with
  |none=>rw[dR]at ja;cases ja
  |some c=>simp[callFunc,abC,aha,dR]
 intro c n args s out _ h;unfold IC at h;split at h
 case h_2=>cases h
 rename_i a len;cases a with
 |none=>
  simp only at h;have⟨hn,h⟩:=Zs h;have hn:=dL hn;subst hn;cases h;refine⟨aO _,λψ w vs hs jl _ hv _ _=>?_⟩;cases hv with
  |cons _ _ _ _ a b=>
   cases b with
   |cons _ _ _ _ a2 b2=>
    cases b2;cases a with
    |tc=>
     refine ZlH hfn rp hb ((Go.Proofs.AnyF.slices_SortFunc_none L none 0 _ w).mono ?_);rintro e w' ⟨rfl,rfl⟩;exact⟨_,rfl,ψ,⟨hs,Ext.refl _ _ _,λh cb e=> .inl e⟩,.inr ⟨by simp,_,rfl,.nil⟩⟩
 |some p=>
  have⟨i,o⟩:=p;simp only at h;cases eC:s.ik i with
  |none=>rw[eC]at h;cases h
  |some cs=>
  rw[eC]at h;simp only at h;cases hlen:Nat.ble (o+len*4) cs.length with
  |false=>rw[hlen]at h;cases h
  |true=>
  rw[hlen]at h;simp only[ae]at h;have hlen:=qA hlen;cases hl:Aj ((cs.drop o).take (len*4))with
  |none=>rw[hl]at h;cases h
  |some l=>
  rw[hl]at h;simp only at h;cases hg:DP l&&Nat.ble len 1000000 with
  |false=>rw[hg]at h;cases h
  |true=>
  rw[hg]at h;simp only[ae]at h;rw[aY]at hg;have yl:=UM hg.1;have hmx:=qA hg.2;have Xh:=Zrn hl;have gp:l.length=len:=by
   have:=congrArg List.length Xh;rw[FH,cX,fa]at this;omega
  cases h;have⟨cg,aw⟩:=UU eC;refine⟨by simp,λψ w vs hs jl Eg hv _ _=>?_⟩;cases hv with
  |cons _ _ _ _ a b=>
  cases b with
  |cons _ _ _ _ a2 b2=>
  cases b2;cases a with
  |slice _ _ _ _ cb ad cap e1 e2 e3=>
  generalize Ee:DV.func 159 [] []=fd at a2;cases a2 with
  |func k _ _ vf vc hk h1 h2=>
  have hkk:C.fn k=159/\vf= #[]/\vc= #[]:=by
   injection Ee with g1 g2 g3
   subst g2 g3;refine⟨g1.symm,?_,?_⟩
   .cases hx:vf.toList with
    |nil=>grind
    |cons _ _=>rw[hx]at h1;cases h1
   .cases hx:vc.toList with
    |nil=>grind
    |cons _ _=>rw[hx]at h2;cases h2
  obtain⟨kh,rfl,rfl⟩:=hkk;have hkf:=ahy k hk kh;subst hkf;have hh:=hs.holds (.inl i) cb _ e1 ⟨i,rfl,cg⟩;refine ZlH hfn rp hb ?_;by_cases h0:len=0
  .have:l=[]:=by grind
   subst this;subst h0;refine(Go.Proofs.AnyF.slices_SortFunc_none L (some ad) cap _ w).mono ?_;rintro e w' ⟨rfl,rfl⟩;have es:s.set i (some ⟨false,cE cs o (mO (jC []))⟩)=s:=by
    have e0:cE cs o (mO (jC []))=cs:=Zuz cs o;rw[e0];have hsi:s[i]? =some (some ⟨false,cs⟩):=by
     unfold St.ik at eC;grind
    have⟨hi,he⟩:=ef.1 hsi;rw[<-he,List.set_getElem_self]
   rw[es];exact⟨_,rfl,ψ,⟨hs,Ext.refl _ _ _,λh cb e=> .inl e⟩,.inr ⟨by simp,_,rfl,.nil⟩⟩
  obtain⟨rfl,abt⟩:=e3 (by omega);have⟨c0,ty,fr,hblk,aki,vp⟩:=hh.2.2.2 rfl;have wU: ∀j d,(mO l)[j]? =some d->cs[o+j]? =some d/\j<len*4:=by
   grind
  have hH:HoldsK sC 4 w cb.b (cb.o+o) l.toArray:=by
   intro j hj;rw[size_flatK]at hj;have hj:j<l.length*4:=by simpa using hj
   have⟨dd,hd⟩: ∃d,(mO l)[j]? =some d:=⟨_,cq (by rw[FH];exact hj)⟩;have⟨n,En,wO⟩:=Vh l j _ hd;have⟨g1,g2⟩:=wU j _ hd;refine⟨?_,?_⟩
   .have⟨v,hv,hr⟩:=hh.2.2.1 _ _ g1
    rw[En]at hr;cases hr;rw[<-uy]at hv;rw[hv];grind
   .have:=vp (o+j) (by have:len*4<=cap*4:=Fh 4 e2;omega)
    rw[World.frozen?,hblk];rw[<-uy]at this;exact this
  have Oh:Go.Proofs.CmpLays C.P k #[] sC 4 cf cb.b (cb.o+o) l.toArray.size w:=by
   intro m os dk _ x y;have An:=ZxR hc' hk Om abC abw ja hN (cf:=cf) (λx y=>(yr x y).1) Eg jl;exact An x y _ (by unfold Go.Proofs.sortWorldK;rw[size_grow,size_putRowK];show w.heap.size<=w.heap.size+_;omega)
  have con:=Go.Proofs.AnyQ.slices_SortFunc L 4 aE zE sC (λ_=>rfl) (λx v hv=>by
   simp only[sC,eF,tl,oH]at hv;rcases hv with rfl|rfl|rfl|rfl<;>rfl) cf (ajE λx y=>(yr x y).2) k #[] cb.b (cb.o+o) cap l.toArray w eg Oh hH (jl _ _ e1) (by simp;omega)
  rw[show l.toArray.size=len by simpa using gp]at con;refine con.mono ?_;rintro e w' ⟨rfl,d',n',os,OR,aiK,rfl⟩;have kK:d'=(jC l).toArray:=by
   have⟨cF,_,X5⟩:=OR;have acg:d'.size=len:=by rw[cF];simpa using gp
   rw[<-acg,Array.extract_size]at X5;rw[show d'.size=l.toArray.size by rw[cF],Array.extract_size]at X5;have:d'.toList=jC l:=by
    refine Zpa X5 yl (Lt.2 λa b ha hb fV=>?_);have:=aiK a b (cz _) fV (by simpa [acg]using hb);have e:Go.Proofs.ltOf cf d'[b]! d'[a]! =fL d'[b]! d'[a]! :=(yr _ _).2;rw[e,getElem!_pos d' b (by simpa using hb),getElem!_pos d' a (by simpa using ha)]at this;simpa using this
   rw[<-this]
  subst kK;have ow:bG C ψ (mO (jC l)) (flatK sC 4 (jC l).toArray).toList:=by
   have ep:(flatK sC 4 (jC l).toArray).toList.length=(jC l).length*4:=by rw[oE,size_flatK,List.size_toArray]
   refine bG.of _ _ (by rw[FH];exact ep.symm) λj d v h1 h2=>?_
   have⟨n,En,wO⟩:=Vh _ j d h1;rw[kV]at h2;rw[getElem!_def,h2]at wO;simp only at wO;rw[En,wO];exact .int _ _
  have OM:(mO (jC l)).all one=true:=by
   rw[vT];intro d hd;have⟨j,hj⟩:=Fa hd;have⟨n,En,_⟩:=Vh _ j d hj;rw[En];rfl
  have ep:(flatK sC 4 (jC l).toArray).size=len*4:=by rw[size_flatK,List.size_toArray,Uc,gp]
  have⟨w1,acb,dh,hh1⟩:=MS (P:=C.P) (p:=o) hh ow OM (by rw[FH,Uc,gp];exact hlen);have aiz:=Ru C.P cb.b (cb.o+o) ty fr (flatK sC 4 (jC l).toArray).toList 0 w c0 hblk (ow.acG OM) (by rw[oE,ep];omega) (by grind);rw[aiz]at acb;injection acb with _ cG
  subst cG;have abU:gW (lU w cb.b (.cells (qh c0 (cb.o+o+0) (flatK sC 4 (jC l).toArray).toList) ty fr)) (Go.Proofs.sortWorldK sC 4 w cb.b (cb.o+o) n' (jC l).toArray os):=by
   refine⟨λb hb=>?_,?_,rfl,rfl,rfl,Nat.le_add_right _ _⟩
   .rw[PF]at hb
    show((w.heap.modify cb.b (onCells (putCells id (cb.o+o) (flatK sC 4 (jC l).toArray))))++os)[b]? =(w.heap.setIfInBounds cb.b _)[b]?;rw[PX (by simpa using hb),Array.getElem?_modify];by_cases e:cb.b=b
    .subst e
     rw[bE rfl,hblk,PY hb,nf];show some (Obj.cells (putCells id (cb.o+o) (flatK sC 4 (jC l).toArray) c0) ty fr)=_;rw[ZtI _ _ _ (by rw[ep];omega)];rfl
    grind
   .rw[PF]
    show w.heap.size<=((w.heap.modify cb.b _)++os).size;rw[Array.size_append,Array.size_modify];omega
  have ot: ∀h ab gm,ψ h=some gm->CS (s.set i (some ⟨false,cE cs o (mO (jC l))⟩)) h ab->y8 (CS s) (.inl i) (.cells false (cE cs o (mO (jC l)))) h ab:=by
   rintro h ab gm _ ⟨j,rfl,q⟩;by_cases e:j=i
   .subst e
    rw[ZlP aw]at q;cases q;exact .inl ⟨rfl,rfl⟩
   .rw[Mf (λe'=>e e'.symm)]at q
    exact .inr ⟨by simpa using e,j,rfl,q⟩
  refine⟨_,rfl,ψ,⟨?_,?_,λh cb e=> .inl e⟩,.inr ⟨by simp,_,rfl,.nil⟩⟩
  .exact((ft.set hs e1 ⟨i,rfl,cg⟩ rfl dh.other hh1).more (λh cb e=>by rw[PF];exact jl h cb e) abU).weaken ot
  .exact((Ext.set e1 ⟨i,rfl,cg⟩ rfl dh.other dh.size dh.tape dh.os dh.output).trans (Ext.more abU)).weaken ot
  |_=>cases Ee
theorem ZAp {cov sub:al} (wJ:C.cov=has cov) {l:List (Nat×Body)} (hk:l.map (·.1)=sub.map C.fn) (hs:(sub.all λg=>has cov g&&cov.all λf=> !Nat.beq (C.fn f) (C.fn g)||Nat.beq f g)=true) (hB: ∀f∈sub,uB C (bdOf l (C.fn f)) f): ∀n,ZT C (run (bdOf l) n):=by
 have key: ∀g b,CJ l g=some b->∃f∈sub,C.fn f=g:=by
  intro g b hb;have:=Vx hb;rw[hk]at this;grind
 rw[vT]at hs;refine ND (λf hf=>?_) λg hg c n args s=>?_
 .cases hb:CJ l (C.fn f)with
  |none=>
   intro c n args s out _ h;grind[bdOf]
  |some b=>
   have⟨f',Cn,e⟩:=key _ b hb;have h1:=hs f' Cn;rw[aY,vT]at h1;have h2:=h1.2 f ((IV cov f).1 (by rw[<-wJ];exact hf));rw[<-e,Fe]at h2;have:f=f':=dL (by simpa using h2);grind
 .unfold bdOf
  cases hb:CJ l g with
  |none=>rfl
  |some b=>
   have⟨f',Cn,e⟩:=key _ b hb;have h1:=hs f' Cn;rw[aY]at h1;simp_all
theorem ZzQ {Bd:Zh} (h:Fs Bd) (s:St) (x y:E4): ∃z s',run Bd 100 159 [.agg (sy x),.agg (sy y)] s=some (.val [.int .i64 z],s')/\decide (z<0)=fL x y:=by
 obtain⟨_,e,z,s',rfl,_,hz⟩:=F.abd h 100 (by omega) ⟨x.1,x.2.1,x.2.2.1,x.2.2.2⟩ ⟨y.1,y.2.1,y.2.2.1,y.2.2.2⟩ s;refine⟨z,s',e,?_⟩;grind[F.fu,fL]
end Go.Gv
