/- slices.SortFunc at entries: our body, joined to the kit's contract. -/
import Derived.Test.YtegglibipjjblaaGreatDoorGvZRun
import Derived.Test.YtegglibipjjblaaGreatDoorGvZBod
import Derived.Test.YtegglibipjjblaaGreatDoorGvZPf
import Derived.Shelf.SlSortCmp.WholeK
import Derived.Shelf.SlSortCmp.NoneTotal
set_option linter.all false
namespace Go.Gv
open Go.Sort
def ZwV (P:Program) (g:Nat) (cf:E4->E4->Int) (w0:World):Prop:=
 ∀(x y:E4) (W:World),w0.heap.size<=W.heap.size->Calls P g #[.agg #[.int .i64 x.1,.int .i64 x.2.1,.int .i64 x.2.2.1,.int .i64 x.2.2.2],.agg #[.int .i64 y.1,.int .i64 y.2.1,.int .i64 y.2.2.1,.int .i64 y.2.2.2]] W λe W'=>e= .returned (.int .i64 (cf x y))/\∃q V1,W'=grow (W.drewN q) V1
variable {cf:E4->E4->Int} {f fc:FuncId} {N:Nat} {W W' w:World} {c c':Zg} {C:bx}
theorem ZwR (hs:W.heap.size<=W'.heap.size) (hk: ∀b,b<W.heap.size->W'.heap[b]? =W.heap[b]?) (ht:W'.tape=W.tape) (ho:W'.os=W.os) (hu:tz W W'): ∃q V1,W'=grow (W.drewN q) V1:=by
 refine⟨W'.drawn-W.drawn,W'.heap.extract W.heap.size W'.heap.size,?_⟩;have hd:W.drawn+(W'.drawn-W.drawn)=W'.drawn:=by have:=hu.2;omega
 have hh:W'.heap=W.heap++W'.heap.extract W.heap.size W'.heap.size:=by
  grind
 obtain⟨heap,tape,drawn,os,output⟩:=W';simp only at hd hh ht ho;have yL:=hu.1;simp only at yL;simp only[grow,World.drewN,hd,<-hh];subst ht ho yL;rfl
theorem Zwf (hc:ZR C c) (vn:C.cov fc=true) (hfn:C.fn fc=159) {fn:Func} (hf:C.P.funcs[fc]? =some fn) (qg:(fn.name== "runtime.NumGoroutine")=false) (hb:fn.body.isSome=true) (hN: ∀g,C.An g=true->C.gl g<N) (dJ: ∀x y,∃s',c 159 [.agg (q9 x),.agg (q9 y)] (List.replicate N none)=some (.val [.int .i64 (cf x y)],s')) {ψ:Ps} (hg:Glob C ψ) (ix:qM ψ w):ZwV C.P fc cf w:=by
 intro x y W hW;obtain⟨s',hr⟩:=dJ x y
 let ψ':Ps:=λh=>match h with
  | .inl i=>if i<N then ψ (.inl i)else none
  | .inr _=>none
 have no: ∀i ab,¬c8 (List.replicate N none) i=some ab:=by
  grind[c8]
 have hs:eX C ψ' (CS (List.replicate N none)) W:=⟨λh cb ab _ ⟨i,_,q⟩=>absurd q (no i ab),λh cb ab h' fR cN _ ⟨i,_,q⟩=>absurd q (no i ab)⟩;have ads:qM ψ' W:=by
  intro h cb e;cases h with
  |inl i=>
   simp only[ψ']at e;split at e
   .exact lj (ix _ cb e) hW
   .cases e
  |inr v=>cases e
 have AE:Glob C ψ':=λg e=>by
  obtain⟨cb,e1,e2⟩:=hg g e;grind
 have hv:bB C ψ' [.agg (q9 x),.agg (q9 y)] [.agg #[.int .i64 x.1,.int .i64 x.2.1,.int .i64 x.2.2.1,.int .i64 x.2.2.2],.agg #[.int .i64 y.1,.int .i64 y.2.1,.int .i64 y.2.2.1,.int .i64 y.2.2.2]]:=by
  refine .cons _ _ _ _ (.agg _ _ ?_ rfl) (.cons _ _ _ _ (.agg _ _ ?_ rfl) .nil)
  .exact .cons _ _ _ _ (.int _ _) (.cons _ _ _ _ (.int _ _) (.cons _ _ _ _ (.int _ _) (.cons _ _ _ _ (.int _ _) .nil)))
  .exact .cons _ _ _ _ (.int _ _) (.cons _ _ _ _ (.int _ _) (.cons _ _ _ _ (.int _ _) (.cons _ _ _ _ (.int _ _) .nil)))
 have ok:=(hc 159 _ _ _ hr).2 fc vn hfn ψ' W _ hs ads AE hv (λ_=>rfl) (λi h1 _=>by
  grind)
 have vy: ¬fn.name= "runtime.NumGoroutine" :=by simpa using qg
 have e: ∀vs,(callFunc fc vs).run C.P W= .ok (.enter fc vs) W:=by
  intro vs;cases ec:fn.body with
  |none=>rw[ec]at hb;cases hb
  |some c=>simp[callFunc,hf,vy,ec]
 unfold xY at ok;rw[e]at ok;refine Calls.mono ok λen W' he=>?_
 cases en with
 |returned v=>
  obtain⟨ds,e1,jN,cp,rv⟩:=he;cases e1;refine⟨?_,ZwR cp.ext.size (λb hb=>cp.ext.jy b hb λ⟨h,cb,ab,_,⟨i,_,q⟩,_⟩=>no i ab q) cp.ext.tape cp.ext.os cp.ext.output⟩;rcases rv with⟨d,h1,h2⟩|⟨h1,_⟩
  .cases h1
   cases h2;rfl
  .exact absurd rfl h1
 |panicked ch=>grind
 |outgrown=>exact he.elim
def rf (x:E4):List Value:=[.int .i64 x.1,.int .i64 x.2.1,.int .i64 x.2.2.1,.int .i64 x.2.2.2]
theorem ZnD: ∀(l:List E4) (j:Nat),(lQ l)[j]? =match l[j/4]? with
  |some x=>(q9 x)[j%4]?
  |none=>none
 |[],j=>by simp[lQ]
 |x::r,j=>by
  rw[lQ];by_cases h:j<4
  .rw[oz (by exact h),show j/4=0 by omega,show j%4=j by omega]
   rfl
  .rw[mb (by show 4<=j;omega),show(q9 x).length=4 from rfl,ZnD r (j-4),show j/4=(j-4)/4+1 by omega,pE,show(j-4)%4=j%4 by omega]
theorem RK (l:List E4) (j:Nat) (d:DV) (hd:(lQ l)[j]? =some d): ∃n,d= .int .i64 n/\(flatK rf 4 l.toArray)[j]! = .int .i64 n:=by
 have hj:j<l.length*4:=by
  have:=(eK.1 hd).1;rwa [DW]at this
 rw[ZnD]at hd;rw[get_flatK rf 4 l.toArray j (by simpa using hj)];have hx:l[j/4]? =some l[j/4]:=by simp
 rw[hx]at hd;simp only at hd;have e:l.toArray[j/4]! =l[j/4]:=by
  rw[getElem!_pos l.toArray (j/4) (by simp;omega)];simp
 rw[e];generalize l[j/4]=x at hd⊢;have h4:j%4<4:=Nat.mod_lt _ (by decide);generalize j%4=m at hd h4⊢;rcases m with _|_|_|_|m
 .cases hd;exact⟨_,rfl,rfl⟩
 .cases hd;exact⟨_,rfl,rfl⟩
 .cases hd;exact⟨_,rfl,rfl⟩
 .cases hd;exact⟨_,rfl,rfl⟩
 .omega
theorem Zry (off:Nat) (F c:Array Value) (h:off+F.size<=c.size):putCells id off F c=pw c off F.toList:=by
 apply Array.ext_getElem?;intro k;rw[KW _ _ _ _ (by simpa using h),putCells,Array.getElem?_mapIdx,nI];by_cases hk:off<=k/\k<off+F.size
 .rw[bG hk,Array.getElem?_eq_getElem (show k<c.size by omega),kb]
  grind
 grind
theorem afU (h: ∀x y,decide (cf x y<0)=fm x y):SWO (Go.Proofs.ltOf cf):=by
 have e:Go.Proofs.ltOf cf=fm:=by
  funext x y;exact h x y
 rw[e];have irr: ∀x,fm x x=false:=λx=>by
  cases e:fm x x with
  |false=>rfl
  |true=>have:=QR e;rw[e]at this;cases this
 exact⟨irr,λ_ _ _=>Rg,λ_ _ _=>Ztw⟩
theorem ZsP {ρ:Go.Shelf.Ren} (L:Go.Proofs.SlLaysF0.n6 C.P ρ) (aE: ∀w,(isAgg (ρ.t 24)).run C.P w= .ok true w) (zE: ∀w,(Go.sizeOf (ρ.t 24)).run C.P w= .ok 4 w) (hf:ρ.f 6=f) {fn:Func} (hfn:C.P.funcs[f]? =some fn) (qg:(fn.name== "runtime.NumGoroutine")=false) (hb:fn.body.isSome=true) (hc':ZR C c') (vn:C.cov fc=true) (L8:C.fn fc=159) (adS: ∀k,C.cov k=true->C.fn k=159->k=fc) {Ht:Func} (XA:C.P.funcs[fc]? =some Ht) (Xu:(Ht.name== "runtime.NumGoroutine")=false) (iE:Ht.body.isSome=true) (hN: ∀g,C.An g=true->C.gl g<N)
  (dJ: ∀x y,∃z s',c' 159 [.agg (q9 x),.agg (q9 y)] (List.replicate N none)=some (.val [.int .i64 z],s')/\decide (z<0)=fm x y):tl C GX f:=by
 subst hf;obtain⟨cf,ub⟩: ∃cf:E4->E4->Int,∀x y,(∃s',c' 159 [.agg (q9 x),.agg (q9 y)] (List.replicate N none)=some (.val [.int .i64 (cf x y)],s'))/\decide (cf x y<0)=fm x y:=
  ⟨λx y=>Classical.choose (dJ x y),by grind⟩
 have adx: ¬Ht.name= "runtime.NumGoroutine" :=by simpa using Xu
 have eg: ∀args w,(callFunc fc args).run C.P w= .ok (.enter fc args) w:=by
  intro args w;cases ec:Ht.body with
  |none=>rw[ec]at iE;cases iE
  |some c=>simp[callFunc,XA,adx,ec]
 intro c n args s out _ h;unfold GX at h;split at h
 case h_2=>cases h
 rename_i a len;cases a with
 |none=>
  simp only at h;obtain⟨hn,h⟩:=Zp h;have hn:=dy hn;subst hn;cases h;refine⟨aO _,λψ w vs hs ix _ hv _ _=>?_⟩;cases hv with
  |cons _ _ _ _ a b=>
   cases b with
   |cons _ _ _ _ a2 b2=>
    cases b2;cases a with
    |rV=>
     refine ZkN hfn qg hb ((Go.Proofs.AnyF.slices_SortFunc_none L none 0 _ w).mono ?_);rintro e w' ⟨rfl,rfl⟩;exact⟨_,rfl,ψ,⟨hs,Ext.refl _ _ _,λh cb e=> .inl e⟩,.inr ⟨by simp,_,rfl,.nil⟩⟩
 |some p=>
  obtain⟨i,o⟩:=p;simp only at h;cases eC:s.hY i with
  |none=>rw[eC]at h;cases h
  |some cs=>
  rw[eC]at h;simp only at h;cases hlen:Nat.ble (o+len*4) cs.length with
  |false=>rw[hlen]at h;cases h
  |true=>
  rw[hlen]at h;simp only[ae]at h;have hlen:=pH hlen;cases hl:yl ((cs.drop o).take (len*4))with
  |none=>rw[hl]at h;cases h
  |some l=>
  rw[hl]at h;simp only at h;cases hg:B2 l&&Nat.ble len 1000000 with
  |false=>rw[hg]at h;cases h
  |true=>
  rw[hg]at h;simp only[ae]at h;rw[aW]at hg;have w4:=RD hg.1;have hmx:=pH hg.2;have Ul:=ZpP hl;have gS:l.length=len:=by
   have:=congrArg List.length Ul;rw[DW,cV,fb]at this;omega
  cases h;obtain⟨cc,ax⟩:=Rm eC;refine⟨by simp,λψ w vs hs ix Cr hv _ _=>?_⟩;cases hv with
  |cons _ _ _ _ a b=>
  cases b with
  |cons _ _ _ _ a2 b2=>
  cases b2;cases a with
  |slice _ _ _ _ cb ad cap e1 e2 e3=>
  generalize L9:DV.func 159 [] []=fd at a2;cases a2 with
  |func k _ _ vf vc hk h1 h2=>
  have hkk:C.fn k=159/\vf= #[]/\vc= #[]:=by
   injection L9 with g1 g2 g3
   subst g2 g3;refine⟨g1.symm,?_,?_⟩
   .cases hx:vf.toList with
    |nil=>grind
    |cons _ _=>rw[hx]at h1;cases h1
   .cases hx:vc.toList with
    |nil=>grind
    |cons _ _=>rw[hx]at h2;cases h2
  obtain⟨jG,rfl,rfl⟩:=hkk;have hkf:=adS k hk jG;subst hkf;have hh:=hs.holds (.inl i) cb _ e1 ⟨i,rfl,cc⟩;refine ZkN hfn qg hb ?_;by_cases h0:len=0
  .have:l=[]:=by grind
   subst this;subst h0;refine(Go.Proofs.AnyF.slices_SortFunc_none L (some ad) cap _ w).mono ?_;rintro e w' ⟨rfl,rfl⟩;have es:s.set i (some ⟨false,cq cs o (lQ (jM []))⟩)=s:=by
    have e0:cq cs o (lQ (jM []))=cs:=Ztk cs o;rw[e0];have hsi:s[i]? =some (some ⟨false,cs⟩):=by
     unfold St.hY at eC;grind
    obtain⟨hi,he⟩:=eK.1 hsi;rw[<-he,List.set_getElem_self]
   rw[es];exact⟨_,rfl,ψ,⟨hs,Ext.refl _ _ _,λh cb e=> .inl e⟩,.inr ⟨by simp,_,rfl,.nil⟩⟩
  obtain⟨rfl,Xr⟩:=e3 (by omega);obtain⟨c0,ty,fr,hblk,agE,vq⟩:=hh.2.2.2 rfl;have yK: ∀j d,(lQ l)[j]? =some d->cs[o+j]? =some d/\j<len*4:=by
   grind
  have hH:HoldsK rf 4 w cb.b (cb.o+o) l.toArray:=by
   intro j hj;rw[size_flatK]at hj;have hj:j<l.length*4:=by simpa using hj
   obtain⟨dd,hd⟩: ∃d,(lQ l)[j]? =some d:=⟨_,cg (by rw[DW];exact hj)⟩;obtain⟨n,Cz,vx⟩:=RK l j _ hd;obtain⟨g1,g2⟩:=yK j _ hd;refine⟨?_,?_⟩
   .obtain⟨v,hv,hr⟩:=hh.2.2.1 _ _ g1
    rw[Cz]at hr;cases hr;rw[<-tj]at hv;rw[hv];grind
   .have:=vq (o+j) (by have:len*4<=cap*4:=Dn 4 e2;omega)
    simp only[World.frozen?,hblk];rw[<-tj]at this;exact this
  have LX:Go.Proofs.CmpLays C.P k #[] rf 4 cf cb.b (cb.o+o) l.toArray.size w:=by
   intro m os dk _ x y;have yq:=Zwf hc' hk L8 XA Xu iE hN (cf:=cf) (λx y=>(ub x y).1) Cr ix;exact yq x y _ (by unfold Go.Proofs.sortWorldK;rw[size_grow,size_putRowK];show w.heap.size<=w.heap.size+_;omega)
  have con:=Go.Proofs.AnyQ.slices_SortFunc L 4 aE zE rf (λ_=>rfl) (λx v hv=>by
   simp only[rf,dW,th,oB]at hv;rcases hv with rfl|rfl|rfl|rfl<;>rfl) cf (afU λx y=>(ub x y).2) k #[] cb.b (cb.o+o) cap l.toArray w eg LX hH (ix _ _ e1) (by simp;omega)
  rw[show l.toArray.size=len by simpa using gS]at con;refine con.mono ?_;rintro e w' ⟨rfl,d',n',os,aey,ae1,rfl⟩;have oe:d'=(jM l).toArray:=by
   obtain⟨cw,_,U8⟩:=aey;have Yh:d'.size=len:=by rw[cw];simpa using gS
   rw[<-Yh,Array.extract_size]at U8;rw[show d'.size=l.toArray.size by rw[cw],Array.extract_size]at U8;have:d'.toList=jM l:=by
    refine ZnQ U8 w4 (Nv.2 λa b ha hb fL=>?_);have:=ae1 a b (cE _) fL (by simpa [Yh]using hb);have e:Go.Proofs.ltOf cf d'[b]! d'[a]! =fm d'[b]! d'[a]! :=(ub _ _).2;rw[e,getElem!_pos d' b (by simpa using hb),getElem!_pos d' a (by simpa using ha)]at this;simpa using this
   rw[<-this]
  subst oe;have nv:bB C ψ (lQ (jM l)) (flatK rf 4 (jM l).toArray).toList:=by
   have ew:(flatK rf 4 (jM l).toArray).toList.length=(jM l).length*4:=by rw[nI,size_flatK,List.size_toArray]
   refine bB.of _ _ (by rw[DW];exact ew.symm) λj d v h1 h2=>?_
   obtain⟨n,Cz,vx⟩:=RK _ j d h1;rw[kb]at h2;rw[getElem!_def,h2]at vx;simp only at vx;rw[Cz,vx];exact .int _ _
  have Mv:(lQ (jM l)).all one=true:=by
   rw[uF];intro d hd;obtain⟨j,hj⟩:=Dg hd;obtain⟨n,Cz,_⟩:=RK _ j d hj;rw[Cz];rfl
  have ew:(flatK rf 4 (jM l).toArray).size=len*4:=by rw[size_flatK,List.size_toArray,QX,gS]
  obtain⟨w1,Yb,db,hh1⟩:=Kv (P:=C.P) (p:=o) hh nv Mv (by rw[DW,QX,gS];exact hlen);have aeS:=OE C.P cb.b (cb.o+o) ty fr (flatK rf 4 (jM l).toArray).toList 0 w c0 hblk (nv.YE Mv) (by rw[nI,ew];omega) (by grind);rw[aeS]at Yb;injection Yb with _ cD
  subst cD;have XT:gL (lf w cb.b (.cells (pw c0 (cb.o+o+0) (flatK rf 4 (jM l).toArray).toList) ty fr)) (Go.Proofs.sortWorldK rf 4 w cb.b (cb.o+o) n' (jM l).toArray os):=by
   refine⟨λb hb=>?_,?_,rfl,rfl,rfl,Nat.le_add_right _ _⟩
   .rw[Na]at hb
    show((w.heap.modify cb.b (onCells (putCells id (cb.o+o) (flatK rf 4 (jM l).toArray))))++os)[b]? =(w.heap.setIfInBounds cb.b _)[b]?;rw[Ns (by simpa using hb),Array.getElem?_modify];by_cases e:cb.b=b
    .subst e
     rw[bG rfl,hblk,Nt hb,me];show some (Obj.cells (putCells id (cb.o+o) (flatK rf 4 (jM l).toArray) c0) ty fr)=_;rw[Zry _ _ _ (by rw[ew];omega)];rfl
    grind
   .rw[Na]
    show w.heap.size<=((w.heap.modify cb.b _)++os).size;rw[Array.size_append,Array.size_modify];omega
  have oV: ∀h ab fR,ψ h=some fR->CS (s.set i (some ⟨false,cq cs o (lQ (jM l))⟩)) h ab->xK (CS s) (.inl i) (.cells false (cq cs o (lQ (jM l)))) h ab:=by
   rintro h ab fR _ ⟨j,rfl,q⟩;by_cases e:j=i
   .subst e
    rw[ZkG ax]at q;cases q;exact .inl ⟨rfl,rfl⟩
   .rw[JU (λe'=>e e'.symm)]at q
    exact .inr ⟨by simpa using e,j,rfl,q⟩
  refine⟨_,rfl,ψ,⟨?_,?_,λh cb e=> .inl e⟩,.inr ⟨by simp,_,rfl,.nil⟩⟩
  .exact((eX.set hs e1 ⟨i,rfl,cc⟩ rfl db.other hh1).more (λh cb e=>by rw[Na];exact ix h cb e) XT).weaken oV
  .exact((Ext.set e1 ⟨i,rfl,cc⟩ rfl db.other db.size db.tape db.os db.output).trans (Ext.more XT)).weaken oV
  |_=>cases L9
theorem ZxX {cov sub:al} (vn:C.cov=has cov) {l:List (Nat×Body)} (hk:l.map (·.1)=sub.map C.fn) (hs:(sub.all λg=>has cov g&&cov.all λf=> !Nat.beq (C.fn f) (C.fn g)||Nat.beq f g)=true) (hB: ∀f∈sub,tl C (bdOf l (C.fn f)) f): ∀n,ZR C (run (bdOf l) n):=by
 have key: ∀g b,AX l g=some b->∃f∈sub,C.fn f=g:=by
  intro g b hb;have:=Sd hb;rw[hk]at this;grind
 rw[uF]at hs;refine K6 (λf hf=>?_) λg hg c n args s=>?_
 .cases hb:AX l (C.fn f)with
  |none=>
   intro c n args s out _ h;grind[bdOf]
  |some b=>
   obtain⟨f',Ay,e⟩:=key _ b hb;have h1:=hs f' Ay;rw[aW,uF]at h1;have h2:=h1.2 f ((G9 cov f).1 (by rw[<-vn];exact hf));rw[<-e,Dl]at h2;have:f=f':=dy (by simpa using h2);grind
 .unfold bdOf
  cases hb:AX l g with
  |none=>rfl
  |some b=>
   obtain⟨f',Ay,e⟩:=key _ b hb;have h1:=hs f' Ay;rw[aW]at h1;simp_all
theorem Zxy {Bd:Zh} (h:Dz Bd) (s:St) (x y:E4): ∃z s',run Bd 100 159 [.agg (q9 x),.agg (q9 y)] s=some (.val [.int .i64 z],s')/\decide (z<0)=fm x y:=by
 obtain⟨_,e,z,s',rfl,_,hz⟩:=F.Xd h 100 (by omega) ⟨x.1,x.2.1,x.2.2.1,x.2.2.2⟩ ⟨y.1,y.2.1,y.2.2.1,y.2.2.2⟩ s;refine⟨z,s',e,?_⟩;grind[F.eY,fm]
end Go.Gv
