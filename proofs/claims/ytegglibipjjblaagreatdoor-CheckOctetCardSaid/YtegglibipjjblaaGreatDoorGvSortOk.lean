/- slices.SortFunc at entries: our body, joined to the kit's contract. -/
import Derived.Test.YtegglibipjjblaaGreatDoorGvZPf
import Derived.Shelf.SlSortCmp.WholeK
import Derived.Shelf.SlSortCmp.NoneTotal
set_option linter.all false
namespace Go.Gv
open Go.Sort
def ZAX (P:Program) (g:Nat) (cf:E4->E4->Int) (w0:World):Prop:=
 ∀(x y:E4) (W:World),w0.heap.size<=W.heap.size->Calls P g #[.agg #[.int .i64 x.1,.int .i64 x.2.1,.int .i64 x.2.2.1,.int .i64 x.2.2.2],.agg #[.int .i64 y.1,.int .i64 y.2.1,.int .i64 y.2.2.1,.int .i64 y.2.2.2]] W λe W'=>e= .returned (.int .i64 (cf x y))/\∃q os',W'=grow (W.drewN q) os'
variable {cf:E4->E4->Int} {f fc:FuncId} {N:Nat} {W W' w:World} {c c':Zf} {C:bE}
theorem ZAr (hs:W.heap.size<=W'.heap.size) (hk: ∀b,b<W.heap.size->W'.heap[b]? =W.heap[b]?) (ht:W'.tape=W.tape) (ho:W'.os=W.os) (hu:vO W W'): ∃q os',W'=grow (W.drewN q) os':=by
 refine⟨W'.drawn-W.drawn,W'.heap.extract W.heap.size W'.heap.size,?_⟩;have hd:W.drawn+(W'.drawn-W.drawn)=W'.drawn:=by have:=hu.2;omega
 have hh:W'.heap=W.heap++W'.heap.extract W.heap.size W'.heap.size:=by
  grind
 have⟨heap,tape,drawn,os,output⟩:=W';simp only at hd hh ht ho;have zB:=hu.1;simp only at zB;rw[grow,World.drewN,hd,<-hh];subst ht ho zB;rfl
theorem Zy7 (hc:ZW C c) (xG:C.cov fc=true) (hfn:C.fn fc=159) {fn:Func} (hf:C.P.funcs[fc]? =some fn) (sE:(fn.name== "runtime.NumGoroutine")=false) (hb:fn.body.isSome=true) (hN: ∀g,C.CA g=true->C.gl g<N) (ee: ∀x y,∃s',c 159 [.agg (tN x),.agg (tN y)] (List.replicate N none)=some (.val [.int .i64 (cf x y)],s')) {ψ:Ps} (hg:Glob C ψ) (js:tq ψ w):ZAX C.P fc cf w:=by
 intro x y W hW;have⟨s',hr⟩:=ee x y
 let ψ':Ps:=λh=>match h with
  | .inl i=>if i<N then ψ (.inl i)else none
  | .inr _=>none
 have no: ∀i ab,¬dA (List.replicate N none) i=some ab:=by
  grind[dA]
 have hs:fI C ψ' (CS (List.replicate N none)) W:=⟨λh cb ab _ ⟨i,_,q⟩=>absurd q (no i ab),λh cb ab h' gH de _ ⟨i,_,q⟩=>absurd q (no i ab)⟩;have aiw:tq ψ' W:=by
  intro h cb e;cases h with
  |inl i=>
   simp only[ψ']at e;split at e
   .exact mE (js _ cb e) hW
   .cases e
  |inr v=>cases e
 have pR:Glob C ψ':=λg e=>by
  have⟨cb,e1,e2⟩:=hg g e;grind
 have hv:bJ C ψ' [.agg (tN x),.agg (tN y)] [.agg #[.int .i64 x.1,.int .i64 x.2.1,.int .i64 x.2.2.1,.int .i64 x.2.2.2],.agg #[.int .i64 y.1,.int .i64 y.2.1,.int .i64 y.2.2.1,.int .i64 y.2.2.2]]:=by
  refine .cons _ _ _ _ (.agg _ _ ?_ rfl) (.cons _ _ _ _ (.agg _ _ ?_ rfl) .nil)
  .exact .cons _ _ _ _ (.int _ _) (.cons _ _ _ _ (.int _ _) (.cons _ _ _ _ (.int _ _) (.cons _ _ _ _ (.int _ _) .nil)))
  .exact .cons _ _ _ _ (.int _ _) (.cons _ _ _ _ (.int _ _) (.cons _ _ _ _ (.int _ _) (.cons _ _ _ _ (.int _ _) .nil)))
 have ok:=(hc 159 _ _ _ hr).2 fc xG hfn ψ' W _ hs aiw pR hv (λ_=>rfl) (λi h1 _=>by
  grind)
 have xM: ¬fn.name= "runtime.NumGoroutine" :=by simpa using sE
 have e: ∀vs,(callFunc fc vs).run C.P W= .ok (.enter fc vs) W:=by
  intro vs;cases dq:fn.body
  .rw[dq]at hb;cases hb
  .rename_i c;simp[callFunc,hf,xM,dq]
 unfold Au at ok;rw[e]at ok;refine Calls.mono ok λen W' he=>?_
 cases en with
 |returned v=>
  have⟨ds,e1,lr,cp,rv⟩:=he;cases e1;refine⟨?_,ZAr cp.ext.size (λb hb=>cp.ext.kE b hb λ⟨h,cb,ab,_,⟨i,_,q⟩,_⟩=>no i ab q) cp.ext.tape cp.ext.os cp.ext.output⟩;rcases rv with⟨d,h1,h2⟩|⟨h1,_⟩
  .cases h1
   cases h2;rfl
  .exact absurd rfl h1
 |panicked ch=>grind
 |outgrown=>exact he.elim
def tQ (x:E4):List Value:=[.int .i64 x.1,.int .i64 x.2.1,.int .i64 x.2.2.1,.int .i64 x.2.2.2]
theorem Zpo: ∀(l:List E4) (j:Nat),(nR l)[j]? =match l[j/4]? with
  |some x=>(tN x)[j%4]?
  |none=>none
 |[],j=>by simp[nR]
 |x::r,j=>by
  rw[nR];by_cases h:j<4
  .rw[nc (by exact h),show j/4=0 by omega,show j%4=j by omega]
   rfl
  .rw[kO (by show 4<=j;omega),show(tN x).length=4 from rfl,Zpo r (j-4),show j/4=(j-4)/4+1 by omega,rO,show(j-4)%4=j%4 by omega]
theorem VS (l:List E4) (j:Nat) (d:DV) (hd:(nR l)[j]? =some d): ∃n,d= .int .i64 n/\(flatK tQ 4 l.toArray)[j]! = .int .i64 n:=by
 have hj:j<l.length*4:=by
  have:=(eE.1 hd).1;rwa [Ga]at this
 rw[Zpo]at hd;rw[get_flatK tQ 4 l.toArray j (by simpa using hj)];have hx:l[j/4]? =some l[j/4]:=Do
 rw[hx]at hd;simp only at hd;have e:l.toArray[j/4]! =l[j/4]:=by
  rw[getElem!_pos l.toArray (j/4) (by simp;omega)];simp
 rw[e];generalize l[j/4]=x at hd⊢;have h4:j%4<4:=Nat.mod_lt _ EQ;generalize j%4=m at hd h4⊢;rcases m with _|_|_|_|m
 .cases hd;exact⟨_,rfl,rfl⟩
 .cases hd;exact⟨_,rfl,rfl⟩
 .cases hd;exact⟨_,rfl,rfl⟩
 .cases hd;exact⟨_,rfl,rfl⟩
 .omega
theorem Zt2 (off:Nat) (F c:Array Value) (h:off+F.size<=c.size):putCells id off F c=rJ c off F.toList:=by
 apply Array.ext_getElem?;intro k;rw[Oa _ _ _ _ (by simpa using h),putCells,Array.getElem?_mapIdx,qb];by_cases hk:off<=k/\k<off+F.size
 .rw[bx hk,Array.getElem?_eq_getElem (AC:k<c.size),lU]
  grind
 grind
theorem ak5 (h: ∀x y,decide (cf x y<0)=fY x y):SWO (Go.Proofs.ltOf cf):=by
 have e:Go.Proofs.ltOf cf=fY:=by
  funext x y;exact h x y
 rw[e];have irr: ∀x,fY x x=false:=λx=>by
  cases e:fY x x
  .rfl
  .have:=Vh e;rw[e]at this;cases this
 exact⟨irr,λ_ _ _=>Nl,λ_ _ _=>Zwe⟩
theorem ZuZ {ρ:Go.Shelf.Ren} (L:Go.Proofs.SlLaysF0.n6 C.P ρ) (aE: ∀w,(isAgg (ρ.t 24)).run C.P w= .ok true w) (zE: ∀w,(Go.sizeOf (ρ.t 24)).run C.P w= .ok 4 w) (hf:ρ.f 6=f) {fn:Func} (hfn:C.P.funcs[f]? =some fn) (sE:(fn.name== "runtime.NumGoroutine")=false) (hb:fn.body.isSome=true) (hc':ZW C c') (xG:C.cov fc=true) (Pf:C.fn fc=159) (aiZ: ∀k,C.cov k=true->C.fn k=159->k=fc) {JO:Func} (ac6:C.P.funcs[fc]? =some JO) (acX:(JO.name== "runtime.NumGoroutine")=false) (jD:JO.body.isSome=true) (hN: ∀g,C.CA g=true->C.gl g<N)
  (ee: ∀x y,∃z s',c' 159 [.agg (tN x),.agg (tN y)] (List.replicate N none)=some (.val [.int .i64 z],s')/\decide (z<0)=fY x y):vJ C Jc f:=by
 subst hf;have⟨cf,y8⟩: ∃cf:E4->E4->Int,∀x y,(∃s',c' 159 [.agg (tN x),.agg (tN y)] (List.replicate N none)=some (.val [.int .i64 (cf x y)],s'))/\decide (cf x y<0)=fY x y:=
  ⟨λx y=>Classical.choose (ee x y),Fd⟩
 have aiA: ¬JO.name= "runtime.NumGoroutine" :=by simpa using acX
 have eg: ∀args w,(callFunc fc args).run C.P w= .ok (.enter fc args) w:=by
  intro args w;cases dq:JO.body
  .rw[dq]at jD;cases jD
  .rename_i c;simp[callFunc,ac6,aiA,dq]
 intro c n args s out _ h;unfold Jc at h;split at h
 case h_2=>cases h
 rename_i a len;cases a with
 |none=>
  simp only at h;have⟨hn,h⟩:=Zq h;have hn:=dQ hn;subst hn;cases h;refine⟨aJ _,λψ w vs hs js _ hv _ _=>?_⟩;cases hv with
  |cons _ _ _ _ a b=>
   cases b with
   |cons _ _ _ _ a2 b2=>
    cases b2;cases a with
    |uw=>
     refine ZlE hfn sE hb ((Go.Proofs.AnyF.slices_SortFunc_none L none 0 _ w).mono ?_);rintro e w' ⟨rfl,rfl⟩;exact⟨_,rfl,ψ,⟨hs,Ext.refl _ _ _,λh cb e=> .inl e⟩,.inr ⟨Do,_,rfl,.nil⟩⟩
 |some p=>
  have⟨i,o⟩:=p;simp only at h;cases eD:s.iB i with
  |none=>rw[eD]at h;cases h
  |some cs=>
  rw[eD]at h;simp only at h;cases hlen:Nat.ble (o+len*4) cs.length with
  |false=>rw[hlen]at h;cases h
  |true=>
  rw[hlen]at h;simp only[ae]at h;have hlen:=rS hlen;cases hl:AJ ((cs.drop o).take (len*4))with
  |none=>rw[hl]at h;cases h
  |some l=>
  rw[hl]at h;simp only at h;cases hg:Ef l&&Nat.ble len 1000000 with
  |false=>rw[hg]at h;cases h
  |true=>
  rw[hg]at h;simp only[ae]at h;rw[aS]at hg;have yV:=UM hg.1;have hmx:=rS hg.2;have Yr:=ZrL hl;have fV:l.length=len:=by
   have:=congrArg List.length Yr;rw[Ga,cB,dY]at this;omega
  cases h;have⟨cq,av⟩:=UL eD;refine⟨Do,λψ w vs hs js EB hv _ _=>?_⟩;cases hv with
  |cons _ _ _ _ a b=>
  cases b with
  |cons _ _ _ _ a2 b2=>
  cases b2;cases a with
  |slice _ _ _ _ cb ad cap e1 e2 e3=>
  generalize Pg:DV.func 159 [] []=fd at a2;cases a2 with
  |func k _ _ vf vc hk h1 h2=>
  have hkk:C.fn k=159/\vf= #[]/\vc= #[]:=by
   injection Pg with g1 g2 g3
   subst g2 g3;refine⟨g1.symm,?_,?_⟩
   .cases hx:vf.toList with
    |nil=>grind
    |cons _ _=>rw[hx]at h1;cases h1
   .cases hx:vc.toList with
    |nil=>grind
    |cons _ _=>rw[hx]at h2;cases h2
  obtain⟨kW,rfl,rfl⟩:=hkk;have Y0:=aiZ k hk kW;subst Y0;have hh:=hs.holds (.inl i) cb _ e1 ⟨i,rfl,cq⟩;refine ZlE hfn sE hb ?_;by_cases h0:len=0
  .have:l=[]:=Fd
   subst this;subst h0;refine(Go.Proofs.AnyF.slices_SortFunc_none L (some ad) cap _ w).mono ?_;rintro e w' ⟨rfl,rfl⟩;have es:s.set i (some ⟨false,cG cs o (nR (kb []))⟩)=s:=by
    have e0:cG cs o (nR (kb []))=cs:=Zvt cs o;rw[e0];have hsi:s[i]? =some (some ⟨false,cs⟩):=by
     unfold St.iB at eD;grind
    have⟨hi,he⟩:=eE.1 hsi;rw[<-he,List.set_getElem_self]
   rw[es];exact⟨_,rfl,ψ,⟨hs,Ext.refl _ _ _,λh cb e=> .inl e⟩,.inr ⟨Do,_,rfl,.nil⟩⟩
  obtain⟨rfl,acU⟩:=e3 AC;have⟨c0,ty,fr,hblk,alO,ua⟩:=hh.2.2.2 rfl;have vw: ∀j d,(nR l)[j]? =some d->cs[o+j]? =some d/\j<len*4:=by
   grind
  have hH:HoldsK tQ 4 w cb.b (cb.o+o) l.toArray:=by
   intro j hj;rw[size_flatK]at hj;have hj:j<l.length*4:=by simpa using hj
   have⟨dd,hd⟩: ∃d,(nR l)[j]? =some d:=⟨_,cc (by rw[Ga];exact hj)⟩;have⟨n,ub,uc⟩:=VS l j _ hd;have⟨g1,g2⟩:=vw j _ hd;refine⟨?_,?_⟩
   .have⟨v,hv,hr⟩:=hh.2.2.1 _ _ g1
    rw[ub]at hr;cases hr;rw[<-vI]at hv;rw[hv];grind
   .have:=ua (o+j) (by have:len*4<=cap*4:=FI 4 e2;omega)
    rw[World.frozen?,hblk];rw[<-vI]at this;exact this
  have O9:Go.Proofs.CmpLays C.P k #[] tQ 4 cf cb.b (cb.o+o) l.toArray.size w:=by
   intro m os dk _ x y;have AN:=Zy7 hc' hk Pf ac6 acX jD hN (cf:=cf) (λx y=>(y8 x y).1) EB js;exact AN x y _ (by unfold Go.Proofs.sortWorldK;rw[size_grow,size_putRowK];show w.heap.size<=w.heap.size+_;omega)
  have con:=Go.Proofs.AnyQ.slices_SortFunc L 4 aE zE tQ (λ_=>rfl) (λx v hv=>by
   simp only[tQ,ep,tk,pD]at hv;rcases hv with rfl|rfl|rfl|rfl<;>rfl) cf (ak5 λx y=>(y8 x y).2) k #[] cb.b (cb.o+o) cap l.toArray w eg O9 hH (js _ _ e1) (by simp;omega)
  rw[show l.toArray.size=len by simpa using fV]at con;refine con.mono ?_;rintro e w' ⟨rfl,d',n',os,PH,aj9,rfl⟩;have lL:d'=(kb l).toArray:=by
   have⟨cJ,_,hpm⟩:=PH;have adU:d'.size=len:=by rw[cJ];simpa using fV
   rw[<-adU,Array.extract_size,show d'.size=l.toArray.size by rw[cJ],Array.extract_size]at hpm;have:d'.toList=kb l:=by
    refine ZoG hpm yV (HZ.2 λa b ha hb fL=>?_);have:=aj9 a b (cN _) fL (by simpa [adU]using hb);have e:Go.Proofs.ltOf cf d'[b]! d'[a]! =fY d'[b]! d'[a]! :=(y8 _ _).2;rw[e,getElem!_pos d' b (by simpa using hb),getElem!_pos d' a (by simpa using ha)]at this;simpa using this
   rw[<-this]
  subst lL;have pV:bJ C ψ (nR (kb l)) (flatK tQ 4 (kb l).toArray).toList:=by
   have dZ:(flatK tQ 4 (kb l).toArray).toList.length=(kb l).length*4:=by rw[qb,size_flatK,List.size_toArray]
   refine bJ.of _ _ (by rw[Ga];exact dZ.symm) λj d v h1 h2=>?_
   have⟨n,ub,uc⟩:=VS _ j d h1;rw[lU]at h2;rw[getElem!_def,h2]at uc;simp only at uc;rw[ub,uc];exact .int _ _
  have PD:(nR (kb l)).all one=true:=by
   rw[qP];intro d hd;have⟨j,hj⟩:=Fv hd;have⟨n,ub,_⟩:=VS _ j d hj;rw[ub];rfl
  have dZ:(flatK tQ 4 (kb l).toArray).size=len*4:=by rw[size_flatK,List.size_toArray,UK,fV]
  have⟨w1,adO,dy,hh1⟩:=Ni (P:=C.P) (p:=o) hh pV PD (by rw[Ga,UK,fV];exact hlen);have ajX:=RV C.P cb.b (cb.o+o) ty fr (flatK tQ 4 (kb l).toArray).toList 0 w c0 hblk (pV.aei PD) (by rw[qb,dZ];omega) Fd;rw[ajX]at adO;injection adO with _ cL
  subst cL;have adv:iD (mZ w cb.b (.cells (rJ c0 (cb.o+o+0) (flatK tQ 4 (kb l).toArray).toList) ty fr)) (Go.Proofs.sortWorldK tQ 4 w cb.b (cb.o+o) n' (kb l).toArray os):=by
   refine⟨λb hb=>?_,?_,rfl,rfl,rfl,Nat.le_add_right _ _⟩
   .rw[Qp]at hb
    show((w.heap.modify cb.b (onCells (putCells id (cb.o+o) (flatK tQ 4 (kb l).toArray))))++os)[b]? =(w.heap.setIfInBounds cb.b _)[b]?;rw[QB (by simpa using hb),Array.getElem?_modify];by_cases e:cb.b=b
    .subst e
     rw[bx rfl,hblk,QC hb,pC];show some (Obj.cells (putCells id (cb.o+o) (flatK tQ 4 (kb l).toArray) c0) ty fr)=_;rw[Zt2 _ _ _ (by rw[dZ];omega)];rfl
    grind
   .rw[Qp]
    show w.heap.size<=((w.heap.modify cb.b _)++os).size;rw[Array.size_append,Array.size_modify];omega
  have rz: ∀h ab gH,ψ h=some gH->CS (s.set i (some ⟨false,cG cs o (nR (kb l))⟩)) h ab->zV (CS s) (.inl i) (.cells false (cG cs o (nR (kb l)))) h ab:=by
   rintro h ab gH _ ⟨j,rfl,q⟩;by_cases e:j=i
   .subst e
    rw[ZlJ av]at q;cases q;exact .inl ⟨rfl,rfl⟩
   .rw[ML (λe'=>e e'.symm)]at q
    exact .inr ⟨by simpa using e,j,rfl,q⟩
  refine⟨_,rfl,ψ,⟨?_,?_,λh cb e=> .inl e⟩,.inr ⟨Do,_,rfl,.nil⟩⟩
  .exact((fI.set hs e1 ⟨i,rfl,cq⟩ rfl dy.other hh1).more (λh cb e=>by rw[Qp];exact js h cb e) adv).weaken rz
  .exact((Ext.set e1 ⟨i,rfl,cq⟩ rfl dy.other dy.size dy.tape dy.os dy.output).trans (Ext.more adv)).weaken rz
  |_=>cases Pg
theorem ZBg {cov sub:al} (xG:C.cov=has cov) {l:List (Nat×Body)} (hk:l.map (·.1)=sub.map C.fn) (hs:(sub.all λg=>has cov g&&cov.all λf=> !Nat.beq (C.fn f) (C.fn g)||Nat.beq f g)=true) (hB: ∀f∈sub,vJ C (bdOf l (C.fn f)) f): ∀n,ZW C (run (bdOf l) n):=by
 have key: ∀g b,Dh l g=some b->∃f∈sub,C.fn f=g:=by
  intro g b hb;have:=WZ hb;rw[hk]at this;grind
 rw[qP]at hs;refine Ou (λf hf=>?_) λg hg c n args s=>?_
 .cases hb:Dh l (C.fn f)
  .intro c n args s out _ h;grind[bdOf]
  .rename_i b;have⟨f',CO,e⟩:=key _ b hb;have h1:=hs f' CO;rw[aS,qP]at h1;have h2:=h1.2 f ((Jl cov f).1 (by rw[<-xG];exact hf));rw[<-e,FG]at h2;have:f=f':=dQ (by simpa using h2);grind
 .unfold bdOf
  cases hb:Dh l g
  .rfl
  .rename_i b;have⟨f',CO,e⟩:=key _ b hb;have h1:=hs f' CO;rw[aS]at h1;simp_all
theorem ZAH {Bd:Zg} (h:FT Bd) (s:St) (x y:E4): ∃z s',run Bd 100 159 [.agg (tN x),.agg (tN y)] s=some (.val [.int .i64 z],s')/\decide (z<0)=fY x y:=by
 obtain⟨_,e,z,s',rfl,_,hz⟩:=F.acG h 100 AC ⟨x.1,x.2.1,x.2.2.1,x.2.2.2⟩ ⟨y.1,y.2.1,y.2.2.1,y.2.2.2⟩ s;refine⟨z,s',e,?_⟩;grind[F.eX,fY]
