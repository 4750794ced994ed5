/- slices.SortFunc at entries: our body, joined to the kit's contract. -/
import Derived.Test.YtegglibipjjblaaGreatDoorGvZPf
import Derived.Shelf.SlSortCmp.WholeK
import Derived.Shelf.SlSortCmp.NoneTotal
set_option linter.all false
namespace Go.Gv
open Go.Sort
def Zz8 (P:Program) (g:Nat) (cf:E4->E4->Int) (w0:World):Prop:=
 ∀(x y:E4) (W:World),w0.heap.size<=W.heap.size->Calls P g #[.agg #[.int .i64 x.1,.int .i64 x.2.1,.int .i64 x.2.2.1,.int .i64 x.2.2.2],.agg #[.int .i64 y.1,.int .i64 y.2.1,.int .i64 y.2.2.1,.int .i64 y.2.2.2]] W λe W'=>e= .returned (.int .i64 (cf x y))/\∃q os',W'=grow (W.drewN q) os'
variable {cf:E4->E4->Int} {f fc:FuncId} {N:Nat} {W W' w:World} {c c':Zg} {C:bE}
theorem ZAr (hs:W.heap.size<=W'.heap.size) (hk: ∀b,b<W.heap.size->W'.heap[b]? =W.heap[b]?) (ht:W'.tape=W.tape) (ho:W'.os=W.os) (hu:vj W W'): ∃q os',W'=grow (W.drewN q) os':=by
 refine⟨W'.drawn-W.drawn,W'.heap.extract W.heap.size W'.heap.size,?_⟩;have hd:W.drawn+(W'.drawn-W.drawn)=W'.drawn:=by have:=hu.2;omega
 have hh:W'.heap=W.heap++W'.heap.extract W.heap.size W'.heap.size:=by
  grind
 have⟨heap,tape,drawn,os,output⟩:=W';simp only at hd hh ht ho;have wc:=hu.1;simp only at wc;rw[grow,World.drewN,hd,<-hh];subst ht ho wc;rfl
theorem Zzm (hc:ZW C c) (xd:C.cov fc=true) (hfn:C.fn fc=159) {fn:Func} (hf:C.P.funcs[fc]? =some fn) (sa:(fn.name== "runtime.NumGoroutine")=false) (hb:fn.body.isSome=true) (hN: ∀g,C.CM g=true->C.gl g<N) (ec: ∀x y,∃s',c 159 [.agg (tg x),.agg (tg y)] (List.replicate N none)=some (.val [.int .i64 (cf x y)],s')) {ψ:Ps} (hg:Glob C ψ) (hZ:sF ψ w):Zz8 C.P fc cf w:=by
 intro x y W hW;have⟨s',hr⟩:=ec x y
 let ψ':Ps:=λh=>match h with
  | .inl i=>if i<N then ψ (.inl i)else none
  | .inr _=>none
 have no: ∀i ab,¬dD (List.replicate N none) i=some ab:=by
  grind[dD]
 have hs:fC C ψ' (CS (List.replicate N none)) W:=⟨λh cb ab _ ⟨i,_,q⟩=>absurd q (no i ab),λh cb ab h' gC df _ ⟨i,_,q⟩=>absurd q (no i ab)⟩;have ahW:sF ψ' W:=by
  intro h cb e;cases h with
  |inl i=>
   simp only[ψ']at e;split at e
   .exact mo (hZ _ cb e) hW
   .cases e
  |inr v=>cases e
 have oF:Glob C ψ':=λg e=>by
  have⟨cb,e1,e2⟩:=hg g e;grind
 have hv:bH C ψ' [.agg (tg x),.agg (tg y)] [.agg #[.int .i64 x.1,.int .i64 x.2.1,.int .i64 x.2.2.1,.int .i64 x.2.2.2],.agg #[.int .i64 y.1,.int .i64 y.2.1,.int .i64 y.2.2.1,.int .i64 y.2.2.2]]:=by
  refine .cons _ _ _ _ (.agg _ _ ?_ rfl) (.cons _ _ _ _ (.agg _ _ ?_ rfl) .nil)
  .exact .cons _ _ _ _ (.int _ _) (.cons _ _ _ _ (.int _ _) (.cons _ _ _ _ (.int _ _) (.cons _ _ _ _ (.int _ _) .nil)))
  .exact .cons _ _ _ _ (.int _ _) (.cons _ _ _ _ (.int _ _) (.cons _ _ _ _ (.int _ _) (.cons _ _ _ _ (.int _ _) .nil)))
 have ok:=(hc 159 _ _ _ hr).2 fc xd hfn ψ' W _ hs ahW oF hv (λ_=>rfl) (λi h1 _=>by
  grind)
 have xl: ¬fn.name= "runtime.NumGoroutine" :=by simpa using sa
 have e: ∀vs,(callFunc fc vs).run C.P W= .ok (.enter fc vs) W:=by
  intro vs;cases dV:fn.body with
  |none=>rw[dV]at hb;cases hb
  |some c=>simp[callFunc,hf,xl,dV]
 unfold As at ok;rw[e]at ok;refine Calls.mono ok λen W' he=>?_
 cases en with
 |returned v=>
  have⟨ds,e1,kJ,cp,rv⟩:=he;cases e1;refine⟨?_,ZAr cp.ext.size (λb hb=>cp.ext.kl b hb λ⟨h,cb,ab,_,⟨i,_,q⟩,_⟩=>no i ab q) cp.ext.tape cp.ext.os cp.ext.output⟩;rcases rv with⟨d,h1,h2⟩|⟨h1,_⟩
  .cases h1
   cases h2;rfl
  .exact absurd rfl h1
 |panicked ch=>grind
 |outgrown=>exact he.elim
def tk (x:E4):List Value:=[.int .i64 x.1,.int .i64 x.2.1,.int .i64 x.2.2.1,.int .i64 x.2.2.2]
theorem ZoY: ∀(l:List E4) (j:Nat),(nb l)[j]? =match l[j/4]? with
  |some x=>(tg x)[j%4]?
  |none=>none
 |[],j=>by simp[nb]
 |x::r,j=>by
  rw[nb];by_cases h:j<4
  .rw[mn (by exact h),show j/4=0 by omega,show j%4=j by omega]
   rfl
  .rw[kL (by show 4<=j;omega),show(tg x).length=4 from rfl,ZoY r (j-4),show j/4=(j-4)/4+1 by omega,qV,show(j-4)%4=j%4 by omega]
theorem VO (l:List E4) (j:Nat) (d:DV) (hd:(nb l)[j]? =some d): ∃n,d= .int .i64 n/\(flatK tk 4 l.toArray)[j]! = .int .i64 n:=by
 have hj:j<l.length*4:=by
  have:=(eB.1 hd).1;rwa [Gb]at this
 rw[ZoY]at hd;rw[get_flatK tk 4 l.toArray j (by simpa using hj)];have hx:l[j/4]? =some l[j/4]:=Do
 rw[hx]at hd;simp only at hd;have e:l.toArray[j/4]! =l[j/4]:=by
  rw[getElem!_pos l.toArray (j/4) (by simp;omega)];simp
 rw[e];generalize l[j/4]=x at hd⊢;have h4:j%4<4:=Nat.mod_lt _ EQ;generalize j%4=m at hd h4⊢;rcases m with _|_|_|_|m
 .cases hd;exact⟨_,rfl,rfl⟩
 .cases hd;exact⟨_,rfl,rfl⟩
 .cases hd;exact⟨_,rfl,rfl⟩
 .cases hd;exact⟨_,rfl,rfl⟩
 .omega
theorem ZtT (off:Nat) (F c:Array Value) (h:off+F.size<=c.size):putCells id off F c=qN c off F.toList:=by
 apply Array.ext_getElem?;intro k;rw[NS _ _ _ _ (by simpa using h),putCells,Array.getElem?_mapIdx,oU];by_cases hk:off<=k/\k<off+F.size
 .rw[bG hk,Array.getElem?_eq_getElem (AC:k<c.size),lx]
  grind
 grind
theorem aky (h: ∀x y,decide (cf x y<0)=fT x y):SWO (Go.Proofs.ltOf cf):=by
 have e:Go.Proofs.ltOf cf=fT:=by
  funext x y;exact h x y
 rw[e];have irr: ∀x,fT x x=false:=λx=>by
  cases e:fT x x with
  |false=>rfl
  |true=>have:=Vh e;rw[e]at this;cases this
 exact⟨irr,λ_ _ _=>U7,λ_ _ _=>Zvy⟩
theorem ZuL {ρ:Go.Shelf.Ren} (L:Go.Proofs.SlLaysF0.n6 C.P ρ) (aE: ∀w,(isAgg (ρ.t 24)).run C.P w= .ok true w) (zE: ∀w,(Go.sizeOf (ρ.t 24)).run C.P w= .ok 4 w) (hf:ρ.f 6=f) {fn:Func} (hfn:C.P.funcs[f]? =some fn) (sa:(fn.name== "runtime.NumGoroutine")=false) (hb:fn.body.isSome=true) (hc':ZW C c') (xd:C.cov fc=true) (O4:C.fn fc=159) (aiq: ∀k,C.cov k=true->C.fn k=159->k=fc) {J2:Func} (acj:C.P.funcs[fc]? =some J2) (acd:(J2.name== "runtime.NumGoroutine")=false) (jh:J2.body.isSome=true) (hN: ∀g,C.CM g=true->C.gl g<N)
  (ec: ∀x y,∃z s',c' 159 [.agg (tg x),.agg (tg y)] (List.replicate N none)=some (.val [.int .i64 z],s')/\decide (z<0)=fT x y):vb C Jl f:=by
 subst hf;have⟨cf,yT⟩: ∃cf:E4->E4->Int,∀x y,(∃s',c' 159 [.agg (tg x),.agg (tg y)] (List.replicate N none)=some (.val [.int .i64 (cf x y)],s'))/\decide (cf x y<0)=fT x y:=
  ⟨λx y=>Classical.choose (ec x y),Fd⟩
 have ah1: ¬J2.name= "runtime.NumGoroutine" :=by simpa using acd
 have eg: ∀args w,(callFunc fc args).run C.P w= .ok (.enter fc args) w:=by
  intro args w;cases dV:J2.body with
  |none=>rw[dV]at jh;cases jh
  |some c=>simp[callFunc,acj,ah1,dV]
 intro c n args s out _ h;unfold Jl at h;split at h
 case h_2=>cases h
 rename_i a len;cases a with
 |none=>
  simp only at h;have⟨hn,h⟩:=Zt h;have hn:=dP hn;subst hn;cases h;refine⟨aM _,λψ w vs hs hZ _ hv _ _=>?_⟩;cases hv with
  |cons _ _ _ _ a b=>
   cases b with
   |cons _ _ _ _ a2 b2=>
    cases b2;cases a with
    |tP=>
     refine ZlV hfn sa hb ((Go.Proofs.AnyF.slices_SortFunc_none L none 0 _ w).mono ?_);rintro e w' ⟨rfl,rfl⟩;exact⟨_,rfl,ψ,⟨hs,Ext.refl _ _ _,λh cb e=> .inl e⟩,.inr ⟨Do,_,rfl,.nil⟩⟩
 |some p=>
  have⟨i,o⟩:=p;simp only at h;cases dX:s.gP i with
  |none=>rw[dX]at h;cases h
  |some cs=>
  rw[dX]at h;simp only at h;cases hlen:Nat.ble (o+len*4) cs.length with
  |false=>rw[hlen]at h;cases h
  |true=>
  rw[hlen]at h;simp only[ae]at h;have hlen:=qY hlen;cases hl:AL ((cs.drop o).take (len*4))with
  |none=>rw[hl]at h;cases h
  |some l=>
  rw[hl]at h;simp only at h;cases hg:Ek l&&Nat.ble len 1000000 with
  |false=>rw[hg]at h;cases h
  |true=>
  rw[hg]at h;simp only[ae]at h;rw[aY]at hg;have yP:=Ve hg.1;have hmx:=qY hg.2;have XZ:=ZrI hl;have gD:l.length=len:=by
   have:=congrArg List.length XZ;rw[Gb,cR,eH]at this;omega
  cases h;have⟨cd,aw⟩:=U5 dX;refine⟨Do,λψ w vs hs hZ EM hv _ _=>?_⟩;cases hv with
  |cons _ _ _ _ a b=>
  cases b with
  |cons _ _ _ _ a2 b2=>
  cases b2;cases a with
  |slice _ _ _ _ cb ad cap e1 e2 e3=>
  generalize EK:DV.func 159 [] []=fd at a2;cases a2 with
  |func k _ _ vf vc hk h1 h2=>
  have hkk:C.fn k=159/\vf= #[]/\vc= #[]:=by
   injection EK with g1 g2 g3
   subst g2 g3;refine⟨g1.symm,?_,?_⟩
   .cases hx:vf.toList with
    |nil=>grind
    |cons _ _=>rw[hx]at h1;cases h1
   .cases hx:vc.toList with
    |nil=>grind
    |cons _ _=>rw[hx]at h2;cases h2
  obtain⟨kE,rfl,rfl⟩:=hkk;have hkf:=aiq k hk kE;subst hkf;have hh:=hs.holds (.inl i) cb _ e1 ⟨i,rfl,cd⟩;refine ZlV hfn sa hb ?_;by_cases h0:len=0
  .have:l=[]:=Fd
   subst this;subst h0;refine(Go.Proofs.AnyF.slices_SortFunc_none L (some ad) cap _ w).mono ?_;rintro e w' ⟨rfl,rfl⟩;have es:s.set i (some ⟨false,cG cs o (nb (jQ []))⟩)=s:=by
    have e0:cG cs o (nb (jQ []))=cs:=ZuV cs o;rw[e0];have hsi:s[i]? =some (some ⟨false,cs⟩):=by
     unfold St.gP at dX;grind
    have⟨hi,he⟩:=eB.1 hsi;rw[<-he,List.set_getElem_self]
   rw[es];exact⟨_,rfl,ψ,⟨hs,Ext.refl _ _ _,λh cb e=> .inl e⟩,.inr ⟨Do,_,rfl,.nil⟩⟩
  obtain⟨rfl,ab9⟩:=e3 AC;have⟨c0,ty,fr,hblk,alc,tz⟩:=hh.2.2.2 rfl;have xr: ∀j d,(nb l)[j]? =some d->cs[o+j]? =some d/\j<len*4:=by
   grind
  have hH:HoldsK tk 4 w cb.b (cb.o+o) l.toArray:=by
   intro j hj;rw[size_flatK]at hj;have hj:j<l.length*4:=by simpa using hj
   have⟨dd,hd⟩: ∃d,(nb l)[j]? =some d:=⟨_,cu (by rw[Gb];exact hj)⟩;have⟨n,EU,xk⟩:=VO l j _ hd;have⟨g1,g2⟩:=xr j _ hd;refine⟨?_,?_⟩
   .have⟨v,hv,hr⟩:=hh.2.2.1 _ _ g1
    rw[EU]at hr;cases hr;rw[<-uZ]at hv;rw[hv];grind
   .have:=tz (o+j) (by have:len*4<=cap*4:=FT 4 e2;omega)
    rw[World.frozen?,hblk];rw[<-uZ]at this;exact this
  have O0:Go.Proofs.CmpLays C.P k #[] tk 4 cf cb.b (cb.o+o) l.toArray.size w:=by
   intro m os dk _ x y;have AP:=Zzm hc' hk O4 acj acd jh hN (cf:=cf) (λx y=>(yT x y).1) EM hZ;exact AP x y _ (by unfold Go.Proofs.sortWorldK;rw[size_grow,size_putRowK];show w.heap.size<=w.heap.size+_;omega)
  have con:=Go.Proofs.AnyQ.slices_SortFunc L 4 aE zE tk (λ_=>rfl) (λx v hv=>by
   simp only[tk,eM,tW,pj]at hv;rcases hv with rfl|rfl|rfl|rfl<;>rfl) cf (aky λx y=>(yT x y).2) k #[] cb.b (cb.o+o) cap l.toArray w eg O0 hH (hZ _ _ e1) (by simp;omega)
  rw[show l.toArray.size=len by simpa using gD]at con;refine con.mono ?_;rintro e w' ⟨rfl,d',n',os,Px,ajB,rfl⟩;have kV:d'=(jQ l).toArray:=by
   have⟨cL,_,YN⟩:=Px;have acZ:d'.size=len:=by rw[cL];simpa using gD
   rw[<-acZ,Array.extract_size,show d'.size=l.toArray.size by rw[cL],Array.extract_size]at YN;have:d'.toList=jQ l:=by
    refine Zpk YN yP (Mc.2 λa b ha hb gf=>?_);have:=ajB a b (cB _) gf (by simpa [acZ]using hb);have e:Go.Proofs.ltOf cf d'[b]! d'[a]! =fT d'[b]! d'[a]! :=(yT _ _).2;rw[e,getElem!_pos d' b (by simpa using hb),getElem!_pos d' a (by simpa using ha)]at this;simpa using this
   rw[<-this]
  subst kV;have oL:bH C ψ (nb (jQ l)) (flatK tk 4 (jQ l).toArray).toList:=by
   have eE:(flatK tk 4 (jQ l).toArray).toList.length=(jQ l).length*4:=by rw[oU,size_flatK,List.size_toArray]
   refine bH.of _ _ (by rw[Gb];exact eE.symm) λj d v h1 h2=>?_
   have⟨n,EU,xk⟩:=VO _ j d h1;rw[lx]at h2;rw[getElem!_def,h2]at xk;simp only at xk;rw[EU,xk];exact .int _ _
  have Pr:(nb (jQ l)).all one=true:=by
   rw[wF];intro d hd;have⟨j,hj⟩:=FM hd;have⟨n,EU,_⟩:=VO _ j d hj;rw[EU];rfl
  have eE:(flatK tk 4 (jQ l).toArray).size=len*4:=by rw[size_flatK,List.size_toArray,VA,gD]
  have⟨w1,acU,dp,hh1⟩:=Nd (P:=C.P) (p:=o) hh oL Pr (by rw[Gb,VA,gD];exact hlen);have ajq:=RN C.P cb.b (cb.o+o) ty fr (flatK tk 4 (jQ l).toArray).toList 0 w c0 hblk (oL.adp Pr) (by rw[oU,eE];omega) Fd;rw[ajq]at acU;injection acU with _ cM
  subst cM;have acD:hY (ml w cb.b (.cells (qN c0 (cb.o+o+0) (flatK tk 4 (jQ l).toArray).toList) ty fr)) (Go.Proofs.sortWorldK tk 4 w cb.b (cb.o+o) n' (jQ l).toArray os):=by
   refine⟨λb hb=>?_,?_,rfl,rfl,rfl,Nat.le_add_right _ _⟩
   .rw[Qo]at hb
    show((w.heap.modify cb.b (onCells (putCells id (cb.o+o) (flatK tk 4 (jQ l).toArray))))++os)[b]? =(w.heap.setIfInBounds cb.b _)[b]?;rw[QD (by simpa using hb),Array.getElem?_modify];by_cases e:cb.b=b
    .subst e
     rw[bG rfl,hblk,QE hb,ny];show some (Obj.cells (putCells id (cb.o+o) (flatK tk 4 (jQ l).toArray) c0) ty fr)=_;rw[ZtT _ _ _ (by rw[eE];omega)];rfl
    grind
   .rw[Qo]
    show w.heap.size<=((w.heap.modify cb.b _)++os).size;rw[Array.size_append,Array.size_modify];omega
  have oH: ∀h ab gC,ψ h=some gC->CS (s.set i (some ⟨false,cG cs o (nb (jQ l))⟩)) h ab->zN (CS s) (.inl i) (.cells false (cG cs o (nb (jQ l)))) h ab:=by
   rintro h ab gC _ ⟨j,rfl,q⟩;by_cases e:j=i
   .subst e
    rw[ZlU aw]at q;cases q;exact .inl ⟨rfl,rfl⟩
   .rw[ML (λe'=>e e'.symm)]at q
    exact .inr ⟨by simpa using e,j,rfl,q⟩
  refine⟨_,rfl,ψ,⟨?_,?_,λh cb e=> .inl e⟩,.inr ⟨Do,_,rfl,.nil⟩⟩
  .exact((fC.set hs e1 ⟨i,rfl,cd⟩ rfl dp.other hh1).more (λh cb e=>by rw[Qo];exact hZ h cb e) acD).weaken oH
  .exact((Ext.set e1 ⟨i,rfl,cd⟩ rfl dp.other dp.size dp.tape dp.os dp.output).trans (Ext.more acD)).weaken oH
  |_=>cases EK
theorem ZAG {cov sub:al} (xd:C.cov=has cov) {l:List (Nat×Body)} (hk:l.map (·.1)=sub.map C.fn) (hs:(sub.all λg=>has cov g&&cov.all λf=> !Nat.beq (C.fn f) (C.fn g)||Nat.beq f g)=true) (hB: ∀f∈sub,vb C (bdOf l (C.fn f)) f): ∀n,ZW C (run (bdOf l) n):=by
 have key: ∀g b,Dk l g=some b->∃f∈sub,C.fn f=g:=by
  intro g b hb;have:=WH hb;rw[hk]at this;grind
 rw[wF]at hs;refine Oa (λf hf=>?_) λg hg c n args s=>?_
 .cases hb:Dk l (C.fn f)with
  |none=>
   intro c n args s out _ h;grind[bdOf]
  |some b=>
   have⟨f',CZ,e⟩:=key _ b hb;have h1:=hs f' CZ;rw[aY,wF]at h1;have h2:=h1.2 f ((Jx cov f).1 (by rw[<-xd];exact hf));rw[<-e,FP]at h2;have:f=f':=dP (by simpa using h2);grind
 .unfold bdOf
  cases hb:Dk l g with
  |none=>rfl
  |some b=>
   have⟨f',CZ,e⟩:=key _ b hb;have h1:=hs f' CZ;rw[aY]at h1;simp_all
theorem Zzz {Bd:Zh} (h:F3 Bd) (s:St) (x y:E4): ∃z s',run Bd 100 159 [.agg (tg x),.agg (tg y)] s=some (.val [.int .i64 z],s')/\decide (z<0)=fT x y:=by
 obtain⟨_,e,z,s',rfl,_,hz⟩:=F.abU h 100 AC ⟨x.1,x.2.1,x.2.2.1,x.2.2.2⟩ ⟨y.1,y.2.1,y.2.2.1,y.2.2.2⟩ s;refine⟨z,s',e,?_⟩;grind[F.fD,fT]
end Go.Gv
