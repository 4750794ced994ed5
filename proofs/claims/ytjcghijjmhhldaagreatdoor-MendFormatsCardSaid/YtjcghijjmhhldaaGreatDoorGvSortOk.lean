/- slices.SortFunc at entries: our body, joined to the kit's contract. -/
import Derived.Test.YtjcghijjmhhldaaGreatDoorGvZPf
import Derived.Shelf.SlSortCmp.WholeK
import Derived.Shelf.SlSortCmp.NoneTotal
set_option linter.all false
namespace Go.Gv
open Go.Sort
def ZtW (P:Program) (g:Nat) (cf:E4->E4->Int) (w0:World):Prop:=
 ∀(x y:E4) (W:World),w0.heap.size<=W.heap.size->Calls P g #[.agg #[.int .i64 x.1,.int .i64 x.2.1,.int .i64 x.2.2.1,.int .i64 x.2.2.2],.agg #[.int .i64 y.1,.int .i64 y.2.1,.int .i64 y.2.2.1,.int .i64 y.2.2.2]] W λe W'=>e= .returned (.int .i64 (cf x y))/\∃q Ox,W'=grow (W.drewN q) Ox
variable {cf:E4->E4->Int} {f fc:FuncId} {N:Nat} {W' w:World} {c c':Zd} {C:aY}
theorem ZtJ {W:World} (hs:W.heap.size<=W'.heap.size) (hk: ∀b,b<W.heap.size->W'.heap[b]? =W.heap[b]?) (ht:W'.tape=W.tape) (ho:W'.os=W.os) (hu:oE W W'): ∃q Ox,W'=grow (W.drewN q) Ox:=by
 refine⟨W'.drawn-W.drawn,W'.heap.extract W.heap.size W'.heap.size,?_⟩;have hd:W.drawn+(W'.drawn-W.drawn)=W'.drawn:=by have:=hu.2;omega
 have hh:W'.heap=W.heap++W'.heap.extract W.heap.size W'.heap.size:=by
  grind
 have⟨heap,tape,drawn,os,output⟩:=W';simp only at hd hh ht ho;have zB:=hu.1;simp only at zB;rw[grow,World.drewN,hd,<-hh];subst ht ho zB;rfl
theorem Zs7 (hc:ZI C c) (qi:C.cov fc=true) (hfn:C.fn fc=159) {fn:Func} (hf:C.P.funcs[fc]? =some fn) (mq:(fn.name== "runtime.NumGoroutine")=false) (hb:fn.body.isSome=true) (hN: ∀g,C.uO g=true->C.gl g<N) (cm: ∀x y,∃s',c 159 [.agg (nh x),.agg (nh y)] (List.replicate N none)=some (.val [.int .i64 (cf x y)],s')) {ψ:Ps} (hg:Glob C ψ) (gr:mP ψ w):ZtW C.P fc cf w:=by
 intro x y W hW;have⟨s',hr⟩:=cm x y
 let ψ':Ps:=λh=>match h with
  | .inl i=>if i<N then ψ (.inl i)else none
  | .inr _=>none
 have no: ∀i ab,¬cu (List.replicate N none) i=some ab:=by
  grind[cu]
 have hs:dN C ψ' (CS (List.replicate N none)) W:=⟨λh cb ab _ ⟨i,_,q⟩=>absurd q (no i ab),λh cb ab h' eI ca _ ⟨i,_,q⟩=>absurd q (no i ab)⟩;have UW:mP ψ' W:=by
  intro h cb e;cases h with
  |inl i=>
   simp only[ψ']at e;split at e
   .exact lR (gr _ cb e) hW
   .cases e
  |inr v=>cases e
 have uY:Glob C ψ':=λg e=>by
  have⟨cb,e1,e2⟩:=hg g e;grind
 have hv:ba C ψ' [.agg (nh x),.agg (nh y)] [.agg #[.int .i64 x.1,.int .i64 x.2.1,.int .i64 x.2.2.1,.int .i64 x.2.2.2],.agg #[.int .i64 y.1,.int .i64 y.2.1,.int .i64 y.2.2.1,.int .i64 y.2.2.2]]:=by
  refine .cons _ _ _ _ (.agg _ _ ?_ rfl) (.cons _ _ _ _ (.agg _ _ ?_ rfl) .nil)
  .exact .cons _ _ _ _ (.int _ _) (.cons _ _ _ _ (.int _ _) (.cons _ _ _ _ (.int _ _) (.cons _ _ _ _ (.int _ _) .nil)))
  .exact .cons _ _ _ _ (.int _ _) (.cons _ _ _ _ (.int _ _) (.cons _ _ _ _ (.int _ _) (.cons _ _ _ _ (.int _ _) .nil)))
 have ok:=(hc 159 _ _ _ hr).2 fc qi hfn ψ' W _ hs UW uY hv (λ_=>rfl) (λi h1 _=>by
  grind)
 have qu: ¬fn.name= "runtime.NumGoroutine" :=by simpa using mq
 have e: ∀vs,(callFunc fc vs).run C.P W= .ok (.enter fc vs) W:=by
  intro vs;cases dH:fn.body with
  |none=>rw[dH]at hb;cases hb
  |some c=>simp[callFunc,hf,qu,dH]
 unfold sR at ok;rw[e]at ok;refine Calls.mono ok λen W' he=>?_
 cases en with
 |returned v=>
  have⟨ds,e1,ij,cp,rv⟩:=he;cases e1;refine⟨?_,ZtJ cp.ext.size (λb hb=>cp.ext.gU b hb λ⟨h,cb,ab,_,⟨i,_,q⟩,_⟩=>no i ab q) cp.ext.tape cp.ext.os cp.ext.output⟩;rcases rv with⟨d,h1,h2⟩|⟨h1,_⟩
  .cases h1
   cases h2;rfl
  .exact absurd rfl h1
 |panicked ch=>grind
 |outgrown=>exact he.elim
def ni (x:E4):List Value:=[.int .i64 x.1,.int .i64 x.2.1,.int .i64 x.2.2.1,.int .i64 x.2.2.2]
theorem ZlA: ∀(l:List E4) (j:Nat),(jz l)[j]? =match l[j/4]? with
  |some x=>(nh x)[j%4]?
  |none=>none
 |[],j=>by simp[jz]
 |x::r,j=>by
  rw[jz];by_cases h:j<4
  .rw[lj (by exact h),show j/4=0 by omega,show j%4=j by omega]
   rfl
  .rw[iO (by show 4<=j;omega),show(nh x).length=4 from rfl,ZlA r (j-4),show j/4=(j-4)/4+1 by omega,nO,show(j-4)%4=j%4 by omega]
theorem Le (l:List E4) (j:Nat) (d:DV) (hd:(jz l)[j]? =some d): ∃n,d= .int .i64 n/\(flatK ni 4 l.toArray)[j]! = .int .i64 n:=by
 have hj:j<l.length*4:=by
  have:=(cF.1 hd).1;rwa [xQ]at this
 rw[ZlA]at hd;rw[get_flatK ni 4 l.toArray j (by simpa using hj)];have hx:l[j/4]? =some l[j/4]:=Do
 rw[hx]at hd;simp only at hd;have e:l.toArray[j/4]! =l[j/4]:=by
  rw[getElem!_pos l.toArray (j/4) (by simp;omega)];simp
 rw[e];generalize l[j/4]=x at hd⊢;have h4:j%4<4:=vy _ EQ;generalize j%4=m at hd h4⊢;rcases m with _|_|_|_|m
 .cases hd;exact⟨_,rfl,rfl⟩
 .cases hd;exact⟨_,rfl,rfl⟩
 .cases hd;exact⟨_,rfl,rfl⟩
 .cases hd;exact⟨_,rfl,rfl⟩
 .omega
theorem Zpc (off:Nat) (F c:Array Value) (h:off+F.size<=c.size):putCells id off F c=lI c off F.toList:=by
 apply Array.ext_getElem?;intro k;rw[EF _ _ _ _ (by simpa using h),putCells,Array.getElem?_mapIdx,kG];by_cases hk:off<=k/\k<off+F.size
 .rw[bO hk,Array.getElem?_eq_getElem (AC:k<c.size),iE]
  grind
 grind
theorem Wu (h: ∀x y,decide (cf x y<0)=eF x y):SWO (Go.Proofs.ltOf cf):=by
 have e:Go.Proofs.ltOf cf=eF:=by
  funext x y;exact h x y
 rw[e];have irr: ∀x,eF x x=false:=λx=>by
  cases e:eF x x with
  |false=>rfl
  |true=>have:=Znz e;rw[e]at this;cases this
 exact⟨irr,λ_ _ _=>Znk,λ_ _ _=>Zrm⟩
theorem ZpX {ρ:Go.Shelf.Ren} (L:Go.Proofs.SlLaysF0.n6 C.P ρ) (aE: ∀w,(isAgg (ρ.t 24)).run C.P w= .ok true w) (zE: ∀w,(Go.sizeOf (ρ.t 24)).run C.P w= .ok 4 w) (hf:ρ.f 6=f) {fn:Func} (hfn:C.P.funcs[f]? =some fn) (mq:(fn.name== "runtime.NumGoroutine")=false) (hb:fn.body.isSome=true) (hc':ZI C c') (qi:C.cov fc=true) (hfc:C.fn fc=159) (Va: ∀k,C.cov k=true->C.fn k=159->k=fc) {BB:Func} (PR:C.P.funcs[fc]? =some BB) (PN:(BB.name== "runtime.NumGoroutine")=false) (eM:BB.body.isSome=true) (hN: ∀g,C.uO g=true->C.gl g<N)
  (cm: ∀x y,∃z s',c' 159 [.agg (nh x),.agg (nh y)] (List.replicate N none)=some (.val [.int .i64 z],s')/\decide (z<0)=eF x y):oB C AT f:=by
 subst hf;have⟨cf,y8⟩: ∃cf:E4->E4->Int,∀x y,(∃s',c' 159 [.agg (nh x),.agg (nh y)] (List.replicate N none)=some (.val [.int .i64 (cf x y)],s'))/\decide (cf x y<0)=eF x y:=
  ⟨λx y=>Classical.choose (cm x y),Fd⟩
 have U1: ¬BB.name= "runtime.NumGoroutine" :=by simpa using PN
 have eg: ∀args w,(callFunc fc args).run C.P w= .ok (.enter fc args) w:=by
  intro args w;cases dH:BB.body with
  |none=>rw[dH]at eM;cases eM
  |some c=>simp[callFunc,PR,U1,dH]
 intro c n args s out _ h;unfold AT at h;split at h
 case h_2=>cases h
 rename_i a len;cases a with
 |none=>
  simp only at h;have⟨hn,h⟩:=Zq h;have hn:=cO hn;subst hn;cases h;refine⟨aW _,λψ w vs hs gr _ hv _ _=>?_⟩;cases hv with
  |cons _ _ _ _ a b=>
   cases b with
   |cons _ _ _ _ a2 b2=>
    cases b2;cases a with
    |nI=>
     refine Zji hfn mq hb ((Go.Proofs.AnyF.slices_SortFunc_none L none 0 _ w).mono ?_);rintro e w' ⟨rfl,rfl⟩;exact⟨_,rfl,ψ,⟨hs,Ext.refl _ _ _,λh cb e=> .inl e⟩,.inr ⟨Do,_,rfl,.nil⟩⟩
 |some p=>
  have⟨i,o⟩:=p;simp only at h;cases cX:s.fJ i with
  |none=>rw[cX]at h;cases h
  |some cs=>
  rw[cX]at h;simp only at h;cases hlen:Nat.ble (o+len*4) cs.length with
  |false=>rw[hlen]at h;cases h
  |true=>
  rw[hlen]at h;simp only[aa]at h;have hlen:=lQ hlen;cases hl:tg ((cs.drop o).take (len*4))with
  |none=>rw[hl]at h;cases h
  |some l=>
  rw[hl]at h;simp only at h;cases hg:wa l&&Nat.ble len 1000000 with
  |false=>rw[hg]at h;cases h
  |true=>
  rw[hg]at h;simp only[aa]at h;rw[aZ]at hg;have uQ:=Znl hg.1;have hmx:=lQ hg.2;have U2:=ZnA hl;have iL:l.length=len:=by
   have:=congrArg List.length U2;rw[xQ,dh,ft]at this;omega
  cases h;have⟨bx,aw⟩:=KG cX;refine⟨Do,λψ w vs hs gr wF hv _ _=>?_⟩;cases hv with
  |cons _ _ _ _ a b=>
  cases b with
  |cons _ _ _ _ a2 b2=>
  cases b2;cases a with
  |slice _ _ _ _ cb ad cap e1 e2 e3=>
  generalize hfd:DV.func 159 [] []=fd at a2;cases a2 with
  |func k _ _ vf vc hk h1 h2=>
  have Nx:C.fn k=159/\vf= #[]/\vc= #[]:=by
   injection hfd with g1 g2 g3
   subst g2 g3;refine⟨g1.symm,?_,?_⟩
   .cases hx:vf.toList with
    |nil=>grind
    |cons _ _=>rw[hx]at h1;cases h1
   .cases hx:vc.toList with
    |nil=>grind
    |cons _ _=>rw[hx]at h2;cases h2
  obtain⟨jl,rfl,rfl⟩:=Nx;have hkf:=Va k hk jl;subst hkf;have hh:=hs.holds (.inl i) cb _ e1 ⟨i,rfl,bx⟩;refine Zji hfn mq hb ?_;by_cases h0:len=0
  .have:l=[]:=Fd
   subst this;subst h0;refine(Go.Proofs.AnyF.slices_SortFunc_none L (some ad) cap _ w).mono ?_;rintro e w' ⟨rfl,rfl⟩;have es:s.set i (some ⟨false,cT cs o (jz (ig []))⟩)=s:=by
    have e0:cT cs o (jz (ig []))=cs:=Zqt cs o;rw[e0];have hsi:s[i]? =some (some ⟨false,cs⟩):=by
     unfold St.fJ at cX;grind
    have⟨hi,he⟩:=cF.1 hsi;rw[<-he,List.set_getElem_self]
   rw[es];exact⟨_,rfl,ψ,⟨hs,Ext.refl _ _ _,λh cb e=> .inl e⟩,.inr ⟨Do,_,rfl,.nil⟩⟩
  obtain⟨rfl,PK⟩:=e3 AC;have⟨c0,ty,fr,hblk,W4,jV⟩:=hh.2.2.2 rfl;have NZ: ∀j d,(jz l)[j]? =some d->cs[o+j]? =some d/\j<len*4:=by
   grind
  have hH:HoldsK ni 4 w cb.b (cb.o+o) l.toArray:=by
   intro j hj;rw[size_flatK]at hj;have hj:j<l.length*4:=by simpa using hj
   have⟨dd,hd⟩: ∃d,(jz l)[j]? =some d:=⟨_,dt (by rw[xQ];exact hj)⟩;have⟨n,wL,tG⟩:=Le l j _ hd;have⟨g1,g2⟩:=NZ j _ hd;refine⟨?_,?_⟩
   .have⟨v,hv,hr⟩:=hh.2.2.1 _ _ g1
    rw[wL]at hr;cases hr;rw[<-oy]at hv;rw[hv];grind
   .have:=jV (o+j) (by have:len*4<=cap*4:=xB 4 e2;omega)
    rw[World.frozen?,hblk];rw[<-oy]at this;exact this
  have U0:Go.Proofs.CmpLays C.P k #[] ni 4 cf cb.b (cb.o+o) l.toArray.size w:=by
   intro m os dk _ x y;have FE:=Zs7 hc' hk hfc PR PN eM hN (cf:=cf) (λx y=>(y8 x y).1) wF gr;exact FE x y _ (by unfold Go.Proofs.sortWorldK;rw[size_grow,size_putRowK];show w.heap.size<=w.heap.size+_;omega)
  have con:=Go.Proofs.AnyQ.slices_SortFunc L 4 aE zE ni (λ_=>rfl) (λx v hv=>by
   simp only[ni,dR,xw,qP]at hv;rcases hv with rfl|rfl|rfl|rfl<;>rfl) cf (Wu λx y=>(y8 x y).2) k #[] cb.b (cb.o+o) cap l.toArray w eg U0 hH (gr _ _ e1) (by simp;omega)
  rw[show l.toArray.size=len by simpa using iL]at con;refine con.mono ?_;rintro e w' ⟨rfl,d',n',os,VB,VW,rfl⟩;have dO:d'=(ig l).toArray:=by
   have⟨bS,_,NP⟩:=VB;have Qy:d'.size=len:=by rw[bS];simpa using iL
   rw[<-Qy,Array.extract_size,show d'.size=l.toArray.size by rw[bS],Array.extract_size]at NP;have:d'.toList=ig l:=by
    refine Zq3 NP uQ (List.pairwise_iff_getElem.2 λa b ha hb fm=>?_);have:=VW a b (eB _) fm (by simpa [Qy]using hb);have e:Go.Proofs.ltOf cf d'[b]! d'[a]! =eF d'[b]! d'[a]! :=(y8 _ _).2;rw[e,getElem!_pos d' b (by simpa using hb),getElem!_pos d' a (by simpa using ha)]at this;simpa using this
   rw[<-this]
  subst dO;have kz:ba C ψ (jz (ig l)) (flatK ni 4 (ig l).toArray).toList:=by
   have iz:(flatK ni 4 (ig l).toArray).toList.length=(ig l).length*4:=by rw[kG,size_flatK,List.size_toArray]
   refine ba.of _ _ (by rw[xQ];exact iz.symm) λj d v h1 h2=>?_
   have⟨n,wL,tG⟩:=Le _ j d h1;rw[iE]at h2;rw[getElem!_def,h2]at tG;simp only at tG;rw[wL,tG];exact .int _ _
  have F9:(jz (ig l)).all one=true:=by
   rw[sD];intro d hd;have⟨j,hj⟩:=xr hd;have⟨n,wL,_⟩:=Le _ j d hj;rw[wL];rfl
  have iz:(flatK ni 4 (ig l).toArray).size=len*4:=by rw[size_flatK,List.size_toArray,KV,iL]
  have⟨w1,Qq,bN,hh1⟩:=En (P:=C.P) (p:=o) hh kz F9 (by rw[xQ,KV,iL];exact hlen);have VI:=Ja C.P cb.b (cb.o+o) ty fr (flatK ni 4 (ig l).toArray).toList 0 w c0 hblk (kz.QS F9) (by rw[kG,iz];omega) Fd;rw[VI]at Qq;injection Qq with _ cD
  subst cD;have Qa:fu (ja w cb.b (.cells (lI c0 (cb.o+o+0) (flatK ni 4 (ig l).toArray).toList) ty fr)) (Go.Proofs.sortWorldK ni 4 w cb.b (cb.o+o) n' (ig l).toArray os):=by
   refine⟨λb hb=>?_,?_,rfl,rfl,rfl,Nat.le_add_right _ _⟩
   .rw[GQ]at hb
    show((w.heap.modify cb.b (onCells (putCells id (cb.o+o) (flatK ni 4 (ig l).toArray))))++os)[b]? =(w.heap.setIfInBounds cb.b _)[b]?;rw[G6 (by simpa using hb),Array.getElem?_modify];by_cases e:cb.b=b
    .subst e
     rw[bO rfl,hblk,G7 hb,sG];show some (Obj.cells (putCells id (cb.o+o) (flatK ni 4 (ig l).toArray) c0) ty fr)=_;rw[Zpc _ _ _ (by rw[iz];omega)];rfl
    grind
   .rw[GQ]
    show w.heap.size<=((w.heap.modify cb.b _)++os).size;rw[Array.size_append,Array.size_modify];omega
  have hkn: ∀h ab eI,ψ h=some eI->CS (s.set i (some ⟨false,cT cs o (jz (ig l))⟩)) h ab->sj (CS s) (.inl i) (.cells false (cT cs o (jz (ig l)))) h ab:=by
   rintro h ab eI _ ⟨j,rfl,q⟩;by_cases e:j=i
   .subst e
    rw[Zjr aw]at q;cases q;exact .inl ⟨rfl,rfl⟩
   .rw[DP (λe'=>e e'.symm)]at q
    exact .inr ⟨by simpa using e,j,rfl,q⟩
  refine⟨_,rfl,ψ,⟨?_,?_,λh cb e=> .inl e⟩,.inr ⟨Do,_,rfl,.nil⟩⟩
  .exact((dN.set hs e1 ⟨i,rfl,bx⟩ rfl bN.other hh1).more (λh cb e=>by rw[GQ];exact gr h cb e) Qa).weaken hkn
  .exact((Ext.set e1 ⟨i,rfl,bx⟩ rfl bN.other bN.size bN.tape bN.os bN.output).trans (Ext.more Qa)).weaken hkn
  |_=>cases hfd
theorem Zuc {cov sub:al} (qi:C.cov=has cov) {l:List (Nat×Body)} (hk:l.map (·.1)=sub.map C.fn) (hs:(sub.all λg=>has cov g&&cov.all λf=> !Nat.beq (C.fn f) (C.fn g)||Nat.beq f g)=true) (hB: ∀f∈sub,oB C (bdOf l (C.fn f)) f): ∀n,ZI C (run (bdOf l) n):=by
 have key: ∀g b,vg l g=some b->∃f∈sub,C.fn f=g:=by
  intro g b hb;have:=LG hb;rw[hk]at this;grind
 rw[sD]at hs;refine E8 (λf hf=>?_) λg hg c n args s=>?_
 .cases hb:vg l (C.fn f)with
  |none=>
   intro c n args s out _ h;grind[bdOf]
  |some b=>
   have⟨f',uW,e⟩:=key _ b hb;have h1:=hs f' uW;rw[aZ,sD]at h1;have h2:=h1.2 f ((A0 cov f).1 (by rw[<-qi];exact hf));rw[<-e,xA]at h2;have:f=f':=cO (by simpa using h2);grind
 .unfold bdOf
  cases hb:vg l g with
  |none=>rfl
  |some b=>
   have⟨f',uW,e⟩:=key _ b hb;have h1:=hs f' uW;rw[aZ]at h1;simp_all
theorem ZtQ {Bd:Ze} (h:xK Bd) (s:St) (x y:E4): ∃z s',run Bd 100 159 [.agg (nh x),.agg (nh y)] s=some (.val [.int .i64 z],s')/\decide (z<0)=eF x y:=by
 obtain⟨_,e,z,s',rfl,_,hz⟩:=F.Pv h 100 AC ⟨x.1,x.2.1,x.2.2.1,x.2.2.2⟩ ⟨y.1,y.2.1,y.2.2.1,y.2.2.2⟩ s;refine⟨z,s',e,?_⟩;grind[F.yB,eF]
end Go.Gv
