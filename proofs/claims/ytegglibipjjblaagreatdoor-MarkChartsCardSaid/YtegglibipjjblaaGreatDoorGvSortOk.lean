/- slices.SortFunc at entries: our body, joined to the kit's contract. -/
import Derived.Test.YtegglibipjjblaaGreatDoorGvZRun
import Derived.Test.YtegglibipjjblaaGreatDoorGvZBod
import Derived.Test.YtegglibipjjblaaGreatDoorGvZPf
import Derived.Shelf.SlSortCmp.WholeK
import Derived.Shelf.SlSortCmp.NoneTotal
namespace Go.Gv
open Go.Sort
def ZAv (P:Program) (g:Nat) (cf:E4->E4->Int) (w0:World):Prop:=
 ∀(x y:E4) (W:World),w0.heap.size<=W.heap.size->Calls P g #[.agg #[.int .i64 x.1,.int .i64 x.2.1,.int .i64 x.2.2.1,.int .i64 x.2.2.2],.agg #[.int .i64 y.1,.int .i64 y.2.1,.int .i64 y.2.2.1,.int .i64 y.2.2.2]] W fun e W'=>e= .returned (.int .i64 (cf x y))/\∃q Tk,W'=grow (W.drewN q) Tk
theorem ZA4 {W W':World} (hs:W.heap.size<=W'.heap.size) (hk: ∀b,b<W.heap.size->W'.heap[b]? =W.heap[b]?) (ht:W'.tape=W.tape) (ho:W'.os=W.os) (hu:qz W W'): ∃q Tk,W'=grow (W.drewN q) Tk:=by
 refine⟨W'.drawn-W.drawn,W'.heap.extract W.heap.size W'.heap.size,?_⟩;have hd:W.drawn+(W'.drawn-W.drawn)=W'.drawn:=by have:=hu.2;omega
 have hh:W'.heap=W.heap++W'.heap.extract W.heap.size W'.heap.size:=by
  apply Fo;intro i;by_cases hi:i<W.heap.size
  ·rw[Fp hi,hk i hi]
  ·rw[Array.getElem?_append_right (by omega),Array.getElem?_extract]
   by_cases h2:i<W'.heap.size
   ·rw[aG (by omega),show W.heap.size+(i-W.heap.size)=i by omega]
   ·rw[ax (by omega),Array.getElem?_eq_none (by omega)]
 obtain⟨heap,tape,drawn,os,output⟩:=W';simp only at hd hh ht ho;have BL:=hu.1;simp only at BL;simp only[grow,World.drewN,hd,<-hh];subst ht ho BL;rfl
theorem ZAb {C:aP} {c:Zg} (hc:ZC C c) {fc:FuncId} (qW:C.cov fc=true) (hfn:C.fn fc=159) {fn:Func} (hf:C.P.funcs[fc]? =some fn) (nM:(fn.name== "runtime.NumGoroutine")=false) (hb:fn.body.isSome=true) {N:Nat} (hN: ∀g,C.wL g=true->C.gl g<N)
  {cf:E4->E4->Int} (cH: ∀x y,∃s',c 159 [.agg (oA x),.agg (oA y)] (List.replicate N none)=some (.val [.int .i64 (cf x y)],s')) {ψ:Ps} {w:World} (hg:Glob C ψ) (iC:oi ψ w):ZAv C.P fc cf w:=by
 intro x y W hW;obtain⟨s',hr⟩:=cH x y
 let ψ':Ps:=fun h=>match h with
  | .inl i=>if i<N then ψ (.inl i)else none
  | .inr _=>none
 have no: ∀i ab,¬cq (List.replicate N none) i=some ab:=by
  intro i ab h;unfold cq at h;rw[zS]at h;split at h
  ·rename_i h2;split at h2<;>cases h2
  ·cases h
 have hs:dU C ψ' (CS (List.replicate N none)) W:=⟨fun h cb ab _ ⟨i,_,q⟩=>absurd q (no i ab),fun h cb ab h' eN bO _ ⟨i,_,q⟩=>absurd q (no i ab)⟩;have Xb:oi ψ' W:=by
  intro h cb e;cases h with
  |inl i=>
   simp only[ψ']at e;split at e
   ·exact jH (iC _ cb e) hW
   ·cases e
  |inr v=>cases e
 have wX:Glob C ψ':=fun g e=>by
  obtain⟨cb,e1,e2⟩:=hg g e;exact⟨cb,by simp only[ψ'];rw[aG (hN g e)];exact e1,e2⟩
 have hv:aS C ψ' [.agg (oA x),.agg (oA y)] [.agg #[.int .i64 x.1,.int .i64 x.2.1,.int .i64 x.2.2.1,.int .i64 x.2.2.2],.agg #[.int .i64 y.1,.int .i64 y.2.1,.int .i64 y.2.2.1,.int .i64 y.2.2.2]]:=by
  refine .cons _ _ _ _ (.agg _ _ ?_ rfl) (.cons _ _ _ _ (.agg _ _ ?_ rfl) .nil)
  ·exact .cons _ _ _ _ (.int _ _) (.cons _ _ _ _ (.int _ _) (.cons _ _ _ _ (.int _ _) (.cons _ _ _ _ (.int _ _) .nil)))
  ·exact .cons _ _ _ _ (.int _ _) (.cons _ _ _ _ (.int _ _) (.cons _ _ _ _ (.int _ _) (.cons _ _ _ _ (.int _ _) .nil)))
 have ok:=(hc 159 _ _ _ hr).2 fc qW hfn ψ' W _ hs Xb wX hv (fun _=>rfl) (fun i h1 _=>by
  simp only[ψ'];rw[ax (by simpa using h1)])
 have sj: ¬fn.name= "runtime.NumGoroutine" :=by simpa using nM
 have e: ∀vs,(callFunc fc vs).run C.P W= .ok (.enter fc vs) W:=by
  intro vs;cases cz:fn.body with
  |none=>rw[cz]at hb;cases hb
  |some c=>simp[callFunc,hf,sj,cz]
 unfold uK at ok;rw[e]at ok;refine Calls.mono ok fun en W' he=>?_
 cases en with
 |returned v=>
  obtain⟨ds,e1,iJ,cp,rv⟩:=he;cases e1;refine⟨?_,ZA4 cp.ext.size (fun b hb=>cp.ext.gF b hb fun⟨h,cb,ab,_,⟨i,_,q⟩,_⟩=>no i ab q) cp.ext.tape cp.ext.os cp.ext.output⟩;rcases rv with⟨d,h1,h2⟩|⟨h1,_⟩
  ·cases h1
   cases h2;rfl
  ·exact absurd rfl h1
 |panicked ch=>obtain⟨_,e1,_⟩:=he;cases e1
 |outgrown=>exact he.elim
def nC (x:E4):List Value:=[.int .i64 x.1,.int .i64 x.2.1,.int .i64 x.2.2.1,.int .i64 x.2.2.2]
theorem ZpD: ∀(l:List E4) (j:Nat),(kb l)[j]? =match l[j/4]? with
  |some x=>(oA x)[j%4]?
  |none=>none
 |[],j=>by simp[kb]
 |x::r,j=>by
  rw[kb];by_cases h:j<4
  ·rw[iL (by exact h),show j/4=0 by omega,show j%4=j by omega]
   rfl
  ·rw[gU (by show 4<=j;omega),show(oA x).length=4 from rfl,ZpD r (j-4),show j/4=(j-4)/4+1 by omega,mq,show(j-4)%4=j%4 by omega]
theorem PB (l:List E4) (j:Nat) (d:DV) (hd:(kb l)[j]? =some d): ∃n,d= .int .i64 n/\(flatK nC 4 l.toArray)[j]! = .int .i64 n:=by
 have hj:j<l.length*4:=by
  have:=(cd.1 hd).1
  rwa [Ar]at this
 rw[ZpD]at hd;rw[get_flatK nC 4 l.toArray j (by simpa using hj)];have hx:l[j/4]? =some l[j/4]:=ba (by omega);rw[hx]at hd;simp only at hd;have e:l.toArray[j/4]! =l[j/4]:=by
  rw[getElem!_pos l.toArray (j/4) (by simp;omega)];simp
 rw[e];generalize l[j/4]=x at hd⊢;have h4:j%4<4:=Nat.mod_lt _ (by decide);generalize j%4=m at hd h4⊢;rcases m with _|_|_|_|m
 ·cases hd;exact⟨_,rfl,rfl⟩
 ·cases hd;exact⟨_,rfl,rfl⟩
 ·cases hd;exact⟨_,rfl,rfl⟩
 ·cases hd;exact⟨_,rfl,rfl⟩
 ·omega
theorem ZtZ (off:Nat) (F c:Array Value) (h:off+F.size<=c.size):putCells id off F c=mU c off F.toList:=by
 apply Fo;intro k;rw[JB _ _ _ _ (by simpa using h),putCells,Array.getElem?_mapIdx,jC];by_cases hk:off<=k/\k<off+F.size
 ·rw[aG hk,Fq (show k<c.size by omega),gK]
  simp only[lX,id];rw[aG hk,Fq (show k-off<F.size by omega),getElem!_pos F (k-off) (by omega)]
 ·rw[ax hk]
  cases c[k]? with
  |none=>rfl
  |some x=>simp only[lX];rw[ax hk]
theorem aaA {cf:E4->E4->Int} (h: ∀x y,decide (cf x y<0)=ef x y):SWO (Go.Proofs.ltOf cf):=by
 have e:Go.Proofs.ltOf cf=ef:=by
  funext x y;exact h x y
 rw[e];have irr: ∀x,ef x x=false:=fun x=>by
  cases e:ef x x with
  |false=>rfl
  |true=>have:=O5 e;rw[e]at this;cases this
 exact⟨irr,fun _ _ _=>O3,fun _ _ _=>ZxD⟩
theorem Zwg {C:aP} {ρ:Go.Shelf.Ren} (L:Go.Proofs.SlLaysF0.n6 C.P ρ) (aE: ∀w,(isAgg (ρ.t 24)).run C.P w= .ok true w) (zE: ∀w,(Go.sizeOf (ρ.t 24)).run C.P w= .ok 4 w) {f:FuncId} (hf:ρ.f 6=f) {fn:Func} (hfn:C.P.funcs[f]? =some fn) (nM:(fn.name== "runtime.NumGoroutine")=false) (hb:fn.body.isSome=true)
  {c':Zg} (KD:ZC C c') {fc:FuncId} (qW:C.cov fc=true) (hfc:C.fn fc=159) (XF: ∀k,C.cov k=true->C.fn k=159->k=fc) {Du:Func} (UR:C.P.funcs[fc]? =some Du) (UK:(Du.name== "runtime.NumGoroutine")=false) (fZ:Du.body.isSome=true) {N:Nat} (hN: ∀g,C.wL g=true->C.gl g<N)
  (cH: ∀x y,∃z s',c' 159 [.agg (oA x),.agg (oA y)] (List.replicate N none)=some (.val [.int .i64 z],s')/\decide (z<0)=ef x y):aL C CU f:=by
 subst hf;obtain⟨cf,qV⟩: ∃cf:E4->E4->Int,∀x y,(∃s',c' 159 [.agg (oA x),.agg (oA y)] (List.replicate N none)=some (.val [.int .i64 (cf x y)],s'))/\decide (cf x y<0)=ef x y:=
  ⟨fun x y=>Classical.choose (cH x y),fun x y=>let ⟨s',h1,h2⟩:=Classical.choose_spec (cH x y);⟨⟨s',h1⟩,h2⟩⟩
 have Xk: ¬Du.name= "runtime.NumGoroutine" :=by simpa using UK
 have eg: ∀args w,(callFunc fc args).run C.P w= .ok (.enter fc args) w:=by
  intro args w;cases cz:Du.body with
  |none=>rw[cz]at fZ;cases fZ
  |some c=>simp[callFunc,UR,Xk,cz]
 intro c n args s out _ h;unfold CU at h;split at h
 case h_2=>cases h
 rename_i a len;cases a with
 |none=>
  simp only at h;obtain⟨hn,h⟩:=Zp h;have hn:=cc hn;subst hn;cases h;refine⟨ay _,fun ψ w vs hs iC _ hv _ _=>?_⟩;cases hv with
  |cons _ _ _ _ a b=>
   cases b with
   |cons _ _ _ _ a2 b2=>
    cases b2;cases a with
    |oU=>
     refine ZlQ hfn nM hb ((Go.Proofs.AnyF.slices_SortFunc_none L none 0 _ w).mono ?_);rintro e w' ⟨rfl,rfl⟩;exact⟨_,rfl,ψ,⟨hs,Ext.refl _ _ _,fun h cb e=> .inl e⟩,.inr ⟨by simp,_,rfl,.nil⟩⟩
 |some p=>
  obtain⟨i,o⟩:=p;simp only at h;cases de:s.fH i with
  |none=>rw[de]at h;cases h
  |some cs=>
  rw[de]at h;simp only at h;cases hlen:Nat.ble (o+len*4) cs.length with
  |false=>rw[hlen]at h;cases h
  |true=>
  rw[hlen]at h;simp only[cond_true]at h;have hlen:=lW hlen;cases hl:uT ((cs.drop o).take (len*4))with
  |none=>rw[hl]at h;cases h
  |some l=>
  rw[hl]at h;simp only at h;cases hg:yx l&&Nat.ble len 1000000 with
  |false=>rw[hg]at h;cases h
  |true=>
  rw[hg]at h;simp only[cond_true]at h;rw[aH]at hg;have tx:=Oh hg.1;have hmx:=lW hg.2;have UL:=Zr2 hl;have iD:l.length=len:=by
   have:=congrArg List.length UL;rw[Ar,bW,dt]at this;omega
  cases h;obtain⟨bB,aj⟩:=O1 de;refine⟨by simp,fun ψ w vs hs iC yM hv _ _=>?_⟩;cases hv with
  |cons _ _ _ _ a b=>
  cases b with
  |cons _ _ _ _ a2 b2=>
  cases b2;cases a with
  |slice _ _ _ _ cb ad cap e1 e2 e3=>
  generalize hfd:DV.func 159 [] []=fd at a2;cases a2 with
  |func k _ _ vf vc hk h1 h2=>
  have hkk:C.fn k=159/\vf= #[]/\vc= #[]:=by
   injection hfd with g1 g2 g3
   subst g2 g3;refine⟨g1.symm,?_,?_⟩
   ·cases hx:vf.toList with
    |nil=>exact Array.toList_inj.1 hx
    |cons _ _=>rw[hx]at h1;cases h1
   ·cases hx:vc.toList with
    |nil=>exact Array.toList_inj.1 hx
    |cons _ _=>rw[hx]at h2;cases h2
  obtain⟨ig,rfl,rfl⟩:=hkk;have R9:=XF k hk ig;subst R9;have hh:=hs.holds (.inl i) cb _ e1 ⟨i,rfl,bB⟩;refine ZlQ hfn nM hb ?_;by_cases h0:len=0
  ·have:l=[]:=by cases l with|nil=>rfl|cons _ _=>simp at iD;omega
   subst this;subst h0;refine(Go.Proofs.AnyF.slices_SortFunc_none L (some ad) cap _ w).mono ?_;rintro e w' ⟨rfl,rfl⟩;have es:s.set i (some ⟨false,bC cs o (kb (iI []))⟩)=s:=by
    have e0:bC cs o (kb (iI []))=cs:=ZwY cs o;rw[e0];have hsi:s[i]? =some (some ⟨false,cs⟩):=by
     unfold St.fH at de;split at de
     ·rename_i cs' hc;cases de;exact hc
     ·cases de
    obtain⟨hi,he⟩:=cd.1 hsi;rw[<-he,List.set_getElem_self]
   rw[es];exact⟨_,rfl,ψ,⟨hs,Ext.refl _ _ _,fun h cb e=> .inl e⟩,.inr ⟨by simp,_,rfl,.nil⟩⟩
  obtain⟨rfl,UF⟩:=e3 (by omega);obtain⟨c0,ty,fr,hblk,abb,rf⟩:=hh.2.2.2 rfl;have sq: ∀j d,(kb l)[j]? =some d->cs[o+j]? =some d/\j<len*4:=by
   intro j d hd;rw[<-UL,lg]at hd;split at hd
   ·rw[lR]at hd;exact⟨hd,by assumption⟩
   ·cases hd
  have hH:HoldsK nC 4 w cb.b (cb.o+o) l.toArray:=by
   intro j hj;rw[size_flatK]at hj;have hj:j<l.length*4:=by simpa using hj
   obtain⟨dd,hd⟩: ∃d,(kb l)[j]? =some d:=⟨_,ba (by rw[Ar];exact hj)⟩;obtain⟨n,oK,mN⟩:=PB l j _ hd;obtain⟨g1,g2⟩:=sq j _ hd;refine⟨?_,?_⟩
   ·obtain⟨v,hv,hr⟩:=hh.2.2.1 _ _ g1
    rw[oK]at hr;cases hr;rw[<-lU]at hv;rw[hv];show _=some (flatK nC 4 l.toArray)[j]!;rw[mN]
   ·have:=rf (o+j) (by have:len*4<=cap*4:=uq 4 e2;omega)
    simp only[World.frozen?,hblk];rw[<-lU]at this;exact this
  have Xj:Go.Proofs.CmpLays C.P k #[] nC 4 cf cb.b (cb.o+o) l.toArray.size w:=by
   intro m os dk _ x y;have Kd:=ZAb KD hk hfc UR UK fZ hN (cf:=cf) (fun x y=>(qV x y).1) yM iC;exact Kd x y _ (by unfold Go.Proofs.sortWorldK;rw[size_grow,size_putRowK];show w.heap.size<=w.heap.size+_;omega)
  have con:=Go.Proofs.AnyQ.slices_SortFunc L 4 aE zE nC (fun _=>rfl) (fun x v hv=>by
   simp only[nC,bX,kA,iN]at hv;rcases hv with rfl|rfl|rfl|rfl<;>rfl) cf (aaA fun x y=>(qV x y).2) k #[] cb.b (cb.o+o) cap l.toArray w eg Xj hH (iC _ _ e1) (by simp;omega)
  rw[show l.toArray.size=len by simpa using iD]at con;refine con.mono ?_;rintro e w' ⟨rfl,d',n',os,X6,Yp,rfl⟩;have jw:d'=(iI l).toArray:=by
   obtain⟨bG,_,Sw⟩:=X6;have VE:d'.size=len:=by rw[bG];simpa using iD
   rw[<-VE,Array.extract_size]at Sw;rw[show d'.size=l.toArray.size by rw[bG],Array.extract_size]at Sw;have:d'.toList=iI l:=by
    refine Zqa Sw tx (List.pairwise_iff_getElem.2 fun a b ha hb dc=>?_);have:=Yp a b (bH _) dc (by simpa [VE]using hb);have e:Go.Proofs.ltOf cf d'[b]! d'[a]! =ef d'[b]! d'[a]! :=(qV _ _).2;rw[e,getElem!_pos d' b (by simpa using hb),getElem!_pos d' a (by simpa using ha)]at this;simpa using this
   rw[<-this]
  subst jw;have kM:aS C ψ (kb (iI l)) (flatK nC 4 (iI l).toArray).toList:=by
   have eC:(flatK nC 4 (iI l).toArray).toList.length=(iI l).length*4:=by rw[jC,size_flatK,List.size_toArray]
   refine aS.of _ _ (by rw[Ar];exact eC.symm) fun j d v h1 h2=>?_
   obtain⟨n,oK,mN⟩:=PB _ j d h1;rw[gK]at h2;rw[getElem!_def,h2]at mN;simp only at mN;rw[oK,mN];exact .int _ _
  have K4:(kb (iI l)).all one=true:=by
   rw[gv];intro d hd;obtain⟨j,hj⟩:=xR hd;obtain⟨n,oK,_⟩:=PB _ j d hj;rw[oK];rfl
  have eC:(flatK nC 4 (iI l).toArray).size=len*4:=by rw[size_flatK,List.size_toArray,OM,iD]
  obtain⟨w1,Vt,cg,hh1⟩:=IV (P:=C.P) (p:=o) hh kM K4 (by rw[Ar,OM,iD];exact hlen);have hle:o+len*4<=cb.m:=by have:len*4<=cap*4:=uq 4 e2;omega
  have Yf:=ML C.P cb.b (cb.o+o) ty fr (flatK nC 4 (iI l).toArray).toList 0 w c0 hblk (kM.V0 K4) (by rw[jC,eC];omega) (fun j _ hj=>by
   rw[jC,eC]at hj;have:=rf (o+j) (by omega);rw[<-lU]at this;exact this)
  rw[Yf]at Vt;injection Vt with _ cj
  subst cj;have Va:fF (jB w cb.b (.cells (mU c0 (cb.o+o+0) (flatK nC 4 (iI l).toArray).toList) ty fr)) (Go.Proofs.sortWorldK nC 4 w cb.b (cb.o+o) n' (iI l).toArray os):=by
   refine⟨fun b hb=>?_,?_,rfl,rfl,rfl,Nat.le_add_right _ _⟩
   ·rw[LJ]at hb
    show((w.heap.modify cb.b (onCells (putCells id (cb.o+o) (flatK nC 4 (iI l).toArray))))++os)[b]? =(w.heap.setIfInBounds cb.b _)[b]?;rw[Fp (by simpa using hb),Array.getElem?_modify];by_cases e:cb.b=b
    ·subst e
     rw[aG rfl,hblk,zL hb,lX];show some (Obj.cells (putCells id (cb.o+o) (flatK nC 4 (iI l).toArray) c0) ty fr)=_;rw[ZtZ _ _ _ (by rw[eC];omega)];rfl
    ·rw[ax e,xP e]
   ·rw[LJ]
    show w.heap.size<=((w.heap.modify cb.b _)++os).size;rw[Array.size_append,Array.size_modify];omega
  have w9: ∀h ab eN,ψ h=some eN->CS (s.set i (some ⟨false,bC cs o (kb (iI l))⟩)) h ab->ue (CS s) (.inl i) (.cells false (bC cs o (kb (iI l)))) h ab:=by
   rintro h ab eN _ ⟨j,rfl,q⟩;by_cases e:j=i
   ·subst e
    rw[ZlO aj]at q;cases q;exact .inl ⟨rfl,rfl⟩
   ·rw[Ii (fun e'=>e e'.symm)]at q
    exact .inr ⟨by simpa using e,j,rfl,q⟩
  refine⟨_,rfl,ψ,⟨?_,?_,fun h cb e=> .inl e⟩,.inr ⟨by simp,_,rfl,.nil⟩⟩
  ·exact((dU.set hs e1 ⟨i,rfl,bB⟩ rfl cg.other hh1).more (fun h cb e=>by rw[LJ];exact iC h cb e) Va).weaken w9
  ·exact((Ext.set e1 ⟨i,rfl,bB⟩ rfl cg.other cg.size cg.tape cg.os cg.output).trans (Ext.more Va)).weaken w9
  |_=>cases hfd
theorem ZBl {C:aP} {cov sub:List Nat} (qW:C.cov=has cov) {l:List (Nat×Body)} (hk:l.map (·.1)=sub.map C.fn) (hs:(sub.all fun g=>has cov g&&cov.all fun f=> !Nat.beq (C.fn f) (C.fn g)||Nat.beq f g)=true) (hB: ∀f∈sub,aL C (bdOf l (C.fn f)) f): ∀n,ZC C (run (bdOf l) n):=by
 have key: ∀g b,xC l g=some b->∃f∈sub,C.fn f=g:=by
  intro g b hb;have:=Qf hb;rw[hk]at this;obtain⟨f,hf,e⟩:=dP.1 this;exact⟨f,hf,e⟩
 rw[gv]at hs;refine JR (fun f hf=>?_) fun g hg c n args s=>?_
 ·cases hb:xC l (C.fn f)with
  |none=>
   intro c n args s out _ h;unfold bdOf at h;rw[hb]at h;cases h
  |some b=>
   obtain⟨f',vb,e⟩:=key _ b hb;have h1:=hs f' vb;rw[aH,gv]at h1;have h2:=h1.2 f ((Db cov f).1 (by rw[<-qW];exact hf));rw[<-e,uo]at h2;have:f=f':=cc (by simpa using h2);subst this;exact hB f vb
 ·unfold bdOf
  cases hb:xC l g with
  |none=>rfl
  |some b=>
   obtain⟨f',vb,e⟩:=key _ b hb;have h1:=hs f' vb;rw[aH]at h1;exact absurd e (hg f' (by rw[qW];exact h1.1))
theorem ZAO {Bd:Za} (h:yd Bd) (s:St) (x y:E4): ∃z s',run Bd 100 159 [.agg (oA x),.agg (oA y)] s=some (.val [.int .i64 z],s')/\decide (z<0)=ef x y:=by
 obtain⟨_,e,z,s',rfl,_,hz⟩:=F.Uu h 100 (by omega) ⟨x.1,x.2.1,x.2.2.1,x.2.2.2⟩ ⟨y.1,y.2.1,y.2.2.1,y.2.2.2⟩ s;refine⟨z,s',e,?_⟩;have h1:decide (z<0)=F.iA ⟨x.1,x.2.1,x.2.2.1,x.2.2.2⟩ ⟨y.1,y.2.1,y.2.2.1,y.2.2.2⟩:=by
  have:decide (z<0)= !decide (z>=0):=by
   by_cases hz:z<0
   ·rw[ah hz,ao (by omega)];rfl
   ·rw[ao hz,ah (by omega)];rfl
  rw[this,hz,Bool.not_not]
 rw[h1];unfold F.iA ef;by_cases h1:x.2.2.1=y.2.2.1
 ·by_cases h2:x.1=y.1<;>simp[h1,h2]
 ·simp[h1]
end Go.Gv
