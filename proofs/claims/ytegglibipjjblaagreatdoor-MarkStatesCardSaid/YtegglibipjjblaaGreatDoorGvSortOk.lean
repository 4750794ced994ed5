/- slices.SortFunc at entries: our body, joined to the kit's contract. -/
import Derived.Test.YtegglibipjjblaaGreatDoorGvZRun
import Derived.Test.YtegglibipjjblaaGreatDoorGvZBod
import Derived.Test.YtegglibipjjblaaGreatDoorGvZPf
import Derived.Shelf.SlSortCmp.WholeK
import Derived.Shelf.SlSortCmp.NoneTotal
namespace Go.Gv
open Go.Sort
def ZAg (P:Program) (g:Nat) (cf:E4->E4->Int) (w0:World):Prop:=
 ∀(x y:E4) (W:World),w0.heap.size<=W.heap.size->Calls P g #[.agg #[.int .i64 x.1,.int .i64 x.2.1,.int .i64 x.2.2.1,.int .i64 x.2.2.2],.agg #[.int .i64 y.1,.int .i64 y.2.1,.int .i64 y.2.2.1,.int .i64 y.2.2.2]] W fun e W'=>e= .returned (.int .i64 (cf x y))/\∃q RD,W'=grow (W.drewN q) RD
theorem Zzt {W W':World} (hs:W.heap.size<=W'.heap.size) (hk: ∀b,b<W.heap.size->W'.heap[b]? =W.heap[b]?) (ht:W'.tape=W.tape) (ho:W'.os=W.os) (hu:pW W W'): ∃q RD,W'=grow (W.drewN q) RD:=by
 refine⟨W'.drawn-W.drawn,W'.heap.extract W.heap.size W'.heap.size,?_⟩;have hd:W.drawn+(W'.drawn-W.drawn)=W'.drawn:=by have:=hu.2;omega
 have hh:W'.heap=W.heap++W'.heap.extract W.heap.size W'.heap.size:=by
  apply Eo;intro i;by_cases hi:i<W.heap.size
  ·rw[Ep hi,hk i hi]
  ·rw[Array.getElem?_append_right (by omega),Array.getElem?_extract]
   by_cases h2:i<W'.heap.size
   ·rw[aF (by omega),show W.heap.size+(i-W.heap.size)=i by omega]
   ·rw[ay (by omega),Array.getElem?_eq_none (by omega)]
 obtain⟨heap,tape,drawn,os,output⟩:=W';simp only at hd hh ht ho;have Bc:=hu.1;simp only at Bc;simp only[grow,World.drewN,hd,<-hh];subst ht ho Bc;rfl
theorem ZyY {C:aM} {c:Zg} (hc:ZA C c) {fc:FuncId} (qo:C.cov fc=true) (hfn:C.fn fc=159) {fn:Func} (hf:C.P.funcs[fc]? =some fn) (nB:(fn.name== "runtime.NumGoroutine")=false) (hb:fn.body.isSome=true) {N:Nat} (hN: ∀g,C.vU g=true->C.gl g<N)
  {cf:E4->E4->Int} (cD: ∀x y,∃s',c 159 [.agg (oi x),.agg (oi y)] (List.replicate N none)=some (.val [.int .i64 (cf x y)],s')) {ψ:Ps} {w:World} (hg:Glob C ψ) (jU:nW ψ w):ZAg C.P fc cf w:=by
 intro x y W hW;obtain⟨s',hr⟩:=cD x y
 let ψ':Ps:=fun h=>match h with
  | .inl i=>if i<N then ψ (.inl i)else none
  | .inr _=>none
 have no: ∀i ab,¬cj (List.replicate N none) i=some ab:=by
  intro i ab h;unfold cj at h;rw[y9]at h;split at h
  ·rename_i h2;split at h2<;>cases h2
  ·cases h
 have hs:dP C ψ' (CS (List.replicate N none)) W:=⟨fun h cb ab _ ⟨i,_,q⟩=>absurd q (no i ab),fun h cb ab h' eF bJ _ ⟨i,_,q⟩=>absurd q (no i ab)⟩;have Vw:nW ψ' W:=by
  intro h cb e;cases h with
  |inl i=>
   simp only[ψ']at e;split at e
   ·exact j5 (jU _ cb e) hW
   ·cases e
  |inr v=>cases e
 have wh:Glob C ψ':=fun g e=>by
  obtain⟨cb,e1,e2⟩:=hg g e;exact⟨cb,by simp only[ψ'];rw[aF (hN g e)];exact e1,e2⟩
 have hv:aR C ψ' [.agg (oi x),.agg (oi y)] [.agg #[.int .i64 x.1,.int .i64 x.2.1,.int .i64 x.2.2.1,.int .i64 x.2.2.2],.agg #[.int .i64 y.1,.int .i64 y.2.1,.int .i64 y.2.2.1,.int .i64 y.2.2.2]]:=by
  refine .cons _ _ _ _ (.agg _ _ ?_ rfl) (.cons _ _ _ _ (.agg _ _ ?_ rfl) .nil)
  ·exact .cons _ _ _ _ (.int _ _) (.cons _ _ _ _ (.int _ _) (.cons _ _ _ _ (.int _ _) (.cons _ _ _ _ (.int _ _) .nil)))
  ·exact .cons _ _ _ _ (.int _ _) (.cons _ _ _ _ (.int _ _) (.cons _ _ _ _ (.int _ _) (.cons _ _ _ _ (.int _ _) .nil)))
 have ok:=(hc 159 _ _ _ hr).2 fc qo hfn ψ' W _ hs Vw wh hv (fun _=>rfl) (fun i h1 _=>by
  simp only[ψ'];rw[ay (by simpa using h1)])
 have rE: ¬fn.name= "runtime.NumGoroutine" :=by simpa using nB
 have e: ∀vs,(callFunc fc vs).run C.P W= .ok (.enter fc vs) W:=by
  intro vs;cases cq:fn.body with
  |none=>rw[cq]at hb;cases hb
  |some c=>simp[callFunc,hf,rE,cq]
 unfold tV at ok;rw[e]at ok;refine Calls.mono ok fun en W' he=>?_
 cases en with
 |returned v=>
  obtain⟨ds,e1,iz,cp,rv⟩:=he;cases e1;refine⟨?_,Zzt cp.ext.size (fun b hb=>cp.ext.gx b hb fun⟨h,cb,ab,_,⟨i,_,q⟩,_⟩=>no i ab q) cp.ext.tape cp.ext.os cp.ext.output⟩;rcases rv with⟨d,h1,h2⟩|⟨h1,_⟩
  ·cases h1
   cases h2;rfl
  ·exact absurd rfl h1
 |panicked ch=>obtain⟨_,e1,_⟩:=he;cases e1
 |outgrown=>exact he.elim
def ni (x:E4):List Value:=[.int .i64 x.1,.int .i64 x.2.1,.int .i64 x.2.2.1,.int .i64 x.2.2.2]
theorem Zpk: ∀(l:List E4) (j:Nat),(jQ l)[j]? =match l[j/4]? with
  |some x=>(oi x)[j%4]?
  |none=>none
 |[],j=>by simp[jQ]
 |x::r,j=>by
  rw[jQ];by_cases h:j<4
  ·rw[iN (by exact h),show j/4=0 by omega,show j%4=j by omega]
   rfl
  ·rw[gN (by show 4<=j;omega),show(oi x).length=4 from rfl,Zpk r (j-4),show j/4=(j-4)/4+1 by omega,lU,show(j-4)%4=j%4 by omega]
theorem NR (l:List E4) (j:Nat) (d:DV) (hd:(jQ l)[j]? =some d): ∃n,d= .int .i64 n/\(flatK ni 4 l.toArray)[j]! = .int .i64 n:=by
 have hj:j<l.length*4:=by
  have:=(cw.1 hd).1
  rwa [zJ]at this
 rw[Zpk]at hd;rw[get_flatK ni 4 l.toArray j (by simpa using hj)];have hx:l[j/4]? =some l[j/4]:=ba (by omega);rw[hx]at hd;simp only at hd;have e:l.toArray[j/4]! =l[j/4]:=by
  rw[getElem!_pos l.toArray (j/4) (by simp;omega)];simp
 rw[e];generalize l[j/4]=x at hd⊢;have h4:j%4<4:=Nat.mod_lt _ (by decide);generalize j%4=m at hd h4⊢;rcases m with _|_|_|_|m
 ·cases hd;exact⟨_,rfl,rfl⟩
 ·cases hd;exact⟨_,rfl,rfl⟩
 ·cases hd;exact⟨_,rfl,rfl⟩
 ·cases hd;exact⟨_,rfl,rfl⟩
 ·omega
theorem Zti (off:Nat) (F c:Array Value) (h:off+F.size<=c.size):putCells id off F c=mG c off F.toList:=by
 apply Eo;intro k;rw[IA _ _ _ _ (by simpa using h),putCells,Array.getElem?_mapIdx,js];by_cases hk:off<=k/\k<off+F.size
 ·rw[aF hk,Er (show k<c.size by omega),gA]
  simp only[lD,id];rw[aF hk,Er (show k-off<F.size by omega),getElem!_pos F (k-off) (by omega)]
 ·rw[ay hk]
  cases c[k]? with
  |none=>rfl
  |some x=>simp only[lD];rw[ay hk]
theorem XO {cf:E4->E4->Int} (h: ∀x y,decide (cf x y<0)=dT x y):SWO (Go.Proofs.ltOf cf):=by
 have e:Go.Proofs.ltOf cf=dT:=by
  funext x y;exact h x y
 rw[e];have irr: ∀x,dT x x=false:=fun x=>by
  cases e:dT x x with
  |false=>rfl
  |true=>have:=Nr e;rw[e]at this;cases this
 exact⟨irr,fun _ _ _=>Nz,fun _ _ _=>Zww⟩
theorem ZuV {C:aM} {ρ:Go.Shelf.Ren} (L:Go.Proofs.SlLaysF0.n6 C.P ρ) (aE: ∀w,(isAgg (ρ.t 24)).run C.P w= .ok true w) (zE: ∀w,(Go.sizeOf (ρ.t 24)).run C.P w= .ok 4 w) {f:FuncId} (hf:ρ.f 6=f) {fn:Func} (hfn:C.P.funcs[f]? =some fn) (nB:(fn.name== "runtime.NumGoroutine")=false) (hb:fn.body.isSome=true)
  {c':Zg} (hc':ZA C c') {fc:FuncId} (qo:C.cov fc=true) (hfc:C.fn fc=159) (VX: ∀k,C.cov k=true->C.fn k=159->k=fc) {CL:Func} (To:C.P.funcs[fc]? =some CL) (Th:(CL.name== "runtime.NumGoroutine")=false) (gq:CL.body.isSome=true) {N:Nat} (hN: ∀g,C.vU g=true->C.gl g<N)
  (cD: ∀x y,∃z s',c' 159 [.agg (oi x),.agg (oi y)] (List.replicate N none)=some (.val [.int .i64 z],s')/\decide (z<0)=dT x y):aL C Cg f:=by
 subst hf;obtain⟨cf,qm⟩: ∃cf:E4->E4->Int,∀x y,(∃s',c' 159 [.agg (oi x),.agg (oi y)] (List.replicate N none)=some (.val [.int .i64 (cf x y)],s'))/\decide (cf x y<0)=dT x y:=
  ⟨fun x y=>Classical.choose (cD x y),fun x y=>let ⟨s',h1,h2⟩:=Classical.choose_spec (cD x y);⟨⟨s',h1⟩,h2⟩⟩
 have VB: ¬CL.name= "runtime.NumGoroutine" :=by simpa using Th
 have eg: ∀args w,(callFunc fc args).run C.P w= .ok (.enter fc args) w:=by
  intro args w;cases cq:CL.body with
  |none=>rw[cq]at gq;cases gq
  |some c=>simp[callFunc,To,VB,cq]
 intro c n args s out _ h;unfold Cg at h;split at h
 case h_2=>cases h
 rename_i a len;cases a with
 |none=>
  simp only at h;obtain⟨hn,h⟩:=Zp h;have hn:=bY hn;subst hn;cases h;refine⟨aA _,fun ψ w vs hs jU _ hv _ _=>?_⟩;cases hv with
  |cons _ _ _ _ a b=>
   cases b with
   |cons _ _ _ _ a2 b2=>
    cases b2;cases a with
    |oK=>
     refine Zlm hfn nB hb ((Go.Proofs.AnyF.slices_SortFunc_none L none 0 _ w).mono ?_);rintro e w' ⟨rfl,rfl⟩;exact⟨_,rfl,ψ,⟨hs,Ext.refl _ _ _,fun h cb e=> .inl e⟩,.inr ⟨by simp,_,rfl,.nil⟩⟩
 |some p=>
  obtain⟨i,o⟩:=p;simp only at h;cases dr:s.gy i with
  |none=>rw[dr]at h;cases h
  |some cs=>
  rw[dr]at h;simp only at h;cases hlen:Nat.ble (o+len*4) cs.length with
  |false=>rw[hlen]at h;cases h
  |true=>
  rw[hlen]at h;simp only[cond_true]at h;have hlen:=lC hlen;cases hl:uf ((cs.drop o).take (len*4))with
  |none=>rw[hl]at h;cases h
  |some l=>
  rw[hl]at h;simp only at h;cases hg:xJ l&&Nat.ble len 1000000 with
  |false=>rw[hg]at h;cases h
  |true=>
  rw[hg]at h;simp only[cond_true]at h;rw[aH]at hg;have sR:=Nf hg.1;have hmx:=lC hg.2;have Ti:=Zq9 hl;have il:l.length=len:=by
   have:=congrArg List.length Ti;rw[zJ,cn,ej]at this;omega
  cases h;obtain⟨bE,aj⟩:=Nb dr;refine⟨by simp,fun ψ w vs hs jU yc hv _ _=>?_⟩;cases hv with
  |cons _ _ _ _ a b=>
  cases b with
  |cons _ _ _ _ a2 b2=>
  cases b2;cases a with
  |slice _ _ _ _ cb ad cap e1 e2 e3=>
  generalize hfd:DV.func 159 [] []=fd at a2;cases a2 with
  |func k _ _ vf vc hk h1 h2=>
  have hkk:C.fn k=159/\vf= #[]/\vc= #[]:=by
   injection hfd with g1 g2 g3
   subst g2 g3;refine⟨g1.symm,?_,?_⟩
   ·cases hx:vf.toList with
    |nil=>exact Array.toList_inj.1 hx
    |cons _ _=>rw[hx]at h1;cases h1
   ·cases hx:vc.toList with
    |nil=>exact Array.toList_inj.1 hx
    |cons _ _=>rw[hx]at h2;cases h2
  obtain⟨jE,rfl,rfl⟩:=hkk;have QB:=VX k hk jE;subst QB;have hh:=hs.holds (.inl i) cb _ e1 ⟨i,rfl,bE⟩;refine Zlm hfn nB hb ?_;by_cases h0:len=0
  ·have:l=[]:=by cases l with|nil=>rfl|cons _ _=>simp at il;omega
   subst this;subst h0;refine(Go.Proofs.AnyF.slices_SortFunc_none L (some ad) cap _ w).mono ?_;rintro e w' ⟨rfl,rfl⟩;have es:s.set i (some ⟨false,bN cs o (jQ (ix []))⟩)=s:=by
    have e0:bN cs o (jQ (ix []))=cs:=Zv3 cs o;rw[e0];have hsi:s[i]? =some (some ⟨false,cs⟩):=by
     unfold St.gy at dr;split at dr
     ·rename_i cs' hc;cases dr;exact hc
     ·cases dr
    obtain⟨hi,he⟩:=cw.1 hsi;rw[<-he,List.set_getElem_self]
   rw[es];exact⟨_,rfl,ψ,⟨hs,Ext.refl _ _ _,fun h cb e=> .inl e⟩,.inr ⟨by simp,_,rfl,.nil⟩⟩
  obtain⟨rfl,Td⟩:=e3 (by omega);obtain⟨c0,ty,fr,hblk,Yi,qA⟩:=hh.2.2.2 rfl;have rH: ∀j d,(jQ l)[j]? =some d->cs[o+j]? =some d/\j<len*4:=by
   intro j d hd;rw[<-Ti,mR]at hd;split at hd
   ·rw[nR]at hd;exact⟨hd,by assumption⟩
   ·cases hd
  have hH:HoldsK ni 4 w cb.b (cb.o+o) l.toArray:=by
   intro j hj;rw[size_flatK]at hj;have hj:j<l.length*4:=by simpa using hj
   obtain⟨dd,hd⟩: ∃d,(jQ l)[j]? =some d:=⟨_,ba (by rw[zJ];exact hj)⟩;obtain⟨n,oy,mw⟩:=NR l j _ hd;obtain⟨g1,g2⟩:=rH j _ hd;refine⟨?_,?_⟩
   ·obtain⟨v,hv,hr⟩:=hh.2.2.1 _ _ g1
    rw[oy]at hr;cases hr;rw[<-lA]at hv;rw[hv];show _=some (flatK ni 4 l.toArray)[j]!;rw[mw]
   ·have:=qA (o+j) (by have:len*4<=cap*4:=tH 4 e2;omega)
    simp only[World.frozen?,hblk];rw[<-lA]at this;exact this
  have VA:Go.Proofs.CmpLays C.P k #[] ni 4 cf cb.b (cb.o+o) l.toArray.size w:=by
   intro m os dk _ x y;have I9:=ZyY hc' hk hfc To Th gq hN (cf:=cf) (fun x y=>(qm x y).1) yc jU;exact I9 x y _ (by unfold Go.Proofs.sortWorldK;rw[size_grow,size_putRowK];show w.heap.size<=w.heap.size+_;omega)
  have con:=Go.Proofs.AnyQ.slices_SortFunc L 4 aE zE ni (fun _=>rfl) (fun x v hv=>by
   simp only[ni,cd,j4,iB]at hv;rcases hv with rfl|rfl|rfl|rfl<;>rfl) cf (XO fun x y=>(qm x y).2) k #[] cb.b (cb.o+o) cap l.toArray w eg VA hH (jU _ _ e1) (by simp;omega)
  rw[show l.toArray.size=len by simpa using il]at con;refine con.mono ?_;rintro e w' ⟨rfl,d',n',os,Wu,WK,rfl⟩;have jh:d'=(ix l).toArray:=by
   obtain⟨bC,_,QR⟩:=Wu;have T6:d'.size=len:=by rw[bC];simpa using il
   rw[<-T6,Array.extract_size]at QR;rw[show d'.size=l.toArray.size by rw[bC],Array.extract_size]at QR;have:d'.toList=ix l:=by
    refine ZoE QR sR (List.pairwise_iff_getElem.2 fun a b ha hb cR=>?_);have:=WK a b (bH _) cR (by simpa [T6]using hb);have e:Go.Proofs.ltOf cf d'[b]! d'[a]! =dT d'[b]! d'[a]! :=(qm _ _).2;rw[e,getElem!_pos d' b (by simpa using hb),getElem!_pos d' a (by simpa using ha)]at this;simpa using this
   rw[<-this]
  subst jh;have kq:aR C ψ (jQ (ix l)) (flatK ni 4 (ix l).toArray).toList:=by
   have eI:(flatK ni 4 (ix l).toArray).toList.length=(ix l).length*4:=by rw[js,size_flatK,List.size_toArray]
   refine aR.of _ _ (by rw[zJ];exact eI.symm) fun j d v h1 h2=>?_
   obtain⟨n,oy,mw⟩:=NR _ j d h1;rw[gA]at h2;rw[getElem!_def,h2]at mw;simp only at mw;rw[oy,mw];exact .int _ _
  have JF:(jQ (ix l)).all one=true:=by
   rw[gm];intro d hd;obtain⟨j,hj⟩:=w9 hd;obtain⟨n,oy,_⟩:=NR _ j d hj;rw[oy];rfl
  have eI:(flatK ni 4 (ix l).toArray).size=len*4:=by rw[size_flatK,List.size_toArray,NO,il]
  obtain⟨w1,TZ,cu,hh1⟩:=H8 (P:=C.P) (p:=o) hh kq JF (by rw[zJ,NO,il];exact hlen);have hle:o+len*4<=cb.m:=by have:len*4<=cap*4:=tH 4 e2;omega
  have WC:=Ly C.P cb.b (cb.o+o) ty fr (flatK ni 4 (ix l).toArray).toList 0 w c0 hblk (kq.Uu JF) (by rw[js,eI];omega) (fun j _ hj=>by
   rw[js,eI]at hj;have:=qA (o+j) (by omega);rw[<-lA]at this;exact this)
  rw[WC]at TZ;injection TZ with _ cc
  subst cc;have TK:fq (jn w cb.b (.cells (mG c0 (cb.o+o+0) (flatK ni 4 (ix l).toArray).toList) ty fr)) (Go.Proofs.sortWorldK ni 4 w cb.b (cb.o+o) n' (ix l).toArray os):=by
   refine⟨fun b hb=>?_,?_,rfl,rfl,rfl,Nat.le_add_right _ _⟩
   ·rw[Kj]at hb
    show((w.heap.modify cb.b (onCells (putCells id (cb.o+o) (flatK ni 4 (ix l).toArray))))++os)[b]? =(w.heap.setIfInBounds cb.b _)[b]?;rw[Ep (by simpa using hb),Array.getElem?_modify];by_cases e:cb.b=b
    ·subst e
     rw[aF rfl,hblk,yX hb,lD];show some (Obj.cells (putCells id (cb.o+o) (flatK ni 4 (ix l).toArray) c0) ty fr)=_;rw[Zti _ _ _ (by rw[eI];omega)];rfl
    ·rw[ay e,wY e]
   ·rw[Kj]
    show w.heap.size<=((w.heap.modify cb.b _)++os).size;rw[Array.size_append,Array.size_modify];omega
  have wu: ∀h ab eF,ψ h=some eF->CS (s.set i (some ⟨false,bN cs o (jQ (ix l))⟩)) h ab->tx (CS s) (.inl i) (.cells false (bN cs o (jQ (ix l)))) h ab:=by
   rintro h ab eF _ ⟨j,rfl,q⟩;by_cases e:j=i
   ·subst e
    rw[Zlj aj]at q;cases q;exact .inl ⟨rfl,rfl⟩
   ·rw[Ht (fun e'=>e e'.symm)]at q
    exact .inr ⟨by simpa using e,j,rfl,q⟩
  refine⟨_,rfl,ψ,⟨?_,?_,fun h cb e=> .inl e⟩,.inr ⟨by simp,_,rfl,.nil⟩⟩
  ·exact((dP.set hs e1 ⟨i,rfl,bE⟩ rfl cu.other hh1).more (fun h cb e=>by rw[Kj];exact jU h cb e) TK).weaken wu
  ·exact((Ext.set e1 ⟨i,rfl,bE⟩ rfl cu.other cu.size cu.tape cu.os cu.output).trans (Ext.more TK)).weaken wu
  |_=>cases hfd
theorem ZAC {C:aM} {cov sub:List Nat} (qo:C.cov=has cov) {l:List (Nat×Body)} (hk:l.map (·.1)=sub.map C.fn) (hs:(sub.all fun g=>has cov g&&cov.all fun f=> !Nat.beq (C.fn f) (C.fn g)||Nat.beq f g)=true) (hB: ∀f∈sub,aL C (bdOf l (C.fn f)) f): ∀n,ZA C (run (bdOf l) n):=by
 have key: ∀g b,wN l g=some b->∃f∈sub,C.fn f=g:=by
  intro g b hb;have:=Oh hb;rw[hk]at this;obtain⟨f,hf,e⟩:=dE.1 this;exact⟨f,hf,e⟩
 rw[gm]at hs;refine IK (fun f hf=>?_) fun g hg c n args s=>?_
 ·cases hb:wN l (C.fn f)with
  |none=>
   intro c n args s out _ h;unfold bdOf at h;rw[hb]at h;cases h
  |some b=>
   obtain⟨f',ur,e⟩:=key _ b hb;have h1:=hs f' ur;rw[aH,gm]at h1;have h2:=h1.2 f ((Cj cov f).1 (by rw[<-qo];exact hf));rw[<-e,tG]at h2;have:f=f':=bY (by simpa using h2);subst this;exact hB f ur
 ·unfold bdOf
  cases hb:wN l g with
  |none=>rfl
  |some b=>
   obtain⟨f',ur,e⟩:=key _ b hb;have h1:=hs f' ur;rw[aH]at h1;exact absurd e (hg f' (by rw[qo];exact h1.1))
theorem ZzG {Bd:Za} (h:xq Bd) (s:St) (x y:E4): ∃z s',run Bd 100 159 [.agg (oi x),.agg (oi y)] s=some (.val [.int .i64 z],s')/\decide (z<0)=dT x y:=by
 obtain⟨_,e,z,s',rfl,_,hz⟩:=F.SU h 100 (by omega) ⟨x.1,x.2.1,x.2.2.1,x.2.2.2⟩ ⟨y.1,y.2.1,y.2.2.1,y.2.2.2⟩ s;refine⟨z,s',e,?_⟩;have h1:decide (z<0)=F.hY ⟨x.1,x.2.1,x.2.2.1,x.2.2.2⟩ ⟨y.1,y.2.1,y.2.2.1,y.2.2.2⟩:=by
  have:decide (z<0)= !decide (z>=0):=by
   by_cases hz:z<0
   ·rw[ah hz,ao (by omega)];rfl
   ·rw[ao hz,ah (by omega)];rfl
  rw[this,hz,Bool.not_not]
 rw[h1];unfold F.hY dT;by_cases h1:x.2.2.1=y.2.2.1
 ·by_cases h2:x.1=y.1<;>simp[h1,h2]
 ·simp[h1]
end Go.Gv
