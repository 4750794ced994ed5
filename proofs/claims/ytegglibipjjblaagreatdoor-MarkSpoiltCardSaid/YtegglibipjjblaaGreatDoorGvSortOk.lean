/- slices.SortFunc at entries: our body, joined to the kit's contract. -/
import Derived.Test.YtegglibipjjblaaGreatDoorGvZRun
import Derived.Test.YtegglibipjjblaaGreatDoorGvZBod
import Derived.Test.YtegglibipjjblaaGreatDoorGvZPf
import Derived.Shelf.SlSortCmp.WholeK
import Derived.Shelf.SlSortCmp.NoneTotal
namespace Go.Gv
open Go.Sort
def Zxb (P:Program) (g:Nat) (cf:E4->E4->Int) (w0:World):Prop:=
 ∀(x y:E4) (W:World),w0.heap.size<=W.heap.size->Calls P g #[.agg #[.int .i64 x.1,.int .i64 x.2.1,.int .i64 x.2.2.1,.int .i64 x.2.2.2],.agg #[.int .i64 y.1,.int .i64 y.2.1,.int .i64 y.2.2.1,.int .i64 y.2.2.2]] W λe W'=>e= .returned (.int .i64 (cf x y))/\∃q WB,W'=grow (W.drewN q) WB
variable {cf:E4->E4->Int} {f fc:FuncId} {N:Nat} {W W' w:World} {c c':Zf} {C:bB}
theorem ZxM (hs:W.heap.size<=W'.heap.size) (hk: ∀b,b<W.heap.size->W'.heap[b]? =W.heap[b]?) (ht:W'.tape=W.tape) (ho:W'.os=W.os) (hu:tW W W'): ∃q WB,W'=grow (W.drewN q) WB:=by
 refine⟨W'.drawn-W.drawn,W'.heap.extract W.heap.size W'.heap.size,?_⟩;have hd:W.drawn+(W'.drawn-W.drawn)=W'.drawn:=by have:=hu.2;omega
 have hh:W'.heap=W.heap++W'.heap.extract W.heap.size W'.heap.size:=by
  grind
 obtain⟨heap,tape,drawn,os,output⟩:=W';simp only at hd hh ht ho;have zg:=hu.1;simp only at zg;simp only[grow,World.drewN,hd,<-hh];subst ht ho zg;rfl
theorem Zwf (hc:ZQ C c) (vL:C.cov fc=true) (hfn:C.fn fc=159) {fn:Func} (hf:C.P.funcs[fc]? =some fn) (qN:(fn.name== "runtime.NumGoroutine")=false) (hb:fn.body.isSome=true) (hN: ∀g,C.AM g=true->C.gl g<N) (dO: ∀x y,∃s',c 159 [.agg (rU x),.agg (rU y)] (List.replicate N none)=some (.val [.int .i64 (cf x y)],s')) {ψ:Ps} (hg:Glob C ψ) (gR:rz ψ w):Zxb C.P fc cf w:=by
 intro x y W hW;obtain⟨s',hr⟩:=dO x y
 let ψ':Ps:=λh=>match h with
  | .inl i=>if i<N then ψ (.inl i)else none
  | .inr _=>none
 have no: ∀i ab,¬dc (List.replicate N none) i=some ab:=by
  grind[dc]
 have hs:fa C ψ' (CS (List.replicate N none)) W:=⟨λh cb ab _ ⟨i,_,q⟩=>absurd q (no i ab),λh cb ab h' fM cR _ ⟨i,_,q⟩=>absurd q (no i ab)⟩;have ad7:rz ψ' W:=by
  intro h cb e;cases h with
  |inl i=>
   simp only[ψ']at e;split at e
   .exact lE (gR _ cb e) hW
   .cases e
  |inr v=>cases e
 have A9:Glob C ψ':=λg e=>by
  obtain⟨cb,e1,e2⟩:=hg g e;grind
 have hv:bE C ψ' [.agg (rU x),.agg (rU y)] [.agg #[.int .i64 x.1,.int .i64 x.2.1,.int .i64 x.2.2.1,.int .i64 x.2.2.2],.agg #[.int .i64 y.1,.int .i64 y.2.1,.int .i64 y.2.2.1,.int .i64 y.2.2.2]]:=by
  refine .cons _ _ _ _ (.agg _ _ ?_ rfl) (.cons _ _ _ _ (.agg _ _ ?_ rfl) .nil)
  .exact .cons _ _ _ _ (.int _ _) (.cons _ _ _ _ (.int _ _) (.cons _ _ _ _ (.int _ _) (.cons _ _ _ _ (.int _ _) .nil)))
  .exact .cons _ _ _ _ (.int _ _) (.cons _ _ _ _ (.int _ _) (.cons _ _ _ _ (.int _ _) (.cons _ _ _ _ (.int _ _) .nil)))
 have ok:=(hc 159 _ _ _ hr).2 fc vL hfn ψ' W _ hs ad7 A9 hv (λ_=>rfl) (λi h1 _=>by
  grind)
 have vS: ¬fn.name= "runtime.NumGoroutine" :=by simpa using qN
 have e: ∀vs,(callFunc fc vs).run C.P W= .ok (.enter fc vs) W:=by
  intro vs;cases ep:fn.body with
  |none=>rw[ep]at hb;cases hb
  |some c=>simp[callFunc,hf,vS,ep]
 unfold yx at ok;rw[e]at ok;refine Calls.mono ok λen W' he=>?_
 cases en with
 |returned v=>
  obtain⟨ds,e1,jU,cp,rv⟩:=he;cases e1;refine⟨?_,ZxM cp.ext.size (λb hb=>cp.ext.jB b hb λ⟨h,cb,ab,_,⟨i,_,q⟩,_⟩=>no i ab q) cp.ext.tape cp.ext.os cp.ext.output⟩;rcases rv with⟨d,h1,h2⟩|⟨h1,_⟩
  .cases h1
   cases h2;rfl
  .exact absurd rfl h1
 |panicked ch=>grind
 |outgrown=>exact he.elim
def rX (x:E4):List Value:=[.int .i64 x.1,.int .i64 x.2.1,.int .i64 x.2.2.1,.int .i64 x.2.2.2]
theorem ZnR: ∀(l:List E4) (j:Nat),(ml l)[j]? =match l[j/4]? with
  |some x=>(rU x)[j%4]?
  |none=>none
 |[],j=>by simp[ml]
 |x::r,j=>by
  rw[ml];by_cases h:j<4
  .rw[l8 (by exact h),show j/4=0 by omega,show j%4=j by omega]
   rfl
  .rw[jY (by show 4<=j;omega),show(rU x).length=4 from rfl,ZnR r (j-4),show j/4=(j-4)/4+1 by omega,qb,show(j-4)%4=j%4 by omega]
theorem SQ (l:List E4) (j:Nat) (d:DV) (hd:(ml l)[j]? =some d): ∃n,d= .int .i64 n/\(flatK rX 4 l.toArray)[j]! = .int .i64 n:=by
 have hj:j<l.length*4:=by
  have:=(dB.1 hd).1;rwa [Ek]at this
 rw[ZnR]at hd;rw[get_flatK rX 4 l.toArray j (by simpa using hj)];have hx:l[j/4]? =some l[j/4]:=by simp
 rw[hx]at hd;simp only at hd;have e:l.toArray[j/4]! =l[j/4]:=by
  rw[getElem!_pos l.toArray (j/4) (by simp;omega)];simp
 rw[e];generalize l[j/4]=x at hd⊢;have h4:j%4<4:=Nat.mod_lt _ (by decide);generalize j%4=m at hd h4⊢;rcases m with _|_|_|_|m
 .cases hd;exact⟨_,rfl,rfl⟩
 .cases hd;exact⟨_,rfl,rfl⟩
 .cases hd;exact⟨_,rfl,rfl⟩
 .cases hd;exact⟨_,rfl,rfl⟩
 .omega
theorem Zsl (off:Nat) (F c:Array Value) (h:off+F.size<=c.size):putCells id off F c=pY c off F.toList:=by
 apply Array.ext_getElem?;intro k;rw[LB _ _ _ _ (by simpa using h),putCells,Array.getElem?_mapIdx,lZ];by_cases hk:off<=k/\k<off+F.size
 .rw[bw hk,Array.getElem?_eq_getElem (show k<c.size by omega),jE]
  grind
 grind
theorem agB (h: ∀x y,decide (cf x y<0)=fp x y):SWO (Go.Proofs.ltOf cf):=by
 have e:Go.Proofs.ltOf cf=fp:=by
  funext x y;exact h x y
 rw[e];have irr: ∀x,fp x x=false:=λx=>by
  cases e:fp x x with
  |false=>rfl
  |true=>have:=Se e;rw[e]at this;cases this
 exact⟨irr,λ_ _ _=>Ss,λ_ _ _=>Zul⟩
theorem ZsP {ρ:Go.Shelf.Ren} (L:Go.Proofs.SlLaysF0.n6 C.P ρ) (aE: ∀w,(isAgg (ρ.t 24)).run C.P w= .ok true w) (zE: ∀w,(Go.sizeOf (ρ.t 24)).run C.P w= .ok 4 w) (hf:ρ.f 6=f) {fn:Func} (hfn:C.P.funcs[f]? =some fn) (qN:(fn.name== "runtime.NumGoroutine")=false) (hb:fn.body.isSome=true) (hc':ZQ C c') (vL:C.cov fc=true) (MH:C.fn fc=159) (aex: ∀k,C.cov k=true->C.fn k=159->k=fc) {HP:Func} (X5:C.P.funcs[fc]? =some HP) (XY:(HP.name== "runtime.NumGoroutine")=false) (iK:HP.body.isSome=true) (hN: ∀g,C.AM g=true->C.gl g<N)
  (dO: ∀x y,∃z s',c' 159 [.agg (rU x),.agg (rU y)] (List.replicate N none)=some (.val [.int .i64 z],s')/\decide (z<0)=fp x y):tP C Hh f:=by
 subst hf;obtain⟨cf,uH⟩: ∃cf:E4->E4->Int,∀x y,(∃s',c' 159 [.agg (rU x),.agg (rU y)] (List.replicate N none)=some (.val [.int .i64 (cf x y)],s'))/\decide (cf x y<0)=fp x y:=
  ⟨λx y=>Classical.choose (dO x y),by grind⟩
 have aec: ¬HP.name= "runtime.NumGoroutine" :=by simpa using XY
 have eg: ∀args w,(callFunc fc args).run C.P w= .ok (.enter fc args) w:=by
  intro args w;cases ep:HP.body with
  |none=>rw[ep]at iK;cases iK
  |some c=>simp[callFunc,X5,aec,ep]
 intro c n args s out _ h;unfold Hh at h;split at h
 case h_2=>cases h
 rename_i a len;cases a with
 |none=>
  simp only at h;obtain⟨hn,h⟩:=Zp h;have hn:=dy hn;subst hn;cases h;refine⟨aL _,λψ w vs hs gR _ hv _ _=>?_⟩;cases hv with
  |cons _ _ _ _ a b=>
   cases b with
   |cons _ _ _ _ a2 b2=>
    cases b2;cases a with
    |sG=>
     refine ZkR hfn qN hb ((Go.Proofs.AnyF.slices_SortFunc_none L none 0 _ w).mono ?_);rintro e w' ⟨rfl,rfl⟩;exact⟨_,rfl,ψ,⟨hs,Ext.refl _ _ _,λh cb e=> .inl e⟩,.inr ⟨by simp,_,rfl,.nil⟩⟩
 |some p=>
  obtain⟨i,o⟩:=p;simp only at h;cases ef:s.gE i with
  |none=>rw[ef]at h;cases h
  |some cs=>
  rw[ef]at h;simp only at h;cases hlen:Nat.ble (o+len*4) cs.length with
  |false=>rw[hlen]at h;cases h
  |true=>
  rw[hlen]at h;simp only[ae]at h;have hlen:=pj hlen;cases hl:yJ ((cs.drop o).take (len*4))with
  |none=>rw[hl]at h;cases h
  |some l=>
  rw[hl]at h;simp only at h;cases hg:Cy l&&Nat.ble len 1000000 with
  |false=>rw[hg]at h;cases h
  |true=>
  rw[hg]at h;simp only[ae]at h;rw[aR]at hg;have xA:=Si hg.1;have hmx:=pj hg.2;have UW:=ZpC hl;have gZ:l.length=len:=by
   have:=congrArg List.length UW;rw[Ek,cz,dT]at this;omega
  cases h;obtain⟨ca,ax⟩:=Sq ef;refine⟨by simp,λψ w vs hs gR CY hv _ _=>?_⟩;cases hv with
  |cons _ _ _ _ a b=>
  cases b with
  |cons _ _ _ _ a2 b2=>
  cases b2;cases a with
  |slice _ _ _ _ cb ad cap e1 e2 e3=>
  generalize MI:DV.func 159 [] []=fd at a2;cases a2 with
  |func k _ _ vf vc hk h1 h2=>
  have hkk:C.fn k=159/\vf= #[]/\vc= #[]:=by
   injection MI with g1 g2 g3
   subst g2 g3;refine⟨g1.symm,?_,?_⟩
   .cases hx:vf.toList with
    |nil=>grind
    |cons _ _=>rw[hx]at h1;cases h1
   .cases hx:vc.toList with
    |nil=>grind
    |cons _ _=>rw[hx]at h2;cases h2
  obtain⟨jx,rfl,rfl⟩:=hkk;have hkf:=aex k hk jx;subst hkf;have hh:=hs.holds (.inl i) cb _ e1 ⟨i,rfl,ca⟩;refine ZkR hfn qN hb ?_;by_cases h0:len=0
  .have:l=[]:=by grind
   subst this;subst h0;refine(Go.Proofs.AnyF.slices_SortFunc_none L (some ad) cap _ w).mono ?_;rintro e w' ⟨rfl,rfl⟩;have es:s.set i (some ⟨false,cw cs o (ml (jS []))⟩)=s:=by
    have e0:cw cs o (ml (jS []))=cs:=Ztt cs o;rw[e0];have hsi:s[i]? =some (some ⟨false,cs⟩):=by
     unfold St.gE at ef;grind
    obtain⟨hi,he⟩:=dB.1 hsi;rw[<-he,List.set_getElem_self]
   rw[es];exact⟨_,rfl,ψ,⟨hs,Ext.refl _ _ _,λh cb e=> .inl e⟩,.inr ⟨by simp,_,rfl,.nil⟩⟩
  obtain⟨rfl,XV⟩:=e3 (by omega);obtain⟨c0,ty,fr,hblk,ahk,vO⟩:=hh.2.2.2 rfl;have ze: ∀j d,(ml l)[j]? =some d->cs[o+j]? =some d/\j<len*4:=by
   grind
  have hH:HoldsK rX 4 w cb.b (cb.o+o) l.toArray:=by
   intro j hj;rw[size_flatK]at hj;have hj:j<l.length*4:=by simpa using hj
   obtain⟨dd,hd⟩: ∃d,(ml l)[j]? =some d:=⟨_,bU (by rw[Ek];exact hj)⟩;obtain⟨n,C7,vR⟩:=SQ l j _ hd;obtain⟨g1,g2⟩:=ze j _ hd;refine⟨?_,?_⟩
   .obtain⟨v,hv,hr⟩:=hh.2.2.1 _ _ g1
    rw[C7]at hr;cases hr;rw[<-tO]at hv;rw[hv];grind
   .have:=vO (o+j) (by have:len*4<=cap*4:=DN 4 e2;omega)
    simp only[World.frozen?,hblk];rw[<-tO]at this;exact this
  have MC:Go.Proofs.CmpLays C.P k #[] rX 4 cf cb.b (cb.o+o) l.toArray.size w:=by
   intro m os dk _ x y;have yN:=Zwf hc' hk MH X5 XY iK hN (cf:=cf) (λx y=>(uH x y).1) CY gR;exact yN x y _ (by unfold Go.Proofs.sortWorldK;rw[size_grow,size_putRowK];show w.heap.size<=w.heap.size+_;omega)
  have con:=Go.Proofs.AnyQ.slices_SortFunc L 4 aE zE rX (λ_=>rfl) (λx v hv=>by
   simp only[rX,dC,sM,oe]at hv;rcases hv with rfl|rfl|rfl|rfl<;>rfl) cf (agB λx y=>(uH x y).2) k #[] cb.b (cb.o+o) cap l.toArray w eg MC hH (gR _ _ e1) (by simp;omega)
  rw[show l.toArray.size=len by simpa using gZ]at con;refine con.mono ?_;rintro e w' ⟨rfl,d',n',os,afd,afG,rfl⟩;have oJ:d'=(jS l).toArray:=by
   obtain⟨cB,_,VF⟩:=afd;have YP:d'.size=len:=by rw[cB];simpa using gZ
   rw[<-YP,Array.extract_size]at VF;rw[show d'.size=l.toArray.size by rw[cB],Array.extract_size]at VF;have:d'.toList=jS l:=by
    refine ZnV VF xA (N7.2 λa b ha hb eX=>?_);have:=afG a b (cn _) eX (by simpa [YP]using hb);have e:Go.Proofs.ltOf cf d'[b]! d'[a]! =fp d'[b]! d'[a]! :=(uH _ _).2;rw[e,getElem!_pos d' b (by simpa using hb),getElem!_pos d' a (by simpa using ha)]at this;simpa using this
   rw[<-this]
  subst oJ;have mZ:bE C ψ (ml (jS l)) (flatK rX 4 (jS l).toArray).toList:=by
   have eu:(flatK rX 4 (jS l).toArray).toList.length=(jS l).length*4:=by rw[lZ,size_flatK,List.size_toArray]
   refine bE.of _ _ (by rw[Ek];exact eu.symm) λj d v h1 h2=>?_
   obtain⟨n,C7,vR⟩:=SQ _ j d h1;rw[jE]at h2;rw[getElem!_def,h2]at vR;simp only at vR;rw[C7,vR];exact .int _ _
  have M3:(ml (jS l)).all one=true:=by
   rw[lA];intro d hd;obtain⟨j,hj⟩:=DI hd;obtain⟨n,C7,_⟩:=SQ _ j d hj;rw[C7];rfl
  have eu:(flatK rX 4 (jS l).toArray).size=len*4:=by rw[size_flatK,List.size_toArray,Sm,gZ]
  obtain⟨w1,YI,db,hh1⟩:=KZ (P:=C.P) (p:=o) hh mZ M3 (by rw[Ek,Sm,gZ];exact hlen);have afx:=PW C.P cb.b (cb.o+o) ty fr (flatK rX 4 (jS l).toArray).toList 0 w c0 hblk (mZ.aad M3) (by rw[lZ,eu];omega) (by grind);rw[afx]at YI;injection YI with _ cG
  subst cG;have Yo:gQ (ly w cb.b (.cells (pY c0 (cb.o+o+0) (flatK rX 4 (jS l).toArray).toList) ty fr)) (Go.Proofs.sortWorldK rX 4 w cb.b (cb.o+o) n' (jS l).toArray os):=by
   refine⟨λb hb=>?_,?_,rfl,rfl,rfl,Nat.le_add_right _ _⟩
   .rw[NO]at hb
    show((w.heap.modify cb.b (onCells (putCells id (cb.o+o) (flatK rX 4 (jS l).toArray))))++os)[b]? =(w.heap.setIfInBounds cb.b _)[b]?;rw[N3 (by simpa using hb),Array.getElem?_modify];by_cases e:cb.b=b
    .subst e
     rw[bw rfl,hblk,N4 hb,mb];show some (Obj.cells (putCells id (cb.o+o) (flatK rX 4 (jS l).toArray) c0) ty fr)=_;rw[Zsl _ _ _ (by rw[eu];omega)];rfl
    grind
   .rw[NO]
    show w.heap.size<=((w.heap.modify cb.b _)++os).size;rw[Array.size_append,Array.size_modify];omega
  have oO: ∀h ab fM,ψ h=some fM->CS (s.set i (some ⟨false,cw cs o (ml (jS l))⟩)) h ab->ye (CS s) (.inl i) (.cells false (cw cs o (ml (jS l)))) h ab:=by
   rintro h ab fM _ ⟨j,rfl,q⟩;by_cases e:j=i
   .subst e
    rw[ZkY ax]at q;cases q;exact .inl ⟨rfl,rfl⟩
   .rw[Kf (λe'=>e e'.symm)]at q
    exact .inr ⟨by simpa using e,j,rfl,q⟩
  refine⟨_,rfl,ψ,⟨?_,?_,λh cb e=> .inl e⟩,.inr ⟨by simp,_,rfl,.nil⟩⟩
  .exact((fa.set hs e1 ⟨i,rfl,ca⟩ rfl db.other hh1).more (λh cb e=>by rw[NO];exact gR h cb e) Yo).weaken oO
  .exact((Ext.set e1 ⟨i,rfl,ca⟩ rfl db.other db.size db.tape db.os db.output).trans (Ext.more Yo)).weaken oO
  |_=>cases MI
theorem Zyo {cov sub:al} (vL:C.cov=has cov) {l:List (Nat×Body)} (hk:l.map (·.1)=sub.map C.fn) (hs:(sub.all λg=>has cov g&&cov.all λf=> !Nat.beq (C.fn f) (C.fn g)||Nat.beq f g)=true) (hB: ∀f∈sub,tP C (bdOf l (C.fn f)) f): ∀n,ZQ C (run (bdOf l) n):=by
 have key: ∀g b,Bv l g=some b->∃f∈sub,C.fn f=g:=by
  intro g b hb;have:=S6 hb;rw[hk]at this;grind
 rw[lA]at hs;refine LO (λf hf=>?_) λg hg c n args s=>?_
 .cases hb:Bv l (C.fn f)with
  |none=>
   intro c n args s out _ h;grind[bdOf]
  |some b=>
   obtain⟨f',AX,e⟩:=key _ b hb;have h1:=hs f' AX;rw[aR,lA]at h1;have h2:=h1.2 f ((Hr cov f).1 (by rw[<-vL];exact hf));rw[<-e,BL]at h2;have:f=f':=dy (by simpa using h2);grind
 .unfold bdOf
  cases hb:Bv l g with
  |none=>rfl
  |some b=>
   obtain⟨f',AX,e⟩:=key _ b hb;have h1:=hs f' AX;rw[aR]at h1;simp_all
theorem Zxc {Bd:Zh} (h:D0 Bd) (s:St) (x y:E4): ∃z s',run Bd 100 159 [.agg (rU x),.agg (rU y)] s=some (.val [.int .i64 z],s')/\decide (z<0)=fp x y:=by
 obtain⟨_,e,z,s',rfl,_,hz⟩:=F.XI h 100 (by omega) ⟨x.1,x.2.1,x.2.2.1,x.2.2.2⟩ ⟨y.1,y.2.1,y.2.2.1,y.2.2.2⟩ s;refine⟨z,s',e,?_⟩;grind[F.fb,fp]
end Go.Gv
