/- slices.SortFunc at entries: our body, joined to the kit's contract. -/
import Derived.Test.YtegglibipjjblaaGreatDoorGvZRun
import Derived.Test.YtegglibipjjblaaGreatDoorGvZBod
import Derived.Test.YtegglibipjjblaaGreatDoorGvZPf
import Derived.Shelf.SlSortCmp.WholeK
import Derived.Shelf.SlSortCmp.NoneTotal
namespace Go.Gv
open Go.Sort
def Zzx (P:Program) (g:Nat) (cf:E4→E4→Int) (w0:World):Prop:=
 ∀(x y:E4) (W:World),w0.heap.size≤W.heap.size→Calls P g #[.agg #[.int .i64 x.1,.int .i64 x.2.1,.int .i64 x.2.2.1,.int .i64 x.2.2.2],.agg #[.int .i64 y.1,.int .i64 y.2.1,.int .i64 y.2.2.1,.int .i64 y.2.2.2]] W fun e W'=>e= .returned (.int .i64 (cf x y))∧∃q os',W'=grow (W.drewN q) os'
theorem ZzK {W W':World} (hs:W.heap.size≤W'.heap.size) (hk: ∀b,b<W.heap.size→W'.heap[b]? =W.heap[b]?) (ht:W'.tape=W.tape) (ho:W'.os=W.os) (hu:OutD W W'): ∃q os',W'=grow (W.drewN q) os':=by
 refine⟨W'.drawn-W.drawn,W'.heap.extract W.heap.size W'.heap.size,?_⟩;have hd:W.drawn+(W'.drawn-W.drawn)=W'.drawn:=by have:=hu.2;omega
 have hh:W'.heap=W.heap++W'.heap.extract W.heap.size W'.heap.size:=by
  apply Array.ext_getElem?;intro i;by_cases hi:i<W.heap.size
  ·rw[Array.getElem?_append_left hi,hk i hi]
  ·rw[Array.getElem?_append_right (by omega),Array.getElem?_extract]
   by_cases h2:i<W'.heap.size
   ·rw[if_pos (by omega),show W.heap.size+(i-W.heap.size)=i by omega]
   ·rw[if_neg (by omega),Array.getElem?_eq_none (by omega)]
 obtain⟨heap,tape,drawn,os,output⟩:=W';simp only at hd hh ht ho;have hu1:=hu.1;simp only at hu1;simp only[grow,World.drewN,hd,←hh];subst ht ho hu1;rfl
theorem ZyS {C:Cfg} {c:Zg} (hc:Zy C c) {fc:FuncId} (hcov:C.cov fc=true) (hfn:C.fn fc=159) {fn:Func} (hf:C.P.funcs[fc]? =some fn) (hname:(fn.name== "runtime.NumGoroutine")=false) (hb:fn.body.isSome=true) {N:Nat} (hN: ∀g,C.glc g=true→C.gl g<N)
  {cf:E4→E4→Int} (hrun: ∀x y,∃s',c 159 [.agg (cell4 x),.agg (cell4 y)] (List.replicate N none)=some (.val [.int .i64 (cf x y)],s')) {ψ:Ps} {w:World} (hg:Glob C ψ) (hbl:Blks ψ w):Zzx C.P fc cf w:=by
 intro x y W hW;obtain⟨s',hr⟩:=hrun x y
 let ψ':Ps:=fun h=>match h with
  | .inl i=>if i<N then ψ (.inl i)else none
  | .inr _=>none
 have no: ∀i ab,¬stAB (List.replicate N none) i=some ab:=by
  intro i ab h;unfold stAB at h;rw[List.getElem?_replicate]at h;split at h
  ·rename_i h2;split at h2<;>cases h2
  ·cases h
 have hs:Sim C ψ' (CS (List.replicate N none)) W:=⟨fun h cb ab _ ⟨i,_,q⟩=>absurd q (no i ab),fun h cb ab h' cb' ab' _ ⟨i,_,q⟩=>absurd q (no i ab)⟩;have hbl':Blks ψ' W:=by
  intro h cb e;cases h with
  |inl i=>
   simp only[ψ']at e;split at e
   ·exact Nat.lt_of_lt_of_le (hbl _ cb e) hW
   ·cases e
  |inr v=>cases e
 have hg':Glob C ψ':=fun g e=>by
  obtain⟨cb,e1,e2⟩:=hg g e;exact⟨cb,by simp only[ψ'];rw[if_pos (hN g e)];exact e1,e2⟩
 have hv:VRs C ψ' [.agg (cell4 x),.agg (cell4 y)] [.agg #[.int .i64 x.1,.int .i64 x.2.1,.int .i64 x.2.2.1,.int .i64 x.2.2.2],.agg #[.int .i64 y.1,.int .i64 y.2.1,.int .i64 y.2.2.1,.int .i64 y.2.2.2]]:=by
  refine .cons _ _ _ _ (.agg _ _ ?_ rfl) (.cons _ _ _ _ (.agg _ _ ?_ rfl) .nil)
  ·exact .cons _ _ _ _ (.int _ _) (.cons _ _ _ _ (.int _ _) (.cons _ _ _ _ (.int _ _) (.cons _ _ _ _ (.int _ _) .nil)))
  ·exact .cons _ _ _ _ (.int _ _) (.cons _ _ _ _ (.int _ _) (.cons _ _ _ _ (.int _ _) (.cons _ _ _ _ (.int _ _) .nil)))
 have ok:=(hc 159 _ _ _ hr).2 fc hcov hfn ψ' W _ hs hbl' hg' hv (fun _=>rfl) (fun i h1 _=>by
  simp only[ψ'];rw[if_neg (by simpa using h1)])
 have hname': ¬fn.name= "runtime.NumGoroutine" :=by simpa using hname
 have e: ∀vs,(callFunc fc vs).run C.P W= .ok (.enter fc vs) W:=by
  intro vs;cases hb':fn.body with
  |none=>rw[hb']at hb;cases hb
  |some c=>simp[callFunc,hf,hname',hb']
 unfold ZdZ at ok;rw[e]at ok;refine Calls.mono ok fun en W' he=>?_
 cases en with
 |returned v=>
  obtain⟨ds,e1,ψ2,cp,rv⟩:=he;cases e1;refine⟨?_,ZzK cp.ext.size (fun b hb=>cp.ext.keep b hb fun⟨h,cb,ab,_,⟨i,_,q⟩,_⟩=>no i ab q) cp.ext.tape cp.ext.os cp.ext.output⟩;rcases rv with⟨d,h1,h2⟩|⟨h1,_⟩
  ·cases h1
   cases h2;rfl
  ·exact absurd rfl h1
 |panicked ch=>obtain⟨_,e1,_⟩:=he;cases e1
 |outgrown=>exact he.elim
def enc4 (x:E4):List Value:=[.int .i64 x.1,.int .i64 x.2.1,.int .i64 x.2.2.1,.int .i64 x.2.2.2]
theorem Zn2: ∀(l:List E4) (j:Nat),(Zbk l)[j]? =match l[j/4]? with
  |some x=>(cell4 x)[j%4]?
  |none=>none
 |[],j=>by simp[Zbk]
 |x::r,j=>by
  rw[Zbk];by_cases h:j<4
  ·rw[List.getElem?_append_left (by exact h),show j/4=0 by omega,show j%4=j by omega]
   rfl
  ·rw[List.getElem?_append_right (by show 4≤j;omega),show(cell4 x).length=4 from rfl,Zn2 r (j-4),show j/4=(j-4)/4+1 by omega,List.getElem?_cons_succ,show(j-4)%4=j%4 by omega]
theorem ZnP (l:List E4) (j:Nat) (d:DV) (hd:(Zbk l)[j]? =some d): ∃n,d= .int .i64 n∧(flatK enc4 4 l.toArray)[j]! = .int .i64 n:=by
 have hj:j<l.length*4:=by
  have:=(List.getElem?_eq_some_iff.1 hd).1
  rwa [Zea]at this
 rw[Zn2]at hd;rw[get_flatK enc4 4 l.toArray j (by simpa using hj)];have hx:l[j/4]? =some l[j/4]:=List.getElem?_eq_getElem (by omega);rw[hx]at hd;simp only at hd;have e:l.toArray[j/4]! =l[j/4]:=by
  rw[getElem!_pos l.toArray (j/4) (by simp;omega)];simp
 rw[e];generalize l[j/4]=x at hd⊢;have h4:j%4<4:=Nat.mod_lt _ (by decide);generalize j%4=m at hd h4⊢;rcases m with _|_|_|_|m
 ·cases hd;exact⟨_,rfl,rfl⟩
 ·cases hd;exact⟨_,rfl,rfl⟩
 ·cases hd;exact⟨_,rfl,rfl⟩
 ·cases hd;exact⟨_,rfl,rfl⟩
 ·omega
theorem Zub (off:Nat) (F c:Array Value) (h:off+F.size≤c.size):putCells id off F c=ovA c off F.toList:=by
 apply Array.ext_getElem?;intro k;rw[Zmy _ _ _ _ (by simpa using h),putCells,Array.getElem?_mapIdx,Array.length_toList];by_cases hk:off≤k∧k<off+F.size
 ·rw[if_pos hk,Array.getElem?_eq_getElem (show k<c.size by omega),Array.getElem?_toList]
  simp only[Option.map_some,id];rw[if_pos hk,Array.getElem?_eq_getElem (show k-off<F.size by omega),getElem!_pos F (k-off) (by omega)]
 ·rw[if_neg hk]
  cases c[k]? with
  |none=>rfl
  |some x=>simp only[Option.map_some];rw[if_neg hk]
theorem swo4 {cf:E4→E4→Int} (h: ∀x y,decide (cf x y<0)=lt4 x y):SWO (Go.Proofs.ltOf cf):=by
 have e:Go.Proofs.ltOf cf=lt4:=by
  funext x y;exact h x y
 rw[e];have irr: ∀x,lt4 x x=false:=fun x=>by
  cases e:lt4 x x with
  |false=>rfl
  |true=>have:=ZqU e;rw[e]at this;cases this
 exact⟨irr,fun _ _ _=>Zrb,fun _ _ _=>Zwj⟩
theorem ZuC {C:Cfg} {ρ:Go.Shelf.Ren} (L:Go.Proofs.SlLaysF0.n6 C.P ρ) (aE: ∀w,(isAgg (ρ.t 24)).run C.P w= .ok true w) (zE: ∀w,(Go.sizeOf (ρ.t 24)).run C.P w= .ok 4 w) {f:FuncId} (hf:ρ.f 6=f) {fn:Func} (hfn:C.P.funcs[f]? =some fn) (hname:(fn.name== "runtime.NumGoroutine")=false) (hb:fn.body.isSome=true)
  {c':Zg} (hc':Zy C c') {fc:FuncId} (hcov:C.cov fc=true) (hfc:C.fn fc=159) (hinj: ∀k,C.cov k=true→C.fn k=159→k=fc) {fnc:Func} (hfnc:C.P.funcs[fc]? =some fnc) (hcname:(fnc.name== "runtime.NumGoroutine")=false) (hcb:fnc.body.isSome=true) {N:Nat} (hN: ∀g,C.glc g=true→C.gl g<N)
  (hrun: ∀x y,∃z s',c' 159 [.agg (cell4 x),.agg (cell4 y)] (List.replicate N none)=some (.val [.int .i64 z],s')∧decide (z<0)=lt4 x y):BodyOK C Zih f:=by
 subst hf;obtain⟨cf,hcf⟩: ∃cf:E4→E4→Int,∀x y,(∃s',c' 159 [.agg (cell4 x),.agg (cell4 y)] (List.replicate N none)=some (.val [.int .i64 (cf x y)],s'))∧decide (cf x y<0)=lt4 x y:=
  ⟨fun x y=>Classical.choose (hrun x y),fun x y=>let ⟨s',h1,h2⟩:=Classical.choose_spec (hrun x y);⟨⟨s',h1⟩,h2⟩⟩
 have hcname': ¬fnc.name= "runtime.NumGoroutine" :=by simpa using hcname
 have eg: ∀args w,(callFunc fc args).run C.P w= .ok (.enter fc args) w:=by
  intro args w;cases hb':fnc.body with
  |none=>rw[hb']at hcb;cases hcb
  |some c=>simp[callFunc,hfnc,hcname',hb']
 intro c n args s out _ h;unfold Zih at h;split at h
 case h_2=>cases h
 rename_i a len;cases a with
 |none=>
  simp only at h;obtain⟨hn,h⟩:=Zo h;have hn:=Nat.eq_of_beq_eq_true hn;subst hn;cases h;refine⟨Nat.le_refl _,fun ψ w vs hs hbl _ hv _ _=>?_⟩;cases hv with
  |cons _ _ _ _ a b=>
   cases b with
   |cons _ _ _ _ a2 b2=>
    cases b2;cases a with
    |sliceN=>
     refine Zle hfn hname hb ((Go.Proofs.AnyF.slices_SortFunc_none L none 0 _ w).mono ?_);rintro e w' ⟨rfl,rfl⟩;exact⟨_,rfl,ψ,⟨hs,Ext.refl _ _ _,fun h cb e=> .inl e⟩,.inr ⟨by simp,_,rfl,.nil⟩⟩
 |some p=>
  obtain⟨i,o⟩:=p;simp only at h;cases hop:s.open? i with
  |none=>rw[hop]at h;cases h
  |some cs=>
  rw[hop]at h;simp only at h;cases hlen:Nat.ble (o+len*4) cs.length with
  |false=>rw[hlen]at h;cases h
  |true=>
  rw[hlen]at h;simp only[cond_true]at h;have hlen:=Nat.le_of_ble_eq_true hlen;cases hl:dec4 ((cs.drop o).take (len*4))with
  |none=>rw[hl]at h;cases h
  |some l=>
  rw[hl]at h;simp only at h;cases hg:Zh7 l&&Nat.ble len 1000000 with
  |false=>rw[hg]at h;cases h
  |true=>
  rw[hg]at h;simp only[cond_true]at h;rw[Bool.and_eq_true]at hg;have hap:=Zrp hg.1;have hmx:=Nat.le_of_ble_eq_true hg.2;have hdec:=Zq6 hl;have hll:l.length=len:=by
   have:=congrArg List.length hdec;rw[Zea,List.length_take,List.length_drop]at this;omega
  cases h;obtain⟨hst,hlt⟩:=Zl7 hop;refine⟨by simp,fun ψ w vs hs hbl hglob hv _ _=>?_⟩;cases hv with
  |cons _ _ _ _ a b=>
  cases b with
  |cons _ _ _ _ a2 b2=>
  cases b2;cases a with
  |slice _ _ _ _ cb ad cap e1 e2 e3=>
  generalize hfd:DV.func 159 [] []=fd at a2;cases a2 with
  |func k _ _ vf vc hk h1 h2=>
  have hkk:C.fn k=159∧vf= #[]∧vc= #[]:=by
   injection hfd with g1 g2 g3
   subst g2 g3;refine⟨g1.symm,?_,?_⟩
   ·cases hx:vf.toList with
    |nil=>exact Array.toList_inj.1 hx
    |cons _ _=>rw[hx]at h1;cases h1
   ·cases hx:vc.toList with
    |nil=>exact Array.toList_inj.1 hx
    |cons _ _=>rw[hx]at h2;cases h2
  obtain⟨hk1,rfl,rfl⟩:=hkk;have hkf:=hinj k hk hk1;subst hkf;have hh:=hs.holds (.inl i) cb _ e1 ⟨i,rfl,hst⟩;refine Zle hfn hname hb ?_;by_cases h0:len=0
  ·have:l=[]:=by cases l with|nil=>rfl|cons _ _=>simp at hll;omega
   subst this;subst h0;refine(Go.Proofs.AnyF.slices_SortFunc_none L (some ad) cap _ w).mono ?_;rintro e w' ⟨rfl,rfl⟩;have es:s.set i (some ⟨false,spl cs o (Zbk (sort4 []))⟩)=s:=by
    have e0:spl cs o (Zbk (sort4 []))=cs:=ZvC cs o;rw[e0];have hsi:s[i]? =some (some ⟨false,cs⟩):=by
     unfold St.open? at hop;split at hop
     ·rename_i cs' hc;cases hop;exact hc
     ·cases hop
    obtain⟨hi,he⟩:=List.getElem?_eq_some_iff.1 hsi;rw[←he,List.set_getElem_self]
   rw[es];exact⟨_,rfl,ψ,⟨hs,Ext.refl _ _ _,fun h cb e=> .inl e⟩,.inr ⟨by simp,_,rfl,.nil⟩⟩
  obtain⟨rfl,hcapm⟩:=e3 (by omega);obtain⟨c0,ty,fr,hblk,hcsz,hfz⟩:=hh.2.2.2 rfl;have hsub: ∀j d,(Zbk l)[j]? =some d→cs[o+j]? =some d∧j<len*4:=by
   intro j d hd;rw[←hdec,List.getElem?_take]at hd;split at hd
   ·rw[List.getElem?_drop]at hd;exact⟨hd,by assumption⟩
   ·cases hd
  have hH:HoldsK enc4 4 w cb.b (cb.o+o) l.toArray:=by
   intro j hj;rw[size_flatK]at hj;have hj:j<l.length*4:=by simpa using hj
   obtain⟨dd,hd⟩: ∃d,(Zbk l)[j]? =some d:=⟨_,List.getElem?_eq_getElem (by rw[Zea];exact hj)⟩;obtain⟨n,hn1,hn2⟩:=ZnP l j _ hd;obtain⟨g1,g2⟩:=hsub j _ hd;refine⟨?_,?_⟩
   ·obtain⟨v,hv,hr⟩:=hh.2.2.1 _ _ g1
    rw[hn1]at hr;cases hr;rw[←Nat.add_assoc]at hv;rw[hv];show _=some (flatK enc4 4 l.toArray)[j]!;rw[hn2]
   ·have:=hfz (o+j) (by have:len*4≤cap*4:=Nat.mul_le_mul_right 4 e2;omega)
    simp only[World.frozen?,hblk];rw[←Nat.add_assoc]at this;exact this
  have hcmp:Go.Proofs.CmpLays C.P k #[] enc4 4 cf cb.b (cb.o+o) l.toArray.size w:=by
   intro m os dk _ x y;have good:=ZyS hc' hk hfc hfnc hcname hcb hN (cf:=cf) (fun x y=>(hcf x y).1) hglob hbl;exact good x y _ (by unfold Go.Proofs.sortWorldK;rw[size_grow,size_putRowK];show w.heap.size≤w.heap.size+_;omega)
  have con:=Go.Proofs.AnyQ.slices_SortFunc L 4 aE zE enc4 (fun _=>rfl) (fun x v hv=>by
   simp only[enc4,List.mem_cons,List.not_mem_nil,or_false]at hv;rcases hv with rfl|rfl|rfl|rfl<;>rfl) cf (swo4 fun x y=>(hcf x y).2) k #[] cb.b (cb.o+o) cap l.toArray w eg hcmp hH (hbl _ _ e1) (by simp;omega)
  rw[show l.toArray.size=len by simpa using hll]at con;refine con.mono ?_;rintro e w' ⟨rfl,d',n',os,hperm,hsorted,rfl⟩;have hd':d'=(sort4 l).toArray:=by
   obtain⟨hsz,_,hpm⟩:=hperm;have hsz':d'.size=len:=by rw[hsz];simpa using hll
   rw[←hsz',Array.extract_size]at hpm;rw[show d'.size=l.toArray.size by rw[hsz],Array.extract_size]at hpm;have:d'.toList=sort4 l:=by
    refine Zv5 hpm hap (List.pairwise_iff_getElem.2 fun a b ha hb hab=>?_);have:=hsorted a b (Nat.zero_le _) hab (by simpa [hsz']using hb);have e:Go.Proofs.ltOf cf d'[b]! d'[a]! =lt4 d'[b]! d'[a]! :=(hcf _ _).2;rw[e,getElem!_pos d' b (by simpa using hb),getElem!_pos d' a (by simpa using ha)]at this;simpa using this
   rw[←this]
  subst hd';have hvs:VRs C ψ (Zbk (sort4 l)) (flatK enc4 4 (sort4 l).toArray).toList:=by
   have hfl:(flatK enc4 4 (sort4 l).toArray).toList.length=(sort4 l).length*4:=by rw[Array.length_toList,size_flatK,List.size_toArray]
   refine VRs.of _ _ (by rw[Zea];exact hfl.symm) fun j d v h1 h2=>?_
   obtain⟨n,hn1,hn2⟩:=ZnP _ j d h1;rw[Array.getElem?_toList]at h2;rw[getElem!_def,h2]at hn2;simp only at hn2;rw[hn1,hn2];exact .int _ _
  have hone:(Zbk (sort4 l)).all one=true:=by
   rw[List.all_eq_true];intro d hd;obtain⟨j,hj⟩:=List.getElem?_of_mem hd;obtain⟨n,hn1,_⟩:=ZnP _ j d hj;rw[hn1];rfl
  have hfl:(flatK enc4 4 (sort4 l).toArray).size=len*4:=by rw[size_flatK,List.size_toArray,Zlu,hll]
  obtain⟨w1,hrun1,hset,hh1⟩:=Zi8 (P:=C.P) (p:=o) hh hvs hone (by rw[Zea,Zlu,hll];exact hlen);have hle:o+len*4≤cb.m:=by have:len*4≤cap*4:=Nat.mul_le_mul_right 4 e2;omega
  have hrun2:=ZfW C.P cb.b (cb.o+o) ty fr (flatK enc4 4 (sort4 l).toArray).toList 0 w c0 hblk (hvs.oneCells hone) (by rw[Array.length_toList,hfl];omega) (fun j _ hj=>by
   rw[Array.length_toList,hfl]at hj;have:=hfz (o+j) (by omega);rw[←Nat.add_assoc]at this;exact this)
  rw[hrun2]at hrun1;injection hrun1 with _ hw1
  subst hw1;have hmore:More (setB w cb.b (.cells (ovA c0 (cb.o+o+0) (flatK enc4 4 (sort4 l).toArray).toList) ty fr)) (Go.Proofs.sortWorldK enc4 4 w cb.b (cb.o+o) n' (sort4 l).toArray os):=by
   refine⟨fun b hb=>?_,?_,rfl,rfl,rfl,Nat.le_add_right _ _⟩
   ·rw[setB_size]at hb
    show((w.heap.modify cb.b (onCells (putCells id (cb.o+o) (flatK enc4 4 (sort4 l).toArray))))++os)[b]? =(w.heap.setIfInBounds cb.b _)[b]?;rw[Array.getElem?_append_left (by simpa using hb),Array.getElem?_modify];by_cases e:cb.b=b
    ·subst e
     rw[if_pos rfl,hblk,Array.getElem?_setIfInBounds_self_of_lt hb,Option.map_some];show some (Obj.cells (putCells id (cb.o+o) (flatK enc4 4 (sort4 l).toArray) c0) ty fr)=_;rw[Zub _ _ _ (by rw[hfl];omega)];rfl
    ·rw[if_neg e,Array.getElem?_setIfInBounds_ne e]
   ·rw[setB_size]
    show w.heap.size≤((w.heap.modify cb.b _)++os).size;rw[Array.size_append,Array.size_modify];omega
  have hkn: ∀h ab cb',ψ h=some cb'→CS (s.set i (some ⟨false,spl cs o (Zbk (sort4 l))⟩)) h ab→upQ (CS s) (.inl i) (.cells false (spl cs o (Zbk (sort4 l)))) h ab:=by
   rintro h ab cb' _ ⟨j,rfl,q⟩;by_cases e:j=i
   ·subst e
    rw[Zk6 hlt]at q;cases q;exact .inl ⟨rfl,rfl⟩
   ·rw[Zgt (fun e'=>e e'.symm)]at q
    exact .inr ⟨by simpa using e,j,rfl,q⟩
  refine⟨_,rfl,ψ,⟨?_,?_,fun h cb e=> .inl e⟩,.inr ⟨by simp,_,rfl,.nil⟩⟩
  ·exact((Sim.set hs e1 ⟨i,rfl,hst⟩ rfl hset.other hh1).more (fun h cb e=>by rw[setB_size];exact hbl h cb e) hmore).weaken hkn
  ·exact((Ext.set e1 ⟨i,rfl,hst⟩ rfl hset.other hset.size hset.tape hset.os hset.output).trans (Ext.more hmore)).weaken hkn
  |_=>cases hfd
theorem ZzP {C:Cfg} {cov sub:List Nat} (hcov:C.cov=has cov) {l:List (Nat×Body)} (hk:l.map (·.1)=sub.map C.fn) (hs:(sub.all fun g=>has cov g&&cov.all fun f=> !Nat.beq (C.fn f) (C.fn g)||Nat.beq f g)=true) (hB: ∀f∈sub,BodyOK C (bdOf l (C.fn f)) f): ∀n,Zy C (run (bdOf l) n):=by
 have key: ∀g b,lkB l g=some b→∃f∈sub,C.fn f=g:=by
  intro g b hb;have:=ZpE hb;rw[hk]at this;obtain⟨f,hf,e⟩:=List.mem_map.1 this;exact⟨f,hf,e⟩
 rw[List.all_eq_true]at hs;refine Zn3 (fun f hf=>?_) fun g hg c n args s=>?_
 ·cases hb:lkB l (C.fn f)with
  |none=>
   intro c n args s out _ h;unfold bdOf at h;rw[hb]at h;cases h
  |some b=>
   obtain⟨f',hf',e⟩:=key _ b hb;have h1:=hs f' hf';rw[Bool.and_eq_true,List.all_eq_true]at h1;have h2:=h1.2 f ((ZjQ cov f).1 (by rw[←hcov];exact hf));rw[←e,Nat.beq_refl]at h2;have:f=f':=Nat.eq_of_beq_eq_true (by simpa using h2);subst this;exact hB f hf'
 ·unfold bdOf
  cases hb:lkB l g with
  |none=>rfl
  |some b=>
   obtain⟨f',hf',e⟩:=key _ b hb;have h1:=hs f' hf';rw[Bool.and_eq_true]at h1;exact absurd e (hg f' (by rw[hcov];exact h1.1))
theorem Zy0 {Bd:Za} (h:Zbx Bd) (s:St) (x y:E4): ∃z s',run Bd 100 159 [.agg (cell4 x),.agg (cell4 y)] s=some (.val [.int .i64 z],s')∧decide (z<0)=lt4 x y:=by
 obtain⟨_,e,z,s',rfl,_,hz⟩:=F.ev_node_Compare h 100 (by omega) ⟨x.1,x.2.1,x.2.2.1,x.2.2.2⟩ ⟨y.1,y.2.1,y.2.2.1,y.2.2.2⟩ s;refine⟨z,s',e,?_⟩;have h1:decide (z<0)=F.aheadF ⟨x.1,x.2.1,x.2.2.1,x.2.2.2⟩ ⟨y.1,y.2.1,y.2.2.1,y.2.2.2⟩:=by
  have:decide (z<0)= !decide (z≥0):=by
   by_cases hz:z<0
   ·rw[decide_eq_true hz,decide_eq_false (by omega)];rfl
   ·rw[decide_eq_false hz,decide_eq_true (by omega)];rfl
  rw[this,hz,Bool.not_not]
 rw[h1];unfold F.aheadF lt4;by_cases h1:x.2.2.1=y.2.2.1
 ·by_cases h2:x.1=y.1<;>simp[h1,h2]
 ·simp[h1]
end Go.Gv
