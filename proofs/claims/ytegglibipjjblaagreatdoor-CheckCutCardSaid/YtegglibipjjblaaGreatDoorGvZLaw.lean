/- Arguments that can be read as data: what the machine makes of them. -/
import Derived.Test.YtegglibipjjblaaGreatDoorGvZRun
import Derived.ChangeArms
import Derived.OpenShut
import Derived.ProofKit
import Derived.ShutString
import Derived.ChangeOld
import Derived.Below
import Derived.SizedLaws
import Derived.MakeChecks
import GoSem.ClaimJoined
import Derived.LaidMore
import Derived.Lay
import Derived.SevenTiedAt
import Derived.Stop.Joined
import GoSem.PinnedTables
namespace Go.Gv
inductive Ty where
 |b
 |i (k:IntKind)
 |s
 |sl (e:Ty)
 |un
 |pr (x y:Ty)
def Ty.size:Ty→Nat
 | .un=>0
 | .pr x y=>x.size+y.size
 |_=>1
def Rd (s:St):Ty→List DV→Prop
 | .b,ds=>∃b,ds=[.bool b]
 | .i k,ds=>∃n:Int,ds=[.int k n]∧k.min≤n∧n≤k.max
 | .s,ds=>∃l:List UInt8,ds=[.str l]∧l.length≤maxLen
 | .sl e,ds=>ds=[.slice e.size none 0]∨∃(i n:Nat) (cs:List DV),ds=[.slice e.size (some (i,0)) n]∧s[i]? =some (some ⟨true,cs⟩)∧cs.length=n*e.size∧n≤maxLen∧∀j,j<n→Rd s e ((cs.drop (j*e.size)).take e.size)
 | .un,ds=>ds=[]
 | .pr x y,ds=>∃a b,ds=a++b∧Rd s x a∧Rd s y b
theorem Rd.len {s:St} : ∀ {t:Ty} {ds:List DV},Rd s t ds→ds.length=t.size
 | .b,_,⟨_,h⟩=>by rw[h];rfl
 | .i _,_,⟨_,h,_⟩=>by rw[h];rfl
 | .s,_,⟨_,h,_⟩=>by rw[h];rfl
 | .sl _,_,h=>by rcases h with h|⟨_,_,_,h,_⟩<;>(rw[h];rfl)
 | .un,_,h=>by rw[show _=[]from h];rfl
 | .pr x y,_,⟨a,b,h,h1,h2⟩=>by rw[h,List.length_append,Rd.len h1,Rd.len h2];rfl
theorem Rd.one {s:St} : ∀ {t:Ty} {ds:List DV},Rd s t ds→ds.all one=true
 | .b,_,⟨_,h⟩=>by rw[h];rfl
 | .i _,_,⟨_,h,_⟩=>by rw[h];rfl
 | .s,_,⟨_,h,_⟩=>by rw[h];rfl
 | .sl _,_,h=>by rcases h with h|⟨_,_,_,h,_⟩<;>(rw[h];rfl)
 | .un,_,h=>by rw[show _=[]from h];rfl
 | .pr x y,_,⟨a,b,h,h1,h2⟩=>by rw[h,List.all_append,Rd.one h1,Rd.one h2];rfl
theorem Rd.mono {s s':St} (hs: ∀(i:Nat) (b:Option Blk),s[i]? =some b→s'[i]? =some b): ∀ {t:Ty} {ds:List DV},Rd s t ds→Rd s' t ds
 | .b,_,h=>h
 | .i _,_,h=>h
 | .s,_,h=>h
 | .sl e,_,h=>by
  rcases h with h|⟨i,n,cs,h1,h2,h3,h4,h5⟩
  ·exact .inl h
  ·exact .inr ⟨i,n,cs,h1,hs _ _ h2,h3,h4,fun j hj=>Rd.mono hs (h5 j hj)⟩
 | .un,_,h=>h
 | .pr x y,_,⟨a,b,h,h1,h2⟩=>⟨a,b,h,Rd.mono hs h1,Rd.mono hs h2⟩
def fsTy (g:TypeId→Option Ty) (P:Program):List Field→Nat→Option Ty
 |[],_=>some .un
 |f::r,o=>bif Nat.beq f.offset o then(match g f.type with
  |some x=>bif Nat.beq x.size (P.cellsOf f.type)then(match fsTy g P r (o+x.size)with
   |some y=>some (.pr x y)
   |none=>none)else none
  |none=>none)else none
def repTy (x:Ty):Nat→Ty
 |0=> .un
 |n+1=> .pr x (repTy x n)
def tyOf (P:Program):Nat→TypeId→Option Ty
 |0,_=>none
 |n+1,t=>match P.underlying t with
  |some .bool=>some .b
  |some (.int k)=>some (.i k)
  |some .string=>some .s
  |some (.slice e)=>(match tyOf P n e with
   |some x=>bif Nat.beq x.size (P.cellsOf e)&&Nat.blt 0 x.size then some (.sl x)else none
   |none=>none)
  |some (.struct fs)=>(match fsTy (tyOf P n) P fs.toList 0 with
   |some x=>bif Nat.beq x.size (P.cellsOf t)then some x else none
   |none=>none)
  |some (.array m e)=>(match tyOf P n e with
   |some x=>bif Nat.beq x.size (P.cellsOf e)&&Nat.beq (m*x.size) (P.cellsOf t)then some (repTy x m)else none
   |none=>none)
  |_=>none
theorem ZkE (x:Ty): ∀n,(repTy x n).size=n*x.size
 |0=>by simp[repTy,Ty.size]
 |n+1=>by simp[repTy,Ty.size,ZkE x n,Nat.succ_mul,Nat.add_comm]
structure OI (C:Cfg) (w:World) (s:St) (ψ:Ps):Prop where
 hold: ∀i cb ab,ψ (.inl i)=some cb→stAB s i=some ab→Holds C ψ w cb ab
 blks: ∀i cb,ψ (.inl i)=some cb→cb.b<w.heap.size
 frz: ∀(i:Nat) (b:Option Blk),s[i]? =some b→∃cs,b=some ⟨true,cs⟩
 fresh: ∀i,s.length≤i→ψ (.inl i)=none
 noV: ∀v,ψ (.inr v)=none
structure OG (s s':St) (ψ ψ':Ps):Prop where
 st: ∀(i:Nat) (b:Option Blk),s[i]? =some b→s'[i]? =some b
 len:s.length≤s'.length
 ps: ∀h cb,ψ h=some cb→ψ' h=some cb
theorem OG.refl (s:St) (ψ:Ps):OG s s ψ ψ:=⟨fun _ _ h=>h,Nat.le_refl _,fun _ _ h=>h⟩
theorem OG.trans {s s' s'':St} {ψ ψ' ψ'':Ps} (h:OG s s' ψ ψ') (k:OG s' s'' ψ' ψ''):OG s s'' ψ ψ'':=
 ⟨fun i b e=>k.st i b (h.st i b e),Nat.le_trans h.len k.len,fun x cb e=>k.ps x cb (h.ps x cb e)⟩
section
variable {C:Cfg} {w:World} {s:St} {ψ:Ps}
theorem OI.add (I:OI C w s ψ) (cs:List DV) (cb:CB) (hb:cb.b<w.heap.size) (hl:cs.length≤cb.m) (h1:cs.all one=true)
  (hc: ∀j d,cs[j]? =some d→∃v,w.cell? ⟨cb.b,cb.o+j,none⟩=some v∧VR C ψ d v):
  OI C w (s++[some ⟨true,cs⟩]) (upP ψ (.inl s.length) cb)∧OG s (s++[some ⟨true,cs⟩]) ψ (upP ψ (.inl s.length) cb):=by
 have hf:ψ (.inl s.length)=none:=I.fresh _ (Nat.le_refl _);have mono:=Zb8 (cb:=cb) hf;refine⟨⟨fun i c ab e q=>?_,fun i c e=>?_,fun i b e=>?_,fun i hi=>?_,fun v=>?_⟩,⟨fun i b e=>?_,by simp,mono⟩⟩
 ·by_cases hi:i=s.length
  ·subst hi
   rw[Zbg]at e;cases e;rw[ZfD]at q;cases q;exact⟨hl,h1,fun j d hd=>let ⟨v,a,b⟩:=hc j d hd;⟨v,a,b.mono fun _ _ e=>mono _ _ e⟩,(fun h=>by cases h)⟩
  ·rw[ZbJ _ _ (fun e=>hi (Sum.inl.inj e))]at e
   have:=Zgd q;simp only[List.length_append,List.length_singleton]at this;rw[Zd2 (by omega)]at q;exact(I.hold i c ab e q).same (fun _ _ e=>mono _ _ e) rfl
 ·by_cases hi:i=s.length
  ·subst hi;rw[Zbg]at e;cases e;exact hb
  ·rw[ZbJ _ _ (fun e=>hi (Sum.inl.inj e))]at e;exact I.blks i c e
 ·rcases Nat.lt_or_ge i s.length with h|h
  ·rw[List.getElem?_append_left h]at e;exact I.frz i b e
  ·rw[List.getElem?_append_right h]at e
   cases hx:i-s.length with
   |zero=>rw[hx]at e;simp only[List.getElem?_cons_zero,Option.some.injEq]at e;exact⟨cs,e.symm⟩
   |succ n=>rw[hx]at e;simp at e
 ·simp only[List.length_append,List.length_singleton]at hi
  rw[ZbJ _ _ (fun e=>by have:=Sum.inl.inj e;omega)];exact I.fresh i (by omega)
 ·rw[ZbJ _ _ (fun e=>by cases e)];exact I.noV v
 ·have:i<s.length:=by
   rcases Nat.lt_or_ge i s.length with h|h
   ·exact h
   ·rw[List.getElem?_eq_none h]at e;cases e
  rw[List.getElem?_append_left this];exact e
def Mem (w:World) (cs:List Value):Prop:=∀v∈cs,∀a l c,v= .slice (some a) l c→0<w.heap.size
variable {H:Type} {enc:TypeId×Value→H}
theorem ZoS {base:Nat} {a:Addr} {n:Nat} {vs:List Value} (h:w.cells? base a n=some vs):vs.length=n∧∀j,j<n→w.cell? (a.add j)=vs[j]? :=by
 unfold World.cells? at h;split at h
 ·have h1:=mapM_some_length h
  rw[List.length_range]at h1;exact⟨h1,fun j hj=>mapM_some_get h j j (by simp[hj])⟩
 ·cases h
theorem Zw2 {a:Addr} {j:Nat} {v:Value} (h:w.cell? (a.add j)=some v):w.cell? ⟨a.block,a.off+j,none⟩=some v∧(j=0→a.spot=none)∧a.block<w.heap.size:=by
 have hb: ∀x:Addr,w.cell? x=some v→x.block<w.heap.size∧x.spot=none:=by
  intro x hx;unfold World.cell? at hx;cases hb:w.heap[x.block]? with
  |none=>rw[hb]at hx;cases hx
  |some o=>
   rw[hb]at hx;refine⟨ZbK hb,?_⟩;cases o<;>simp only at hx<;>first|(cases hx;done)|skip
   cases hs:x.spot with
   |none=>rfl
   |some y=>rw[hs]at hx;simp at hx
 unfold Addr.add at h;split at h
 ·rename_i hj
  obtain⟨h1,h2⟩:=hb a h;subst hj;refine⟨?_,fun _=>h2,h1⟩;rw[Nat.add_zero,←h2];exact h
 ·rename_i hj
  obtain⟨h1,h2⟩:=hb _ h;exact⟨h,fun e=>absurd e hj,h1⟩
theorem Mem.part {cs:List Value} (h:Mem w cs) (o n:Nat):Mem w ((cs.drop o).take n):=fun v hv=>h v (List.mem_of_mem_drop (List.mem_of_mem_take hv))
def Opens (C:Cfg) (w:World) (enc:TypeId×Value→H) (fuel:Nat) (g:TypeId→Option Ty):Prop:=
 ∀(t:TypeId) (ty:Ty) (cs:List Value) (x:DataW H×List MemPlace) (s:St) (ψ:Ps),g t=some ty→DataW.trod enc C.P w 0 (fun _=>true) true fuel t cs=some x→Mem w cs→OI C w s ψ→
  ∃(s':St) (ψ':Ps) (ds:List DV),OI C w s' ψ'∧OG s s' ψ ψ'∧Rd s' ty ds∧VRs C ψ' ds cs
theorem ZmX {fuel:Nat} {g:TypeId→Option Ty} (ih:Opens C w enc fuel g) {cs:List Value} (hm:Mem w cs): ∀(fs:List Field) (o:Nat) (ty:Ty) (s:St) (ψ:Ps),fsTy g C.P fs o=some ty→
  (∀f∈fs,∃y,DataW.trod enc C.P w 0 (fun _=>true) true fuel f.type ((cs.drop f.offset).take (C.P.cellsOf f.type))=some y)→OI C w s ψ→
  ∃(s':St) (ψ':Ps) (ds:List DV),OI C w s' ψ'∧OG s s' ψ ψ'∧Rd s' ty ds∧VRs C ψ' ds ((cs.drop o).take ty.size)
 |[],o,ty,s,ψ,h,_,I=>by
  cases h;exact⟨s,ψ,[],I,.refl s ψ,rfl,by simp[Ty.size];exact .nil⟩
 |f::fs,o,ty,s,ψ,h,hf,I=>by
  simp only[fsTy]at h;cases ho:Nat.beq f.offset o with
  |false=>rw[ho]at h;cases h
  |true=>
   rw[ho]at h;simp only[cond_true]at h;cases hg:g f.type with
   |none=>rw[hg]at h;cases h
   |some x=>
    rw[hg]at h;simp only at h;cases hs:Nat.beq x.size (C.P.cellsOf f.type)with
    |false=>rw[hs]at h;cases h
    |true=>
     rw[hs]at h;simp only[cond_true]at h;cases hr:fsTy g C.P fs (o+x.size)with
     |none=>rw[hr]at h;cases h
     |some y=>
      rw[hr]at h;cases h;have ho:=Nat.eq_of_beq_eq_true ho;have hs:=Nat.eq_of_beq_eq_true hs;obtain⟨z,hz⟩:=hf f (by simp);obtain⟨s1,ψ1,d1,I1,G1,r1,v1⟩:=ih f.type x _ z s ψ hg hz (hm.part _ _) I;obtain⟨s2,ψ2,d2,I2,G2,r2,v2⟩:=ZmX ih hm fs (o+x.size) y s1 ψ1 hr (fun f' h'=>hf f' (by simp[h'])) I1;refine⟨s2,ψ2,d1++d2,I2,G1.trans G2,⟨d1,d2,rfl,r1.mono G2.st,r2⟩,?_⟩;rw[show Ty.size (.pr x y)=x.size+y.size from rfl,List.take_add,List.drop_drop];rw[ho,←hs]at v1;exact(v1.mono fun _ _ e=>G2.ps _ _ e).append v2
theorem ZsY {fuel:Nat} {g:TypeId→Option Ty} (ih:Opens C w enc fuel g) {cs:List Value} (hm:Mem w cs) {e:TypeId} {x:Ty} (hg:g e=some x) (hs:x.size=C.P.cellsOf e): ∀(m k:Nat) (s:St) (ψ:Ps),
  (∀i,i<m→∃y,DataW.trod enc C.P w 0 (fun _=>true) true fuel e ((cs.drop ((k+i)*C.P.cellsOf e)).take (C.P.cellsOf e))=some y)→OI C w s ψ→
  ∃(s':St) (ψ':Ps) (ds:List DV),OI C w s' ψ'∧OG s s' ψ ψ'∧Rd s' (repTy x m) ds∧VRs C ψ' ds ((cs.drop (k*x.size)).take (repTy x m).size)
 |0,k,s,ψ,_,I=>⟨s,ψ,[],I,.refl s ψ,rfl,by simp[Ty.size,repTy];exact .nil⟩
 |m+1,k,s,ψ,hf,I=>by
  obtain⟨z,hz⟩:=hf 0 (by omega);obtain⟨s1,ψ1,d1,I1,G1,r1,v1⟩:=ih e x _ z s ψ hg hz (hm.part _ _) I;obtain⟨s2,ψ2,d2,I2,G2,r2,v2⟩:=ZsY ih hm hg hs m (k+1) s1 ψ1 (fun i hi=>by have:=hf (i+1) (by omega);rwa [show k+(i+1)=k+1+i by omega]at this) I1;refine⟨s2,ψ2,d1++d2,I2,G1.trans G2,⟨d1,d2,rfl,r1.mono G2.st,r2⟩,?_⟩;rw[show(repTy x (m+1)).size=x.size+(repTy x m).size from rfl,List.take_add,List.drop_drop];rw[Nat.add_zero,←hs]at v1;rw[Nat.succ_mul]at v2;exact(v1.mono fun _ _ e=>G2.ps _ _ e).append v2
theorem Zja: ∀(fuel f0:Nat) (t:TypeId) (ty:Ty) (cs:List Value) (x:DataW H×List MemPlace) (s:St) (ψ:Ps),tyOf C.P f0 t=some ty→DataW.trod enc C.P w 0 (fun _=>true) true fuel t cs=some x→Mem w cs→OI C w s ψ→
  ∃(s':St) (ψ':Ps) (ds:List DV),OI C w s' ψ'∧OG s s' ψ ψ'∧Rd s' ty ds∧VRs C ψ' ds cs
 |0,_,t,_,cs,x,_,_,_,h,_,_=>by simp[DataW.trod]at h
 |fuel+1,0,t,ty,cs,x,s,ψ,ht,_,_,_=>by cases ht
 |fuel+1,f0+1,t,ty,cs,x,s,ψ,ht,h,hm,I=>by
  have one: ∀ {d:DV} {v:Value} {ty:Ty},cs=[v]→VR C ψ d v→Rd s ty [d]→∃(s':St) (ψ':Ps) (ds:List DV),OI C w s' ψ'∧OG s s' ψ ψ'∧Rd s' ty ds∧VRs C ψ' ds cs:=by
   intro d v ty e hv hr;subst e;exact⟨s,ψ,_,I,.refl s ψ,hr,.cons _ _ _ _ hv .nil⟩
  simp only[tyOf]at ht;cases hu:C.P.underlying t with
  |none=>rw[hu]at ht;cases ht
  |some td=>
   rw[hu]at ht;cases td with
   |bool=>
    cases ht;obtain⟨b,e,_⟩:=DataW.trod_bool hu h;exact one e (.bool b) ⟨b,rfl⟩
   |int k=>
    cases ht;obtain⟨n,e,_,hw⟩:=DataW.trod_int hu h;simp only[Lit.wf,Bool.and_eq_true,decide_eq_true_eq]at hw;exact one e (.int k n) ⟨n,rfl,hw⟩
   |string=>
    cases ht;obtain⟨l,e,_,hl⟩:=DataW.trod_string hu h;exact one e (.str l) ⟨_,rfl,by rw[Array.length_toList];exact hl⟩
   |slice e=>
    simp only at ht;cases hte:tyOf C.P f0 e with
    |none=>rw[hte]at ht;cases ht
    |some te=>
     rw[hte]at ht;simp only at ht;cases hsz:Nat.beq te.size (C.P.cellsOf e)&&Nat.blt 0 te.size with
     |false=>rw[hsz]at ht;cases ht
     |true=>
      rw[hsz]at ht;cases ht;simp only[Bool.and_eq_true,Nat.blt_eq]at hsz;have hpos:=hsz.2;have hsz:=Nat.eq_of_beq_eq_true hsz.1;rcases DataW.trod_slice hu h with⟨hcs,_⟩|⟨a,len,cap,elems,rest,n,hn,hcs,_,_,hlc,hcm,hel,hget,hrest,_⟩
      ·exact one hcs (.sliceN te.size) (.inl rfl)
      ·cases hn
       obtain⟨hrl,hrget⟩:=hrest rfl;have elem: ∀j,j<cap→∃vs y,w.cells? 0 (a.add (j*C.P.cellsOf e)) (C.P.cellsOf e)=some vs∧DataW.trod enc C.P w 0 (fun _=>true) true fuel e vs=some y:=by
        intro j hj;have: ∃y,(w.cells? 0 (a.add (j*C.P.cellsOf e)) (C.P.cellsOf e)).bind (DataW.trod enc C.P w 0 (fun _=>true) true fuel e)=some y:=by
         rcases Nat.lt_or_ge j len with h|h
         ·exact⟨_,by rw[hget j h];exact List.getElem?_eq_getElem (by omega)⟩
         ·have:=hrget (j-len) (by omega)
          rw[show len+(j-len)=j by omega]at this;exact⟨_,by rw[this];exact List.getElem?_eq_getElem (by omega)⟩
        obtain⟨y,hy⟩:=this;obtain⟨vs,h1,h2⟩:=Option.bind_eq_some_iff.1 hy;exact⟨vs,y,h1,h2⟩
       have cellAt: ∀j i v,w.cell? ((a.add (j*C.P.cellsOf e)).add i)=some v→w.cell? ⟨a.block,a.off+(j*C.P.cellsOf e+i),none⟩=some v∧a.block<w.heap.size∧(j*C.P.cellsOf e+i=0→a.spot=none):=by
        intro j i v hv;obtain⟨g1,g2,g3⟩:=Zw2 hv;by_cases hz:j*C.P.cellsOf e=0
        ·rw[hz]at g1 g2 g3⊢
         have ea:a.add 0=a:=by simp[Addr.add]
         rw[ea]at g1 g2 g3;exact⟨by rw[Nat.zero_add];exact g1,g3,fun h=>g2 (by omega)⟩
        ·have ea:a.add (j*C.P.cellsOf e)=⟨a.block,a.off+j*C.P.cellsOf e,none⟩:=by simp[Addr.add,hz]
         rw[ea]at g1 g3;exact⟨by rw[←Nat.add_assoc];exact g1,g3,fun h=>by omega⟩
       have key: ∀k,k≤len→∃(s':St) (ψ':Ps) (ds:List DV),OI C w s' ψ'∧OG s s' ψ ψ'∧ds.length=k*te.size∧ds.all Go.Gv.one=true∧(∀j,j<k→Rd s' te ((ds.drop (j*te.size)).take te.size))∧
         (∀j d,ds[j]? =some d→∃v,w.cell? ⟨a.block,a.off+j,none⟩=some v∧VR C ψ' d v):=by
        intro k;induction k with
        |zero=>intro _;exact⟨s,ψ,[],I,.refl s ψ,by simp,rfl,fun j hj=>by omega,fun j d hd=>by simp at hd⟩
        |succ k ih=>
         intro hk;obtain⟨s1,ψ1,ds1,I1,G1,hl1,ho1,hr1,hc1⟩:=ih (by omega);obtain⟨vs,y,hvs,hy⟩:=elem k (by omega);obtain⟨hvl,hvg⟩:=ZoS hvs;have hmem:Mem w vs:=by
          intro v hv _ _ _ _;obtain⟨i,hi⟩:=List.getElem?_of_mem hv;have hlt:i<C.P.cellsOf e:=by rw[←hvl];exact(List.getElem?_eq_some_iff.1 hi).1
          have:=(cellAt k i v (by rw[hvg i hlt];exact hi)).2.1;omega
         obtain⟨s2,ψ2,ds2,I2,G2,hr2,hv2⟩:=Zja fuel f0 e te vs y s1 ψ1 hte hy hmem I1;have hl2:=hr2.len;refine⟨s2,ψ2,ds1++ds2,I2,G1.trans G2,by rw[List.length_append,hl1,hl2,Nat.succ_mul],by rw[List.all_append,ho1,hr2.one];rfl,fun j hj=>?_,fun j d hd=>?_⟩
         ·rcases Nat.lt_or_ge j k with h|h
          ·have hle:j*te.size+te.size≤k*te.size:=by rw[←Nat.succ_mul];exact Nat.mul_le_mul_right _ h
           rw[List.drop_append_of_le_length (by omega),List.take_append_of_le_length (by simp;omega)];exact(hr1 j h).mono G2.st
          ·have:j=k:=by omega
           subst this;rw[List.drop_append,List.drop_of_length_le (by omega),List.nil_append,hl1,Nat.sub_self,List.drop_zero,List.take_of_length_le (by omega)];exact hr2
         ·rcases Nat.lt_or_ge j ds1.length with h|h
          ·rw[List.getElem?_append_left h]at hd
           obtain⟨v,hv,hr⟩:=hc1 j d hd;exact⟨v,hv,hr.mono fun _ _ e=>G2.ps _ _ e⟩
          ·rw[List.getElem?_append_right h]at hd
           obtain⟨v,hv,hr⟩:=hv2.get hd;have hlt:j-ds1.length<C.P.cellsOf e:=by rw[←hvl];exact(List.getElem?_eq_some_iff.1 hv).1
           have:=(cellAt k (j-ds1.length) v (by rw[hvg _ hlt];exact hv)).1;rw[←hsz,←hl1,show ds1.length+(j-ds1.length)=j by omega]at this;exact⟨v,this,hr⟩
       obtain⟨s1,ψ1,ds,I1,G1,hl,ho,hr,hc⟩:=key len (Nat.le_refl _);have hmz:0<w.heap.size:=hm _ (by rw[hcs];exact List.mem_singleton.2 rfl) a len cap rfl;by_cases hcz:cap*C.P.cellsOf e=0
       ·
        have hdn:ds=[]:=by
         apply List.eq_nil_of_length_eq_zero;rw[hl,hsz];have:len*C.P.cellsOf e≤cap*C.P.cellsOf e:=Nat.mul_le_mul_right _ hlc;omega
        have hc0:cap=0:=by
         rcases Nat.mul_eq_zero.1 hcz with h|h
         ·exact h
         ·omega
        subst hc0;obtain⟨I2,G2⟩:=I1.add ds ⟨0,0,0⟩ hmz (by rw[hdn];exact Nat.le_refl _) ho (fun j d hd=>by rw[hdn]at hd;simp at hd);refine⟨_,_,[.slice te.size (some (s1.length,0)) len],I2,G1.trans G2,.inr ⟨_,len,ds,rfl,by simp,hl,by omega,fun j hj=>(hr j hj).mono G2.st⟩,?_⟩;rw[hcs];exact .cons _ _ _ _ (.slice _ _ 0 _ ⟨0,0,0⟩ a 0 (Zbg _ _ _) hlc (fun h=>absurd h (Nat.lt_irrefl _))) .nil
       ·have hcp:0<cap:=Nat.pos_of_ne_zero fun h=>hcz (by rw[h,Nat.zero_mul])
        have hcl:0<C.P.cellsOf e:=Nat.pos_of_ne_zero fun h=>hcz (by rw[h,Nat.mul_zero])
        obtain⟨vs,y,hvs,_⟩:=elem 0 hcp;obtain⟨hvl,hvg⟩:=ZoS hvs;obtain⟨_,hbl,hsp⟩:=cellAt 0 0 vs[0] (by rw[hvg 0 hcl];exact List.getElem?_eq_getElem (by omega));have hsp:=hsp (by simp);have ha:a=⟨a.block,a.off,none⟩:=by rw[←hsp]
        obtain⟨I2,G2⟩:=I1.add ds ⟨a.block,a.off,cap*C.P.cellsOf e⟩ hbl (by rw[hl,hsz];exact Nat.mul_le_mul_right _ hlc) ho hc;refine⟨_,_,[.slice te.size (some (s1.length,0)) len],I2,G1.trans G2,.inr ⟨_,len,ds,rfl,by simp,hl,by omega,fun j hj=>(hr j hj).mono G2.st⟩,?_⟩;rw[hcs];exact .cons _ _ _ _ (.slice _ _ 0 _ ⟨a.block,a.off,cap*C.P.cellsOf e⟩ a cap (Zbg _ _ _) hlc (fun _=>⟨ha,by rw[hsz];simp⟩)) .nil
   |struct fs=>
    simp only at ht;cases hfs:fsTy (tyOf C.P f0) C.P fs.toList 0 with
    |none=>rw[hfs]at ht;cases ht
    |some y=>
     rw[hfs]at ht;simp only at ht;cases hsz:Nat.beq y.size (C.P.cellsOf t)with
     |false=>rw[hsz]at ht;cases ht
     |true=>
      rw[hsz]at ht;cases ht;have hsz:=Nat.eq_of_beq_eq_true hsz;obtain⟨xs,n,hn,_,hcl,hxl,hget⟩:=DataW.trod_struct hu h;cases hn;obtain⟨s',ψ',ds,I',G',r',v'⟩:=ZmX (enc:=enc) (fuel:=fuel) (g:=tyOf C.P f0) (fun t ty cs x s ψ h1 h2 h3 h4=>Zja fuel f0 t ty cs x s ψ h1 h2 h3 h4) hm fs.toList 0 ty s ψ hfs (fun f hf=>by
       obtain⟨i,hi⟩:=List.getElem?_of_mem hf;rw[Array.getElem?_toList]at hi;rw[hget i f hi];exact⟨_,List.getElem?_eq_getElem (by rw[hxl];exact ZbK hi)⟩) I
      rw[List.drop_zero,List.take_of_length_le (by omega)]at v';exact⟨s',ψ',ds,I',G',r',v'⟩
   |array m e=>
    simp only at ht;cases hte:tyOf C.P f0 e with
    |none=>rw[hte]at ht;cases ht
    |some te=>
     rw[hte]at ht;simp only at ht;cases hsz:Nat.beq te.size (C.P.cellsOf e)&&Nat.beq (m*te.size) (C.P.cellsOf t)with
     |false=>rw[hsz]at ht;cases ht
     |true=>
      rw[hsz]at ht;cases ht;rw[Bool.and_eq_true]at hsz;have h1:=Nat.eq_of_beq_eq_true hsz.1;have h2:=Nat.eq_of_beq_eq_true hsz.2;obtain⟨xs,n,hn,_,hcl,hxl,hget⟩:=DataW.trod_array hu h;cases hn;obtain⟨s',ψ',ds,I',G',r',v'⟩:=ZsY (enc:=enc) (fuel:=fuel) (g:=tyOf C.P f0) (fun t ty cs x s ψ h1 h2 h3 h4=>Zja fuel f0 t ty cs x s ψ h1 h2 h3 h4) hm hte h1 m 0 s ψ (fun i hi=>by
       rw[Nat.zero_add,hget i hi];exact⟨_,List.getElem?_eq_getElem (by omega)⟩) I
      rw[Nat.zero_mul,List.drop_zero,List.take_of_length_le (by rw[ZkE];omega)]at v';exact⟨s',ψ',ds,I',G',r',v'⟩
   |_=>cases ht
end
end Go.Gv
namespace Go.Gv
open Go.RowKit Go.ChangeShapes Go.WideShapes
def RdA (s:St):List (Bool×Ty)→List DV→Prop
 |[],args=>args=[]
 |(ag,ty)::r,args=>∃cs d rest,Rd s ty cs∧RdA s r rest∧args=d::rest∧(bif ag then d= .agg cs else cs=[d])
def Frz (s:St):Prop:=∀(i:Nat) (b:Option Blk),s[i]? =some b→∃cs,b=some ⟨true,cs⟩
section
variable {C:Cfg} {H:Type} {enc:TypeId×Value→H} {W:World}
theorem noAgg {P:Program} {r:Reach} {base:Nat} {t:TypeId} {cs:Array Value} :Cell.okWide P W r base t (.agg cs)→False:=by
 unfold Cell.okWide Cell.ok;cases P.underlying t with
 |none=>exact id
 |some d=>cases d<;>exact id
theorem ZvL {P:Program} {r:Reach} {base:Nat} {t:TypeId} {cs:Array Value} :Cell.okWide P W r base t (.tuple cs)→False:=by
 unfold Cell.okWide Cell.ok;cases P.underlying t with
 |none=>exact id
 |some d=>cases d<;>exact id
theorem ZvA {P:Program} {r:Reach} {base:Nat} {t:TypeId} {a:Addr} {l c:Nat} :Cell.okWide P W r base t (.slice (some a) l c)→0<W.heap.size:=by
 have fin: ∀e,World.has P W r base a e c→0<W.heap.size:=by
  rintro e ⟨_,_,row,cells,hs,_⟩;unfold World.shape? at hs;cases hb:W.heap[a.block]? with
  |none=>rw[hb]at hs;cases hs
  |some o=>exact Nat.lt_of_le_of_lt (Nat.zero_le _) (ZbK hb)
 unfold Cell.okWide Cell.ok;cases P.underlying t with
 |none=>exact False.elim
 |some d=>
  cases d with
  |slice e=>exact fun h=>fin e h.2.2
  |_=>exact False.elim
theorem ZwA {t:TypeId} {v:Value} {base:Nat} (h:Value.okWide C.P W .any base t v):Mem W v.cells.toList:=by
 unfold Value.okWide at h;have row: ∀ {cs:Array Value},Row.okWide C.P W .any base t cs→Mem W cs.toList:=by
  rintro cs ⟨ts,_,_,h⟩ v hv a l c e;obtain⟨i,hi⟩:=List.getElem?_of_mem hv;rw[Array.getElem?_toList]at hi;obtain⟨u,_,hc⟩:=h i v hi;subst e;exact ZvA hc
 have plain:Cell.okWide C.P W .any base t v→Mem W v.cells.toList:=by
  intro h x hx a l c e;cases v with
  |agg cs=>exact(noAgg h).elim
  |tuple cs=>exact(ZvL h).elim
  |_=>
   simp only[Value.cells,List.mem_singleton]at hx;subst hx
   first|(cases e;done)|(cases e;exact ZvA h)
 cases hu:C.P.underlying t with
 |none=>rw[hu]at h;exact plain h
 |some d=>
  rw[hu]at h;cases d with
  |struct fs=>
   obtain⟨cs,rfl,_,h⟩:=h;exact row h
  |array n e=>
   obtain⟨cs,rfl,_,h⟩:=h;exact row h
  |_=>exact plain h
theorem ZuV {t:TypeId} {v:Value} {base:Nat} (h:Value.okWide C.P W .any base t v):(ZG C.P t=true∧∃cs,v= .agg cs)∨(ZG C.P t=false∧v.cells= #[v]):=by
 unfold Value.okWide at h;have plain:Cell.okWide C.P W .any base t v→v.cells= #[v]:=by
  intro h;cases v with
  |agg cs=>exact(noAgg h).elim
  |tuple cs=>exact(ZvL h).elim
  |_=>rfl
 unfold ZG;cases hu:C.P.underlying t with
 |none=>rw[hu]at h;exact .inr ⟨rfl,plain h⟩
 |some d=>
  rw[hu]at h;cases d with
  |struct fs=>obtain⟨cs,rfl,_,_⟩:=h;exact .inl ⟨rfl,cs,rfl⟩
  |array n e=>obtain⟨cs,rfl,_,_⟩:=h;exact .inl ⟨rfl,cs,rfl⟩
  |_=>exact .inr ⟨rfl,plain h⟩
theorem ZsG {base:Nat} : ∀(ts:List TypeId) (tys:List (Bool×Ty)) (vs:List Value) (ds:List (DataW H)) (p:List MemPlace) (s:St) (ψ:Ps),ts.map (fun t=>(tyOf C.P 20 t).map fun ty=>(ZG C.P t,ty))=tys.map some→
  DataW.TrodAll enc C.P W 0 (fun _=>true) true ts vs ds p→(∀(j:Nat) t v,ts[j]? =some t→vs[j]? =some v→Value.okWide C.P W .any base t v)→OI C W s ψ→
  ∃s' ψ' args,OI C W s' ψ'∧OG s s' ψ ψ'∧RdA s' tys args∧VRs C ψ' args vs
 |[],tys,vs,ds,p,s,ψ,hty,h,_,I=>by
  cases tys with
  |cons _ _=>cases hty
  |nil=>
   obtain⟨rfl,_,_⟩:=trodAll_nil h;exact⟨s,ψ,[],I,.refl s ψ,rfl,.nil⟩
 |t::ts,tys,vs,ds,p,s,ψ,hty,h,hok,I=>by
  cases tys with
  |nil=>cases hty
  |cons x tys=>
   simp only[List.map_cons,List.cons.injEq]at hty;obtain⟨hx,hty⟩:=hty;obtain⟨v,vs',d,ds',p1,q1,rfl,rfl,rfl,h1,h2⟩:=trodAll_cons h;have hv:=hok 0 t v rfl rfl;obtain⟨fuel,hf⟩:=h1;cases ht:tyOf C.P 20 t with
   |none=>rw[ht]at hx;cases hx
   |some ty=>
    rw[ht]at hx;cases hx;obtain⟨s1,ψ1,cs,I1,G1,r1,v1⟩:=Zja fuel 20 t ty _ _ s ψ ht hf (ZwA hv) I;obtain⟨s2,ψ2,args,I2,G2,r2,v2⟩:=ZsG ts tys vs' ds' q1 s1 ψ1 hty h2 (fun j t v a b=>hok (j+1) t v (by simpa using a) (by simpa using b)) I1;rcases ZuV hv with⟨hag,c,rfl⟩|⟨hag,hc⟩
    ·refine⟨s2,ψ2,.agg cs::args,I2,G1.trans G2,⟨cs,_,args,r1.mono G2.st,r2,rfl,by rw[hag];rfl⟩,.cons _ _ _ _ (.agg _ _ ?_ r1.one) v2⟩
     exact v1.mono fun _ _ e=>G2.ps _ _ e
    ·rw[hc]at v1
     cases v1 with
     |cons d0 _ _ _ a b=>
      cases b;exact⟨s2,ψ2,d0::args,I2,G1.trans G2,⟨[d0],d0,args,r1.mono G2.st,r2,rfl,by rw[hag];rfl⟩,.cons _ _ _ _ (a.mono fun _ _ e=>G2.ps _ _ e) v2⟩
theorem law_calls {Bd:Za} (hO: ∀n,Zy C (run Bd n)) {f:FuncId} {fn:Func} (hcov:C.cov f=true) (hfn:C.P.funcs[f]? =some fn) (hname:(fn.name== "runtime.NumGoroutine")=false) (hbody:fn.body.isSome=true)
  {s0:St} {ψ0:Ps} (I0:OI C W s0 ψ0) (hg:Glob C ψ0)
  {tys:List (Bool×Ty)} (hty:fn.params.toList.map (fun t=>(tyOf C.P 20 t).map fun ty=>(ZG C.P t,ty))=tys.map some)
  (law: ∀s args,Frz s→(∀(i:Nat) (b:Option Blk),s0[i]? =some b→s[i]? =some b)→RdA s tys args→∃n s',run Bd n (C.fn f) args s=some (.val [.bool true],s'))
  {args:List Value} {ds:List (DataW H)} {p:List MemPlace} {base:Nat} (hval: ∀(j:Nat) t v,fn.params[j]? =some t→args[j]? =some v→Value.okWide C.P W .any base t v)
  (hA:DataW.TrodAll enc C.P W 0 (fun _=>true) true fn.params.toList args ds p):
  Calls C.P f args.toArray W fun e W'=>e= .returned (.bool true)∧Below W.heap.size W W':=by
 obtain⟨s,ψ,dv,I,G,hr,hv⟩:=ZsG (enc:=enc) fn.params.toList tys args ds p s0 ψ0 hty hA (fun j t v a b=>hval j t v (by rw[←Array.getElem?_toList];exact a) b) I0;obtain⟨n,s',hrun⟩:=law s dv I.frz G.st hr;have nosole: ∀ {h:HId} {ab:AB},CS s h ab→ab.sole=false:=by
  rintro h ab ⟨i,rfl,e⟩;unfold stAB at e;cases hi:s[i]? with
  |none=>rw[hi]at e;cases e
  |some b=>
   obtain⟨cs,rfl⟩:=I.frz i b hi;rw[hi]at e;simp only[Option.some.injEq]at e;subst e;rfl
 have sim:Sim C ψ (CS s) W:=by
  constructor
  ·rintro h cb ab e ⟨i,rfl,q⟩
   exact I.hold i cb ab e q
  ·intro h cb ab h' cb' ab' _ q hs
   rw[nosole q]at hs;cases hs
 have blks:Blks ψ W:=by
  intro h cb e;cases h with
  |inl i=>exact I.blks i cb e
  |inr v=>rw[I.noV v]at e;cases e
 have:=(hO n (C.fn f) dv s _ hrun).2 f hcov rfl ψ W args sim blks (fun g e=>let ⟨cb,h1,h2⟩:=hg g e;⟨cb,G.ps _ _ h1,h2⟩) hv I.noV (fun i h1 _=>I.fresh i h1);unfold ZdZ at this;have hname': ¬fn.name= "runtime.NumGoroutine" :=by simpa using hname
 have hcall:(callFunc f args.toArray).run C.P W= .ok (.enter f args.toArray) W:=by
  cases hb:fn.body with
  |none=>rw[hb]at hbody;cases hbody
  |some c=>simp[callFunc,hfn,hname',hb]
 rw[hcall]at this;refine Calls.mono this fun e W' he=>?_
 cases e with
 |returned v=>
  obtain⟨ds',e1,ψ',hp,hret⟩:=he;cases e1;refine⟨?_,hp.ext.os,hp.ext.tape,hp.ext.output.1,hp.ext.size,fun k hk=>hp.ext.keep k hk ?_⟩
  ·rcases hret with⟨d,e,r⟩|⟨hl,_⟩
   ·cases e
    cases r;rfl
   ·exact absurd rfl hl
  ·rintro⟨h,cb,ab,_,q,hs,_⟩
   rw[nosole q]at hs;cases hs
 |panicked ch=>obtain⟨_,e1,_⟩:=he;cases e1
 |outgrown=>exact he.elim
theorem Zla (hl:laidOutB C.P=true) {W':World} (hb:Below W.heap.size W W'): ∀(ts:List TypeId) (vs:List Value) (ds:List (DataW H)) (p:List MemPlace),(∀t∈ts,C.P.readableRec t=true∧t<C.P.types.size)→
  DataW.TrodAll enc C.P W 0 (fun _=>true) true ts vs ds p→DataW.TrodAll enc C.P W' 0 (fun b=>decide (b<W.heap.size)) true ts vs ds p
 |[],vs,ds,p,_,h=>by
  obtain⟨rfl,rfl,rfl⟩:=trodAll_nil h;exact trodAll_mk0
 |t::ts,vs,ds,p,hr,h=>by
  obtain⟨v,vs',d,ds',p1,q1,rfl,rfl,rfl,h1,h2⟩:=trodAll_cons h;have lt: ∀x∈p1,x.block<W.heap.size:=by obtain⟨m,hm⟩:=h1;exact DataW.trod_lt m _ _ _ hm
  exact trodAll_cons_mk (Below.trod hl (hr t (by simp)).1 (hr t (by simp)).2 h1 hb lt) (Zla hl hb ts vs' ds' q1 (fun t h=>hr t (by simp[h])) h2)
theorem Znf: ∀(ts:List TypeId) (vs:List Value) (ds:List (DataW H)) (p:List MemPlace) {P:Program} {spare:Nat→Bool},DataW.TrodAll enc P W 0 spare true ts vs ds p→ds.length=ts.length
 |[],vs,ds,p,_,_,h=>by obtain⟨rfl,rfl,rfl⟩:=trodAll_nil h;rfl
 |t::ts,vs,ds,p,_,_,h=>by
  obtain⟨v,vs',d,ds',p1,q1,rfl,rfl,rfl,_,h2⟩:=trodAll_cons h;simp[Znf ts vs' ds' q1 h2]
end
end Go.Gv
namespace Go.Gv
mutual
def lits {H:Type} :DataW H→List Lit
 | .lit l=>[l]
 | .agg ps=>litsL ps
 |_=>[]
def litsL {H:Type} :List (DataW H)→List Lit
 |[]=>[]
 |d::r=>lits d++litsL r
end
def dvLit:Lit→DV
 | .bool b=> .bool b
 | .int k n=> .int k n
 | .string s=> .str s
 |_=> .nilIface
def Ty.flat:Ty→Bool
 | .sl _=>false
 | .pr x y=>x.flat&&y.flat
 |_=>true
def dlit {H:Type} (d:DataW H):List DV:=(lits d).map dvLit
section
variable {C:Cfg} {w:World} {H:Type} {enc:TypeId×Value→H} {base:Nat} {sp:Nat→Bool} {held:Bool}
theorem Zm9 {fuel:Nat} {g:TypeId→Option Ty} {cs:List Value}
  (ih: ∀(t:TypeId) (ty:Ty) (cs:List Value) (x:DataW H×List MemPlace),g t=some ty→ty.flat=true→DataW.trod enc C.P w base sp held fuel t cs=some x→∀ψ,VRs C ψ (dlit x.1) cs):
  ∀(fs:List Field) (ys:List (DataW H×List MemPlace)) (o:Nat) (ty:Ty),fsTy g C.P fs o=some ty→ty.flat=true→ys.length=fs.length→
  (∀(i:Nat) (f:Field),fs[i]? =some f→DataW.trod enc C.P w base sp held fuel f.type ((cs.drop f.offset).take (C.P.cellsOf f.type))=ys[i]?)→∀ψ,VRs C ψ ((litsL (ys.map (·.1))).map dvLit) ((cs.drop o).take ty.size)
 |[],ys,o,ty,h,_,hl,_,ψ=>by
  cases h;cases List.eq_nil_of_length_eq_zero hl;simp[Ty.size,litsL];exact .nil
 |f::fs,[],o,ty,_,_,hl,_,_=>by cases hl
 |f::fs,z::ys,o,ty,h,hfl,hl,hf,ψ=>by
  simp only[fsTy]at h;cases ho:Nat.beq f.offset o with
  |false=>rw[ho]at h;cases h
  |true=>
   rw[ho]at h;simp only[cond_true]at h;cases hg:g f.type with
   |none=>rw[hg]at h;cases h
   |some x=>
    rw[hg]at h;simp only at h;cases hs:Nat.beq x.size (C.P.cellsOf f.type)with
    |false=>rw[hs]at h;cases h
    |true=>
     rw[hs]at h;simp only[cond_true]at h;cases hr:fsTy g C.P fs (o+x.size)with
     |none=>rw[hr]at h;cases h
     |some y=>
      rw[hr]at h;cases h;simp only[Ty.flat,Bool.and_eq_true]at hfl;have ho:=Nat.eq_of_beq_eq_true ho;have hs:=Nat.eq_of_beq_eq_true hs;have v1:=ih f.type x _ z hg hfl.1 (hf 0 f rfl) ψ;have v2:=Zm9 ih fs ys (o+x.size) y hr hfl.2 (by simpa using hl) (fun i f' h'=>hf (i+1) f' h') ψ;rw[show Ty.size (.pr x y)=x.size+y.size from rfl,List.take_add,List.drop_drop];rw[ho,←hs]at v1;simp only[List.map_cons,litsL,List.map_append];exact v1.append v2
theorem Zuk {fuel:Nat} {g:TypeId→Option Ty} {cs:List Value}
  (ih: ∀(t:TypeId) (ty:Ty) (cs:List Value) (x:DataW H×List MemPlace),g t=some ty→ty.flat=true→DataW.trod enc C.P w base sp held fuel t cs=some x→∀ψ,VRs C ψ (dlit x.1) cs)
  {e:TypeId} {x:Ty} (hg:g e=some x) (hfl:x.flat=true) (hs:x.size=C.P.cellsOf e): ∀(m k:Nat) (ys:List (DataW H×List MemPlace)),ys.length=m→
  (∀i,i<m→DataW.trod enc C.P w base sp held fuel e ((cs.drop ((k+i)*C.P.cellsOf e)).take (C.P.cellsOf e))=ys[i]?)→∀ψ,VRs C ψ ((litsL (ys.map (·.1))).map dvLit) ((cs.drop (k*x.size)).take (repTy x m).size)
 |0,k,ys,hl,_,ψ=>by
  cases List.eq_nil_of_length_eq_zero hl;simp[Ty.size,litsL,repTy];exact .nil
 |m+1,k,[],hl,_,_=>by cases hl
 |m+1,k,z::ys,hl,hf,ψ=>by
  have v1:=ih e x _ z hg hfl (hf 0 (by omega)) ψ;have v2:=Zuk ih hg hfl hs m (k+1) ys (by simpa using hl) (fun i hi=>by have:=hf (i+1) (by omega);rwa [show k+(i+1)=k+1+i by omega]at this) ψ;rw[show(repTy x (m+1)).size=x.size+(repTy x m).size from rfl,List.take_add,List.drop_drop];rw[Nat.add_zero,←hs]at v1;rw[Nat.succ_mul]at v2;simp only[List.map_cons,litsL,List.map_append];exact v1.append v2
theorem ZuA {x:Ty} : ∀ {m:Nat},(repTy x m).flat=true→0<m→x.flat=true
 |0,_,h=>absurd h (Nat.lt_irrefl _)
 |m+1,h,_=>by simp only[repTy,Ty.flat,Bool.and_eq_true]at h;exact h.1
theorem ZlQ: ∀(fuel f0:Nat) (t:TypeId) (ty:Ty) (cs:List Value) (x:DataW H×List MemPlace),tyOf C.P f0 t=some ty→ty.flat=true→DataW.trod enc C.P w base sp held fuel t cs=some x→∀ψ,VRs C ψ (dlit x.1) cs
 |0,_,t,_,cs,x,_,_,h=>by simp[DataW.trod]at h
 |fuel+1,0,t,ty,cs,x,ht,_,_=>by cases ht
 |fuel+1,f0+1,t,ty,cs,x,ht,hfl,h=>by
  intro ψ;simp only[tyOf]at ht;cases hu:C.P.underlying t with
  |none=>rw[hu]at ht;cases ht
  |some td=>
   rw[hu]at ht;cases td with
   |bool=>obtain⟨b,rfl,rfl⟩:=DataW.trod_bool hu h;exact .cons _ _ _ _ (.bool b) .nil
   |int k=>obtain⟨n,rfl,rfl,_⟩:=DataW.trod_int hu h;exact .cons _ _ _ _ (.int k n) .nil
   |string=>obtain⟨l,rfl,rfl,_⟩:=DataW.trod_string hu h;exact .cons _ _ _ _ (.str l) .nil
   |slice e=>
    simp only at ht;cases hte:tyOf C.P f0 e with
    |none=>rw[hte]at ht;cases ht
    |some te=>
     rw[hte]at ht;simp only at ht;cases hsz:Nat.beq te.size (C.P.cellsOf e)&&Nat.blt 0 te.size with
     |false=>rw[hsz]at ht;cases ht
     |true=>rw[hsz]at ht;cases ht;cases hfl
   |struct fs=>
    simp only at ht;cases hfs:fsTy (tyOf C.P f0) C.P fs.toList 0 with
    |none=>rw[hfs]at ht;cases ht
    |some y=>
     rw[hfs]at ht;simp only at ht;cases hsz:Nat.beq y.size (C.P.cellsOf t)with
     |false=>rw[hsz]at ht;cases ht
     |true=>
      rw[hsz]at ht;cases ht;have hsz:=Nat.eq_of_beq_eq_true hsz;obtain⟨xs,n,hn,rfl,hcl,hxl,hget⟩:=DataW.trod_struct hu h;cases hn;have v':=Zm9 (C:=C) (w:=w) (enc:=enc) (cs:=cs) (fun t ty cs x h1 h2 h3=>ZlQ fuel f0 t ty cs x h1 h2 h3) fs.toList xs 0 ty hfs hfl (by rw[hxl,Array.length_toList]) (fun i f hi=>hget i f (by rw[←Array.getElem?_toList];exact hi)) ψ;rw[List.drop_zero,List.take_of_length_le (by omega)]at v';simpa [dlit,lits]using v'
   |array m e=>
    simp only at ht;cases hte:tyOf C.P f0 e with
    |none=>rw[hte]at ht;cases ht
    |some te=>
     rw[hte]at ht;simp only at ht;cases hsz:Nat.beq te.size (C.P.cellsOf e)&&Nat.beq (m*te.size) (C.P.cellsOf t)with
     |false=>rw[hsz]at ht;cases ht
     |true=>
      rw[hsz]at ht;cases ht;rw[Bool.and_eq_true]at hsz;have h1:=Nat.eq_of_beq_eq_true hsz.1;have h2:=Nat.eq_of_beq_eq_true hsz.2;obtain⟨xs,n,hn,rfl,hcl,hxl,hget⟩:=DataW.trod_array hu h;cases hn;have v':VRs C ψ ((litsL (xs.map (·.1))).map dvLit) cs:=by
       rcases Nat.eq_zero_or_pos m with h0|h0
       ·subst h0
        cases List.eq_nil_of_length_eq_zero hxl;rw[Nat.zero_mul]at h2;cases List.eq_nil_of_length_eq_zero (hcl.trans h2.symm);exact .nil
       ·have v':=Zuk (C:=C) (w:=w) (enc:=enc) (cs:=cs) (fun t ty cs x h1 h2 h3=>ZlQ fuel f0 t ty cs x h1 h2 h3) hte (ZuA hfl h0) h1 m 0 xs hxl (fun i hi=>by rw[Nat.zero_add];exact hget i hi) ψ
        rw[Nat.zero_mul,List.drop_zero,List.take_of_length_le (by rw[ZkE];omega)]at v';exact v'
      simpa [dlit,lits]using v'
   |_=>cases ht
theorem ZsK {P:Program} {n:String} {d:DataW Unit} : ∀ {laid:List (String×DataW Unit)} {ps:List MemPlace},DataW.LaidVars P w laid ps→(n,d)∈laid→
  ∃g t cs fuel p,P.globalNamed n=some g∧(P.globals[g]?).map (·.type)=some t∧w.var? P n=some cs∧DataW.trod (fun _=>()) P w 0 (fun _=>true) false fuel t cs.toList=some (d,p)
 |[],_,_,h=>by cases h
 |(n',d')::r,ps,⟨g,t,cs,fuel,p,q,h1,h2,h3,h4,h5,_⟩,h=>by
  rcases List.mem_cons.1 h with h|h
  ·cases h;exact⟨g,t,cs,fuel,p,h1,h2,h3,h4⟩
  ·exact ZsK h5 h
def TabOk (C:Cfg) (laid:List (String×DataW Unit)) (tb:St) (g:Nat):Prop:=
 ∃n d t ty,(n,d)∈laid∧C.P.globalNamed n=some g∧(C.P.globals[g]?).map (·.type)=some t∧tyOf C.P 20 t=some ty∧ty.flat=true∧tb[C.gl g]? =some (some ⟨true,dlit d⟩)
def tabP (gs:List (Nat×Nat)) (m:Nat→Nat):Ps
 | .inl i=>(gs.find? fun x=>Nat.beq x.2 i).map fun x=>⟨x.1,0,m x.1⟩
 | .inr _=>none
theorem Zx1: ∀(l:List Lit),(l.map dvLit).all one=true
 |[]=>rfl
 |l::r=>by rw[List.map_cons,List.all_cons,Zx1 r];cases l<;>rfl
theorem tabs_OI {laid:List (String×DataW Unit)} (hm:laidMetH C.P laid w) (hp:(laid.all fun x=>x.2.handleName?.isNone)=true) {tb:St} (hf: ∀(i:Nat) (b:Option Blk),tb[i]? =some b→∃cs,b=some ⟨true,cs⟩)
  (gs:List (Nat×Nat)) (hgs: ∀x∈gs,C.gl x.1=x.2∧TabOk C laid tb x.1) (hglc: ∀g,C.glc g=true→gs.find? (fun x=>Nat.beq x.2 (C.gl g))=some (g,C.gl g)):
  ∃ψ,OI C w tb ψ∧Glob C ψ:=by
 rw[MakeChecks.laidMetH_plain _ _ _ hp]at hm;obtain⟨ps,hv,_,_⟩:=hm;have cell: ∀x∈gs,∃(cs:Array Value) (ds:List DV) (ty:TypeId) (fr:Nat×Nat),w.heap[x.1]? =some (.cells cs ty fr)∧tb[x.2]? =some (some ⟨true,ds⟩)∧(∀ψ,VRs C ψ ds cs.toList)∧ds.all one=true:=by
  intro x hx;obtain⟨e,n,d,t,ty,h1,h2,h3,h4,h5,h6⟩:=hgs x hx;obtain⟨g,t',cs,fuel,p,k1,k2,k3,k4⟩:=ZsK hv h1;cases h2.symm.trans k1;cases h3.symm.trans k2;have hc: ∃ty fr,w.heap[x.1]? =some (.cells cs ty fr):=by
   simp only[World.var?,k1,Option.bind_some]at k3;split at k3
   ·cases k3;exact⟨_,_, ‹_›⟩
   ·cases k3
  obtain⟨ty',fr,hc⟩:=hc;exact⟨cs,_,ty',fr,hc,by rw[←e];exact h6,fun ψ=>ZlQ fuel 20 t ty _ _ h4 h5 k4 ψ,Zx1 _⟩
 let m:Nat→Nat:=fun g=>match w.heap[g]? with
  |some (.cells cs _ _)=>cs.size
  |_=>0
 have hfind: ∀i cb,tabP gs m (.inl i)=some cb→∃x∈gs,x.2=i∧cb=⟨x.1,0,m x.1⟩:=by
  intro i cb h;simp only[tabP,Option.map_eq_some_iff]at h;obtain⟨x,h1,h2⟩:=h;exact⟨x,List.mem_of_find?_eq_some h1,Nat.eq_of_beq_eq_true (List.find?_some (p:=fun x:Nat×Nat=>Nat.beq x.2 i) h1),h2.symm⟩
 refine⟨tabP gs m,⟨fun i cb ab e q=>?_,fun i cb e=>?_,hf,fun i hi=>?_,fun v=>rfl⟩,fun g hg=>⟨⟨g,0,m g⟩,?_,rfl,rfl⟩⟩
 ·obtain⟨x,hx,rfl,rfl⟩:=hfind i cb e
  obtain⟨cs,ds,ty,fr,c1,c2,c3,c4⟩:=cell x hx;unfold stAB at q;rw[c2]at q;cases q;have hl:=(c3 (tabP gs m)).len;refine⟨?_,c4,fun j d hd=>?_,fun h=>by cases h⟩
  ·show ds.length≤m x.1
   have hm:m x.1=cs.size:=by simp only[m,c1]
   have h2:cs.toList.length=cs.size:=Array.length_toList;omega
  ·obtain⟨v,hv,hr⟩:=(c3 (tabP gs m)).get hd
   refine⟨v,?_,hr⟩;simp only[World.cell?,c1,Nat.zero_add];rw[←Array.getElem?_toList];exact hv
 ·obtain⟨x,hx,rfl,rfl⟩:=hfind i cb e
  obtain⟨cs,ds,ty,fr,c1,_⟩:=cell x hx;exact ZbK c1
 ·cases h:tabP gs m (.inl i)with
  |none=>rfl
  |some cb=>
   obtain⟨x,hx,rfl,_⟩:=hfind i cb h;obtain⟨cs,ds,ty,fr,_,c2,_⟩:=cell x hx;exact absurd (List.getElem?_eq_some_iff.1 c2).1 (by omega)
 ·simp only[tabP,hglc g hg,Option.map_some]
end
end Go.Gv
namespace Go.Gv
open Go.RowKit Go.ChangeShapes Go.WideShapes
theorem law_lifted_laid {C:Cfg} {Ck:Checked} (hck:C.P=Ck.prog) {os:Os} (started:os.Started) {f:FuncId} {fn:Func} {s:ChangeSpec} {H:Type} {enc:TypeId×Value→H} {laid:List (String×DataW Unit)}
  (own:ownKnob Ck.prog.godebug=none) (noInit:Ck.prog.inits.idxOf? f=none) (hfn:Ck.prog.funcs[f]? =some fn) (laidOut:laidOutB Ck.prog=true)
  (hvars:s.vars=[]) {rt:TypeId} (hres:fn.resultTypes= #[rt]) (hrt:Ck.prog.underlying rt=some .bool) (hread:fn.params.toList.all (fun t=>Ck.prog.readableRec t&&decide (t<Ck.prog.types.size))=true)
  (hspec: ∀ds:List (DataW H),ds.length=fn.params.size→(s.fn H ds).results=[.lit (.bool true)]∧(s.fn H ds).args=ds∧(s.fn H ds).vars=[])
  (witness: ∃(w:World) (tape:Tape) (i:Input),w.os=os∧(w.forCall tape i).Shaped Ck.prog∧i.vars=[]∧Input.okWide Ck.prog (w.forCall tape i) .any w.heap.size f i∧
   ((s.pre enc Ck.prog fn [] false (w.forCall tape i).memory i.args∧laidMetH Ck.prog laid (w.forCall tape i).memory)∧sizedMet enc Ck.prog fn (OpenSpec.ofChange s) false (w.forCall tape i).memory i.args)∧
   ({} :Assume).holds Ck.prog (lone (Frame.enter Ck.prog f i.args .normal) [] (w.forCall tape i)))
  (calls: ∀(W:World) (args:List Value) (ds:List (DataW H)) (p:List MemPlace) (base:Nat),laidMetH C.P laid W→(∀(j:Nat) t v,fn.params[j]? =some t→args[j]? =some v→Value.okWide C.P W .any base t v)→
   DataW.TrodAll enc C.P W 0 (fun _=>true) true fn.params.toList args ds p→Calls C.P f args.toArray W fun e W'=>e= .returned (.bool true)∧Below W.heap.size W W'):
  ReturnsInHanded {} Ck os f .any (fun w args=>(s.pre enc Ck.prog fn [] false w args∧laidMetH Ck.prog laid w)∧sizedMet enc Ck.prog fn (OpenSpec.ofChange s) false w args) (s.post enc Ck.prog fn false true false false):=by
 refine returnsInHanded_of_change_and (C:=Ck) (X:=fun w _=>laidMetH Ck.prog laid w) (fun _ _ _ hh h=>h.of_heap hh) own started noInit hfn witness ?_;intro W base args ds gs before hval hW _ _ hL _;have hW':=hW;obtain⟨p,q,hA,hV,rfl,hfz,hnd⟩:=hW;rw[hvars]at hV;obtain⟨rfl,rfl⟩:=trodVars_none hV;have hlen:=Znf _ _ _ _ hA;rw[Array.length_toList]at hlen;obtain⟨h1,h2,h3⟩:=hspec ds hlen;have hc:=calls W args.toList ds p base (by rw[hck];exact hL) (fun j t v a b=>by rw[hck];exact hval j t v a (by rw[←Array.getElem?_toList];exact b)) (by rw[hck];exact hA);rw[hck]at hc;refine Calls.mono hc fun e W' ⟨he,bel⟩=>?_
 subst he;refine⟨_,rfl,ds,[],_,[],p,[],hW',?_,?_,?_,bel.frame _,fun h=>by cases h⟩
 ·rw[List.append_nil,h1,hres]
  exact trodAll_mk1 (shut_bool hrt _)
 ·rw[List.append_nil,h2]
  have hr: ∀t∈fn.params.toList,C.P.readableRec t=true∧t<C.P.types.size:=by
   rw[hck];intro t ht;have:=List.all_eq_true.1 hread t ht;rw[Bool.and_eq_true,decide_eq_true_eq]at this;exact this
  have:=Zla (C:=C) (enc:=enc) (by rw[hck];exact laidOut) bel fn.params.toList args.toList ds p hr (by rw[hck];exact hA);rw[hck]at this;exact this
 ·rw[List.append_nil,h3,hvars];rfl
theorem has_all {P:Nat→Bool} : ∀ {l:List Nat},l.all P=true→∀g,has l g=true→P g=true
 |[],_,g,h=>by cases h
 |a::l,hl,g,h=>by
  rw[List.all_cons,Bool.and_eq_true]at hl;simp only[has,Bool.or_eq_true]at h;rcases h with h|h
  ·rw[←Nat.eq_of_beq_eq_true h];exact hl.1
  ·exact has_all hl.2 g h
theorem noStandIn {P:Program} {fn:Func} {l:List TypeId} (hp:fn.params.toList=l) (h:l.all (fun u=> !P.wantsStandIn u)=true): ∀(j:Nat) t,fn.params[j]? =some t→P.wantsStandIn t=false:=by
 intro j t ht;have hm:t∈l:=by rw[←hp];exact Array.mem_toList_iff.2 (Array.mem_of_getElem? ht)
 simpa using List.all_eq_true.1 h t hm
end Go.Gv
namespace Go.Gv
set_option maxRecDepth 20000
def tab0:List DV:=[.str [98,101,103,105,110],.str [],.int .i64 1,.str [99,111,109,109,105,116],.str [],.int .i64 2,.str [97,98,111,114,116],.str [],.int .i64 3,.str [110,101,119],.str [110],.int .i64 4,.str [100,114,111,112],.str [110],.int .i64 5,.str [112,117,116],.str [110,107,118],.int .i64 6,.str [109,105,110],.str [110],.int .i64 7,.str [112,111,112],.str [110],.int .i64 8,.str [108,111,119,101,114],.str [110,104,107],.int .i64 9,.str [99,117,116],.str [110,104],.int .i64 10,.str [109,101,108,100],.str [110,111],.int .i64 11,.str [103,101,116],.str [104],.int .i64 12,.str [108,101,110],.str [110],.int .i64 13,.str [108,105,115,116],.str [110],.int .i64 14,.str [110,97,109,101,115],.str [],.int .i64 15,.str [97,114,109],.str [118],.int .i64 16,.str [112,108,97,110],.str [42],.int .i64 17,.str [99,114,97,115,104],.str [42],.int .i64 18,.str [99,104,101,99,107],.str [],.int .i64 19,.str [101,112,111,99,104],.str [],.int .i64 20]
def tab1:List DV:=[.int .u64 1,.int .u64 10,.int .u64 100,.int .u64 1000,.int .u64 10000,.int .u64 100000,.int .u64 1000000,.int .u64 10000000,.int .u64 100000000,.int .u64 1000000000,.int .u64 10000000000,.int .u64 100000000000,.int .u64 1000000000000,.int .u64 10000000000000,.int .u64 100000000000000,.int .u64 1000000000000000,.int .u64 10000000000000000,.int .u64 100000000000000000,.int .u64 1000000000000000000,.int .u64 10000000000000000000]
def tab2:List DV:=[.int .u8 0,.int .u8 1,.int .u8 56,.int .u8 2,.int .u8 57,.int .u8 49,.int .u8 28,.int .u8 3,.int .u8 61,.int .u8 58,.int .u8 42,.int .u8 50,.int .u8 38,.int .u8 29,.int .u8 17,.int .u8 4,.int .u8 62,.int .u8 47,.int .u8 59,.int .u8 36,.int .u8 45,.int .u8 43,.int .u8 51,.int .u8 22,.int .u8 53,.int .u8 39,.int .u8 33,.int .u8 30,.int .u8 24,.int .u8 18,.int .u8 12,.int .u8 5,.int .u8 63,.int .u8 55,.int .u8 48,.int .u8 27,.int .u8 60,.int .u8 41,.int .u8 37,.int .u8 16,.int .u8 46,.int .u8 35,.int .u8 44,.int .u8 21,.int .u8 52,.int .u8 32,.int .u8 23,.int .u8 11,.int .u8 54,.int .u8 26,.int .u8 40,.int .u8 15,.int .u8 34,.int .u8 20,.int .u8 31,.int .u8 10,.int .u8 25,.int .u8 14,.int .u8 19,.int .u8 9,.int .u8 13,.int .u8 8,.int .u8 7,.int .u8 6]
def tab3:List DV:=[.int .u8 0,.int .u8 1,.int .u8 28,.int .u8 2,.int .u8 29,.int .u8 14,.int .u8 24,.int .u8 3,.int .u8 30,.int .u8 22,.int .u8 20,.int .u8 15,.int .u8 25,.int .u8 17,.int .u8 4,.int .u8 8,.int .u8 31,.int .u8 27,.int .u8 13,.int .u8 23,.int .u8 21,.int .u8 19,.int .u8 16,.int .u8 7,.int .u8 26,.int .u8 12,.int .u8 18,.int .u8 6,.int .u8 11,.int .u8 5,.int .u8 10,.int .u8 9]
def tab4:List DV:=Go.Pinned.utf8FirstZ.map fun n:Nat=>DV.int .u8 (Int.ofNat n)
def tab5:List DV:=[.int .u8 128,.int .u8 191,.int .u8 160,.int .u8 191,.int .u8 128,.int .u8 159,.int .u8 144,.int .u8 191,.int .u8 128,.int .u8 143,.int .u8 0,.int .u8 0,.int .u8 0,.int .u8 0,.int .u8 0,.int .u8 0,.int .u8 0,.int .u8 0,.int .u8 0,.int .u8 0,.int .u8 0,.int .u8 0,.int .u8 0,.int .u8 0,.int .u8 0,.int .u8 0,.int .u8 0,.int .u8 0,.int .u8 0,.int .u8 0,.int .u8 0,.int .u8 0]
def tabs:St:=[some ⟨true,tab0⟩,some ⟨true,tab1⟩,some ⟨true,tab2⟩,some ⟨true,tab3⟩,some ⟨true,tab4⟩,some ⟨true,tab5⟩]
theorem tabs_frz: ∀(i:Nat) (b:Option Blk),tabs[i]? =some b→∃cs,b=some ⟨true,cs⟩:=by
 intro i b h
 match i,h with
 |0,h=>cases h;exact⟨_,rfl⟩
 |1,h=>cases h;exact⟨_,rfl⟩
 |2,h=>cases h;exact⟨_,rfl⟩
 |3,h=>cases h;exact⟨_,rfl⟩
 |4,h=>cases h;exact⟨_,rfl⟩
 |5,h=>cases h;exact⟨_,rfl⟩
 |n+6,h=>simp[tabs]at h
end Go.Gv
