/- Arguments that can be read as data: what the machine makes of them. -/
import Derived.Test.YtegglibipjjblaaGreatDoorGvZRun
import Derived.ChangeArms
import Derived.OpenShut
import Derived.ProofKit
import Derived.ShutString
import Derived.ChangeOld
import Derived.Below
import Derived.SizedLaws
import Derived.MakeChecks
import GoSem.ClaimJoined
import Derived.LaidMore
import Derived.Lay
import Derived.SevenTiedAt
import Derived.Stop.Joined
import GoSem.PinnedTables
set_option linter.all false
namespace Go.Gv
inductive Ty where
 |b
 |i (k:IntKind)
 |s
 |sl (e:Ty)
 |un
 |pr (x y:Ty)
def Ty.size:Ty->Nat
 | .un=>0
 | .pr x y=>x.size+y.size
 |_=>1
def Rd (s:St):Ty->ah->Prop
 | .b,ds=>∃b,ds=[.bool b]
 | .i k,ds=>∃n:Int,ds=[.int k n]/\k.min<=n/\n<=k.max
 | .s,ds=>∃l:aj,ds=[.str l]/\l.length<=maxLen
 | .sl e,ds=>ds=[.slice e.size none 0]\/∃(i n:Nat) (cs:ah),ds=[.slice e.size (some (i,0)) n]/\s[i]? =some (some ⟨true,cs⟩)/\cs.length=n*e.size/\n<=maxLen/\∀j,j<n->Rd s e ((cs.drop (j*e.size)).take e.size)
 | .un,ds=>ds=[]
 | .pr x y,ds=>∃a b,ds=a++b/\Rd s x a/\Rd s y b
theorem Rd.len {s:St} : ∀ {t:Ty} {ds:ah},Rd s t ds->ds.length=t.size
 | .b,_,⟨_,h⟩=>by rw[h];rfl
 | .i _,_,⟨_,h,_⟩=>by rw[h];rfl
 | .s,_,⟨_,h,_⟩=>by rw[h];rfl
 | .sl _,_,h=>by rcases h with h|⟨_,_,_,h,_⟩<;>(rw[h];rfl)
 | .un,_,h=>by rw[show _=[]from h];rfl
 | .pr x y,_,⟨a,b,h,h1,h2⟩=>by rw[h,ba,Rd.len h1,Rd.len h2];rfl
theorem Rd.one {s:St} : ∀ {t:Ty} {ds:ah},Rd s t ds->ds.all one=true
 | .b,_,⟨_,h⟩=>by rw[h];rfl
 | .i _,_,⟨_,h,_⟩=>by rw[h];rfl
 | .s,_,⟨_,h,_⟩=>by rw[h];rfl
 | .sl _,_,h=>by rcases h with h|⟨_,_,_,h,_⟩<;>(rw[h];rfl)
 | .un,_,h=>by rw[show _=[]from h];rfl
 | .pr x y,_,⟨a,b,h,h1,h2⟩=>by rw[h,uC,Rd.one h1,Rd.one h2];rfl
theorem Rd.mono {s s':St} (hs: ∀(i:Nat) (b:Option bQ),s[i]? =some b->s'[i]? =some b): ∀ {t:Ty} {ds:ah},Rd s t ds->Rd s' t ds
 | .b,_,h=>h
 | .i _,_,h=>h
 | .s,_,h=>h
 | .sl e,_,h=>by
  rcases h with h|⟨i,n,cs,h1,h2,h3,h4,h5⟩
  .exact .inl h
  .exact .inr ⟨i,n,cs,h1,hs _ _ h2,h3,h4,λj hj=>Rd.mono hs (h5 j hj)⟩
 | .un,_,h=>h
 | .pr x y,_,⟨a,b,h,h1,h2⟩=>⟨a,b,h,Rd.mono hs h1,Rd.mono hs h2⟩
def yS (g:TypeId->Option Ty) (P:Program):List Field->Nat->Option Ty
 |[],_=>some .un
 |f::r,o=>bif Nat.beq f.offset o then(match g f.type with
  |some x=>bif Nat.beq x.size (P.cellsOf f.type)then(match yS g P r (o+x.size)with
   |some y=>some (.pr x y)
   |none=>none)else none
  |none=>none)else none
def rK (x:Ty):Nat->Ty
 |0=> .un
 |n+1=> .pr x (rK x n)
def pj (P:Program):Nat->TypeId->Option Ty
 |0,_=>none
 |n+1,t=>match P.underlying t with
  |some .bool=>some .b
  |some (.int k)=>some (.i k)
  |some .string=>some .s
  |some (.slice e)=>(match pj P n e with
   |some x=>bif Nat.beq x.size (P.cellsOf e)&&Nat.blt 0 x.size then some (.sl x)else none
   |none=>none)
  |some (.struct fs)=>(match yS (pj P n) P fs.toList 0 with
   |some x=>bif Nat.beq x.size (P.cellsOf t)then some x else none
   |none=>none)
  |some (.array m e)=>(match pj P n e with
   |some x=>bif Nat.beq x.size (P.cellsOf e)&&Nat.beq (m*x.size) (P.cellsOf t)then some (rK x m)else none
   |none=>none)
  |_=>none
theorem U9 (x:Ty): ∀n,(rK x n).size=n*x.size
 |0=>by simp[rK,Ty.size]
 |n+1=>by simp[rK,Ty.size,U9 x n,FJ,tm]
structure OI (C:bE) (w:World) (s:St) (ψ:Ps):Prop where
 hold: ∀i cb ab,ψ (.inl i)=some cb->dA s i=some ab->Holds C ψ w cb ab
 gU: ∀i cb,ψ (.inl i)=some cb->cb.b<w.heap.size
 gk: ∀(i:Nat) (b:Option bQ),s[i]? =some b->∃cs,b=some ⟨true,cs⟩
 fresh: ∀i,s.length<=i->ψ (.inl i)=none
 noV: ∀v,ψ (.inr v)=none
structure OG (s s':St) (ψ ψ':Ps):Prop where
 st: ∀(i:Nat) (b:Option bQ),s[i]? =some b->s'[i]? =some b
 len:s.length<=s'.length
 ps: ∀h cb,ψ h=some cb->ψ' h=some cb
theorem OG.refl (s:St) (ψ:Ps):OG s s ψ ψ:=⟨λ_ _ h=>h,aJ _,λ_ _ h=>h⟩
variable {cs:Array Value} {f:FuncId} {laid:List (String×DataW Unit)} {args vs:List Value} {base c j n:Nat} {P:Program} {HV jh ψ ψ':Ps} {r:Reach} {rM s' s0 tb:St} {H:Type} {rt t:TypeId} {v:Value}
theorem OG.trans {s:St} (h:OG s s' ψ ψ') (k:OG s' rM ψ' HV):OG s rM ψ HV:=
 ⟨λi b e=>k.st i b (h.st i b e),ij h.len k.len,λx cb e=>k.ps x cb (h.ps x cb e)⟩
section
variable {C:bE} {w:World} {s:St} {ψ:Ps}
theorem OI.add (I:OI C w s ψ) (cs:ah) (cb:CB) (hb:cb.b<w.heap.size) (hl:cs.length<=cb.m) (h1:cs.all one=true)
  (hc: ∀j d,cs[j]? =some d->∃v,w.cell? ⟨cb.b,cb.o+j,none⟩=some v/\VR C ψ d v):
  OI C w (s++[some ⟨true,cs⟩]) (qa ψ (.inl s.length) cb)/\OG s (s++[some ⟨true,cs⟩]) ψ (qa ψ (.inl s.length) cb):=by
 have hf:ψ (.inl s.length)=none:=I.fresh _ (aJ _);have mono:=xq (cb:=cb) hf;refine⟨⟨λi c ab e q=>?_,λi c e=>?_,λi b e=>?_,λi hi=>?_,λv=>?_⟩,⟨λi b e=>?_,Do,mono⟩⟩
 .by_cases hi:i=s.length
  .subst hi
   rw[rY]at e;cases e;rw[Rx]at q;cases q;exact⟨hl,h1,λj d hd=>let ⟨v,a,b⟩:=hc j d hd;⟨v,a,b.mono λ_ _ e=>mono _ _ e⟩,(λh=>by cases h)⟩
  .rw[qm _ _ (λe=>hi (Sum.inl.inj e))]at e
   have:=Eb q;simp only[ba,iS]at this;rw[MC AC]at q;exact(I.hold i c ab e q).same (λ_ _ e=>mono _ _ e) rfl
 .by_cases hi:i=s.length
  .grind[rY]
  .rw[qm _ _ (λe=>hi (Sum.inl.inj e))]at e;exact I.gU i c e
 .rcases jw i s.length with h|h
  .rw[nc h]at e;exact I.gk i b e
  grind
 .simp only[ba,iS]at hi
  rw[qm _ _ Fd];exact I.fresh i AC
 .rw[qm _ _ (λe=>by cases e)];exact I.noV v
 grind
def Mem (w:World) (cs:List Value):Prop:=∀v∈cs,∀a l c,v= .slice (some a) l c->0<w.heap.size
variable {H:Type} {enc:TypeId×Value->H}
theorem ZoS {a:Addr} (h:w.cells? base a n=some vs):vs.length=n/\∀j,j<n->w.cell? (a.add j)=vs[j]? :=by
 unfold World.cells? at h;split at h
 .have h1:=mapM_some_length h
  rw[List.length_range]at h1;exact⟨h1,λj hj=>mapM_some_get h j j (by simp[hj])⟩
 .cases h
theorem ZxH {a:Addr} (h:w.cell? (a.add j)=some v):w.cell? ⟨a.block,a.off+j,none⟩=some v/\(j=0->a.spot=none)/\a.block<w.heap.size:=by
 have hb: ∀x:Addr,w.cell? x=some v->x.block<w.heap.size/\x.spot=none:=by
  intro x hx;unfold World.cell? at hx;cases hb:w.heap[x.block]?
  .rw[hb]at hx;cases hx
  .rename_i o;rw[hb]at hx;refine⟨IW hb,?_⟩;cases o<;>simp only at hx<;>first|(cases hx;done)|skip
   simp_all
 unfold Addr.add at h;split at h
 .rename_i hj
  have⟨h1,h2⟩:=hb a h;subst hj;refine⟨?_,λ_=>h2,h1⟩;rw[fE,<-h2];exact h
 grind
theorem Mem.part {cs:List Value} (h:Mem w cs) (o n:Nat):Mem w ((cs.drop o).take n):=λv hv=>h v Fd
def ab2 (C:bE) (w:World) (enc:TypeId×Value->H) (fuel:Nat) (g:TypeId->Option Ty):Prop:=
 ∀(t:TypeId) (ty:Ty) (cs:List Value) (x:DataW H×List MemPlace) (s:St) (ψ:Ps),g t=some ty->DataW.trod enc C.P w 0 (λ_=>true) true fuel t cs=some x->Mem w cs->OI C w s ψ->
  ∃(s':St) (ψ':Ps) (ds:ah),OI C w s' ψ'/\OG s s' ψ ψ'/\Rd s' ty ds/\bJ C ψ' ds cs
theorem ZnQ {fuel:Nat} {g:TypeId->Option Ty} (ih:ab2 C w enc fuel g) {cs:List Value} (hm:Mem w cs): ∀(fs:List Field) (o:Nat) (ty:Ty) (s:St) (ψ:Ps),yS g C.P fs o=some ty->
  (∀f∈fs,∃y,DataW.trod enc C.P w 0 (λ_=>true) true fuel f.type ((cs.drop f.offset).take (C.P.cellsOf f.type))=some y)->OI C w s ψ->
  ∃(s':St) (ψ':Ps) (ds:ah),OI C w s' ψ'/\OG s s' ψ ψ'/\Rd s' ty ds/\bJ C ψ' ds ((cs.drop o).take ty.size)
 |[],o,ty,s,ψ,h,_,I=>by
  cases h;exact⟨s,ψ,[],I,.refl s ψ,rfl,by simp[Ty.size];exact .nil⟩
 |f::fs,o,ty,s,ψ,h,hf,I=>by
  simp only[yS]at h;cases ho:Nat.beq f.offset o
  .rw[ho]at h;cases h
  .rw[ho]at h;simp only[ae]at h;cases hg:g f.type
   .rw[hg]at h;cases h
   .rename_i x;rw[hg]at h;simp only at h;cases hs:Nat.beq x.size (C.P.cellsOf f.type)
    .rw[hs]at h;cases h
    .rw[hs]at h;simp only[ae]at h;cases hr:yS g C.P fs (o+x.size)
     .rw[hr]at h;cases h
     .rename_i y;rw[hr]at h;cases h;have ho:=dQ ho;have hs:=dQ hs;have⟨z,hz⟩:=hf f Do;have⟨s1,ji,d1,I1,G1,r1,v1⟩:=ih f.type x _ z s ψ hg hz (hm.part _ _) I;have⟨s2,lr,d2,I2,G2,r2,v2⟩:=ZnQ ih hm fs (o+x.size) y s1 ji hr Fd I1;refine⟨s2,lr,d1++d2,I2,G1.trans G2,⟨d1,d2,rfl,r1.mono G2.st,r2⟩,?_⟩;rw[show Ty.size (.pr x y)=x.size+y.size from rfl,uH,kd];rw[ho,<-hs]at v1;exact(v1.mono λ_ _ e=>G2.ps _ _ e).append v2
theorem Zuq {fuel:Nat} {g:TypeId->Option Ty} (ih:ab2 C w enc fuel g) {cs:List Value} (hm:Mem w cs) {e:TypeId} {x:Ty} (hg:g e=some x) (hs:x.size=C.P.cellsOf e): ∀(m k:Nat) (s:St) (ψ:Ps),
  (∀i,i<m->∃y,DataW.trod enc C.P w 0 (λ_=>true) true fuel e ((cs.drop ((k+i)*C.P.cellsOf e)).take (C.P.cellsOf e))=some y)->OI C w s ψ->
  ∃(s':St) (ψ':Ps) (ds:ah),OI C w s' ψ'/\OG s s' ψ ψ'/\Rd s' (rK x m) ds/\bJ C ψ' ds ((cs.drop (k*x.size)).take (rK x m).size)
 |0,k,s,ψ,_,I=>⟨s,ψ,[],I,.refl s ψ,rfl,by simp[Ty.size,rK];exact .nil⟩
 |m+1,k,s,ψ,hf,I=>by
  have⟨z,hz⟩:=hf 0 AC;have⟨s1,ji,d1,I1,G1,r1,v1⟩:=ih e x _ z s ψ hg hz (hm.part _ _) I;have⟨s2,lr,d2,I2,G2,r2,v2⟩:=Zuq ih hm hg hs m (k+1) s1 ji Fd I1;refine⟨s2,lr,d1++d2,I2,G1.trans G2,⟨d1,d2,rfl,r1.mono G2.st,r2⟩,?_⟩;rw[show(rK x (m+1)).size=x.size+(rK x m).size from rfl,uH,kd];rw[fE,<-hs]at v1;rw[FJ]at v2;exact(v1.mono λ_ _ e=>G2.ps _ _ e).append v2
theorem Nz: ∀(fuel f0:Nat) (t:TypeId) (ty:Ty) (cs:List Value) (x:DataW H×List MemPlace) (s:St) (ψ:Ps),pj C.P f0 t=some ty->DataW.trod enc C.P w 0 (λ_=>true) true fuel t cs=some x->Mem w cs->OI C w s ψ->
  ∃(s':St) (ψ':Ps) (ds:ah),OI C w s' ψ'/\OG s s' ψ ψ'/\Rd s' ty ds/\bJ C ψ' ds cs
 |0,_,t,_,cs,x,_,_,_,h,_,_=>by simp[DataW.trod]at h
 |fuel+1,0,t,ty,cs,x,s,ψ,ht,_,_,_=>by cases ht
 |fuel+1,f0+1,t,ty,cs,x,s,ψ,ht,h,hm,I=>by
  have one: ∀ {d:DV} {v:Value} {ty:Ty},cs=[v]->VR C ψ d v->Rd s ty [d]->∃(s':St) (ψ':Ps) (ds:ah),OI C w s' ψ'/\OG s s' ψ ψ'/\Rd s' ty ds/\bJ C ψ' ds cs:=by
   intro d v ty e hv hr;subst e;exact⟨s,ψ,_,I,.refl s ψ,hr,.cons _ _ _ _ hv .nil⟩
  simp only[pj]at ht;cases hu:C.P.underlying t
  .rw[hu]at ht;cases ht
  .rename_i td;rw[hu]at ht;cases td with
   |bool=>
    cases ht;have⟨b,e,_⟩:=DataW.trod_bool hu h;exact one e (.bool b) ⟨b,rfl⟩
   |int k=>
    cases ht;have⟨n,e,_,hw⟩:=DataW.trod_int hu h;simp only[Lit.wf,aS,yi]at hw;exact one e (.int k n) ⟨n,rfl,hw⟩
   |string=>
    cases ht;have⟨l,e,_,hl⟩:=DataW.trod_string hu h;exact one e (.str l) ⟨_,rfl,by rw[qb];exact hl⟩
   |slice e=>
    simp only at ht;cases uh:pj C.P f0 e
    .rw[uh]at ht;cases ht
    .rename_i te;rw[uh]at ht;simp only at ht;cases cJ:Nat.beq te.size (C.P.cellsOf e)&&Nat.blt 0 te.size
     .rw[cJ]at ht;cases ht
     .rw[cJ]at ht;cases ht;simp only[aS,rR]at cJ;have cJ:=dQ cJ.1;rcases DataW.trod_slice hu h with⟨mR,_⟩|⟨a,len,cap,elems,rest,n,hn,mR,_,_,Hr,hcm,hel,da,sJ,_⟩
      .exact one mR (.uw te.size) (.inl rfl)
      .cases hn
       have⟨C5,ajU⟩:=sJ rfl;have elem: ∀j,j<cap->∃vs y,w.cells? 0 (a.add (j*C.P.cellsOf e)) (C.P.cellsOf e)=some vs/\DataW.trod enc C.P w 0 (λ_=>true) true fuel e vs=some y:=by
        intro j hj;have: ∃y,(w.cells? 0 (a.add (j*C.P.cellsOf e)) (C.P.cellsOf e)).bind (DataW.trod enc C.P w 0 (λ_=>true) true fuel e)=some y:=by
         rcases jw j len with h|h
         .grind
         .have:=ajU (j-len) AC
          rw[show len+(j-len)=j by omega]at this;grind
        have⟨y,hy⟩:=this;have⟨vs,h1,h2⟩:=Option.bind_eq_some_iff.1 hy;grind
       have cellAt: ∀j i v,w.cell? ((a.add (j*C.P.cellsOf e)).add i)=some v->w.cell? ⟨a.block,a.off+(j*C.P.cellsOf e+i),none⟩=some v/\a.block<w.heap.size/\(j*C.P.cellsOf e+i=0->a.spot=none):=by
        intro j i v hv;have⟨g1,g2,g3⟩:=ZxH hv;by_cases hz:j*C.P.cellsOf e=0
        .rw[hz]at g1 g2 g3⊢
         have ea:a.add 0=a:=by simp[Addr.add]
         rw[ea]at g1 g2 g3;grind
        .have ea:a.add (j*C.P.cellsOf e)=⟨a.block,a.off+j*C.P.cellsOf e,none⟩:=by simp[Addr.add,hz]
         rw[ea]at g1 g3;grind
       have key: ∀k,k<=len->∃(s':St) (ψ':Ps) (ds:ah),OI C w s' ψ'/\OG s s' ψ ψ'/\ds.length=k*te.size/\ds.all Go.Gv.one=true/\(∀j,j<k->Rd s' te ((ds.drop (j*te.size)).take te.size))/\
         (∀j d,ds[j]? =some d->∃v,w.cell? ⟨a.block,a.off+j,none⟩=some v/\VR C ψ' d v):=by
        intro k;induction k with
        |zero=>intro _;exact⟨s,ψ,[],I,.refl s ψ,Do,rfl,λj hj=>AC,λj d hd=>by simp at hd⟩
        |succ k ih=>
         intro hk;have⟨s1,ji,GV,I1,G1,nz,sF,jG,gV⟩:=ih AC;have⟨vs,y,pV,hy⟩:=elem k AC;have⟨Db,EX⟩:=ZoS pV;have iL:Mem w vs:=by
          intro v hv _ _ _ _;grind
         have⟨s2,lr,ds2,I2,G2,iH,vz⟩:=Nz fuel f0 e te vs y s1 ji uh hy iL I1;have lM:=iH.len;refine⟨s2,lr,GV++ds2,I2,G1.trans G2,by rw[ba,nz,lM,FJ],by rw[uC,sF,iH.one];rfl,λj hj=>?_,λj d hd=>?_⟩
         .rcases jw j k with h|h
          .have hle:j*te.size+te.size<=k*te.size:=by rw[<-FJ];exact FI _ h
           rw[QD AC,QG (by simp;omega)];exact(jG j h).mono G2.st
          grind
         .rcases jw j GV.length with h|h
          .rw[nc h]at hd
           have⟨v,hv,hr⟩:=gV j d hd;exact⟨v,hv,hr.mono λ_ _ e=>G2.ps _ _ e⟩
          .rw[kO h]at hd
           have⟨v,hv,hr⟩:=vz.get hd;have av:j-GV.length<C.P.cellsOf e:=by rw[<-Db];grind
           have:=(cellAt k (j-GV.length) v (by rw[EX _ av];exact hv)).1;rw[<-cJ,<-nz,show GV.length+(j-GV.length)=j by omega]at this;exact⟨v,this,hr⟩
       have⟨s1,ji,ds,I1,G1,hl,ho,hr,hc⟩:=key len (aJ _);have hmz:0<w.heap.size:=hm _ (by rw[mR];grind) a len cap rfl;by_cases hcz:cap*C.P.cellsOf e=0
       ·
        have Pc:ds=[]:=by
         apply BD;rw[hl,cJ];have:len*C.P.cellsOf e<=cap*C.P.cellsOf e:=FI _ Hr;omega
        have J3:cap=0:=by
         rcases H6.1 hcz with h|h
         .exact h
         .omega
        subst J3;have⟨I2,G2⟩:=I1.add ds ⟨0,0,0⟩ hmz (by rw[Pc];exact aJ _) ho Fd;refine⟨_,_,[.slice te.size (some (s1.length,0)) len],I2,G1.trans G2,.inr ⟨_,len,ds,rfl,Do,hl,AC,AC⟩,?_⟩;rw[mR];exact .cons _ _ _ _ (.slice _ _ 0 _ ⟨0,0,0⟩ a 0 (rY _ _ _) Hr AC) .nil
       .have Ew:0<cap:=Fd
        have cU:0<C.P.cellsOf e:=AC
        have⟨vs,y,pV,_⟩:=elem 0 Ew;have⟨Db,EX⟩:=ZoS pV;have⟨_,js,ja⟩:=cellAt 0 0 vs[0] (by rw[EX 0 cU];grind);have ja:=ja Do;have ha:a=⟨a.block,a.off,none⟩:=by rw[<-ja]
        have⟨I2,G2⟩:=I1.add ds ⟨a.block,a.off,cap*C.P.cellsOf e⟩ js (by rw[hl,cJ];grind) ho hc;refine⟨_,_,[.slice te.size (some (s1.length,0)) len],I2,G1.trans G2,.inr ⟨_,len,ds,rfl,Do,hl,AC,λj hj=>(hr j hj).mono G2.st⟩,?_⟩;rw[mR];exact .cons _ _ _ _ (.slice _ _ 0 _ ⟨a.block,a.off,cap*C.P.cellsOf e⟩ a cap (rY _ _ _) Hr Fd) .nil
   |struct fs=>
    simp only at ht;cases qF:yS (pj C.P f0) C.P fs.toList 0
    .rw[qF]at ht;cases ht
    .rename_i y;rw[qF]at ht;simp only at ht;cases cJ:Nat.beq y.size (C.P.cellsOf t)
     .rw[cJ]at ht;cases ht
     .rw[cJ]at ht;cases ht;have cJ:=dQ cJ;have⟨xs,n,hn,_,cU,zF,da⟩:=DataW.trod_struct hu h;cases hn;have⟨s',ψ',ds,I',G',r',v'⟩:=ZnQ (enc:=enc) (fuel:=fuel) (g:=pj C.P f0) (λt ty cs x s ψ h1 h2 h3 h4=>Nz fuel f0 t ty cs x s ψ h1 h2 h3 h4) hm fs.toList 0 ty s ψ qF (λf hf=>by
       have⟨i,hi⟩:=Fv hf;rw[lU]at hi;rw[da i f hi];grind) I
      rw[dF,dG AC]at v';grind
   |array m e=>
    simp only at ht;cases uh:pj C.P f0 e
    .rw[uh]at ht;cases ht
    .rename_i te;rw[uh]at ht;simp only at ht;cases cJ:Nat.beq te.size (C.P.cellsOf e)&&Nat.beq (m*te.size) (C.P.cellsOf t)
     .rw[cJ]at ht;cases ht
     .rw[cJ]at ht;cases ht;rw[aS]at cJ;have h1:=dQ cJ.1;have h2:=dQ cJ.2;have⟨xs,n,hn,_,cU,zF,da⟩:=DataW.trod_array hu h;cases hn;have⟨s',ψ',ds,I',G',r',v'⟩:=Zuq (enc:=enc) (fuel:=fuel) (g:=pj C.P f0) (λt ty cs x s ψ h1 h2 h3 h4=>Nz fuel f0 t ty cs x s ψ h1 h2 h3 h4) hm uh h1 m 0 s ψ (λi hi=>by
       rw[fq,da i hi];grind) I
      rw[rU,dF,dG (by rw[U9];omega)]at v';grind
   |_=>cases ht
end
open Go.RowKit Go.ChangeShapes Go.WideShapes
def Mv (s:St):List (Bool×Ty)->ah->Prop
 |[],args=>args=[]
 |(ag,ty)::r,args=>∃cs d rest,Rd s ty cs/\Mv s r rest/\args=d::rest/\(bif ag then d= .agg cs else cs=[d])
def Mr (s:St):Prop:=∀(i:Nat) (b:Option bQ),s[i]? =some b->∃cs,b=some ⟨true,cs⟩
section
variable {C:bE} {H:Type} {enc:TypeId×Value->H} {W:World}
theorem aee :Cell.okWide P W r base t (.agg cs)->False:=by
 simp[Cell.okWide,Cell.ok]
theorem ZvH :Cell.okWide P W r base t (.tuple cs)->False:=by
 simp[Cell.okWide,Cell.ok]
theorem ZvG {a:Addr} {l:Nat} :Cell.okWide P W r base t (.slice (some a) l c)->0<W.heap.size:=by
 have fin: ∀e,World.has P W r base a e c->0<W.heap.size:=by
  rintro e ⟨_,_,row,cells,hs,_⟩;grind[World.shape?]
 unfold Cell.okWide Cell.ok;grind
theorem Zws (h:Value.okWide C.P W .any base t v):Mem W v.cells.toList:=by
 unfold Value.okWide at h;have row: ∀ {cs:Array Value},Row.okWide C.P W .any base t cs->Mem W cs.toList:=by
  rintro cs ⟨ts,_,_,h⟩ v hv a l c e;have⟨i,hi⟩:=Fv hv;rw[lU]at hi;have⟨u,_,hc⟩:=h i v hi;subst e;exact ZvG hc
 have plain:Cell.okWide C.P W .any base t v->Mem W v.cells.toList:=by
  intro h x hx a l c e;cases v with
  |agg cs=>exact(aee h).elim
  |tuple cs=>exact(ZvH h).elim
  |_=>
   simp only[Value.cells,cH]at hx;subst hx
   first|(cases e;done)|(cases e;exact ZvG h)
 cases hu:C.P.underlying t
 .rw[hu]at h;exact plain h
 .rename_i d;rw[hu]at h;cases d with
  |struct fs=>
   obtain⟨cs,rfl,_,h⟩:=h;exact row h
  |array n e=>
   obtain⟨cs,rfl,_,h⟩:=h;exact row h
  |_=>exact plain h
theorem ZuJ (h:Value.okWide C.P W .any base t v):(jQ C.P t=true/\∃cs,v= .agg cs)\/(jQ C.P t=false/\v.cells= #[v]):=by
 unfold Value.okWide at h;have plain:Cell.okWide C.P W .any base t v->v.cells= #[v]:=by
  intro h;cases v with
  |agg cs=>exact(aee h).elim
  |tuple cs=>exact(ZvH h).elim
  |_=>rfl
 grind[jQ]
theorem Zsu {base:Nat} : ∀(ts:List TypeId) (tys:List (Bool×Ty)) (vs:List Value) (ds:List (DataW H)) (p:List MemPlace) (s:St) (ψ:Ps),ts.map (λt=>(pj C.P 20 t).map λty=>(jQ C.P t,ty))=tys.map some->
  DataW.TrodAll enc C.P W 0 (λ_=>true) true ts vs ds p->(∀(j:Nat) t v,ts[j]? =some t->vs[j]? =some v->Value.okWide C.P W .any base t v)->OI C W s ψ->
  ∃s' ψ' args,OI C W s' ψ'/\OG s s' ψ ψ'/\Mv s' tys args/\bJ C ψ' args vs
 |[],tys,vs,ds,p,s,ψ,sM,h,_,I=>by
  cases tys with
  |cons _ _=>cases sM
  |nil=>
   obtain⟨rfl,_,_⟩:=trodAll_nil h;exact⟨s,ψ,[],I,.refl s ψ,rfl,.nil⟩
 |t::ts,tys,vs,ds,p,s,ψ,sM,h,fG,I=>by
  cases tys with
  |nil=>cases sM
  |cons x tys=>
   simp only[kf,List.cons.injEq]at sM;obtain⟨hx,sM⟩:=sM;obtain⟨v,jI,d,nv,p1,q1,rfl,rfl,rfl,h1,h2⟩:=trodAll_cons h;have hv:=fG 0 t v rfl rfl;have⟨fuel,hf⟩:=h1;cases ht:pj C.P 20 t
   .rw[ht]at hx;cases hx
   .rename_i ty;rw[ht]at hx;cases hx;have⟨s1,ji,cs,I1,G1,r1,v1⟩:=Nz fuel 20 t ty _ _ s ψ ht hf (Zws hv) I;have⟨s2,lr,args,I2,G2,r2,v2⟩:=Zsu ts tys jI nv q1 s1 ji sM h2 (λj t v a b=>fG (j+1) t v (by simpa using a) (by simpa using b)) I1;rcases ZuJ hv with⟨df,c,rfl⟩|⟨df,hc⟩
    .refine⟨s2,lr,.agg cs::args,I2,G1.trans G2,⟨cs,_,args,r1.mono G2.st,r2,rfl,by rw[df];rfl⟩,.cons _ _ _ _ (.agg _ _ ?_ r1.one) v2⟩
     exact v1.mono λ_ _ e=>G2.ps _ _ e
    .rw[hc]at v1
     cases v1 with
     |cons d0 _ _ _ a b=>
      cases b;exact⟨s2,lr,d0::args,I2,G1.trans G2,⟨[d0],d0,args,r1.mono G2.st,r2,rfl,by rw[df];rfl⟩,.cons _ _ _ _ (a.mono λ_ _ e=>G2.ps _ _ e) v2⟩
theorem law_calls {Bd:Zg} (hO: ∀n,ZW C (run Bd n)) {fn:Func} (xG:C.cov f=true) (hfn:C.P.funcs[f]? =some fn) (sE:(fn.name== "runtime.NumGoroutine")=false) (acR:fn.body.isSome=true) (I0:OI C W s0 jh) (hg:Glob C jh)
  {tys:List (Bool×Ty)} (sM:fn.params.toList.map (λt=>(pj C.P 20 t).map λty=>(jQ C.P t,ty))=tys.map some)
  (law: ∀s args,Mr s->(∀(i:Nat) (b:Option bQ),s0[i]? =some b->s[i]? =some b)->Mv s tys args->∃n s',run Bd n (C.fn f) args s=some (.val [.bool true],s')) {ds:List (DataW H)} {p:List MemPlace} (hval: ∀(j:Nat) t v,fn.params[j]? =some t->args[j]? =some v->Value.okWide C.P W .any base t v)
  (hA:DataW.TrodAll enc C.P W 0 (λ_=>true) true fn.params.toList args ds p):
  Calls C.P f args.toArray W λe W'=>e= .returned (.bool true)/\Below W.heap.size W W':=by
 have⟨s,ψ,dv,I,G,hr,hv⟩:=Zsu (enc:=enc) fn.params.toList tys args ds p s0 jh sM hA (λj t v a b=>hval j t v (by rw[<-lU];exact a) b) I0;have⟨n,s',ee⟩:=law s dv I.gk G.st hr;have akJ: ∀ {h:dN} {ab:AB},CS s h ab->ab.iC=false:=by
  rintro h ab ⟨i,rfl,e⟩;unfold dA at e;cases hi:s[i]?
  .rw[hi]at e;cases e
  .rename_i b;obtain⟨cs,rfl⟩:=I.gk i b hi;rw[hi]at e;simp only[gf]at e;subst e;rfl
 have fp:fI C ψ (CS s) W:=by
  constructor
  .rintro h cb ab e ⟨i,rfl,q⟩
   exact I.hold i cb ab e q
  grind
 have gU:tq ψ W:=by
  intro h cb e;cases h with
  |inl i=>exact I.gU i cb e
  |inr v=>rw[I.noV v]at e;cases e
 have:=(hO n (C.fn f) dv s _ ee).2 f xG rfl ψ W args fp gU (λg e=>let ⟨cb,h1,h2⟩:=hg g e;⟨cb,G.ps _ _ h1,h2⟩) hv I.noV (λi h1 _=>I.fresh i h1);unfold Au at this;have xM: ¬fn.name= "runtime.NumGoroutine" :=by simpa using sE
 have vm:(callFunc f args.toArray).run C.P W= .ok (.enter f args.toArray) W:=by
  cases hb:fn.body
  .rw[hb]at acR;cases acR
  .rename_i c;simp[callFunc,hfn,xM,hb]
 rw[vm]at this;refine Calls.mono this λe W' he=>?_
 cases e with
 |returned v=>
  have⟨nv,e1,ψ',hp,adM⟩:=he;cases e1;refine⟨?_,hp.ext.os,hp.ext.tape,hp.ext.output.1,hp.ext.size,λk hk=>hp.ext.kE k hk ?_⟩
  .rcases adM with⟨d,e,r⟩|⟨hl,_⟩
   .cases e
    cases r;rfl
   .exact absurd rfl hl
  .rintro⟨h,cb,ab,_,q,hs,_⟩
   rw[akJ q]at hs;cases hs
 |panicked ch=>grind
 |outgrown=>exact he.elim
theorem Zly (hl:laidOutB C.P=true) {W':World} (hb:Below W.heap.size W W'): ∀(ts:List TypeId) (vs:List Value) (ds:List (DataW H)) (p:List MemPlace),(∀t∈ts,C.P.readableRec t=true/\t<C.P.types.size)->
  DataW.TrodAll enc C.P W 0 (λ_=>true) true ts vs ds p->DataW.TrodAll enc C.P W' 0 (λb=>decide (b<W.heap.size)) true ts vs ds p
 |[],vs,ds,p,_,h=>by
  obtain⟨rfl,rfl,rfl⟩:=trodAll_nil h;exact trodAll_mk0
 |t::ts,vs,ds,p,hr,h=>by
  obtain⟨v,jI,d,nv,p1,q1,rfl,rfl,rfl,h1,h2⟩:=trodAll_cons h;have lt: ∀x∈p1,x.block<W.heap.size:=by have⟨m,hm⟩:=h1;exact DataW.trod_lt m _ _ _ hm
  exact trodAll_cons_mk (Below.trod hl (hr t Do).1 (hr t Do).2 h1 hb lt) (Zly hl hb ts jI nv q1 Fd h2)
theorem Znt: ∀(ts:List TypeId) (vs:List Value) (ds:List (DataW H)) (p:List MemPlace) {P:Program} {spare:Nat->Bool},DataW.TrodAll enc P W 0 spare true ts vs ds p->ds.length=ts.length
 |[],vs,ds,p,_,_,h=>by obtain⟨rfl,rfl,rfl⟩:=trodAll_nil h;rfl
 |t::ts,vs,ds,p,_,_,h=>by
  obtain⟨v,jI,d,nv,p1,q1,rfl,rfl,rfl,_,h2⟩:=trodAll_cons h;simp[Znt ts jI nv q1 h2]
end
mutual
def lits {H:Type} :DataW H->List Lit
 | .lit l=>[l]
 | .agg ps=>Bl ps
 |_=>[]
def Bl {H:Type} :List (DataW H)->List Lit
 |[]=>[]
 |d::r=>lits d++Bl r
end
def JL:Lit->DV
 | .bool b=> .bool b
 | .int k n=> .int k n
 | .string s=> .str s
 |_=> .nilIface
def Ty.flat:Ty->Bool
 | .sl _=>false
 | .pr x y=>x.flat&&y.flat
 |_=>true
def GS (d:DataW H):ah:=(lits d).map JL
section
variable {C:bE} {w:World} {H:Type} {enc:TypeId×Value->H} {base:Nat} {sp:Nat->Bool} {held:Bool}
theorem Znu {fuel:Nat} {g:TypeId->Option Ty} {cs:List Value}
  (ih: ∀(t:TypeId) (ty:Ty) (cs:List Value) (x:DataW H×List MemPlace),g t=some ty->ty.flat=true->DataW.trod enc C.P w base sp held fuel t cs=some x->∀ψ,bJ C ψ (GS x.1) cs):
  ∀(fs:List Field) (ys:List (DataW H×List MemPlace)) (o:Nat) (ty:Ty),yS g C.P fs o=some ty->ty.flat=true->ys.length=fs.length->
  (∀(i:Nat) (f:Field),fs[i]? =some f->DataW.trod enc C.P w base sp held fuel f.type ((cs.drop f.offset).take (C.P.cellsOf f.type))=ys[i]?)->∀ψ,bJ C ψ ((Bl (ys.map (·.1))).map JL) ((cs.drop o).take ty.size)
 |[],ys,o,ty,h,_,hl,_,ψ=>by
  cases h;cases BD hl;simp[Ty.size,Bl];exact .nil
 |f::fs,[],o,ty,_,_,hl,_,_=>by cases hl
 |f::fs,z::ys,o,ty,h,dZ,hl,hf,ψ=>by
  simp only[yS]at h;cases ho:Nat.beq f.offset o
  .rw[ho]at h;cases h
  .rw[ho]at h;simp only[ae]at h;cases hg:g f.type
   .rw[hg]at h;cases h
   .rename_i x;rw[hg]at h;simp only at h;cases hs:Nat.beq x.size (C.P.cellsOf f.type)
    .rw[hs]at h;cases h
    .rw[hs]at h;simp only[ae]at h;cases hr:yS g C.P fs (o+x.size)
     .rw[hr]at h;cases h
     .rename_i y;rw[hr]at h;cases h;simp only[Ty.flat,aS]at dZ;have ho:=dQ ho;have hs:=dQ hs;have v1:=ih f.type x _ z hg dZ.1 (hf 0 f rfl) ψ;have v2:=Znu ih fs ys (o+x.size) y hr dZ.2 (by simpa using hl) (λi f' h'=>hf (i+1) f' h') ψ;rw[show Ty.size (.pr x y)=x.size+y.size from rfl,uH,kd];rw[ho,<-hs]at v1;rw[kf,Bl,eV];exact v1.append v2
theorem Zt3 {fuel:Nat} {g:TypeId->Option Ty} {cs:List Value}
  (ih: ∀(t:TypeId) (ty:Ty) (cs:List Value) (x:DataW H×List MemPlace),g t=some ty->ty.flat=true->DataW.trod enc C.P w base sp held fuel t cs=some x->∀ψ,bJ C ψ (GS x.1) cs)
  {e:TypeId} {x:Ty} (hg:g e=some x) (dZ:x.flat=true) (hs:x.size=C.P.cellsOf e): ∀(m k:Nat) (ys:List (DataW H×List MemPlace)),ys.length=m->
  (∀i,i<m->DataW.trod enc C.P w base sp held fuel e ((cs.drop ((k+i)*C.P.cellsOf e)).take (C.P.cellsOf e))=ys[i]?)->∀ψ,bJ C ψ ((Bl (ys.map (·.1))).map JL) ((cs.drop (k*x.size)).take (rK x m).size)
 |0,k,ys,hl,_,ψ=>by
  cases BD hl;simp[Ty.size,Bl,rK];exact .nil
 |m+1,k,[],hl,_,_=>by cases hl
 |m+1,k,z::ys,hl,hf,ψ=>by
  have v1:=ih e x _ z hg dZ (hf 0 AC) ψ;have v2:=Zt3 ih hg dZ hs m (k+1) ys (by simpa using hl) (λi hi=>by have:=hf (i+1) AC;rwa [show k+(i+1)=k+1+i by omega]at this) ψ;rw[show(rK x (m+1)).size=x.size+(rK x m).size from rfl,uH,kd];rw[fE,<-hs]at v1;rw[FJ]at v2;rw[kf,Bl,eV];exact v1.append v2
theorem Zu5 {x:Ty} : ∀ {m:Nat},(rK x m).flat=true->0<m->x.flat=true
 |0,_,h=>absurd h (Nat.lt_irrefl _)
 |m+1,h,_=>by simp only[rK,Ty.flat,aS]at h;exact h.1
theorem Vp: ∀(fuel f0:Nat) (t:TypeId) (ty:Ty) (cs:List Value) (x:DataW H×List MemPlace),pj C.P f0 t=some ty->ty.flat=true->DataW.trod enc C.P w base sp held fuel t cs=some x->∀ψ,bJ C ψ (GS x.1) cs
 |0,_,t,_,cs,x,_,_,h=>by simp[DataW.trod]at h
 |fuel+1,0,t,ty,cs,x,ht,_,_=>by cases ht
 |fuel+1,f0+1,t,ty,cs,x,ht,dZ,h=>by
  intro ψ;simp only[pj]at ht;cases hu:C.P.underlying t
  .rw[hu]at ht;cases ht
  .rename_i td;rw[hu]at ht;cases td with
   |bool=>obtain⟨b,rfl,rfl⟩:=DataW.trod_bool hu h;exact .cons _ _ _ _ (.bool b) .nil
   |int k=>obtain⟨n,rfl,rfl,_⟩:=DataW.trod_int hu h;exact .cons _ _ _ _ (.int k n) .nil
   |string=>obtain⟨l,rfl,rfl,_⟩:=DataW.trod_string hu h;exact .cons _ _ _ _ (.str l) .nil
   |slice e=>
    simp only at ht;cases uh:pj C.P f0 e
    .rw[uh]at ht;cases ht
    .rename_i te;rw[uh]at ht;simp only at ht;cases cJ:Nat.beq te.size (C.P.cellsOf e)&&Nat.blt 0 te.size
     .rw[cJ]at ht;cases ht
     .rw[cJ]at ht;cases ht;cases dZ
   |struct fs=>
    simp only at ht;cases qF:yS (pj C.P f0) C.P fs.toList 0
    .rw[qF]at ht;cases ht
    .rename_i y;rw[qF]at ht;simp only at ht;cases cJ:Nat.beq y.size (C.P.cellsOf t)
     .rw[cJ]at ht;cases ht
     .rw[cJ]at ht;cases ht;have cJ:=dQ cJ;obtain⟨xs,n,hn,rfl,cU,zF,da⟩:=DataW.trod_struct hu h;cases hn;have v':=Znu (C:=C) (w:=w) (enc:=enc) (cs:=cs) (λt ty cs x h1 h2 h3=>Vp fuel f0 t ty cs x h1 h2 h3) fs.toList xs 0 ty qF dZ (by rw[zF,qb]) Fd ψ;rw[dF,dG AC]at v';simpa [GS,lits]using v'
   |array m e=>
    simp only at ht;cases uh:pj C.P f0 e
    .rw[uh]at ht;cases ht
    .rename_i te;rw[uh]at ht;simp only at ht;cases cJ:Nat.beq te.size (C.P.cellsOf e)&&Nat.beq (m*te.size) (C.P.cellsOf t)
     .rw[cJ]at ht;cases ht
     .rw[cJ]at ht;cases ht;rw[aS]at cJ;have h1:=dQ cJ.1;have h2:=dQ cJ.2;obtain⟨xs,n,hn,rfl,cU,zF,da⟩:=DataW.trod_array hu h;cases hn;have v':bJ C ψ ((Bl (xs.map (·.1))).map JL) cs:=by
       rcases BF m with h0|h0
       .subst h0
        cases BD zF;rw[rU]at h2;cases BD (cU.trans h2.symm);exact .nil
       .have v':=Zt3 (C:=C) (w:=w) (enc:=enc) (cs:=cs) (λt ty cs x h1 h2 h3=>Vp fuel f0 t ty cs x h1 h2 h3) uh (Zu5 dZ h0) h1 m 0 xs zF Fd ψ
        rw[rU,dF,dG (by rw[U9];omega)]at v';exact v'
      simpa [GS,lits]using v'
   |_=>cases ht
theorem ZsJ {P:Program} {n:String} {d:DataW Unit} : ∀ {laid:List (String×DataW Unit)} {ps:List MemPlace},DataW.LaidVars P w laid ps->(n,d)∈laid->
  ∃g t cs fuel p,P.globalNamed n=some g/\(P.globals[g]?).map (·.type)=some t/\w.var? P n=some cs/\DataW.trod (λ_=>()) P w 0 (λ_=>true) false fuel t cs.toList=some (d,p)
 |[],_,_,h=>by cases h
 |(n',d')::r,ps,⟨g,t,cs,fuel,p,q,h1,h2,h3,h4,h5,_⟩,h=>by
  rcases ep.1 h with h|h
  .grind
  .exact ZsJ h5 h
def ae0 (C:bE) (laid:List (String×DataW Unit)) (tb:St) (g:Nat):Prop:=
 ∃n d t ty,(n,d)∈laid/\C.P.globalNamed n=some g/\(C.P.globals[g]?).map (·.type)=some t/\pj C.P 20 t=some ty/\ty.flat=true/\tb[C.gl g]? =some (some ⟨true,GS d⟩)
def Fl (gs:List (Nat×Nat)) (m:Nat->Nat):Ps
 | .inl i=>(gs.find? λx=>Nat.beq x.2 i).map λx=>⟨x.1,0,m x.1⟩
 | .inr _=>none
theorem Zxk: ∀(l:List Lit),(l.map JL).all one=true
 |[]=>rfl
 |l::r=>by rw[kf,wY,Zxk r];cases l<;>rfl
theorem tabs_OI (hm:laidMetH C.P laid w) (hp:(laid.all λx=>x.2.handleName?.isNone)=true) (hf: ∀(i:Nat) (b:Option bQ),tb[i]? =some b->∃cs,b=some ⟨true,cs⟩)
  (gs:List (Nat×Nat)) (zi: ∀x∈gs,C.gl x.1=x.2/\ae0 C laid tb x.1) (alU: ∀g,C.CA g=true->gs.find? (λx=>Nat.beq x.2 (C.gl g))=some (g,C.gl g)):
  ∃ψ,OI C w tb ψ/\Glob C ψ:=by
 rw[MakeChecks.laidMetH_plain _ _ _ hp]at hm;have⟨ps,hv,_,_⟩:=hm;have cell: ∀x∈gs,∃(cs:Array Value) (ds:ah) (ty:TypeId) (fr:Nat×Nat),w.heap[x.1]? =some (.cells cs ty fr)/\tb[x.2]? =some (some ⟨true,ds⟩)/\(∀ψ,bJ C ψ ds cs.toList)/\ds.all one=true:=by
  intro x hx;have⟨e,n,d,t,ty,h1,h2,h3,h4,h5,h6⟩:=zi x hx;have⟨g,t',cs,fuel,p,k1,k2,k3,k4⟩:=ZsJ hv h1;cases h2.symm.trans k1;cases h3.symm.trans k2;have hc: ∃ty fr,w.heap[x.1]? =some (.cells cs ty fr):=by
   simp only[World.var?,k1,Option.bind_some]at k3;grind
  have⟨ty',fr,hc⟩:=hc;exact⟨cs,_,ty',fr,hc,by rw[<-e];exact h6,λψ=>Vp fuel 20 t ty _ _ h4 h5 k4 ψ,Zxk _⟩
 let m:Nat->Nat:=λg=>match w.heap[g]? with
  |some (.cells cs _ _)=>cs.size
  |_=>0
 have YB: ∀i cb,Fl gs m (.inl i)=some cb->∃x∈gs,x.2=i/\cb=⟨x.1,0,m x.1⟩:=by
  intro i cb h;simp only[Fl,Option.map_eq_some_iff]at h;have⟨x,h1,h2⟩:=h;exact⟨x,List.mem_of_find?_eq_some h1,dQ Fd,h2.symm⟩
 refine⟨Fl gs m,⟨λi cb ab e q=>?_,λi cb e=>?_,hf,λi hi=>?_,λv=>rfl⟩,λg hg=>⟨⟨g,0,m g⟩,?_,rfl,rfl⟩⟩
 .obtain⟨x,hx,rfl,rfl⟩:=YB i cb e
  have⟨cs,ds,ty,fr,c1,c2,c3,c4⟩:=cell x hx;unfold dA at q;rw[c2]at q;cases q;have hl:=(c3 (Fl gs m)).len;refine⟨?_,c4,λj d hd=>?_,λh=>by cases h⟩
  .grind
  .have⟨v,hv,hr⟩:=(c3 (Fl gs m)).get hd
   refine⟨v,?_,hr⟩;simp only[World.cell?,c1,fq];rw[<-lU];exact hv
 .grind
 .cases h:Fl gs m (.inl i)
  .rfl
  .rename_i cb;grind
 grind[Fl]
end
open Go.RowKit Go.ChangeShapes Go.WideShapes
theorem law_lifted_laid {C:bE} {Ck:Checked} (kU:C.P=Ck.prog) {os:Os} (started:os.Started) {fn:Func} {s:ChangeSpec} {enc:TypeId×Value->H}
  (own:ownKnob Ck.prog.godebug=none) (akI:Ck.prog.inits.idxOf? f=none) (hfn:Ck.prog.funcs[f]? =some fn) (laidOut:laidOutB Ck.prog=true)
  (adX:s.vars=[]) (KT:fn.resultTypes= #[rt]) (ET:Ck.prog.underlying rt=some .bool) (al9:fn.params.toList.all (λt=>Ck.prog.readableRec t&&decide (t<Ck.prog.types.size))=true)
  (aaC: ∀ds:List (DataW H),ds.length=fn.params.size->(s.fn H ds).results=[.lit (.bool true)]/\(s.fn H ds).args=ds/\(s.fn H ds).vars=[])
  (witness: ∃(w:World) (tape:Tape) (i:Input),w.os=os/\(w.forCall tape i).Shaped Ck.prog/\i.vars=[]/\Input.okWide Ck.prog (w.forCall tape i) .any w.heap.size f i/\
   ((s.pre enc Ck.prog fn [] false (w.forCall tape i).memory i.args/\laidMetH Ck.prog laid (w.forCall tape i).memory)/\sizedMet enc Ck.prog fn (OpenSpec.ofChange s) false (w.forCall tape i).memory i.args)/\
   ({} :Assume).holds Ck.prog (lone (Frame.enter Ck.prog f i.args .normal) [] (w.forCall tape i)))
  (calls: ∀(W:World) (args:List Value) (ds:List (DataW H)) (p:List MemPlace) (base:Nat),laidMetH C.P laid W->(∀(j:Nat) t v,fn.params[j]? =some t->args[j]? =some v->Value.okWide C.P W .any base t v)->
   DataW.TrodAll enc C.P W 0 (λ_=>true) true fn.params.toList args ds p->Calls C.P f args.toArray W λe W'=>e= .returned (.bool true)/\Below W.heap.size W W'):
  ReturnsInHanded {} Ck os f .any (λw args=>(s.pre enc Ck.prog fn [] false w args/\laidMetH Ck.prog laid w)/\sizedMet enc Ck.prog fn (OpenSpec.ofChange s) false w args) (s.post enc Ck.prog fn false true false false):=by
 refine returnsInHanded_of_change_and (C:=Ck) (X:=λw _=>laidMetH Ck.prog laid w) (λ_ _ _ hh h=>h.of_heap hh) own started akI hfn witness ?_;intro W base args ds gs before hval hW _ _ hL _;have hW':=hW;obtain⟨p,q,hA,hV,rfl,ua,eJ⟩:=hW;rw[adX]at hV;obtain⟨rfl,rfl⟩:=trodVars_none hV;have hlen:=Znt _ _ _ _ hA;rw[qb]at hlen;have⟨h1,h2,h3⟩:=aaC ds hlen;have hc:=calls W args.toList ds p base (by rw[kU];exact hL) (λj t v a b=>by rw[kU];grind) (by rw[kU];exact hA);rw[kU]at hc;refine Calls.mono hc λe W' ⟨he,bel⟩=>?_
 subst he;refine⟨_,rfl,ds,[],_,[],p,[],hW',?_,?_,?_,bel.frame _,λh=>by cases h⟩
 .rw[fP,h1,KT]
  exact trodAll_mk1 (shut_bool ET _)
 .rw[fP,h2]
  have hr: ∀t∈fn.params.toList,C.P.readableRec t=true/\t<C.P.types.size:=by
   rw[kU];grind
  have:=Zly (C:=C) (enc:=enc) (by rw[kU];exact laidOut) bel fn.params.toList args.toList ds p hr (by rw[kU];exact hA);rw[kU]at this;exact this
 .rw[fP,h3,adX];rfl
theorem has_all {P:Nat->Bool} : ∀ {l:al},l.all P=true->∀g,has l g=true->P g=true
 |[],_,g,h=>by cases h
 |a::l,hl,g,h=>by
  rw[wY,aS]at hl;simp only[has,mB]at h;rcases h with h|h
  .rw[<-dQ h];exact hl.1
  .exact has_all hl.2 g h
theorem noStandIn {fn:Func} {l:List TypeId} (hp:fn.params.toList=l) (h:l.all (λu=> !P.wantsStandIn u)=true): ∀(j:Nat) t,fn.params[j]? =some t->P.wantsStandIn t=false:=by
 grind
set_option maxRecDepth 20000
def ak6:ah:=[.str [98,101,103,105,110],.str [],.int .i64 1,.str [99,111,109,109,105,116],.str [],.int .i64 2,.str [97,98,111,114,116],.str [],.int .i64 3,.str [110,101,119],.str [110],.int .i64 4,.str [100,114,111,112],.str [110],.int .i64 5,.str [112,117,116],.str [110,107,118],.int .i64 6,.str [109,105,110],.str [110],.int .i64 7,.str [112,111,112],.str [110],.int .i64 8,.str [108,111,119,101,114],.str [110,104,107],.int .i64 9,.str [99,117,116],.str [110,104],.int .i64 10,.str [109,101,108,100],.str [110,111],.int .i64 11,.str [103,101,116],.str [104],.int .i64 12,.str [108,101,110],.str [110],.int .i64 13,.str [108,105,115,116],.str [110],.int .i64 14,.str [110,97,109,101,115],.str [],.int .i64 15,.str [97,114,109],.str [118],.int .i64 16,.str [112,108,97,110],.str [42],.int .i64 17,.str [99,114,97,115,104],.str [42],.int .i64 18,.str [99,104,101,99,107],.str [],.int .i64 19,.str [101,112,111,99,104],.str [],.int .i64 20]
def ak7:ah:=[.int .u64 1,.int .u64 10,.int .u64 100,.int .u64 1000,.int .u64 10000,.int .u64 100000,.int .u64 1000000,.int .u64 10000000,.int .u64 100000000,.int .u64 1000000000,.int .u64 10000000000,.int .u64 100000000000,.int .u64 1000000000000,.int .u64 10000000000000,.int .u64 100000000000000,.int .u64 1000000000000000,.int .u64 10000000000000000,.int .u64 100000000000000000,.int .u64 1000000000000000000,.int .u64 10000000000000000000]
def Qs:ah:=[.int .u8 0,.int .u8 1,.int .u8 56,.int .u8 2,.int .u8 57,.int .u8 49,.int .u8 28,.int .u8 3,.int .u8 61,.int .u8 58,.int .u8 42,.int .u8 50,.int .u8 38,.int .u8 29,.int .u8 17,.int .u8 4,.int .u8 62,.int .u8 47,.int .u8 59,.int .u8 36,.int .u8 45,.int .u8 43,.int .u8 51,.int .u8 22,.int .u8 53,.int .u8 39,.int .u8 33,.int .u8 30,.int .u8 24,.int .u8 18,.int .u8 12,.int .u8 5,.int .u8 63,.int .u8 55,.int .u8 48,.int .u8 27,.int .u8 60,.int .u8 41,.int .u8 37,.int .u8 16,.int .u8 46,.int .u8 35,.int .u8 44,.int .u8 21,.int .u8 52,.int .u8 32,.int .u8 23,.int .u8 11,.int .u8 54,.int .u8 26,.int .u8 40,.int .u8 15,.int .u8 34,.int .u8 20,.int .u8 31,.int .u8 10,.int .u8 25,.int .u8 14,.int .u8 19,.int .u8 9,.int .u8 13,.int .u8 8,.int .u8 7,.int .u8 6]
def ak8:ah:=[.int .u8 0,.int .u8 1,.int .u8 28,.int .u8 2,.int .u8 29,.int .u8 14,.int .u8 24,.int .u8 3,.int .u8 30,.int .u8 22,.int .u8 20,.int .u8 15,.int .u8 25,.int .u8 17,.int .u8 4,.int .u8 8,.int .u8 31,.int .u8 27,.int .u8 13,.int .u8 23,.int .u8 21,.int .u8 19,.int .u8 16,.int .u8 7,.int .u8 26,.int .u8 12,.int .u8 18,.int .u8 6,.int .u8 11,.int .u8 5,.int .u8 10,.int .u8 9]
def ak9:ah:=Go.Pinned.utf8FirstZ.map λn:Nat=>DV.int .u8 (Int.ofNat n)
def ala:ah:=[.int .u8 128,.int .u8 191,.int .u8 160,.int .u8 191,.int .u8 128,.int .u8 159,.int .u8 144,.int .u8 191,.int .u8 128,.int .u8 143,.int .u8 0,.int .u8 0,.int .u8 0,.int .u8 0,.int .u8 0,.int .u8 0,.int .u8 0,.int .u8 0,.int .u8 0,.int .u8 0,.int .u8 0,.int .u8 0,.int .u8 0,.int .u8 0,.int .u8 0,.int .u8 0,.int .u8 0,.int .u8 0,.int .u8 0,.int .u8 0,.int .u8 0,.int .u8 0]
def tabs:St:=[some ⟨true,ak6⟩,some ⟨true,ak7⟩,some ⟨true,Qs⟩,some ⟨true,ak8⟩,some ⟨true,ak9⟩,some ⟨true,ala⟩]
theorem tabs_frz: ∀(i:Nat) (b:Option bQ),tabs[i]? =some b->∃cs,b=some ⟨true,cs⟩:=by
 grind[tabs]
