/- Arguments that can be read as data: what the machine makes of them. -/
import Derived.Test.YtegglibipjjblaaGreatDoorGvZRun
import Derived.ChangeArms
import Derived.OpenShut
import Derived.ProofKit
import Derived.ShutString
import Derived.ChangeOld
import Derived.Below
import Derived.SizedLaws
import Derived.MakeChecks
import GoSem.ClaimJoined
import Derived.LaidMore
import Derived.Lay
import Derived.SevenTiedAt
import Derived.Stop.Joined
import GoSem.PinnedTables
namespace Go.Gv
inductive Ty where
 |b
 |i (k:IntKind)
 |s
 |sl (e:Ty)
 |un
 |pr (x y:Ty)
def Ty.size:Ty->Nat
 | .un=>0
 | .pr x y=>x.size+y.size
 |_=>1
def Rd (s:St):Ty->List DV->Prop
 | .b,ds=>∃b,ds=[.bool b]
 | .i k,ds=>∃n:Int,ds=[.int k n]/\k.min<=n/\n<=k.max
 | .s,ds=>∃l:List UInt8,ds=[.str l]/\l.length<=maxLen
 | .sl e,ds=>ds=[.slice e.size none 0]\/∃(i n:Nat) (cs:List DV),ds=[.slice e.size (some (i,0)) n]/\s[i]? =some (some ⟨true,cs⟩)/\cs.length=n*e.size/\n<=maxLen/\∀j,j<n->Rd s e ((cs.drop (j*e.size)).take e.size)
 | .un,ds=>ds=[]
 | .pr x y,ds=>∃a b,ds=a++b/\Rd s x a/\Rd s y b
theorem Rd.len {s:St} : ∀ {t:Ty} {ds:List DV},Rd s t ds->ds.length=t.size
 | .b,_,⟨_,h⟩=>by rw[h];rfl
 | .i _,_,⟨_,h,_⟩=>by rw[h];rfl
 | .s,_,⟨_,h,_⟩=>by rw[h];rfl
 | .sl _,_,h=>by rcases h with h|⟨_,_,_,h,_⟩<;>(rw[h];rfl)
 | .un,_,h=>by rw[show _=[]from h];rfl
 | .pr x y,_,⟨a,b,h,h1,h2⟩=>by rw[h,bg,Rd.len h1,Rd.len h2];rfl
theorem Rd.one {s:St} : ∀ {t:Ty} {ds:List DV},Rd s t ds->ds.all one=true
 | .b,_,⟨_,h⟩=>by rw[h];rfl
 | .i _,_,⟨_,h,_⟩=>by rw[h];rfl
 | .s,_,⟨_,h,_⟩=>by rw[h];rfl
 | .sl _,_,h=>by rcases h with h|⟨_,_,_,h,_⟩<;>(rw[h];rfl)
 | .un,_,h=>by rw[show _=[]from h];rfl
 | .pr x y,_,⟨a,b,h,h1,h2⟩=>by rw[h,rF,Rd.one h1,Rd.one h2];rfl
theorem Rd.mono {s s':St} (hs: ∀(i:Nat) (b:Option bq),s[i]? =some b->s'[i]? =some b): ∀ {t:Ty} {ds:List DV},Rd s t ds->Rd s' t ds
 | .b,_,h=>h
 | .i _,_,h=>h
 | .s,_,h=>h
 | .sl e,_,h=>by
  rcases h with h|⟨i,n,cs,h1,h2,h3,h4,h5⟩
  ·exact .inl h
  ·exact .inr ⟨i,n,cs,h1,hs _ _ h2,h3,h4,fun j hj=>Rd.mono hs (h5 j hj)⟩
 | .un,_,h=>h
 | .pr x y,_,⟨a,b,h,h1,h2⟩=>⟨a,b,h,Rd.mono hs h1,Rd.mono hs h2⟩
def tr (g:TypeId->Option Ty) (P:Program):List Field->Nat->Option Ty
 |[],_=>some .un
 |f::r,o=>bif Nat.beq f.offset o then(match g f.type with
  |some x=>bif Nat.beq x.size (P.cellsOf f.type)then(match tr g P r (o+x.size)with
   |some y=>some (.pr x y)
   |none=>none)else none
  |none=>none)else none
def mV (x:Ty):Nat->Ty
 |0=> .un
 |n+1=> .pr x (mV x n)
def kW (P:Program):Nat->TypeId->Option Ty
 |0,_=>none
 |n+1,t=>match P.underlying t with
  |some .bool=>some .b
  |some (.int k)=>some (.i k)
  |some .string=>some .s
  |some (.slice e)=>(match kW P n e with
   |some x=>bif Nat.beq x.size (P.cellsOf e)&&Nat.blt 0 x.size then some (.sl x)else none
   |none=>none)
  |some (.struct fs)=>(match tr (kW P n) P fs.toList 0 with
   |some x=>bif Nat.beq x.size (P.cellsOf t)then some x else none
   |none=>none)
  |some (.array m e)=>(match kW P n e with
   |some x=>bif Nat.beq x.size (P.cellsOf e)&&Nat.beq (m*x.size) (P.cellsOf t)then some (mV x m)else none
   |none=>none)
  |_=>none
theorem Oz (x:Ty): ∀n,(mV x n).size=n*x.size
 |0=>by simp[mV,Ty.size]
 |n+1=>by simp[mV,Ty.size,Oz x n,z6,rH]
structure OI (C:aP) (w:World) (s:St) (ψ:Ps):Prop where
 hold: ∀i cb ab,ψ (.inl i)=some cb->cq s i=some ab->Holds C ψ w cb ab
 fh: ∀i cb,ψ (.inl i)=some cb->cb.b<w.heap.size
 jc: ∀(i:Nat) (b:Option bq),s[i]? =some b->∃cs,b=some ⟨true,cs⟩
 fresh: ∀i,s.length<=i->ψ (.inl i)=none
 Tf: ∀v,ψ (.inr v)=none
structure OG (s s':St) (ψ ψ':Ps):Prop where
 st: ∀(i:Nat) (b:Option bq),s[i]? =some b->s'[i]? =some b
 len:s.length<=s'.length
 ps: ∀h cb,ψ h=some cb->ψ' h=some cb
theorem OG.refl (s:St) (ψ:Ps):OG s s ψ ψ:=⟨fun _ _ h=>h,ay _,fun _ _ h=>h⟩
theorem OG.trans {s s' oT:St} {ψ ψ' BW:Ps} (h:OG s s' ψ ψ') (k:OG s' oT ψ' BW):OG s oT ψ BW:=
 ⟨fun i b e=>k.st i b (h.st i b e),fw h.len k.len,fun x cb e=>k.ps x cb (h.ps x cb e)⟩
section
variable {C:aP} {w:World} {s:St} {ψ:Ps}
theorem OI.add (I:OI C w s ψ) (cs:List DV) (cb:CB) (hb:cb.b<w.heap.size) (hl:cs.length<=cb.m) (h1:cs.all one=true)
  (hc: ∀j d,cs[j]? =some d->∃v,w.cell? ⟨cb.b,cb.o+j,none⟩=some v/\VR C ψ d v):
  OI C w (s++[some ⟨true,cs⟩]) (lO ψ (.inl s.length) cb)/\OG s (s++[some ⟨true,cs⟩]) ψ (lO ψ (.inl s.length) cb):=by
 have hf:ψ (.inl s.length)=none:=I.fresh _ (ay _);have mono:=rQ (cb:=cb) hf;refine⟨⟨fun i c ab e q=>?_,fun i c e=>?_,fun i b e=>?_,fun i hi=>?_,fun v=>?_⟩,⟨fun i b e=>?_,by simp,mono⟩⟩
 ·by_cases hi:i=s.length
  ·subst hi
   rw[nk]at e;cases e;rw[MA]at q;cases q;exact⟨hl,h1,fun j d hd=>let ⟨v,a,b⟩:=hc j d hd;⟨v,a,b.mono fun _ _ e=>mono _ _ e⟩,(fun h=>by cases h)⟩
  ·rw[mc _ _ (fun e=>hi (Sum.inl.inj e))]at e
   have:=yp q;simp only[bg,rG]at this;rw[He (by omega)]at q;exact(I.hold i c ab e q).same (fun _ _ e=>mono _ _ e) rfl
 ·by_cases hi:i=s.length
  ·subst hi;rw[nk]at e;cases e;exact hb
  ·rw[mc _ _ (fun e=>hi (Sum.inl.inj e))]at e;exact I.fh i c e
 ·rcases eM i s.length with h|h
  ·rw[iL h]at e;exact I.jc i b e
  ·rw[gU h]at e
   cases hx:i-s.length with
   |zero=>rw[hx]at e;simp only[gV,cX]at e;exact⟨cs,e.symm⟩
   |succ n=>rw[hx]at e;simp at e
 ·simp only[bg,rG]at hi
  rw[mc _ _ (fun e=>by have:=Sum.inl.inj e;omega)];exact I.fresh i (by omega)
 ·rw[mc _ _ (fun e=>by cases e)];exact I.Tf v
 ·have:i<s.length:=by
   rcases eM i s.length with h|h
   ·exact h
   ·rw[dT h]at e;cases e
  rw[iL this];exact e
def Mem (w:World) (cs:List Value):Prop:=∀v∈cs,∀a l c,v= .slice (some a) l c->0<w.heap.size
variable {H:Type} {enc:TypeId×Value->H}
theorem Zqp {base:Nat} {a:Addr} {n:Nat} {vs:List Value} (h:w.cells? base a n=some vs):vs.length=n/\∀j,j<n->w.cell? (a.add j)=vs[j]? :=by
 unfold World.cells? at h;split at h
 ·have h1:=mapM_some_length h
  rw[Fv]at h1;exact⟨h1,fun j hj=>mapM_some_get h j j (by simp[hj])⟩
 ·cases h
theorem Zza {a:Addr} {j:Nat} {v:Value} (h:w.cell? (a.add j)=some v):w.cell? ⟨a.block,a.off+j,none⟩=some v/\(j=0->a.spot=none)/\a.block<w.heap.size:=by
 have hb: ∀x:Addr,w.cell? x=some v->x.block<w.heap.size/\x.spot=none:=by
  intro x hx;unfold World.cell? at hx;cases hb:w.heap[x.block]? with
  |none=>rw[hb]at hx;cases hx
  |some o=>
   rw[hb]at hx;refine⟨rL hb,?_⟩;cases o<;>simp only at hx<;>first|(cases hx;done)|skip
   cases hs:x.spot with
   |none=>rfl
   |some y=>rw[hs]at hx;simp at hx
 unfold Addr.add at h;split at h
 ·rename_i hj
  obtain⟨h1,h2⟩:=hb a h;subst hj;refine⟨?_,fun _=>h2,h1⟩;rw[dG,<-h2];exact h
 ·rename_i hj
  obtain⟨h1,h2⟩:=hb _ h;exact⟨h,fun e=>absurd e hj,h1⟩
theorem Mem.part {cs:List Value} (h:Mem w cs) (o n:Nat):Mem w ((cs.drop o).take n):=fun v hv=>h v (sK (sL hv))
def Uf (C:aP) (w:World) (enc:TypeId×Value->H) (fuel:Nat) (g:TypeId->Option Ty):Prop:=
 ∀(t:TypeId) (ty:Ty) (cs:List Value) (x:DataW H×List MemPlace) (s:St) (ψ:Ps),g t=some ty->DataW.trod enc C.P w 0 (fun _=>true) true fuel t cs=some x->Mem w cs->OI C w s ψ->
  ∃(s':St) (ψ':Ps) (ds:List DV),OI C w s' ψ'/\OG s s' ψ ψ'/\Rd s' ty ds/\aS C ψ' ds cs
theorem Zn8 {fuel:Nat} {g:TypeId->Option Ty} (ih:Uf C w enc fuel g) {cs:List Value} (hm:Mem w cs): ∀(fs:List Field) (o:Nat) (ty:Ty) (s:St) (ψ:Ps),tr g C.P fs o=some ty->
  (∀f∈fs,∃y,DataW.trod enc C.P w 0 (fun _=>true) true fuel f.type ((cs.drop f.offset).take (C.P.cellsOf f.type))=some y)->OI C w s ψ->
  ∃(s':St) (ψ':Ps) (ds:List DV),OI C w s' ψ'/\OG s s' ψ ψ'/\Rd s' ty ds/\aS C ψ' ds ((cs.drop o).take ty.size)
 |[],o,ty,s,ψ,h,_,I=>by
  cases h;exact⟨s,ψ,[],I,.refl s ψ,rfl,by simp[Ty.size];exact .nil⟩
 |f::fs,o,ty,s,ψ,h,hf,I=>by
  simp only[tr]at h;cases ho:Nat.beq f.offset o with
  |false=>rw[ho]at h;cases h
  |true=>
   rw[ho]at h;simp only[cond_true]at h;cases hg:g f.type with
   |none=>rw[hg]at h;cases h
   |some x=>
    rw[hg]at h;simp only at h;cases hs:Nat.beq x.size (C.P.cellsOf f.type)with
    |false=>rw[hs]at h;cases h
    |true=>
     rw[hs]at h;simp only[cond_true]at h;cases hr:tr g C.P fs (o+x.size)with
     |none=>rw[hr]at h;cases h
     |some y=>
      rw[hr]at h;cases h;have ho:=cc ho;have hs:=cc hs;obtain⟨z,hz⟩:=hf f (by simp);obtain⟨s1,gr,d1,I1,G1,r1,v1⟩:=ih f.type x _ z s ψ hg hz (hm.part _ _) I;obtain⟨s2,iJ,d2,I2,G2,r2,v2⟩:=Zn8 ih hm fs (o+x.size) y s1 gr hr (fun f' h'=>hf f' (by simp[h'])) I1;refine⟨s2,iJ,d1++d2,I2,G1.trans G2,⟨d1,d2,rfl,r1.mono G2.st,r2⟩,?_⟩;rw[show Ty.size (.pr x y)=x.size+y.size from rfl,B3,iK];rw[ho,<-hs]at v1;exact(v1.mono fun _ _ e=>G2.ps _ _ e).append v2
theorem Zvn {fuel:Nat} {g:TypeId->Option Ty} (ih:Uf C w enc fuel g) {cs:List Value} (hm:Mem w cs) {e:TypeId} {x:Ty} (hg:g e=some x) (hs:x.size=C.P.cellsOf e): ∀(m k:Nat) (s:St) (ψ:Ps),
  (∀i,i<m->∃y,DataW.trod enc C.P w 0 (fun _=>true) true fuel e ((cs.drop ((k+i)*C.P.cellsOf e)).take (C.P.cellsOf e))=some y)->OI C w s ψ->
  ∃(s':St) (ψ':Ps) (ds:List DV),OI C w s' ψ'/\OG s s' ψ ψ'/\Rd s' (mV x m) ds/\aS C ψ' ds ((cs.drop (k*x.size)).take (mV x m).size)
 |0,k,s,ψ,_,I=>⟨s,ψ,[],I,.refl s ψ,rfl,by simp[Ty.size,mV];exact .nil⟩
 |m+1,k,s,ψ,hf,I=>by
  obtain⟨z,hz⟩:=hf 0 (by omega);obtain⟨s1,gr,d1,I1,G1,r1,v1⟩:=ih e x _ z s ψ hg hz (hm.part _ _) I;obtain⟨s2,iJ,d2,I2,G2,r2,v2⟩:=Zvn ih hm hg hs m (k+1) s1 gr (fun i hi=>by have:=hf (i+1) (by omega);rwa [show k+(i+1)=k+1+i by omega]at this) I1;refine⟨s2,iJ,d1++d2,I2,G1.trans G2,⟨d1,d2,rfl,r1.mono G2.st,r2⟩,?_⟩;rw[show(mV x (m+1)).size=x.size+(mV x m).size from rfl,B3,iK];rw[dG,<-hs]at v1;rw[z6]at v2;exact(v1.mono fun _ _ e=>G2.ps _ _ e).append v2
theorem Jc: ∀(fuel f0:Nat) (t:TypeId) (ty:Ty) (cs:List Value) (x:DataW H×List MemPlace) (s:St) (ψ:Ps),kW C.P f0 t=some ty->DataW.trod enc C.P w 0 (fun _=>true) true fuel t cs=some x->Mem w cs->OI C w s ψ->
  ∃(s':St) (ψ':Ps) (ds:List DV),OI C w s' ψ'/\OG s s' ψ ψ'/\Rd s' ty ds/\aS C ψ' ds cs
 |0,_,t,_,cs,x,_,_,_,h,_,_=>by simp[DataW.trod]at h
 |fuel+1,0,t,ty,cs,x,s,ψ,ht,_,_,_=>by cases ht
 |fuel+1,f0+1,t,ty,cs,x,s,ψ,ht,h,hm,I=>by
  have one: ∀ {d:DV} {v:Value} {ty:Ty},cs=[v]->VR C ψ d v->Rd s ty [d]->∃(s':St) (ψ':Ps) (ds:List DV),OI C w s' ψ'/\OG s s' ψ ψ'/\Rd s' ty ds/\aS C ψ' ds cs:=by
   intro d v ty e hv hr;subst e;exact⟨s,ψ,_,I,.refl s ψ,hr,.cons _ _ _ _ hv .nil⟩
  simp only[kW]at ht;cases hu:C.P.underlying t with
  |none=>rw[hu]at ht;cases ht
  |some td=>
   rw[hu]at ht;cases td with
   |bool=>
    cases ht;obtain⟨b,e,_⟩:=DataW.trod_bool hu h;exact one e (.bool b) ⟨b,rfl⟩
   |int k=>
    cases ht;obtain⟨n,e,_,hw⟩:=DataW.trod_int hu h;simp only[Lit.wf,aH,j4]at hw;exact one e (.int k n) ⟨n,rfl,hw⟩
   |string=>
    cases ht;obtain⟨l,e,_,hl⟩:=DataW.trod_string hu h;exact one e (.str l) ⟨_,rfl,by rw[jC];exact hl⟩
   |slice e=>
    simp only at ht;cases oL:kW C.P f0 e with
    |none=>rw[oL]at ht;cases ht
    |some te=>
     rw[oL]at ht;simp only at ht;cases bG:Nat.beq te.size (C.P.cellsOf e)&&Nat.blt 0 te.size with
     |false=>rw[bG]at ht;cases ht
     |true=>
      rw[bG]at ht;cases ht;simp only[aH,lV]at bG;have tN:=bG.2;have bG:=cc bG.1;rcases DataW.trod_slice hu h with⟨lE,_⟩|⟨a,len,cap,elems,rest,n,hn,lE,_,_,KV,hcm,KI,cJ,Ej,_⟩
      ·exact one lE (.oU te.size) (.inl rfl)
      ·cases hn
       obtain⟨xl,Yc⟩:=Ej rfl;have elem: ∀j,j<cap->∃vs y,w.cells? 0 (a.add (j*C.P.cellsOf e)) (C.P.cellsOf e)=some vs/\DataW.trod enc C.P w 0 (fun _=>true) true fuel e vs=some y:=by
        intro j hj;have: ∃y,(w.cells? 0 (a.add (j*C.P.cellsOf e)) (C.P.cellsOf e)).bind (DataW.trod enc C.P w 0 (fun _=>true) true fuel e)=some y:=by
         rcases eM j len with h|h
         ·exact⟨_,by rw[cJ j h];exact ba (by omega)⟩
         ·have:=Yc (j-len) (by omega)
          rw[show len+(j-len)=j by omega]at this;exact⟨_,by rw[this];exact ba (by omega)⟩
        obtain⟨y,hy⟩:=this;obtain⟨vs,h1,h2⟩:=Option.bind_eq_some_iff.1 hy;exact⟨vs,y,h1,h2⟩
       have cellAt: ∀j i v,w.cell? ((a.add (j*C.P.cellsOf e)).add i)=some v->w.cell? ⟨a.block,a.off+(j*C.P.cellsOf e+i),none⟩=some v/\a.block<w.heap.size/\(j*C.P.cellsOf e+i=0->a.spot=none):=by
        intro j i v hv;obtain⟨g1,g2,g3⟩:=Zza hv;by_cases hz:j*C.P.cellsOf e=0
        ·rw[hz]at g1 g2 g3⊢
         have ea:a.add 0=a:=by simp[Addr.add]
         rw[ea]at g1 g2 g3;exact⟨by rw[dj];exact g1,g3,fun h=>g2 (by omega)⟩
        ·have ea:a.add (j*C.P.cellsOf e)=⟨a.block,a.off+j*C.P.cellsOf e,none⟩:=by simp[Addr.add,hz]
         rw[ea]at g1 g3;exact⟨by rw[<-lU];exact g1,g3,fun h=>by omega⟩
       have key: ∀k,k<=len->∃(s':St) (ψ':Ps) (ds:List DV),OI C w s' ψ'/\OG s s' ψ ψ'/\ds.length=k*te.size/\ds.all Go.Gv.one=true/\(∀j,j<k->Rd s' te ((ds.drop (j*te.size)).take te.size))/\
         (∀j d,ds[j]? =some d->∃v,w.cell? ⟨a.block,a.off+j,none⟩=some v/\VR C ψ' d v):=by
        intro k;induction k with
        |zero=>intro _;exact⟨s,ψ,[],I,.refl s ψ,by simp,rfl,fun j hj=>by omega,fun j d hd=>by simp at hd⟩
        |succ k ih=>
         intro hk;obtain⟨s1,gr,Bh,I1,G1,oI,vr,iS,fQ⟩:=ih (by omega);obtain⟨vs,y,kM,hy⟩:=elem k (by omega);obtain⟨vy,Lj⟩:=Zqp kM;have dy:Mem w vs:=by
          intro v hv _ _ _ _;obtain⟨i,hi⟩:=xR hv;have aj:i<C.P.cellsOf e:=by rw[<-vy];exact(cd.1 hi).1
          have:=(cellAt k i v (by rw[Lj i aj];exact hi)).2.1;omega
         obtain⟨s2,iJ,ds2,I2,G2,jz,sr⟩:=Jc fuel f0 e te vs y s1 gr oL hy dy I1;have kh:=jz.len;refine⟨s2,iJ,Bh++ds2,I2,G1.trans G2,by rw[bg,oI,kh,z6],by rw[rF,vr,jz.one];rfl,fun j hj=>?_,fun j d hd=>?_⟩
         ·rcases eM j k with h|h
          ·have hle:j*te.size+te.size<=k*te.size:=by rw[<-z6];exact uq _ h
           rw[Fu (by omega),zW (by simp;omega)];exact(iS j h).mono G2.st
          ·have:j=k:=by omega
           subst this;rw[List.drop_append,uj (by omega),fe,oI,qw,dE,cA (by omega)];exact jz
         ·rcases eM j Bh.length with h|h
          ·rw[iL h]at hd
           obtain⟨v,hv,hr⟩:=fQ j d hd;exact⟨v,hv,hr.mono fun _ _ e=>G2.ps _ _ e⟩
          ·rw[gU h]at hd
           obtain⟨v,hv,hr⟩:=sr.get hd;have aj:j-Bh.length<C.P.cellsOf e:=by rw[<-vy];exact(cd.1 hv).1
           have:=(cellAt k (j-Bh.length) v (by rw[Lj _ aj];exact hv)).1;rw[<-bG,<-oI,show Bh.length+(j-Bh.length)=j by omega]at this;exact⟨v,this,hr⟩
       obtain⟨s1,gr,ds,I1,G1,hl,ho,hr,hc⟩:=key len (ay _);have hmz:0<w.heap.size:=hm _ (by rw[lE];exact bK.2 rfl) a len cap rfl;by_cases Rv:cap*C.P.cellsOf e=0
       ·
        have DN:ds=[]:=by
         apply xQ;rw[hl,bG];have:len*C.P.cellsOf e<=cap*C.P.cellsOf e:=uq _ KV;omega
        have hc0:cap=0:=by
         rcases Nat.mul_eq_zero.1 Rv with h|h
         ·exact h
         ·omega
        subst hc0;obtain⟨I2,G2⟩:=I1.add ds ⟨0,0,0⟩ hmz (by rw[DN];exact ay _) ho (fun j d hd=>by rw[DN]at hd;simp at hd);refine⟨_,_,[.slice te.size (some (s1.length,0)) len],I2,G1.trans G2,.inr ⟨_,len,ds,rfl,by simp,hl,by omega,fun j hj=>(hr j hj).mono G2.st⟩,?_⟩;rw[lE];exact .cons _ _ _ _ (.slice _ _ 0 _ ⟨0,0,0⟩ a 0 (nk _ _ _) KV (fun h=>absurd h (Nat.lt_irrefl _))) .nil
       ·have DL:0<cap:=Nat.pos_of_ne_zero fun h=>Rv (by rw[h,nf])
        have dq:0<C.P.cellsOf e:=Nat.pos_of_ne_zero fun h=>Rv (by rw[h,Nat.mul_zero])
        obtain⟨vs,y,kM,_⟩:=elem 0 DL;obtain⟨vy,Lj⟩:=Zqp kM;obtain⟨_,iC,eR⟩:=cellAt 0 0 vs[0] (by rw[Lj 0 dq];exact ba (by omega));have eR:=eR (by simp);have ha:a=⟨a.block,a.off,none⟩:=by rw[<-eR]
        obtain⟨I2,G2⟩:=I1.add ds ⟨a.block,a.off,cap*C.P.cellsOf e⟩ iC (by rw[hl,bG];exact uq _ KV) ho hc;refine⟨_,_,[.slice te.size (some (s1.length,0)) len],I2,G1.trans G2,.inr ⟨_,len,ds,rfl,by simp,hl,by omega,fun j hj=>(hr j hj).mono G2.st⟩,?_⟩;rw[lE];exact .cons _ _ _ _ (.slice _ _ 0 _ ⟨a.block,a.off,cap*C.P.cellsOf e⟩ a cap (nk _ _ _) KV (fun _=>⟨ha,by rw[bG];simp⟩)) .nil
   |struct fs=>
    simp only at ht;cases nJ:tr (kW C.P f0) C.P fs.toList 0 with
    |none=>rw[nJ]at ht;cases ht
    |some y=>
     rw[nJ]at ht;simp only at ht;cases bG:Nat.beq y.size (C.P.cellsOf t)with
     |false=>rw[bG]at ht;cases ht
     |true=>
      rw[bG]at ht;cases ht;have bG:=cc bG;obtain⟨xs,n,hn,_,dq,xw,cJ⟩:=DataW.trod_struct hu h;cases hn;obtain⟨s',ψ',ds,I',G',r',v'⟩:=Zn8 (enc:=enc) (fuel:=fuel) (g:=kW C.P f0) (fun t ty cs x s ψ h1 h2 h3 h4=>Jc fuel f0 t ty cs x s ψ h1 h2 h3 h4) hm fs.toList 0 ty s ψ nJ (fun f hf=>by
       obtain⟨i,hi⟩:=xR hf;rw[gK]at hi;rw[cJ i f hi];exact⟨_,ba (by rw[xw];exact rL hi)⟩) I
      rw[dE,cA (by omega)]at v';exact⟨s',ψ',ds,I',G',r',v'⟩
   |array m e=>
    simp only at ht;cases oL:kW C.P f0 e with
    |none=>rw[oL]at ht;cases ht
    |some te=>
     rw[oL]at ht;simp only at ht;cases bG:Nat.beq te.size (C.P.cellsOf e)&&Nat.beq (m*te.size) (C.P.cellsOf t)with
     |false=>rw[bG]at ht;cases ht
     |true=>
      rw[bG]at ht;cases ht;rw[aH]at bG;have h1:=cc bG.1;have h2:=cc bG.2;obtain⟨xs,n,hn,_,dq,xw,cJ⟩:=DataW.trod_array hu h;cases hn;obtain⟨s',ψ',ds,I',G',r',v'⟩:=Zvn (enc:=enc) (fuel:=fuel) (g:=kW C.P f0) (fun t ty cs x s ψ h1 h2 h3 h4=>Jc fuel f0 t ty cs x s ψ h1 h2 h3 h4) hm oL h1 m 0 s ψ (fun i hi=>by
       rw[dj,cJ i hi];exact⟨_,ba (by omega)⟩) I
      rw[nf,dE,cA (by rw[Oz];omega)]at v';exact⟨s',ψ',ds,I',G',r',v'⟩
   |_=>cases ht
end
end Go.Gv
namespace Go.Gv
open Go.RowKit Go.ChangeShapes Go.WideShapes
def FJ (s:St):List (Bool×Ty)->List DV->Prop
 |[],args=>args=[]
 |(ag,ty)::r,args=>∃cs d rest,Rd s ty cs/\FJ s r rest/\args=d::rest/\(bif ag then d= .agg cs else cs=[d])
def FH (s:St):Prop:=∀(i:Nat) (b:Option bq),s[i]? =some b->∃cs,b=some ⟨true,cs⟩
section
variable {C:aP} {H:Type} {enc:TypeId×Value->H} {W:World}
theorem VW {P:Program} {r:Reach} {base:Nat} {t:TypeId} {cs:Array Value} :Cell.okWide P W r base t (.agg cs)->False:=by
 unfold Cell.okWide Cell.ok;cases P.underlying t with
 |none=>exact id
 |some d=>cases d<;>exact id
theorem ZwW {P:Program} {r:Reach} {base:Nat} {t:TypeId} {cs:Array Value} :Cell.okWide P W r base t (.tuple cs)->False:=by
 unfold Cell.okWide Cell.ok;cases P.underlying t with
 |none=>exact id
 |some d=>cases d<;>exact id
theorem ZwH {P:Program} {r:Reach} {base:Nat} {t:TypeId} {a:Addr} {l c:Nat} :Cell.okWide P W r base t (.slice (some a) l c)->0<W.heap.size:=by
 have fin: ∀e,World.has P W r base a e c->0<W.heap.size:=by
  rintro e ⟨_,_,row,cells,hs,_⟩;unfold World.shape? at hs;cases hb:W.heap[a.block]? with
  |none=>rw[hb]at hs;cases hs
  |some o=>exact xW (bH _) (rL hb)
 unfold Cell.okWide Cell.ok;cases P.underlying t with
 |none=>exact False.elim
 |some d=>
  cases d with
  |slice e=>exact fun h=>fin e h.2.2
  |_=>exact False.elim
theorem Zxh {t:TypeId} {v:Value} {base:Nat} (h:Value.okWide C.P W .any base t v):Mem W v.cells.toList:=by
 unfold Value.okWide at h;have row: ∀ {cs:Array Value},Row.okWide C.P W .any base t cs->Mem W cs.toList:=by
  rintro cs ⟨ts,_,_,h⟩ v hv a l c e;obtain⟨i,hi⟩:=xR hv;rw[gK]at hi;obtain⟨u,_,hc⟩:=h i v hi;subst e;exact ZwH hc
 have plain:Cell.okWide C.P W .any base t v->Mem W v.cells.toList:=by
  intro h x hx a l c e;cases v with
  |agg cs=>exact(VW h).elim
  |tuple cs=>exact(ZwW h).elim
  |_=>
   simp only[Value.cells,bK]at hx;subst hx
   first|(cases e;done)|(cases e;exact ZwH h)
 cases hu:C.P.underlying t with
 |none=>rw[hu]at h;exact plain h
 |some d=>
  rw[hu]at h;cases d with
  |struct fs=>
   obtain⟨cs,rfl,_,h⟩:=h;exact row h
  |array n e=>
   obtain⟨cs,rfl,_,h⟩:=h;exact row h
  |_=>exact plain h
theorem ZvZ {t:TypeId} {v:Value} {base:Nat} (h:Value.okWide C.P W .any base t v):(ZL C.P t=true/\∃cs,v= .agg cs)\/(ZL C.P t=false/\v.cells= #[v]):=by
 unfold Value.okWide at h;have plain:Cell.okWide C.P W .any base t v->v.cells= #[v]:=by
  intro h;cases v with
  |agg cs=>exact(VW h).elim
  |tuple cs=>exact(ZwW h).elim
  |_=>rfl
 unfold ZL;cases hu:C.P.underlying t with
 |none=>rw[hu]at h;exact .inr ⟨rfl,plain h⟩
 |some d=>
  rw[hu]at h;cases d with
  |struct fs=>obtain⟨cs,rfl,_,_⟩:=h;exact .inl ⟨rfl,cs,rfl⟩
  |array n e=>obtain⟨cs,rfl,_,_⟩:=h;exact .inl ⟨rfl,cs,rfl⟩
  |_=>exact .inr ⟨rfl,plain h⟩
theorem Zuy {base:Nat} : ∀(ts:List TypeId) (tys:List (Bool×Ty)) (vs:List Value) (ds:List (DataW H)) (p:List MemPlace) (s:St) (ψ:Ps),ts.map (fun t=>(kW C.P 20 t).map fun ty=>(ZL C.P t,ty))=tys.map some->
  DataW.TrodAll enc C.P W 0 (fun _=>true) true ts vs ds p->(∀(j:Nat) t v,ts[j]? =some t->vs[j]? =some v->Value.okWide C.P W .any base t v)->OI C W s ψ->
  ∃s' ψ' args,OI C W s' ψ'/\OG s s' ψ ψ'/\FJ s' tys args/\aS C ψ' args vs
 |[],tys,vs,ds,p,s,ψ,nP,h,_,I=>by
  cases tys with
  |cons _ _=>cases nP
  |nil=>
   obtain⟨rfl,_,_⟩:=trodAll_nil h;exact⟨s,ψ,[],I,.refl s ψ,rfl,.nil⟩
 |t::ts,tys,vs,ds,p,s,ψ,nP,h,dQ,I=>by
  cases tys with
  |nil=>cases nP
  |cons x tys=>
   simp only[gM,List.cons.injEq]at nP;obtain⟨hx,nP⟩:=nP;obtain⟨v,gI,d,ja,p1,q1,rfl,rfl,rfl,h1,h2⟩:=trodAll_cons h;have hv:=dQ 0 t v rfl rfl;obtain⟨fuel,hf⟩:=h1;cases ht:kW C.P 20 t with
   |none=>rw[ht]at hx;cases hx
   |some ty=>
    rw[ht]at hx;cases hx;obtain⟨s1,gr,cs,I1,G1,r1,v1⟩:=Jc fuel 20 t ty _ _ s ψ ht hf (Zxh hv) I;obtain⟨s2,iJ,args,I2,G2,r2,v2⟩:=Zuy ts tys gI ja q1 s1 gr nP h2 (fun j t v a b=>dQ (j+1) t v (by simpa using a) (by simpa using b)) I1;rcases ZvZ hv with⟨fP,c,rfl⟩|⟨fP,hc⟩
    ·refine⟨s2,iJ,.agg cs::args,I2,G1.trans G2,⟨cs,_,args,r1.mono G2.st,r2,rfl,by rw[fP];rfl⟩,.cons _ _ _ _ (.agg _ _ ?_ r1.one) v2⟩
     exact v1.mono fun _ _ e=>G2.ps _ _ e
    ·rw[hc]at v1
     cases v1 with
     |cons d0 _ _ _ a b=>
      cases b;exact⟨s2,iJ,d0::args,I2,G1.trans G2,⟨[d0],d0,args,r1.mono G2.st,r2,rfl,by rw[fP];rfl⟩,.cons _ _ _ _ (a.mono fun _ _ e=>G2.ps _ _ e) v2⟩
theorem law_calls {Bd:Za} (hO: ∀n,ZC C (run Bd n)) {f:FuncId} {fn:Func} (qW:C.cov f=true) (hfn:C.P.funcs[f]? =some fn) (nM:(fn.name== "runtime.NumGoroutine")=false) (UC:fn.body.isSome=true)
  {s0:St} {gq:Ps} (I0:OI C W s0 gq) (hg:Glob C gq)
  {tys:List (Bool×Ty)} (nP:fn.params.toList.map (fun t=>(kW C.P 20 t).map fun ty=>(ZL C.P t,ty))=tys.map some)
  (law: ∀s args,FH s->(∀(i:Nat) (b:Option bq),s0[i]? =some b->s[i]? =some b)->FJ s tys args->∃n s',run Bd n (C.fn f) args s=some (.val [.bool true],s'))
  {args:List Value} {ds:List (DataW H)} {p:List MemPlace} {base:Nat} (hval: ∀(j:Nat) t v,fn.params[j]? =some t->args[j]? =some v->Value.okWide C.P W .any base t v)
  (hA:DataW.TrodAll enc C.P W 0 (fun _=>true) true fn.params.toList args ds p):
  Calls C.P f args.toArray W fun e W'=>e= .returned (.bool true)/\Below W.heap.size W W':=by
 obtain⟨s,ψ,dv,I,G,hr,hv⟩:=Zuy (enc:=enc) fn.params.toList tys args ds p s0 gq nP hA (fun j t v a b=>hval j t v (by rw[<-gK];exact a) b) I0;obtain⟨n,s',cH⟩:=law s dv I.jc G.st hr;have VX: ∀ {h:cB} {ab:AB},CS s h ab->ab.fE=false:=by
  rintro h ab ⟨i,rfl,e⟩;unfold cq at e;cases hi:s[i]? with
  |none=>rw[hi]at e;cases e
  |some b=>
   obtain⟨cs,rfl⟩:=I.jc i b hi;rw[hi]at e;simp only[cX]at e;subst e;rfl
 have dH:dU C ψ (CS s) W:=by
  constructor
  ·rintro h cb ab e ⟨i,rfl,q⟩
   exact I.hold i cb ab e q
  ·intro h cb ab h' eN bO _ q hs
   rw[VX q]at hs;cases hs
 have fh:oi ψ W:=by
  intro h cb e;cases h with
  |inl i=>exact I.fh i cb e
  |inr v=>rw[I.Tf v]at e;cases e
 have:=(hO n (C.fn f) dv s _ cH).2 f qW rfl ψ W args dH fh (fun g e=>let ⟨cb,h1,h2⟩:=hg g e;⟨cb,G.ps _ _ h1,h2⟩) hv I.Tf (fun i h1 _=>I.fresh i h1);unfold uK at this;have sj: ¬fn.name= "runtime.NumGoroutine" :=by simpa using nM
 have pO:(callFunc f args.toArray).run C.P W= .ok (.enter f args.toArray) W:=by
  cases hb:fn.body with
  |none=>rw[hb]at UC;cases UC
  |some c=>simp[callFunc,hfn,sj,hb]
 rw[pO]at this;refine Calls.mono this fun e W' he=>?_
 cases e with
 |returned v=>
  obtain⟨ja,e1,ψ',hp,Sy⟩:=he;cases e1;refine⟨?_,hp.ext.os,hp.ext.tape,hp.ext.output.1,hp.ext.size,fun k hk=>hp.ext.gF k hk ?_⟩
  ·rcases Sy with⟨d,e,r⟩|⟨hl,_⟩
   ·cases e
    cases r;rfl
   ·exact absurd rfl hl
  ·rintro⟨h,cb,ab,_,q,hs,_⟩
   rw[VX q]at hs;cases hs
 |panicked ch=>obtain⟨_,e1,_⟩:=he;cases e1
 |outgrown=>exact he.elim
theorem ZlR (hl:laidOutB C.P=true) {W':World} (hb:Below W.heap.size W W'): ∀(ts:List TypeId) (vs:List Value) (ds:List (DataW H)) (p:List MemPlace),(∀t∈ts,C.P.readableRec t=true/\t<C.P.types.size)->
  DataW.TrodAll enc C.P W 0 (fun _=>true) true ts vs ds p->DataW.TrodAll enc C.P W' 0 (fun b=>decide (b<W.heap.size)) true ts vs ds p
 |[],vs,ds,p,_,h=>by
  obtain⟨rfl,rfl,rfl⟩:=trodAll_nil h;exact trodAll_mk0
 |t::ts,vs,ds,p,hr,h=>by
  obtain⟨v,gI,d,ja,p1,q1,rfl,rfl,rfl,h1,h2⟩:=trodAll_cons h;have lt: ∀x∈p1,x.block<W.heap.size:=by obtain⟨m,hm⟩:=h1;exact DataW.trod_lt m _ _ _ hm
  exact trodAll_cons_mk (Below.trod hl (hr t (by simp)).1 (hr t (by simp)).2 h1 hb lt) (ZlR hl hb ts gI ja q1 (fun t h=>hr t (by simp[h])) h2)
theorem ZnN: ∀(ts:List TypeId) (vs:List Value) (ds:List (DataW H)) (p:List MemPlace) {P:Program} {spare:Nat->Bool},DataW.TrodAll enc P W 0 spare true ts vs ds p->ds.length=ts.length
 |[],vs,ds,p,_,_,h=>by obtain⟨rfl,rfl,rfl⟩:=trodAll_nil h;rfl
 |t::ts,vs,ds,p,_,_,h=>by
  obtain⟨v,gI,d,ja,p1,q1,rfl,rfl,rfl,_,h2⟩:=trodAll_cons h;simp[ZnN ts gI ja q1 h2]
end
end Go.Gv
namespace Go.Gv
mutual
def lits {H:Type} :DataW H->List Lit
 | .lit l=>[l]
 | .agg ps=>vG ps
 |_=>[]
def vG {H:Type} :List (DataW H)->List Lit
 |[]=>[]
 |d::r=>lits d++vG r
end
def Dq:Lit->DV
 | .bool b=> .bool b
 | .int k n=> .int k n
 | .string s=> .str s
 |_=> .nilIface
def Ty.flat:Ty->Bool
 | .sl _=>false
 | .pr x y=>x.flat&&y.flat
 |_=>true
def Bg {H:Type} (d:DataW H):List DV:=(lits d).map Dq
section
variable {C:aP} {w:World} {H:Type} {enc:TypeId×Value->H} {base:Nat} {sp:Nat->Bool} {held:Bool}
theorem Zn1 {fuel:Nat} {g:TypeId->Option Ty} {cs:List Value}
  (ih: ∀(t:TypeId) (ty:Ty) (cs:List Value) (x:DataW H×List MemPlace),g t=some ty->ty.flat=true->DataW.trod enc C.P w base sp held fuel t cs=some x->∀ψ,aS C ψ (Bg x.1) cs):
  ∀(fs:List Field) (ys:List (DataW H×List MemPlace)) (o:Nat) (ty:Ty),tr g C.P fs o=some ty->ty.flat=true->ys.length=fs.length->
  (∀(i:Nat) (f:Field),fs[i]? =some f->DataW.trod enc C.P w base sp held fuel f.type ((cs.drop f.offset).take (C.P.cellsOf f.type))=ys[i]?)->∀ψ,aS C ψ ((vG (ys.map (·.1))).map Dq) ((cs.drop o).take ty.size)
 |[],ys,o,ty,h,_,hl,_,ψ=>by
  cases h;cases xQ hl;simp[Ty.size,vG];exact .nil
 |f::fs,[],o,ty,_,_,hl,_,_=>by cases hl
 |f::fs,z::ys,o,ty,h,eC,hl,hf,ψ=>by
  simp only[tr]at h;cases ho:Nat.beq f.offset o with
  |false=>rw[ho]at h;cases h
  |true=>
   rw[ho]at h;simp only[cond_true]at h;cases hg:g f.type with
   |none=>rw[hg]at h;cases h
   |some x=>
    rw[hg]at h;simp only at h;cases hs:Nat.beq x.size (C.P.cellsOf f.type)with
    |false=>rw[hs]at h;cases h
    |true=>
     rw[hs]at h;simp only[cond_true]at h;cases hr:tr g C.P fs (o+x.size)with
     |none=>rw[hr]at h;cases h
     |some y=>
      rw[hr]at h;cases h;simp only[Ty.flat,aH]at eC;have ho:=cc ho;have hs:=cc hs;have v1:=ih f.type x _ z hg eC.1 (hf 0 f rfl) ψ;have v2:=Zn1 ih fs ys (o+x.size) y hr eC.2 (by simpa using hl) (fun i f' h'=>hf (i+1) f' h') ψ;rw[show Ty.size (.pr x y)=x.size+y.size from rfl,B3,iK];rw[ho,<-hs]at v1;simp only[gM,vG,dL];exact v1.append v2
theorem ZtL {fuel:Nat} {g:TypeId->Option Ty} {cs:List Value}
  (ih: ∀(t:TypeId) (ty:Ty) (cs:List Value) (x:DataW H×List MemPlace),g t=some ty->ty.flat=true->DataW.trod enc C.P w base sp held fuel t cs=some x->∀ψ,aS C ψ (Bg x.1) cs)
  {e:TypeId} {x:Ty} (hg:g e=some x) (eC:x.flat=true) (hs:x.size=C.P.cellsOf e): ∀(m k:Nat) (ys:List (DataW H×List MemPlace)),ys.length=m->
  (∀i,i<m->DataW.trod enc C.P w base sp held fuel e ((cs.drop ((k+i)*C.P.cellsOf e)).take (C.P.cellsOf e))=ys[i]?)->∀ψ,aS C ψ ((vG (ys.map (·.1))).map Dq) ((cs.drop (k*x.size)).take (mV x m).size)
 |0,k,ys,hl,_,ψ=>by
  cases xQ hl;simp[Ty.size,vG,mV];exact .nil
 |m+1,k,[],hl,_,_=>by cases hl
 |m+1,k,z::ys,hl,hf,ψ=>by
  have v1:=ih e x _ z hg eC (hf 0 (by omega)) ψ;have v2:=ZtL ih hg eC hs m (k+1) ys (by simpa using hl) (fun i hi=>by have:=hf (i+1) (by omega);rwa [show k+(i+1)=k+1+i by omega]at this) ψ;rw[show(mV x (m+1)).size=x.size+(mV x m).size from rfl,B3,iK];rw[dG,<-hs]at v1;rw[z6]at v2;simp only[gM,vG,dL];exact v1.append v2
theorem ZvC {x:Ty} : ∀ {m:Nat},(mV x m).flat=true->0<m->x.flat=true
 |0,_,h=>absurd h (Nat.lt_irrefl _)
 |m+1,h,_=>by simp only[mV,Ty.flat,aH]at h;exact h.1
theorem O9: ∀(fuel f0:Nat) (t:TypeId) (ty:Ty) (cs:List Value) (x:DataW H×List MemPlace),kW C.P f0 t=some ty->ty.flat=true->DataW.trod enc C.P w base sp held fuel t cs=some x->∀ψ,aS C ψ (Bg x.1) cs
 |0,_,t,_,cs,x,_,_,h=>by simp[DataW.trod]at h
 |fuel+1,0,t,ty,cs,x,ht,_,_=>by cases ht
 |fuel+1,f0+1,t,ty,cs,x,ht,eC,h=>by
  intro ψ;simp only[kW]at ht;cases hu:C.P.underlying t with
  |none=>rw[hu]at ht;cases ht
  |some td=>
   rw[hu]at ht;cases td with
   |bool=>obtain⟨b,rfl,rfl⟩:=DataW.trod_bool hu h;exact .cons _ _ _ _ (.bool b) .nil
   |int k=>obtain⟨n,rfl,rfl,_⟩:=DataW.trod_int hu h;exact .cons _ _ _ _ (.int k n) .nil
   |string=>obtain⟨l,rfl,rfl,_⟩:=DataW.trod_string hu h;exact .cons _ _ _ _ (.str l) .nil
   |slice e=>
    simp only at ht;cases oL:kW C.P f0 e with
    |none=>rw[oL]at ht;cases ht
    |some te=>
     rw[oL]at ht;simp only at ht;cases bG:Nat.beq te.size (C.P.cellsOf e)&&Nat.blt 0 te.size with
     |false=>rw[bG]at ht;cases ht
     |true=>rw[bG]at ht;cases ht;cases eC
   |struct fs=>
    simp only at ht;cases nJ:tr (kW C.P f0) C.P fs.toList 0 with
    |none=>rw[nJ]at ht;cases ht
    |some y=>
     rw[nJ]at ht;simp only at ht;cases bG:Nat.beq y.size (C.P.cellsOf t)with
     |false=>rw[bG]at ht;cases ht
     |true=>
      rw[bG]at ht;cases ht;have bG:=cc bG;obtain⟨xs,n,hn,rfl,dq,xw,cJ⟩:=DataW.trod_struct hu h;cases hn;have v':=Zn1 (C:=C) (w:=w) (enc:=enc) (cs:=cs) (fun t ty cs x h1 h2 h3=>O9 fuel f0 t ty cs x h1 h2 h3) fs.toList xs 0 ty nJ eC (by rw[xw,jC]) (fun i f hi=>cJ i f (by rw[<-gK];exact hi)) ψ;rw[dE,cA (by omega)]at v';simpa [Bg,lits]using v'
   |array m e=>
    simp only at ht;cases oL:kW C.P f0 e with
    |none=>rw[oL]at ht;cases ht
    |some te=>
     rw[oL]at ht;simp only at ht;cases bG:Nat.beq te.size (C.P.cellsOf e)&&Nat.beq (m*te.size) (C.P.cellsOf t)with
     |false=>rw[bG]at ht;cases ht
     |true=>
      rw[bG]at ht;cases ht;rw[aH]at bG;have h1:=cc bG.1;have h2:=cc bG.2;obtain⟨xs,n,hn,rfl,dq,xw,cJ⟩:=DataW.trod_array hu h;cases hn;have v':aS C ψ ((vG (xs.map (·.1))).map Dq) cs:=by
       rcases vU m with h0|h0
       ·subst h0
        cases xQ xw;rw[nf]at h2;cases xQ (dq.trans h2.symm);exact .nil
       ·have v':=ZtL (C:=C) (w:=w) (enc:=enc) (cs:=cs) (fun t ty cs x h1 h2 h3=>O9 fuel f0 t ty cs x h1 h2 h3) oL (ZvC eC h0) h1 m 0 xs xw (fun i hi=>by rw[dj];exact cJ i hi) ψ
        rw[nf,dE,cA (by rw[Oz];omega)]at v';exact v'
      simpa [Bg,lits]using v'
   |_=>cases ht
theorem ZuK {P:Program} {n:String} {d:DataW Unit} : ∀ {laid:List (String×DataW Unit)} {ps:List MemPlace},DataW.LaidVars P w laid ps->(n,d)∈laid->
  ∃g t cs fuel p,P.globalNamed n=some g/\(P.globals[g]?).map (·.type)=some t/\w.var? P n=some cs/\DataW.trod (fun _=>()) P w 0 (fun _=>true) false fuel t cs.toList=some (d,p)
 |[],_,_,h=>by cases h
 |(n',d')::r,ps,⟨g,t,cs,fuel,p,q,h1,h2,h3,h4,h5,_⟩,h=>by
  rcases bX.1 h with h|h
  ·cases h;exact⟨g,t,cs,fuel,p,h1,h2,h3,h4⟩
  ·exact ZuK h5 h
def Wz (C:aP) (laid:List (String×DataW Unit)) (tb:St) (g:Nat):Prop:=
 ∃n d t ty,(n,d)∈laid/\C.P.globalNamed n=some g/\(C.P.globals[g]?).map (·.type)=some t/\kW C.P 20 t=some ty/\ty.flat=true/\tb[C.gl g]? =some (some ⟨true,Bg d⟩)
def zC (gs:List (Nat×Nat)) (m:Nat->Nat):Ps
 | .inl i=>(gs.find? fun x=>Nat.beq x.2 i).map fun x=>⟨x.1,0,m x.1⟩
 | .inr _=>none
theorem Zy4: ∀(l:List Lit),(l.map Dq).all one=true
 |[]=>rfl
 |l::r=>by rw[gM,sJ,Zy4 r];cases l<;>rfl
theorem tabs_OI {laid:List (String×DataW Unit)} (hm:laidMetH C.P laid w) (hp:(laid.all fun x=>x.2.handleName?.isNone)=true) {tb:St} (hf: ∀(i:Nat) (b:Option bq),tb[i]? =some b->∃cs,b=some ⟨true,cs⟩)
  (gs:List (Nat×Nat)) (yN: ∀x∈gs,C.gl x.1=x.2/\Wz C laid tb x.1) (XB: ∀g,C.wL g=true->gs.find? (fun x=>Nat.beq x.2 (C.gl g))=some (g,C.gl g)):
  ∃ψ,OI C w tb ψ/\Glob C ψ:=by
 rw[MakeChecks.laidMetH_plain _ _ _ hp]at hm;obtain⟨ps,hv,_,_⟩:=hm;have cell: ∀x∈gs,∃(cs:Array Value) (ds:List DV) (ty:TypeId) (fr:Nat×Nat),w.heap[x.1]? =some (.cells cs ty fr)/\tb[x.2]? =some (some ⟨true,ds⟩)/\(∀ψ,aS C ψ ds cs.toList)/\ds.all one=true:=by
  intro x hx;obtain⟨e,n,d,t,ty,h1,h2,h3,h4,h5,h6⟩:=yN x hx;obtain⟨g,t',cs,fuel,p,k1,k2,k3,k4⟩:=ZuK hv h1;cases h2.symm.trans k1;cases h3.symm.trans k2;have hc: ∃ty fr,w.heap[x.1]? =some (.cells cs ty fr):=by
   simp only[World.var?,k1,Option.bind_some]at k3;split at k3
   ·cases k3;exact⟨_,_, ‹_›⟩
   ·cases k3
  obtain⟨ty',fr,hc⟩:=hc;exact⟨cs,_,ty',fr,hc,by rw[<-e];exact h6,fun ψ=>O9 fuel 20 t ty _ _ h4 h5 k4 ψ,Zy4 _⟩
 let m:Nat->Nat:=fun g=>match w.heap[g]? with
  |some (.cells cs _ _)=>cs.size
  |_=>0
 have RC: ∀i cb,zC gs m (.inl i)=some cb->∃x∈gs,x.2=i/\cb=⟨x.1,0,m x.1⟩:=by
  intro i cb h;simp only[zC,Option.map_eq_some_iff]at h;obtain⟨x,h1,h2⟩:=h;exact⟨x,List.mem_of_find?_eq_some h1,cc (List.find?_some (p:=fun x:Nat×Nat=>Nat.beq x.2 i) h1),h2.symm⟩
 refine⟨zC gs m,⟨fun i cb ab e q=>?_,fun i cb e=>?_,hf,fun i hi=>?_,fun v=>rfl⟩,fun g hg=>⟨⟨g,0,m g⟩,?_,rfl,rfl⟩⟩
 ·obtain⟨x,hx,rfl,rfl⟩:=RC i cb e
  obtain⟨cs,ds,ty,fr,c1,c2,c3,c4⟩:=cell x hx;unfold cq at q;rw[c2]at q;cases q;have hl:=(c3 (zC gs m)).len;refine⟨?_,c4,fun j d hd=>?_,fun h=>by cases h⟩
  ·show ds.length<=m x.1
   have hm:m x.1=cs.size:=by simp only[m,c1]
   have h2:cs.toList.length=cs.size:=jC;omega
  ·obtain⟨v,hv,hr⟩:=(c3 (zC gs m)).get hd
   refine⟨v,?_,hr⟩;simp only[World.cell?,c1,dj];rw[<-gK];exact hv
 ·obtain⟨x,hx,rfl,rfl⟩:=RC i cb e
  obtain⟨cs,ds,ty,fr,c1,_⟩:=cell x hx;exact rL c1
 ·cases h:zC gs m (.inl i)with
  |none=>rfl
  |some cb=>
   obtain⟨x,hx,rfl,_⟩:=RC i cb h;obtain⟨cs,ds,ty,fr,_,c2,_⟩:=cell x hx;exact absurd (cd.1 c2).1 (by omega)
 ·simp only[zC,XB g hg,lX]
end
end Go.Gv
namespace Go.Gv
open Go.RowKit Go.ChangeShapes Go.WideShapes
theorem law_lifted_laid {C:aP} {Ck:Checked} (nH:C.P=Ck.prog) {os:Os} (started:os.Started) {f:FuncId} {fn:Func} {s:ChangeSpec} {H:Type} {enc:TypeId×Value->H} {laid:List (String×DataW Unit)}
  (own:ownKnob Ck.prog.godebug=none) (YR:Ck.prog.inits.idxOf? f=none) (hfn:Ck.prog.funcs[f]? =some fn) (laidOut:laidOutB Ck.prog=true)
  (VG:s.vars=[]) {rt:TypeId} (Ei:fn.resultTypes= #[rt]) (Lc:Ck.prog.underlying rt=some .bool) (Ya:fn.params.toList.all (fun t=>Ck.prog.readableRec t&&decide (t<Ck.prog.types.size))=true)
  (SF: ∀ds:List (DataW H),ds.length=fn.params.size->(s.fn H ds).results=[.lit (.bool true)]/\(s.fn H ds).args=ds/\(s.fn H ds).vars=[])
  (witness: ∃(w:World) (tape:Tape) (i:Input),w.os=os/\(w.forCall tape i).Shaped Ck.prog/\i.vars=[]/\Input.okWide Ck.prog (w.forCall tape i) .any w.heap.size f i/\
   ((s.pre enc Ck.prog fn [] false (w.forCall tape i).memory i.args/\laidMetH Ck.prog laid (w.forCall tape i).memory)/\sizedMet enc Ck.prog fn (OpenSpec.ofChange s) false (w.forCall tape i).memory i.args)/\
   ({} :Assume).holds Ck.prog (lone (Frame.enter Ck.prog f i.args .normal) [] (w.forCall tape i)))
  (calls: ∀(W:World) (args:List Value) (ds:List (DataW H)) (p:List MemPlace) (base:Nat),laidMetH C.P laid W->(∀(j:Nat) t v,fn.params[j]? =some t->args[j]? =some v->Value.okWide C.P W .any base t v)->
   DataW.TrodAll enc C.P W 0 (fun _=>true) true fn.params.toList args ds p->Calls C.P f args.toArray W fun e W'=>e= .returned (.bool true)/\Below W.heap.size W W'):
  ReturnsInHanded {} Ck os f .any (fun w args=>(s.pre enc Ck.prog fn [] false w args/\laidMetH Ck.prog laid w)/\sizedMet enc Ck.prog fn (OpenSpec.ofChange s) false w args) (s.post enc Ck.prog fn false true false false):=by
 refine returnsInHanded_of_change_and (C:=Ck) (X:=fun w _=>laidMetH Ck.prog laid w) (fun _ _ _ hh h=>h.of_heap hh) own started YR hfn witness ?_;intro W base args ds gs before hval hW _ _ hL _;have Kz:=hW;obtain⟨p,q,hA,hV,rfl,rf,cZ⟩:=hW;rw[VG]at hV;obtain⟨rfl,rfl⟩:=trodVars_none hV;have hlen:=ZnN _ _ _ _ hA;rw[jC]at hlen;obtain⟨h1,h2,h3⟩:=SF ds hlen;have hc:=calls W args.toList ds p base (by rw[nH];exact hL) (fun j t v a b=>by rw[nH];exact hval j t v a (by rw[<-gK];exact b)) (by rw[nH];exact hA);rw[nH]at hc;refine Calls.mono hc fun e W' ⟨he,bel⟩=>?_
 subst he;refine⟨_,rfl,ds,[],_,[],p,[],Kz,?_,?_,?_,bel.frame _,fun h=>by cases h⟩
 ·rw[ez,h1,Ei]
  exact trodAll_mk1 (shut_bool Lc _)
 ·rw[ez,h2]
  have hr: ∀t∈fn.params.toList,C.P.readableRec t=true/\t<C.P.types.size:=by
   rw[nH];intro t ht;have:=gv.1 Ya t ht;rw[aH,j4]at this;exact this
  have:=ZlR (C:=C) (enc:=enc) (by rw[nH];exact laidOut) bel fn.params.toList args.toList ds p hr (by rw[nH];exact hA);rw[nH]at this;exact this
 ·rw[ez,h3,VG];rfl
theorem has_all {P:Nat->Bool} : ∀ {l:List Nat},l.all P=true->∀g,has l g=true->P g=true
 |[],_,g,h=>by cases h
 |a::l,hl,g,h=>by
  rw[sJ,aH]at hl;simp only[has,jD]at h;rcases h with h|h
  ·rw[<-cc h];exact hl.1
  ·exact has_all hl.2 g h
theorem noStandIn {P:Program} {fn:Func} {l:List TypeId} (hp:fn.params.toList=l) (h:l.all (fun u=> !P.wantsStandIn u)=true): ∀(j:Nat) t,fn.params[j]? =some t->P.wantsStandIn t=false:=by
 intro j t ht;have hm:t∈l:=by rw[<-hp];exact Array.mem_toList_iff.2 (Array.mem_of_getElem? ht)
 simpa using gv.1 h t hm
end Go.Gv
namespace Go.Gv
set_option maxRecDepth 20000
def aaB:List DV:=[.str [98,101,103,105,110],.str [],.int .i64 1,.str [99,111,109,109,105,116],.str [],.int .i64 2,.str [97,98,111,114,116],.str [],.int .i64 3,.str [110,101,119],.str [110],.int .i64 4,.str [100,114,111,112],.str [110],.int .i64 5,.str [112,117,116],.str [110,107,118],.int .i64 6,.str [109,105,110],.str [110],.int .i64 7,.str [112,111,112],.str [110],.int .i64 8,.str [108,111,119,101,114],.str [110,104,107],.int .i64 9,.str [99,117,116],.str [110,104],.int .i64 10,.str [109,101,108,100],.str [110,111],.int .i64 11,.str [103,101,116],.str [104],.int .i64 12,.str [108,101,110],.str [110],.int .i64 13,.str [108,105,115,116],.str [110],.int .i64 14,.str [110,97,109,101,115],.str [],.int .i64 15,.str [97,114,109],.str [118],.int .i64 16,.str [112,108,97,110],.str [42],.int .i64 17,.str [99,114,97,115,104],.str [42],.int .i64 18,.str [99,104,101,99,107],.str [],.int .i64 19,.str [101,112,111,99,104],.str [],.int .i64 20]
def aaC:List DV:=[.int .u64 1,.int .u64 10,.int .u64 100,.int .u64 1000,.int .u64 10000,.int .u64 100000,.int .u64 1000000,.int .u64 10000000,.int .u64 100000000,.int .u64 1000000000,.int .u64 10000000000,.int .u64 100000000000,.int .u64 1000000000000,.int .u64 10000000000000,.int .u64 100000000000000,.int .u64 1000000000000000,.int .u64 10000000000000000,.int .u64 100000000000000000,.int .u64 1000000000000000000,.int .u64 10000000000000000000]
def LN:List DV:=[.int .u8 0,.int .u8 1,.int .u8 56,.int .u8 2,.int .u8 57,.int .u8 49,.int .u8 28,.int .u8 3,.int .u8 61,.int .u8 58,.int .u8 42,.int .u8 50,.int .u8 38,.int .u8 29,.int .u8 17,.int .u8 4,.int .u8 62,.int .u8 47,.int .u8 59,.int .u8 36,.int .u8 45,.int .u8 43,.int .u8 51,.int .u8 22,.int .u8 53,.int .u8 39,.int .u8 33,.int .u8 30,.int .u8 24,.int .u8 18,.int .u8 12,.int .u8 5,.int .u8 63,.int .u8 55,.int .u8 48,.int .u8 27,.int .u8 60,.int .u8 41,.int .u8 37,.int .u8 16,.int .u8 46,.int .u8 35,.int .u8 44,.int .u8 21,.int .u8 52,.int .u8 32,.int .u8 23,.int .u8 11,.int .u8 54,.int .u8 26,.int .u8 40,.int .u8 15,.int .u8 34,.int .u8 20,.int .u8 31,.int .u8 10,.int .u8 25,.int .u8 14,.int .u8 19,.int .u8 9,.int .u8 13,.int .u8 8,.int .u8 7,.int .u8 6]
def aaD:List DV:=[.int .u8 0,.int .u8 1,.int .u8 28,.int .u8 2,.int .u8 29,.int .u8 14,.int .u8 24,.int .u8 3,.int .u8 30,.int .u8 22,.int .u8 20,.int .u8 15,.int .u8 25,.int .u8 17,.int .u8 4,.int .u8 8,.int .u8 31,.int .u8 27,.int .u8 13,.int .u8 23,.int .u8 21,.int .u8 19,.int .u8 16,.int .u8 7,.int .u8 26,.int .u8 12,.int .u8 18,.int .u8 6,.int .u8 11,.int .u8 5,.int .u8 10,.int .u8 9]
def aaE:List DV:=Go.Pinned.utf8FirstZ.map fun n:Nat=>DV.int .u8 (Int.ofNat n)
def aaF:List DV:=[.int .u8 128,.int .u8 191,.int .u8 160,.int .u8 191,.int .u8 128,.int .u8 159,.int .u8 144,.int .u8 191,.int .u8 128,.int .u8 143,.int .u8 0,.int .u8 0,.int .u8 0,.int .u8 0,.int .u8 0,.int .u8 0,.int .u8 0,.int .u8 0,.int .u8 0,.int .u8 0,.int .u8 0,.int .u8 0,.int .u8 0,.int .u8 0,.int .u8 0,.int .u8 0,.int .u8 0,.int .u8 0,.int .u8 0,.int .u8 0,.int .u8 0,.int .u8 0]
def tabs:St:=[some ⟨true,aaB⟩,some ⟨true,aaC⟩,some ⟨true,LN⟩,some ⟨true,aaD⟩,some ⟨true,aaE⟩,some ⟨true,aaF⟩]
theorem tabs_frz: ∀(i:Nat) (b:Option bq),tabs[i]? =some b->∃cs,b=some ⟨true,cs⟩:=by
 intro i b h
 match i,h with
 |0,h=>cases h;exact⟨_,rfl⟩
 |1,h=>cases h;exact⟨_,rfl⟩
 |2,h=>cases h;exact⟨_,rfl⟩
 |3,h=>cases h;exact⟨_,rfl⟩
 |4,h=>cases h;exact⟨_,rfl⟩
 |5,h=>cases h;exact⟨_,rfl⟩
 |n+6,h=>simp[tabs]at h
end Go.Gv
