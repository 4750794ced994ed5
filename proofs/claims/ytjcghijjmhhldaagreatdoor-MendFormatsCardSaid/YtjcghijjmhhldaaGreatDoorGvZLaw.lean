/- Arguments that can be read as data: what the machine makes of them. -/
import Derived.Test.YtjcghijjmhhldaaGreatDoorGvZRun
import Derived.ChangeArms
import Derived.OpenShut
import Derived.ProofKit
import Derived.ShutString
import Derived.ChangeOld
import Derived.Below
import Derived.SizedLaws
import Derived.MakeChecks
import GoSem.ClaimJoined
import Derived.LaidMore
import Derived.Lay
import Derived.SevenTiedAt
import Derived.Stop.Joined
import GoSem.PinnedTables
set_option linter.all false
namespace Go.Gv
inductive Ty where
 |b
 |i (k:IntKind)
 |s
 |sl (e:Ty)
 |un
 |pr (x y:Ty)
def Ty.size:Ty->Nat
 | .un=>0
 | .pr x y=>x.size+y.size
 |_=>1
def Rd (s:St):Ty->af->Prop
 | .b,ds=>∃b,ds=[.bool b]
 | .i k,ds=>∃n:Int,ds=[.int k n]/\k.min<=n/\n<=k.max
 | .s,ds=>∃l:aj,ds=[.str l]/\l.length<=maxLen
 | .sl e,ds=>ds=[.slice e.size none 0]\/∃(i n:Nat) (cs:af),ds=[.slice e.size (some (i,0)) n]/\s[i]? =some (some ⟨true,cs⟩)/\cs.length=n*e.size/\n<=maxLen/\∀j,j<n->Rd s e ((cs.drop (j*e.size)).take e.size)
 | .un,ds=>ds=[]
 | .pr x y,ds=>∃a b,ds=a++b/\Rd s x a/\Rd s y b
theorem Rd.len {s:St} : ∀ {t:Ty} {ds:af},Rd s t ds->ds.length=t.size
 | .b,_,⟨_,h⟩=>by rw[h];rfl
 | .i _,_,⟨_,h,_⟩=>by rw[h];rfl
 | .s,_,⟨_,h,_⟩=>by rw[h];rfl
 | .sl _,_,h=>by rcases h with h|⟨_,_,_,h,_⟩<;>(rw[h];rfl)
 | .un,_,h=>by rw[show _=[]from h];rfl
 | .pr x y,_,⟨a,b,h,h1,h2⟩=>by rw[h,cq,Rd.len h1,Rd.len h2];rfl
theorem Rd.one {s:St} : ∀ {t:Ty} {ds:af},Rd s t ds->ds.all one=true
 | .b,_,⟨_,h⟩=>by rw[h];rfl
 | .i _,_,⟨_,h,_⟩=>by rw[h];rfl
 | .s,_,⟨_,h,_⟩=>by rw[h];rfl
 | .sl _,_,h=>by rcases h with h|⟨_,_,_,h,_⟩<;>(rw[h];rfl)
 | .un,_,h=>by rw[show _=[]from h];rfl
 | .pr x y,_,⟨a,b,h,h1,h2⟩=>by rw[h,uf,Rd.one h1,Rd.one h2];rfl
theorem Rd.mono {s s':St} (hs: ∀(i:Nat) (b:Option aH),s[i]? =some b->s'[i]? =some b): ∀ {t:Ty} {ds:af},Rd s t ds->Rd s' t ds
 | .b,_,h=>h
 | .i _,_,h=>h
 | .s,_,h=>h
 | .sl e,_,h=>by
  rcases h with h|⟨i,n,cs,h1,h2,h3,h4,h5⟩
  .exact .inl h
  .exact .inr ⟨i,n,cs,h1,hs _ _ h2,h3,h4,λj hj=>Rd.mono hs (h5 j hj)⟩
 | .un,_,h=>h
 | .pr x y,_,⟨a,b,h,h1,h2⟩=>⟨a,b,h,Rd.mono hs h1,Rd.mono hs h2⟩
def rG (g:TypeId->Option Ty) (P:Program):List Field->Nat->Option Ty
 |[],_=>some .un
 |f::r,o=>bif Nat.beq f.offset o then(match g f.type with
  |some x=>bif Nat.beq x.size (P.cellsOf f.type)then(match rG g P r (o+x.size)with
   |some y=>some (.pr x y)
   |none=>none)else none
  |none=>none)else none
def lJ (x:Ty):Nat->Ty
 |0=> .un
 |n+1=> .pr x (lJ x n)
def j8 (P:Program):Nat->TypeId->Option Ty
 |0,_=>none
 |n+1,t=>match P.underlying t with
  |some .bool=>some .b
  |some (.int k)=>some (.i k)
  |some .string=>some .s
  |some (.slice e)=>(match j8 P n e with
   |some x=>bif Nat.beq x.size (P.cellsOf e)&&Nat.blt 0 x.size then some (.sl x)else none
   |none=>none)
  |some (.struct fs)=>(match rG (j8 P n) P fs.toList 0 with
   |some x=>bif Nat.beq x.size (P.cellsOf t)then some x else none
   |none=>none)
  |some (.array m e)=>(match j8 P n e with
   |some x=>bif Nat.beq x.size (P.cellsOf e)&&Nat.beq (m*x.size) (P.cellsOf t)then some (lJ x m)else none
   |none=>none)
  |_=>none
theorem Kr (x:Ty): ∀n,(lJ x n).size=n*x.size
 |0=>by simp[lJ,Ty.size]
 |n+1=>by simp[lJ,Ty.size,Kr x n,xD,oz]
structure OI (C:aY) (w:World) (s:St) (ψ:Ps):Prop where
 hold: ∀i cb ab,ψ (.inl i)=some cb->cu s i=some ab->Holds C ψ w cb ab
 eS: ∀i cb,ψ (.inl i)=some cb->cb.b<w.heap.size
 jS: ∀(i:Nat) (b:Option aH),s[i]? =some b->∃cs,b=some ⟨true,cs⟩
 fresh: ∀i,s.length<=i->ψ (.inl i)=none
 On: ∀v,ψ (.inr v)=none
structure OG (s s':St) (ψ ψ':Ps):Prop where
 st: ∀(i:Nat) (b:Option aH),s[i]? =some b->s'[i]? =some b
 len:s.length<=s'.length
 ps: ∀h cb,ψ h=some cb->ψ' h=some cb
theorem OG.refl (s:St) (ψ:Ps):OG s s ψ ψ:=⟨λ_ _ h=>h,aW _,λ_ _ h=>h⟩
variable {f:FuncId} {laid:List (String×DataW Unit)} {args vs:List Value} {base c j n:Nat} {P:Program} {fS zV ψ ψ':Ps} {r:Reach} {GP s' s0 tb:St} {H:Type} {rt t:TypeId} {v:Value}
theorem OG.trans {s:St} (h:OG s s' ψ ψ') (k:OG s' GP ψ' zV):OG s GP ψ zV:=
 ⟨λi b e=>k.st i b (h.st i b e),fF h.len k.len,λx cb e=>k.ps x cb (h.ps x cb e)⟩
section
variable {C:aY} {w:World} {s:St} {ψ:Ps}
theorem OI.add (I:OI C w s ψ) (cs:af) (cb:CB) (hb:cb.b<w.heap.size) (hl:cs.length<=cb.m) (h1:cs.all one=true)
  (hc: ∀j d,cs[j]? =some d->∃v,w.cell? ⟨cb.b,cb.o+j,none⟩=some v/\VR C ψ d v):
  OI C w (s++[some ⟨true,cs⟩]) (kD ψ (.inl s.length) cb)/\OG s (s++[some ⟨true,cs⟩]) ψ (kD ψ (.inl s.length) cb):=by
 have hf:ψ (.inl s.length)=none:=I.fresh _ (aW _);have mono:=pI (cb:=cb) hf;refine⟨⟨λi c ab e q=>?_,λi c e=>?_,λi b e=>?_,λi hi=>?_,λv=>?_⟩,⟨λi b e=>?_,Do,mono⟩⟩
 .by_cases hi:i=s.length
  .subst hi
   rw[lY]at e;cases e;rw[Ie]at q;cases q;exact⟨hl,h1,λj d hd=>let ⟨v,a,b⟩:=hc j d hd;⟨v,a,b.mono λ_ _ e=>mono _ _ e⟩,(λh=>by cases h)⟩
  .rw[kM _ _ (λe=>hi (Sum.inl.inj e))]at e
   have:=vW q;simp only[cq,xu]at this;rw[DG AC]at q;exact(I.hold i c ab e q).same (λ_ _ e=>mono _ _ e) rfl
 .by_cases hi:i=s.length
  .grind[lY]
  .rw[kM _ _ (λe=>hi (Sum.inl.inj e))]at e;exact I.eS i c e
 .rcases jd i s.length with h|h
  .rw[lj h]at e;exact I.jS i b e
  grind
 .simp only[cq,xu]at hi
  rw[kM _ _ Fd];exact I.fresh i AC
 .rw[kM _ _ (λe=>by cases e)];exact I.On v
 grind
def Mem (w:World) (cs:List Value):Prop:=∀v∈cs,∀a l c,v= .slice (some a) l c->0<w.heap.size
variable {H:Type} {enc:TypeId×Value->H}
theorem Zl8 {a:Addr} (h:w.cells? base a n=some vs):vs.length=n/\∀j,j<n->w.cell? (a.add j)=vs[j]? :=by
 unfold World.cells? at h;split at h
 .have h1:=mapM_some_length h
  rw[z6]at h1;exact⟨h1,λj hj=>mapM_some_get h j j (by simp[hj])⟩
 .cases h
theorem ZrR {a:Addr} (h:w.cell? (a.add j)=some v):w.cell? ⟨a.block,a.off+j,none⟩=some v/\(j=0->a.spot=none)/\a.block<w.heap.size:=by
 have hb: ∀x:Addr,w.cell? x=some v->x.block<w.heap.size/\x.spot=none:=by
  intro x hx;unfold World.cell? at hx;cases hb:w.heap[x.block]? with
  |none=>rw[hb]at hx;cases hx
  |some o=>
   rw[hb]at hx;refine⟨AK hb,?_⟩;cases o<;>simp only at hx<;>first|(cases hx;done)|skip
   simp_all
 unfold Addr.add at h;split at h
 .rename_i hj
  have⟨h1,h2⟩:=hb a h;subst hj;refine⟨?_,λ_=>h2,h1⟩;rw[dK,<-h2];exact h
 grind
theorem Mem.part {cs:List Value} (h:Mem w cs) (o n:Nat):Mem w ((cs.drop o).take n):=λv hv=>h v Fd
def OX (C:aY) (w:World) (enc:TypeId×Value->H) (fuel:Nat) (g:TypeId->Option Ty):Prop:=
 ∀(t:TypeId) (ty:Ty) (cs:List Value) (x:DataW H×List MemPlace) (s:St) (ψ:Ps),g t=some ty->DataW.trod enc C.P w 0 (λ_=>true) true fuel t cs=some x->Mem w cs->OI C w s ψ->
  ∃(s':St) (ψ':Ps) (ds:af),OI C w s' ψ'/\OG s s' ψ ψ'/\Rd s' ty ds/\ba C ψ' ds cs
theorem ZkX {fuel:Nat} {g:TypeId->Option Ty} (ih:OX C w enc fuel g) {cs:List Value} (hm:Mem w cs): ∀(fs:List Field) (o:Nat) (ty:Ty) (s:St) (ψ:Ps),rG g C.P fs o=some ty->
  (∀f∈fs,∃y,DataW.trod enc C.P w 0 (λ_=>true) true fuel f.type ((cs.drop f.offset).take (C.P.cellsOf f.type))=some y)->OI C w s ψ->
  ∃(s':St) (ψ':Ps) (ds:af),OI C w s' ψ'/\OG s s' ψ ψ'/\Rd s' ty ds/\ba C ψ' ds ((cs.drop o).take ty.size)
 |[],o,ty,s,ψ,h,_,I=>by
  cases h;exact⟨s,ψ,[],I,.refl s ψ,rfl,by simp[Ty.size];exact .nil⟩
 |f::fs,o,ty,s,ψ,h,hf,I=>by
  simp only[rG]at h;cases ho:Nat.beq f.offset o with
  |false=>rw[ho]at h;cases h
  |true=>
   rw[ho]at h;simp only[aa]at h;cases hg:g f.type with
   |none=>rw[hg]at h;cases h
   |some x=>
    rw[hg]at h;simp only at h;cases hs:Nat.beq x.size (C.P.cellsOf f.type)with
    |false=>rw[hs]at h;cases h
    |true=>
     rw[hs]at h;simp only[aa]at h;cases hr:rG g C.P fs (o+x.size)with
     |none=>rw[hr]at h;cases h
     |some y=>
      rw[hr]at h;cases h;have ho:=cO ho;have hs:=cO hs;have⟨z,hz⟩:=hf f Do;have⟨s1,fT,d1,I1,G1,r1,v1⟩:=ih f.type x _ z s ψ hg hz (hm.part _ _) I;have⟨s2,ij,d2,I2,G2,r2,v2⟩:=ZkX ih hm fs (o+x.size) y s1 fT hr Fd I1;refine⟨s2,ij,d1++d2,I2,G1.trans G2,⟨d1,d2,rfl,r1.mono G2.st,r2⟩,?_⟩;rw[show Ty.size (.pr x y)=x.size+y.size from rfl,List.take_add,kd];rw[ho,<-hs]at v1;exact(v1.mono λ_ _ e=>G2.ps _ _ e).append v2
theorem Zow {fuel:Nat} {g:TypeId->Option Ty} (ih:OX C w enc fuel g) {cs:List Value} (hm:Mem w cs) {e:TypeId} {x:Ty} (hg:g e=some x) (hs:x.size=C.P.cellsOf e): ∀(m k:Nat) (s:St) (ψ:Ps),
  (∀i,i<m->∃y,DataW.trod enc C.P w 0 (λ_=>true) true fuel e ((cs.drop ((k+i)*C.P.cellsOf e)).take (C.P.cellsOf e))=some y)->OI C w s ψ->
  ∃(s':St) (ψ':Ps) (ds:af),OI C w s' ψ'/\OG s s' ψ ψ'/\Rd s' (lJ x m) ds/\ba C ψ' ds ((cs.drop (k*x.size)).take (lJ x m).size)
 |0,k,s,ψ,_,I=>⟨s,ψ,[],I,.refl s ψ,rfl,by simp[Ty.size,lJ];exact .nil⟩
 |m+1,k,s,ψ,hf,I=>by
  have⟨z,hz⟩:=hf 0 AC;have⟨s1,fT,d1,I1,G1,r1,v1⟩:=ih e x _ z s ψ hg hz (hm.part _ _) I;have⟨s2,ij,d2,I2,G2,r2,v2⟩:=Zow ih hm hg hs m (k+1) s1 fT Fd I1;refine⟨s2,ij,d1++d2,I2,G1.trans G2,⟨d1,d2,rfl,r1.mono G2.st,r2⟩,?_⟩;rw[show(lJ x (m+1)).size=x.size+(lJ x m).size from rfl,List.take_add,kd];rw[dK,<-hs]at v1;rw[xD]at v2;exact(v1.mono λ_ _ e=>G2.ps _ _ e).append v2
theorem Eo: ∀(fuel f0:Nat) (t:TypeId) (ty:Ty) (cs:List Value) (x:DataW H×List MemPlace) (s:St) (ψ:Ps),j8 C.P f0 t=some ty->DataW.trod enc C.P w 0 (λ_=>true) true fuel t cs=some x->Mem w cs->OI C w s ψ->
  ∃(s':St) (ψ':Ps) (ds:af),OI C w s' ψ'/\OG s s' ψ ψ'/\Rd s' ty ds/\ba C ψ' ds cs
 |0,_,t,_,cs,x,_,_,_,h,_,_=>by simp[DataW.trod]at h
 |fuel+1,0,t,ty,cs,x,s,ψ,ht,_,_,_=>by cases ht
 |fuel+1,f0+1,t,ty,cs,x,s,ψ,ht,h,hm,I=>by
  have one: ∀ {d:DV} {v:Value} {ty:Ty},cs=[v]->VR C ψ d v->Rd s ty [d]->∃(s':St) (ψ':Ps) (ds:af),OI C w s' ψ'/\OG s s' ψ ψ'/\Rd s' ty ds/\ba C ψ' ds cs:=by
   intro d v ty e hv hr;subst e;exact⟨s,ψ,_,I,.refl s ψ,hr,.cons _ _ _ _ hv .nil⟩
  simp only[j8]at ht;cases hu:C.P.underlying t with
  |none=>rw[hu]at ht;cases ht
  |some td=>
   rw[hu]at ht;cases td with
   |bool=>
    cases ht;have⟨b,e,_⟩:=DataW.trod_bool hu h;exact one e (.bool b) ⟨b,rfl⟩
   |int k=>
    cases ht;have⟨n,e,_,hw⟩:=DataW.trod_int hu h;simp only[Lit.wf,aZ,vB]at hw;exact one e (.int k n) ⟨n,rfl,hw⟩
   |string=>
    cases ht;have⟨l,e,_,hl⟩:=DataW.trod_string hu h;exact one e (.str l) ⟨_,rfl,by rw[kG];exact hl⟩
   |slice e=>
    simp only at ht;cases ny:j8 C.P f0 e with
    |none=>rw[ny]at ht;cases ht
    |some te=>
     rw[ny]at ht;simp only at ht;cases bS:Nat.beq te.size (C.P.cellsOf e)&&Nat.blt 0 te.size with
     |false=>rw[bS]at ht;cases ht
     |true=>
      rw[bS]at ht;cases ht;simp only[aZ,lP]at bS;have bS:=cO bS.1;rcases DataW.trod_slice hu h with⟨fH,_⟩|⟨a,len,cap,elems,rest,n,hn,fH,_,_,NA,hcm,FW,iT,NS,_⟩
      .exact one fH (.nI te.size) (.inl rfl)
      .cases hn
       have⟨hrl,VF⟩:=NS rfl;have elem: ∀j,j<cap->∃vs y,w.cells? 0 (a.add (j*C.P.cellsOf e)) (C.P.cellsOf e)=some vs/\DataW.trod enc C.P w 0 (λ_=>true) true fuel e vs=some y:=by
        intro j hj;have: ∃y,(w.cells? 0 (a.add (j*C.P.cellsOf e)) (C.P.cellsOf e)).bind (DataW.trod enc C.P w 0 (λ_=>true) true fuel e)=some y:=by
         rcases jd j len with h|h
         .grind
         .have:=VF (j-len) AC
          rw[show len+(j-len)=j by omega]at this;grind
        have⟨y,hy⟩:=this;have⟨vs,h1,h2⟩:=Option.bind_eq_some_iff.1 hy;grind
       have cellAt: ∀j i v,w.cell? ((a.add (j*C.P.cellsOf e)).add i)=some v->w.cell? ⟨a.block,a.off+(j*C.P.cellsOf e+i),none⟩=some v/\a.block<w.heap.size/\(j*C.P.cellsOf e+i=0->a.spot=none):=by
        intro j i v hv;have⟨g1,g2,g3⟩:=ZrR hv;by_cases hz:j*C.P.cellsOf e=0
        .rw[hz]at g1 g2 g3⊢
         have ea:a.add 0=a:=by simp[Addr.add]
         rw[ea]at g1 g2 g3;grind
        .have ea:a.add (j*C.P.cellsOf e)=⟨a.block,a.off+j*C.P.cellsOf e,none⟩:=by simp[Addr.add,hz]
         rw[ea]at g1 g3;grind
       have key: ∀k,k<=len->∃(s':St) (ψ':Ps) (ds:af),OI C w s' ψ'/\OG s s' ψ ψ'/\ds.length=k*te.size/\ds.all Go.Gv.one=true/\(∀j,j<k->Rd s' te ((ds.drop (j*te.size)).take te.size))/\
         (∀j d,ds[j]? =some d->∃v,w.cell? ⟨a.block,a.off+j,none⟩=some v/\VR C ψ' d v):=by
        intro k;induction k with
        |zero=>intro _;exact⟨s,ψ,[],I,.refl s ψ,Do,rfl,λj hj=>AC,λj d hd=>by simp at hd⟩
        |succ k ih=>
         intro hk;have⟨s1,fT,yM,I1,G1,zi,nv,gu,fW⟩:=ih AC;have⟨vs,y,kz,hy⟩:=elem k AC;have⟨u7,N4⟩:=Zl8 kz;have rQ:Mem w vs:=by
          intro v hv _ _ _ _;grind
         have⟨s2,ij,ds2,I2,G2,j1,hv2⟩:=Eo fuel f0 e te vs y s1 fT ny hy rQ I1;have qm:=j1.len;refine⟨s2,ij,yM++ds2,I2,G1.trans G2,by rw[cq,zi,qm,xD],by rw[uf,nv,j1.one];rfl,λj hj=>?_,λj d hd=>?_⟩
         .rcases jd j k with h|h
          .have hle:j*te.size+te.size<=k*te.size:=by rw[<-xD];exact xB _ h
           rw[List.drop_append_of_le_length AC,List.take_append_of_le_length (by simp;omega)];exact(gu j h).mono G2.st
          grind
         .rcases jd j yM.length with h|h
          .rw[lj h]at hd
           have⟨v,hv,hr⟩:=fW j d hd;exact⟨v,hv,hr.mono λ_ _ e=>G2.ps _ _ e⟩
          .rw[iO h]at hd
           have⟨v,hv,hr⟩:=hv2.get hd;have aw:j-yM.length<C.P.cellsOf e:=by rw[<-u7];grind
           have:=(cellAt k (j-yM.length) v (by rw[N4 _ aw];exact hv)).1;rw[<-bS,<-zi,show yM.length+(j-yM.length)=j by omega]at this;exact⟨v,this,hr⟩
       have⟨s1,fT,ds,I1,G1,hl,ho,hr,hc⟩:=key len (aW _);have hmz:0<w.heap.size:=hm _ (by rw[fH];grind) a len cap rfl;by_cases hcz:cap*C.P.cellsOf e=0
       ·
        have hdn:ds=[]:=by
         apply vv;rw[hl,bS];have:len*C.P.cellsOf e<=cap*C.P.cellsOf e:=xB _ NA;omega
        have hc0:cap=0:=by
         rcases Ab.1 hcz with h|h
         .exact h
         .omega
        subst hc0;have⟨I2,G2⟩:=I1.add ds ⟨0,0,0⟩ hmz (by rw[hdn];exact aW _) ho Fd;refine⟨_,_,[.slice te.size (some (s1.length,0)) len],I2,G1.trans G2,.inr ⟨_,len,ds,rfl,Do,hl,AC,AC⟩,?_⟩;rw[fH];exact .cons _ _ _ _ (.slice _ _ 0 _ ⟨0,0,0⟩ a 0 (lY _ _ _) NA AC) .nil
       .have BM:0<cap:=Fd
        have eu:0<C.P.cellsOf e:=AC
        have⟨vs,y,kz,_⟩:=elem 0 BM;have⟨u7,N4⟩:=Zl8 kz;have⟨_,gr,iN⟩:=cellAt 0 0 vs[0] (by rw[N4 0 eu];grind);have iN:=iN Do;have ha:a=⟨a.block,a.off,none⟩:=by rw[<-iN]
        have⟨I2,G2⟩:=I1.add ds ⟨a.block,a.off,cap*C.P.cellsOf e⟩ gr (by rw[hl,bS];grind) ho hc;refine⟨_,_,[.slice te.size (some (s1.length,0)) len],I2,G1.trans G2,.inr ⟨_,len,ds,rfl,Do,hl,AC,λj hj=>(hr j hj).mono G2.st⟩,?_⟩;rw[fH];exact .cons _ _ _ _ (.slice _ _ 0 _ ⟨a.block,a.off,cap*C.P.cellsOf e⟩ a cap (lY _ _ _) NA Fd) .nil
   |struct fs=>
    simp only at ht;cases mo:rG (j8 C.P f0) C.P fs.toList 0 with
    |none=>rw[mo]at ht;cases ht
    |some y=>
     rw[mo]at ht;simp only at ht;cases bS:Nat.beq y.size (C.P.cellsOf t)with
     |false=>rw[bS]at ht;cases ht
     |true=>
      rw[bS]at ht;cases ht;have bS:=cO bS;have⟨xs,n,hn,_,eu,rV,iT⟩:=DataW.trod_struct hu h;cases hn;have⟨s',ψ',ds,I',G',r',v'⟩:=ZkX (enc:=enc) (fuel:=fuel) (g:=j8 C.P f0) (λt ty cs x s ψ h1 h2 h3 h4=>Eo fuel f0 t ty cs x s ψ h1 h2 h3 h4) hm fs.toList 0 ty s ψ mo (λf hf=>by
       have⟨i,hi⟩:=xr hf;rw[iE]at hi;rw[iT i f hi];grind) I
      rw[eG,dJ AC]at v';grind
   |array m e=>
    simp only at ht;cases ny:j8 C.P f0 e with
    |none=>rw[ny]at ht;cases ht
    |some te=>
     rw[ny]at ht;simp only at ht;cases bS:Nat.beq te.size (C.P.cellsOf e)&&Nat.beq (m*te.size) (C.P.cellsOf t)with
     |false=>rw[bS]at ht;cases ht
     |true=>
      rw[bS]at ht;cases ht;rw[aZ]at bS;have h1:=cO bS.1;have h2:=cO bS.2;have⟨xs,n,hn,_,eu,rV,iT⟩:=DataW.trod_array hu h;cases hn;have⟨s',ψ',ds,I',G',r',v'⟩:=Zow (enc:=enc) (fuel:=fuel) (g:=j8 C.P f0) (λt ty cs x s ψ h1 h2 h3 h4=>Eo fuel f0 t ty cs x s ψ h1 h2 h3 h4) hm ny h1 m 0 s ψ (λi hi=>by
       rw[ei,iT i hi];grind) I
      rw[vA,eG,dJ (by rw[Kr];omega)]at v';grind
   |_=>cases ht
end
open Go.RowKit Go.ChangeShapes Go.WideShapes
def Dq (s:St):List (Bool×Ty)->af->Prop
 |[],args=>args=[]
 |(ag,ty)::r,args=>∃cs d rest,Rd s ty cs/\Dq s r rest/\args=d::rest/\(bif ag then d= .agg cs else cs=[d])
def Frz (s:St):Prop:=∀(i:Nat) (b:Option aH),s[i]? =some b->∃cs,b=some ⟨true,cs⟩
section
variable {C:aY} {H:Type} {enc:TypeId×Value->H} {W:World}
theorem QN {cs:Array Value} :Cell.okWide P W r base t (.agg cs)->False:=by
 simp[Cell.okWide,Cell.ok]
theorem Zqw {cs:Array Value} :Cell.okWide P W r base t (.tuple cs)->False:=by
 simp[Cell.okWide,Cell.ok]
theorem Zqu {a:Addr} {l:Nat} :Cell.okWide P W r base t (.slice (some a) l c)->0<W.heap.size:=by
 have fin: ∀e,World.has P W r base a e c->0<W.heap.size:=by
  rintro e ⟨_,_,row,cells,hs,_⟩;grind[World.shape?]
 unfold Cell.okWide Cell.ok;grind
theorem ZqY (h:Value.okWide C.P W .any base t v):Mem W v.cells.toList:=by
 unfold Value.okWide at h;have row: ∀ {cs:Array Value},Row.okWide C.P W .any base t cs->Mem W cs.toList:=by
  rintro cs ⟨ts,_,_,h⟩ v hv a l c e;have⟨i,hi⟩:=xr hv;rw[iE]at hi;have⟨u,_,hc⟩:=h i v hi;subst e;exact Zqu hc
 have plain:Cell.okWide C.P W .any base t v->Mem W v.cells.toList:=by
  intro h x hx a l c e;cases v with
  |agg cs=>exact(QN h).elim
  |tuple cs=>exact(Zqw h).elim
  |_=>
   simp only[Value.cells,cA]at hx;subst hx
   first|(cases e;done)|(cases e;exact Zqu h)
 cases hu:C.P.underlying t with
 |none=>rw[hu]at h;exact plain h
 |some d=>
  rw[hu]at h;cases d with
  |struct fs=>
   obtain⟨cs,rfl,_,h⟩:=h;exact row h
  |array n e=>
   obtain⟨cs,rfl,_,h⟩:=h;exact row h
  |_=>exact plain h
theorem ZpK (h:Value.okWide C.P W .any base t v):(ZW C.P t=true/\∃cs,v= .agg cs)\/(ZW C.P t=false/\v.cells= #[v]):=by
 unfold Value.okWide at h;have plain:Cell.okWide C.P W .any base t v->v.cells= #[v]:=by
  intro h;cases v with
  |agg cs=>exact(QN h).elim
  |tuple cs=>exact(Zqw h).elim
  |_=>rfl
 grind[ZW]
theorem ZoF {base:Nat} : ∀(ts:List TypeId) (tys:List (Bool×Ty)) (vs:List Value) (ds:List (DataW H)) (p:List MemPlace) (s:St) (ψ:Ps),ts.map (λt=>(j8 C.P 20 t).map λty=>(ZW C.P t,ty))=tys.map some->
  DataW.TrodAll enc C.P W 0 (λ_=>true) true ts vs ds p->(∀(j:Nat) t v,ts[j]? =some t->vs[j]? =some v->Value.okWide C.P W .any base t v)->OI C W s ψ->
  ∃s' ψ' args,OI C W s' ψ'/\OG s s' ψ ψ'/\Dq s' tys args/\ba C ψ' args vs
 |[],tys,vs,ds,p,s,ψ,mw,h,_,I=>by
  cases tys with
  |cons _ _=>cases mw
  |nil=>
   obtain⟨rfl,_,_⟩:=trodAll_nil h;exact⟨s,ψ,[],I,.refl s ψ,rfl,.nil⟩
 |t::ts,tys,vs,ds,p,s,ψ,mw,h,gT,I=>by
  cases tys with
  |nil=>cases mw
  |cons x tys=>
   simp only[pC,List.cons.injEq]at mw;obtain⟨hx,mw⟩:=mw;obtain⟨v,gx,d,ji,p1,q1,rfl,rfl,rfl,h1,h2⟩:=trodAll_cons h;have hv:=gT 0 t v rfl rfl;have⟨fuel,hf⟩:=h1;cases ht:j8 C.P 20 t with
   |none=>rw[ht]at hx;cases hx
   |some ty=>
    rw[ht]at hx;cases hx;have⟨s1,fT,cs,I1,G1,r1,v1⟩:=Eo fuel 20 t ty _ _ s ψ ht hf (ZqY hv) I;have⟨s2,ij,args,I2,G2,r2,v2⟩:=ZoF ts tys gx ji q1 s1 fT mw h2 (λj t v a b=>gT (j+1) t v (by simpa using a) (by simpa using b)) I1;rcases ZpK hv with⟨gp,c,rfl⟩|⟨gp,hc⟩
    .refine⟨s2,ij,.agg cs::args,I2,G1.trans G2,⟨cs,_,args,r1.mono G2.st,r2,rfl,by rw[gp];rfl⟩,.cons _ _ _ _ (.agg _ _ ?_ r1.one) v2⟩
     exact v1.mono λ_ _ e=>G2.ps _ _ e
    .rw[hc]at v1
     cases v1 with
     |cons d0 _ _ _ a b=>
      cases b;exact⟨s2,ij,d0::args,I2,G1.trans G2,⟨[d0],d0,args,r1.mono G2.st,r2,rfl,by rw[gp];rfl⟩,.cons _ _ _ _ (a.mono λ_ _ e=>G2.ps _ _ e) v2⟩
theorem law_calls {Bd:Ze} (hO: ∀n,ZI C (run Bd n)) {fn:Func} (qi:C.cov f=true) (hfn:C.P.funcs[f]? =some fn) (mq:(fn.name== "runtime.NumGoroutine")=false) (PG:fn.body.isSome=true) (I0:OI C W s0 fS) (hg:Glob C fS)
  {tys:List (Bool×Ty)} (mw:fn.params.toList.map (λt=>(j8 C.P 20 t).map λty=>(ZW C.P t,ty))=tys.map some)
  (law: ∀s args,Frz s->(∀(i:Nat) (b:Option aH),s0[i]? =some b->s[i]? =some b)->Dq s tys args->∃n s',run Bd n (C.fn f) args s=some (.val [.bool true],s')) {ds:List (DataW H)} {p:List MemPlace} (hval: ∀(j:Nat) t v,fn.params[j]? =some t->args[j]? =some v->Value.okWide C.P W .any base t v)
  (hA:DataW.TrodAll enc C.P W 0 (λ_=>true) true fn.params.toList args ds p):
  Calls C.P f args.toArray W λe W'=>e= .returned (.bool true)/\Below W.heap.size W W':=by
 have⟨s,ψ,dv,I,G,hr,hv⟩:=ZoF (enc:=enc) fn.params.toList tys args ds p s0 fS mw hA (λj t v a b=>hval j t v (by rw[<-iE];exact a) b) I0;have⟨n,s',cm⟩:=law s dv I.jS G.st hr;have Wc: ∀ {h:cJ} {ab:AB},CS s h ab->ab.fq=false:=by
  rintro h ab ⟨i,rfl,e⟩;unfold cu at e;cases hi:s[i]? with
  |none=>rw[hi]at e;cases e
  |some b=>
   obtain⟨cs,rfl⟩:=I.jS i b hi;rw[hi]at e;simp only[eO]at e;subst e;rfl
 have dD:dN C ψ (CS s) W:=by
  constructor
  .rintro h cb ab e ⟨i,rfl,q⟩
   exact I.hold i cb ab e q
  grind
 have eS:mP ψ W:=by
  intro h cb e;cases h with
  |inl i=>exact I.eS i cb e
  |inr v=>rw[I.On v]at e;cases e
 have:=(hO n (C.fn f) dv s _ cm).2 f qi rfl ψ W args dD eS (λg e=>let ⟨cb,h1,h2⟩:=hg g e;⟨cb,G.ps _ _ h1,h2⟩) hv I.On (λi h1 _=>I.fresh i h1);unfold sR at this;have qu: ¬fn.name= "runtime.NumGoroutine" :=by simpa using mq
 have wA:(callFunc f args.toArray).run C.P W= .ok (.enter f args.toArray) W:=by
  cases hb:fn.body with
  |none=>rw[hb]at PG;cases PG
  |some c=>simp[callFunc,hfn,qu,hb]
 rw[wA]at this;refine Calls.mono this λe W' he=>?_
 cases e with
 |returned v=>
  have⟨ji,e1,ψ',hp,Qp⟩:=he;cases e1;refine⟨?_,hp.ext.os,hp.ext.tape,hp.ext.output.1,hp.ext.size,λk hk=>hp.ext.gU k hk ?_⟩
  .rcases Qp with⟨d,e,r⟩|⟨hl,_⟩
   .cases e
    cases r;rfl
   .exact absurd rfl hl
  .rintro⟨h,cb,ab,_,q,hs,_⟩
   rw[Wc q]at hs;cases hs
 |panicked ch=>grind
 |outgrown=>exact he.elim
theorem Zjs (hl:laidOutB C.P=true) {W':World} (hb:Below W.heap.size W W'): ∀(ts:List TypeId) (vs:List Value) (ds:List (DataW H)) (p:List MemPlace),(∀t∈ts,C.P.readableRec t=true/\t<C.P.types.size)->
  DataW.TrodAll enc C.P W 0 (λ_=>true) true ts vs ds p->DataW.TrodAll enc C.P W' 0 (λb=>decide (b<W.heap.size)) true ts vs ds p
 |[],vs,ds,p,_,h=>by
  obtain⟨rfl,rfl,rfl⟩:=trodAll_nil h;exact trodAll_mk0
 |t::ts,vs,ds,p,hr,h=>by
  obtain⟨v,gx,d,ji,p1,q1,rfl,rfl,rfl,h1,h2⟩:=trodAll_cons h;have lt: ∀x∈p1,x.block<W.heap.size:=by have⟨m,hm⟩:=h1;exact DataW.trod_lt m _ _ _ hm
  exact trodAll_cons_mk (Below.trod hl (hr t Do).1 (hr t Do).2 h1 hb lt) (Zjs hl hb ts gx ji q1 Fd h2)
theorem ZkI: ∀(ts:List TypeId) (vs:List Value) (ds:List (DataW H)) (p:List MemPlace) {P:Program} {spare:Nat->Bool},DataW.TrodAll enc P W 0 spare true ts vs ds p->ds.length=ts.length
 |[],vs,ds,p,_,_,h=>by obtain⟨rfl,rfl,rfl⟩:=trodAll_nil h;rfl
 |t::ts,vs,ds,p,_,_,h=>by
  obtain⟨v,gx,d,ji,p1,q1,rfl,rfl,rfl,_,h2⟩:=trodAll_cons h;simp[ZkI ts gx ji q1 h2]
end
mutual
def lits {H:Type} :DataW H->List Lit
 | .lit l=>[l]
 | .agg ps=>tQ ps
 |_=>[]
def tQ {H:Type} :List (DataW H)->List Lit
 |[]=>[]
 |d::r=>lits d++tQ r
end
def Bz:Lit->DV
 | .bool b=> .bool b
 | .int k n=> .int k n
 | .string s=> .str s
 |_=> .nilIface
def Ty.flat:Ty->Bool
 | .sl _=>false
 | .pr x y=>x.flat&&y.flat
 |_=>true
def yL (d:DataW H):af:=(lits d).map Bz
section
variable {C:aY} {w:World} {H:Type} {enc:TypeId×Value->H} {base:Nat} {sp:Nat->Bool} {held:Bool}
theorem ZkM {fuel:Nat} {g:TypeId->Option Ty} {cs:List Value}
  (ih: ∀(t:TypeId) (ty:Ty) (cs:List Value) (x:DataW H×List MemPlace),g t=some ty->ty.flat=true->DataW.trod enc C.P w base sp held fuel t cs=some x->∀ψ,ba C ψ (yL x.1) cs):
  ∀(fs:List Field) (ys:List (DataW H×List MemPlace)) (o:Nat) (ty:Ty),rG g C.P fs o=some ty->ty.flat=true->ys.length=fs.length->
  (∀(i:Nat) (f:Field),fs[i]? =some f->DataW.trod enc C.P w base sp held fuel f.type ((cs.drop f.offset).take (C.P.cellsOf f.type))=ys[i]?)->∀ψ,ba C ψ ((tQ (ys.map (·.1))).map Bz) ((cs.drop o).take ty.size)
 |[],ys,o,ty,h,_,hl,_,ψ=>by
  cases h;cases vv hl;simp[Ty.size,tQ];exact .nil
 |f::fs,[],o,ty,_,_,hl,_,_=>by cases hl
 |f::fs,z::ys,o,ty,h,iz,hl,hf,ψ=>by
  simp only[rG]at h;cases ho:Nat.beq f.offset o with
  |false=>rw[ho]at h;cases h
  |true=>
   rw[ho]at h;simp only[aa]at h;cases hg:g f.type with
   |none=>rw[hg]at h;cases h
   |some x=>
    rw[hg]at h;simp only at h;cases hs:Nat.beq x.size (C.P.cellsOf f.type)with
    |false=>rw[hs]at h;cases h
    |true=>
     rw[hs]at h;simp only[aa]at h;cases hr:rG g C.P fs (o+x.size)with
     |none=>rw[hr]at h;cases h
     |some y=>
      rw[hr]at h;cases h;simp only[Ty.flat,aZ]at iz;have ho:=cO ho;have hs:=cO hs;have v1:=ih f.type x _ z hg iz.1 (hf 0 f rfl) ψ;have v2:=ZkM ih fs ys (o+x.size) y hr iz.2 (by simpa using hl) (λi f' h'=>hf (i+1) f' h') ψ;rw[show Ty.size (.pr x y)=x.size+y.size from rfl,List.take_add,kd];rw[ho,<-hs]at v1;rw[pC,tQ,fb];exact v1.append v2
theorem ZoU {fuel:Nat} {g:TypeId->Option Ty} {cs:List Value}
  (ih: ∀(t:TypeId) (ty:Ty) (cs:List Value) (x:DataW H×List MemPlace),g t=some ty->ty.flat=true->DataW.trod enc C.P w base sp held fuel t cs=some x->∀ψ,ba C ψ (yL x.1) cs)
  {e:TypeId} {x:Ty} (hg:g e=some x) (iz:x.flat=true) (hs:x.size=C.P.cellsOf e): ∀(m k:Nat) (ys:List (DataW H×List MemPlace)),ys.length=m->
  (∀i,i<m->DataW.trod enc C.P w base sp held fuel e ((cs.drop ((k+i)*C.P.cellsOf e)).take (C.P.cellsOf e))=ys[i]?)->∀ψ,ba C ψ ((tQ (ys.map (·.1))).map Bz) ((cs.drop (k*x.size)).take (lJ x m).size)
 |0,k,ys,hl,_,ψ=>by
  cases vv hl;simp[Ty.size,tQ,lJ];exact .nil
 |m+1,k,[],hl,_,_=>by cases hl
 |m+1,k,z::ys,hl,hf,ψ=>by
  have v1:=ih e x _ z hg iz (hf 0 AC) ψ;have v2:=ZoU ih hg iz hs m (k+1) ys (by simpa using hl) (λi hi=>by have:=hf (i+1) AC;rwa [show k+(i+1)=k+1+i by omega]at this) ψ;rw[show(lJ x (m+1)).size=x.size+(lJ x m).size from rfl,List.take_add,kd];rw[dK,<-hs]at v1;rw[xD]at v2;rw[pC,tQ,fb];exact v1.append v2
theorem ZpJ {x:Ty} : ∀ {m:Nat},(lJ x m).flat=true->0<m->x.flat=true
 |0,_,h=>absurd h (Nat.lt_irrefl _)
 |m+1,h,_=>by simp only[lJ,Ty.flat,aZ]at h;exact h.1
theorem KJ: ∀(fuel f0:Nat) (t:TypeId) (ty:Ty) (cs:List Value) (x:DataW H×List MemPlace),j8 C.P f0 t=some ty->ty.flat=true->DataW.trod enc C.P w base sp held fuel t cs=some x->∀ψ,ba C ψ (yL x.1) cs
 |0,_,t,_,cs,x,_,_,h=>by simp[DataW.trod]at h
 |fuel+1,0,t,ty,cs,x,ht,_,_=>by cases ht
 |fuel+1,f0+1,t,ty,cs,x,ht,iz,h=>by
  intro ψ;simp only[j8]at ht;cases hu:C.P.underlying t with
  |none=>rw[hu]at ht;cases ht
  |some td=>
   rw[hu]at ht;cases td with
   |bool=>obtain⟨b,rfl,rfl⟩:=DataW.trod_bool hu h;exact .cons _ _ _ _ (.bool b) .nil
   |int k=>obtain⟨n,rfl,rfl,_⟩:=DataW.trod_int hu h;exact .cons _ _ _ _ (.int k n) .nil
   |string=>obtain⟨l,rfl,rfl,_⟩:=DataW.trod_string hu h;exact .cons _ _ _ _ (.str l) .nil
   |slice e=>
    simp only at ht;cases ny:j8 C.P f0 e with
    |none=>rw[ny]at ht;cases ht
    |some te=>
     rw[ny]at ht;simp only at ht;cases bS:Nat.beq te.size (C.P.cellsOf e)&&Nat.blt 0 te.size with
     |false=>rw[bS]at ht;cases ht
     |true=>rw[bS]at ht;cases ht;cases iz
   |struct fs=>
    simp only at ht;cases mo:rG (j8 C.P f0) C.P fs.toList 0 with
    |none=>rw[mo]at ht;cases ht
    |some y=>
     rw[mo]at ht;simp only at ht;cases bS:Nat.beq y.size (C.P.cellsOf t)with
     |false=>rw[bS]at ht;cases ht
     |true=>
      rw[bS]at ht;cases ht;have bS:=cO bS;obtain⟨xs,n,hn,rfl,eu,rV,iT⟩:=DataW.trod_struct hu h;cases hn;have v':=ZkM (C:=C) (w:=w) (enc:=enc) (cs:=cs) (λt ty cs x h1 h2 h3=>KJ fuel f0 t ty cs x h1 h2 h3) fs.toList xs 0 ty mo iz (by rw[rV,kG]) Fd ψ;rw[eG,dJ AC]at v';simpa [yL,lits]using v'
   |array m e=>
    simp only at ht;cases ny:j8 C.P f0 e with
    |none=>rw[ny]at ht;cases ht
    |some te=>
     rw[ny]at ht;simp only at ht;cases bS:Nat.beq te.size (C.P.cellsOf e)&&Nat.beq (m*te.size) (C.P.cellsOf t)with
     |false=>rw[bS]at ht;cases ht
     |true=>
      rw[bS]at ht;cases ht;rw[aZ]at bS;have h1:=cO bS.1;have h2:=cO bS.2;obtain⟨xs,n,hn,rfl,eu,rV,iT⟩:=DataW.trod_array hu h;cases hn;have v':ba C ψ ((tQ (xs.map (·.1))).map Bz) cs:=by
       rcases z8 m with h0|h0
       .subst h0
        cases vv rV;rw[vA]at h2;cases vv (eu.trans h2.symm);exact .nil
       .have v':=ZoU (C:=C) (w:=w) (enc:=enc) (cs:=cs) (λt ty cs x h1 h2 h3=>KJ fuel f0 t ty cs x h1 h2 h3) ny (ZpJ iz h0) h1 m 0 xs rV Fd ψ
        rw[vA,eG,dJ (by rw[Kr];omega)]at v';exact v'
      simpa [yL,lits]using v'
   |_=>cases ht
theorem ZoE {P:Program} {n:String} {d:DataW Unit} : ∀ {laid:List (String×DataW Unit)} {ps:List MemPlace},DataW.LaidVars P w laid ps->(n,d)∈laid->
  ∃g t cs fuel p,P.globalNamed n=some g/\(P.globals[g]?).map (·.type)=some t/\w.var? P n=some cs/\DataW.trod (λ_=>()) P w 0 (λ_=>true) false fuel t cs.toList=some (d,p)
 |[],_,_,h=>by cases h
 |(n',d')::r,ps,⟨g,t,cs,fuel,p,q,h1,h2,h3,h4,h5,_⟩,h=>by
  rcases dR.1 h with h|h
  .grind
  .exact ZoE h5 h
def Rj (C:aY) (laid:List (String×DataW Unit)) (tb:St) (g:Nat):Prop:=
 ∃n d t ty,(n,d)∈laid/\C.P.globalNamed n=some g/\(C.P.globals[g]?).map (·.type)=some t/\j8 C.P 20 t=some ty/\ty.flat=true/\tb[C.gl g]? =some (some ⟨true,yL d⟩)
def xf (gs:List (Nat×Nat)) (m:Nat->Nat):Ps
 | .inl i=>(gs.find? λx=>Nat.beq x.2 i).map λx=>⟨x.1,0,m x.1⟩
 | .inr _=>none
theorem ZrU: ∀(l:List Lit),(l.map Bz).all one=true
 |[]=>rfl
 |l::r=>by rw[pC,vu,ZrU r];cases l<;>rfl
theorem tabs_OI (hm:laidMetH C.P laid w) (hp:(laid.all λx=>x.2.handleName?.isNone)=true) (hf: ∀(i:Nat) (b:Option aH),tb[i]? =some b->∃cs,b=some ⟨true,cs⟩)
  (gs:List (Nat×Nat)) (wG: ∀x∈gs,C.gl x.1=x.2/\Rj C laid tb x.1) (W6: ∀g,C.uO g=true->gs.find? (λx=>Nat.beq x.2 (C.gl g))=some (g,C.gl g)):
  ∃ψ,OI C w tb ψ/\Glob C ψ:=by
 rw[MakeChecks.laidMetH_plain _ _ _ hp]at hm;have⟨ps,hv,_,_⟩:=hm;have cell: ∀x∈gs,∃(cs:Array Value) (ds:af) (ty:TypeId) (fr:Nat×Nat),w.heap[x.1]? =some (.cells cs ty fr)/\tb[x.2]? =some (some ⟨true,ds⟩)/\(∀ψ,ba C ψ ds cs.toList)/\ds.all one=true:=by
  intro x hx;have⟨e,n,d,t,ty,h1,h2,h3,h4,h5,h6⟩:=wG x hx;have⟨g,t',cs,fuel,p,k1,k2,k3,k4⟩:=ZoE hv h1;cases h2.symm.trans k1;cases h3.symm.trans k2;have hc: ∃ty fr,w.heap[x.1]? =some (.cells cs ty fr):=by
   simp only[World.var?,k1,Option.bind_some]at k3;grind
  have⟨ty',fr,hc⟩:=hc;exact⟨cs,_,ty',fr,hc,by rw[<-e];exact h6,λψ=>KJ fuel 20 t ty _ _ h4 h5 k4 ψ,ZrU _⟩
 let m:Nat->Nat:=λg=>match w.heap[g]? with
  |some (.cells cs _ _)=>cs.size
  |_=>0
 have U6: ∀i cb,xf gs m (.inl i)=some cb->∃x∈gs,x.2=i/\cb=⟨x.1,0,m x.1⟩:=by
  intro i cb h;simp only[xf,Option.map_eq_some_iff]at h;have⟨x,h1,h2⟩:=h;exact⟨x,List.mem_of_find?_eq_some h1,cO Fd,h2.symm⟩
 refine⟨xf gs m,⟨λi cb ab e q=>?_,λi cb e=>?_,hf,λi hi=>?_,λv=>rfl⟩,λg hg=>⟨⟨g,0,m g⟩,?_,rfl,rfl⟩⟩
 .obtain⟨x,hx,rfl,rfl⟩:=U6 i cb e
  have⟨cs,ds,ty,fr,c1,c2,c3,c4⟩:=cell x hx;unfold cu at q;rw[c2]at q;cases q;have hl:=(c3 (xf gs m)).len;refine⟨?_,c4,λj d hd=>?_,λh=>by cases h⟩
  .grind
  .have⟨v,hv,hr⟩:=(c3 (xf gs m)).get hd
   refine⟨v,?_,hr⟩;simp only[World.cell?,c1,ei];rw[<-iE];exact hv
 .grind
 .cases h:xf gs m (.inl i)with
  |none=>rfl
  |some cb=>
   grind
 grind[xf]
end
open Go.RowKit Go.ChangeShapes Go.WideShapes
theorem law_lifted_laid {C:aY} {Ck:Checked} (qh:C.P=Ck.prog) {os:Os} (started:os.Started) {fn:Func} {s:ChangeSpec} {enc:TypeId×Value->H}
  (own:ownKnob Ck.prog.godebug=none) (Wb:Ck.prog.inits.idxOf? f=none) (hfn:Ck.prog.funcs[f]? =some fn) (laidOut:laidOutB Ck.prog=true)
  (Qz:s.vars=[]) (Cp:fn.resultTypes= #[rt]) (Gh:Ck.prog.underlying rt=some .bool) (Xh:fn.params.toList.all (λt=>Ck.prog.readableRec t&&decide (t<Ck.prog.types.size))=true)
  (NX: ∀ds:List (DataW H),ds.length=fn.params.size->(s.fn H ds).results=[.lit (.bool true)]/\(s.fn H ds).args=ds/\(s.fn H ds).vars=[])
  (witness: ∃(w:World) (tape:Tape) (i:Input),w.os=os/\(w.forCall tape i).Shaped Ck.prog/\i.vars=[]/\Input.okWide Ck.prog (w.forCall tape i) .any w.heap.size f i/\
   ((s.pre enc Ck.prog fn [] false (w.forCall tape i).memory i.args/\laidMetH Ck.prog laid (w.forCall tape i).memory)/\sizedMet enc Ck.prog fn (OpenSpec.ofChange s) false (w.forCall tape i).memory i.args)/\
   ({} :Assume).holds Ck.prog (lone (Frame.enter Ck.prog f i.args .normal) [] (w.forCall tape i)))
  (calls: ∀(W:World) (args:List Value) (ds:List (DataW H)) (p:List MemPlace) (base:Nat),laidMetH C.P laid W->(∀(j:Nat) t v,fn.params[j]? =some t->args[j]? =some v->Value.okWide C.P W .any base t v)->
   DataW.TrodAll enc C.P W 0 (λ_=>true) true fn.params.toList args ds p->Calls C.P f args.toArray W λe W'=>e= .returned (.bool true)/\Below W.heap.size W W'):
  ReturnsInHanded {} Ck os f .any (λw args=>(s.pre enc Ck.prog fn [] false w args/\laidMetH Ck.prog laid w)/\sizedMet enc Ck.prog fn (OpenSpec.ofChange s) false w args) (s.post enc Ck.prog fn false true false false):=by
 refine returnsInHanded_of_change_and (C:=Ck) (X:=λw _=>laidMetH Ck.prog laid w) (λ_ _ _ hh h=>h.of_heap hh) own started Wb hfn witness ?_;intro W base args ds gs before hval hW _ _ hL _;have hW':=hW;obtain⟨p,q,hA,hV,rfl,jV,jC⟩:=hW;rw[Qz]at hV;obtain⟨rfl,rfl⟩:=trodVars_none hV;have hlen:=ZkI _ _ _ _ hA;rw[kG]at hlen;have⟨h1,h2,h3⟩:=NX ds hlen;have hc:=calls W args.toList ds p base (by rw[qh];exact hL) (λj t v a b=>by rw[qh];grind) (by rw[qh];exact hA);rw[qh]at hc;refine Calls.mono hc λe W' ⟨he,bel⟩=>?_
 subst he;refine⟨_,rfl,ds,[],_,[],p,[],hW',?_,?_,?_,bel.frame _,λh=>by cases h⟩
 .rw[gE,h1,Cp]
  exact trodAll_mk1 (shut_bool Gh _)
 .rw[gE,h2]
  have hr: ∀t∈fn.params.toList,C.P.readableRec t=true/\t<C.P.types.size:=by
   rw[qh];grind
  have:=Zjs (C:=C) (enc:=enc) (by rw[qh];exact laidOut) bel fn.params.toList args.toList ds p hr (by rw[qh];exact hA);rw[qh]at this;exact this
 .rw[gE,h3,Qz];rfl
theorem has_all {P:Nat->Bool} : ∀ {l:al},l.all P=true->∀g,has l g=true->P g=true
 |[],_,g,h=>by cases h
 |a::l,hl,g,h=>by
  rw[vu,aZ]at hl;simp only[has,kb]at h;rcases h with h|h
  .rw[<-cO h];exact hl.1
  .exact has_all hl.2 g h
theorem noStandIn {fn:Func} {l:List TypeId} (hp:fn.params.toList=l) (h:l.all (λu=> !P.wantsStandIn u)=true): ∀(j:Nat) t,fn.params[j]? =some t->P.wantsStandIn t=false:=by
 grind
set_option maxRecDepth 20000
def Wv:af:=[.str [98,101,103,105,110],.str [],.int .i64 1,.str [99,111,109,109,105,116],.str [],.int .i64 2,.str [97,98,111,114,116],.str [],.int .i64 3,.str [110,101,119],.str [110],.int .i64 4,.str [100,114,111,112],.str [110],.int .i64 5,.str [112,117,116],.str [110,107,118],.int .i64 6,.str [109,105,110],.str [110],.int .i64 7,.str [112,111,112],.str [110],.int .i64 8,.str [108,111,119,101,114],.str [110,104,107],.int .i64 9,.str [99,117,116],.str [110,104],.int .i64 10,.str [109,101,108,100],.str [110,111],.int .i64 11,.str [103,101,116],.str [104],.int .i64 12,.str [108,101,110],.str [110],.int .i64 13,.str [108,105,115,116],.str [110],.int .i64 14,.str [110,97,109,101,115],.str [],.int .i64 15,.str [97,114,109],.str [118],.int .i64 16,.str [112,108,97,110],.str [42],.int .i64 17,.str [99,114,97,115,104],.str [42],.int .i64 18,.str [99,104,101,99,107],.str [],.int .i64 19,.str [101,112,111,99,104],.str [],.int .i64 20]
def Ww:af:=[.int .u64 1,.int .u64 10,.int .u64 100,.int .u64 1000,.int .u64 10000,.int .u64 100000,.int .u64 1000000,.int .u64 10000000,.int .u64 100000000,.int .u64 1000000000,.int .u64 10000000000,.int .u64 100000000000,.int .u64 1000000000000,.int .u64 10000000000000,.int .u64 100000000000000,.int .u64 1000000000000000,.int .u64 10000000000000000,.int .u64 100000000000000000,.int .u64 1000000000000000000,.int .u64 10000000000000000000]
def GV:af:=[.int .u8 0,.int .u8 1,.int .u8 56,.int .u8 2,.int .u8 57,.int .u8 49,.int .u8 28,.int .u8 3,.int .u8 61,.int .u8 58,.int .u8 42,.int .u8 50,.int .u8 38,.int .u8 29,.int .u8 17,.int .u8 4,.int .u8 62,.int .u8 47,.int .u8 59,.int .u8 36,.int .u8 45,.int .u8 43,.int .u8 51,.int .u8 22,.int .u8 53,.int .u8 39,.int .u8 33,.int .u8 30,.int .u8 24,.int .u8 18,.int .u8 12,.int .u8 5,.int .u8 63,.int .u8 55,.int .u8 48,.int .u8 27,.int .u8 60,.int .u8 41,.int .u8 37,.int .u8 16,.int .u8 46,.int .u8 35,.int .u8 44,.int .u8 21,.int .u8 52,.int .u8 32,.int .u8 23,.int .u8 11,.int .u8 54,.int .u8 26,.int .u8 40,.int .u8 15,.int .u8 34,.int .u8 20,.int .u8 31,.int .u8 10,.int .u8 25,.int .u8 14,.int .u8 19,.int .u8 9,.int .u8 13,.int .u8 8,.int .u8 7,.int .u8 6]
def Wx:af:=[.int .u8 0,.int .u8 1,.int .u8 28,.int .u8 2,.int .u8 29,.int .u8 14,.int .u8 24,.int .u8 3,.int .u8 30,.int .u8 22,.int .u8 20,.int .u8 15,.int .u8 25,.int .u8 17,.int .u8 4,.int .u8 8,.int .u8 31,.int .u8 27,.int .u8 13,.int .u8 23,.int .u8 21,.int .u8 19,.int .u8 16,.int .u8 7,.int .u8 26,.int .u8 12,.int .u8 18,.int .u8 6,.int .u8 11,.int .u8 5,.int .u8 10,.int .u8 9]
def Wy:af:=Go.Pinned.utf8FirstZ.map λn:Nat=>DV.int .u8 (Int.ofNat n)
def Wz:af:=[.int .u8 128,.int .u8 191,.int .u8 160,.int .u8 191,.int .u8 128,.int .u8 159,.int .u8 144,.int .u8 191,.int .u8 128,.int .u8 143,.int .u8 0,.int .u8 0,.int .u8 0,.int .u8 0,.int .u8 0,.int .u8 0,.int .u8 0,.int .u8 0,.int .u8 0,.int .u8 0,.int .u8 0,.int .u8 0,.int .u8 0,.int .u8 0,.int .u8 0,.int .u8 0,.int .u8 0,.int .u8 0,.int .u8 0,.int .u8 0,.int .u8 0,.int .u8 0]
def tabs:St:=[some ⟨true,Wv⟩,some ⟨true,Ww⟩,some ⟨true,GV⟩,some ⟨true,Wx⟩,some ⟨true,Wy⟩,some ⟨true,Wz⟩]
theorem tabs_frz: ∀(i:Nat) (b:Option aH),tabs[i]? =some b->∃cs,b=some ⟨true,cs⟩:=by
 grind[tabs]
end Go.Gv
