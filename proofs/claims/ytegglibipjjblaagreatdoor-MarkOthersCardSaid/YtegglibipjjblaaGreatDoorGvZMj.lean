/- The program's walk and the document's: what is taken, and blocks by kind. No program in sight. -/
import Derived.Test.YtegglibipjjblaaGreatDoorGvZMi
import Derived.Test.YtegglibipjjblaaGreatDoorGvZMg
import Derived.Test.YtegglibipjjblaaGreatDoorGvZMf
set_option linter.all false
namespace Go.Gv.F
open Go.Gv
def eB (m:Nat):al->ak->Bool
 |_,[]=>true
 |W,k::r=>ft m W k&&eB m (bU m W k) r
variable {k u y:Int} {es gR out:List bc} {c d m n p:Nat} {im img l:aj} {gB ks pg r:ak} {W:al} {K:bR} {e:bc} {v:bg}
theorem ZrQ {a:Int} (hl:W.length=(m+63)/64) (ha:ft m W a=true):ft m (bU m W a) k=(ft m W k&& !decide (k=a)):=by
 unfold ft at ha⊢;rw[ya hl];grind
theorem G4 {m:Nat} : ∀ {ks:ak} {W:al},W.length=(m+63)/64->(eB m W ks=true↔ks.Nodup/\∀k∈ks,ft m W k=true)
 |[],W,_=>by simp[eB]
 |a::r,W,hl=>by
  unfold eB;rw[aW,zg,G4 (by rw[tJ];exact hl)];constructor
  .rintro⟨h1,h2,h3⟩
   have h4: ∀k∈r,ft m W k=true/\k≠a:=λk hk=>by
    have:=h3 k hk;rw[ZrQ hl h1,aW,lL,wg]at this;exact this
   grind
  .rintro⟨⟨h1,h2⟩,h3⟩
   have h4:=h3 a sb;refine⟨h4,h2,λk hk=>?_⟩;rw[ZrQ hl h4,h3 k (wb _ hk),dx,lL,wg];grind
theorem zR {m:Nat} : ∀(a b:ak) (W:al),eB m W (a++b)=(eB m W a&&eB m (a.foldl (bU m) W) b)
 |[],_,_=>rfl
 |k::a,b,W=>by
  show(ft m W k&&eB m (bU m W k) (a++b))=((ft m W k&&eB m (bU m W k) a)&&_);rw[zR a b,Bool.and_assoc];rfl
theorem Zq9 {a b:ak} (hl:W.length=(m+63)/64) (h:a.Perm b):eB m W a=eB m W b:=by
 rw[lg,G4 hl,G4 hl,h.nodup_iff];grind
theorem Zuw (m:Nat) (W:al) (a b:Int):bU m (bU m W a) b=bU m (bU m W b) a:=by
 unfold bU;cases fT m a<;>cases fT m b<;>simp only[ae,af]
 refine qH λi=>?_
 grind
theorem ZpW {a b:ak} (h:a.Perm b): ∀(W:al),a.foldl (bU m) W=b.foldl (bU m) W:=by
 induction h with
 |nil=>exact λ_=>rfl
 |cons x _ ih=>exact λW=>ih _
 |swap x y l=>exact λW=>by simp only[Df,Zuw m W y x]
 |trans _ _ i1 i2=>grind
theorem ZsT (hl:W.length=(m+63)/64) (h:eB m W ks=true):ks.length<=m:=by
 obtain⟨h1,h2⟩:=(G4 hl).1 h;have:=BI (m:=ZP 0 m) h1 λk hk=>by
  grind[ft,fT,ZP]
 grind[ZP]
def xx (l:aj):Nat:=match gf l with
 |none=>0
 |some (k,_,_)=>k
theorem Ln {x:jj} (h:iD l=some x):xx l=1:=by
 grind[iD,xx]
theorem La {x:List bw} (h:ZJ l=some x):xx l=2:=by
 grind[ZJ,xx]
theorem SZ {x:ak} (h:Z3 l=some x):xx l=3:=by
 grind[Z3,xx]
theorem ZvE {x:ZC} (h:ZF l=some x):xx l=5:=by
 grind[ZF,xx]
theorem Zx8 {x:ak} (h:kQ l=some x):xx l=6:=by
 grind[kQ,xx]
theorem W4 {x:jj} :ZX l= .node x↔iD l=some x:=by
 grind[ZX]
theorem W3 {x:List bw} :ZX l= .leaf x↔ZJ l=some x:=by
 unfold ZX;cases h1:iD l with
 |some y=>
  cases h2:ZJ l with
  |none=>simp
  |some z=>have:=Ln h1;rw[La h2]at this;cases this
 |none=>cases h2:ZJ l<;>cases h3:Z3 l<;>cases h4:ZF l<;>cases h5:kQ l<;>simp
theorem Ly {x:ak} :ZX l= .bY x↔Z3 l=some x:=by
 unfold ZX;cases h3:Z3 l with
 |none=>cases h1:iD l<;>cases h2:ZJ l<;>cases h4:ZF l<;>cases h5:kQ l<;>simp
 |some z=>
  have hk:=SZ h3;cases h1:iD l with
  |some y=>rw[Ln h1]at hk;cases hk
  |none=>
   cases h2:ZJ l with
   |some y=>rw[La h2]at hk;cases hk
   |none=>simp
theorem W5 {x:ZC} :ZX l= .queue x↔ZF l=some x:=by
 unfold ZX;cases h4:ZF l with
 |none=>cases h1:iD l<;>cases h2:ZJ l<;>cases h3:Z3 l<;>cases h5:kQ l<;>simp
 |some z=>
  have hk:=ZvE h4;cases h1:iD l with
  |some y=>rw[Ln h1]at hk;cases hk
  |none=>
   cases h2:ZJ l with
   |some y=>rw[La h2]at hk;cases hk
   |none=>
    cases h3:Z3 l with
    |some y=>rw[SZ h3]at hk;cases hk
    |none=>simp
theorem W2 {x:ak} :ZX l= .dir x↔kQ l=some x:=by
 unfold ZX;cases h5:kQ l with
 |none=>cases h1:iD l<;>cases h2:ZJ l<;>cases h3:Z3 l<;>cases h4:ZF l<;>simp
 |some z=>
  have hk:=Zx8 h5;cases h1:iD l with
  |some y=>rw[Ln h1]at hk;cases hk
  |none=>
   cases h2:ZJ l with
   |some y=>rw[La h2]at hk;cases hk
   |none=>
    cases h3:Z3 l with
    |some y=>rw[SZ h3]at hk;cases hk
    |none=>
     cases h4:ZF l with
     |some y=>rw[ZvE h4]at hk;cases hk
     |none=>simp
theorem D1 (hm:64*m<=img.length) (k:Int):iU (img.take (64*m)) k=bif fT m k then some (ZB img k.toNat)else none:=by
 have h1:(img.take (64*m)).length/64=m:=by rw[cV];omega
 unfold iU fT;rw[h1];by_cases hk:0<=k/\k<(m:Int)
 .rw[ba (by omega),aw hk.1,aw hk.2,y9,ae,Yu]
  grind[mL,Dd,Dk]
 grind
theorem D3 (h:ft m W k=true):fT m k=true/\2<=k:=by
 grind[ft]
def kM:Option (List bc×bg)->Option (List bc×bg)->Prop
 |none,none=>True
 |some (a,v),some (b,w)=>a.Perm b/\v=w
 |_,_=>False
theorem kM.refl: ∀a,kM a a
 |none=>trivial
 |some _=>⟨.refl _,rfl⟩
theorem kM.of {a b:Option (List bc×bg)} (h:a=b):kM a b:=h▸kM.refl a
theorem kM.trans: ∀ {a b c:Option (List bc×bg)},kM a b->kM b c->kM a c
 |none,none,_,_,h=>h
 |some _,some _,some _,h,k=>⟨h.1.trans k.1,h.2.trans k.2⟩
theorem Zps {K:bR} : ∀(f:Nat) {a b:List bc} (t:List nb) (v:bg),a.Perm b->kM (jR K f a t v) (jR K f b t v)
 |0,_,_,_,_,_=>trivial
 |_+1,_,_,[],_,h=>⟨h,rfl⟩
 |f+1,a,b,t::r,v,h=>by
  unfold jR;split
  .rename_i x v' _
   cases wx K v' t x with
   |false=>trivial
   |true=>exact Zps f _ _ (h.append_right _)
  .trivial
def iA (K:bR) (v:bg) (bs:ak) (n:Nat):bg:= { v with W:=bs.foldl (bU K.m) v.W,nodes:=v.nodes+(n:Int) }
theorem Zs9 (K:bR) (v:bg) (a b:ak) (i j:Nat):iA K (iA K v a i) b j=iA K v (a++b) (i+j):=by
 grind[iA]
theorem Zwr (K:bR) (v:bg) {a b:ak} (h:a.Perm b) (i:Nat):iA K v a i=iA K v b i:=by
 unfold iA;rw[ZpW h]
theorem KM (u:Int) (l:List bw): ∀(es:List bc) (ns:ak) (gR:List bc) (IN:ak),es.length=ns.length->iO u l (es++gR) (ns++IN)=(iO u l es ns&&iO u l gR IN)
 |[],[],_,_,_=>rfl
 |e::es,n::ns,gR,IN,h=>by
  show(bif js u l e n then iO u l (es++gR) (ns++IN)else false)=((bif js u l e n then iO u l es ns else false)&&_);rw[KM u l es ns gR IN (by simpa using h)];cases js u l e n<;>rfl
def okB (K:bR) (v:bg) (es:List bc) (bs:ak):Bool:=iO K.sup.used v.aK es bs&&eB K.m v.W bs
theorem ZxP (hl:v.W.length=(K.m+63)/64) {bs:ak} (h:es.length=bs.length) (n:Nat):okB K v (es++gR) (bs++gB)=(okB K v gR gB&&okB K (iA K v gB n) es bs):=by
 unfold okB iA;rw[KM _ _ _ _ _ _ h,Zq9 hl (List.perm_append_comm (l₁:=bs) (l₂:=gB)),zR];cases iO K.sup.used v.aK es bs<;>cases iO K.sup.used v.aK gR gB<;>simp
def Jc (K:bR) (im:aj) (d:Nat) (k:Int) (par:bc) (top:Bool) (f:Nat) (out:List bc) (rest:List nb) (v:bg):Option (List bc×bg):=match kF im d k with
 |none=>none
 |some (es,bs)=>bif (bif top then true else eY par (es.headD wT))&&okB K v es bs then jR K (f-es.length) (out++es) rest (iA K v bs es.length)else none
def IH (K:bR) (im:aj) (j:Nat) (x:jj) (f:Nat) (out:List bc) (rest:List nb) (v:bg):Option (List bc×bg):=match jl im j x.kids x.bI with
 |none=>none
 |some (es,bs)=>bif okB K v es bs then jR K (f-es.length) (out++es) rest (iA K v bs es.length)else none
theorem ZwB (hm:64*m<=img.length) (k:Int):sZ (img.take (64*m)) k=bif fT m k then iD (ZB img k.toNat)else none:=by
 unfold sZ;rw[D1 hm];cases fT m k<;>rfl
def TP (K:bR) (im:aj) (d:Nat):Prop:=∀(k:Int) (par:bc) (top:Bool) (f:Nat) (out:List bc) (rest:List nb) (v:bg),v.W.length=(K.m+63)/64->kM (jR K f out (⟨k,d,par,top⟩::rest) v) (Jc K im d k par top f out rest v)
def KP (K:bR) (im:aj) (j:Nat):Prop:=∀(x:jj) (f:Nat) (out:List bc) (rest:List nb) (v:bg),v.W.length=(K.m+63)/64->kM (jR K f out (rG x j++rest) v) (IH K im j x f out rest v)
theorem Sg (hl:v.W.length=(K.m+63)/64) (bs:ak) (n:Nat):(iA K v bs n).W.length=(K.m+63)/64:=(oL K.m bs v.W).1.trans hl
theorem YV (hm:64*K.m<=K.img.length) (h:KP K (K.img.take (64*K.m)) d):TP K (K.img.take (64*K.m)) d:=by
 intro k par top f out rest v hl;cases f with
 |zero=>
  refine kM.of ?_;unfold Jc;cases kF (K.img.take (64*K.m)) d k with
  |none=>rfl
  |some q=>
   obtain⟨es,bs⟩:=q;simp only[Nat.zero_sub];cases(bif top then true else eY par (es.headD wT))&&okB K v es bs<;>rfl
 |succ f=>
 have hL:jR K (f+1) out (⟨k,d,par,top⟩::rest) v=match dP K k v with
  |some (.node x,v')=>bif wx K v' ⟨k,d,par,top⟩ x then jR K f (out++[x.bI]) (rG x x.kids.length++rest) { v' with nodes:=v'.nodes+1 } else none
  |_=>none:=rfl
 rw[hL];unfold Jc kF dP;rw[ZwB hm];cases hf:ft K.m v.W k with
 |false=>
  refine kM.of ?_;cases(bif fT K.m k then iD (ZB K.img k.toNat)else none)with
  |none=>rfl
  |some x=>
   simp only;cases decide (x.kids.length=d)with
   |false=>rfl
   |true=>
    cases jl (K.img.take (64*K.m)) d x.kids x.bI with
    |none=>rfl
    |some q=>
     simp only[ae,okB,eB,hf,fP,Bg,af]
 |true=>
 rw[(D3 hf).1,ae,ae];cases hN:iD (ZB K.img k.toNat)with
 |none=>
  cases hb:ZX (ZB K.img k.toNat)with
  |node x=>rw[W4.1 hb]at hN;cases hN
  |_=>trivial
 |some x=>
  rw[W4.2 hN];simp only;have oh:wx K { v with W:=bU K.m v.W k } ⟨k,d,par,top⟩ x=(decide (x.kids.length=d)&&((bif top then true else eY par x.bI)&&js K.sup.used v.aK x.bI k)):=by
   grind[wx,js,Ed]
  rw[oh];cases hd:decide (x.kids.length=d)with
  |false=>trivial
  |true=>
   have oe:x.kids.length=d:=qL hd;rw[ae,oe,dx];have hk:=h x f (out++[x.bI]) rest { v with W:=bU K.m v.W k,nodes:=v.nodes+1 } ((tJ K.m v.W k).trans hl);unfold IH at hk;cases hT:jl (K.img.take (64*K.m)) d x.kids x.bI with
   |none=>
    rw[hT]at hk;cases(bif top then true else eY par x.bI)&&js K.sup.used v.aK x.bI k with
    |false=>trivial
    |true=>exact hk
   |some q=>
    obtain⟨es,bs⟩:=q;rw[hT]at hk;simp only at hk⊢;have ho:okB K v (x.bI::es) (k::bs)=(js K.sup.used v.aK x.bI k&&okB K { v with W:=bU K.m v.W k,nodes:=v.nodes+1 } es bs):=by
     unfold okB;show((bif js K.sup.used v.aK x.bI k then iO K.sup.used v.aK es bs else false)&&(ft K.m v.W k&&eB K.m (bU K.m v.W k) bs))=_;rw[hf,dx];cases js K.sup.used v.aK x.bI k<;>rfl
    have hu:iA K { v with W:=bU K.m v.W k,nodes:=v.nodes+1 } bs es.length=iA K v (k::bs) (x.bI::es).length:=by
     grind[iA]
    rw[hu,fA]at hk;rw[ho,cO,show f+1-(es.length+1)=f-es.length by omega];show kM _ (bif (bif top then true else eY par x.bI)&&(js K.sup.used v.aK x.bI k&&okB K { v with W:=bU K.m v.W k,nodes:=v.nodes+1 } es bs)then jR K (f-es.length) (out++([x.bI]++es)) rest (iA K v (k::bs) (x.bI::es).length)else none);cases(bif top then true else eY par x.bI)with
    |false=>trivial
    |true=>
     cases js K.sup.used v.aK x.bI k with
     |false=>trivial
     |true=>exact hk
theorem ZvK {K:bR} (hm:64*K.m<=K.img.length): ∀j,KP K (K.img.take (64*K.m)) j
 |0=>λx f out rest v _=>kM.of (by
   unfold IH jl;show jR K f out rest v=jR K (f-0) (out++[]) rest (iA K v [] 0);rw[gA];unfold iA;simp)
 |j+1=>λx f out rest v hl=>by
  have ih:=ZvK hm j;have ht:=YV hm ih (x.kids.getD j 0) x.bI false f out (rG x j++rest) v hl;rw[ZnU,mU];refine ht.trans ?_;unfold IH Jc;rw[P9];cases hT:kF (K.img.take (64*K.m)) j (x.kids.getD j 0)with
  |none=>
   refine kM.of ?_;grind
  |some q=>
   obtain⟨eQ,fI⟩:=q;simp only[af];have hk:=ih x (f-eQ.length) (out++eQ) rest (iA K v fI eQ.length) (Sg hl _ _);unfold IH at hk;cases hS:jl (K.img.take (64*K.m)) j x.kids x.bI with
   |none=>
    rw[hS]at hk;cases eY x.bI (eQ.headD wT)&&okB K v eQ fI with
    |false=>trivial
    |true=>exact hk
   |some q=>
    obtain⟨es,bs⟩:=q;rw[hS]at hk;simp only at hk⊢;show kM _ (match (bif eY x.bI (eQ.headD wT)then some (es++eQ,bs++fI)else none)with
     |none=>none
     |some (es,bs)=>bif okB K v es bs then jR K (f-es.length) (out++es) rest (iA K v bs es.length)else none)
    cases eY x.bI (eQ.headD wT)with
    |false=>trivial
    |true=>
     simp only[dx,ae];rw[ZxP hl (Gp _ _ _ _ _ hS).2.symm eQ.length];cases okB K v eQ fI with
     |false=>trivial
     |true=>
      rw[ae,dx];refine hk.trans ?_;cases okB K (iA K v fI eQ.length) es bs with
      |false=>trivial
      |true=>
       rw[ae,ae,Zs9,Zwr K v (List.perm_append_comm (l₁:=fI) (l₂:=bs)),bA,tk eQ.length,show f-eQ.length-es.length=f-(es.length+eQ.length) by omega,fA];exact Zps _ _ _ (List.perm_append_comm.append_left out)
def EN (K:bR) (v:bg) (acc:List bc):Option (List bc×ak)->Option (List bc×bg)
 |none=>none
 |some (es,bs)=>bif okB K v es bs then some (acc++es,iA K v bs es.length)else none
theorem ZxA (hm:64*K.m<=K.img.length) (d:Nat) (k:Int) (v:bg) (hl:v.W.length=(K.m+63)/64):kM (rW K k d v) (EN K v [] (kF (K.img.take (64*K.m)) d k)):=by
 have h:=YV hm (ZvK hm d) k wT true (K.m+1) [] [] v hl;unfold rW;refine h.trans (kM.of ?_);unfold Jc;cases hT:kF (K.img.take (64*K.m)) d k with
 |none=>rfl
 |some q=>
  obtain⟨es,bs⟩:=q;simp only[EN,ae,dx];cases ho:okB K v es bs with
  |false=>rfl
  |true=>
   unfold okB at ho;rw[aW]at ho;have h1:=ZsT hl ho.2;have h2:=(BD hT).2;rw[show K.m+1-es.length=(K.m-es.length)+1 by omega];rfl
theorem JX {im:aj} : ∀(l:ak) (i:Nat) (es:List bc) (bs:ak),Z4 im i l es bs=(Z4 im i l [] []).map λq=>(es++q.1,bs++q.2)
 |[],_,_,_=>by simp[Z4]
 |k::r,i,es,bs=>by
  unfold Z4;cases k==0 with
  |true=>exact JX r _ es bs
  |false=>
   rw[af,af];cases kF im i k with
   |none=>rfl
   |some q=>
    obtain⟨eQ,fI⟩:=q;simp only[iL];rw[JX r _ (es++eQ),JX r _ eQ];cases Z4 im (i+1) r [] []with
    |none=>rfl
    |some q=>simp
theorem RW {K:bR} (hm:64*K.m<=K.img.length): ∀(l:ak) (i:Nat) (acc:List bc) (v:bg),v.W.length=(K.m+63)/64->kM (mu K (i:Int) l acc v) (EN K v acc (Z4 (K.img.take (64*K.m)) i l [] []))
 |[],i,acc,v,_=>by
  show kM (some (acc,v)) (some (acc++[],iA K v [] 0));refine⟨by rw[gA],?_⟩;unfold iA;simp
 |k::r,i,acc,v,hl=>by
  unfold mu Z4;cases k==0 with
  |true=>
   have:=RW hm r (i+1) acc v hl;rwa [show((i+1:Nat):Int)=(i:Int)+1 by omega]at this
  |false=>
   rw[bm,ae,af];have ht:=ZxA hm i k v hl;cases hT:kF (K.img.take (64*K.m)) i k with
   |none=>
    rw[hT]at ht;cases hM:rW K k i v with
    |none=>trivial
    |some q=>rw[hM]at ht;exact ht.elim
   |some q=>
    obtain⟨eQ,fI⟩:=q;rw[hT]at ht;simp only[EN,iL]at ht⊢;rw[JX r];cases ho:okB K v eQ fI with
    |false=>
     rw[ho]at ht;cases hM:rW K k i v with
     |some q=>rw[hM]at ht;exact ht.elim
     |none=>
      cases hF:Z4 (K.img.take (64*K.m)) (i+1) r [] []with
      |none=>trivial
      |some q=>
       obtain⟨es,bs⟩:=q;simp only[me];rw[show okB K v (eQ++es) (fI++bs)=(okB K v eQ fI&&_)from by
        unfold okB;rw[KM _ _ _ _ _ _ (BD hT).2.symm,zR];rw[show ∀a b c d:Bool,((a&&b)&&(c&&d))=((a&&c)&&(b&&d))from by decide],ho]
       trivial
    |true=>
     rw[ho]at ht;cases hM:rW K k i v with
     |none=>rw[hM]at ht;exact ht.elim
     |some q=>
      obtain⟨out,w⟩:=q;rw[hM]at ht;obtain⟨hp,rfl⟩:=ht;have ih:=RW hm r (i+1) (acc++out) (iA K v fI eQ.length) (Sg hl _ _);rw[show((i+1:Nat):Int)=(i:Int)+1 by omega]at ih;refine ih.trans ?_;cases hF:Z4 (K.img.take (64*K.m)) (i+1) r [] []with
      |none=>trivial
      |some q=>
       obtain⟨es,bs⟩:=q;simp only[me,EN];rw[show okB K v (eQ++es) (fI++bs)=(okB K v eQ fI&&okB K (iA K v fI eQ.length) es bs)from by
        unfold okB iA;simp only;rw[KM _ _ _ _ _ _ (BD hT).2.symm,zR];rw[show ∀a b c d:Bool,((a&&b)&&(c&&d))=((a&&c)&&(b&&d))from by decide],ho,dx]
       cases okB K (iA K v fI eQ.length) es bs with
       |false=>trivial
       |true=>
        rw[ae,ae,Zs9,<-bA,fA];exact⟨(hp.append_right es).append_left acc,rfl⟩
theorem ZsB {a b c:bc} (h:eY a b=true) (k:eY b c=true):eY a c=true:=by
 rw[KQ]at h k⊢;exact Rg h k
theorem ZvU {a b:bc} (h:a.slot≠b.slot) (k:eY a b=false):eY b a=true:=by
 have:=Zr3 (x:=e4 a) (y:=e4 b) h;rw[<-KQ,<-KQ,k,zd]at this;exact this
theorem ZrM (e:bc) (out:List bc): ∀k,(∀i,qw e out k<=i->i<k->eY e (out.getD i ⟨0,0,0,0⟩)=true)/\(0<qw e out k->eY e (out.getD (qw e out k-1) ⟨0,0,0,0⟩)=false)
 |0=>⟨by omega,λh=>absurd h (Nat.lt_irrefl _)⟩
 |k+1=>by
  obtain⟨h1,h2⟩:=ZrM e out k;grind[qw]
theorem ZxM (h:out.Pairwise λa b=>eY a b=true) (hd: ∀x∈out,x.slot≠e.slot):(pd out e).Perm (e::out)/\(pd out e).Pairwise λa b=>eY a b=true:=by
 unfold pd;obtain⟨h1,h2⟩:=ZrM e out out.length;have hp:=Zs4 e out out.length;generalize qw e out out.length=p at h1 h2 hp;have hc: ∀i,(hi:i<out.length)->out.getD i ⟨0,0,0,0⟩=out[i]:=by grind
 constructor
 .refine List.perm_middle.trans ?_
  rw[oA]
 .have hb: ∀a∈out.take p,eY a e=true:=λa ha=>by
   obtain⟨i,hi,rfl⟩:=FO ha;rw[cV]at hi;rw[List.getElem_take];have kW:p-1<out.length:=by omega
   have h3:=h2 (by omega);rw[hc _ kW]at h3;have h4:=ZvU (by grind) h3;rcases jC i (p-1)with h5|h5
   .exact ZsB ((Nv.1 h) i (p-1) (by omega) kW h5) h4
   grind
  refine Jm.2 ⟨(by grind),List.pairwise_cons.2 ⟨λa ha=>?_,(by grind)⟩,λa ha b ec=>?_⟩
  .obtain⟨i,hi,rfl⟩:=FO ha
   rw[fb]at hi;rw[List.getElem_drop,<-hc _ (by omega)];grind
  .rcases dW.1 ec with rfl|ec
   .exact hb a ha
   .rw[<-oA p out]at h
    grind
theorem Zpp: ∀(l out:List bc),(out.Pairwise λa b=>eY a b=true)->(∀x∈out,∀y∈l,x.slot≠y.slot)->Diff l->(l.foldl pd out).Perm (out++l)/\(l.foldl pd out).Pairwise λa b=>eY a b=true
 |[],out,h,_,_=>(by simp_all)
 |e::l,out,h,hd,.cons h1 h2=>by
  obtain⟨a1,a2⟩:=ZxM h (λx hx=>hd x hx e sb);obtain⟨b1,b2⟩:=Zpp l (pd out e) a2 (λx hx y hy=>by
   grind) h2
  exact⟨b1.trans ((a1.append_right l).trans List.perm_middle.symm),b2⟩
theorem ZxF (hp:gR.Perm es) (hd:Diff es):uA gR=Z0 es:=by
 obtain⟨h1,h2⟩:=Zpp es [] .nil (λx hx=>nomatch hx) hd;rw[iL]at h1;exact Zvt (hp.trans h1.symm) h2 (by
  have:=h1.map (·.slot);exact this.nodup_iff.2 (List.pairwise_map.2 hd))
theorem ZrD (u:Int) (l:List bw): ∀(es:List bc) (ns:ak),es.length=ns.length->iO u l es ns=true->∀x∈es,∃w∈ns,js u l x w=true
 |[],_,_,_,_,hx=>nomatch hx
 |e::es,n::ns,h,hf,x,hx=>by
  have hf:(bif js u l e n then iO u l es ns else false)=true:=hf;cases he:js u l e n with
  |false=>rw[he]at hf;cases hf
  |true=>
   rw[he,ae]at hf;rcases dW.1 hx with rfl|hx
   .grind
   .obtain⟨w,hw,fM⟩:=ZrD u l es ns (by simpa using h) hf x hx
    grind
theorem ZwU {l:List bw} {x:bc} {a b:Int} (h:js u l e a=true) (k:js u l x b=true) (hs:e.slot=x.slot):a=b:=by
 unfold js at h k;rw[<-hs]at k;cases hd:decide (e.slot>=u)with
 |true=>rw[hd]at h;cases h
 |false=>
  rw[hd,af]at h k;cases hg:l[e.slot.toNat]? with
  |none=>rw[hg]at h;cases h
  |some s=>
   rw[hg]at h k;grind
theorem Zpv (u:Int) (l:List bw): ∀(es:List bc) (ns:ak),es.length=ns.length->iO u l es ns=true->ns.Nodup->Diff es
 |[],_,_,_,_=> .nil
 |e::es,n::ns,h,hf,hn=>by
  have hf:(bif js u l e n then iO u l es ns else false)=true:=hf;cases he:js u l e n with
  |false=>rw[he]at hf;cases hf
  |true=>
   rw[he,ae]at hf;rw[zg]at hn;have hl:es.length=ns.length:=by simpa using h
   refine .cons (λx hx hs=>?_) (Zpv u l es ns hl hf hn.2);obtain⟨w,hw,fM⟩:=ZrD u l es ns hl hf x hx;exact hn.1 (ZwU he fM hs▸hw)
theorem Ry {im:aj} : ∀(l:ak) (i:Nat) (es:List bc) (bs:ak) {gR:List bc} {gB:ak},Z4 im i l es bs=some (gR,gB)->es.length=bs.length->gR.length=gB.length
 |[],_,_,_,_,_,h,k=>by cases h;exact k
 |y::r,i,es,bs,gR,gB,h,k=>by
  unfold Z4 at h;cases hy:y==0 with
  |true=>rw[hy,ae]at h;exact Ry r _ _ _ h k
  |false=>
   rw[hy,af]at h;cases hT:kF im i y with
   |none=>rw[hT]at h;cases h
   |some q=>
    obtain⟨eQ,fI⟩:=q;rw[hT]at h;exact Ry r _ _ _ h (by rw[bA,bA,k,(BD hT).2])
theorem Zna {l:ak} {bs:ak} (h:tI im l=some (es,bs)):es.length=bs.length:=Ry l 0 [] [] h rfl
theorem Ha {im:aj} {u:Int} {l:List bw} : ∀(qs:List ZC) (hs:List di) (all:ak) (lv:Int),ig im u l qs hs all lv=(ig im u l qs [] [] 0).map λq=>(hs++q.1,all++q.2.1,lv+q.2.2)
 |[],_,_,_=>by simp[ig]
 |q::r,hs,all,lv=>by
  unfold ig;cases tI im q.c9 with
  |none=>rfl
  |some p=>
   obtain⟨es,ns⟩:=p;simp only[iL];cases iO u l es ns with
   |false=>rfl
   |true=>
    rw[ae,ae,Ha r (hs++_),Ha r [_]];cases ig im u l r [] [] 0 with
    |none=>rfl
    |some p=>grind
theorem ZvH {im:aj} : ∀(l:ak) (qs j9:List ZC),lJ im qs l=some j9->∃new,j9=qs++new
 |[],qs,j9,h=>⟨[],by rw[gA];cases h;rfl⟩
 |k::r,qs,j9,h=>by
  unfold lJ at h;cases hL:iU im k with
  |none=>rw[hL]at h;cases h
  |some c=>
   rw[hL]at h;simp only at h;cases hQ:ZF c with
   |none=>rw[hQ]at h;cases h
   |some q=>
    rw[hQ]at h;simp only at h;cases hN:vO qs q with
    |false=>rw[hN]at h;cases h
    |true=>
     rw[hN,ae]at h;obtain⟨new,rfl⟩:=ZvH r _ _ h;simp
theorem ZxE {qs:List ZC} (h:v.aS.map (·.name)=qs.map (·.name)) (q:ZC):BY v qs.length q.name=vO qs q:=by
 unfold BY vO;rw[List.getLast?_eq_getElem?];by_cases h0:qs.length=0
 .rw[Bm.1 h0];rfl
 .rw[aD h0,af]
  have hg: ∀i:Nat,(v.aS[i]?).map di.name=(qs[i]?).map ZC.name:=λi=>by rw[<-xN,<-xN,h]
  have h1:=hg (qs.length-1);have h2:qs[qs.length-1]? =some qs[qs.length-1]:=cg (by omega);rw[h2]at h1⊢;grind
def rb (K:bR) (v:bg) (l:ak):Option (List di×ak×Int)->Option bg
 |none=>none
 |some (h,a,n)=>bif eB K.m v.W (l++a)then some { v with aS:=v.aS++h,W:=(l++a).foldl (bU K.m) v.W,nodes:=v.nodes-n } else none
theorem ZsY {l:ak} (h: ∀a,eB K.m v.W (l++a)=false): ∀q,rb K v l q=none
 |none=>rfl
 |some (_,a,_)=>by grind[rb]
theorem ZvD {K:bR} (hm:64*K.m<=K.img.length): ∀(l:ak) (qs:List ZC) (v:bg),v.W.length=(K.m+63)/64->v.aS.map (·.name)=qs.map (·.name)->
  vd K qs.length l v=match lJ (K.img.take (64*K.m)) qs l with
   |none=>none
   |some j9=>rb K v l (ig (K.img.take (64*K.m)) K.sup.used v.aK (j9.drop qs.length) [] [] 0)
 |[],qs,v,_,_=>by
  show some v=rb K v [] (ig (K.img.take (64*K.m)) K.sup.used v.aK (qs.drop qs.length) [] [] 0);rw[List.drop_length];simp[ig,rb,eB]
 |y::r,qs,v,hl,hn=>by
  unfold vd lJ dP;rw[D1 hm];cases hf:ft K.m v.W y with
  |false=>
   have cA: ∀q,rb K v (y::r) q=none:=ZsY λa=>by
    show(ft K.m v.W y&&_)=false;rw[hf,fP]
   grind
  |true=>
  rw[(D3 hf).1,ae,ae];simp only;cases hQ:ZF (ZB K.img y.toNat)with
  |none=>
   cases hb:ZX (ZB K.img y.toNat)with
   |queue x=>rw[W5.1 hb]at hQ;cases hQ
   |_=>rfl
  |some q=>
  rw[W5.2 hQ];simp only;rw[show BY { v with W:=bU K.m v.W y } qs.length q.name=vO qs q from ZxE hn q];cases hN:vO qs q with
  |false=>rfl
  |true=>
  rw[ae,ae];have oj:({ v with W:=bU K.m v.W y } :bg).W.length=(K.m+63)/64:=(tJ K.m v.W y).trans hl;have hh:=RW hm q.c9 0 [] { v with W:=bU K.m v.W y } oj;rw[Int.ofNat_zero]at hh;rw[show Z4 (K.img.take (64*K.m)) 0 q.c9 [] []=tI (K.img.take (64*K.m)) q.c9 from rfl]at hh;have yM: ∀new,ig (K.img.take (64*K.m)) K.sup.used v.aK (q::new) [] [] 0=match tI (K.img.take (64*K.m)) q.c9 with
    |none=>none
    |some (es,ns)=>bif iO K.sup.used v.aK es ns then ig (K.img.take (64*K.m)) K.sup.used v.aK new [⟨q.name,Z0 es⟩] ns (0-es.length)else none:=λnew=>rfl
  have Uo: ∀j9,lJ (K.img.take (64*K.m)) (qs++[q]) r=some j9->∃new,j9.drop qs.length=q::new/\j9.drop (qs.length+1)=new:=λj9 h1=>by
   obtain⟨new,rfl⟩:=ZvH _ _ _ h1;simp
  cases hF:tI (K.img.take (64*K.m)) q.c9 with
  |none=>
   rw[hF]at hh;cases hM:mu K 0 q.c9 [] { v with W:=bU K.m v.W y } with
   |some p=>rw[hM]at hh;exact hh.elim
   |none=>
    cases hS:lJ (K.img.take (64*K.m)) (qs++[q]) r with
    |none=>rfl
    |some j9=>
     obtain⟨new,e1,_⟩:=Uo _ hS;simp only;rw[e1,yM,hF];rfl
  |some p=>
  obtain⟨es,ns⟩:=p;rw[hF]at hh;simp only[EN,iL]at hh;have Yk: ∀new,ig (K.img.take (64*K.m)) K.sup.used v.aK (q::new) [] [] 0=bif iO K.sup.used v.aK es ns then(ig (K.img.take (64*K.m)) K.sup.used v.aK new [] [] 0).map (λq'=>([⟨q.name,Z0 es⟩]++q'.1,ns++q'.2.1,0-(es.length:Int)+q'.2.2))else none:=λnew=>by
   rw[yM,hF];simp only;rw[Ha new]
  have eO: ∀a,eB K.m v.W (y::r++(ns++a))=(eB K.m (bU K.m v.W y) ns&&eB K.m (ns.foldl (bU K.m) (bU K.m v.W y)) (r++a)):=λa=>by
   show(ft K.m v.W y&&eB K.m (bU K.m v.W y) (r++(ns++a)))=_;rw[hf,dx,<-zR];refine Zq9 oj ?_;rw[<-fA,<-fA];grind
  have hlen:=Zna hF;cases ho:okB K { v with W:=bU K.m v.W y } es ns with
  |false=>
   rw[ho]at hh;cases hM:mu K 0 q.c9 [] { v with W:=bU K.m v.W y } with
   |some p=>rw[hM]at hh;exact hh.elim
   |none=>
    cases hS:lJ (K.img.take (64*K.m)) (qs++[q]) r with
    |none=>rfl
    |some j9=>
     obtain⟨new,e1,_⟩:=Uo _ hS;simp only;rw[e1,Yk];unfold okB at ho;cases EP:iO K.sup.used v.aK es ns with
     |false=>rfl
     |true=>
      rw[show iO K.sup.used ({ v with W:=bU K.m v.W y } :bg).aK es ns=true from EP,dx]at ho;rw[ae];cases ig (K.img.take (64*K.m)) K.sup.used v.aK new [] [] 0 with
      |none=>rfl
      |some p=>
       simp only[me,rb];rw[eO,ho];rfl
  |true=>
   rw[ho]at hh;have vz:=ho;unfold okB at vz;rw[aW]at vz;have hd:Diff es:=Zpv _ _ es ns hlen vz.1 ((G4 oj).1 vz.2).1;cases hM:mu K 0 q.c9 [] { v with W:=bU K.m v.W y } with
   |none=>rw[hM]at hh;exact hh.elim
   |some p=>
    obtain⟨out,w⟩:=p;rw[hM]at hh;obtain⟨hp,rfl⟩:=hh;simp only;rw[ZxF hp hd];have ih:=ZvD hm r (qs++[q]) { (iA K { v with W:=bU K.m v.W y } ns es.length)with aS:=v.aS++[⟨q.name,Z0 es⟩] } (Sg oj ns es.length) (by rw[fB,fB,hn];rfl);rw[show(qs++[q]).length=qs.length+1 by simp]at ih;refine ih.trans ?_;cases hS:lJ (K.img.take (64*K.m)) (qs++[q]) r with
    |none=>rfl
    |some j9=>
     obtain⟨new,e1,e2⟩:=Uo _ hS;simp only;rw[e1,e2,Yk];rw[show iO K.sup.used v.aK es ns=true from vz.1,ae];show rb K _ r (ig (K.img.take (64*K.m)) K.sup.used v.aK new [] [] 0)=_;cases ig (K.img.take (64*K.m)) K.sup.used v.aK new [] [] 0 with
     |none=>rfl
     |some p=>
      obtain⟨h,a,n⟩:=p;simp only[me,rb];rw[eO,show eB K.m (bU K.m v.W y) ns=true from vz.2,dx];unfold iA;simp only;cases eB K.m (ns.foldl (bU K.m) (bU K.m v.W y)) (r++a)with
      |false=>rfl
      |true=>
       rw[ae,ae,fA];congr 2
       .show(r++a).foldl (bU K.m) (ns.foldl (bU K.m) (bU K.m v.W y))=(r++(ns++a)).foldl (bU K.m) (bU K.m v.W y)
        rw[<-Bk];refine ZpW ?_ _;rw[<-fA,<-fA];grind
       .omega
theorem ZuC (hm:64*K.m<=K.img.length) (v:bg) (hl:v.W.length=(K.m+63)/64) (hh:v.aS=[]):
  sB K v=match uv (K.img.take (64*K.m)) K.sup.dir with
   |none=>none
   |some (qs,bs)=>rb K v bs (ig (K.img.take (64*K.m)) K.sup.used v.aK qs [] [] 0):=by
 unfold sB uv;by_cases h0:K.sup.dir=0
 .rw[bG h0,h0]
  simp[ig,rb,eB]
 .rw[ba h0,show(K.sup.dir==0)=false by simpa using h0,af,D1 hm]
  unfold dP;cases hf:ft K.m v.W K.sup.dir with
  |false=>
   have cA: ∀r q,rb K v (K.sup.dir::r) q=none:=λr=>ZsY λa=>by
    show(ft K.m v.W K.sup.dir&&_)=false;rw[hf,fP]
   grind
  |true=>
  rw[(D3 hf).1,ae,ae];simp only;cases hD:kQ (ZB K.img K.sup.dir.toNat)with
  |none=>
   cases hb:ZX (ZB K.img K.sup.dir.toNat)with
   |dir x=>rw[W2.1 hb]at hD;cases hD
   |_=>rfl
  |some l=>
   rw[W2.2 hD];simp only;have:=ZvD hm l [] { v with W:=bU K.m v.W K.sup.dir } ((tJ K.m v.W K.sup.dir).trans hl) (by rw[hh];rfl);rw[Dh]at this;rw[this];cases lJ (K.img.take (64*K.m)) [] l with
   |none=>rfl
   |some qs=>
    simp only[dA];cases ig (K.img.take (64*K.m)) K.sup.used v.aK qs [] [] 0 with
    |none=>rfl
    |some p=>
     obtain⟨h,a,n⟩:=p;simp only[rb];rw[show eB K.m v.W (K.sup.dir::l++a)=(ft K.m v.W K.sup.dir&&eB K.m (bU K.m v.W K.sup.dir) (l++a))from rfl,hf,dx];rfl
theorem Zs8 {m:Int} {l:ak} {a:Int} (h:kN l):(xu m l a).length<=l.length+1:=by
 obtain⟨h1,h2⟩:=KY (m:=m) (a:=a) h;refine gJ (BI (m:=a::l) h1.nodup λb hb=>?_) (by simp);grind
theorem ZpH {m:Int} : ∀(all r q:ak),kN r->oK m all r=some q->q.length<=all.length+r.length
 |[],r,q,_,h=>by cases h;simp
 |k::a,r,q,hr,h=>by
  unfold oK at h;cases h1:decide (k<2)with
  |true=>rw[h1]at h;cases h
  |false=>
   cases h2:decide (k∈r)with
   |true=>rw[h1,h2]at h;cases h
   |false=>
    rw[h1,h2]at h;have h3:=ZpH a _ q (KY hr).1 h;have h4:=Zs8 (m:=m) (a:=k) hr;rw[cO];omega
theorem ZwO (hl:W.length=(m+63)/64) (h:ft m W k=true):xu m (dC W) k=dC (bU m W k)/\(dC (bU m W k)).length=(dC W).length+1:=by
 obtain⟨h1,h2⟩:=KY (m:=(m:Int)) (a:=k) (zJ W);have h3:=h;unfold ft fT at h3;simp only[aW,bC,lL]at h3;obtain⟨iR,⟨lD,ui⟩,oV⟩:=h3;have hn:k∉dC W:=λhm=>by
  obtain⟨b,rfl,hb⟩:=pN.1 hm;rw[br]at oV;rw[hb]at oV;cases oV
 have e:xu m (dC W) k=dC (bU m W k):=Gq h1 (zJ _) λb=>by
  rw[h2,pN,pN];have gx: ∀c:Nat,dT (bU m W k) c=true↔dT W c=true\/c=k.toNat:=λc=>by
   rw[ya hl,l9,aW,bC];grind[fT]
  grind
 refine⟨e,Nat.le_antisymm ?_ ?_⟩
 .rw[<-e];exact Zs8 (zJ W)
 .have:=BI (l:=k::dC W) (m:=dC (bU m W k)) (zg.2 ⟨hn,(zJ W).nodup⟩) λb hb=>by
   rw[<-e,h2];grind
  rwa [cO]at this
theorem KI {m:Nat} : ∀(all:ak) (W:al),W.length=(m+63)/64->(∀b,dT W b=true->b<m)->dT W 0=true->
  (match oK m all (dC W)with
   |none=>none
   |some q=>bif decide (q.length=all.length+(dC W).length)then some q else none)=bif eB m W all then some (dC (all.foldl (bU m) W))else none
 |[],W,_,_,_=>by simp[oK,eB]
 |k::a,W,hl,hm,h0=>by
  unfold oK eB;cases hf:ft m W k with
  |true=>
   obtain⟨e1,e2⟩:=ZwO hl hf;have h3:=hf;unfold ft fT at h3;simp only[aW,bC,lL]at h3;obtain⟨iR,⟨lD,ui⟩,oV⟩:=h3;have hn:k∉dC W:=λhm=>by
    obtain⟨b,rfl,hb⟩:=pN.1 hm;rw[br]at oV;rw[hb]at oV;cases oV
   rw[aD (show ¬k<2 by omega),aD hn,af,af,e1,dx];have ih:=KI a (bU m W k) ((tJ m W k).trans hl) (λb hb=>by
    rw[ya hl,l9,aW,bC]at hb;grind) (by rw[ya hl,h0,Bool.true_or])
   rw[e2]at ih;rw[cO,show a.length+1+(dC W).length=a.length+((dC W).length+1) by omega];exact ih
  |false=>
   rw[fP,af];by_cases h2:k<2
   .rw[aw h2];rfl
   rw[aD h2,af];by_cases hn:k∈dC W
   .rw[aw hn];rfl
   rw[aD hn,af];have ui: ¬(0<=k/\k<(m:Int)/\k∉dC W):=λ⟨a1,a2,a3⟩=>by
    unfold ft fT at hf;rw[aw (show k>=2 by omega),aw a1,aw a2]at hf;have:dT W k.toNat=true:=by simpa using hf
    exact a3 (pN.2 ⟨k.toNat,by omega,this⟩)
   rw[show xu m (dC W) k=dC W from ba ui];cases hR:oK m a (dC W)with
   |none=>rfl
   |some q=>
    have:=ZpH a _ q (zJ W) hR;grind
def qB (g:Int) (s:bw):Bool:=bif (bif s.live then true else decide (s.gen<g))then true else s.block==0
structure NB (n:Nat) (out:List Int):Prop where
 nd:out.Nodup
 lt: ∀k∈out,0<=k/\k<(n:Int)
theorem NB.Ew {out:ak} (h:NB n out):out.length<=n:=by
 have:=BI (m:=ZP 0 n) h.nd λk hk=>by
  have:=h.lt k hk;unfold ZP;exact xO.2 ⟨k.toNat,Di.2 (by omega),by omega⟩
 grind[ZP]
theorem Zpy {l:List bw} {g:Int} (hr: ∀s∈l,s.live=false->0<=s.block): ∀(f:Nat) (k:Int) (out:ak),0<=k->NB l.length out->l.length+1<=f+out.length->lS l l.length g (f+1) k out=lS l l.length g f k out
 |0,k,out,_,ho,h=>by have:=ho.Ew;omega
 |f+1,k,out,hk,ho,h=>by
  conv=>lhs;unfold lS
  conv=>rhs;unfold lS
  cases h0:k==0 with
  |true=>rfl
  |false=>
  rw[af,af];have h0:k≠0:=by simpa using h0
  cases h1:decide (k>(l.length:Int))with
  |true=>rfl
  |false=>
  rw[af,af];have h1: ¬k>(l.length:Int):=Ds h1;cases hg:l[(k-1).toNat]? with
  |none=>rfl
  |some s=>
  simp only;cases hv:s.live with
  |true=>rfl
  |false=>
  rw[af,af];cases decide (s.gen>=g)with
  |true=>rfl
  |false=>
  rw[af,af];cases hi:decide (k-1∈out)with
  |true=>rfl
  |false=>
   rw[af,af];exact Zpy hr f _ _ (hr s (qJ hg) hv) ⟨uI.2 ⟨ho.nd,by simp,λa ha b hb e=>(by simp_all)⟩,λa ha=>by
    rcases gU.1 ha with h2|h2
    .exact ho.lt a h2
    .rw[cx.1 h2];omega⟩ (by rw[bA,iK];omega)
theorem ZpC {K:bR} {v0:bg} {n:Nat} (hu:K.sup.used=(n:Int)) (hn:v0.aK.length=n) (hr: ∀s∈v0.aK,s.live=false->0<=s.block): ∀(f:Nat) (fl:List Bool) (k:Int) (v:bg) (out:ak),v= { v0 with free:=out } ->0<=k->fl.length=n->(∀j:Nat,fl.getD j false=decide ((j:Int)∈out))->
  match lS v0.aK K.sup.used K.sup.g f k out with
  |none=>qT K f fl k v=none
  |some o=>∃Ce,qT K f fl k v=some (Ce, { v0 with free:=o })/\∀j:Nat,Ce.getD j false=decide ((j:Int)∈o)
 |0,_,_,_,_,_,_,_,_=>rfl
 |f+1,fl,k,v,out,hv,hk,hl,ew=>by
  unfold lS qT;cases h0:k==0 with
  |true=>simp_all
  |false=>
  rw[af,af];have h0:k≠0:=by simpa using h0
  by_cases h1:k>K.sup.used
  .rw[aw h1,aD (show ¬k<=K.sup.used by omega)];rfl
  rw[aD h1,aw (show k<=K.sup.used by omega),af,ae,hv];show match (match v0.aK[(k-1).toNat]? with|none=>none|some s=>_)with
   |none=>(match v0.aK[(k-1).toNat]? with|none=>none|some x=>_)=none
   |some o=>∃Ce,(match v0.aK[(k-1).toNat]? with|none=>none|some x=>_)=some (Ce, { v0 with free:=o })/\_
  cases hg:v0.aK[(k-1).toNat]? with
  |none=>rfl
  |some s=>
  simp only;rw[ew,show(((k-1).toNat:Nat):Int)=k-1 by omega,show decide (s.gen>=K.sup.g)= !decide (s.gen<K.sup.g) by rw[lg];simp];cases xp:s.live with
  |true=>rfl
  |false=>
  cases decide (s.gen<K.sup.g)with
  |false=>rfl
  |true=>
  cases hi:decide (k-1∈out)with
  |true=>rfl
  |false=>
   refine ZpC hu hn hr f (fl.set (k-1).toNat true) s.block { v0 with free:=out++[k-1] } (out++[k-1]) rfl (hr s (qJ hg) xp) (by rw[qI];exact hl) λj=>?_
   have gE:(k-1).toNat<fl.length:=by omega
   rw[dZ,List.getElem?_set,show decide ((j:Int)∈out++[k-1])=(decide ((j:Int)∈out)||decide ((j:Int)=k-1)) by rw[lg];simp];by_cases hj:(k-1).toNat=j
   .rw[bG hj,bG gE,aw (show(j:Int)=k-1 by omega),Bool.or_true];rfl
   .rw[ba hj,aD (show ¬(j:Int)=k-1 by omega),Bool.or_false,<-ew,dZ]
theorem Zs5 {K:bR} {out:ak} : ∀(l:List bw) (i:Nat) (fl:List Bool),(∀s∈l,s.gen<=K.sup.g/\qB K.sup.g s=true)->(∀j,fl.getD j false=decide (((i+j:Nat):Int)∈out))->uT K fl l=qX K.sup.g out i l
 |[],_,_,_,_=>rfl
 |s::r,i,fl,hs,hf=>by
  obtain⟨h1,h2⟩:=hs s sb;have ih:=Zs5 r (i+1) (fl.drop 1) (λx hx=>hs x (wb _ hx)) λj=>by
   rw[show i+1+j=i+(j+1) by omega,<-hf,dZ,dZ,Bl,tk 1 j]
  unfold uT qX;rw[ih,show Ee K (fl.getD 0 false) s=rQ K.sup.g out i s from ?_]
  .cases rQ K.sup.g out i s<;>rfl
  .grind[Ee,rQ,qB]
theorem Zn8 {g:Int} {out:ak} : ∀(l:List bw) (i:Nat),(∀s∈l,s.gen<=g)->qX g out i l=true->l.all (qB g)=true
 |[],_,_,_=>rfl
 |s::r,i,hg,h=>by
  unfold qX at h;cases hb:rQ g out i s with
  |false=>rw[hb]at h;cases h
  |true=>
   rw[hb,ae]at h;rw[uE,Zn8 r (i+1) (by grind) h,y9];grind[rQ,qB]
theorem Zxc (hx:pK K.sup) (hn:(v.aK.length:Int)=K.sup.used) (hr: ∀s∈v.aK,s.live=false->0<=s.block) (hg: ∀s∈v.aK,s.gen<=K.sup.g) (hf:v.free=[]):
  (bif v.aK.all (qB K.sup.g)then tY K v else none)=(vg v.aK K.sup).map λo=> { v with free:=o } :=by
 unfold tY vg;have hu:K.sup.used.toNat=v.aK.length:=by omega
 have fk:=Zpy (l:=v.aK) (g:=K.sup.g) hr (v.aK.length+1) K.sup.free [] hx.f0 ⟨.nil,λk hk=>nomatch hk⟩ (by simp);rw[hn]at fk;rw[fk];have om:=ZpC (K:=K) (v0:=v) hn.symm rfl hr (v.aK.length+1) (List.replicate v.aK.length false) K.sup.free v [] (by rw[<-hf]) hx.f0 (by simp) λj=>by
  rw[dZ,List.getElem?_replicate];split<;>rfl
 rw[hu];cases hL:lS v.aK K.sup.used K.sup.g (v.aK.length+1) K.sup.free []with
 |none=>
  rw[hL]at om;simp only at om;rw[om];cases v.aK.all (qB K.sup.g)<;>rfl
 |some o=>
  rw[hL]at om;obtain⟨fl,e,he⟩:=om;rw[e];simp only[BW];cases ha:v.aK.all (qB K.sup.g)with
  |false=>
   cases hR:qX K.sup.g o 0 v.aK with
   |false=>rfl
   |true=>rw[Zn8 _ 0 hg hR]at ha;cases ha
  |true=>
   rw[Zs5 (out:=o) v.aK 0 fl (by grind) λj=>by rw[eW];exact he j];cases qX K.sup.g o 0 v.aK<;>rfl
def mK (K:bR):Int->List bw->List bw->Option (List bw)
 |_,[],l=>some l
 |k,x::r,l=>bif decide (k>=K.sup.used)then(bif nh x then mK K (k+1) r l else none)else(bif tM K.sup x then mK K (k+1) r (l++[x])else none)
theorem Zm9 (K:bR) (k:Int) (x:bw) (r l:List bw):mK K k (x::r) l=bif decide (k>=K.sup.used)then(bif nh x then mK K (k+1) r l else none)else(bif tM K.sup x then mK K (k+1) r (l++[x])else none):=rfl
theorem Th {K:bR} : ∀(x:List bw) (k:Int) (v:bg),nQ K k x v=(mK K k x v.aK).map λs=> { v with aK:=s }
 |[],_,_=>rfl
 |x::r,k,v=>by
  unfold nQ mK qS;cases decide (k>=K.sup.used)with
  |true=>
   rw[ae,ae];cases nh x with
   |false=>rfl
   |true=>exact Th r _ v
  |false=>
   rw[af,af];cases tM K.sup x with
   |false=>rfl
   |true=>exact Th r _ _
theorem DT {K:bR} : ∀(a b:List bw) (k:Int) (l:List bw),mK K k (a++b) l=match mK K k a l with
  |none=>none
  |some l'=>mK K (k+a.length) b l'
 |[],b,k,l=>by simp[mK]
 |x::a,b,k,l=>by
  rw[mU,cO,show k+((a.length+1:Nat):Int)=k+1+a.length by omega,Zm9,Zm9];cases decide (k>=K.sup.used)with
  |true=>
   rw[ae,ae];cases nh x with
   |false=>rfl
   |true=>exact DT a b _ _
  |false=>
   rw[af,af];cases tM K.sup x with
   |false=>rfl
   |true=>exact DT a b _ _
def sG (u:Nat) (g:Int):Nat->List bw->List bw->Option (List bw)
 |_,[],l=>some l
 |i,s::r,l=>bif decide (u<=i)then(bif nh s then sG u g (i+1) r l else none)else(bif decide (s.gen<1)||decide (s.gen>g)then none else sG u g (i+1) r (l++[s]))
theorem Rb {u:Nat} {g:Int} : ∀(r:List bw) (i:Nat) (l l':List bw),sG u g i r l=some l'->∃t,l'=l++t
 |[],_,l,l',h=>⟨[],by cases h;rw[gA]⟩
 |s::r,i,l,l',h=>by
  unfold sG at h;cases h1:decide (u<=i)with
  |true=>
   cases h2:nh s with
   |false=>rw[h1,h2]at h;cases h
   |true=>rw[h1,h2]at h;exact Rb r _ _ _ h
  |false=>
   cases h2:decide (s.gen<1)||decide (s.gen>g)with
   |true=>rw[h1,h2]at h;cases h
   |false=>
    rw[h1,h2]at h;obtain⟨t,rfl⟩:=Rb r _ _ _ h;simp
theorem SB {K:bR} {u:Nat} (hu:K.sup.used=(u:Int)): ∀(r:List bw) (i:Nat) (l:List bw),l.all (qB K.sup.g)=true->mK K (i:Int) r l=match sG u K.sup.g i r l with
  |none=>none
  |some l'=>bif l'.all (qB K.sup.g)then some l' else none
 |[],_,l,h=>by simp[mK,sG,h]
 |s::r,i,l,h=>by
  unfold mK sG;rw[hu,show decide ((i:Int)>=(u:Int))=decide (u<=i)from decide_eq_decide.2 (by omega),show(i:Int)+1=((i+1:Nat):Int) by omega];cases decide (u<=i)with
  |true=>
   rw[ae,ae];cases nh s with
   |false=>rfl
   |true=>exact SB hu r _ l h
  |false=>
   rw[af,af];have ho:tM K.sup s=(!(decide (s.gen<1)||decide (s.gen>K.sup.g))&&qB K.sup.g s):=by
    grind[tM,qB]
   rw[ho];cases decide (s.gen<1)||decide (s.gen>K.sup.g)with
   |true=>rfl
   |false=>
    rw[bm,dx,af];cases ht:qB K.sup.g s with
    |true=>exact SB hu r _ _ (by rw[sa,h,uE,ht];rfl)
    |false=>
     cases hS:sG u K.sup.g (i+1) r (l++[s])with
     |none=>rfl
     |some l'=>
      obtain⟨t,rfl⟩:=Rb r _ _ _ hS;grind
def jK (im:aj) (c:Nat):Nat->ak->Option (ak×List bw)
 |_,[]=>some ([],[])
 |p,y::r=>bif (!(y==0))==decide (p<c)then(bif y==0 then jK im c (p+1) r else match jL im y with
   |none=>none
   |some l=>match jK im c (p+1) r with
    |none=>none
    |some (bs,ls)=>some (y::bs,l++ls))else none
def mB (im:aj) (c:Nat):Nat->ak->Option (ak×List bw)
 |_,[]=>some ([],[])
 |i,y::r=>bif (!(y==0))==decide (16*i<c)then(bif y==0 then mB im c (i+1) r else match gv im y with
   |none=>none
   |some g=>match jK im c (16*i) g with
    |none=>none
    |some (bs,ls)=>match mB im c (i+1) r with
     |none=>none
     |some (gB,yT)=>some (y::(bs++gB),ls++yT))else none
theorem ZqI {im:aj} {c:Nat} : ∀(g:ak) (p:Nat) (q:ak×List bw),c<=p->jK im c p g=some q->q=([],[])
 |[],_,_,_,h=>by cases h;rfl
 |y::r,p,q,hp,h=>by
  unfold jK at h;rw[aD (show ¬p<c by omega)]at h;cases hy:y==0 with
  |false=>rw[hy]at h;cases h
  |true=>rw[hy]at h;exact ZqI r _ _ (by omega) h
theorem KO {im:aj} {c:Nat} : ∀(g:ak) (p:Nat) (bs:ak) (ls:List bw),jK im c p g=some (bs,ls)->ls.length=7*min g.length (c-p)
 |[],_,_,_,h=>by cases h;simp
 |y::r,p,bs,ls,h=>by
  unfold jK at h;cases hc:(!(y==0))==decide (p<c)with
  |false=>rw[hc]at h;cases h
  |true=>
  rw[hc,ae]at h;cases hy:y==0 with
  |true=>
   rw[hy]at h hc;have hd:decide (p<c)=false:=by grind
   have:=Ds hd;rw[KO r (p+1) bs ls h,cO];omega
  |false=>
   rw[hy]at h hc;have hd:decide (p<c)=true:=by grind
   have:=qL hd;rw[af]at h;cases hL:jL im y with
   |none=>rw[hL]at h;cases h
   |some l=>
    cases hK:jK im c (p+1) r with
    |none=>rw[hL,hK]at h;cases h
    |some q=>
     rw[hL,hK]at h;cases h;have h1:=KO r (p+1) _ _ hK;have h2:=Kl im y;rw[hL]at h2;have h2:l.length=7:=h2;rw[bA,h1,h2,cO];omega
theorem RI {im:aj} {c:Nat} : ∀(f:ak) (i:Nat) (q:ak×List bw),c<=16*i->mB im c i f=some q->q=([],[])
 |[],_,_,_,h=>by cases h;rfl
 |y::r,i,q,hp,h=>by
  unfold mB at h;rw[aD (show ¬16*i<c by omega)]at h;cases hy:y==0 with
  |false=>rw[hy]at h;cases h
  |true=>rw[hy]at h;exact RI r _ _ (by omega) h
theorem Zul {l:List bw} (h:jL im y=some l):l.length=7:=by
 have:=Kl im y;rwa [h]at this
theorem Rp {l:ak} (h:gv im y=some l):l.length=16:=by
 have:=GK im y;rwa [h]at this
def xE (K:bR) (v:bg) (k:Int):Option (ak×List bw)->Option bg
 |none=>none
 |some (bs,ls)=>bif eB K.m v.W bs then(mK K k ls v.aK).map (λs=> { v with aK:=s,W:=bs.foldl (bU K.m) v.W })else none
theorem Zut (h:ft K.m v.W y=false) (bs:ak) (ls:List bw):xE K v k (some (y::bs,ls))=none:=by
 grind[xE,eB]
theorem Sz {K:bR} (hm:64*K.m<=K.img.length) {c x5:Nat} : ∀(g:ak) (k:Nat) (v:bg),kR K (c:Int) (x5:Int) (k:Int) g v=xE K v ((7*(16*x5+k):Nat):Int) (jK (K.img.take (64*K.m)) c (16*x5+k) g)
 |[],_,_=>rfl
 |y::r,k,v=>by
  unfold kR jK;rw[show decide ((x5:Int)*16+(k:Int)<(c:Int))=decide (16*x5+k<c)from decide_eq_decide.2 (by omega),show(k:Int)+1=((k+1:Nat):Int) by omega];cases hc:(!(y==0))==decide (16*x5+k<c)with
  |false=>rfl
  |true=>
  rw[ae,ae];cases hy:y==0 with
  |true=>
   rw[hy]at hc;have jt:c<=16*x5+k:=by
    grind
   show kR K (c:Int) (x5:Int) ((k+1:Nat):Int) r v=xE K v _ (jK (K.img.take (64*K.m)) c (16*x5+(k+1)) r);rw[Sz hm r (k+1) v];cases hK:jK (K.img.take (64*K.m)) c (16*x5+(k+1)) r with
   |none=>rfl
   |some q=>rw[ZqI r _ q (by omega) hK];rfl
  |false=>
   have Vx:y≠0:=by simpa using hy
   rw[bm,ae,af];unfold nx dP jL;rw[ba Vx,D1 hm];cases hf:ft K.m v.W y with
   |false=>
    rw[af];simp only;cases(bif fT K.m y then some (ZB K.img y.toNat)else none)with
    |none=>rfl
    |some ln=>
     simp only;cases ZJ ln with
     |none=>rfl
     |some l=>
      simp only;cases jK (K.img.take (64*K.m)) c (16*x5+k+1) r with
      |none=>rfl
      |some q=>exact(Zut hf _ _).symm
   |true=>
   rw[(D3 hf).1,ae,ae];simp only;cases hL:ZJ (ZB K.img y.toNat)with
   |none=>
    cases hb:ZX (ZB K.img y.toNat)with
    |leaf x=>rw[W3.1 hb]at hL;cases hL
    |_=>rfl
   |some l=>
    rw[W3.2 hL];simp only;rw[Th,show((x5:Int)*16+(k:Int))*7=((7*(16*x5+k):Nat):Int) by omega];have h7:l.length=7:=Gk hL;have ih:=λv'=>Sz hm (c:=c) (x5:=x5) r (k+1) v'
    rw[show 16*x5+k+1=16*x5+(k+1) by omega];cases hS:mK K ((7*(16*x5+k):Nat):Int) l v.aK with
    |none=>
     cases jK (K.img.take (64*K.m)) c (16*x5+(k+1)) r with
     |none=>rfl
     |some q=>
      simp only[xE,DT,hS];cases eB K.m v.W (y::q.1)<;>rfl
    |some s=>
     simp only[me];rw[ih];cases jK (K.img.take (64*K.m)) c (16*x5+(k+1)) r with
     |none=>rfl
     |some q=>
      simp only[xE,DT,hS];rw[show eB K.m v.W (y::q.1)=(ft K.m v.W y&&eB K.m (bU K.m v.W y) q.1)from rfl,hf,dx,h7,show((7*(16*x5+k):Nat):Int)+((7:Nat):Int)=((7*(16*x5+(k+1)):Nat):Int) by omega];rfl
theorem Sk {K:bR} (hm:64*K.m<=K.img.length) {c:Nat} : ∀(f:ak) (i:Nat) (v:bg),oM K (c:Int) (i:Int) f v=xE K v ((112*i:Nat):Int) (mB (K.img.take (64*K.m)) c i f)
 |[],_,_=>rfl
 |y::r,i,v=>by
  unfold oM mB;rw[show decide ((i:Int)*16<(c:Int))=decide (16*i<c)from decide_eq_decide.2 (by omega),show(i:Int)+1=((i+1:Nat):Int) by omega];cases hc:(!(y==0))==decide (16*i<c)with
  |false=>rfl
  |true=>
  rw[ae,ae];cases hy:y==0 with
  |true=>
   rw[hy]at hc;have jt:c<=16*i:=by
    grind
   rw[ae,ae,Sk hm r (i+1) v];cases hK:mB (K.img.take (64*K.m)) c (i+1) r with
   |none=>rfl
   |some q=>rw[RI r _ q (by omega) hK];rfl
  |false=>
   have Vx:y≠0:=by simpa using hy
   rw[af,af];unfold dP gv;rw[ba Vx,D1 hm];cases hf:ft K.m v.W y with
   |false=>
    rw[af];simp only;cases(bif fT K.m y then some (ZB K.img y.toNat)else none)with
    |none=>rfl
    |some ln=>
     simp only;cases Z3 ln with
     |none=>rfl
     |some g=>
      simp only;cases jK (K.img.take (64*K.m)) c (16*i) g with
      |none=>rfl
      |some q=>
       simp only;cases mB (K.img.take (64*K.m)) c (i+1) r with
       |none=>rfl
       |some q'=>exact(Zut hf _ _).symm
   |true=>
   rw[(D3 hf).1,ae,ae];simp only;cases hL:Z3 (ZB K.img y.toNat)with
   |none=>
    cases hb:ZX (ZB K.img y.toNat)with
    |bY x=>rw[Ly.1 hb]at hL;cases hL
    |_=>rfl
   |some g=>
    rw[Ly.2 hL];simp only;have h2:=Sz hm (c:=c) (x5:=i) g 0 { v with W:=bU K.m v.W y };rw[gV,Int.ofNat_zero]at h2;rw[h2];have ih:=λv'=>Sk hm (c:=c) r (i+1) v'
    cases hk:jK (K.img.take (64*K.m)) c (16*i) g with
    |none=>rfl
    |some q=>
     obtain⟨bs,ls⟩:=q;simp only[xE];have eO: ∀b',eB K.m v.W (y::(bs++b'))=(eB K.m (bU K.m v.W y) bs&&eB K.m (bs.foldl (bU K.m) (bU K.m v.W y)) b'):=λb'=>by
      rw[<-zR];show(ft K.m v.W y&&_)=_;rw[hf,dx]
     rw[show 7*(16*i)=112*i by omega];cases hF:eB K.m (bU K.m v.W y) bs with
     |false=>
      grind
     |true=>
      rw[ae];cases hS:mK K ((112*i:Nat):Int) ls v.aK with
      |none=>
       cases mB (K.img.take (64*K.m)) c (i+1) r with
       |none=>rfl
       |some q=>
        simp only[DT,hS];cases eB K.m v.W (y::(bs++q.1))<;>rfl
      |some s=>
       simp only[me];rw[ih];cases hW:mB (K.img.take (64*K.m)) c (i+1) r with
       |none=>rfl
       |some q=>
        obtain⟨gB,yT⟩:=q;simp only[xE,DT,hS,eO,hF,dx,Df,Bk];rw[show mK K (((112*i:Nat):Int)+(ls.length:Int)) yT s=mK K ((112*(i+1):Nat):Int) yT s from ?_];by_cases agI:16*i+16<=c
        .rw[KO g (16*i) bs ls hk,Qp hL,show((112*i:Nat):Int)+((7*min 16 (c-16*i):Nat):Int)=((112*(i+1):Nat):Int) by omega]
        .cases RI r (i+1) _ (by omega) hW
         rfl
theorem QS (im:aj):jL im 0=some mJ:=by rfl
theorem KN (im:aj):gv im 0=some rh:=by rfl
theorem BE (acc:ak):cn acc 0=acc:=rfl
theorem BM (acc:ak) (h:k≠0):cn acc k=acc++[k]:=by
 grind[cn]
theorem QN (im:aj) (acc:ak): ∀n,lR im acc (List.replicate n 0)=some acc
 |0=>rfl
 |n+1=>by
  rw[List.replicate_succ];unfold lR;rw[QS,BE];exact QN im acc n
theorem Zph (im:aj) (acc:ak): ∀n,nR im acc (List.replicate n 0)=some acc
 |0=>rfl
 |n+1=>by
  rw[List.replicate_succ];unfold nR;rw[KN,BE];simp only;rw[show lR im acc rh=some acc from QN im acc 16];exact Zph im acc n
theorem agree {b:Bool} (h:((!(y==0))==b)=true):(y=0/\b=false)\/(y≠0/\b=true):=by
 grind
theorem ZvA {bs:ak} {ls:List bw} (h:jK im c p (y::r)=some (bs,ls)):
  (y=0/\c<=p/\jK im c (p+1) r=some (bs,ls))\/∃l gB yT,y≠0/\p<c/\jL im y=some l/\jK im c (p+1) r=some (gB,yT)/\bs=y::gB/\ls=l++yT:=by
 grind[jK]
theorem SU {im:aj} {c:Nat} : ∀(g:ak) (p:Nat) (bs:ak) (ls:List bw),jK im c p g=some (bs,ls)->(∀acc,lR im acc g=some (acc++bs))/\bs.length=min g.length (c-p)/\∀j t,t<7->p+j<c->j<g.length->ls[7*j+t]? =(jL im (g.getD j 0)).bind (·[t]?)
 |[],_,_,_,h=>by
  cases h;simp[lR]
 |y::r,p,bs,ls,h=>by
  rcases ZvA h with⟨rfl,hc,hk⟩|⟨l,gB,yT,hy,hc,hL,hk,rfl,rfl⟩
  .obtain⟨h1,h2,h3⟩:=SU r (p+1) bs ls hk
   refine⟨λacc=>?_,by rw[h2,cO];omega,λj t _ hj _=>by omega⟩;grind[lR,QS,BE]
  .obtain⟨h1,h2,h3⟩:=SU r (p+1) gB yT hk
   have UN:=Zul hL;refine⟨λacc=>?_,by rw[cO,h2,cO];omega,λj t ht hj sV=>?_⟩
   .unfold lR
    rw[hL,BM acc hy];grind
   .cases j with
    |zero=>
     rw[Nat.mul_zero,eW,oz (by omega)];grind
    |succ j=>
     rw[mb (by omega),UN,show 7*(j+1)+t-7=7*j+t by omega];grind
def xB (c i n:Nat):Nat:=min (16*n) (c-16*i)+min n ((c+15)/16-i)
theorem SS {im:aj} {c:Nat} : ∀(f:ak) (i:Nat) (bs:ak) (ls:List bw),mB im c i f=some (bs,ls)->(∀acc,nR im acc f=some (acc++bs))/\bs.length=xB c i f.length/\ls.length=7*min (16*f.length) (c-16*i)/\∀q t,t<7->16*i+q<c->q<16*f.length->ls[7*q+t]? =(gv im (f.getD (q/16) 0)).bind λg=>(jL im (g.getD (q%16) 0)).bind (·[t]?)
 |[],_,_,_,h=>by
  cases h;simp[nR,xB]
 |y::r,i,bs,ls,h=>by
  unfold mB at h;cases hc:(!(y==0))==decide (16*i<c)with
  |false=>rw[hc]at h;cases h
  |true=>
  rw[hc,ae]at h;rcases agree hc with⟨rfl,hd⟩|⟨hy,hd⟩
  .have hd:=Ds hd
   obtain⟨h1,h2,h3,h4⟩:=SS r (i+1) bs ls h;refine⟨λacc=>?_,by rw[h2,cO];unfold xB;omega,by rw[h3,cO];omega,λj t _ hj _=>by omega⟩;unfold nR;rw[KN,BE];simp only;rw[show lR im acc rh=some acc from QN im acc 16];exact h1 acc
  .have hd:=qL hd
   rw[show(y==0)=false by simpa using hy,af]at h;cases hL:gv im y with
   |none=>rw[hL]at h;cases h
   |some g=>
   rw[hL]at h;simp only at h;cases hK:jK im c (16*i) g with
   |none=>rw[hK]at h;cases h
   |some q=>
   obtain⟨b1,l1⟩:=q;rw[hK]at h;simp only at h;cases hF:mB im c (i+1) r with
   |none=>rw[hF]at h;cases h
   |some q=>
   obtain⟨b2,l2⟩:=q;rw[hF]at h;cases h;obtain⟨h1,h2,h3,h4⟩:=SS r (i+1) b2 l2 hF;obtain⟨k1,k2,k3⟩:=SU g (16*i) b1 l1 hK;have k4:=KO g (16*i) b1 l1 hK;have hg:=Rp hL;rw[hg]at k2 k3 k4;refine⟨λacc=>?_,by rw[cO,bA,h2,k2,cO];unfold xB;omega,by rw[bA,h3,k4,cO];omega,λq t ht hq yH=>?_⟩
   .unfold nR
    rw[hL,BM acc hy];grind
   .rcases jC q 16 with rk|rk
    .rw[oz (by omega),show q/16=0 by omega,show q%16=q by omega,k3 q t ht hq rk]
     grind
    .rw[mb (by omega),show 7*q+t-l1.length=7*(q-16)+t by omega,h4 (q-16) t ht (by omega) (by rw[cO]at yH;omega),show q/16=(q-16)/16+1 by omega,show q%16=(q-16)%16 by omega]
     rfl
theorem ZqQ {im:aj} {c:Nat} : ∀(g:ak) (p:Nat) (acc pS:ak),lR im acc g=some pS->(∀j,j<g.length->p+j<c->g.getD j 0≠0)->acc.length+min g.length (c-p)<=pS.length/\(pS.length=acc.length+min g.length (c-p)->∃q,jK im c p g=some q)
 |[],_,_,_,h,_=>by cases h;exact⟨by simp,λ_=>⟨_,rfl⟩⟩
 |y::r,p,acc,pS,h,hn=>by
  unfold lR at h;cases hL:jL im y with
  |none=>rw[hL]at h;cases h
  |some l=>
  rw[hL]at h;simp only at h;obtain⟨h1,h2⟩:=ZqQ (c:=c) r (p+1) (cn acc y) pS h λj hj hc=>by
   have:=hn (j+1) (by rw[cO];omega) (by omega);exact this
  rw[cO];unfold jK;by_cases hc:p<c
  .have hy:y≠0:=hn 0 (by simp) hc
   rw[BM acc hy,bA,iK]at h1 h2;grind
  .by_cases hy:y=0
   .subst hy
    rw[BE]at h1 h2;grind
   .rw[BM acc hy,bA,iK]at h1 h2
    omega
theorem Zrh {im:aj} {c:Nat} : ∀(f:ak) (i:Nat) (acc pS:ak),nR im acc f=some pS->(∀a,a<f.length->16*(i+a)<c->f.getD a 0≠0)->(∀a g j,a<f.length->gv im (f.getD a 0)=some g->j<16->16*(i+a)+j<c->g.getD j 0≠0)->acc.length+xB c i f.length<=pS.length/\(pS.length=acc.length+xB c i f.length->∃q,mB im c i f=some q)
 |[],_,_,_,h,_,_=>by cases h;exact⟨by simp[xB],λ_=>⟨_,rfl⟩⟩
 |y::r,i,acc,pS,h,hn,hg=>by
  unfold nR at h;cases hL:gv im y with
  |none=>rw[hL]at h;cases h
  |some g=>
  rw[hL]at h;simp only at h;cases hK:lR im (cn acc y) g with
  |none=>rw[hK]at h;cases h
  |some a2=>
  rw[hK]at h;simp only at h;have lC:=Rp hL;obtain⟨h1,h2⟩:=Zrh (c:=c) r (i+1) a2 pS h (λa ha hc=>hn (a+1) (by rw[cO];omega) (by omega)) λa g' j ha hf hj hc=>hg (a+1) g' j (by rw[cO];omega) hf hj (by omega)
  obtain⟨k1,k2⟩:=ZqQ (c:=c) g (16*i) (cn acc y) a2 hK λj hj hc=>hg 0 g j (by simp) hL (by omega) (by omega)
  rw[lC]at k1 k2;rw[cO];unfold mB;unfold xB at h1 h2⊢;by_cases hc:16*i<c
  .have hy:y≠0:=hn 0 (by simp) (by omega)
   rw[BM acc hy,bA,iK]at k1 k2;refine⟨by omega,λhe=>?_⟩;obtain⟨q,hq⟩:=h2 (by omega);obtain⟨q',yG⟩:=k2 (by omega);rw[show(y==0)=false by simpa using hy,aw hc,hL,hq];grind
  .by_cases hy:y=0
   .subst hy
    rw[BE]at k1 k2;refine⟨by omega,λhe=>?_⟩;obtain⟨q,hq⟩:=h2 (by omega);rw[aD hc,hq];exact⟨_,rfl⟩
   .rw[BM acc hy,bA,iK]at k1 k2
    exact⟨by omega,λhe=>by omega⟩
theorem Znf {im:aj} {top:Int} {u:Nat} {g:Int} : ∀(ls:List bw) (i:Nat) (l:List bw),(∀j,j<ls.length->lA im top (i+j)=ls[j]?)->kT im top u g ls.length i l=sG u g i ls l
 |[],_,_,_=>rfl
 |s::r,i,l,h=>by
  rw[cO];unfold kT sG;rw[show lA im top i=some s from h 0 (by simp)];simp only;have ih:=λl=>Znf (u:=u) (g:=g) r (i+1) l λj hj=>by
   have:=h (j+1) (by rw[cO];omega);rw[show i+1+j=i+(j+1) by omega,this];rfl
  rw[ih,ih]
theorem Zn9 {im:aj} {top:Int} {u:Nat} {g:Int} : ∀(c i:Nat) (l l':List bw),kT im top u g c i l=some l'->∀j,i<=j->j<i+c->j<u->∃s,lA im top j=some s/\1<=s.gen
 |0,_,_,_,_,_,_,_,_=>by omega
 |c+1,i,l,l',h,j,h1,h2,h3=>by
  unfold kT at h;cases hF:lA im top i with
  |none=>rw[hF]at h;cases h
  |some s=>
  rw[hF]at h;simp only at h;rw[aD (show ¬u<=i by omega),af]at h;cases hb:decide (s.gen<1)||decide (s.gen>g)with
  |true=>rw[hb]at h;cases h
  |false=>
   rw[hb]at h;by_cases e:j=i
   .grind
   .exact Zn9 c (i+1) _ _ h j (by omega) (by omega) h3
theorem Zvi {x:dY} {u:Nat} (hu:x.used=(u:Int)) (h0:0<u) (h1:u<=1792) (hf:x.bY≠0):pQ im x=match gv im x.bY with
  |none=>none
  |some f=>match mB im ((u+6)/7) 0 f with
   |none=>none
   |some (bs,ls)=>match sG u x.g 0 ls []with
    |none=>none
    |some l=>some (l,x.bY::bs):=by
 unfold pQ wL;have Vs:x.used.toNat=u:=by omega
 rw[Vs];cases hL:gv im x.bY with
 |none=>rfl
 |some f=>
 have ew:=Rp hL;simp only;rw[BM [] hf,iL];have XV:1+xB ((u+6)/7) 0 16=(u+6)/7+nY u:=by
  grind[xB,nY]
 cases hW:mB im ((u+6)/7) 0 f with
 |some q=>
  obtain⟨bs,ls⟩:=q;obtain⟨a1,a2,a3,a4⟩:=SS f 0 bs ls hW;rw[ew]at a2 a3 a4;rw[a1];simp only;rw[aw (show([x.bY]++bs).length=(u+6)/7+nY u by rw[bA,iK,a2];exact XV),ae,show 7*((u+6)/7)=ls.length by omega,Znf ls 0 [] λj hj=>?_]
  .rfl
  .have:=a4 (j/7) (j%7) (Nat.mod_lt _ (by decide)) (by omega) (by omega)
   rw[show 7*(j/7)+j%7=j by omega]at this;rw[this,eW];grind[lA]
 |none=>
  cases hG:nR im [x.bY] f with
  |none=>rfl
  |some pg=>
  simp only;cases hd:decide (pg.length=(u+6)/7+nY u)with
  |false=>rfl
  |true=>
  rw[ae];cases hS:kT im x.bY u x.g (7*((u+6)/7)) 0 []with
  |none=>rfl
  |some l=>
   exfalso;have Uv: ∀a j,a<16->j<16->16*a+j<(u+6)/7->∃g,gv im (f.getD a 0)=some g/\g.getD j 0≠0:=λa j ha hj hc=>by
    obtain⟨s,hs,hg⟩:=Zn9 _ _ _ _ hS (7*(16*a+j)) (cE _) (by omega) (by omega);unfold lA at hs;rw[hL]at hs;simp only at hs;rw[show 7*(16*a+j)/112=a by omega,show 7*(16*a+j)/7%16=j by omega]at hs;cases hA:gv im (f.getD a 0)with
    |none=>rw[hA]at hs;cases hs
    |some g=>
     rw[hA]at hs;refine⟨g,rfl,λe=>?_⟩;simp only at hs;rw[e,QS,show 7*(16*a+j)%7=0 by omega]at hs;cases hs;exact absurd hg (by decide)
   obtain⟨_,b2⟩:=Zrh (c:=(u+6)/7) f 0 [x.bY] pg hG (λa ha hc e=>by
    obtain⟨g,hg,hn⟩:=Uv a 0 (by omega) (by decide) (by omega);rw[e,KN]at hg;cases hg;exact hn rfl) λa g j ha hg hj hc=>by
    grind
   grind
theorem Zwv (hx:pK K.sup) (hm:64*K.m<=K.img.length) (v:bg) (hs:v.aK=[]):pO K v=match pQ (K.img.take (64*K.m)) K.sup with
  |none=>none
  |some (l,pg)=>bif eB K.m v.W pg&&l.all (qB K.sup.g)then some { v with aK:=l,W:=pg.foldl (bU K.m) v.W } else none:=by
 obtain⟨g1,g2,g3,g4,g5,g6⟩:=Z2 hx.g;have vF:=hx.u0;have yL:=hx.u1;obtain⟨u,hu⟩: ∃u:Nat,K.sup.used=(u:Int):=⟨K.sup.used.toNat,by omega⟩;by_cases h0:u=0
 .subst h0
  have hf:=hx.t0 hu;unfold pO pQ wL;rw[hu,hf,KN];simp only;rw[BE,show nR (K.img.take (64*K.m)) [] rh=some []from Zph _ [] 16];show some v=some { v with aK:=[],W:=v.W };rw[<-hs]
 .have hf:=hx.t1 (by omega)
  have nn:K.sup.bY≠0:=(λe=>by rw[e]at hf;cases hf);rw[Zvi hu (by omega) (by omega) nn];unfold pO dP gv;rw[ba nn,D1 hm,show(K.sup.used==0)=false by rw[hu];simp;omega,af];cases eO:ft K.m v.W K.sup.bY with
  |false=>
   rw[af];simp only;cases(bif fT K.m K.sup.bY then some (ZB K.img K.sup.bY.toNat)else none)with
   |none=>rfl
   |some ln=>
    simp only;cases Z3 ln with
    |none=>rfl
    |some g=>
     simp only;cases mB (K.img.take (64*K.m)) ((u+6)/7) 0 g with
     |none=>rfl
     |some q=>
      simp only;cases sG u K.sup.g 0 q.2 []with
      |none=>rfl
      |some l=>
       show none=bif (ft K.m v.W K.sup.bY&&_)&&_ then _ else _;rw[eO];rfl
  |true=>
  rw[(D3 eO).1,ae,ae];simp only;cases hL:Z3 (ZB K.img K.sup.bY.toNat)with
  |none=>
   cases hb:ZX (ZB K.img K.sup.bY.toNat)with
   |bY x=>rw[Ly.1 hb]at hL;cases hL
   |_=>rfl
  |some f=>
   rw[Ly.2 hL];simp only;rw[hu,Zsw (by omega)];have h1:=Sk hm (c:=(u+6)/7) f 0 { v with W:=bU K.m v.W K.sup.bY };rw[Int.ofNat_zero]at h1;rw[h1];cases mB (K.img.take (64*K.m)) ((u+6)/7) 0 f with
   |none=>rfl
   |some q=>
    obtain⟨bs,ls⟩:=q;simp only[xE];have gS:=SB hu ls 0 [] rfl;rw[hs];rw[Int.ofNat_zero]at gS;rw[gS];cases sG u K.sup.g 0 ls []with
    |none=>cases eB K.m (bU K.m v.W K.sup.bY) bs<;>rfl
    |some l=>
     simp only;rw[show eB K.m v.W (K.sup.bY::bs)=(ft K.m v.W K.sup.bY&&eB K.m (bU K.m v.W K.sup.bY) bs)from rfl,eO,dx];cases eB K.m (bU K.m v.W K.sup.bY) bs<;>cases l.all (qB K.sup.g)<;>rfl
theorem QL {im:aj} {top:Int} {u:Nat} {g:Int} : ∀(c i:Nat) (l l':List bw),kT im top u g c i l=some l'->(∀s∈l,s.gen<=g)->∀s∈l',s.gen<=g
 |0,_,_,_,h,hg=>by cases h;exact hg
 |c+1,i,l,l',h,hg=>by
  unfold kT at h;cases hF:lA im top i with
  |none=>rw[hF]at h;cases h
  |some s=>
  rw[hF]at h;simp only at h;cases hu:decide (u<=i)with
  |true=>
   rw[hu,ae]at h;cases hs:nh s with
   |false=>rw[hs]at h;cases h
   |true=>rw[hs]at h;exact QL c _ _ _ h hg
  |false=>
   rw[hu,af]at h;cases hb:decide (s.gen<1)||decide (s.gen>g)with
   |true=>rw[hb]at h;cases h
   |false=>
    rw[hb]at h;rw[Bh,wg,wg]at hb;refine QL c _ _ _ h λy hy=>?_
    grind
theorem Zts {x:dY} {l:List bw} (h:pQ im x=some (l,pg)): ∀s∈l,s.gen<=x.g:=by
 unfold pQ at h;cases hP:wL im x.bY with
 |none=>rw[hP]at h;cases h
 |some pg'=>
  rw[hP]at h;simp only at h;cases hd:decide (pg'.length=(x.used.toNat+6)/7+nY x.used.toNat)with
  |false=>rw[hd]at h;cases h
  |true=>
   rw[hd,ae]at h;cases hS:kT im x.bY x.used.toNat x.g (7*((x.used.toNat+6)/7)) 0 []with
   |none=>rw[hS]at h;cases h
   |some l'=>
    rw[hS]at h;cases h;exact QL _ _ _ _ hS λs hs=>nomatch hs
theorem Zto (h:16<=m:=by omega):dC (kE m [0,1])=[0,1]:=by
 refine Gq (zJ _) (by unfold kN;simp) λk=>?_
 rw[pN];constructor
 .rintro⟨b,rfl,hb⟩
  exact((uV _ b).1 hb).1
 .intro hk
  have xf:k=0\/k=1:=by simpa using hk
  exact⟨k.toNat,by omega,(uV _ _).2 (by grind)⟩
theorem Zqw {x:dY} (km:K.m=x.blocks.toNat) (ki:K.img=img) (ks:K.sup=x) (hx:pK x) (hb:x.blocks<=((img.length/64:Nat):Int)):match uC K with
  |none=>tL img x=none
  |some v=>tL img x=some (vV x v,dC v.W)/\∃all:ak,v.W=all.foldl (bU x.blocks.toNat) (kE x.blocks.toNat [0,1]):=by
 obtain⟨g1,g2,g3,g4,g5,g6⟩:=Z2 hx.g;obtain⟨m,hm⟩: ∃m:Nat,x.blocks=(m:Int):=by grind
 have jv:x.blocks.toNat=m:=by omega
 have hmi:64*m<=img.length:=by omega
 rw[jv]at km;have ui:64*K.m<=K.img.length:=by rw[km,ki];exact hmi
 obtain⟨W0,rp⟩: ∃W0,kE m [0,1]=W0:=⟨_,rfl⟩;have AL:W0.length=(m+63)/64:=by rw[<-rp];unfold kE;rw[(oL m _ _).1,uH]
 have Mn: ∀b,dT W0 b=true->b<m:=λb yy=>by rw[<-rp]at yy;exact((uV _ b).1 yy).2
 have Hx:dT W0 0=true:=by rw[<-rp];exact(uV _ 0).2 ⟨by simp,by omega⟩
 have HZ:dC W0=[0,1]:=by rw[<-rp];exact Zto
 have hp:=Zwv (by rw[ks];exact hx) ui (vZ K.m) rfl;rw[km,ki,ks]at hp;rw[jv,rp];unfold tL uC;rw[(zH x).2 hx,bp,af,aD (show ¬x.blocks>((img.length/64:Nat):Int) by omega),af,jv,km,hp];cases hS:pQ (img.take (64*m)) x with
 |none=>rfl
 |some q=>
 obtain⟨l,pg⟩:=q;obtain⟨s1,s2,s3,s4⟩:=Ri hx hS;have sg:=Zts hS;simp only;obtain⟨v1,xp⟩: ∃v1:bg, { vZ m with aK:=l,W:=pg.foldl (bU m) (vZ m).W } =v1:=⟨_,rfl⟩;have e1:v1.aK=l:=by rw[<-xp]
 have e2:v1.W=pg.foldl (bU m) W0:=by rw[<-xp,<-rp];rfl
 have e3:v1.aS=[]/\v1.aG=[]/\v1.free=[]/\v1.nodes=0:=by rw[<-xp];exact⟨rfl,rfl,rfl,rfl⟩
 rw[xp,show(vZ m).W=W0 from rp];have hf:=Zxc (K:=K) (v:=v1) (by rw[ks];exact hx) (by rw[ks,e1];exact s2) (λs hs hv=>by rw[e1]at hs;exact(ZjW (s1 s hs) hv).1) (by grind) e3.2.2.1;rw[ks,e1]at hf;cases hP:eB m W0 pg with
 |false=>
  rw[fP,af];simp only;cases vg l x with
  |none=>rfl
  |some fr=>
   simp only;cases uv (img.take (64*m)) x.dir with
   |none=>rfl
   |some q=>
    obtain⟨qs,bs⟩:=q;simp only;rw[Ha];cases ig (img.take (64*m)) x.used l qs [] [] 0 with
    |none=>rfl
    |some q=>
     obtain⟨h,a,n⟩:=q;simp only[me];have hr:=KI (pg++bs++a) W0 AL Mn Hx;rw[HZ,fA,zR,hP,fP,af,<-hm,<-fA]at hr;grind
 |true=>
 rw[dx];cases hA:l.all (qB x.g)with
 |false=>
  rw[hA,af]at hf;grind
 |true=>
 rw[hA,ae]at hf;rw[ae];simp only;rw[hf];cases hF:vg l x with
 |none=>rfl
 |some fr=>
 simp only[me];have hq:=ZuC ui { v1 with free:=fr } (by rw[km];exact(by rw[e2,(oL m _ _).1];exact AL)) e3.1;rw[km,ki,ks,e1]at hq;rw[hq];cases EC:uv (img.take (64*m)) x.dir with
 |none=>rfl
 |some q=>
 obtain⟨qs,bs⟩:=q;simp only;rw[Ha qs [] (pg++bs)];cases ig (img.take (64*m)) x.used l qs [] [] 0 with
 |none=>rfl
 |some q=>
 obtain⟨h,a,n⟩:=q;simp only[me,rb];rw[km,e2,e3.1,e3.2.2.2];have hr:=KI (pg++bs++a) W0 AL Mn Hx;rw[HZ,fA,zR,hP,dx,<-hm,<-fA,fA pg,Bk]at hr;rw[fA pg];cases eO:eB m (pg.foldl (bU m) W0) (bs++a)with
 |false=>
  rw[eO,af]at hr;rw[af];grind
 |true=>
  rw[eO,ae]at hr;rw[ae];simp only;have mF: ∀v:bg,v.aK=l->CW v=nz l:=λv e=>by unfold CW nz;rw[e]
  rw[mF _ rfl];rw[show((nz l:Int)+n==0)=decide ((nz l:Int)=0-n) by rw[lg];simp;omega];cases hR:oK x.blocks (pg++(bs++a)) [0,1]with
  |none=>rw[hR]at hr;cases hr
  |some r=>
   rw[hR]at hr;simp only at hr⊢;cases hd:decide (r.length=(pg++(bs++a)).length+2)with
   |false=>rw[show(([0,1]:ak).length)=2 from rfl,hd]at hr;cases hr
   |true=>
    rw[show(([0,1]:ak).length)=2 from rfl,hd,ae]at hr;cases hr;cases decide ((nz l:Int)=0-n)with
    |false=>rfl
    |true=>
     refine⟨?_,pg++(bs++a),by rw[Bk (l:=pg)];rfl⟩;unfold uu vV;grind
theorem ZtY {x:ZC} (h:ZF l=some x):x.name.length<=24:=by
 unfold ZF at h;split at h
 .cases h
 .rename_i k t b _
  cases hk:decide (k=5)with
  |false=>rw[hk]at h;cases h
  |true=>
   cases hc:decide (t<=24)with
   |false=>rw[hk,hc]at h;cases h
   |true=>
    rw[hk,hc]at h;cases hn:ZG (b.drop (28+t))with
    |false=>rw[hn]at h;cases h
    |true=>
     cases hr:mo (Z1 b t)with
     |false=>rw[hn,hr]at h;cases h
     |true=>
      rw[hn,hr]at h;grind[Z1]
theorem Zr8 {im:aj} : ∀(l:ak) (qs j9:List ZC),lJ im qs l=some j9->(∀q∈qs,q.name.length<=24)->(∀q∈j9,q.name.length<=24)/\j9.length=qs.length+l.length
 |[],qs,j9,h,hq=>by cases h;exact⟨hq,rfl⟩
 |k::r,qs,j9,h,hq=>by
  unfold lJ at h;cases hL:iU im k with
  |none=>rw[hL]at h;cases h
  |some c=>
   rw[hL]at h;simp only at h;cases hQ:ZF c with
   |none=>rw[hQ]at h;cases h
   |some q=>
    rw[hQ]at h;simp only at h;cases hN:vO qs q with
    |false=>rw[hN]at h;cases h
    |true=>
     rw[hN,ae]at h;obtain⟨h1,h2⟩:=Zr8 r _ _ h λy hy=>by
      rcases gU.1 hy with hy|hy
      .exact hq y hy
      .rw[cx.1 hy];exact ZtY hQ
     grind
theorem ZvG: ∀(es out:List bc),(es.foldl pd out).length=out.length+es.length
 |[],_=>rfl
 |e::es,out=>by rw[Df,ZvG es,Sb,cO];omega
theorem Zs0 {im:aj} {u:Int} {l:List bw} : ∀(qs:List ZC) (hs iy:List di) (all Hg:ak) (lv VO:Int),ig im u l qs hs all lv=some (iy,Hg,VO)->(∀q∈qs,q.name.length<=24)->(∀g∈hs,g.name.length<=24)->(∀g∈iy,g.name.length<=24)/\iy.length=hs.length+qs.length/\((iy.map (·.bS)).flatten).length+all.length=((hs.map (·.bS)).flatten).length+Hg.length
 |[],hs,iy,all,Hg,lv,VO,h,_,hg=>by cases h;grind
 |q::r,hs,iy,all,Hg,lv,VO,h,hq,hg=>by
  unfold ig at h;cases hF:tI im q.c9 with
  |none=>rw[hF]at h;cases h
  |some p=>
   obtain⟨es,ns⟩:=p;rw[hF]at h;simp only at h;cases hb:iO u l es ns with
   |false=>rw[hb]at h;cases h
   |true=>
    rw[hb,ae]at h;obtain⟨h1,h2,h3⟩:=Zs0 r _ _ _ _ _ _ h (by grind) λy hy=>by
     grind
    have h4:=Zna hF;have h5:(Z0 es).length=es.length:=by simp[Z0,ZvG]
    rw[fB,Jj,bA,bA,show([⟨q.name,Z0 es⟩]:List di).map (·.bS)=[Z0 es]from rfl,List.flatten_singleton,h5]at h3;rw[bA,iK]at h2;grind
theorem Zq7 {l:List bw} {u g:Int} : ∀(f:Nat) (k:Int) (out o:ak),lS l u g f k out=some o->o.length<=out.length+f
 |0,_,_,_,h=>by cases h
 |f+1,k,out,o,h=>by
  unfold lS at h;cases h0:k==0 with
  |true=>rw[h0]at h;cases h;omega
  |false=>
  rw[h0,af]at h;cases h1:decide (k>u)with
  |true=>rw[h1]at h;cases h
  |false=>
  rw[h1,af]at h;cases hg:l[(k-1).toNat]? with
  |none=>rw[hg]at h;cases h
  |some s=>
  rw[hg]at h;simp only at h;cases h2:s.live with
  |true=>rw[h2]at h;cases h
  |false=>
  cases h3:decide (s.gen>=g)with
  |true=>rw[h2,h3]at h;cases h
  |false=>
  cases h4:decide (k-1∈out)with
  |true=>rw[h2,h3,h4]at h;cases h
  |false=>
   rw[h2,h3,h4]at h;have:=Zq7 f _ _ _ h;rw[bA,iK]at this;omega
theorem Ztm {g:di} : ∀ {l:List di},g∈l->g.bS.length<=((l.map (·.bS)).flatten).length
 |x::l,h=>by
  rw[pF,De,bA];rcases dW.1 h with rfl|h
  .omega
  .have:=Ztm h;omega
theorem Zwd {x:dY} {y:eL} (hx:pK x) (h:tL img x=some (y,r)):By y/\r.length<5000:=by
 obtain⟨g1,g2,g3,g4,g5,g6⟩:=Z2 hx.g;obtain⟨m,hm⟩: ∃m:Nat,x.blocks=(m:Int):=⟨x.blocks.toNat,by omega⟩;unfold tL at h;rw[(zH x).2 hx,bp,af]at h;cases hb:decide (x.blocks>((img.length/64:Nat):Int))with
 |true=>rw[hb]at h;cases h
 |false=>
 rw[hb,af]at h;generalize img.take (64*x.blocks.toNat)=im at h;cases hS:pQ im x with
 |none=>rw[hS]at h;cases h
 |some q=>
 obtain⟨l,pg⟩:=q;rw[hS]at h;simp only at h;obtain⟨s1,s2,s3,s4⟩:=Ri hx hS;cases hF:vg l x with
 |none=>rw[hF]at h;cases h
 |some fr=>
 rw[hF]at h;simp only at h;have ew:fr.length<=l.length+2:=by
  unfold vg at hF;cases hL:lS l x.used x.g (l.length+2) x.free []with
  |none=>rw[hL]at hF;cases hF
  |some o=>
   rw[hL]at hF;simp only at hF;cases hA:qX x.g o 0 l with
   |false=>rw[hA]at hF;cases hF
   |true=>
    rw[hA]at hF;cases hF;have:=Zq7 _ _ _ _ hL;simpa using this
 cases hR:uv im x.dir with
 |none=>rw[hR]at h;cases h
 |some q=>
 obtain⟨qs,bs⟩:=q;rw[hR]at h;simp only at h;have AR:(∀q∈qs,q.name.length<=24)/\qs.length<=bs.length:=by
  unfold uv at hR;split at hR
  .grind
  .split at hR
   .cases hR
   .split at hR
    .cases hR
    .split at hR
     .cases hR
     .rename_i c _ l' _ qs' hq
      cases hR;obtain⟨a1,a2⟩:=Zr8 _ _ _ hq λq hq=>nomatch hq
      grind
 cases hW:ig im x.used l qs [] (pg++bs) (nz l)with
 |none=>rw[hW]at h;cases h
 |some q=>
 obtain⟨hs,all,lv⟩:=q;rw[hW]at h;simp only at h;obtain⟨w1,w2,w3⟩:=Zs0 _ _ _ _ _ _ _ hW AR.1 λg hg=>nomatch hg
 cases hG:oK x.blocks all [0,1]with
 |none=>rw[hG]at h;cases h
 |some r'=>
 rw[hG]at h;simp only at h;cases fg:lv==0 with
 |false=>rw[fg]at h;cases h
 |true=>
 rw[fg,ae]at h;cases hd:decide (r'.length=all.length+2)with
 |false=>rw[hd]at h;cases h
 |true=>
 rw[hd,ae]at h;cases h;have AL:(kE m [0,1]).length=(m+63)/64:=by unfold kE;rw[(oL m _ _).1,uH]
 have hr:=KI all (kE m [0,1]) AL (λb hb=>((uV _ b).1 hb).2) ((uV _ 0).2 ⟨by simp,by omega⟩);rw[Zto,<-hm,hG]at hr;simp only at hr;rw[show(([0,1]:ak).length)=2 from rfl,hd,ae]at hr;have agG:all.length<=m:=by
  cases eO:eB m (kE m [0,1]) all with
  |false=>rw[eO]at hr;cases hr
  |true=>exact ZsT AL eO
 have jH:=qL hd;rw[bA]at w3;simp only[List.map_nil,List.flatten_nil,Dh]at w2 w3;refine⟨⟨⟨by grind,λg hg=>?_,by grind⟩,by show((hs.map (·.bS)).flatten).length<=_;omega,by grind,by grind⟩,by omega⟩;have:g.bS.length<=((hs.map (·.bS)).flatten).length:=Ztm hg;omega
end Go.Gv.F
