/- The program's walk and the document's: what is taken, and blocks by kind. No program in sight. -/
import Derived.Test.YtegglibipjjblaaGreatDoorGvZMi
set_option linter.all false
namespace Go.Gv.F
open Go.Gv
def fb (m:Nat):al->ak->Bool
 |_,[]=>true
 |W,k::r=>fW m W k&&fb m (bN m W k) r
variable {k u y:Int} {es iy:List bm} {c d m n p:Nat} {v:aR} {im img l:aj} {gV ks pg r:ak} {W:al} {K:bP} {e:bm}
theorem Ztp {a:Int} (hl:W.length=(m+63)/64) (ha:fW m W a=true):fW m (bN m W a) k=(fW m W k&& !decide (k=a)):=by
 unfold fW at ha⊢;rw[rD hl];grind
theorem Jv {m:Nat} : ∀ {ks:ak} {W:al},W.length=(m+63)/64->(fb m W ks=true↔ks.Nodup/\∀k∈ks,fW m W k=true)
 |[],W,_=>by simp[fb]
 |a::r,W,hl=>by
  unfold fb;rw[aY,zY,Jv (by rw[pC];exact hl)];constructor
  .rintro⟨h1,h2,h3⟩
   have h4: ∀k∈r,fW m W k=true/\k≠a:=λk hk=>by
    have:=h3 k hk;rw[Ztp hl h1,aY,lT,xV]at this;exact this
   grind
  .rintro⟨⟨h1,h2⟩,h3⟩
   have h4:=h3 a tV;refine⟨h4,h2,λk hk=>?_⟩;rw[Ztp hl h4,h3 k (xT _ hk),dL,lT,xV];grind
theorem Cf {m:Nat} : ∀(a b:ak) (W:al),fb m W (a++b)=(fb m W a&&fb m (a.foldl (bN m) W) b)
 |[],_,_=>rfl
 |k::a,b,W=>by
  show(fW m W k&&fb m (bN m W k) (a++b))=((fW m W k&&fb m (bN m W k) a)&&_);rw[Cf a b,Bool.and_assoc];rfl
theorem ZtG {a b:ak} (hl:W.length=(m+63)/64) (h:a.Perm b):fb m W a=fb m W b:=by
 rw[lS,Jv hl,Jv hl,h.nodup_iff];grind
theorem Zwz (m:Nat) (W:al) (a b:Int):bN m (bN m W a) b=bN m (bN m W b) a:=by
 unfold bN;cases fN m a<;>cases fN m b<;>simp only[ae,af]
 refine tU λi=>?_
 grind
theorem Zrb {a b:ak} (h:a.Perm b): ∀(W:al),a.foldl (bN m) W=b.foldl (bN m) W:=by
 induction h with
 |nil=>exact λ_=>rfl
 |cons x _ ih=>exact λW=>ih _
 |swap x y l=>exact λW=>by simp only[BF,Zwz m W y x]
 |trans _ _ i1 i2=>grind
theorem Zu4 (hl:W.length=(m+63)/64) (h:fb m W ks=true):ks.length<=m:=by
 have⟨h1,h2⟩:=(Jv hl).1 h;have:=yp (m:=ZZ 0 m) h1 λk hk=>by
  grind[fW,fN,ZZ]
 grind[ZZ]
def zu (l:aj):Nat:=match fU l with
 |none=>0
 |some (k,_,_)=>k
theorem Og {x:jV} (h:jf l=some x):zu l=1:=by
 grind[jf,zu]
theorem N8 {x:List bB} (h:ZO l=some x):zu l=2:=by
 grind[ZO,zu]
theorem WU {x:ak} (h:iU l=some x):zu l=3:=by
 grind[iU,zu]
theorem Zx9 {x:ZH} (h:ZL l=some x):zu l=5:=by
 grind[ZL,zu]
theorem ZA0 {x:ak} (h:lG l=some x):zu l=6:=by
 grind[lG,zu]
theorem abJ {x:jV} :ZX l= .node x↔jf l=some x:=by
 grind[ZX]
theorem abI {x:List bB} :ZX l= .leaf x↔ZO l=some x:=by
 unfold ZX;cases h1:jf l with
 |some y=>
  cases h2:ZO l with
  |none=>simp
  |some z=>have:=Og h1;rw[N8 h2]at this;cases this
 |none=>cases h2:ZO l<;>cases h3:iU l<;>cases h4:ZL l<;>cases h5:lG l<;>simp
theorem Ot {x:ak} :ZX l= .cm x↔iU l=some x:=by
 unfold ZX;cases h3:iU l with
 |none=>cases h1:jf l<;>cases h2:ZO l<;>cases h4:ZL l<;>cases h5:lG l<;>simp
 |some z=>
  have hk:=WU h3;cases h1:jf l with
  |some y=>rw[Og h1]at hk;cases hk
  |none=>
   cases h2:ZO l with
   |some y=>rw[N8 h2]at hk;cases hk
   |none=>simp
theorem abK {x:ZH} :ZX l= .queue x↔ZL l=some x:=by
 unfold ZX;cases h4:ZL l with
 |none=>cases h1:jf l<;>cases h2:ZO l<;>cases h3:iU l<;>cases h5:lG l<;>simp
 |some z=>
  have hk:=Zx9 h4;cases h1:jf l with
  |some y=>rw[Og h1]at hk;cases hk
  |none=>
   cases h2:ZO l with
   |some y=>rw[N8 h2]at hk;cases hk
   |none=>
    cases h3:iU l with
    |some y=>rw[WU h3]at hk;cases hk
    |none=>simp
theorem abH {x:ak} :ZX l= .dir x↔lG l=some x:=by
 unfold ZX;cases h5:lG l with
 |none=>cases h1:jf l<;>cases h2:ZO l<;>cases h3:iU l<;>cases h4:ZL l<;>simp
 |some z=>
  have hk:=ZA0 h5;cases h1:jf l with
  |some y=>rw[Og h1]at hk;cases hk
  |none=>
   cases h2:ZO l with
   |some y=>rw[N8 h2]at hk;cases hk
   |none=>
    cases h3:iU l with
    |some y=>rw[WU h3]at hk;cases hk
    |none=>
     cases h4:ZL l with
     |some y=>rw[Zx9 h4]at hk;cases hk
     |none=>simp
theorem Gw (hm:64*m<=img.length) (k:Int):jC (img.take (64*m)) k=bif fN m k then some (ZG img k.toNat)else none:=by
 have h1:(img.take (64*m)).length/64=m:=by rw[cR];omega
 unfold jC fN;rw[h1];by_cases hk:0<=k/\k<(m:Int)
 .rw[bq AC,aS hk.1,aS hk.2,wC,ae,adf]
  grind[nU,BD,BH]
 grind
theorem Gr (h:fW m W k=true):fN m k=true/\2<=k:=by
 grind[fW]
def lY:Option (List bm×aR)->Option (List bm×aR)->Prop
 |none,none=>True
 |some (a,v),some (b,w)=>a.Perm b/\v=w
 |_,_=>False
theorem lY.refl: ∀a,lY a a
 |none=>trivial
 |some _=>⟨.refl _,rfl⟩
theorem lY.of {a b:Option (List bm×aR)} (h:a=b):lY a b:=h▸lY.refl a
theorem lY.trans: ∀ {a b c:Option (List bm×aR)},lY a b->lY b c->lY a c
 |none,none,_,_,h=>h
 |some _,some _,some _,h,k=>⟨h.1.trans k.1,h.2.trans k.2⟩
theorem ZrE {K:bP} : ∀(f:Nat) {a b:List bm} (t:List nB) (v:aR),a.Perm b->lY (jX K f a t v) (jX K f b t v)
 |0,_,_,_,_,_=>trivial
 |_+1,_,_,[],_,h=>⟨h,rfl⟩
 |f+1,a,b,t::r,v,h=>by
  unfold jX;split
  .rename_i x v' _
   cases vt K v' t x with
   |false=>trivial
   |true=>exact ZrE f _ _ (h.append_right _)
  .trivial
def jb (K:bP) (v:aR) (bs:ak) (n:Nat):aR:= { v with W:=bs.foldl (bN K.m) v.W,nodes:=v.nodes+(n:Int) }
theorem Zvg (K:bP) (v:aR) (a b:ak) (i j:Nat):jb K (jb K v a i) b j=jb K v (a++b) (i+j):=by
 grind[jb]
theorem Zzd (K:bP) (v:aR) {a b:ak} (h:a.Perm b) (i:Nat):jb K v a i=jb K v b i:=by
 unfold jb;rw[Zrb h]
theorem NG (u:Int) (l:List bB): ∀(es:List bm) (ns:ak) (iy:List bm) (Lz:ak),es.length=ns.length->ju u l (es++iy) (ns++Lz)=(ju u l es ns&&ju u l iy Lz)
 |[],[],_,_,_=>rfl
 |e::es,n::ns,iy,Lz,h=>by
  show(bif j4 u l e n then ju u l (es++iy) (ns++Lz)else false)=((bif j4 u l e n then ju u l es ns else false)&&_);rw[NG u l es ns iy Lz (by simpa using h)];cases j4 u l e n<;>rfl
def okB (K:bP) (v:aR) (es:List bm) (bs:ak):Bool:=ju K.sup.used v.aG es bs&&fb K.m v.W bs
theorem ZAO (hl:v.W.length=(K.m+63)/64) {bs:ak} (h:es.length=bs.length) (n:Nat):okB K v (es++iy) (bs++gV)=(okB K v iy gV&&okB K (jb K v gV n) es bs):=by
 unfold okB jb;rw[NG _ _ _ _ _ _ h,ZtG hl (List.perm_append_comm (l₁:=bs) (l₂:=gV)),Cf];cases ju K.sup.used v.aG es bs<;>cases ju K.sup.used v.aG iy gV<;>simp
def LS (K:bP) (im:aj) (d:Nat) (k:Int) (par:bm) (top:Bool) (f:Nat) (out:List bm) (rest:List nB) (v:aR):Option (List bm×aR):=match lR im d k with
 |none=>none
 |some (es,bs)=>bif (bif top then true else fD par (es.headD yI))&&okB K v es bs then jX K (f-es.length) (out++es) rest (jb K v bs es.length)else none
def Lq (K:bP) (im:aj) (j:Nat) (x:jV) (f:Nat) (out:List bm) (rest:List nB) (v:aR):Option (List bm×aR):=match j1 im j x.kids x.bL with
 |none=>none
 |some (es,bs)=>bif okB K v es bs then jX K (f-es.length) (out++es) rest (jb K v bs es.length)else none
theorem Zye (hm:64*m<=img.length) (k:Int):uU (img.take (64*m)) k=bif fN m k then jf (ZG img k.toNat)else none:=by
 unfold uU;rw[Gw hm];cases fN m k<;>rfl
def TP (K:bP) (im:aj) (d:Nat):Prop:=∀(k:Int) (par:bm) (top:Bool) (f:Nat) (out:List bm) (rest:List nB) (v:aR),v.W.length=(K.m+63)/64->lY (jX K f out (⟨k,d,par,top⟩::rest) v) (LS K im d k par top f out rest v)
def KP (K:bP) (im:aj) (j:Nat):Prop:=∀(x:jV) (f:Nat) (out:List bm) (rest:List nB) (v:aR),v.W.length=(K.m+63)/64->lY (jX K f out (tG x j++rest) v) (Lq K im j x f out rest v)
theorem We (hl:v.W.length=(K.m+63)/64) (bs:ak) (n:Nat):(jb K v bs n).W.length=(K.m+63)/64:=(ZE K.m bs v.W).1.trans hl
theorem adF (hm:64*K.m<=K.img.length) (h:KP K (K.img.take (64*K.m)) d):TP K (K.img.take (64*K.m)) d:=by
 intro k par top f out rest v hl;cases f with
 |zero=>
  refine lY.of ?_;unfold LS;cases lR (K.img.take (64*K.m)) d k with
  |none=>rfl
  |some q=>
   have⟨es,bs⟩:=q;simp only[Nat.zero_sub];cases(bif top then true else fD par (es.headD yI))&&okB K v es bs<;>rfl
 |succ f=>
 have hL:jX K (f+1) out (⟨k,d,par,top⟩::rest) v=match dT K k v with
  |some (.node x,v')=>bif vt K v' ⟨k,d,par,top⟩ x then jX K f (out++[x.bL]) (tG x x.kids.length++rest) { v' with nodes:=v'.nodes+1 } else none
  |_=>none:=rfl
 rw[hL];unfold LS lR dT;rw[Zye hm];cases hf:fW K.m v.W k with
 |false=>
  refine lY.of ?_;cases(bif fN K.m k then jf (ZG K.img k.toNat)else none)with
  |none=>rfl
  |some x=>
   simp only;cases decide (x.kids.length=d)with
   |false=>rfl
   |true=>
    cases j1 (K.img.take (64*K.m)) d x.kids x.bL with
    |none=>rfl
    |some q=>
     simp only[ae,okB,fb,hf,gu,DD,af]
 |true=>
 rw[(Gr hf).1,ae,ae];cases hN:jf (ZG K.img k.toNat)with
 |none=>
  cases hb:ZX (ZG K.img k.toNat)with
  |node x=>rw[abJ.1 hb]at hN;cases hN
  |_=>trivial
 |some x=>
  rw[abJ.2 hN];simp only;have pW:vt K { v with W:=bN K.m v.W k } ⟨k,d,par,top⟩ x=(decide (x.kids.length=d)&&((bif top then true else fD par x.bL)&&j4 K.sup.used v.aG x.bL k)):=by
   grind[vt,j4,El]
  rw[pW];cases hd:decide (x.kids.length=d)with
  |false=>trivial
  |true=>
   have kV:x.kids.length=d:=mW hd;rw[ae,kV,dL];have hk:=h x f (out++[x.bL]) rest { v with W:=bN K.m v.W k,nodes:=v.nodes+1 } ((pC K.m v.W k).trans hl);unfold Lq at hk;cases hT:j1 (K.img.take (64*K.m)) d x.kids x.bL with
   |none=>
    rw[hT]at hk;cases(bif top then true else fD par x.bL)&&j4 K.sup.used v.aG x.bL k with
    |false=>trivial
    |true=>exact hk
   |some q=>
    have⟨es,bs⟩:=q;rw[hT]at hk;simp only at hk⊢;have ho:okB K v (x.bL::es) (k::bs)=(j4 K.sup.used v.aG x.bL k&&okB K { v with W:=bN K.m v.W k,nodes:=v.nodes+1 } es bs):=by
     unfold okB;show((bif j4 K.sup.used v.aG x.bL k then ju K.sup.used v.aG es bs else false)&&(fW K.m v.W k&&fb K.m (bN K.m v.W k) bs))=_;rw[hf,dL];cases j4 K.sup.used v.aG x.bL k<;>rfl
    have hu:jb K { v with W:=bN K.m v.W k,nodes:=v.nodes+1 } bs es.length=jb K v (k::bs) (x.bL::es).length:=by
     grind[jb]
    rw[hu,fR]at hk;rw[ho,cQ,show f+1-(es.length+1)=f-es.length by omega];show lY _ (bif (bif top then true else fD par x.bL)&&(j4 K.sup.used v.aG x.bL k&&okB K { v with W:=bN K.m v.W k,nodes:=v.nodes+1 } es bs)then jX K (f-es.length) (out++([x.bL]++es)) rest (jb K v (k::bs) (x.bL::es).length)else none);cases(bif top then true else fD par x.bL)with
    |false=>trivial
    |true=>
     cases j4 K.sup.used v.aG x.bL k with
     |false=>trivial
     |true=>exact hk
theorem ZxZ {K:bP} (hm:64*K.m<=K.img.length): ∀j,KP K (K.img.take (64*K.m)) j
 |0=>λx f out rest v _=>lY.of (by
   unfold Lq j1;show jX K f out rest v=jX K (f-0) (out++[]) rest (jb K v [] 0);rw[gM];unfold jb;simp)
 |j+1=>λx f out rest v hl=>by
  have ih:=ZxZ hm j;have ht:=adF hm ih (x.kids.getD j 0) x.bL false f out (tG x j++rest) v hl;rw[ZpQ,od];refine ht.trans ?_;unfold Lq LS;rw[Uf];cases hT:lR (K.img.take (64*K.m)) j (x.kids.getD j 0)with
  |none=>
   refine lY.of ?_;grind
  |some q=>
   have⟨fq,gq⟩:=q;simp only[af];have hk:=ih x (f-fq.length) (out++fq) rest (jb K v gq fq.length) (We hl _ _);unfold Lq at hk;cases hS:j1 (K.img.take (64*K.m)) j x.kids x.bL with
   |none=>
    rw[hS]at hk;cases fD x.bL (fq.headD yI)&&okB K v fq gq with
    |false=>trivial
    |true=>exact hk
   |some q=>
    have⟨es,bs⟩:=q;rw[hS]at hk;simp only at hk⊢;show lY _ (match (bif fD x.bL (fq.headD yI)then some (es++fq,bs++gq)else none)with
     |none=>none
     |some (es,bs)=>bif okB K v es bs then jX K (f-es.length) (out++es) rest (jb K v bs es.length)else none)
    cases fD x.bL (fq.headD yI)with
    |false=>trivial
    |true=>
     simp only[dL,ae];rw[ZAO hl (IU _ _ _ _ _ hS).2.symm fq.length];cases okB K v fq gq with
     |false=>trivial
     |true=>
      rw[ae,dL];refine hk.trans ?_;cases okB K (jb K v gq fq.length) es bs with
      |false=>trivial
      |true=>
       rw[ae,ae,Zvg,Zzd K v (List.perm_append_comm (l₁:=gq) (l₂:=bs)),bz,tX fq.length,show f-fq.length-es.length=f-(es.length+fq.length) by omega,fR];exact ZrE _ _ _ (List.perm_append_comm.append_left out)
def Hh (K:bP) (v:aR) (acc:List bm):Option (List bm×ak)->Option (List bm×aR)
 |none=>none
 |some (es,bs)=>bif okB K v es bs then some (acc++es,jb K v bs es.length)else none
theorem ZzC (hm:64*K.m<=K.img.length) (d:Nat) (k:Int) (v:aR) (hl:v.W.length=(K.m+63)/64):lY (su K k d v) (Hh K v [] (lR (K.img.take (64*K.m)) d k)):=by
 have h:=adF hm (ZxZ hm d) k yI true (K.m+1) [] [] v hl;unfold su;refine h.trans (lY.of ?_);unfold LS;cases hT:lR (K.img.take (64*K.m)) d k with
 |none=>rfl
 |some q=>
  have⟨es,bs⟩:=q;simp only[Hh,ae,dL];cases ho:okB K v es bs with
  |false=>rfl
  |true=>
   unfold okB at ho;rw[aY]at ho;have h1:=Zu4 hl ho.2;have h2:=(D5 hT).2;rw[show K.m+1-es.length=(K.m-es.length)+1 by omega];rfl
theorem MT {im:aj} : ∀(l:ak) (i:Nat) (es:List bm) (bs:ak),mb im i l es bs=(mb im i l [] []).map λq=>(es++q.1,bs++q.2)
 |[],_,_,_=>by simp[mb]
 |k::r,i,es,bs=>by
  unfold mb;cases k==0 with
  |true=>exact MT r _ es bs
  |false=>
   rw[af,af];cases lR im i k with
   |none=>rfl
   |some q=>
    have⟨fq,gq⟩:=q;simp only[iG];rw[MT r _ (es++fq),MT r _ fq];cases mb im (i+1) r [] []with
    |none=>rfl
    |some q=>simp
theorem V5 {K:bP} (hm:64*K.m<=K.img.length): ∀(l:ak) (i:Nat) (acc:List bm) (v:aR),v.W.length=(K.m+63)/64->lY (mw K (i:Int) l acc v) (Hh K v acc (mb (K.img.take (64*K.m)) i l [] []))
 |[],i,acc,v,_=>by
  show lY (some (acc,v)) (some (acc++[],jb K v [] 0));refine⟨by rw[gM],?_⟩;unfold jb;simp
 |k::r,i,acc,v,hl=>by
  unfold mw mb;cases k==0 with
  |true=>
   have:=V5 hm r (i+1) acc v hl;rwa [show((i+1:Nat):Int)=(i:Int)+1 by omega]at this
  |false=>
   rw[bp,ae,af];have ht:=ZzC hm i k v hl;cases hT:lR (K.img.take (64*K.m)) i k with
   |none=>
    rw[hT]at ht;cases hM:su K k i v with
    |none=>trivial
    |some q=>rw[hM]at ht;exact ht.elim
   |some q=>
    have⟨fq,gq⟩:=q;rw[hT]at ht;simp only[Hh,iG]at ht⊢;rw[MT r];cases ho:okB K v fq gq with
    |false=>
     rw[ho]at ht;cases hM:su K k i v with
     |some q=>rw[hM]at ht;exact ht.elim
     |none=>
      cases hF:mb (K.img.take (64*K.m)) (i+1) r [] []with
      |none=>trivial
      |some q=>
       have⟨es,bs⟩:=q;simp only[ny];rw[show okB K v (fq++es) (gq++bs)=(okB K v fq gq&&_)from by
        unfold okB;rw[NG _ _ _ _ _ _ (D5 hT).2.symm,Cf,show ∀a b c d:Bool,((a&&b)&&(c&&d))=((a&&c)&&(b&&d))from by decide],ho]
       trivial
    |true=>
     rw[ho]at ht;cases hM:su K k i v with
     |none=>rw[hM]at ht;exact ht.elim
     |some q=>
      have⟨out,w⟩:=q;rw[hM]at ht;obtain⟨hp,rfl⟩:=ht;have ih:=V5 hm r (i+1) (acc++out) (jb K v gq fq.length) (We hl _ _);rw[show((i+1:Nat):Int)=(i:Int)+1 by omega]at ih;refine ih.trans ?_;cases hF:mb (K.img.take (64*K.m)) (i+1) r [] []with
      |none=>trivial
      |some q=>
       have⟨es,bs⟩:=q;simp only[ny,Hh];rw[show okB K v (fq++es) (gq++bs)=(okB K v fq gq&&okB K (jb K v gq fq.length) es bs)from by
        unfold okB jb;simp only;rw[NG _ _ _ _ _ _ (D5 hT).2.symm,Cf,show ∀a b c d:Bool,((a&&b)&&(c&&d))=((a&&c)&&(b&&d))from by decide],ho,dL]
       cases okB K (jb K v gq fq.length) es bs with
       |false=>trivial
       |true=>
        rw[ae,ae,Zvg,<-bz,fR];exact⟨(hp.append_right es).append_left acc,rfl⟩
theorem Zuy {a b c:bm} (h:fD a b=true) (k:fD b c=true):fD a c=true:=by
 rw[Nx]at h k⊢;exact U7 h k
theorem Zzh {a b:bm} (h:a.slot≠b.slot) (k:fD a b=false):fD b a=true:=by
 have:=VD (x:=e4 a) (y:=e4 b) h;rw[<-Nx,<-Nx,k,wD]at this;exact this
theorem ZtA (e:bm) (out:List bm): ∀k,(∀i,si e out k<=i->i<k->fD e (out.getD i ⟨0,0,0,0⟩)=true)/\(0<si e out k->fD e (out.getD (si e out k-1) ⟨0,0,0,0⟩)=false)
 |0=>⟨AC,λh=>absurd h (Nat.lt_irrefl _)⟩
 |k+1=>by
  have⟨h1,h2⟩:=ZtA e out k;grind[si]
theorem ZAP {out:List bm} (h:out.Pairwise λa b=>fD a b=true) (hd: ∀x∈out,x.slot≠e.slot):(qL out e).Perm (e::out)/\(qL out e).Pairwise λa b=>fD a b=true:=by
 unfold qL;have⟨h1,h2⟩:=ZtA e out out.length;have hp:=Zu9 e out out.length;generalize si e out out.length=p at h1 h2 hp;have hc: ∀i,(hi:i<out.length)->out.getD i ⟨0,0,0,0⟩=out[i]:=Fd
 constructor
 .refine List.perm_middle.trans ?_
  rw[oX]
 .have hb: ∀a∈out.take p,fD a e=true:=λa ha=>by
   obtain⟨i,hi,rfl⟩:=H9 ha;rw[cR]at hi;rw[List.getElem_take];have lN:p-1<out.length:=AC
   have h3:=h2 AC;rw[hc _ lN]at h3;have h4:=Zzh Fd h3;rcases kz i (p-1)with h5|h5
   .exact Zuy ((Mc.1 h) i (p-1) AC lN h5) h4
   grind
  refine Mb.2 ⟨Fd,List.pairwise_cons.2 ⟨λa ha=>?_,Fd⟩,λa ha b dV=>?_⟩
  .obtain⟨i,hi,rfl⟩:=H9 ha
   rw[eH]at hi;rw[List.getElem_drop,<-hc _ AC];grind
  .rcases eM.1 dV with rfl|dV
   .exact hb a ha
   .rw[<-oX p out]at h
    grind
theorem Zro: ∀(l out:List bm),(out.Pairwise λa b=>fD a b=true)->(∀x∈out,∀y∈l,x.slot≠y.slot)->Diff l->(l.foldl qL out).Perm (out++l)/\(l.foldl qL out).Pairwise λa b=>fD a b=true
 |[],out,h,_,_=>(by simp_all)
 |e::l,out,h,hd,.cons h1 h2=>by
  have⟨a1,a2⟩:=ZAP h (λx hx=>hd x hx e tV);have⟨b1,b2⟩:=Zro l (qL out e) a2 (λx hx y hy=>by
   grind) h2
  exact⟨b1.trans ((a1.append_right l).trans List.perm_middle.symm),b2⟩
theorem ZAn (hp:iy.Perm es) (hd:Diff es):lQ iy=Z8 es:=by
 have⟨h1,h2⟩:=Zro es [] .nil (λx hx=>nomatch hx) hd;rw[iG]at h1;exact Zw1 (hp.trans h1.symm) h2 (by
  have:=h1.map (·.slot);exact this.nodup_iff.2 (Ia.2 hd))
theorem ZsU (u:Int) (l:List bB): ∀(es:List bm) (ns:ak),es.length=ns.length->ju u l es ns=true->∀x∈es,∃w∈ns,j4 u l x w=true
 |[],_,_,_,_,hx=>nomatch hx
 |e::es,n::ns,h,hf,x,hx=>by
  have hf:(bif j4 u l e n then ju u l es ns else false)=true:=hf;cases he:j4 u l e n with
  |false=>rw[he]at hf;cases hf
  |true=>
   rw[he,ae]at hf;rcases eM.1 hx with rfl|hx
   .grind
   .have⟨w,hw,fY⟩:=ZsU u l es ns (by simpa using h) hf x hx
    grind
theorem ZzT {l:List bB} {x:bm} {a b:Int} (h:j4 u l e a=true) (k:j4 u l x b=true) (hs:e.slot=x.slot):a=b:=by
 unfold j4 at h k;rw[<-hs]at k;cases hd:decide (e.slot>=u)with
 |true=>rw[hd]at h;cases h
 |false=>
  rw[hd,af]at h k;cases hg:l[e.slot.toNat]? with
  |none=>rw[hg]at h;cases h
  |some s=>
   rw[hg]at h k;grind
theorem ZrX (u:Int) (l:List bB): ∀(es:List bm) (ns:ak),es.length=ns.length->ju u l es ns=true->ns.Nodup->Diff es
 |[],_,_,_,_=> .nil
 |e::es,n::ns,h,hf,hn=>by
  have hf:(bif j4 u l e n then ju u l es ns else false)=true:=hf;cases he:j4 u l e n with
  |false=>rw[he]at hf;cases hf
  |true=>
   rw[he,ae]at hf;rw[zY]at hn;have hl:es.length=ns.length:=by simpa using h
   refine .cons (λx hx hs=>?_) (ZrX u l es ns hl hf hn.2);have⟨w,hw,fY⟩:=ZsU u l es ns hl hf x hx;exact hn.1 (ZzT he fY hs▸hw)
theorem Vx {im:aj} : ∀(l:ak) (i:Nat) (es:List bm) (bs:ak) {iy:List bm} {gV:ak},mb im i l es bs=some (iy,gV)->es.length=bs.length->iy.length=gV.length
 |[],_,_,_,_,_,h,k=>by cases h;exact k
 |y::r,i,es,bs,iy,gV,h,k=>by
  unfold mb at h;cases hy:y==0 with
  |true=>rw[hy,ae]at h;exact Vx r _ _ _ h k
  |false=>
   rw[hy,af]at h;cases hT:lR im i y with
   |none=>rw[hT]at h;cases h
   |some q=>
    have⟨fq,gq⟩:=q;rw[hT]at h;exact Vx r _ _ _ h (by rw[bz,bz,k,(D5 hT).2])
theorem Zo7 {l:ak} {bs:ak} (h:vB im l=some (es,bs)):es.length=bs.length:=Vx l 0 [] [] h rfl
theorem JD {im:aj} {u:Int} {l:List bB} : ∀(qs:List ZH) (hs:List dJ) (all:ak) (lv:Int),iP im u l qs hs all lv=(iP im u l qs [] [] 0).map λq=>(hs++q.1,all++q.2.1,lv+q.2.2)
 |[],_,_,_=>by simp[iP]
 |q::r,hs,all,lv=>by
  unfold iP;cases vB im q.dH with
  |none=>rfl
  |some p=>
   have⟨es,ns⟩:=p;simp only[iG];cases ju u l es ns with
   |false=>rfl
   |true=>
    rw[ae,ae,JD r (hs++_),JD r [_]];cases iP im u l r [] [] 0 with
    |none=>rfl
    |some p=>grind
theorem ZwQ {im:aj} : ∀(l:ak) (qs lq:List ZH),mR im qs l=some lq->∃new,lq=qs++new
 |[],qs,lq,h=>⟨[],by rw[gM];cases h;rfl⟩
 |k::r,qs,lq,h=>by
  unfold mR at h;cases hL:jC im k with
  |none=>rw[hL]at h;cases h
  |some c=>
   rw[hL]at h;simp only at h;cases hQ:ZL c with
   |none=>rw[hQ]at h;cases h
   |some q=>
    rw[hQ]at h;simp only at h;cases hN:xE qs q with
    |false=>rw[hN]at h;cases h
    |true=>
     rw[hN,ae]at h;obtain⟨new,rfl⟩:=ZwQ r _ _ h;simp
theorem ZAb {qs:List ZH} (h:v.aK.map (·.name)=qs.map (·.name)) (q:ZH):AD v qs.length q.name=xE qs q:=by
 unfold AD xE;rw[List.getLast?_eq_getElem?];by_cases h0:qs.length=0
 .rw[zW.1 h0];rfl
 .rw[aZ h0]
  have hg: ∀i:Nat,(v.aK[i]?).map dJ.name=(qs[i]?).map ZH.name:=λi=>by rw[<-sC,<-sC,h]
  have h1:=hg (qs.length-1);have h2:qs[qs.length-1]? =some qs[qs.length-1]:=cu AC;rw[h2]at h1⊢;grind
def tj (K:bP) (v:aR) (l:ak):Option (List dJ×ak×Int)->Option aR
 |none=>none
 |some (h,a,n)=>bif fb K.m v.W (l++a)then some { v with aK:=v.aK++h,W:=(l++a).foldl (bN K.m) v.W,nodes:=v.nodes-n } else none
theorem Zvj {l:ak} (h: ∀a,fb K.m v.W (l++a)=false): ∀q,tj K v l q=none
 |none=>rfl
 |some (_,a,_)=>by grind[tj]
theorem ZwN {K:bP} (hm:64*K.m<=K.img.length): ∀(l:ak) (qs:List ZH) (v:aR),v.W.length=(K.m+63)/64->v.aK.map (·.name)=qs.map (·.name)->
  uy K qs.length l v=match mR (K.img.take (64*K.m)) qs l with
   |none=>none
   |some lq=>tj K v l (iP (K.img.take (64*K.m)) K.sup.used v.aG (lq.drop qs.length) [] [] 0)
 |[],qs,v,_,_=>by
  show some v=tj K v [] (iP (K.img.take (64*K.m)) K.sup.used v.aG (qs.drop qs.length) [] [] 0);rw[List.drop_length];simp[iP,tj,fb]
 |y::r,qs,v,hl,hn=>by
  unfold uy mR dT;rw[Gw hm];cases hf:fW K.m v.W y with
  |false=>
   have cD: ∀q,tj K v (y::r) q=none:=Zvj λa=>by
    show(fW K.m v.W y&&_)=false;rw[hf,gu]
   grind
  |true=>
  rw[(Gr hf).1,ae,ae];simp only;cases hQ:ZL (ZG K.img y.toNat)with
  |none=>
   cases hb:ZX (ZG K.img y.toNat)with
   |queue x=>rw[abK.1 hb]at hQ;cases hQ
   |_=>rfl
  |some q=>
  rw[abK.2 hQ];simp only;rw[show AD { v with W:=bN K.m v.W y } qs.length q.name=xE qs q from ZAb hn q];cases hN:xE qs q with
  |false=>rfl
  |true=>
  rw[ae,ae];have nn:({ v with W:=bN K.m v.W y } :aR).W.length=(K.m+63)/64:=(pC K.m v.W y).trans hl;have hh:=V5 hm q.dH 0 [] { v with W:=bN K.m v.W y } nn;rw[Int.ofNat_zero,show mb (K.img.take (64*K.m)) 0 q.dH [] []=vB (K.img.take (64*K.m)) q.dH from rfl]at hh;have Bi: ∀new,iP (K.img.take (64*K.m)) K.sup.used v.aG (q::new) [] [] 0=match vB (K.img.take (64*K.m)) q.dH with
    |none=>none
    |some (es,ns)=>bif ju K.sup.used v.aG es ns then iP (K.img.take (64*K.m)) K.sup.used v.aG new [⟨q.name,Z8 es⟩] ns (0-es.length)else none:=λnew=>rfl
  have X1: ∀lq,mR (K.img.take (64*K.m)) (qs++[q]) r=some lq->∃new,lq.drop qs.length=q::new/\lq.drop (qs.length+1)=new:=λlq h1=>by
   obtain⟨new,rfl⟩:=ZwQ _ _ _ h1;simp
  cases hF:vB (K.img.take (64*K.m)) q.dH with
  |none=>
   rw[hF]at hh;cases hM:mw K 0 q.dH [] { v with W:=bN K.m v.W y } with
   |some p=>rw[hM]at hh;exact hh.elim
   |none=>
    cases hS:mR (K.img.take (64*K.m)) (qs++[q]) r with
    |none=>rfl
    |some lq=>
     have⟨new,e1,_⟩:=X1 _ hS;simp only;rw[e1,Bi,hF];rfl
  |some p=>
  have⟨es,ns⟩:=p;rw[hF]at hh;simp only[Hh,iG]at hh;have ac3: ∀new,iP (K.img.take (64*K.m)) K.sup.used v.aG (q::new) [] [] 0=bif ju K.sup.used v.aG es ns then(iP (K.img.take (64*K.m)) K.sup.used v.aG new [] [] 0).map (λq'=>([⟨q.name,Z8 es⟩]++q'.1,ns++q'.2.1,0-(es.length:Int)+q'.2.2))else none:=λnew=>by
   rw[Bi,hF];simp only;rw[JD new]
  have dW: ∀a,fb K.m v.W (y::r++(ns++a))=(fb K.m (bN K.m v.W y) ns&&fb K.m (ns.foldl (bN K.m) (bN K.m v.W y)) (r++a)):=λa=>by
   show(fW K.m v.W y&&fb K.m (bN K.m v.W y) (r++(ns++a)))=_;rw[hf,dL,<-Cf];refine ZtG nn ?_;rw[<-fR,<-fR];grind
  have hlen:=Zo7 hF;cases ho:okB K { v with W:=bN K.m v.W y } es ns with
  |false=>
   rw[ho]at hh;cases hM:mw K 0 q.dH [] { v with W:=bN K.m v.W y } with
   |some p=>rw[hM]at hh;exact hh.elim
   |none=>
    cases hS:mR (K.img.take (64*K.m)) (qs++[q]) r with
    |none=>rfl
    |some lq=>
     have⟨new,e1,_⟩:=X1 _ hS;simp only;rw[e1,ac3];unfold okB at ho;cases Hj:ju K.sup.used v.aG es ns with
     |false=>rfl
     |true=>
      rw[show ju K.sup.used ({ v with W:=bN K.m v.W y } :aR).aG es ns=true from Hj,dL]at ho;rw[ae];cases iP (K.img.take (64*K.m)) K.sup.used v.aG new [] [] 0 with
      |none=>rfl
      |some p=>
       rw[ny,tj,dW,ho];rfl
  |true=>
   rw[ho]at hh;have uN:=ho;unfold okB at uN;rw[aY]at uN;have hd:Diff es:=ZrX _ _ es ns hlen uN.1 ((Jv nn).1 uN.2).1;cases hM:mw K 0 q.dH [] { v with W:=bN K.m v.W y } with
   |none=>rw[hM]at hh;exact hh.elim
   |some p=>
    have⟨out,w⟩:=p;rw[hM]at hh;obtain⟨hp,rfl⟩:=hh;simp only;rw[ZAn hp hd];have ih:=ZwN hm r (qs++[q]) { (jb K { v with W:=bN K.m v.W y } ns es.length)with aK:=v.aK++[⟨q.name,Z8 es⟩] } (We nn ns es.length) (by rw[fB,fB,hn];rfl);rw[show(qs++[q]).length=qs.length+1 by simp]at ih;refine ih.trans ?_;cases hS:mR (K.img.take (64*K.m)) (qs++[q]) r with
    |none=>rfl
    |some lq=>
     have⟨new,e1,e2⟩:=X1 _ hS;simp only;rw[e1,e2,ac3,show ju K.sup.used v.aG es ns=true from uN.1,ae];show tj K _ r (iP (K.img.take (64*K.m)) K.sup.used v.aG new [] [] 0)=_;cases iP (K.img.take (64*K.m)) K.sup.used v.aG new [] [] 0 with
     |none=>rfl
     |some p=>
      have⟨h,a,n⟩:=p;simp only[ny,tj];rw[dW,show fb K.m (bN K.m v.W y) ns=true from uN.2,dL];unfold jb;simp only;cases fb K.m (ns.foldl (bN K.m) (bN K.m v.W y)) (r++a)with
      |false=>rfl
      |true=>
       rw[ae,ae,fR];congr 2
       .show(r++a).foldl (bN K.m) (ns.foldl (bN K.m) (bN K.m v.W y))=(r++(ns++a)).foldl (bN K.m) (bN K.m v.W y)
        rw[<-xQ];refine Zrb ?_ _;rw[<-fR,<-fR];grind
       .omega
theorem Zw5 (hm:64*K.m<=K.img.length) (v:aR) (hl:v.W.length=(K.m+63)/64) (hh:v.aK=[]):
  rz K v=match wo (K.img.take (64*K.m)) K.sup.dir with
   |none=>none
   |some (qs,bs)=>tj K v bs (iP (K.img.take (64*K.m)) K.sup.used v.aG qs [] [] 0):=by
 unfold rz wo;by_cases h0:K.sup.dir=0
 .rw[bG h0,h0]
  simp[iP,tj,fb]
 .rw[bq h0,show(K.sup.dir==0)=false by simpa using h0,af,Gw hm]
  unfold dT;cases hf:fW K.m v.W K.sup.dir with
  |false=>
   have cD: ∀r q,tj K v (K.sup.dir::r) q=none:=λr=>Zvj λa=>by
    show(fW K.m v.W K.sup.dir&&_)=false;rw[hf,gu]
   grind
  |true=>
  rw[(Gr hf).1,ae,ae];simp only;cases hD:lG (ZG K.img K.sup.dir.toNat)with
  |none=>
   cases hb:ZX (ZG K.img K.sup.dir.toNat)with
   |dir x=>rw[abH.1 hb]at hD;cases hD
   |_=>rfl
  |some l=>
   rw[abH.2 hD];simp only;have:=ZwN hm l [] { v with W:=bN K.m v.W K.sup.dir } ((pC K.m v.W K.sup.dir).trans hl) (by rw[hh];rfl);rw[xS]at this;rw[this];cases mR (K.img.take (64*K.m)) [] l with
   |none=>rfl
   |some qs=>
    simp only[dE];cases iP (K.img.take (64*K.m)) K.sup.used v.aG qs [] [] 0 with
    |none=>rfl
    |some p=>
     have⟨h,a,n⟩:=p;simp only[tj];rw[show fb K.m v.W (K.sup.dir::l++a)=(fW K.m v.W K.sup.dir&&fb K.m (bN K.m v.W K.sup.dir) (l++a))from rfl,hf,dL];rfl
theorem Zu0 {m:Int} {l:ak} {a:Int} (h:kN l):(zn m l a).length<=l.length+1:=by
 have⟨h1,h2⟩:=N1 (m:=m) (a:=a) h;refine hU (yp (m:=a::l) h1.nodup λb hb=>?_) Do;grind
theorem ZrJ {m:Int} : ∀(all r q:ak),kN r->qA m all r=some q->q.length<=all.length+r.length
 |[],r,q,_,h=>by cases h;simp
 |k::a,r,q,hr,h=>by
  unfold qA at h;cases h1:decide (k<2)with
  |true=>rw[h1]at h;cases h
  |false=>
   cases h2:decide (k∈r)with
   |true=>rw[h1,h2]at h;cases h
   |false=>
    rw[h1,h2]at h;have h3:=ZrJ a _ q (N1 hr).1 h;have h4:=Zu0 (m:=m) (a:=k) hr;rw[cQ];omega
theorem ZyG (hl:W.length=(m+63)/64) (h:fW m W k=true):zn m (dB W) k=dB (bN m W k)/\(dB (bN m W k)).length=(dB W).length+1:=by
 have⟨h1,h2⟩:=N1 (m:=(m:Int)) (a:=k) (yb W);have h3:=h;unfold fW fN at h3;simp only[aY,bn,lT]at h3;have⟨jy,⟨mg,vV⟩,oH⟩:=h3;have hn:k∉dB W:=λhm=>by
  obtain⟨b,rfl,hb⟩:=pE.1 hm;rw[br,hb]at oH;cases oH
 have e:zn m (dB W) k=dB (bN m W k):=Ga h1 (yb _) λb=>by
  rw[h2,pE,pE];have gT: ∀c:Nat,du (bN m W k) c=true↔du W c=true\/c=k.toNat:=λc=>by
   rw[rD hl,mm,aY,bn];grind[fN]
  grind
 refine⟨e,Nat.le_antisymm ?_ ?_⟩
 .rw[<-e];exact Zu0 (yb W)
 .have:=yp (l:=k::dB W) (m:=dB (bN m W k)) (zY.2 ⟨hn,(yb W).nodup⟩) λb hb=>by
   rw[<-e,h2];grind
  rwa [cQ]at this
theorem NJ {m:Nat} : ∀(all:ak) (W:al),W.length=(m+63)/64->(∀b,du W b=true->b<m)->du W 0=true->
  (match qA m all (dB W)with
   |none=>none
   |some q=>bif decide (q.length=all.length+(dB W).length)then some q else none)=bif fb m W all then some (dB (all.foldl (bN m) W))else none
 |[],W,_,_,_=>by simp[qA,fb]
 |k::a,W,hl,hm,h0=>by
  unfold qA fb;cases hf:fW m W k with
  |true=>
   have⟨e1,e2⟩:=ZyG hl hf;have h3:=hf;unfold fW fN at h3;simp only[aY,bn,lT]at h3;have⟨jy,⟨mg,vV⟩,oH⟩:=h3;have hn:k∉dB W:=λhm=>by
    obtain⟨b,rfl,hb⟩:=pE.1 hm;rw[br,hb]at oH;cases oH
   rw[bM (AC:¬k<2),aZ hn,af,e1,dL];have ih:=NJ a (bN m W k) ((pC m W k).trans hl) (λb hb=>by
    rw[rD hl,mm,aY,bn]at hb;grind) (by rw[rD hl,h0,Bool.true_or])
   rw[e2]at ih;rw[cQ,show a.length+1+(dB W).length=a.length+((dB W).length+1) by omega];exact ih
  |false=>
   rw[gu,af];by_cases h2:k<2
   .rw[aS h2];rfl
   rw[aZ h2];by_cases hn:k∈dB W
   .rw[aS hn];rfl
   rw[aZ hn];have vV: ¬(0<=k/\k<(m:Int)/\k∉dB W):=λ⟨a1,a2,a3⟩=>by
    unfold fW fN at hf;rw[aS (AC:k>=2),aS a1,aS a2]at hf;have:du W k.toNat=true:=by simpa using hf
    exact a3 (pE.2 ⟨k.toNat,AC,this⟩)
   rw[show zn m (dB W) k=dB W from bq vV];cases hR:qA m a (dB W)with
   |none=>rfl
   |some q=>
    have:=ZrJ a _ q (yb W) hR;grind
def sr (g:Int) (s:bB):Bool:=bif (bif s.live then true else decide (s.gen<g))then true else s.block==0
structure QO (n:Nat) (out:List Int):Prop where
 nd:out.Nodup
 lt: ∀k∈out,0<=k/\k<(n:Int)
theorem QO.Ez {out:ak} (h:QO n out):out.length<=n:=by
 have:=yp (m:=ZZ 0 n) h.nd λk hk=>by
  have:=h.lt k hk;unfold ZZ;exact oW.2 ⟨k.toNat,uY.2 AC,AC⟩
 grind[ZZ]
theorem Zrs {l:List bB} {g:Int} (hr: ∀s∈l,s.live=false->0<=s.block): ∀(f:Nat) (k:Int) (out:ak),0<=k->QO l.length out->l.length+1<=f+out.length->nf l l.length g (f+1) k out=nf l l.length g f k out
 |0,k,out,_,ho,h=>by have:=ho.Ez;omega
 |f+1,k,out,hk,ho,h=>by
  conv=>lhs;unfold nf
  conv=>rhs;unfold nf
  cases h0:k==0 with
  |true=>rfl
  |false=>
  rw[af,af];have h0:k≠0:=by simpa using h0
  cases h1:decide (k>(l.length:Int))with
  |true=>rfl
  |false=>
  rw[af,af];have h1: ¬k>(l.length:Int):=FW h1;cases hg:l[(k-1).toNat]? with
  |none=>rfl
  |some s=>
  simp only;cases hv:s.live with
  |true=>rfl
  |false=>
  rw[af,af];cases decide (s.gen>=g)with
  |true=>rfl
  |false=>
  rw[af,af];cases hi:decide (k-1∈out)with
  |true=>rfl
  |false=>
   rw[af,af];exact Zrs hr f _ _ (hr s (sD hg) hv) ⟨sE.2 ⟨ho.nd,Do,λa ha b hb e=>(by simp_all)⟩,λa ha=>by
    rcases gI.1 ha with h2|h2
    .exact ho.lt a h2
    .rw[cE.1 h2];omega⟩ (by rw[bz,iS];omega)
theorem Zrl {K:bP} {v0:aR} {n:Nat} (hu:K.sup.used=(n:Int)) (hn:v0.aG.length=n) (hr: ∀s∈v0.aG,s.live=false->0<=s.block): ∀(f:Nat) (fl:List Bool) (k:Int) (v:aR) (out:ak),v= { v0 with free:=out } ->0<=k->fl.length=n->(∀j:Nat,fl.getD j false=decide ((j:Int)∈out))->
  match nf v0.aG K.sup.used K.sup.g f k out with
  |none=>nF K f fl k v=none
  |some o=>∃rS,nF K f fl k v=some (rS, { v0 with free:=o })/\∀j:Nat,rS.getD j false=decide ((j:Int)∈o)
 |0,_,_,_,_,_,_,_,_=>rfl
 |f+1,fl,k,v,out,hv,hk,hl,eE=>by
  unfold nf nF;cases h0:k==0 with
  |true=>simp_all
  |false=>
  rw[af,af];have h0:k≠0:=by simpa using h0
  by_cases h1:k>K.sup.used
  .rw[aS h1,bM (AC:¬k<=K.sup.used)];rfl
  rw[bM h1,aS (AC:k<=K.sup.used),af,ae,hv];show match (match v0.aG[(k-1).toNat]? with|none=>none|some s=>_)with
   |none=>(match v0.aG[(k-1).toNat]? with|none=>none|some x=>_)=none
   |some o=>∃rS,(match v0.aG[(k-1).toNat]? with|none=>none|some x=>_)=some (rS, { v0 with free:=o })/\_
  cases hg:v0.aG[(k-1).toNat]? with
  |none=>rfl
  |some s=>
  simp only;rw[eE,show(((k-1).toNat:Nat):Int)=k-1 by omega,show decide (s.gen>=K.sup.g)= !decide (s.gen<K.sup.g) by rw[lS];simp];cases zi:s.live with
  |true=>rfl
  |false=>
  cases decide (s.gen<K.sup.g)with
  |false=>rfl
  |true=>
  cases hi:decide (k-1∈out)with
  |true=>rfl
  |false=>
   refine Zrl hu hn hr f (fl.set (k-1).toNat true) s.block { v0 with free:=out++[k-1] } (out++[k-1]) rfl (hr s (sD hg) zi) (by rw[lU];exact hl) λj=>?_
   have gm:(k-1).toNat<fl.length:=AC
   rw[ef,List.getElem?_set,show decide ((j:Int)∈out++[k-1])=(decide ((j:Int)∈out)||decide ((j:Int)=k-1)) by rw[lS];simp];by_cases hj:(k-1).toNat=j
   .rw[bG hj,bG gm,aS (AC:(j:Int)=k-1),Bool.or_true];rfl
   .rw[bq hj,bM (AC:¬(j:Int)=k-1),Bool.or_false,<-eE,ef]
theorem Zve {K:bP} {out:ak} : ∀(l:List bB) (i:Nat) (fl:List Bool),(∀s∈l,s.gen<=K.sup.g/\sr K.sup.g s=true)->(∀j,fl.getD j false=decide (((i+j:Nat):Int)∈out))->rI K fl l=sS K.sup.g out i l
 |[],_,_,_,_=>rfl
 |s::r,i,fl,hs,hf=>by
  have⟨h1,h2⟩:=hs s tV;have ih:=Zve r (i+1) (fl.drop 1) (λx hx=>hs x (xT _ hx)) λj=>by
   rw[show i+1+j=i+(j+1) by omega,<-hf,ef,ef,BG,tX 1 j]
  unfold rI sS;rw[ih,show Eh K (fl.getD 0 false) s=tM K.sup.g out i s from ?_]
  .cases tM K.sup.g out i s<;>rfl
  .grind[Eh,tM,sr]
theorem Zpd {g:Int} {out:ak} : ∀(l:List bB) (i:Nat),(∀s∈l,s.gen<=g)->sS g out i l=true->l.all (sr g)=true
 |[],_,_,_=>rfl
 |s::r,i,hg,h=>by
  unfold sS at h;cases hb:tM g out i s with
  |false=>rw[hb]at h;cases h
  |true=>
   rw[hb,ae]at h;rw[wE,Zpd r (i+1) Fd h,wC];grind[tM,sr]
theorem Zz2 (hx:pB K.sup) (hn:(v.aG.length:Int)=K.sup.used) (hr: ∀s∈v.aG,s.live=false->0<=s.block) (hg: ∀s∈v.aG,s.gen<=K.sup.g) (hf:v.free=[]):
  (bif v.aG.all (sr K.sup.g)then tm K v else none)=(w4 v.aG K.sup).map λo=> { v with free:=o } :=by
 unfold tm w4;have hu:K.sup.used.toNat=v.aG.length:=AC
 have fS:=Zrs (l:=v.aG) (g:=K.sup.g) hr (v.aG.length+1) K.sup.free [] hx.f0 ⟨.nil,λk hk=>nomatch hk⟩ Do;rw[hn]at fS;rw[fS];have pX:=Zrl (K:=K) (v0:=v) hn.symm rfl hr (v.aG.length+1) (List.replicate v.aG.length false) K.sup.free v [] (by rw[<-hf]) hx.f0 Do λj=>by
  rw[ef,L7];split<;>rfl
 rw[hu];cases hL:nf v.aG K.sup.used K.sup.g (v.aG.length+1) K.sup.free []with
 |none=>
  rw[hL]at pX;simp only at pX;rw[pX];cases v.aG.all (sr K.sup.g)<;>rfl
 |some o=>
  rw[hL]at pX;have⟨fl,e,he⟩:=pX;rw[e];simp only[Cg];cases ha:v.aG.all (sr K.sup.g)with
  |false=>
   cases hR:sS K.sup.g o 0 v.aG with
   |false=>rfl
   |true=>rw[Zpd _ 0 hg hR]at ha;cases ha
  |true=>
   rw[Zve (out:=o) v.aG 0 fl Fd λj=>by rw[eJ];exact he j];cases sS K.sup.g o 0 v.aG<;>rfl
def nT (K:bP):Int->List bB->List bB->Option (List bB)
 |_,[],l=>some l
 |k,x::r,l=>bif decide (k>=K.sup.used)then(bif ot x then nT K (k+1) r l else none)else(bif pF K.sup x then nT K (k+1) r (l++[x])else none)
theorem Zpv (K:bP) (k:Int) (x:bB) (r l:List bB):nT K k (x::r) l=bif decide (k>=K.sup.used)then(bif ot x then nT K (k+1) r l else none)else(bif pF K.sup x then nT K (k+1) r (l++[x])else none):=rfl
theorem W4 {K:bP} : ∀(x:List bB) (k:Int) (v:aR),nG K k x v=(nT K k x v.aG).map λs=> { v with aG:=s }
 |[],_,_=>rfl
 |x::r,k,v=>by
  unfold nG nT qw;cases decide (k>=K.sup.used)with
  |true=>
   rw[ae,ae];cases ot x with
   |false=>rfl
   |true=>exact W4 r _ v
  |false=>
   rw[af,af];cases pF K.sup x with
   |false=>rfl
   |true=>exact W4 r _ _
theorem Gp {K:bP} : ∀(a b:List bB) (k:Int) (l:List bB),nT K k (a++b) l=match nT K k a l with
  |none=>none
  |some l'=>nT K (k+a.length) b l'
 |[],b,k,l=>by simp[nT]
 |x::a,b,k,l=>by
  rw[od,cQ,show k+((a.length+1:Nat):Int)=k+1+a.length by omega,Zpv,Zpv];cases decide (k>=K.sup.used)with
  |true=>
   rw[ae,ae];cases ot x with
   |false=>rfl
   |true=>exact Gp a b _ _
  |false=>
   rw[af,af];cases pF K.sup x with
   |false=>rfl
   |true=>exact Gp a b _ _
def um (u:Nat) (g:Int):Nat->List bB->List bB->Option (List bB)
 |_,[],l=>some l
 |i,s::r,l=>bif decide (u<=i)then(bif ot s then um u g (i+1) r l else none)else(bif decide (s.gen<1)||decide (s.gen>g)then none else um u g (i+1) r (l++[s]))
theorem UW {u:Nat} {g:Int} : ∀(r:List bB) (i:Nat) (l l':List bB),um u g i r l=some l'->∃t,l'=l++t
 |[],_,l,l',h=>⟨[],by cases h;rw[gM]⟩
 |s::r,i,l,l',h=>by
  unfold um at h;cases h1:decide (u<=i)with
  |true=>
   cases h2:ot s with
   |false=>rw[h1,h2]at h;cases h
   |true=>rw[h1,h2]at h;exact UW r _ _ _ h
  |false=>
   cases h2:decide (s.gen<1)||decide (s.gen>g)with
   |true=>rw[h1,h2]at h;cases h
   |false=>
    rw[h1,h2]at h;obtain⟨t,rfl⟩:=UW r _ _ _ h;simp
theorem Wn {K:bP} {u:Nat} (hu:K.sup.used=(u:Int)): ∀(r:List bB) (i:Nat) (l:List bB),l.all (sr K.sup.g)=true->nT K (i:Int) r l=match um u K.sup.g i r l with
  |none=>none
  |some l'=>bif l'.all (sr K.sup.g)then some l' else none
 |[],_,l,h=>by simp[nT,um,h]
 |s::r,i,l,h=>by
  unfold nT um;rw[hu,show decide ((i:Int)>=(u:Int))=decide (u<=i)from decide_eq_decide.2 AC,show(i:Int)+1=((i+1:Nat):Int) by omega];cases decide (u<=i)with
  |true=>
   rw[ae,ae];cases ot s with
   |false=>rfl
   |true=>exact Wn hu r _ l h
  |false=>
   rw[af,af];have ho:pF K.sup s=(!(decide (s.gen<1)||decide (s.gen>K.sup.g))&&sr K.sup.g s):=by
    grind[pF,sr]
   rw[ho];cases decide (s.gen<1)||decide (s.gen>K.sup.g)with
   |true=>rfl
   |false=>
    rw[bp,dL,af];cases ht:sr K.sup.g s with
    |true=>exact Wn hu r _ _ (by rw[tT,h,wE,ht];rfl)
    |false=>
     cases hS:um u K.sup.g (i+1) r (l++[s])with
     |none=>rfl
     |some l'=>
      obtain⟨t,rfl⟩:=UW r _ _ _ hS;grind
def kH (im:aj) (c:Nat):Nat->ak->Option (ak×List bB)
 |_,[]=>some ([],[])
 |p,y::r=>bif (!(y==0))==decide (p<c)then(bif y==0 then kH im c (p+1) r else match kI im y with
   |none=>none
   |some l=>match kH im c (p+1) r with
    |none=>none
    |some (bs,ls)=>some (y::bs,l++ls))else none
def nK (im:aj) (c:Nat):Nat->ak->Option (ak×List bB)
 |_,[]=>some ([],[])
 |i,y::r=>bif (!(y==0))==decide (16*i<c)then(bif y==0 then nK im c (i+1) r else match gS im y with
   |none=>none
   |some g=>match kH im c (16*i) g with
    |none=>none
    |some (bs,ls)=>match nK im c (i+1) r with
     |none=>none
     |some (gV,Bo)=>some (y::(bs++gV),ls++Bo))else none
theorem ZsQ {im:aj} {c:Nat} : ∀(g:ak) (p:Nat) (q:ak×List bB),c<=p->kH im c p g=some q->q=([],[])
 |[],_,_,_,h=>by cases h;rfl
 |y::r,p,q,hp,h=>by
  unfold kH at h;rw[bM (AC:¬p<c)]at h;cases hy:y==0 with
  |false=>rw[hy]at h;cases h
  |true=>rw[hy]at h;exact ZsQ r _ _ AC h
theorem NB {im:aj} {c:Nat} : ∀(g:ak) (p:Nat) (bs:ak) (ls:List bB),kH im c p g=some (bs,ls)->ls.length=7*min g.length (c-p)
 |[],_,_,_,h=>by cases h;simp
 |y::r,p,bs,ls,h=>by
  unfold kH at h;cases hc:(!(y==0))==decide (p<c)with
  |false=>rw[hc]at h;cases h
  |true=>
  rw[hc,ae]at h;cases hy:y==0 with
  |true=>
   rw[hy]at h hc;have hd:decide (p<c)=false:=Fd
   have:=FW hd;rw[NB r (p+1) bs ls h,cQ];omega
  |false=>
   rw[hy]at h hc;have hd:decide (p<c)=true:=Fd
   have:=mW hd;rw[af]at h;cases hL:kI im y with
   |none=>rw[hL]at h;cases h
   |some l=>
    cases hK:kH im c (p+1) r with
    |none=>rw[hL,hK]at h;cases h
    |some q=>
     rw[hL,hK]at h;cases h;have h1:=NB r (p+1) _ _ hK;have h2:=Ni im y;rw[hL]at h2;have h2:l.length=7:=h2;rw[bz,h1,h2,cQ];omega
theorem VE {im:aj} {c:Nat} : ∀(f:ak) (i:Nat) (q:ak×List bB),c<=16*i->nK im c i f=some q->q=([],[])
 |[],_,_,_,h=>by cases h;rfl
 |y::r,i,q,hp,h=>by
  unfold nK at h;rw[bM (AC:¬16*i<c)]at h;cases hy:y==0 with
  |false=>rw[hy]at h;cases h
  |true=>rw[hy]at h;exact VE r _ _ AC h
theorem ZvW {l:List bB} (h:kI im y=some l):l.length=7:=by
 have:=Ni im y;rwa [h]at this
theorem Vg {l:ak} (h:gS im y=some l):l.length=16:=by
 have:=Jo im y;rwa [h]at this
def zH (K:bP) (v:aR) (k:Int):Option (ak×List bB)->Option aR
 |none=>none
 |some (bs,ls)=>bif fb K.m v.W bs then(nT K k ls v.aG).map (λs=> { v with aG:=s,W:=bs.foldl (bN K.m) v.W })else none
theorem ZwE (h:fW K.m v.W y=false) (bs:ak) (ls:List bB):zH K v k (some (y::bs,ls))=none:=by
 grind[zH,fb]
theorem V9 {K:bP} (hm:64*K.m<=K.img.length) {c x5:Nat} : ∀(g:ak) (k:Nat) (v:aR),kO K (c:Int) (x5:Int) (k:Int) g v=zH K v ((7*(16*x5+k):Nat):Int) (kH (K.img.take (64*K.m)) c (16*x5+k) g)
 |[],_,_=>rfl
 |y::r,k,v=>by
  unfold kO kH;rw[show decide ((x5:Int)*16+(k:Int)<(c:Int))=decide (16*x5+k<c)from decide_eq_decide.2 AC,show(k:Int)+1=((k+1:Nat):Int) by omega];cases hc:(!(y==0))==decide (16*x5+k<c)with
  |false=>rfl
  |true=>
  rw[ae,ae];cases hy:y==0 with
  |true=>
   rw[hy]at hc;have kU:c<=16*x5+k:=by
    grind
   show kO K (c:Int) (x5:Int) ((k+1:Nat):Int) r v=zH K v _ (kH (K.img.take (64*K.m)) c (16*x5+(k+1)) r);rw[V9 hm r (k+1) v];cases hK:kH (K.img.take (64*K.m)) c (16*x5+(k+1)) r with
   |none=>rfl
   |some q=>rw[ZsQ r _ q AC hK];rfl
  |false=>
   have hy0:y≠0:=by simpa using hy
   rw[bp,ae,af];unfold nr dT kI;rw[bq hy0,Gw hm];cases hf:fW K.m v.W y with
   |false=>
    rw[af];simp only;cases(bif fN K.m y then some (ZG K.img y.toNat)else none)with
    |none=>rfl
    |some ln=>
     simp only;cases ZO ln with
     |none=>rfl
     |some l=>
      simp only;cases kH (K.img.take (64*K.m)) c (16*x5+k+1) r with
      |none=>rfl
      |some q=>exact(ZwE hf _ _).symm
   |true=>
   rw[(Gr hf).1,ae,ae];simp only;cases hL:ZO (ZG K.img y.toNat)with
   |none=>
    cases hb:ZX (ZG K.img y.toNat)with
    |leaf x=>rw[abI.1 hb]at hL;cases hL
    |_=>rfl
   |some l=>
    rw[abI.2 hL];simp only;rw[W4,show((x5:Int)*16+(k:Int))*7=((7*(16*x5+k):Nat):Int) by omega];have h7:l.length=7:=IM hL;have ih:=λv'=>V9 hm (c:=c) (x5:=x5) r (k+1) v'
    rw[show 16*x5+k+1=16*x5+(k+1) by omega];cases hS:nT K ((7*(16*x5+k):Nat):Int) l v.aG with
    |none=>
     cases kH (K.img.take (64*K.m)) c (16*x5+(k+1)) r with
     |none=>rfl
     |some q=>
      rw[zH,Gp,hS];cases fb K.m v.W (y::q.1)<;>rfl
    |some s=>
     simp only[ny];rw[ih];cases kH (K.img.take (64*K.m)) c (16*x5+(k+1)) r with
     |none=>rfl
     |some q=>
      simp only[zH,Gp,hS];rw[show fb K.m v.W (y::q.1)=(fW K.m v.W y&&fb K.m (bN K.m v.W y) q.1)from rfl,hf,dL,h7,show((7*(16*x5+k):Nat):Int)+((7:Nat):Int)=((7*(16*x5+(k+1)):Nat):Int) by omega];rfl
theorem WD {K:bP} (hm:64*K.m<=K.img.length) {c:Nat} : ∀(f:ak) (i:Nat) (v:aR),ou K (c:Int) (i:Int) f v=zH K v ((112*i:Nat):Int) (nK (K.img.take (64*K.m)) c i f)
 |[],_,_=>rfl
 |y::r,i,v=>by
  unfold ou nK;rw[show decide ((i:Int)*16<(c:Int))=decide (16*i<c)from decide_eq_decide.2 AC,show(i:Int)+1=((i+1:Nat):Int) by omega];cases hc:(!(y==0))==decide (16*i<c)with
  |false=>rfl
  |true=>
  rw[ae,ae];cases hy:y==0 with
  |true=>
   rw[hy]at hc;have kU:c<=16*i:=by
    grind
   rw[ae,ae,WD hm r (i+1) v];cases hK:nK (K.img.take (64*K.m)) c (i+1) r with
   |none=>rfl
   |some q=>rw[VE r _ q AC hK];rfl
  |false=>
   have hy0:y≠0:=by simpa using hy
   rw[af,af];unfold dT gS;rw[bq hy0,Gw hm];cases hf:fW K.m v.W y with
   |false=>
    rw[af];simp only;cases(bif fN K.m y then some (ZG K.img y.toNat)else none)with
    |none=>rfl
    |some ln=>
     simp only;cases iU ln with
     |none=>rfl
     |some g=>
      simp only;cases kH (K.img.take (64*K.m)) c (16*i) g with
      |none=>rfl
      |some q=>
       simp only;cases nK (K.img.take (64*K.m)) c (i+1) r with
       |none=>rfl
       |some q'=>exact(ZwE hf _ _).symm
   |true=>
   rw[(Gr hf).1,ae,ae];simp only;cases hL:iU (ZG K.img y.toNat)with
   |none=>
    cases hb:ZX (ZG K.img y.toNat)with
    |cm x=>rw[Ot.1 hb]at hL;cases hL
    |_=>rfl
   |some g=>
    rw[Ot.2 hL];simp only;have h2:=V9 hm (c:=c) (x5:=i) g 0 { v with W:=bN K.m v.W y };rw[gQ,Int.ofNat_zero]at h2;rw[h2];have ih:=λv'=>WD hm (c:=c) r (i+1) v'
    cases hk:kH (K.img.take (64*K.m)) c (16*i) g with
    |none=>rfl
    |some q=>
     have⟨bs,ls⟩:=q;simp only[zH];have dW: ∀b',fb K.m v.W (y::(bs++b'))=(fb K.m (bN K.m v.W y) bs&&fb K.m (bs.foldl (bN K.m) (bN K.m v.W y)) b'):=λb'=>by
      rw[<-Cf];show(fW K.m v.W y&&_)=_;rw[hf,dL]
     rw[show 7*(16*i)=112*i by omega];cases hF:fb K.m (bN K.m v.W y) bs with
     |false=>
      grind
     |true=>
      rw[ae];cases hS:nT K ((112*i:Nat):Int) ls v.aG with
      |none=>
       cases nK (K.img.take (64*K.m)) c (i+1) r with
       |none=>rfl
       |some q=>
        simp only[Gp,hS];cases fb K.m v.W (y::(bs++q.1))<;>rfl
      |some s=>
       simp only[ny];rw[ih];cases hW:nK (K.img.take (64*K.m)) c (i+1) r with
       |none=>rfl
       |some q=>
        have⟨gV,Bo⟩:=q;simp only[zH,Gp,hS,dW,hF,dL,BF,xQ];rw[show nT K (((112*i:Nat):Int)+(ls.length:Int)) Bo s=nT K ((112*(i+1):Nat):Int) Bo s from ?_];by_cases alg:16*i+16<=c
        .rw[NB g (16*i) bs ls hk,UP hL,show((112*i:Nat):Int)+((7*min 16 (c-16*i):Nat):Int)=((112*(i+1):Nat):Int) by omega]
        .cases VE r (i+1) _ AC hW
         rfl
theorem VH (im:aj):kI im 0=some nS:=FS
theorem Ny (im:aj):gS im 0=some tl:=FS
theorem D4 (acc:ak):cJ acc 0=acc:=rfl
theorem D7 (acc:ak) (h:k≠0):cJ acc k=acc++[k]:=by
 grind[cJ]
theorem Vk (im:aj) (acc:ak): ∀n,nc im acc (List.replicate n 0)=some acc
 |0=>rfl
 |n+1=>by
  rw[List.replicate_succ];unfold nc;rw[VH,D4];exact Vk im acc n
theorem ZrH (im:aj) (acc:ak): ∀n,pG im acc (List.replicate n 0)=some acc
 |0=>rfl
 |n+1=>by
  rw[List.replicate_succ];unfold pG;rw[Ny,D4];simp only;rw[show nc im acc tl=some acc from Vk im acc 16];exact ZrH im acc n
theorem agree {b:Bool} (h:((!(y==0))==b)=true):(y=0/\b=false)\/(y≠0/\b=true):=by
 grind
theorem ZwL {bs:ak} {ls:List bB} (h:kH im c p (y::r)=some (bs,ls)):
  (y=0/\c<=p/\kH im c (p+1) r=some (bs,ls))\/∃l gV Bo,y≠0/\p<c/\kI im y=some l/\kH im c (p+1) r=some (gV,Bo)/\bs=y::gV/\ls=l++Bo:=by
 grind[kH]
theorem Ww {im:aj} {c:Nat} : ∀(g:ak) (p:Nat) (bs:ak) (ls:List bB),kH im c p g=some (bs,ls)->(∀acc,nc im acc g=some (acc++bs))/\bs.length=min g.length (c-p)/\∀j t,t<7->p+j<c->j<g.length->ls[7*j+t]? =(kI im (g.getD j 0)).bind (·[t]?)
 |[],_,_,_,h=>by
  cases h;simp[nc]
 |y::r,p,bs,ls,h=>by
  rcases ZwL h with⟨rfl,hc,hk⟩|⟨l,gV,Bo,hy,hc,hL,hk,rfl,rfl⟩
  .have⟨h1,h2,h3⟩:=Ww r (p+1) bs ls hk
   refine⟨λacc=>?_,by rw[h2,cQ];omega,λj t _ hj _=>AC⟩;grind[nc,VH,D4]
  .have⟨h1,h2,h3⟩:=Ww r (p+1) gV Bo hk
   have Yu:=ZvW hL;refine⟨λacc=>?_,by rw[cQ,h2,cQ];omega,λj t ht hj uL=>?_⟩
   .unfold nc
    rw[hL,D7 acc hy];grind
   .cases j with
    |zero=>
     rw[Nat.mul_zero,eJ,mn AC];grind
    |succ j=>
     rw[kL AC,Yu,show 7*(j+1)+t-7=7*j+t by omega];grind
def zC (c i n:Nat):Nat:=min (16*n) (c-16*i)+min n ((c+15)/16-i)
theorem Wy {im:aj} {c:Nat} : ∀(f:ak) (i:Nat) (bs:ak) (ls:List bB),nK im c i f=some (bs,ls)->(∀acc,pG im acc f=some (acc++bs))/\bs.length=zC c i f.length/\ls.length=7*min (16*f.length) (c-16*i)/\∀q t,t<7->16*i+q<c->q<16*f.length->ls[7*q+t]? =(gS im (f.getD (q/16) 0)).bind λg=>(kI im (g.getD (q%16) 0)).bind (·[t]?)
 |[],_,_,_,h=>by
  cases h;simp[pG,zC]
 |y::r,i,bs,ls,h=>by
  unfold nK at h;cases hc:(!(y==0))==decide (16*i<c)with
  |false=>rw[hc]at h;cases h
  |true=>
  rw[hc,ae]at h;rcases agree hc with⟨rfl,hd⟩|⟨hy,hd⟩
  .have hd:=FW hd
   have⟨h1,h2,h3,h4⟩:=Wy r (i+1) bs ls h;refine⟨λacc=>?_,by rw[h2,cQ];unfold zC;omega,by rw[h3,cQ];omega,λj t _ hj _=>AC⟩;unfold pG;rw[Ny,D4];simp only;rw[show nc im acc tl=some acc from Vk im acc 16];exact h1 acc
  .have hd:=mW hd
   rw[show(y==0)=false by simpa using hy,af]at h;cases hL:gS im y with
   |none=>rw[hL]at h;cases h
   |some g=>
   rw[hL]at h;simp only at h;cases hK:kH im c (16*i) g with
   |none=>rw[hK]at h;cases h
   |some q=>
   have⟨b1,l1⟩:=q;rw[hK]at h;simp only at h;cases hF:nK im c (i+1) r with
   |none=>rw[hF]at h;cases h
   |some q=>
   have⟨b2,l2⟩:=q;rw[hF]at h;cases h;have⟨h1,h2,h3,h4⟩:=Wy r (i+1) b2 l2 hF;have⟨k1,k2,k3⟩:=Ww g (16*i) b1 l1 hK;have k4:=NB g (16*i) b1 l1 hK;have hg:=Vg hL;rw[hg]at k2 k3 k4;refine⟨λacc=>?_,by rw[cQ,bz,h2,k2,cQ];unfold zC;omega,by rw[bz,h3,k4,cQ];omega,λq t ht hq Bg=>?_⟩
   .unfold pG
    rw[hL,D7 acc hy];grind
   .rcases kz q 16 with tq|tq
    .rw[mn AC,show q/16=0 by omega,show q%16=q by omega,k3 q t ht hq tq]
     grind
    .rw[kL AC,show 7*q+t-l1.length=7*(q-16)+t by omega,h4 (q-16) t ht AC (by rw[cQ]at Bg;omega),show q/16=(q-16)/16+1 by omega,show q%16=(q-16)%16 by omega]
     rfl
theorem Ztf {im:aj} {c:Nat} : ∀(g:ak) (p:Nat) (acc rL:ak),nc im acc g=some rL->(∀j,j<g.length->p+j<c->g.getD j 0≠0)->acc.length+min g.length (c-p)<=rL.length/\(rL.length=acc.length+min g.length (c-p)->∃q,kH im c p g=some q)
 |[],_,_,_,h,_=>by cases h;exact⟨Do,λ_=>⟨_,rfl⟩⟩
 |y::r,p,acc,rL,h,hn=>by
  unfold nc at h;cases hL:kI im y with
  |none=>rw[hL]at h;cases h
  |some l=>
  rw[hL]at h;simp only at h;have⟨h1,h2⟩:=Ztf (c:=c) r (p+1) (cJ acc y) rL h λj hj hc=>by
   have:=hn (j+1) (by rw[cQ];omega) AC;exact this
  rw[cQ];unfold kH;by_cases hc:p<c
  .have hy:y≠0:=hn 0 Do hc
   rw[D7 acc hy,bz,iS]at h1 h2;grind
  .by_cases hy:y=0
   .subst hy
    rw[D4]at h1 h2;grind
   .rw[D7 acc hy,bz,iS]at h1 h2
    omega
theorem ZtZ {im:aj} {c:Nat} : ∀(f:ak) (i:Nat) (acc rL:ak),pG im acc f=some rL->(∀a,a<f.length->16*(i+a)<c->f.getD a 0≠0)->(∀a g j,a<f.length->gS im (f.getD a 0)=some g->j<16->16*(i+a)+j<c->g.getD j 0≠0)->acc.length+zC c i f.length<=rL.length/\(rL.length=acc.length+zC c i f.length->∃q,nK im c i f=some q)
 |[],_,_,_,h,_,_=>by cases h;exact⟨by simp[zC],λ_=>⟨_,rfl⟩⟩
 |y::r,i,acc,rL,h,hn,hg=>by
  unfold pG at h;cases hL:gS im y with
  |none=>rw[hL]at h;cases h
  |some g=>
  rw[hL]at h;simp only at h;cases hK:nc im (cJ acc y) g with
  |none=>rw[hK]at h;cases h
  |some a2=>
  rw[hK]at h;simp only at h;have jx:=Vg hL;have⟨h1,h2⟩:=ZtZ (c:=c) r (i+1) a2 rL h (λa ha hc=>hn (a+1) (by rw[cQ];omega) AC) λa g' j ha hf hj hc=>hg (a+1) g' j (by rw[cQ];omega) hf hj AC
  have⟨k1,k2⟩:=Ztf (c:=c) g (16*i) (cJ acc y) a2 hK λj hj hc=>hg 0 g j Do hL AC AC
  rw[jx]at k1 k2;rw[cQ];unfold nK;unfold zC at h1 h2⊢;by_cases hc:16*i<c
  .have hy:y≠0:=hn 0 Do AC
   rw[D7 acc hy,bz,iS]at k1 k2;refine⟨AC,λhe=>?_⟩;have⟨q,hq⟩:=h2 AC;have⟨q',tC⟩:=k2 AC;rw[show(y==0)=false by simpa using hy,aS hc,hL,hq];grind
  .by_cases hy:y=0
   .subst hy
    rw[D4]at k1 k2;refine⟨AC,λhe=>?_⟩;have⟨q,hq⟩:=h2 AC;rw[bM hc,hq];exact⟨_,rfl⟩
   .rw[D7 acc hy,bz,iS]at k1 k2
    exact⟨AC,λhe=>AC⟩
theorem Zo2 {im:aj} {top:Int} {u:Nat} {g:Int} : ∀(ls:List bB) (i:Nat) (l:List bB),(∀j,j<ls.length->mE im top (i+j)=ls[j]?)->lZ im top u g ls.length i l=um u g i ls l
 |[],_,_,_=>rfl
 |s::r,i,l,h=>by
  rw[cQ];unfold lZ um;rw[show mE im top i=some s from h 0 Do];simp only;have ih:=λl=>Zo2 (u:=u) (g:=g) r (i+1) l λj hj=>by
   have:=h (j+1) (by rw[cQ];omega);rw[show i+1+j=i+(j+1) by omega,this];rfl
  rw[ih,ih]
theorem ZoP {im:aj} {top:Int} {u:Nat} {g:Int} : ∀(c i:Nat) (l l':List bB),lZ im top u g c i l=some l'->∀j,i<=j->j<i+c->j<u->∃s,mE im top j=some s/\1<=s.gen
 |0,_,_,_,_,_,_,_,_=>by omega
 |c+1,i,l,l',h,j,h1,h2,h3=>by
  unfold lZ at h;cases hF:mE im top i with
  |none=>rw[hF]at h;cases h
  |some s=>
  rw[hF]at h;simp only at h;rw[aZ]at h;cases hb:decide (s.gen<1)||decide (s.gen>g)with
  |true=>rw[hb]at h;cases h
  |false=>
   rw[hb]at h;by_cases e:j=i
   .grind
   .exact ZoP c (i+1) _ _ h j AC AC h3
theorem ZxT {x:cy} {u:Nat} (hu:x.used=(u:Int)) (h0:0<u) (h1:u<=1792) (hf:x.cm≠0):rH im x=match gS im x.cm with
  |none=>none
  |some f=>match nK im ((u+6)/7) 0 f with
   |none=>none
   |some (bs,ls)=>match um u x.g 0 ls []with
    |none=>none
    |some l=>some (l,x.cm::bs):=by
 unfold rH yz;have Y5:x.used.toNat=u:=AC
 rw[Y5];cases hL:gS im x.cm with
 |none=>rfl
 |some f=>
 have eE:=Vg hL;simp only;rw[D7 [] hf,iG];have aiE:1+zC ((u+6)/7) 0 16=(u+6)/7+pQ u:=by
  grind[zC,pQ]
 cases hW:nK im ((u+6)/7) 0 f with
 |some q=>
  have⟨bs,ls⟩:=q;have⟨a1,a2,a3,a4⟩:=Wy f 0 bs ls hW;rw[eE]at a2 a3 a4;rw[a1];simp only;rw[aX (show([x.cm]++bs).length=(u+6)/7+pQ u by rw[bz,iS,a2];exact aiE),show 7*((u+6)/7)=ls.length by omega,Zo2 ls 0 [] λj hj=>?_]
  .rfl
  .have:=a4 (j/7) (j%7) (Nat.mod_lt _ EQ) AC AC
   rw[show 7*(j/7)+j%7=j by omega]at this;rw[this,eJ];grind[mE]
 |none=>
  cases hG:pG im [x.cm] f with
  |none=>rfl
  |some pg=>
  simp only;cases hd:decide (pg.length=(u+6)/7+pQ u)with
  |false=>rfl
  |true=>
  rw[ae];cases hS:lZ im x.cm u x.g (7*((u+6)/7)) 0 []with
  |none=>rfl
  |some l=>
   exfalso;have X7: ∀a j,a<16->j<16->16*a+j<(u+6)/7->∃g,gS im (f.getD a 0)=some g/\g.getD j 0≠0:=λa j ha hj hc=>by
    have⟨s,hs,hg⟩:=ZoP _ _ _ _ hS (7*(16*a+j)) (cB _) AC AC;unfold mE at hs;rw[hL]at hs;simp only at hs;rw[show 7*(16*a+j)/112=a by omega,show 7*(16*a+j)/7%16=j by omega]at hs;cases hA:gS im (f.getD a 0)with
    |none=>rw[hA]at hs;cases hs
    |some g=>
     rw[hA]at hs;refine⟨g,rfl,λe=>?_⟩;simp only at hs;rw[e,VH,show 7*(16*a+j)%7=0 by omega]at hs;cases hs;exact absurd hg EQ
   have⟨_,b2⟩:=ZtZ (c:=(u+6)/7) f 0 [x.cm] pg hG (λa ha hc e=>by
    have⟨g,hg,hn⟩:=X7 a 0 AC EQ AC;rw[e,Ny]at hg;cases hg;exact hn rfl) λa g j ha hg hj hc=>by
    grind
   grind
theorem ZyH (hx:pB K.sup) (hm:64*K.m<=K.img.length) (v:aR) (hs:v.aG=[]):oy K v=match rH (K.img.take (64*K.m)) K.sup with
  |none=>none
  |some (l,pg)=>bif fb K.m v.W pg&&l.all (sr K.sup.g)then some { v with aG:=l,W:=pg.foldl (bN K.m) v.W } else none:=by
 have⟨g1,g2,g3,g4,g5,g6⟩:=ZR hx.g;have uR:=hx.u0;have wc:=hx.u1;have⟨u,hu⟩: ∃u:Nat,K.sup.used=(u:Int):=⟨K.sup.used.toNat,AC⟩;by_cases h0:u=0
 .subst h0
  have hf:=hx.t0 hu;unfold oy rH yz;rw[hu,hf,Ny];simp only;rw[D4,show pG (K.img.take (64*K.m)) [] tl=some []from ZrH _ [] 16];show some v=some { v with aG:=[],W:=v.W };rw[<-hs]
 .have hf:=hx.t1 AC
  have nj:K.sup.cm≠0:=(λe=>by rw[e]at hf;cases hf);rw[ZxT hu AC AC nj];unfold oy dT gS;rw[bq nj,Gw hm,show(K.sup.used==0)=false by rw[hu];simp;omega,af];cases dW:fW K.m v.W K.sup.cm with
  |false=>
   rw[af];simp only;cases(bif fN K.m K.sup.cm then some (ZG K.img K.sup.cm.toNat)else none)with
   |none=>rfl
   |some ln=>
    simp only;cases iU ln with
    |none=>rfl
    |some g=>
     simp only;cases nK (K.img.take (64*K.m)) ((u+6)/7) 0 g with
     |none=>rfl
     |some q=>
      simp only;cases um u K.sup.g 0 q.2 []with
      |none=>rfl
      |some l=>
       show none=bif (fW K.m v.W K.sup.cm&&_)&&_ then _ else _;rw[dW];rfl
  |true=>
  rw[(Gr dW).1,ae,ae];simp only;cases hL:iU (ZG K.img K.sup.cm.toNat)with
  |none=>
   cases hb:ZX (ZG K.img K.sup.cm.toNat)with
   |cm x=>rw[Ot.1 hb]at hL;cases hL
   |_=>rfl
  |some f=>
   rw[Ot.2 hL];simp only;rw[hu,Zui AC];have h1:=WD hm (c:=(u+6)/7) f 0 { v with W:=bN K.m v.W K.sup.cm };rw[Int.ofNat_zero]at h1;rw[h1];cases nK (K.img.take (64*K.m)) ((u+6)/7) 0 f with
   |none=>rfl
   |some q=>
    have⟨bs,ls⟩:=q;simp only[zH];have gD:=Wn hu ls 0 [] rfl;rw[hs];rw[Int.ofNat_zero]at gD;rw[gD];cases um u K.sup.g 0 ls []with
    |none=>cases fb K.m (bN K.m v.W K.sup.cm) bs<;>rfl
    |some l=>
     simp only;rw[show fb K.m v.W (K.sup.cm::bs)=(fW K.m v.W K.sup.cm&&fb K.m (bN K.m v.W K.sup.cm) bs)from rfl,dW,dL];cases fb K.m (bN K.m v.W K.sup.cm) bs<;>cases l.all (sr K.sup.g)<;>rfl
theorem Vs {im:aj} {top:Int} {u:Nat} {g:Int} : ∀(c i:Nat) (l l':List bB),lZ im top u g c i l=some l'->(∀s∈l,s.gen<=g)->∀s∈l',s.gen<=g
 |0,_,_,_,h,hg=>by cases h;exact hg
 |c+1,i,l,l',h,hg=>by
  unfold lZ at h;cases hF:mE im top i with
  |none=>rw[hF]at h;cases h
  |some s=>
  rw[hF]at h;simp only at h;cases hu:decide (u<=i)with
  |true=>
   rw[hu,ae]at h;cases hs:ot s with
   |false=>rw[hs]at h;cases h
   |true=>rw[hs]at h;exact Vs c _ _ _ h hg
  |false=>
   rw[hu,af]at h;cases hb:decide (s.gen<1)||decide (s.gen>g)with
   |true=>rw[hb]at h;cases h
   |false=>
    rw[hb]at h;rw[BB,xV,xV]at hb;refine Vs c _ _ _ h λy hy=>?_
    grind
theorem ZvJ {x:cy} {l:List bB} (h:rH im x=some (l,pg)): ∀s∈l,s.gen<=x.g:=by
 unfold rH at h;cases hP:yz im x.cm with
 |none=>rw[hP]at h;cases h
 |some pg'=>
  rw[hP]at h;simp only at h;cases hd:decide (pg'.length=(x.used.toNat+6)/7+pQ x.used.toNat)with
  |false=>rw[hd]at h;cases h
  |true=>
   rw[hd,ae]at h;cases hS:lZ im x.cm x.used.toNat x.g (7*((x.used.toNat+6)/7)) 0 []with
   |none=>rw[hS]at h;cases h
   |some l'=>
    rw[hS]at h;cases h;exact Vs _ _ _ _ hS λs hs=>nomatch hs
theorem Zvb (h:16<=m:=by omega):dB (jl m [0,1])=[0,1]:=by
 refine Ga (yb _) (by unfold kN;simp) λk=>?_
 rw[pE];constructor
 .rintro⟨b,rfl,hb⟩
  exact((wO _ b).1 hb).1
 .intro hk
  have nM:k=0\/k=1:=by simpa using hk
  exact⟨k.toNat,AC,(wO _ _).2 Fd⟩
theorem Zys {x:cy} (km:K.m=x.blocks.toNat) (ki:K.img=img) (ks:K.sup=x) (hx:pB x) (hb:x.blocks<=((img.length/64:Nat):Int)):match tQ K with
  |none=>vz img x=none
  |some v=>vz img x=some (fw x v,dB v.W)/\∃all:ak,v.W=all.foldl (bN x.blocks.toNat) (jl x.blocks.toNat [0,1]):=by
 have⟨g1,g2,g3,g4,g5,g6⟩:=ZR hx.g;have⟨m,hm⟩: ∃m:Nat,x.blocks=(m:Int):=Fd
 have j8:x.blocks.toNat=m:=AC
 have hmi:64*m<=img.length:=AC
 rw[j8]at km;have vV:64*K.m<=K.img.length:=by rw[km,ki];exact hmi
 have⟨W0,tr⟩: ∃W0,jl m [0,1]=W0:=⟨_,rfl⟩;have vW:W0.length=(m+63)/64:=by rw[<-tr];unfold jl;rw[(ZE m _ _).1,oV]
 have Hs: ∀b,du W0 b=true->b<m:=λb EF=>by rw[<-tr]at EF;exact((wO _ b).1 EF).2
 have J6:du W0 0=true:=by rw[<-tr];exact(wO _ 0).2 ⟨Do,AC⟩
 have KC:dB W0=[0,1]:=by rw[<-tr];exact Zvb
 have hp:=ZyH (by rw[ks];exact hx) vV (qT K.m) rfl;rw[km,ki,ks]at hp;rw[j8,tr];unfold vz tQ;rw[(Ai x).2 hx,bw,af,aZ,j8,km,hp];cases hS:rH (img.take (64*m)) x with
 |none=>rfl
 |some q=>
 have⟨l,pg⟩:=q;have⟨s1,s2,s3,s4⟩:=Vl hx hS;have sg:=ZvJ hS;simp only;have⟨v1,zi⟩: ∃v1:aR, { qT m with aG:=l,W:=pg.foldl (bN m) (qT m).W } =v1:=⟨_,rfl⟩;have e1:v1.aG=l:=by rw[<-zi]
 have e2:v1.W=pg.foldl (bN m) W0:=by rw[<-zi,<-tr];rfl
 have e3:v1.aK=[]/\v1.aF=[]/\v1.free=[]/\v1.nodes=0:=by rw[<-zi];exact⟨rfl,rfl,rfl,rfl⟩
 rw[zi,show(qT m).W=W0 from tr];have hf:=Zz2 (K:=K) (v:=v1) (by rw[ks];exact hx) (by rw[ks,e1];exact s2) (λs hs hv=>by rw[e1]at hs;exact(ZkU (s1 s hs) hv).1) Fd e3.2.2.1;rw[ks,e1]at hf;cases hP:fb m W0 pg with
 |false=>
  rw[gu,af];simp only;cases w4 l x with
  |none=>rfl
  |some fr=>
   simp only;cases wo (img.take (64*m)) x.dir with
   |none=>rfl
   |some q=>
    have⟨qs,bs⟩:=q;simp only;rw[JD];cases iP (img.take (64*m)) x.used l qs [] [] 0 with
    |none=>rfl
    |some q=>
     have⟨h,a,n⟩:=q;rw[ny];have hr:=NJ (pg++bs++a) W0 vW Hs J6;rw[KC,fR,Cf,hP,gu,af,<-hm,<-fR]at hr;grind
 |true=>
 rw[dL];cases hA:l.all (sr x.g)with
 |false=>
  rw[hA,af]at hf;grind
 |true=>
 rw[hA,ae]at hf;rw[ae];simp only;rw[hf];cases hF:w4 l x with
 |none=>rfl
 |some fr=>
 simp only[ny];have hq:=Zw5 vV { v1 with free:=fr } (by rw[km];exact(by rw[e2,(ZE m _ _).1];exact vW)) e3.1;rw[km,ki,ks,e1]at hq;rw[hq];cases G6:wo (img.take (64*m)) x.dir with
 |none=>rfl
 |some q=>
 have⟨qs,bs⟩:=q;simp only;rw[JD qs [] (pg++bs)];cases iP (img.take (64*m)) x.used l qs [] [] 0 with
 |none=>rfl
 |some q=>
 have⟨h,a,n⟩:=q;rw[ny,tj,km,e2,e3.1,e3.2.2.2];have hr:=NJ (pg++bs++a) W0 vW Hs J6;rw[KC,fR,Cf,hP,dL,<-hm,<-fR,fR pg,xQ]at hr;rw[fR pg];cases dW:fb m (pg.foldl (bN m) W0) (bs++a)with
 |false=>
  rw[dW,af]at hr;rw[af];grind
 |true=>
  rw[dW,ae]at hr;rw[ae];simp only;have nO: ∀v:aR,v.aG=l->zy v=oO l:=λv e=>by unfold zy oO;rw[e]
  rw[nO _ rfl,show((oO l:Int)+n==0)=decide ((oO l:Int)=0-n) by rw[lS];simp;omega];cases hR:qA x.blocks (pg++(bs++a)) [0,1]with
  |none=>rw[hR]at hr;cases hr
  |some r=>
   rw[hR]at hr;simp only at hr⊢;cases hd:decide (r.length=(pg++(bs++a)).length+2)with
   |false=>rw[show(([0,1]:ak).length)=2 from rfl,hd]at hr;cases hr
   |true=>
    rw[show(([0,1]:ak).length)=2 from rfl,hd,ae]at hr;cases hr;cases decide ((oO l:Int)=0-n)with
    |false=>rfl
    |true=>
     refine⟨?_,pg++(bs++a),by rw[xQ (l:=pg)];rfl⟩;unfold uT fw;grind
theorem ZvK {x:ZH} (h:ZL l=some x):x.name.length<=24:=by
 unfold ZL at h;split at h
 .cases h
 .rename_i k t b _
  cases hk:decide (k=5)with
  |false=>rw[hk]at h;cases h
  |true=>
   cases hc:decide (t<=24)with
   |false=>rw[hk,hc]at h;cases h
   |true=>
    rw[hk,hc]at h;cases hn:ZD (b.drop (28+t))with
    |false=>rw[hn]at h;cases h
    |true=>
     cases hr:na (jY b t)with
     |false=>rw[hn,hr]at h;cases h
     |true=>
      rw[hn,hr]at h;grind[jY]
theorem ZsL {im:aj} : ∀(l:ak) (qs lq:List ZH),mR im qs l=some lq->(∀q∈qs,q.name.length<=24)->(∀q∈lq,q.name.length<=24)/\lq.length=qs.length+l.length
 |[],qs,lq,h,hq=>by cases h;exact⟨hq,rfl⟩
 |k::r,qs,lq,h,hq=>by
  unfold mR at h;cases hL:jC im k with
  |none=>rw[hL]at h;cases h
  |some c=>
   rw[hL]at h;simp only at h;cases hQ:ZL c with
   |none=>rw[hQ]at h;cases h
   |some q=>
    rw[hQ]at h;simp only at h;cases hN:xE qs q with
    |false=>rw[hN]at h;cases h
    |true=>
     rw[hN,ae]at h;have⟨h1,h2⟩:=ZsL r _ _ h λy hy=>by
      rcases gI.1 hy with hy|hy
      .exact hq y hy
      .rw[cE.1 hy];exact ZvK hQ
     grind
theorem Zxa: ∀(es out:List bm),(es.foldl qL out).length=out.length+es.length
 |[],_=>rfl
 |e::es,out=>by rw[BF,Zxa es,VZ,cQ];omega
theorem ZuZ {im:aj} {u:Int} {l:List bB} : ∀(qs:List ZH) (hs iY:List dJ) (all JN:ak) (lv lv':Int),iP im u l qs hs all lv=some (iY,JN,lv')->(∀q∈qs,q.name.length<=24)->(∀g∈hs,g.name.length<=24)->(∀g∈iY,g.name.length<=24)/\iY.length=hs.length+qs.length/\((iY.map (·.cg)).flatten).length+all.length=((hs.map (·.cg)).flatten).length+JN.length
 |[],hs,iY,all,JN,lv,lv',h,_,hg=>by cases h;grind
 |q::r,hs,iY,all,JN,lv,lv',h,hq,hg=>by
  unfold iP at h;cases hF:vB im q.dH with
  |none=>rw[hF]at h;cases h
  |some p=>
   have⟨es,ns⟩:=p;rw[hF]at h;simp only at h;cases hb:ju u l es ns with
   |false=>rw[hb]at h;cases h
   |true=>
    rw[hb,ae]at h;have⟨h1,h2,h3⟩:=ZuZ r _ _ _ _ _ _ h Fd λy hy=>by
     grind
    have h4:=Zo7 hF;have h5:(Z8 es).length=es.length:=by simp[Z8,Zxa]
    rw[fB,H7,bz,bz,show([⟨q.name,Z8 es⟩]:List dJ).map (·.cg)=[Z8 es]from rfl,List.flatten_singleton,h5]at h3;rw[bz,iS]at h2;grind
theorem Ztx {l:List bB} {u g:Int} : ∀(f:Nat) (k:Int) (out o:ak),nf l u g f k out=some o->o.length<=out.length+f
 |0,_,_,_,h=>by cases h
 |f+1,k,out,o,h=>by
  unfold nf at h;cases h0:k==0 with
  |true=>rw[h0]at h;cases h;omega
  |false=>
  rw[h0,af]at h;cases h1:decide (k>u)with
  |true=>rw[h1]at h;cases h
  |false=>
  rw[h1,af]at h;cases hg:l[(k-1).toNat]? with
  |none=>rw[hg]at h;cases h
  |some s=>
  rw[hg]at h;simp only at h;cases h2:s.live with
  |true=>rw[h2]at h;cases h
  |false=>
  cases h3:decide (s.gen>=g)with
  |true=>rw[h2,h3]at h;cases h
  |false=>
  cases h4:decide (k-1∈out)with
  |true=>rw[h2,h3,h4]at h;cases h
  |false=>
   rw[h2,h3,h4]at h;have:=Ztx f _ _ _ h;rw[bz,iS]at this;omega
theorem Zvo {g:dJ} : ∀ {l:List dJ},g∈l->g.cg.length<=((l.map (·.cg)).flatten).length
 |x::l,h=>by
  rw[oe,BE,bz];rcases eM.1 h with rfl|h
  .omega
  .have:=Zvo h;omega
theorem Zyu {x:cy} {y:eR} (hx:pB x) (h:vz img x=some (y,r)):BQ y/\r.length<5000:=by
 have⟨g1,g2,g3,g4,g5,g6⟩:=ZR hx.g;have⟨m,hm⟩: ∃m:Nat,x.blocks=(m:Int):=⟨x.blocks.toNat,AC⟩;unfold vz at h;rw[(Ai x).2 hx,bw,af]at h;cases hb:decide (x.blocks>((img.length/64:Nat):Int))with
 |true=>rw[hb]at h;cases h
 |false=>
 rw[hb,af]at h;generalize img.take (64*x.blocks.toNat)=im at h;cases hS:rH im x with
 |none=>rw[hS]at h;cases h
 |some q=>
 have⟨l,pg⟩:=q;rw[hS]at h;simp only at h;have⟨s1,s2,s3,s4⟩:=Vl hx hS;cases hF:w4 l x with
 |none=>rw[hF]at h;cases h
 |some fr=>
 rw[hF]at h;simp only at h;have eE:fr.length<=l.length+2:=by
  unfold w4 at hF;cases hL:nf l x.used x.g (l.length+2) x.free []with
  |none=>rw[hL]at hF;cases hF
  |some o=>
   rw[hL]at hF;simp only at hF;cases hA:sS x.g o 0 l with
   |false=>rw[hA]at hF;cases hF
   |true=>
    rw[hA]at hF;cases hF;have:=Ztx _ _ _ _ hL;simpa using this
 cases hR:wo im x.dir with
 |none=>rw[hR]at h;cases h
 |some q=>
 have⟨qs,bs⟩:=q;rw[hR]at h;simp only at h;have K0:(∀q∈qs,q.name.length<=24)/\qs.length<=bs.length:=by
  unfold wo at hR;split at hR
  .grind
  .split at hR
   .cases hR
   .split at hR
    .cases hR
    .split at hR
     .cases hR
     .rename_i c _ l' _ qs' hq
      cases hR;have⟨a1,a2⟩:=ZsL _ _ _ hq λq hq=>nomatch hq
      grind
 cases hW:iP im x.used l qs [] (pg++bs) (oO l)with
 |none=>rw[hW]at h;cases h
 |some q=>
 have⟨hs,all,lv⟩:=q;rw[hW]at h;simp only at h;have⟨w1,w2,w3⟩:=ZuZ _ _ _ _ _ _ _ hW K0.1 λg hg=>nomatch hg
 cases hG:qA x.blocks all [0,1]with
 |none=>rw[hG]at h;cases h
 |some r'=>
 rw[hG]at h;simp only at h;cases eX:lv==0 with
 |false=>rw[eX]at h;cases h
 |true=>
 rw[eX,ae]at h;cases hd:decide (r'.length=all.length+2)with
 |false=>rw[hd]at h;cases h
 |true=>
 rw[hd,ae]at h;cases h;have vW:(jl m [0,1]).length=(m+63)/64:=by unfold jl;rw[(ZE m _ _).1,oV]
 have hr:=NJ all (jl m [0,1]) vW (λb hb=>((wO _ b).1 hb).2) ((wO _ 0).2 ⟨Do,AC⟩);rw[Zvb,<-hm,hG]at hr;simp only at hr;rw[show(([0,1]:ak).length)=2 from rfl,hd,ae]at hr;have ale:all.length<=m:=by
  cases dW:fb m (jl m [0,1]) all with
  |false=>rw[dW]at hr;cases hr
  |true=>exact Zu4 vW dW
 have iB:=mW hd;rw[bz]at w3;simp only[List.map_nil,List.flatten_nil,xS]at w2 w3;refine⟨⟨⟨Fd,λg hg=>?_,Fd⟩,by show((hs.map (·.cg)).flatten).length<=_;omega,Fd,Fd⟩,AC⟩;have:g.cg.length<=((hs.map (·.cg)).flatten).length:=Zvo hg;omega
end Go.Gv.F
