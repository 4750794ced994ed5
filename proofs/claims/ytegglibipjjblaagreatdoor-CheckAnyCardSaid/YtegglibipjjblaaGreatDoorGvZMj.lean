/- The program's walk and the document's: what is taken, and blocks by kind. No program in sight. -/
import Derived.Test.YtegglibipjjblaaGreatDoorGvZMi
set_option linter.all false
namespace Go.Gv.F
open Go.Gv
def eS (m:Nat):al->ak->Bool
 |_,[]=>true
 |W,k::r=>fO m W k&&eS m (bK m W k) r
variable {k u y:Int} {es hY:List bh} {c d m n p:Nat} {v:aS} {im img l:aj} {gP ks pg r:ak} {W:al} {K:bL} {e:bh}
theorem Ztb {a:Int} (hl:W.length=(m+63)/64) (ha:fO m W a=true):fO m (bK m W a) k=(fO m W k&& !decide (k=a)):=by
 unfold fO at ha⊢;rw[qP hl];grind
theorem IZ {m:Nat} : ∀ {ks:ak} {W:al},W.length=(m+63)/64->(eS m W ks=true↔ks.Nodup/\∀k∈ks,fO m W k=true)
 |[],W,_=>by simp[eS]
 |a::r,W,hl=>by
  unfold eS;rw[aY,zA,IZ (by rw[oM];exact hl)];constructor
  .rintro⟨h1,h2,h3⟩
   have h4: ∀k∈r,fO m W k=true/\k≠a:=λk hk=>by
    have:=h3 k hk;rw[Ztb hl h1,aY,lF,zB]at this;exact this
   grind
  .rintro⟨⟨h1,h2⟩,h3⟩
   have h4:=h3 a uv;refine⟨h4,h2,λk hk=>?_⟩;rw[Ztb hl h4,h3 k (zy _ hk),dF,lF,zB];grind
theorem BN {m:Nat} : ∀(a b:ak) (W:al),eS m W (a++b)=(eS m W a&&eS m (a.foldl (bK m) W) b)
 |[],_,_=>rfl
 |k::a,b,W=>by
  show(fO m W k&&eS m (bK m W k) (a++b))=((fO m W k&&eS m (bK m W k) a)&&_);rw[BN a b,Bool.and_assoc];rfl
theorem ZtH {a b:ak} (hl:W.length=(m+63)/64) (h:a.Perm b):eS m W a=eS m W b:=by
 rw[lE,IZ hl,IZ hl,h.nodup_iff];grind
theorem Zv9 (m:Nat) (W:al) (a b:Int):bK m (bK m W a) b=bK m (bK m W b) a:=by
 unfold bK;cases fE m a<;>cases fE m b<;>simp only[ae,af]
 refine tk λi=>?_
 grind
theorem Zrx {a b:ak} (h:a.Perm b): ∀(W:al),a.foldl (bK m) W=b.foldl (bK m) W:=by
 induction h with
 |nil=>exact λ_=>rfl
 |cons x _ ih=>exact λW=>ih _
 |swap x y l=>exact λW=>by simp only[Bf,Zv9 m W y x]
 |trans _ _ i1 i2=>grind
theorem ZuW (hl:W.length=(m+63)/64) (h:eS m W ks=true):ks.length<=m:=by
 have⟨h1,h2⟩:=(IZ hl).1 h;have:=xL (m:=ZW 0 m) h1 λk hk=>by
  grind[fO,fE,ZW]
 grind[ZW]
def yL (l:aj):Nat:=match fM l with
 |none=>0
 |some (k,_,_)=>k
theorem NB {x:jL} (h:iY l=some x):yL l=1:=by
 grind[iY,yL]
theorem Nv {x:List bw} (h:ZL l=some x):yL l=2:=by
 grind[ZL,yL]
theorem V3 {x:ak} (h:iM l=some x):yL l=3:=by
 grind[iM,yL]
theorem ZwP {x:ZH} (h:ZJ l=some x):yL l=5:=by
 grind[ZJ,yL]
theorem Zz7 {x:ak} (h:lj l=some x):yL l=6:=by
 grind[lj,yL]
theorem aa2 {x:jL} :ZV l= .node x↔iY l=some x:=by
 grind[ZV]
theorem aa1 {x:List bw} :ZV l= .leaf x↔ZL l=some x:=by
 unfold ZV;cases h1:iY l with
 |some y=>
  cases h2:ZL l with
  |none=>simp
  |some z=>have:=NB h1;rw[Nv h2]at this;cases this
 |none=>cases h2:ZL l<;>cases h3:iM l<;>cases h4:ZJ l<;>cases h5:lj l<;>simp
theorem NM {x:ak} :ZV l= .cc x↔iM l=some x:=by
 unfold ZV;cases h3:iM l with
 |none=>cases h1:iY l<;>cases h2:ZL l<;>cases h4:ZJ l<;>cases h5:lj l<;>simp
 |some z=>
  have hk:=V3 h3;cases h1:iY l with
  |some y=>rw[NB h1]at hk;cases hk
  |none=>
   cases h2:ZL l with
   |some y=>rw[Nv h2]at hk;cases hk
   |none=>simp
theorem aa3 {x:ZH} :ZV l= .queue x↔ZJ l=some x:=by
 unfold ZV;cases h4:ZJ l with
 |none=>cases h1:iY l<;>cases h2:ZL l<;>cases h3:iM l<;>cases h5:lj l<;>simp
 |some z=>
  have hk:=ZwP h4;cases h1:iY l with
  |some y=>rw[NB h1]at hk;cases hk
  |none=>
   cases h2:ZL l with
   |some y=>rw[Nv h2]at hk;cases hk
   |none=>
    cases h3:iM l with
    |some y=>rw[V3 h3]at hk;cases hk
    |none=>simp
theorem aa0 {x:ak} :ZV l= .dir x↔lj l=some x:=by
 unfold ZV;cases h5:lj l with
 |none=>cases h1:iY l<;>cases h2:ZL l<;>cases h3:iM l<;>cases h4:ZJ l<;>simp
 |some z=>
  have hk:=Zz7 h5;cases h1:iY l with
  |some y=>rw[NB h1]at hk;cases hk
  |none=>
   cases h2:ZL l with
   |some y=>rw[Nv h2]at hk;cases hk
   |none=>
    cases h3:iM l with
    |some y=>rw[V3 h3]at hk;cases hk
    |none=>
     cases h4:ZJ l with
     |some y=>rw[ZwP h4]at hk;cases hk
     |none=>simp
theorem FU (hm:64*m<=img.length) (k:Int):jt (img.take (64*m)) k=bif fE m k then some (ZG img k.toNat)else none:=by
 have h1:(img.take (64*m)).length/64=m:=by rw[cX];omega
 unfold jt fE;rw[h1];by_cases hk:0<=k/\k<(m:Int)
 .rw[bj (by omega),ax hk.1,ax hk.2,vQ,ae,acw]
  grind[w4,C9,Db]
 grind
theorem FV (h:fO m W k=true):fE m k=true/\2<=k:=by
 grind[fO]
def lK:Option (List bh×aS)->Option (List bh×aS)->Prop
 |none,none=>True
 |some (a,v),some (b,w)=>a.Perm b/\v=w
 |_,_=>False
theorem lK.refl: ∀a,lK a a
 |none=>trivial
 |some _=>⟨.refl _,rfl⟩
theorem lK.of {a b:Option (List bh×aS)} (h:a=b):lK a b:=h▸lK.refl a
theorem lK.trans: ∀ {a b c:Option (List bh×aS)},lK a b->lK b c->lK a c
 |none,none,_,_,h=>h
 |some _,some _,some _,h,k=>⟨h.1.trans k.1,h.2.trans k.2⟩
theorem ZqT {K:bL} : ∀(f:Nat) {a b:List bh} (t:List ni) (v:aS),a.Perm b->lK (jP K f a t v) (jP K f b t v)
 |0,_,_,_,_,_=>trivial
 |_+1,_,_,[],_,h=>⟨h,rfl⟩
 |f+1,a,b,t::r,v,h=>by
  unfold jP;split
  .rename_i x v' _
   cases uN K v' t x with
   |false=>trivial
   |true=>exact ZqT f _ _ (h.append_right _)
  .trivial
def iT (K:bL) (v:aS) (bs:ak) (n:Nat):aS:= { v with W:=bs.foldl (bK K.m) v.W,nodes:=v.nodes+(n:Int) }
theorem ZuG (K:bL) (v:aS) (a b:ak) (i j:Nat):iT K (iT K v a i) b j=iT K v (a++b) (i+j):=by
 grind[iT]
theorem Zyr (K:bL) (v:aS) {a b:ak} (h:a.Perm b) (i:Nat):iT K v a i=iT K v b i:=by
 unfold iT;rw[Zrx h]
theorem M1 (u:Int) (l:List bw): ∀(es:List bh) (ns:ak) (hY:List bh) (KU:ak),es.length=ns.length->ji u l (es++hY) (ns++KU)=(ji u l es ns&&ji u l hY KU)
 |[],[],_,_,_=>rfl
 |e::es,n::ns,hY,KU,h=>by
  show(bif jS u l e n then ji u l (es++hY) (ns++KU)else false)=((bif jS u l e n then ji u l es ns else false)&&_);rw[M1 u l es ns hY KU (by simpa using h)];cases jS u l e n<;>rfl
def okB (K:bL) (v:aS) (es:List bh) (bs:ak):Bool:=ji K.sup.used v.aG es bs&&eS K.m v.W bs
theorem Zz0 (hl:v.W.length=(K.m+63)/64) {bs:ak} (h:es.length=bs.length) (n:Nat):okB K v (es++hY) (bs++gP)=(okB K v hY gP&&okB K (iT K v gP n) es bs):=by
 unfold okB iT;rw[M1 _ _ _ _ _ _ h,ZtH hl (List.perm_append_comm (l₁:=bs) (l₂:=gP)),BN];cases ji K.sup.used v.aG es bs<;>cases ji K.sup.used v.aG hY gP<;>simp
def Le (K:bL) (im:aj) (d:Nat) (k:Int) (par:bh) (top:Bool) (f:Nat) (out:List bh) (rest:List ni) (v:aS):Option (List bh×aS):=match lD im d k with
 |none=>none
 |some (es,bs)=>bif (bif top then true else fu par (es.headD yd))&&okB K v es bs then jP K (f-es.length) (out++es) rest (iT K v bs es.length)else none
def KM (K:bL) (im:aj) (j:Nat) (x:jL) (f:Nat) (out:List bh) (rest:List ni) (v:aS):Option (List bh×aS):=match jN im j x.kids x.bJ with
 |none=>none
 |some (es,bs)=>bif okB K v es bs then jP K (f-es.length) (out++es) rest (iT K v bs es.length)else none
theorem ZxZ (hm:64*m<=img.length) (k:Int):uo (img.take (64*m)) k=bif fE m k then iY (ZG img k.toNat)else none:=by
 unfold uo;rw[FU hm];cases fE m k<;>rfl
def TP (K:bL) (im:aj) (d:Nat):Prop:=∀(k:Int) (par:bh) (top:Bool) (f:Nat) (out:List bh) (rest:List ni) (v:aS),v.W.length=(K.m+63)/64->lK (jP K f out (⟨k,d,par,top⟩::rest) v) (Le K im d k par top f out rest v)
def KP (K:bL) (im:aj) (j:Nat):Prop:=∀(x:jL) (f:Nat) (out:List bh) (rest:List ni) (v:aS),v.W.length=(K.m+63)/64->lK (jP K f out (sS x j++rest) v) (KM K im j x f out rest v)
theorem VQ (hl:v.W.length=(K.m+63)/64) (bs:ak) (n:Nat):(iT K v bs n).W.length=(K.m+63)/64:=(ZF K.m bs v.W).1.trans hl
theorem acU (hm:64*K.m<=K.img.length) (h:KP K (K.img.take (64*K.m)) d):TP K (K.img.take (64*K.m)) d:=by
 intro k par top f out rest v hl;cases f with
 |zero=>
  refine lK.of ?_;unfold Le;cases lD (K.img.take (64*K.m)) d k with
  |none=>rfl
  |some q=>
   have⟨es,bs⟩:=q;simp only[Nat.zero_sub];cases(bif top then true else fu par (es.headD yd))&&okB K v es bs<;>rfl
 |succ f=>
 have hL:jP K (f+1) out (⟨k,d,par,top⟩::rest) v=match dO K k v with
  |some (.node x,v')=>bif uN K v' ⟨k,d,par,top⟩ x then jP K f (out++[x.bJ]) (sS x x.kids.length++rest) { v' with nodes:=v'.nodes+1 } else none
  |_=>none:=rfl
 rw[hL];unfold Le lD dO;rw[ZxZ hm];cases hf:fO K.m v.W k with
 |false=>
  refine lK.of ?_;cases(bif fE K.m k then iY (ZG K.img k.toNat)else none)with
  |none=>rfl
  |some x=>
   simp only;cases decide (x.kids.length=d)with
   |false=>rfl
   |true=>
    cases jN (K.img.take (64*K.m)) d x.kids x.bJ with
    |none=>rfl
    |some q=>
     simp only[ae,okB,eS,hf,gf,C5,af]
 |true=>
 rw[(FV hf).1,ae,ae];cases hN:iY (ZG K.img k.toNat)with
 |none=>
  cases hb:ZV (ZG K.img k.toNat)with
  |node x=>rw[aa2.1 hb]at hN;cases hN
  |_=>trivial
 |some x=>
  rw[aa2.2 hN];simp only;have pj:uN K { v with W:=bK K.m v.W k } ⟨k,d,par,top⟩ x=(decide (x.kids.length=d)&&((bif top then true else fu par x.bJ)&&jS K.sup.used v.aG x.bJ k)):=by
   grind[uN,jS,DR]
  rw[pj];cases hd:decide (x.kids.length=d)with
  |false=>trivial
  |true=>
   have kK:x.kids.length=d:=mK hd;rw[ae,kK,dF];have hk:=h x f (out++[x.bJ]) rest { v with W:=bK K.m v.W k,nodes:=v.nodes+1 } ((oM K.m v.W k).trans hl);unfold KM at hk;cases hT:jN (K.img.take (64*K.m)) d x.kids x.bJ with
   |none=>
    rw[hT]at hk;cases(bif top then true else fu par x.bJ)&&jS K.sup.used v.aG x.bJ k with
    |false=>trivial
    |true=>exact hk
   |some q=>
    have⟨es,bs⟩:=q;rw[hT]at hk;simp only at hk⊢;have ho:okB K v (x.bJ::es) (k::bs)=(jS K.sup.used v.aG x.bJ k&&okB K { v with W:=bK K.m v.W k,nodes:=v.nodes+1 } es bs):=by
     unfold okB;show((bif jS K.sup.used v.aG x.bJ k then ji K.sup.used v.aG es bs else false)&&(fO K.m v.W k&&eS K.m (bK K.m v.W k) bs))=_;rw[hf,dF];cases jS K.sup.used v.aG x.bJ k<;>rfl
    have hu:iT K { v with W:=bK K.m v.W k,nodes:=v.nodes+1 } bs es.length=iT K v (k::bs) (x.bJ::es).length:=by
     grind[iT]
    rw[hu,fI]at hk;rw[ho,cO,show f+1-(es.length+1)=f-es.length by omega];show lK _ (bif (bif top then true else fu par x.bJ)&&(jS K.sup.used v.aG x.bJ k&&okB K { v with W:=bK K.m v.W k,nodes:=v.nodes+1 } es bs)then jP K (f-es.length) (out++([x.bJ]++es)) rest (iT K v (k::bs) (x.bJ::es).length)else none);cases(bif top then true else fu par x.bJ)with
    |false=>trivial
    |true=>
     cases jS K.sup.used v.aG x.bJ k with
     |false=>trivial
     |true=>exact hk
theorem ZwK {K:bL} (hm:64*K.m<=K.img.length): ∀j,KP K (K.img.take (64*K.m)) j
 |0=>λx f out rest v _=>lK.of (by
   unfold KM jN;show jP K f out rest v=jP K (f-0) (out++[]) rest (iT K v [] 0);rw[gz];unfold iT;simp)
 |j+1=>λx f out rest v hl=>by
  have ih:=ZwK hm j;have ht:=acU hm ih (x.kids.getD j 0) x.bJ false f out (sS x j++rest) v hl;rw[Zpi,nQ];refine ht.trans ?_;unfold KM Le;rw[TN];cases hT:lD (K.img.take (64*K.m)) j (x.kids.getD j 0)with
  |none=>
   refine lK.of ?_;grind
  |some q=>
   have⟨fe,ga⟩:=q;simp only[af];have hk:=ih x (f-fe.length) (out++fe) rest (iT K v ga fe.length) (VQ hl _ _);unfold KM at hk;cases hS:jN (K.img.take (64*K.m)) j x.kids x.bJ with
   |none=>
    rw[hS]at hk;cases fu x.bJ (fe.headD yd)&&okB K v fe ga with
    |false=>trivial
    |true=>exact hk
   |some q=>
    have⟨es,bs⟩:=q;rw[hS]at hk;simp only at hk⊢;show lK _ (match (bif fu x.bJ (fe.headD yd)then some (es++fe,bs++ga)else none)with
     |none=>none
     |some (es,bs)=>bif okB K v es bs then jP K (f-es.length) (out++es) rest (iT K v bs es.length)else none)
    cases fu x.bJ (fe.headD yd)with
    |false=>trivial
    |true=>
     simp only[dF,ae];rw[Zz0 hl (Ia _ _ _ _ _ hS).2.symm fe.length];cases okB K v fe ga with
     |false=>trivial
     |true=>
      rw[ae,dF];refine hk.trans ?_;cases okB K (iT K v ga fe.length) es bs with
      |false=>trivial
      |true=>
       rw[ae,ae,ZuG,Zyr K v (List.perm_append_comm (l₁:=ga) (l₂:=bs)),bB,tm fe.length,show f-fe.length-es.length=f-(es.length+fe.length) by omega,fI];exact ZqT _ _ _ (List.perm_append_comm.append_left out)
def GK (K:bL) (v:aS) (acc:List bh):Option (List bh×ak)->Option (List bh×aS)
 |none=>none
 |some (es,bs)=>bif okB K v es bs then some (acc++es,iT K v bs es.length)else none
theorem Zy8 (hm:64*K.m<=K.img.length) (d:Nat) (k:Int) (v:aS) (hl:v.W.length=(K.m+63)/64):lK (rH K k d v) (GK K v [] (lD (K.img.take (64*K.m)) d k)):=by
 have h:=acU hm (ZwK hm d) k yd true (K.m+1) [] [] v hl;unfold rH;refine h.trans (lK.of ?_);unfold Le;cases hT:lD (K.img.take (64*K.m)) d k with
 |none=>rfl
 |some q=>
  have⟨es,bs⟩:=q;simp only[GK,ae,dF];cases ho:okB K v es bs with
  |false=>rfl
  |true=>
   unfold okB at ho;rw[aY]at ho;have h1:=ZuW hl ho.2;have h2:=(Dx hT).2;rw[show K.m+1-es.length=(K.m-es.length)+1 by omega];rfl
theorem Ms {im:aj} : ∀(l:ak) (i:Nat) (es:List bh) (bs:ak),lM im i l es bs=(lM im i l [] []).map λq=>(es++q.1,bs++q.2)
 |[],_,_,_=>by simp[lM]
 |k::r,i,es,bs=>by
  unfold lM;cases k==0 with
  |true=>exact Ms r _ es bs
  |false=>
   rw[af,af];cases lD im i k with
   |none=>rfl
   |some q=>
    have⟨fe,ga⟩:=q;simp only[jH];rw[Ms r _ (es++fe),Ms r _ fe];cases lM im (i+1) r [] []with
    |none=>rfl
    |some q=>simp
theorem U5 {K:bL} (hm:64*K.m<=K.img.length): ∀(l:ak) (i:Nat) (acc:List bh) (v:aS),v.W.length=(K.m+63)/64->lK (l8 K (i:Int) l acc v) (GK K v acc (lM (K.img.take (64*K.m)) i l [] []))
 |[],i,acc,v,_=>by
  show lK (some (acc,v)) (some (acc++[],iT K v [] 0));refine⟨by rw[gz],?_⟩;unfold iT;simp
 |k::r,i,acc,v,hl=>by
  unfold l8 lM;cases k==0 with
  |true=>
   have:=U5 hm r (i+1) acc v hl;rwa [show((i+1:Nat):Int)=(i:Int)+1 by omega]at this
  |false=>
   rw[bn,ae,af];have ht:=Zy8 hm i k v hl;cases hT:lD (K.img.take (64*K.m)) i k with
   |none=>
    rw[hT]at ht;cases hM:rH K k i v with
    |none=>trivial
    |some q=>rw[hM]at ht;exact ht.elim
   |some q=>
    have⟨fe,ga⟩:=q;rw[hT]at ht;simp only[GK,jH]at ht⊢;rw[Ms r];cases ho:okB K v fe ga with
    |false=>
     rw[ho]at ht;cases hM:rH K k i v with
     |some q=>rw[hM]at ht;exact ht.elim
     |none=>
      cases hF:lM (K.img.take (64*K.m)) (i+1) r [] []with
      |none=>trivial
      |some q=>
       have⟨es,bs⟩:=q;simp only[nf];rw[show okB K v (fe++es) (ga++bs)=(okB K v fe ga&&_)from by
        unfold okB;rw[M1 _ _ _ _ _ _ (Dx hT).2.symm,BN];rw[show ∀a b c d:Bool,((a&&b)&&(c&&d))=((a&&c)&&(b&&d))from by decide],ho]
       trivial
    |true=>
     rw[ho]at ht;cases hM:rH K k i v with
     |none=>rw[hM]at ht;exact ht.elim
     |some q=>
      have⟨out,w⟩:=q;rw[hM]at ht;obtain⟨hp,rfl⟩:=ht;have ih:=U5 hm r (i+1) (acc++out) (iT K v ga fe.length) (VQ hl _ _);rw[show((i+1:Nat):Int)=(i:Int)+1 by omega]at ih;refine ih.trans ?_;cases hF:lM (K.img.take (64*K.m)) (i+1) r [] []with
      |none=>trivial
      |some q=>
       have⟨es,bs⟩:=q;simp only[nf,GK];rw[show okB K v (fe++es) (ga++bs)=(okB K v fe ga&&okB K (iT K v ga fe.length) es bs)from by
        unfold okB iT;simp only;rw[M1 _ _ _ _ _ _ (Dx hT).2.symm,BN];rw[show ∀a b c d:Bool,((a&&b)&&(c&&d))=((a&&c)&&(b&&d))from by decide],ho,dF]
       cases okB K (iT K v ga fe.length) es bs with
       |false=>trivial
       |true=>
        rw[ae,ae,ZuG,<-bB,fI];exact⟨(hp.append_right es).append_left acc,rfl⟩
theorem Zuc {a b c:bh} (h:fu a b=true) (k:fu b c=true):fu a c=true:=by
 rw[MX]at h k⊢;exact UD h k
theorem ZxQ {a b:bh} (h:a.slot≠b.slot) (k:fu a b=false):fu b a=true:=by
 have:=Vl (x:=e4 a) (y:=e4 b) h;rw[<-MX,<-MX,k,vR]at this;exact this
theorem Zs0 (e:bh) (out:List bh): ∀k,(∀i,rD e out k<=i->i<k->fu e (out.getD i ⟨0,0,0,0⟩)=true)/\(0<rD e out k->fu e (out.getD (rD e out k-1) ⟨0,0,0,0⟩)=false)
 |0=>⟨by omega,λh=>absurd h (Nat.lt_irrefl _)⟩
 |k+1=>by
  have⟨h1,h2⟩:=Zs0 e out k;grind[rD]
theorem ZAa {out:List bh} (h:out.Pairwise λa b=>fu a b=true) (hd: ∀x∈out,x.slot≠e.slot):(qf out e).Perm (e::out)/\(qf out e).Pairwise λa b=>fu a b=true:=by
 unfold qf;have⟨h1,h2⟩:=Zs0 e out out.length;have hp:=Zu0 e out out.length;generalize rD e out out.length=p at h1 h2 hp;have hc: ∀i,(hi:i<out.length)->out.getD i ⟨0,0,0,0⟩=out[i]:=by grind
 constructor
 .refine List.perm_middle.trans ?_
  rw[rS]
 .have hb: ∀a∈out.take p,fu a e=true:=λa ha=>by
   obtain⟨i,hi,rfl⟩:=List.getElem_of_mem ha;rw[cX]at hi;rw[List.getElem_take];have lP:p-1<out.length:=by omega
   have h3:=h2 (by omega);rw[hc _ lP]at h3;have h4:=ZxQ (by grind) h3;rcases jI i (p-1)with h5|h5
   .exact Zuc ((Lt.1 h) i (p-1) (by omega) lP h5) h4
   grind
  refine Lr.2 ⟨(by grind),List.pairwise_cons.2 ⟨λa ha=>?_,(by grind)⟩,λa ha b dR=>?_⟩
  .obtain⟨i,hi,rfl⟩:=List.getElem_of_mem ha
   rw[fa]at hi;rw[List.getElem_drop,<-hc _ (by omega)];grind
  .rcases eF.1 dR with rfl|dR
   .exact hb a ha
   .rw[<-rS p out]at h
    grind
theorem Zq8: ∀(l out:List bh),(out.Pairwise λa b=>fu a b=true)->(∀x∈out,∀y∈l,x.slot≠y.slot)->Diff l->(l.foldl qf out).Perm (out++l)/\(l.foldl qf out).Pairwise λa b=>fu a b=true
 |[],out,h,_,_=>(by simp_all)
 |e::l,out,h,hd,.cons h1 h2=>by
  have⟨a1,a2⟩:=ZAa h (λx hx=>hd x hx e uv);have⟨b1,b2⟩:=Zq8 l (qf out e) a2 (λx hx y hy=>by
   grind) h2
  exact⟨b1.trans ((a1.append_right l).trans List.perm_middle.symm),b2⟩
theorem ZzL (hp:hY.Perm es) (hd:Diff es):lB hY=jM es:=by
 have⟨h1,h2⟩:=Zq8 es [] .nil (λx hx=>nomatch hx) hd;rw[jH]at h1;exact Zwo (hp.trans h1.symm) h2 (by
  have:=h1.map (·.slot);exact this.nodup_iff.2 (HE.2 hd))
theorem Zte (u:Int) (l:List bw): ∀(es:List bh) (ns:ak),es.length=ns.length->ji u l es ns=true->∀x∈es,∃w∈ns,jS u l x w=true
 |[],_,_,_,_,hx=>nomatch hx
 |e::es,n::ns,h,hf,x,hx=>by
  have hf:(bif jS u l e n then ji u l es ns else false)=true:=hf;cases he:jS u l e n with
  |false=>rw[he]at hf;cases hf
  |true=>
   rw[he,ae]at hf;rcases eF.1 hx with rfl|hx
   .grind
   .have⟨w,hw,fR⟩:=Zte u l es ns (by simpa using h) hf x hx
    grind
theorem Zzc {l:List bw} {x:bh} {a b:Int} (h:jS u l e a=true) (k:jS u l x b=true) (hs:e.slot=x.slot):a=b:=by
 unfold jS at h k;rw[<-hs]at k;cases hd:decide (e.slot>=u)with
 |true=>rw[hd]at h;cases h
 |false=>
  rw[hd,af]at h k;cases hg:l[e.slot.toNat]? with
  |none=>rw[hg]at h;cases h
  |some s=>
   rw[hg]at h k;grind
theorem Zru (u:Int) (l:List bw): ∀(es:List bh) (ns:ak),es.length=ns.length->ji u l es ns=true->ns.Nodup->Diff es
 |[],_,_,_,_=> .nil
 |e::es,n::ns,h,hf,hn=>by
  have hf:(bif jS u l e n then ji u l es ns else false)=true:=hf;cases he:jS u l e n with
  |false=>rw[he]at hf;cases hf
  |true=>
   rw[he,ae]at hf;rw[zA]at hn;have hl:es.length=ns.length:=by simpa using h
   refine .cons (λx hx hs=>?_) (Zru u l es ns hl hf hn.2);have⟨w,hw,fR⟩:=Zte u l es ns hl hf x hx;exact hn.1 (Zzc he fR hs▸hw)
theorem T5 {im:aj} : ∀(l:ak) (i:Nat) (es:List bh) (bs:ak) {hY:List bh} {gP:ak},lM im i l es bs=some (hY,gP)->es.length=bs.length->hY.length=gP.length
 |[],_,_,_,_,_,h,k=>by cases h;exact k
 |y::r,i,es,bs,hY,gP,h,k=>by
  unfold lM at h;cases hy:y==0 with
  |true=>rw[hy,ae]at h;exact T5 r _ _ _ h k
  |false=>
   rw[hy,af]at h;cases hT:lD im i y with
   |none=>rw[hT]at h;cases h
   |some q=>
    have⟨fe,ga⟩:=q;rw[hT]at h;exact T5 r _ _ _ h (by rw[bB,bB,k,(Dx hT).2])
theorem ZoI {l:ak} {bs:ak} (h:uX im l=some (es,bs)):es.length=bs.length:=T5 l 0 [] [] h rfl
theorem I6 {im:aj} {u:Int} {l:List bw} : ∀(qs:List ZH) (hs:List dP) (all:ak) (lv:Int),iE im u l qs hs all lv=(iE im u l qs [] [] 0).map λq=>(hs++q.1,all++q.2.1,lv+q.2.2)
 |[],_,_,_=>by simp[iE]
 |q::r,hs,all,lv=>by
  unfold iE;cases uX im q.dz with
  |none=>rfl
  |some p=>
   have⟨es,ns⟩:=p;simp only[jH];cases ji u l es ns with
   |false=>rfl
   |true=>
    rw[ae,ae,I6 r (hs++_),I6 r [_]];cases iE im u l r [] [] 0 with
    |none=>rfl
    |some p=>grind
theorem Zv7 {im:aj} : ∀(l:ak) (qs kT:List ZH),mF im qs l=some kT->∃new,kT=qs++new
 |[],qs,kT,h=>⟨[],by rw[gz];cases h;rfl⟩
 |k::r,qs,kT,h=>by
  unfold mF at h;cases hL:jt im k with
  |none=>rw[hL]at h;cases h
  |some c=>
   rw[hL]at h;simp only at h;cases hQ:ZJ c with
   |none=>rw[hQ]at h;cases h
   |some q=>
    rw[hQ]at h;simp only at h;cases hN:w9 qs q with
    |false=>rw[hN]at h;cases h
    |true=>
     rw[hN,ae]at h;obtain⟨new,rfl⟩:=Zv7 r _ _ h;simp
theorem ZzO {qs:List ZH} (h:v.aM.map (·.name)=qs.map (·.name)) (q:ZH):Ad v qs.length q.name=w9 qs q:=by
 unfold Ad w9;rw[List.getLast?_eq_getElem?];by_cases h0:qs.length=0
 .rw[zu.1 h0];rfl
 .rw[aF h0,af]
  have hg: ∀i:Nat,(v.aM[i]?).map dP.name=(qs[i]?).map ZH.name:=λi=>by rw[<-rQ,<-rQ,h]
  have h1:=hg (qs.length-1);have h2:qs[qs.length-1]? =some qs[qs.length-1]:=cq (by omega);rw[h2]at h1⊢;grind
def sB (K:bL) (v:aS) (l:ak):Option (List dP×ak×Int)->Option aS
 |none=>none
 |some (h,a,n)=>bif eS K.m v.W (l++a)then some { v with aM:=v.aM++h,W:=(l++a).foldl (bK K.m) v.W,nodes:=v.nodes-n } else none
theorem ZuI {l:ak} (h: ∀a,eS K.m v.W (l++a)=false): ∀q,sB K v l q=none
 |none=>rfl
 |some (_,a,_)=>by grind[sB]
theorem Zw7 {K:bL} (hm:64*K.m<=K.img.length): ∀(l:ak) (qs:List ZH) (v:aS),v.W.length=(K.m+63)/64->v.aM.map (·.name)=qs.map (·.name)->
  tP K qs.length l v=match mF (K.img.take (64*K.m)) qs l with
   |none=>none
   |some kT=>sB K v l (iE (K.img.take (64*K.m)) K.sup.used v.aG (kT.drop qs.length) [] [] 0)
 |[],qs,v,_,_=>by
  show some v=sB K v [] (iE (K.img.take (64*K.m)) K.sup.used v.aG (qs.drop qs.length) [] [] 0);rw[List.drop_length];simp[iE,sB,eS]
 |y::r,qs,v,hl,hn=>by
  unfold tP mF dO;rw[FU hm];cases hf:fO K.m v.W y with
  |false=>
   have cA: ∀q,sB K v (y::r) q=none:=ZuI λa=>by
    show(fO K.m v.W y&&_)=false;rw[hf,gf]
   grind
  |true=>
  rw[(FV hf).1,ae,ae];simp only;cases hQ:ZJ (ZG K.img y.toNat)with
  |none=>
   cases hb:ZV (ZG K.img y.toNat)with
   |queue x=>rw[aa3.1 hb]at hQ;cases hQ
   |_=>rfl
  |some q=>
  rw[aa3.2 hQ];simp only;rw[show Ad { v with W:=bK K.m v.W y } qs.length q.name=w9 qs q from ZzO hn q];cases hN:w9 qs q with
  |false=>rfl
  |true=>
  rw[ae,ae];have pw:({ v with W:=bK K.m v.W y } :aS).W.length=(K.m+63)/64:=(oM K.m v.W y).trans hl;have hh:=U5 hm q.dz 0 [] { v with W:=bK K.m v.W y } pw;rw[Int.ofNat_zero]at hh;rw[show lM (K.img.take (64*K.m)) 0 q.dz [] []=uX (K.img.take (64*K.m)) q.dz from rfl]at hh;have AN: ∀new,iE (K.img.take (64*K.m)) K.sup.used v.aG (q::new) [] [] 0=match uX (K.img.take (64*K.m)) q.dz with
    |none=>none
    |some (es,ns)=>bif ji K.sup.used v.aG es ns then iE (K.img.take (64*K.m)) K.sup.used v.aG new [⟨q.name,jM es⟩] ns (0-es.length)else none:=λnew=>rfl
  have Xj: ∀kT,mF (K.img.take (64*K.m)) (qs++[q]) r=some kT->∃new,kT.drop qs.length=q::new/\kT.drop (qs.length+1)=new:=λkT h1=>by
   obtain⟨new,rfl⟩:=Zv7 _ _ _ h1;simp
  cases hF:uX (K.img.take (64*K.m)) q.dz with
  |none=>
   rw[hF]at hh;cases hM:l8 K 0 q.dz [] { v with W:=bK K.m v.W y } with
   |some p=>rw[hM]at hh;exact hh.elim
   |none=>
    cases hS:mF (K.img.take (64*K.m)) (qs++[q]) r with
    |none=>rfl
    |some kT=>
     have⟨new,e1,_⟩:=Xj _ hS;simp only;rw[e1,AN,hF];rfl
  |some p=>
  have⟨es,ns⟩:=p;rw[hF]at hh;simp only[GK,jH]at hh;have ack: ∀new,iE (K.img.take (64*K.m)) K.sup.used v.aG (q::new) [] [] 0=bif ji K.sup.used v.aG es ns then(iE (K.img.take (64*K.m)) K.sup.used v.aG new [] [] 0).map (λq'=>([⟨q.name,jM es⟩]++q'.1,ns++q'.2.1,0-(es.length:Int)+q'.2.2))else none:=λnew=>by
   rw[AN,hF];simp only;rw[I6 new]
  have dS: ∀a,eS K.m v.W (y::r++(ns++a))=(eS K.m (bK K.m v.W y) ns&&eS K.m (ns.foldl (bK K.m) (bK K.m v.W y)) (r++a)):=λa=>by
   show(fO K.m v.W y&&eS K.m (bK K.m v.W y) (r++(ns++a)))=_;rw[hf,dF,<-BN];refine ZtH pw ?_;rw[<-fI,<-fI];grind
  have hlen:=ZoI hF;cases ho:okB K { v with W:=bK K.m v.W y } es ns with
  |false=>
   rw[ho]at hh;cases hM:l8 K 0 q.dz [] { v with W:=bK K.m v.W y } with
   |some p=>rw[hM]at hh;exact hh.elim
   |none=>
    cases hS:mF (K.img.take (64*K.m)) (qs++[q]) r with
    |none=>rfl
    |some kT=>
     have⟨new,e1,_⟩:=Xj _ hS;simp only;rw[e1,ack];unfold okB at ho;cases GM:ji K.sup.used v.aG es ns with
     |false=>rfl
     |true=>
      rw[show ji K.sup.used ({ v with W:=bK K.m v.W y } :aS).aG es ns=true from GM,dF]at ho;rw[ae];cases iE (K.img.take (64*K.m)) K.sup.used v.aG new [] [] 0 with
      |none=>rfl
      |some p=>
       rw[nf,sB];rw[dS,ho];rfl
  |true=>
   rw[ho]at hh;have uf:=ho;unfold okB at uf;rw[aY]at uf;have hd:Diff es:=Zru _ _ es ns hlen uf.1 ((IZ pw).1 uf.2).1;cases hM:l8 K 0 q.dz [] { v with W:=bK K.m v.W y } with
   |none=>rw[hM]at hh;exact hh.elim
   |some p=>
    have⟨out,w⟩:=p;rw[hM]at hh;obtain⟨hp,rfl⟩:=hh;simp only;rw[ZzL hp hd];have ih:=Zw7 hm r (qs++[q]) { (iT K { v with W:=bK K.m v.W y } ns es.length)with aM:=v.aM++[⟨q.name,jM es⟩] } (VQ pw ns es.length) (by rw[fq,fq,hn];rfl);rw[show(qs++[q]).length=qs.length+1 by simp]at ih;refine ih.trans ?_;cases hS:mF (K.img.take (64*K.m)) (qs++[q]) r with
    |none=>rfl
    |some kT=>
     have⟨new,e1,e2⟩:=Xj _ hS;simp only;rw[e1,e2,ack];rw[show ji K.sup.used v.aG es ns=true from uf.1,ae];show sB K _ r (iE (K.img.take (64*K.m)) K.sup.used v.aG new [] [] 0)=_;cases iE (K.img.take (64*K.m)) K.sup.used v.aG new [] [] 0 with
     |none=>rfl
     |some p=>
      have⟨h,a,n⟩:=p;simp only[nf,sB];rw[dS,show eS K.m (bK K.m v.W y) ns=true from uf.2,dF];unfold iT;simp only;cases eS K.m (ns.foldl (bK K.m) (bK K.m v.W y)) (r++a)with
      |false=>rfl
      |true=>
       rw[ae,ae,fI];congr 2
       .show(r++a).foldl (bK K.m) (ns.foldl (bK K.m) (bK K.m v.W y))=(r++(ns++a)).foldl (bK K.m) (bK K.m v.W y)
        rw[<-zs];refine Zrx ?_ _;rw[<-fI,<-fI];grind
       .omega
theorem Zxj (hm:64*K.m<=K.img.length) (v:aS) (hl:v.W.length=(K.m+63)/64) (hh:v.aM=[]):
  qM K v=match vI (K.img.take (64*K.m)) K.sup.dir with
   |none=>none
   |some (qs,bs)=>sB K v bs (iE (K.img.take (64*K.m)) K.sup.used v.aG qs [] [] 0):=by
 unfold qM vI;by_cases h0:K.sup.dir=0
 .rw[bE h0,h0]
  simp[iE,sB,eS]
 .rw[bj h0,show(K.sup.dir==0)=false by simpa using h0,af,FU hm]
  unfold dO;cases hf:fO K.m v.W K.sup.dir with
  |false=>
   have cA: ∀r q,sB K v (K.sup.dir::r) q=none:=λr=>ZuI λa=>by
    show(fO K.m v.W K.sup.dir&&_)=false;rw[hf,gf]
   grind
  |true=>
  rw[(FV hf).1,ae,ae];simp only;cases hD:lj (ZG K.img K.sup.dir.toNat)with
  |none=>
   cases hb:ZV (ZG K.img K.sup.dir.toNat)with
   |dir x=>rw[aa0.1 hb]at hD;cases hD
   |_=>rfl
  |some l=>
   rw[aa0.2 hD];simp only;have:=Zw7 hm l [] { v with W:=bK K.m v.W K.sup.dir } ((oM K.m v.W K.sup.dir).trans hl) (by rw[hh];rfl);rw[Bh]at this;rw[this];cases mF (K.img.take (64*K.m)) [] l with
   |none=>rfl
   |some qs=>
    simp only[dK];cases iE (K.img.take (64*K.m)) K.sup.used v.aG qs [] [] 0 with
    |none=>rfl
    |some p=>
     have⟨h,a,n⟩:=p;simp only[sB];rw[show eS K.m v.W (K.sup.dir::l++a)=(fO K.m v.W K.sup.dir&&eS K.m (bK K.m v.W K.sup.dir) (l++a))from rfl,hf,dF];rfl
theorem Zu1 {m:Int} {l:ak} {a:Int} (h:kC l):(yJ m l a).length<=l.length+1:=by
 have⟨h1,h2⟩:=Nf (m:=m) (a:=a) h;refine gY (xL (m:=a::l) h1.nodup λb hb=>?_) (by simp);grind
theorem Zrv {m:Int} : ∀(all r q:ak),kC r->pW m all r=some q->q.length<=all.length+r.length
 |[],r,q,_,h=>by cases h;simp
 |k::a,r,q,hr,h=>by
  unfold pW at h;cases h1:decide (k<2)with
  |true=>rw[h1]at h;cases h
  |false=>
   cases h2:decide (k∈r)with
   |true=>rw[h1,h2]at h;cases h
   |false=>
    rw[h1,h2]at h;have h3:=Zrv a _ q (Nf hr).1 h;have h4:=Zu1 (m:=m) (a:=k) hr;rw[cO];omega
theorem Zyq (hl:W.length=(m+63)/64) (h:fO m W k=true):yJ m (dq W) k=dq (bK m W k)/\(dq (bK m W k)).length=(dq W).length+1:=by
 have⟨h1,h2⟩:=Nf (m:=(m:Int)) (a:=k) (xA W);have h3:=h;unfold fO fE at h3;simp only[aY,br,lF]at h3;have⟨jn,⟨lO,vv⟩,ot⟩:=h3;have hn:k∉dq W:=λhm=>by
  obtain⟨b,rfl,hb⟩:=oO.1 hm;rw[bp]at ot;rw[hb]at ot;cases ot
 have e:yJ m (dq W) k=dq (bK m W k):=FF h1 (xA _) λb=>by
  rw[h2,oO,oO];have gM: ∀c:Nat,di (bK m W k) c=true↔di W c=true\/c=k.toNat:=λc=>by
   rw[qP hl,lV,aY,br];grind[fE]
  grind
 refine⟨e,Nat.le_antisymm ?_ ?_⟩
 .rw[<-e];exact Zu1 (xA W)
 .have:=xL (l:=k::dq W) (m:=dq (bK m W k)) (zA.2 ⟨hn,(xA W).nodup⟩) λb hb=>by
   rw[<-e,h2];grind
  rwa [cO]at this
theorem M3 {m:Nat} : ∀(all:ak) (W:al),W.length=(m+63)/64->(∀b,di W b=true->b<m)->di W 0=true->
  (match pW m all (dq W)with
   |none=>none
   |some q=>bif decide (q.length=all.length+(dq W).length)then some q else none)=bif eS m W all then some (dq (all.foldl (bK m) W))else none
 |[],W,_,_,_=>by simp[pW,eS]
 |k::a,W,hl,hm,h0=>by
  unfold pW eS;cases hf:fO m W k with
  |true=>
   have⟨e1,e2⟩:=Zyq hl hf;have h3:=hf;unfold fO fE at h3;simp only[aY,br,lF]at h3;have⟨jn,⟨lO,vv⟩,ot⟩:=h3;have hn:k∉dq W:=λhm=>by
    obtain⟨b,rfl,hb⟩:=oO.1 hm;rw[bp]at ot;rw[hb]at ot;cases ot
   rw[aF (show ¬k<2 by omega),aF hn,af,af,e1,dF];have ih:=M3 a (bK m W k) ((oM m W k).trans hl) (λb hb=>by
    rw[qP hl,lV,aY,br]at hb;grind) (by rw[qP hl,h0,Bool.true_or])
   rw[e2]at ih;rw[cO,show a.length+1+(dq W).length=a.length+((dq W).length+1) by omega];exact ih
  |false=>
   rw[gf,af];by_cases h2:k<2
   .rw[ax h2];rfl
   rw[aF h2,af];by_cases hn:k∈dq W
   .rw[ax hn];rfl
   rw[aF hn,af];have vv: ¬(0<=k/\k<(m:Int)/\k∉dq W):=λ⟨a1,a2,a3⟩=>by
    unfold fO fE at hf;rw[ax (show k>=2 by omega),ax a1,ax a2]at hf;have:di W k.toNat=true:=by simpa using hf
    exact a3 (oO.2 ⟨k.toNat,by omega,this⟩)
   rw[show yJ m (dq W) k=dq W from bj vv];cases hR:pW m a (dq W)with
   |none=>rfl
   |some q=>
    have:=Zrv a _ q (xA W) hR;grind
def rG (g:Int) (s:bw):Bool:=bif (bif s.live then true else decide (s.gen<g))then true else s.block==0
structure Qb (n:Nat) (out:List Int):Prop where
 nd:out.Nodup
 lt: ∀k∈out,0<=k/\k<(n:Int)
theorem Qb.D4 {out:ak} (h:Qb n out):out.length<=n:=by
 have:=xL (m:=ZW 0 n) h.nd λk hk=>by
  have:=h.lt k hk;unfold ZW;exact pK.2 ⟨k.toNat,ux.2 (by omega),by omega⟩
 grind[ZW]
theorem ZqO {l:List bw} {g:Int} (hr: ∀s∈l,s.live=false->0<=s.block): ∀(f:Nat) (k:Int) (out:ak),0<=k->Qb l.length out->l.length+1<=f+out.length->mR l l.length g (f+1) k out=mR l l.length g f k out
 |0,k,out,_,ho,h=>by have:=ho.D4;omega
 |f+1,k,out,hk,ho,h=>by
  conv=>lhs;unfold mR
  conv=>rhs;unfold mR
  cases h0:k==0 with
  |true=>rfl
  |false=>
  rw[af,af];have h0:k≠0:=by simpa using h0
  cases h1:decide (k>(l.length:Int))with
  |true=>rfl
  |false=>
  rw[af,af];have h1: ¬k>(l.length:Int):=Fl h1;cases hg:l[(k-1).toNat]? with
  |none=>rfl
  |some s=>
  simp only;cases hv:s.live with
  |true=>rfl
  |false=>
  rw[af,af];cases decide (s.gen>=g)with
  |true=>rfl
  |false=>
  rw[af,af];cases hi:decide (k-1∈out)with
  |true=>rfl
  |false=>
   rw[af,af];exact ZqO hr f _ _ (hr s (uw hg) hv) ⟨rR.2 ⟨ho.nd,by simp,λa ha b hb e=>(by simp_all)⟩,λa ha=>by
    rcases gx.1 ha with h2|h2
    .exact ho.lt a h2
    .rw[cB.1 h2];omega⟩ (by rw[bB,iK];omega)
theorem Zrl {K:bL} {v0:aS} {n:Nat} (hu:K.sup.used=(n:Int)) (hn:v0.aG.length=n) (hr: ∀s∈v0.aG,s.live=false->0<=s.block): ∀(f:Nat) (fl:List Bool) (k:Int) (v:aS) (out:ak),v= { v0 with free:=out } ->0<=k->fl.length=n->(∀j:Nat,fl.getD j false=decide ((j:Int)∈out))->
  match mR v0.aG K.sup.used K.sup.g f k out with
  |none=>nk K f fl k v=none
  |some o=>∃qX,nk K f fl k v=some (qX, { v0 with free:=o })/\∀j:Nat,qX.getD j false=decide ((j:Int)∈o)
 |0,_,_,_,_,_,_,_,_=>rfl
 |f+1,fl,k,v,out,hv,hk,hl,ep=>by
  unfold mR nk;cases h0:k==0 with
  |true=>simp_all
  |false=>
  rw[af,af];have h0:k≠0:=by simpa using h0
  by_cases h1:k>K.sup.used
  .rw[ax h1,aF (show ¬k<=K.sup.used by omega)];rfl
  rw[aF h1,ax (show k<=K.sup.used by omega),af,ae,hv];show match (match v0.aG[(k-1).toNat]? with|none=>none|some s=>_)with
   |none=>(match v0.aG[(k-1).toNat]? with|none=>none|some x=>_)=none
   |some o=>∃qX,(match v0.aG[(k-1).toNat]? with|none=>none|some x=>_)=some (qX, { v0 with free:=o })/\_
  cases hg:v0.aG[(k-1).toNat]? with
  |none=>rfl
  |some s=>
  simp only;rw[ep,show(((k-1).toNat:Nat):Int)=k-1 by omega,show decide (s.gen>=K.sup.g)= !decide (s.gen<K.sup.g) by rw[lE];simp];cases yF:s.live with
  |true=>rfl
  |false=>
  cases decide (s.gen<K.sup.g)with
  |false=>rfl
  |true=>
  cases hi:decide (k-1∈out)with
  |true=>rfl
  |false=>
   refine Zrl hu hn hr f (fl.set (k-1).toNat true) s.block { v0 with free:=out++[k-1] } (out++[k-1]) rfl (hr s (uw hg) yF) (by rw[nR];exact hl) λj=>?_
   have fY:(k-1).toNat<fl.length:=by omega
   rw[dW,List.getElem?_set,show decide ((j:Int)∈out++[k-1])=(decide ((j:Int)∈out)||decide ((j:Int)=k-1)) by rw[lE];simp];by_cases hj:(k-1).toNat=j
   .rw[bE hj,bE fY,ax (show(j:Int)=k-1 by omega),Bool.or_true];rfl
   .rw[bj hj,aF (show ¬(j:Int)=k-1 by omega),Bool.or_false,<-ep,dW]
theorem ZuT {K:bL} {out:ak} : ∀(l:List bw) (i:Nat) (fl:List Bool),(∀s∈l,s.gen<=K.sup.g/\rG K.sup.g s=true)->(∀j,fl.getD j false=decide (((i+j:Nat):Int)∈out))->qR K fl l=sf K.sup.g out i l
 |[],_,_,_,_=>rfl
 |s::r,i,fl,hs,hf=>by
  have⟨h1,h2⟩:=hs s uv;have ih:=ZuT r (i+1) (fl.drop 1) (λx hx=>hs x (zy _ hx)) λj=>by
   rw[show i+1+j=i+(j+1) by omega,<-hf,dW,dW,Bg,tm 1 j]
  unfold qR sf;rw[ih,show DO K (fl.getD 0 false) s=sY K.sup.g out i s from ?_]
  .cases sY K.sup.g out i s<;>rfl
  .grind[DO,sY,rG]
theorem ZoN {g:Int} {out:ak} : ∀(l:List bw) (i:Nat),(∀s∈l,s.gen<=g)->sf g out i l=true->l.all (rG g)=true
 |[],_,_,_=>rfl
 |s::r,i,hg,h=>by
  unfold sf at h;cases hb:sY g out i s with
  |false=>rw[hb]at h;cases h
  |true=>
   rw[hb,ae]at h;rw[vS,ZoN r (i+1) (by grind) h,vQ];grind[sY,rG]
theorem Zzi (hx:uJ K.sup) (hn:(v.aG.length:Int)=K.sup.used) (hr: ∀s∈v.aG,s.live=false->0<=s.block) (hg: ∀s∈v.aG,s.gen<=K.sup.g) (hf:v.free=[]):
  (bif v.aG.all (rG K.sup.g)then sE K v else none)=(wD v.aG K.sup).map λo=> { v with free:=o } :=by
 unfold sE wD;have hu:K.sup.used.toNat=v.aG.length:=by omega
 have fK:=ZqO (l:=v.aG) (g:=K.sup.g) hr (v.aG.length+1) K.sup.free [] hx.f0 ⟨.nil,λk hk=>nomatch hk⟩ (by simp);rw[hn]at fK;rw[fK];have pz:=Zrl (K:=K) (v0:=v) hn.symm rfl hr (v.aG.length+1) (List.replicate v.aG.length false) K.sup.free v [] (by rw[<-hf]) hx.f0 (by simp) λj=>by
  rw[dW,Lm];split<;>rfl
 rw[hu];cases hL:mR v.aG K.sup.used K.sup.g (v.aG.length+1) K.sup.free []with
 |none=>
  rw[hL]at pz;simp only at pz;rw[pz];cases v.aG.all (rG K.sup.g)<;>rfl
 |some o=>
  rw[hL]at pz;have⟨fl,e,he⟩:=pz;rw[e];simp only[BO];cases ha:v.aG.all (rG K.sup.g)with
  |false=>
   cases hR:sf K.sup.g o 0 v.aG with
   |false=>rfl
   |true=>rw[ZoN _ 0 hg hR]at ha;cases ha
  |true=>
   rw[ZuT (out:=o) v.aG 0 fl (by grind) λj=>by rw[eO];exact he j];cases sf K.sup.g o 0 v.aG<;>rfl
def nI (K:bL):Int->List bw->List bw->Option (List bw)
 |_,[],l=>some l
 |k,x::r,l=>bif decide (k>=K.sup.used)then(bif og x then nI K (k+1) r l else none)else(bif oR K.sup x then nI K (k+1) r (l++[x])else none)
theorem ZoF (K:bL) (k:Int) (x:bw) (r l:List bw):nI K k (x::r) l=bif decide (k>=K.sup.used)then(bif og x then nI K (k+1) r l else none)else(bif oR K.sup x then nI K (k+1) r (l++[x])else none):=rfl
theorem V8 {K:bL} : ∀(x:List bw) (k:Int) (v:aS),nn K k x v=(nI K k x v.aG).map λs=> { v with aG:=s }
 |[],_,_=>rfl
 |x::r,k,v=>by
  unfold nn nI pS;cases decide (k>=K.sup.used)with
  |true=>
   rw[ae,ae];cases og x with
   |false=>rfl
   |true=>exact V8 r _ v
  |false=>
   rw[af,af];cases oR K.sup x with
   |false=>rfl
   |true=>exact V8 r _ _
theorem FQ {K:bL} : ∀(a b:List bw) (k:Int) (l:List bw),nI K k (a++b) l=match nI K k a l with
  |none=>none
  |some l'=>nI K (k+a.length) b l'
 |[],b,k,l=>by simp[nI]
 |x::a,b,k,l=>by
  rw[nQ,cO,show k+((a.length+1:Nat):Int)=k+1+a.length by omega,ZoF,ZoF];cases decide (k>=K.sup.used)with
  |true=>
   rw[ae,ae];cases og x with
   |false=>rfl
   |true=>exact FQ a b _ _
  |false=>
   rw[af,af];cases oR K.sup x with
   |false=>rfl
   |true=>exact FQ a b _ _
def tH (u:Nat) (g:Int):Nat->List bw->List bw->Option (List bw)
 |_,[],l=>some l
 |i,s::r,l=>bif decide (u<=i)then(bif og s then tH u g (i+1) r l else none)else(bif decide (s.gen<1)||decide (s.gen>g)then none else tH u g (i+1) r (l++[s]))
theorem TC {u:Nat} {g:Int} : ∀(r:List bw) (i:Nat) (l l':List bw),tH u g i r l=some l'->∃t,l'=l++t
 |[],_,l,l',h=>⟨[],by cases h;rw[gz]⟩
 |s::r,i,l,l',h=>by
  unfold tH at h;cases h1:decide (u<=i)with
  |true=>
   cases h2:og s with
   |false=>rw[h1,h2]at h;cases h
   |true=>rw[h1,h2]at h;exact TC r _ _ _ h
  |false=>
   cases h2:decide (s.gen<1)||decide (s.gen>g)with
   |true=>rw[h1,h2]at h;cases h
   |false=>
    rw[h1,h2]at h;obtain⟨t,rfl⟩:=TC r _ _ _ h;simp
theorem VI {K:bL} {u:Nat} (hu:K.sup.used=(u:Int)): ∀(r:List bw) (i:Nat) (l:List bw),l.all (rG K.sup.g)=true->nI K (i:Int) r l=match tH u K.sup.g i r l with
  |none=>none
  |some l'=>bif l'.all (rG K.sup.g)then some l' else none
 |[],_,l,h=>by simp[nI,tH,h]
 |s::r,i,l,h=>by
  unfold nI tH;rw[hu,show decide ((i:Int)>=(u:Int))=decide (u<=i)from decide_eq_decide.2 (by omega),show(i:Int)+1=((i+1:Nat):Int) by omega];cases decide (u<=i)with
  |true=>
   rw[ae,ae];cases og s with
   |false=>rfl
   |true=>exact VI hu r _ l h
  |false=>
   rw[af,af];have ho:oR K.sup s=(!(decide (s.gen<1)||decide (s.gen>K.sup.g))&&rG K.sup.g s):=by
    grind[oR,rG]
   rw[ho];cases decide (s.gen<1)||decide (s.gen>K.sup.g)with
   |true=>rfl
   |false=>
    rw[bn,dF,af];cases ht:rG K.sup.g s with
    |true=>exact VI hu r _ _ (by rw[tj,h,vS,ht];rfl)
    |false=>
     cases hS:tH u K.sup.g (i+1) r (l++[s])with
     |none=>rfl
     |some l'=>
      obtain⟨t,rfl⟩:=TC r _ _ _ hS;grind
def kq (im:aj) (c:Nat):Nat->ak->Option (ak×List bw)
 |_,[]=>some ([],[])
 |p,y::r=>bif (!(y==0))==decide (p<c)then(bif y==0 then kq im c (p+1) r else match kt im y with
   |none=>none
   |some l=>match kq im c (p+1) r with
    |none=>none
    |some (bs,ls)=>some (y::bs,l++ls))else none
def nx (im:aj) (c:Nat):Nat->ak->Option (ak×List bw)
 |_,[]=>some ([],[])
 |i,y::r=>bif (!(y==0))==decide (16*i<c)then(bif y==0 then nx im c (i+1) r else match gL im y with
   |none=>none
   |some g=>match kq im c (16*i) g with
    |none=>none
    |some (bs,ls)=>match nx im c (i+1) r with
     |none=>none
     |some (gP,AS)=>some (y::(bs++gP),ls++AS))else none
theorem Zsz {im:aj} {c:Nat} : ∀(g:ak) (p:Nat) (q:ak×List bw),c<=p->kq im c p g=some q->q=([],[])
 |[],_,_,_,h=>by cases h;rfl
 |y::r,p,q,hp,h=>by
  unfold kq at h;rw[aF (show ¬p<c by omega)]at h;cases hy:y==0 with
  |false=>rw[hy]at h;cases h
  |true=>rw[hy]at h;exact Zsz r _ _ (by omega) h
theorem MW {im:aj} {c:Nat} : ∀(g:ak) (p:Nat) (bs:ak) (ls:List bw),kq im c p g=some (bs,ls)->ls.length=7*min g.length (c-p)
 |[],_,_,_,h=>by cases h;simp
 |y::r,p,bs,ls,h=>by
  unfold kq at h;cases hc:(!(y==0))==decide (p<c)with
  |false=>rw[hc]at h;cases h
  |true=>
  rw[hc,ae]at h;cases hy:y==0 with
  |true=>
   rw[hy]at h hc;have hd:decide (p<c)=false:=by grind
   have:=Fl hd;rw[MW r (p+1) bs ls h,cO];omega
  |false=>
   rw[hy]at h hc;have hd:decide (p<c)=true:=by grind
   have:=mK hd;rw[af]at h;cases hL:kt im y with
   |none=>rw[hL]at h;cases h
   |some l=>
    cases hK:kq im c (p+1) r with
    |none=>rw[hL,hK]at h;cases h
    |some q=>
     rw[hL,hK]at h;cases h;have h1:=MW r (p+1) _ _ hK;have h2:=Mx im y;rw[hL]at h2;have h2:l.length=7:=h2;rw[bB,h1,h2,cO];omega
theorem U6 {im:aj} {c:Nat} : ∀(f:ak) (i:Nat) (q:ak×List bw),c<=16*i->nx im c i f=some q->q=([],[])
 |[],_,_,_,h=>by cases h;rfl
 |y::r,i,q,hp,h=>by
  unfold nx at h;rw[aF (show ¬16*i<c by omega)]at h;cases hy:y==0 with
  |false=>rw[hy]at h;cases h
  |true=>rw[hy]at h;exact U6 r _ _ (by omega) h
theorem Zvw {l:List bw} (h:kt im y=some l):l.length=7:=by
 have:=Mx im y;rwa [h]at this
theorem UK {l:ak} (h:gL im y=some l):l.length=16:=by
 have:=IE im y;rwa [h]at this
def yV (K:bL) (v:aS) (k:Int):Option (ak×List bw)->Option aS
 |none=>none
 |some (bs,ls)=>bif eS K.m v.W bs then(nI K k ls v.aG).map (λs=> { v with aG:=s,W:=bs.foldl (bK K.m) v.W })else none
theorem Zw0 (h:fO K.m v.W y=false) (bs:ak) (ls:List bw):yV K v k (some (y::bs,ls))=none:=by
 grind[yV,eS]
theorem VF {K:bL} (hm:64*K.m<=K.img.length) {c x5:Nat} : ∀(g:ak) (k:Nat) (v:aS),kD K (c:Int) (x5:Int) (k:Int) g v=yV K v ((7*(16*x5+k):Nat):Int) (kq (K.img.take (64*K.m)) c (16*x5+k) g)
 |[],_,_=>rfl
 |y::r,k,v=>by
  unfold kD kq;rw[show decide ((x5:Int)*16+(k:Int)<(c:Int))=decide (16*x5+k<c)from decide_eq_decide.2 (by omega),show(k:Int)+1=((k+1:Nat):Int) by omega];cases hc:(!(y==0))==decide (16*x5+k<c)with
  |false=>rfl
  |true=>
  rw[ae,ae];cases hy:y==0 with
  |true=>
   rw[hy]at hc;have kJ:c<=16*x5+k:=by
    grind
   show kD K (c:Int) (x5:Int) ((k+1:Nat):Int) r v=yV K v _ (kq (K.img.take (64*K.m)) c (16*x5+(k+1)) r);rw[VF hm r (k+1) v];cases hK:kq (K.img.take (64*K.m)) c (16*x5+(k+1)) r with
   |none=>rfl
   |some q=>rw[Zsz r _ q (by omega) hK];rfl
  |false=>
   have Yv:y≠0:=by simpa using hy
   rw[bn,ae,af];unfold na dO kt;rw[bj Yv,FU hm];cases hf:fO K.m v.W y with
   |false=>
    rw[af];simp only;cases(bif fE K.m y then some (ZG K.img y.toNat)else none)with
    |none=>rfl
    |some ln=>
     simp only;cases ZL ln with
     |none=>rfl
     |some l=>
      simp only;cases kq (K.img.take (64*K.m)) c (16*x5+k+1) r with
      |none=>rfl
      |some q=>exact(Zw0 hf _ _).symm
   |true=>
   rw[(FV hf).1,ae,ae];simp only;cases hL:ZL (ZG K.img y.toNat)with
   |none=>
    cases hb:ZV (ZG K.img y.toNat)with
    |leaf x=>rw[aa1.1 hb]at hL;cases hL
    |_=>rfl
   |some l=>
    rw[aa1.2 hL];simp only;rw[V8,show((x5:Int)*16+(k:Int))*7=((7*(16*x5+k):Nat):Int) by omega];have h7:l.length=7:=Ii hL;have ih:=λv'=>VF hm (c:=c) (x5:=x5) r (k+1) v'
    rw[show 16*x5+k+1=16*x5+(k+1) by omega];cases hS:nI K ((7*(16*x5+k):Nat):Int) l v.aG with
    |none=>
     cases kq (K.img.take (64*K.m)) c (16*x5+(k+1)) r with
     |none=>rfl
     |some q=>
      rw[yV,FQ,hS];cases eS K.m v.W (y::q.1)<;>rfl
    |some s=>
     simp only[nf];rw[ih];cases kq (K.img.take (64*K.m)) c (16*x5+(k+1)) r with
     |none=>rfl
     |some q=>
      simp only[yV,FQ,hS];rw[show eS K.m v.W (y::q.1)=(fO K.m v.W y&&eS K.m (bK K.m v.W y) q.1)from rfl,hf,dF,h7,show((7*(16*x5+k):Nat):Int)+((7:Nat):Int)=((7*(16*x5+(k+1)):Nat):Int) by omega];rfl
theorem VU {K:bL} (hm:64*K.m<=K.img.length) {c:Nat} : ∀(f:ak) (i:Nat) (v:aS),nX K (c:Int) (i:Int) f v=yV K v ((112*i:Nat):Int) (nx (K.img.take (64*K.m)) c i f)
 |[],_,_=>rfl
 |y::r,i,v=>by
  unfold nX nx;rw[show decide ((i:Int)*16<(c:Int))=decide (16*i<c)from decide_eq_decide.2 (by omega),show(i:Int)+1=((i+1:Nat):Int) by omega];cases hc:(!(y==0))==decide (16*i<c)with
  |false=>rfl
  |true=>
  rw[ae,ae];cases hy:y==0 with
  |true=>
   rw[hy]at hc;have kJ:c<=16*i:=by
    grind
   rw[ae,ae,VU hm r (i+1) v];cases hK:nx (K.img.take (64*K.m)) c (i+1) r with
   |none=>rfl
   |some q=>rw[U6 r _ q (by omega) hK];rfl
  |false=>
   have Yv:y≠0:=by simpa using hy
   rw[af,af];unfold dO gL;rw[bj Yv,FU hm];cases hf:fO K.m v.W y with
   |false=>
    rw[af];simp only;cases(bif fE K.m y then some (ZG K.img y.toNat)else none)with
    |none=>rfl
    |some ln=>
     simp only;cases iM ln with
     |none=>rfl
     |some g=>
      simp only;cases kq (K.img.take (64*K.m)) c (16*i) g with
      |none=>rfl
      |some q=>
       simp only;cases nx (K.img.take (64*K.m)) c (i+1) r with
       |none=>rfl
       |some q'=>exact(Zw0 hf _ _).symm
   |true=>
   rw[(FV hf).1,ae,ae];simp only;cases hL:iM (ZG K.img y.toNat)with
   |none=>
    cases hb:ZV (ZG K.img y.toNat)with
    |cc x=>rw[NM.1 hb]at hL;cases hL
    |_=>rfl
   |some g=>
    rw[NM.2 hL];simp only;have h2:=VF hm (c:=c) (x5:=i) g 0 { v with W:=bK K.m v.W y };rw[gV,Int.ofNat_zero]at h2;rw[h2];have ih:=λv'=>VU hm (c:=c) r (i+1) v'
    cases hk:kq (K.img.take (64*K.m)) c (16*i) g with
    |none=>rfl
    |some q=>
     have⟨bs,ls⟩:=q;simp only[yV];have dS: ∀b',eS K.m v.W (y::(bs++b'))=(eS K.m (bK K.m v.W y) bs&&eS K.m (bs.foldl (bK K.m) (bK K.m v.W y)) b'):=λb'=>by
      rw[<-BN];show(fO K.m v.W y&&_)=_;rw[hf,dF]
     rw[show 7*(16*i)=112*i by omega];cases hF:eS K.m (bK K.m v.W y) bs with
     |false=>
      grind
     |true=>
      rw[ae];cases hS:nI K ((112*i:Nat):Int) ls v.aG with
      |none=>
       cases nx (K.img.take (64*K.m)) c (i+1) r with
       |none=>rfl
       |some q=>
        simp only[FQ,hS];cases eS K.m v.W (y::(bs++q.1))<;>rfl
      |some s=>
       simp only[nf];rw[ih];cases hW:nx (K.img.take (64*K.m)) c (i+1) r with
       |none=>rfl
       |some q=>
        have⟨gP,AS⟩:=q;simp only[yV,FQ,hS,dS,hF,dF,Bf,zs];rw[show nI K (((112*i:Nat):Int)+(ls.length:Int)) AS s=nI K ((112*(i+1):Nat):Int) AS s from ?_];by_cases akm:16*i+16<=c
        .rw[MW g (16*i) bs ls hk,Uq hL,show((112*i:Nat):Int)+((7*min 16 (c-16*i):Nat):Int)=((112*(i+1):Nat):Int) by omega]
        .cases U6 r (i+1) _ (by omega) hW
         rfl
theorem Uy (im:aj):kt im 0=some nH:=by rfl
theorem M0 (im:aj):gL im 0=some sD:=by rfl
theorem DA (acc:ak):cD acc 0=acc:=rfl
theorem DG (acc:ak) (h:k≠0):cD acc k=acc++[k]:=by
 grind[cD]
theorem Ut (im:aj) (acc:ak): ∀n,mP im acc (List.replicate n 0)=some acc
 |0=>rfl
 |n+1=>by
  rw[List.replicate_succ];unfold mP;rw[Uy,DA];exact Ut im acc n
theorem ZqX (im:aj) (acc:ak): ∀n,oQ im acc (List.replicate n 0)=some acc
 |0=>rfl
 |n+1=>by
  rw[List.replicate_succ];unfold oQ;rw[M0,DA];simp only;rw[show mP im acc sD=some acc from Ut im acc 16];exact ZqX im acc n
theorem agree {b:Bool} (h:((!(y==0))==b)=true):(y=0/\b=false)\/(y≠0/\b=true):=by
 grind
theorem Zww {bs:ak} {ls:List bw} (h:kq im c p (y::r)=some (bs,ls)):
  (y=0/\c<=p/\kq im c (p+1) r=some (bs,ls))\/∃l gP AS,y≠0/\p<c/\kt im y=some l/\kq im c (p+1) r=some (gP,AS)/\bs=y::gP/\ls=l++AS:=by
 grind[kq]
theorem VA {im:aj} {c:Nat} : ∀(g:ak) (p:Nat) (bs:ak) (ls:List bw),kq im c p g=some (bs,ls)->(∀acc,mP im acc g=some (acc++bs))/\bs.length=min g.length (c-p)/\∀j t,t<7->p+j<c->j<g.length->ls[7*j+t]? =(kt im (g.getD j 0)).bind (·[t]?)
 |[],_,_,_,h=>by
  cases h;simp[mP]
 |y::r,p,bs,ls,h=>by
  rcases Zww h with⟨rfl,hc,hk⟩|⟨l,gP,AS,hy,hc,hL,hk,rfl,rfl⟩
  .have⟨h1,h2,h3⟩:=VA r (p+1) bs ls hk
   refine⟨λacc=>?_,by rw[h2,cO];omega,λj t _ hj _=>by omega⟩;grind[mP,Uy,DA]
  .have⟨h1,h2,h3⟩:=VA r (p+1) gP AS hk
   have XM:=Zvw hL;refine⟨λacc=>?_,by rw[cO,h2,cO];omega,λj t ht hj uc=>?_⟩
   .unfold mP
    rw[hL,DG acc hy];grind
   .cases j with
    |zero=>
     rw[Nat.mul_zero,eO,mH (by omega)];grind
    |succ j=>
     rw[kX (by omega),XM,show 7*(j+1)+t-7=7*j+t by omega];grind
def yR (c i n:Nat):Nat:=min (16*n) (c-16*i)+min n ((c+15)/16-i)
theorem Vw {im:aj} {c:Nat} : ∀(f:ak) (i:Nat) (bs:ak) (ls:List bw),nx im c i f=some (bs,ls)->(∀acc,oQ im acc f=some (acc++bs))/\bs.length=yR c i f.length/\ls.length=7*min (16*f.length) (c-16*i)/\∀q t,t<7->16*i+q<c->q<16*f.length->ls[7*q+t]? =(gL im (f.getD (q/16) 0)).bind λg=>(kt im (g.getD (q%16) 0)).bind (·[t]?)
 |[],_,_,_,h=>by
  cases h;simp[oQ,yR]
 |y::r,i,bs,ls,h=>by
  unfold nx at h;cases hc:(!(y==0))==decide (16*i<c)with
  |false=>rw[hc]at h;cases h
  |true=>
  rw[hc,ae]at h;rcases agree hc with⟨rfl,hd⟩|⟨hy,hd⟩
  .have hd:=Fl hd
   have⟨h1,h2,h3,h4⟩:=Vw r (i+1) bs ls h;refine⟨λacc=>?_,by rw[h2,cO];unfold yR;omega,by rw[h3,cO];omega,λj t _ hj _=>by omega⟩;unfold oQ;rw[M0,DA];simp only;rw[show mP im acc sD=some acc from Ut im acc 16];exact h1 acc
  .have hd:=mK hd
   rw[show(y==0)=false by simpa using hy,af]at h;cases hL:gL im y with
   |none=>rw[hL]at h;cases h
   |some g=>
   rw[hL]at h;simp only at h;cases hK:kq im c (16*i) g with
   |none=>rw[hK]at h;cases h
   |some q=>
   have⟨b1,l1⟩:=q;rw[hK]at h;simp only at h;cases hF:nx im c (i+1) r with
   |none=>rw[hF]at h;cases h
   |some q=>
   have⟨b2,l2⟩:=q;rw[hF]at h;cases h;have⟨h1,h2,h3,h4⟩:=Vw r (i+1) b2 l2 hF;have⟨k1,k2,k3⟩:=VA g (16*i) b1 l1 hK;have k4:=MW g (16*i) b1 l1 hK;have hg:=UK hL;rw[hg]at k2 k3 k4;refine⟨λacc=>?_,by rw[cO,bB,h2,k2,cO];unfold yR;omega,by rw[bB,h3,k4,cO];omega,λq t ht hq AK=>?_⟩
   .unfold oQ
    rw[hL,DG acc hy];grind
   .rcases jI q 16 with sH|sH
    .rw[mH (by omega),show q/16=0 by omega,show q%16=q by omega,k3 q t ht hq sH]
     grind
    .rw[kX (by omega),show 7*q+t-l1.length=7*(q-16)+t by omega,h4 (q-16) t ht (by omega) (by rw[cO]at AK;omega),show q/16=(q-16)/16+1 by omega,show q%16=(q-16)%16 by omega]
     rfl
theorem ZsK {im:aj} {c:Nat} : ∀(g:ak) (p:Nat) (acc qT:ak),mP im acc g=some qT->(∀j,j<g.length->p+j<c->g.getD j 0≠0)->acc.length+min g.length (c-p)<=qT.length/\(qT.length=acc.length+min g.length (c-p)->∃q,kq im c p g=some q)
 |[],_,_,_,h,_=>by cases h;exact⟨by simp,λ_=>⟨_,rfl⟩⟩
 |y::r,p,acc,qT,h,hn=>by
  unfold mP at h;cases hL:kt im y with
  |none=>rw[hL]at h;cases h
  |some l=>
  rw[hL]at h;simp only at h;have⟨h1,h2⟩:=ZsK (c:=c) r (p+1) (cD acc y) qT h λj hj hc=>by
   have:=hn (j+1) (by rw[cO];omega) (by omega);exact this
  rw[cO];unfold kq;by_cases hc:p<c
  .have hy:y≠0:=hn 0 (by simp) hc
   rw[DG acc hy,bB,iK]at h1 h2;grind
  .by_cases hy:y=0
   .subst hy
    rw[DA]at h1 h2;grind
   .rw[DG acc hy,bB,iK]at h1 h2
    omega
theorem Ztm {im:aj} {c:Nat} : ∀(f:ak) (i:Nat) (acc qT:ak),oQ im acc f=some qT->(∀a,a<f.length->16*(i+a)<c->f.getD a 0≠0)->(∀a g j,a<f.length->gL im (f.getD a 0)=some g->j<16->16*(i+a)+j<c->g.getD j 0≠0)->acc.length+yR c i f.length<=qT.length/\(qT.length=acc.length+yR c i f.length->∃q,nx im c i f=some q)
 |[],_,_,_,h,_,_=>by cases h;exact⟨by simp[yR],λ_=>⟨_,rfl⟩⟩
 |y::r,i,acc,qT,h,hn,hg=>by
  unfold oQ at h;cases hL:gL im y with
  |none=>rw[hL]at h;cases h
  |some g=>
  rw[hL]at h;simp only at h;cases hK:mP im (cD acc y) g with
  |none=>rw[hK]at h;cases h
  |some a2=>
  rw[hK]at h;simp only at h;have jm:=UK hL;have⟨h1,h2⟩:=Ztm (c:=c) r (i+1) a2 qT h (λa ha hc=>hn (a+1) (by rw[cO];omega) (by omega)) λa g' j ha hf hj hc=>hg (a+1) g' j (by rw[cO];omega) hf hj (by omega)
  have⟨k1,k2⟩:=ZsK (c:=c) g (16*i) (cD acc y) a2 hK λj hj hc=>hg 0 g j (by simp) hL (by omega) (by omega)
  rw[jm]at k1 k2;rw[cO];unfold nx;unfold yR at h1 h2⊢;by_cases hc:16*i<c
  .have hy:y≠0:=hn 0 (by simp) (by omega)
   rw[DG acc hy,bB,iK]at k1 k2;refine⟨by omega,λhe=>?_⟩;have⟨q,hq⟩:=h2 (by omega);have⟨q',sP⟩:=k2 (by omega);rw[show(y==0)=false by simpa using hy,ax hc,hL,hq];grind
  .by_cases hy:y=0
   .subst hy
    rw[DA]at k1 k2;refine⟨by omega,λhe=>?_⟩;have⟨q,hq⟩:=h2 (by omega);rw[aF hc,hq];exact⟨_,rfl⟩
   .rw[DG acc hy,bB,iK]at k1 k2
    exact⟨by omega,λhe=>by omega⟩
theorem Zop {im:aj} {top:Int} {u:Nat} {g:Int} : ∀(ls:List bw) (i:Nat) (l:List bw),(∀j,j<ls.length->mh im top (i+j)=ls[j]?)->lL im top u g ls.length i l=tH u g i ls l
 |[],_,_,_=>rfl
 |s::r,i,l,h=>by
  rw[cO];unfold lL tH;rw[show mh im top i=some s from h 0 (by simp)];simp only;have ih:=λl=>Zop (u:=u) (g:=g) r (i+1) l λj hj=>by
   have:=h (j+1) (by rw[cO];omega);rw[show i+1+j=i+(j+1) by omega,this];rfl
  rw[ih,ih]
theorem Zpm {im:aj} {top:Int} {u:Nat} {g:Int} : ∀(c i:Nat) (l l':List bw),lL im top u g c i l=some l'->∀j,i<=j->j<i+c->j<u->∃s,mh im top j=some s/\1<=s.gen
 |0,_,_,_,_,_,_,_,_=>by omega
 |c+1,i,l,l',h,j,h1,h2,h3=>by
  unfold lL at h;cases hF:mh im top i with
  |none=>rw[hF]at h;cases h
  |some s=>
  rw[hF]at h;simp only at h;rw[aF (show ¬u<=i by omega),af]at h;cases hb:decide (s.gen<1)||decide (s.gen>g)with
  |true=>rw[hb]at h;cases h
  |false=>
   rw[hb]at h;by_cases e:j=i
   .grind
   .exact Zpm c (i+1) _ _ h j (by omega) (by omega) h3
theorem ZwH {x:cy} {u:Nat} (hu:x.used=(u:Int)) (h0:0<u) (h1:u<=1792) (hf:x.cc≠0):qL im x=match gL im x.cc with
  |none=>none
  |some f=>match nx im ((u+6)/7) 0 f with
   |none=>none
   |some (bs,ls)=>match tH u x.g 0 ls []with
    |none=>none
    |some l=>some (l,x.cc::bs):=by
 unfold qL xV;have Yo:x.used.toNat=u:=by omega
 rw[Yo];cases hL:gL im x.cc with
 |none=>rfl
 |some f=>
 have ep:=UK hL;simp only;rw[DG [] hf,jH];have ahM:1+yR ((u+6)/7) 0 16=(u+6)/7+oW u:=by
  grind[yR,oW]
 cases hW:nx im ((u+6)/7) 0 f with
 |some q=>
  have⟨bs,ls⟩:=q;have⟨a1,a2,a3,a4⟩:=Vw f 0 bs ls hW;rw[ep]at a2 a3 a4;rw[a1];simp only;rw[ax (show([x.cc]++bs).length=(u+6)/7+oW u by rw[bB,iK,a2];exact ahM),ae,show 7*((u+6)/7)=ls.length by omega,Zop ls 0 [] λj hj=>?_]
  .rfl
  .have:=a4 (j/7) (j%7) (Nat.mod_lt _ (by decide)) (by omega) (by omega)
   rw[show 7*(j/7)+j%7=j by omega]at this;rw[this,eO];grind[mh]
 |none=>
  cases hG:oQ im [x.cc] f with
  |none=>rfl
  |some pg=>
  simp only;cases hd:decide (pg.length=(u+6)/7+oW u)with
  |false=>rfl
  |true=>
  rw[ae];cases hS:lL im x.cc u x.g (7*((u+6)/7)) 0 []with
  |none=>rfl
  |some l=>
   exfalso;have Xp: ∀a j,a<16->j<16->16*a+j<(u+6)/7->∃g,gL im (f.getD a 0)=some g/\g.getD j 0≠0:=λa j ha hj hc=>by
    have⟨s,hs,hg⟩:=Zpm _ _ _ _ hS (7*(16*a+j)) (cz _) (by omega) (by omega);unfold mh at hs;rw[hL]at hs;simp only at hs;rw[show 7*(16*a+j)/112=a by omega,show 7*(16*a+j)/7%16=j by omega]at hs;cases hA:gL im (f.getD a 0)with
    |none=>rw[hA]at hs;cases hs
    |some g=>
     rw[hA]at hs;refine⟨g,rfl,λe=>?_⟩;simp only at hs;rw[e,Uy,show 7*(16*a+j)%7=0 by omega]at hs;cases hs;exact absurd hg (by decide)
   have⟨_,b2⟩:=Ztm (c:=(u+6)/7) f 0 [x.cc] pg hG (λa ha hc e=>by
    have⟨g,hg,hn⟩:=Xp a 0 (by omega) (by decide) (by omega);rw[e,M0]at hg;cases hg;exact hn rfl) λa g j ha hg hj hc=>by
    grind
   grind
theorem Zyv (hx:uJ K.sup) (hm:64*K.m<=K.img.length) (v:aS) (hs:v.aG=[]):oa K v=match qL (K.img.take (64*K.m)) K.sup with
  |none=>none
  |some (l,pg)=>bif eS K.m v.W pg&&l.all (rG K.sup.g)then some { v with aG:=l,W:=pg.foldl (bK K.m) v.W } else none:=by
 have⟨g1,g2,g3,g4,g5,g6⟩:=Z4 hx.g;have uj:=hx.u0;have vD:=hx.u1;have⟨u,hu⟩: ∃u:Nat,K.sup.used=(u:Int):=⟨K.sup.used.toNat,by omega⟩;by_cases h0:u=0
 .subst h0
  have hf:=hx.t0 hu;unfold oa qL xV;rw[hu,hf,M0];simp only;rw[DA,show oQ (K.img.take (64*K.m)) [] sD=some []from ZqX _ [] 16];show some v=some { v with aG:=[],W:=v.W };rw[<-hs]
 .have hf:=hx.t1 (by omega)
  have mW:K.sup.cc≠0:=(λe=>by rw[e]at hf;cases hf);rw[ZwH hu (by omega) (by omega) mW];unfold oa dO gL;rw[bj mW,FU hm,show(K.sup.used==0)=false by rw[hu];simp;omega,af];cases dS:fO K.m v.W K.sup.cc with
  |false=>
   rw[af];simp only;cases(bif fE K.m K.sup.cc then some (ZG K.img K.sup.cc.toNat)else none)with
   |none=>rfl
   |some ln=>
    simp only;cases iM ln with
    |none=>rfl
    |some g=>
     simp only;cases nx (K.img.take (64*K.m)) ((u+6)/7) 0 g with
     |none=>rfl
     |some q=>
      simp only;cases tH u K.sup.g 0 q.2 []with
      |none=>rfl
      |some l=>
       show none=bif (fO K.m v.W K.sup.cc&&_)&&_ then _ else _;rw[dS];rfl
  |true=>
  rw[(FV dS).1,ae,ae];simp only;cases hL:iM (ZG K.img K.sup.cc.toNat)with
  |none=>
   cases hb:ZV (ZG K.img K.sup.cc.toNat)with
   |cc x=>rw[NM.1 hb]at hL;cases hL
   |_=>rfl
  |some f=>
   rw[NM.2 hL];simp only;rw[hu,ZtW (by omega)];have h1:=VU hm (c:=(u+6)/7) f 0 { v with W:=bK K.m v.W K.sup.cc };rw[Int.ofNat_zero]at h1;rw[h1];cases nx (K.img.take (64*K.m)) ((u+6)/7) 0 f with
   |none=>rfl
   |some q=>
    have⟨bs,ls⟩:=q;simp only[yV];have gp:=VI hu ls 0 [] rfl;rw[hs];rw[Int.ofNat_zero]at gp;rw[gp];cases tH u K.sup.g 0 ls []with
    |none=>cases eS K.m (bK K.m v.W K.sup.cc) bs<;>rfl
    |some l=>
     simp only;rw[show eS K.m v.W (K.sup.cc::bs)=(fO K.m v.W K.sup.cc&&eS K.m (bK K.m v.W K.sup.cc) bs)from rfl,dS,dF];cases eS K.m (bK K.m v.W K.sup.cc) bs<;>cases l.all (rG K.sup.g)<;>rfl
theorem UH {im:aj} {top:Int} {u:Nat} {g:Int} : ∀(c i:Nat) (l l':List bw),lL im top u g c i l=some l'->(∀s∈l,s.gen<=g)->∀s∈l',s.gen<=g
 |0,_,_,_,h,hg=>by cases h;exact hg
 |c+1,i,l,l',h,hg=>by
  unfold lL at h;cases hF:mh im top i with
  |none=>rw[hF]at h;cases h
  |some s=>
  rw[hF]at h;simp only at h;cases hu:decide (u<=i)with
  |true=>
   rw[hu,ae]at h;cases hs:og s with
   |false=>rw[hs]at h;cases h
   |true=>rw[hs]at h;exact UH c _ _ _ h hg
  |false=>
   rw[hu,af]at h;cases hb:decide (s.gen<1)||decide (s.gen>g)with
   |true=>rw[hb]at h;cases h
   |false=>
    rw[hb]at h;rw[C6,zB,zB]at hb;refine UH c _ _ _ h λy hy=>?_
    grind
theorem ZvC {x:cy} {l:List bw} (h:qL im x=some (l,pg)): ∀s∈l,s.gen<=x.g:=by
 unfold qL at h;cases hP:xV im x.cc with
 |none=>rw[hP]at h;cases h
 |some pg'=>
  rw[hP]at h;simp only at h;cases hd:decide (pg'.length=(x.used.toNat+6)/7+oW x.used.toNat)with
  |false=>rw[hd]at h;cases h
  |true=>
   rw[hd,ae]at h;cases hS:lL im x.cc x.used.toNat x.g (7*((x.used.toNat+6)/7)) 0 []with
   |none=>rw[hS]at h;cases h
   |some l'=>
    rw[hS]at h;cases h;exact UH _ _ _ _ hS λs hs=>nomatch hs
theorem Zuy (h:16<=m:=by omega):dq (jd m [0,1])=[0,1]:=by
 refine FF (xA _) (by unfold kC;simp) λk=>?_
 rw[oO];constructor
 .rintro⟨b,rfl,hb⟩
  exact((wc _ b).1 hb).1
 .intro hk
  have nC:k=0\/k=1:=by simpa using hk
  exact⟨k.toNat,by omega,(wc _ _).2 (by grind)⟩
theorem ZxO {x:cy} (km:K.m=x.blocks.toNat) (ki:K.img=img) (ks:K.sup=x) (hx:uJ x) (hb:x.blocks<=((img.length/64:Nat):Int)):match tf K with
  |none=>uW img x=none
  |some v=>uW img x=some (fh x v,dq v.W)/\∃all:ak,v.W=all.foldl (bK x.blocks.toNat) (jd x.blocks.toNat [0,1]):=by
 have⟨g1,g2,g3,g4,g5,g6⟩:=Z4 hx.g;have⟨m,hm⟩: ∃m:Nat,x.blocks=(m:Int):=by grind
 have jX:x.blocks.toNat=m:=by omega
 have hmi:64*m<=img.length:=by omega
 rw[jX]at km;have vv:64*K.m<=K.img.length:=by rw[km,ki];exact hmi
 have⟨W0,sI⟩: ∃W0,jd m [0,1]=W0:=⟨_,rfl⟩;have vw:W0.length=(m+63)/64:=by rw[<-sI];unfold jd;rw[(ZF m _ _).1,oF]
 have GY: ∀b,di W0 b=true->b<m:=λb Ea=>by rw[<-sI]at Ea;exact((wc _ b).1 Ea).2
 have Jv:di W0 0=true:=by rw[<-sI];exact(wc _ 0).2 ⟨by simp,by omega⟩
 have JY:dq W0=[0,1]:=by rw[<-sI];exact Zuy
 have hp:=Zyv (by rw[ks];exact hx) vv (qo K.m) rfl;rw[km,ki,ks]at hp;rw[jX,sI];unfold uW tf;rw[(BC x).2 hx,bu,af,aF (show ¬x.blocks>((img.length/64:Nat):Int) by omega),af,jX,km,hp];cases hS:qL (img.take (64*m)) x with
 |none=>rfl
 |some q=>
 have⟨l,pg⟩:=q;have⟨s1,s2,s3,s4⟩:=UP hx hS;have sg:=ZvC hS;simp only;have⟨v1,yF⟩: ∃v1:aS, { qo m with aG:=l,W:=pg.foldl (bK m) (qo m).W } =v1:=⟨_,rfl⟩;have e1:v1.aG=l:=by rw[<-yF]
 have e2:v1.W=pg.foldl (bK m) W0:=by rw[<-yF,<-sI];rfl
 have e3:v1.aM=[]/\v1.aK=[]/\v1.free=[]/\v1.nodes=0:=by rw[<-yF];exact⟨rfl,rfl,rfl,rfl⟩
 rw[yF,show(qo m).W=W0 from sI];have hf:=Zzi (K:=K) (v:=v1) (by rw[ks];exact hx) (by rw[ks,e1];exact s2) (λs hs hv=>by rw[e1]at hs;exact(Zks (s1 s hs) hv).1) (by grind) e3.2.2.1;rw[ks,e1]at hf;cases hP:eS m W0 pg with
 |false=>
  rw[gf,af];simp only;cases wD l x with
  |none=>rfl
  |some fr=>
   simp only;cases vI (img.take (64*m)) x.dir with
   |none=>rfl
   |some q=>
    have⟨qs,bs⟩:=q;simp only;rw[I6];cases iE (img.take (64*m)) x.used l qs [] [] 0 with
    |none=>rfl
    |some q=>
     have⟨h,a,n⟩:=q;rw[nf];have hr:=M3 (pg++bs++a) W0 vw GY Jv;rw[JY,fI,BN,hP,gf,af,<-hm,<-fI]at hr;grind
 |true=>
 rw[dF];cases hA:l.all (rG x.g)with
 |false=>
  rw[hA,af]at hf;grind
 |true=>
 rw[hA,ae]at hf;rw[ae];simp only;rw[hf];cases hF:wD l x with
 |none=>rfl
 |some fr=>
 simp only[nf];have hq:=Zxj vv { v1 with free:=fr } (by rw[km];exact(by rw[e2,(ZF m _ _).1];exact vw)) e3.1;rw[km,ki,ks,e1]at hq;rw[hq];cases Gx:vI (img.take (64*m)) x.dir with
 |none=>rfl
 |some q=>
 have⟨qs,bs⟩:=q;simp only;rw[I6 qs [] (pg++bs)];cases iE (img.take (64*m)) x.used l qs [] [] 0 with
 |none=>rfl
 |some q=>
 have⟨h,a,n⟩:=q;rw[nf,sB];rw[km,e2,e3.1,e3.2.2.2];have hr:=M3 (pg++bs++a) W0 vw GY Jv;rw[JY,fI,BN,hP,dF,<-hm,<-fI,fI pg,zs]at hr;rw[fI pg];cases dS:eS m (pg.foldl (bK m) W0) (bs++a)with
 |false=>
  rw[dS,af]at hr;rw[af];grind
 |true=>
  rw[dS,ae]at hr;rw[ae];simp only;have nD: ∀v:aS,v.aG=l->yN v=oz l:=λv e=>by unfold yN oz;rw[e]
  rw[nD _ rfl];rw[show((oz l:Int)+n==0)=decide ((oz l:Int)=0-n) by rw[lE];simp;omega];cases hR:pW x.blocks (pg++(bs++a)) [0,1]with
  |none=>rw[hR]at hr;cases hr
  |some r=>
   rw[hR]at hr;simp only at hr⊢;cases hd:decide (r.length=(pg++(bs++a)).length+2)with
   |false=>rw[show(([0,1]:ak).length)=2 from rfl,hd]at hr;cases hr
   |true=>
    rw[show(([0,1]:ak).length)=2 from rfl,hd,ae]at hr;cases hr;cases decide ((oz l:Int)=0-n)with
    |false=>rfl
    |true=>
     refine⟨?_,pg++(bs++a),by rw[zs (l:=pg)];rfl⟩;unfold um fh;grind
theorem ZvK {x:ZH} (h:ZJ l=some x):x.name.length<=24:=by
 unfold ZJ at h;split at h
 .cases h
 .rename_i k t b _
  cases hk:decide (k=5)with
  |false=>rw[hk]at h;cases h
  |true=>
   cases hc:decide (t<=24)with
   |false=>rw[hk,hc]at h;cases h
   |true=>
    rw[hk,hc]at h;cases hn:ZE (b.drop (28+t))with
    |false=>rw[hn]at h;cases h
    |true=>
     cases hr:mQ (Z9 b t)with
     |false=>rw[hn,hr]at h;cases h
     |true=>
      rw[hn,hr]at h;grind[Z9]
theorem Zsu {im:aj} : ∀(l:ak) (qs kT:List ZH),mF im qs l=some kT->(∀q∈qs,q.name.length<=24)->(∀q∈kT,q.name.length<=24)/\kT.length=qs.length+l.length
 |[],qs,kT,h,hq=>by cases h;exact⟨hq,rfl⟩
 |k::r,qs,kT,h,hq=>by
  unfold mF at h;cases hL:jt im k with
  |none=>rw[hL]at h;cases h
  |some c=>
   rw[hL]at h;simp only at h;cases hQ:ZJ c with
   |none=>rw[hQ]at h;cases h
   |some q=>
    rw[hQ]at h;simp only at h;cases hN:w9 qs q with
    |false=>rw[hN]at h;cases h
    |true=>
     rw[hN,ae]at h;have⟨h1,h2⟩:=Zsu r _ _ h λy hy=>by
      rcases gx.1 hy with hy|hy
      .exact hq y hy
      .rw[cB.1 hy];exact ZvK hQ
     grind
theorem Zxm: ∀(es out:List bh),(es.foldl qf out).length=out.length+es.length
 |[],_=>rfl
 |e::es,out=>by rw[Bf,Zxm es,Vk,cO];omega
theorem ZuA {im:aj} {u:Int} {l:List bw} : ∀(qs:List ZH) (hs iQ:List dP) (all Jf:ak) (lv YL:Int),iE im u l qs hs all lv=some (iQ,Jf,YL)->(∀q∈qs,q.name.length<=24)->(∀g∈hs,g.name.length<=24)->(∀g∈iQ,g.name.length<=24)/\iQ.length=hs.length+qs.length/\((iQ.map (·.cj)).flatten).length+all.length=((hs.map (·.cj)).flatten).length+Jf.length
 |[],hs,iQ,all,Jf,lv,YL,h,_,hg=>by cases h;grind
 |q::r,hs,iQ,all,Jf,lv,YL,h,hq,hg=>by
  unfold iE at h;cases hF:uX im q.dz with
  |none=>rw[hF]at h;cases h
  |some p=>
   have⟨es,ns⟩:=p;rw[hF]at h;simp only at h;cases hb:ji u l es ns with
   |false=>rw[hb]at h;cases h
   |true=>
    rw[hb,ae]at h;have⟨h1,h2,h3⟩:=ZuA r _ _ _ _ _ _ h (by grind) λy hy=>by
     grind
    have h4:=ZoI hF;have h5:(jM es).length=es.length:=by simp[jM,Zxm]
    rw[fq,HC,bB,bB,show([⟨q.name,jM es⟩]:List dP).map (·.cj)=[jM es]from rfl,List.flatten_singleton,h5]at h3;rw[bB,iK]at h2;grind
theorem Ztf {l:List bw} {u g:Int} : ∀(f:Nat) (k:Int) (out o:ak),mR l u g f k out=some o->o.length<=out.length+f
 |0,_,_,_,h=>by cases h
 |f+1,k,out,o,h=>by
  unfold mR at h;cases h0:k==0 with
  |true=>rw[h0]at h;cases h;omega
  |false=>
  rw[h0,af]at h;cases h1:decide (k>u)with
  |true=>rw[h1]at h;cases h
  |false=>
  rw[h1,af]at h;cases hg:l[(k-1).toNat]? with
  |none=>rw[hg]at h;cases h
  |some s=>
  rw[hg]at h;simp only at h;cases h2:s.live with
  |true=>rw[h2]at h;cases h
  |false=>
  cases h3:decide (s.gen>=g)with
  |true=>rw[h2,h3]at h;cases h
  |false=>
  cases h4:decide (k-1∈out)with
  |true=>rw[h2,h3,h4]at h;cases h
  |false=>
   rw[h2,h3,h4]at h;have:=Ztf f _ _ _ h;rw[bB,iK]at this;omega
theorem ZuL {g:dP} : ∀ {l:List dP},g∈l->g.cj.length<=((l.map (·.cj)).flatten).length
 |x::l,h=>by
  rw[oG,Da,bB];rcases eF.1 h with rfl|h
  .omega
  .have:=ZuL h;omega
theorem ZyJ {x:cy} {y:fJ} (hx:uJ x) (h:uW img x=some (y,r)):Dn y/\r.length<5000:=by
 have⟨g1,g2,g3,g4,g5,g6⟩:=Z4 hx.g;have⟨m,hm⟩: ∃m:Nat,x.blocks=(m:Int):=⟨x.blocks.toNat,by omega⟩;unfold uW at h;rw[(BC x).2 hx,bu,af]at h;cases hb:decide (x.blocks>((img.length/64:Nat):Int))with
 |true=>rw[hb]at h;cases h
 |false=>
 rw[hb,af]at h;generalize img.take (64*x.blocks.toNat)=im at h;cases hS:qL im x with
 |none=>rw[hS]at h;cases h
 |some q=>
 have⟨l,pg⟩:=q;rw[hS]at h;simp only at h;have⟨s1,s2,s3,s4⟩:=UP hx hS;cases hF:wD l x with
 |none=>rw[hF]at h;cases h
 |some fr=>
 rw[hF]at h;simp only at h;have ep:fr.length<=l.length+2:=by
  unfold wD at hF;cases hL:mR l x.used x.g (l.length+2) x.free []with
  |none=>rw[hL]at hF;cases hF
  |some o=>
   rw[hL]at hF;simp only at hF;cases hA:sf x.g o 0 l with
   |false=>rw[hA]at hF;cases hF
   |true=>
    rw[hA]at hF;cases hF;have:=Ztf _ _ _ _ hL;simpa using this
 cases hR:vI im x.dir with
 |none=>rw[hR]at h;cases h
 |some q=>
 have⟨qs,bs⟩:=q;rw[hR]at h;simp only at h;have Kl:(∀q∈qs,q.name.length<=24)/\qs.length<=bs.length:=by
  unfold vI at hR;split at hR
  .grind
  .split at hR
   .cases hR
   .split at hR
    .cases hR
    .split at hR
     .cases hR
     .rename_i c _ l' _ qs' hq
      cases hR;have⟨a1,a2⟩:=Zsu _ _ _ hq λq hq=>nomatch hq
      grind
 cases hW:iE im x.used l qs [] (pg++bs) (oz l)with
 |none=>rw[hW]at h;cases h
 |some q=>
 have⟨hs,all,lv⟩:=q;rw[hW]at h;simp only at h;have⟨w1,w2,w3⟩:=ZuA _ _ _ _ _ _ _ hW Kl.1 λg hg=>nomatch hg
 cases hG:pW x.blocks all [0,1]with
 |none=>rw[hG]at h;cases h
 |some r'=>
 rw[hG]at h;simp only at h;cases eN:lv==0 with
 |false=>rw[eN]at h;cases h
 |true=>
 rw[eN,ae]at h;cases hd:decide (r'.length=all.length+2)with
 |false=>rw[hd]at h;cases h
 |true=>
 rw[hd,ae]at h;cases h;have vw:(jd m [0,1]).length=(m+63)/64:=by unfold jd;rw[(ZF m _ _).1,oF]
 have hr:=M3 all (jd m [0,1]) vw (λb hb=>((wc _ b).1 hb).2) ((wc _ 0).2 ⟨by simp,by omega⟩);rw[Zuy,<-hm,hG]at hr;simp only at hr;rw[show(([0,1]:ak).length)=2 from rfl,hd,ae]at hr;have akk:all.length<=m:=by
  cases dS:eS m (jd m [0,1]) all with
  |false=>rw[dS]at hr;cases hr
  |true=>exact ZuW vw dS
 have ij:=mK hd;rw[bB]at w3;simp only[List.map_nil,List.flatten_nil,Bh]at w2 w3;refine⟨⟨⟨by grind,λg hg=>?_,by grind⟩,by show((hs.map (·.cj)).flatten).length<=_;omega,by grind,by grind⟩,by omega⟩;have:g.cj.length<=((hs.map (·.cj)).flatten).length:=ZuL hg;omega
end Go.Gv.F
