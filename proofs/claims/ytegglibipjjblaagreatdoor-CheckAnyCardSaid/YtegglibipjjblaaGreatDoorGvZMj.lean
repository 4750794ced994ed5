/- The program's walk and the document's: what is taken, and blocks by kind. No program in sight. -/
import Derived.Test.YtegglibipjjblaaGreatDoorGvZMi
set_option linter.all false
namespace Go.Gv.F
open Go.Gv
def eR (m:Nat):al->ak->Bool
 |_,[]=>true
 |W,k::r=>fO m W k&&eR m (bK m W k) r
variable {k u y:Int} {es hZ:List bh} {c d m n p:Nat} {v:aS} {im img l:aj} {gP ks pg r:ak} {W:al} {K:bL} {e:bh}
def Zsc {a:Int} (hl:W.length=(m+63)/64) (ha:fO m W a=true):fO m (bK m W a) k=(fO m W k&& !decide (k=a)):=by
 unfold fO at ha⊢;rw[qM hl];grind
def IQ {m:Nat} : ∀ {ks:ak} {W:al},W.length=(m+63)/64->(eR m W ks=true↔ks.Nodup/\∀k∈ks,fO m W k=true)
 |[],W,_=>by simp[eR]
 |a::r,W,hl=>by
  unfold eR;rw[aY,zu,IQ (by rw[oM];exact hl)];constructor
  .rintro⟨h1,h2,h3⟩
   have h4: ∀k∈r,fO m W k=true/\k≠a:=λk hk=>by
    have:=h3 k hk;rw[Zsc hl h1,aY,lD,zw]at this;exact this
   grind
  .rintro⟨⟨h1,h2⟩,h3⟩
   have h4:=h3 a uq;refine⟨h4,h2,λk hk=>?_⟩;rw[Zsc hl h4,h3 k (zs _ hk),dF,lD,zw];grind
def BI {m:Nat} : ∀(a b:ak) (W:al),eR m W (a++b)=(eR m W a&&eR m (a.foldl (bK m) W) b)
 |[],_,_=>rfl
 |k::a,b,W=>by
  show(fO m W k&&eR m (bK m W k) (a++b))=((fO m W k&&eR m (bK m W k) a)&&_);rw[BI a b,Bool.and_assoc];rfl
def Zts {a b:ak} (hl:W.length=(m+63)/64) (h:a.Perm b):eR m W a=eR m W b:=by
 rw[lC,IQ hl,IQ hl,h.nodup_iff];grind
def Zwr (m:Nat) (W:al) (a b:Int):bK m (bK m W a) b=bK m (bK m W b) a:=by
 unfold bK;cases fE m a<;>cases fE m b<;>simp only[ae,af]
 refine tg λi=>?_
 grind
def Zrd {a b:ak} (h:a.Perm b): ∀(W:al),a.foldl (bK m) W=b.foldl (bK m) W:=by
 induction h with
 |nil=>exact λ_=>rfl
 |cons x _ ih=>exact λW=>ih _
 |swap x y l=>exact λW=>by simp only[Bb,Zwr m W y x]
 |trans _ _ i1 i2=>grind
def ZuD (hl:W.length=(m+63)/64) (h:eR m W ks=true):ks.length<=m:=by
 obtain⟨h1,h2⟩:=(IQ hl).1 h;have:=xO (m:=ZX 0 m) h1 λk hk=>by
  grind[fO,fE,ZX]
 grind[ZX]
def yK (l:aj):Nat:=match fM l with
 |none=>0
 |some (k,_,_)=>k
def Nu {x:jK} (h:iY l=some x):yK l=1:=by
 grind[iY,yK]
def Nj {x:List bw} (h:ZM l=some x):yK l=2:=by
 grind[ZM,yK]
def V4 {x:ak} (h:iM l=some x):yK l=3:=by
 grind[iM,yK]
def Zwz {x:ZH} (h:ZJ l=some x):yK l=5:=by
 grind[ZJ,yK]
def ZAn {x:ak} (h:lh l=some x):yK l=6:=by
 grind[lh,yK]
def aaQ {x:jK} :ZY l= .node x↔iY l=some x:=by
 grind[ZY]
def aaP {x:List bw} :ZY l= .leaf x↔ZM l=some x:=by
 unfold ZY;cases h1:iY l with
 |some y=>
  cases h2:ZM l with
  |none=>simp
  |some z=>have:=Nu h1;rw[Nj h2]at this;cases this
 |none=>cases h2:ZM l<;>cases h3:iM l<;>cases h4:ZJ l<;>cases h5:lh l<;>simp
def ND {x:ak} :ZY l= .cc x↔iM l=some x:=by
 unfold ZY;cases h3:iM l with
 |none=>cases h1:iY l<;>cases h2:ZM l<;>cases h4:ZJ l<;>cases h5:lh l<;>simp
 |some z=>
  have hk:=V4 h3;cases h1:iY l with
  |some y=>rw[Nu h1]at hk;cases hk
  |none=>
   cases h2:ZM l with
   |some y=>rw[Nj h2]at hk;cases hk
   |none=>simp
def aaR {x:ZH} :ZY l= .queue x↔ZJ l=some x:=by
 unfold ZY;cases h4:ZJ l with
 |none=>cases h1:iY l<;>cases h2:ZM l<;>cases h3:iM l<;>cases h5:lh l<;>simp
 |some z=>
  have hk:=Zwz h4;cases h1:iY l with
  |some y=>rw[Nu h1]at hk;cases hk
  |none=>
   cases h2:ZM l with
   |some y=>rw[Nj h2]at hk;cases hk
   |none=>
    cases h3:iM l with
    |some y=>rw[V4 h3]at hk;cases hk
    |none=>simp
def aaO {x:ak} :ZY l= .dir x↔lh l=some x:=by
 unfold ZY;cases h5:lh l with
 |none=>cases h1:iY l<;>cases h2:ZM l<;>cases h3:iM l<;>cases h4:ZJ l<;>simp
 |some z=>
  have hk:=ZAn h5;cases h1:iY l with
  |some y=>rw[Nu h1]at hk;cases hk
  |none=>
   cases h2:ZM l with
   |some y=>rw[Nj h2]at hk;cases hk
   |none=>
    cases h3:iM l with
    |some y=>rw[V4 h3]at hk;cases hk
    |none=>
     cases h4:ZJ l with
     |some y=>rw[Zwz h4]at hk;cases hk
     |none=>simp
def FO (hm:64*m<=img.length) (k:Int):jt (img.take (64*m)) k=bif fE m k then some (ZG img k.toNat)else none:=by
 have h1:(img.take (64*m)).length/64=m:=by rw[cX];omega
 unfold jt fE;rw[h1];by_cases hk:0<=k/\k<(m:Int)
 .rw[bj (by omega),ax hk.1,ax hk.2,vO,ae,aci]
  grind[w4,C5,C7]
 grind
def FP (h:fO m W k=true):fE m k=true/\2<=k:=by
 grind[fO]
def lI:Option (List bh×aS)->Option (List bh×aS)->Prop
 |none,none=>True
 |some (a,v),some (b,w)=>a.Perm b/\v=w
 |_,_=>False
def lI.refl: ∀a,lI a a
 |none=>trivial
 |some _=>⟨.refl _,rfl⟩
def lI.of {a b:Option (List bh×aS)} (h:a=b):lI a b:=h▸lI.refl a
def lI.trans: ∀ {a b c:Option (List bh×aS)},lI a b->lI b c->lI a c
 |none,none,_,_,h=>h
 |some _,some _,some _,h,k=>⟨h.1.trans k.1,h.2.trans k.2⟩
def Zrw {K:bL} : ∀(f:Nat) {a b:List bh} (t:List nh) (v:aS),a.Perm b->lI (jM K f a t v) (jM K f b t v)
 |0,_,_,_,_,_=>trivial
 |_+1,_,_,[],_,h=>⟨h,rfl⟩
 |f+1,a,b,t::r,v,h=>by
  unfold jM;split
  .rename_i x v' _
   cases uK K v' t x with
   |false=>trivial
   |true=>exact Zrw f _ _ (h.append_right _)
  .trivial
def iT (K:bL) (v:aS) (bs:ak) (n:Nat):aS:= { v with W:=bs.foldl (bK K.m) v.W,nodes:=v.nodes+(n:Int) }
def ZuH (K:bL) (v:aS) (a b:ak) (i j:Nat):iT K (iT K v a i) b j=iT K v (a++b) (i+j):=by
 grind[iT]
def ZyH (K:bL) (v:aS) {a b:ak} (h:a.Perm b) (i:Nat):iT K v a i=iT K v b i:=by
 unfold iT;rw[Zrd h]
def ML (u:Int) (l:List bw): ∀(es:List bh) (ns:ak) (hZ:List bh) (KN:ak),es.length=ns.length->ji u l (es++hZ) (ns++KN)=(ji u l es ns&&ji u l hZ KN)
 |[],[],_,_,_=>rfl
 |e::es,n::ns,hZ,KN,h=>by
  show(bif jR u l e n then ji u l (es++hZ) (ns++KN)else false)=((bif jR u l e n then ji u l es ns else false)&&_);rw[ML u l es ns hZ KN (by simpa using h)];cases jR u l e n<;>rfl
def okB (K:bL) (v:aS) (es:List bh) (bs:ak):Bool:=ji K.sup.used v.aG es bs&&eR K.m v.W bs
def Zz0 (hl:v.W.length=(K.m+63)/64) {bs:ak} (h:es.length=bs.length) (n:Nat):okB K v (es++hZ) (bs++gP)=(okB K v hZ gP&&okB K (iT K v gP n) es bs):=by
 unfold okB iT;rw[ML _ _ _ _ _ _ h,Zts hl (List.perm_append_comm (l₁:=bs) (l₂:=gP)),BI];cases ji K.sup.used v.aG es bs<;>cases ji K.sup.used v.aG hZ gP<;>simp
def K7 (K:bL) (im:aj) (d:Nat) (k:Int) (par:bh) (top:Bool) (f:Nat) (out:List bh) (rest:List nh) (v:aS):Option (List bh×aS):=match lB im d k with
 |none=>none
 |some (es,bs)=>bif (bif top then true else ft par (es.headD yc))&&okB K v es bs then jM K (f-es.length) (out++es) rest (iT K v bs es.length)else none
def KE (K:bL) (im:aj) (j:Nat) (x:jK) (f:Nat) (out:List bh) (rest:List nh) (v:aS):Option (List bh×aS):=match jN im j x.kids x.bJ with
 |none=>none
 |some (es,bs)=>bif okB K v es bs then jM K (f-es.length) (out++es) rest (iT K v bs es.length)else none
def Zx8 (hm:64*m<=img.length) (k:Int):uj (img.take (64*m)) k=bif fE m k then iY (ZG img k.toNat)else none:=by
 unfold uj;rw[FO hm];cases fE m k<;>rfl
def TP (K:bL) (im:aj) (d:Nat):Prop:=∀(k:Int) (par:bh) (top:Bool) (f:Nat) (out:List bh) (rest:List nh) (v:aS),v.W.length=(K.m+63)/64->lI (jM K f out (⟨k,d,par,top⟩::rest) v) (K7 K im d k par top f out rest v)
def KP (K:bL) (im:aj) (j:Nat):Prop:=∀(x:jK) (f:Nat) (out:List bh) (rest:List nh) (v:aS),v.W.length=(K.m+63)/64->lI (jM K f out (sP x j++rest) v) (KE K im j x f out rest v)
def Vj (hl:v.W.length=(K.m+63)/64) (bs:ak) (n:Nat):(iT K v bs n).W.length=(K.m+63)/64:=(ZF K.m bs v.W).1.trans hl
def acI (hm:64*K.m<=K.img.length) (h:KP K (K.img.take (64*K.m)) d):TP K (K.img.take (64*K.m)) d:=by
 intro k par top f out rest v hl;cases f with
 |zero=>
  refine lI.of ?_;unfold K7;cases lB (K.img.take (64*K.m)) d k with
  |none=>rfl
  |some q=>
   obtain⟨es,bs⟩:=q;simp only[Nat.zero_sub];cases(bif top then true else ft par (es.headD yc))&&okB K v es bs<;>rfl
 |succ f=>
 have hL:jM K (f+1) out (⟨k,d,par,top⟩::rest) v=match dN K k v with
  |some (.node x,v')=>bif uK K v' ⟨k,d,par,top⟩ x then jM K f (out++[x.bJ]) (sP x x.kids.length++rest) { v' with nodes:=v'.nodes+1 } else none
  |_=>none:=rfl
 rw[hL];unfold K7 lB dN;rw[Zx8 hm];cases hf:fO K.m v.W k with
 |false=>
  refine lI.of ?_;cases(bif fE K.m k then iY (ZG K.img k.toNat)else none)with
  |none=>rfl
  |some x=>
   simp only;cases decide (x.kids.length=d)with
   |false=>rfl
   |true=>
    cases jN (K.img.take (64*K.m)) d x.kids x.bJ with
    |none=>rfl
    |some q=>
     simp only[ae,okB,eR,hf,gf,C1,af]
 |true=>
 rw[(FP hf).1,ae,ae];cases hN:iY (ZG K.img k.toNat)with
 |none=>
  cases hb:ZY (ZG K.img k.toNat)with
  |node x=>rw[aaQ.1 hb]at hN;cases hN
  |_=>trivial
 |some x=>
  rw[aaQ.2 hN];simp only;have pj:uK K { v with W:=bK K.m v.W k } ⟨k,d,par,top⟩ x=(decide (x.kids.length=d)&&((bif top then true else ft par x.bJ)&&jR K.sup.used v.aG x.bJ k)):=by
   grind[uK,jR,DQ]
  rw[pj];cases hd:decide (x.kids.length=d)with
  |false=>trivial
  |true=>
   have mh:x.kids.length=d:=mI hd;rw[ae,mh,dF];have hk:=h x f (out++[x.bJ]) rest { v with W:=bK K.m v.W k,nodes:=v.nodes+1 } ((oM K.m v.W k).trans hl);unfold KE at hk;cases hT:jN (K.img.take (64*K.m)) d x.kids x.bJ with
   |none=>
    rw[hT]at hk;cases(bif top then true else ft par x.bJ)&&jR K.sup.used v.aG x.bJ k with
    |false=>trivial
    |true=>exact hk
   |some q=>
    obtain⟨es,bs⟩:=q;rw[hT]at hk;simp only at hk⊢;have ho:okB K v (x.bJ::es) (k::bs)=(jR K.sup.used v.aG x.bJ k&&okB K { v with W:=bK K.m v.W k,nodes:=v.nodes+1 } es bs):=by
     unfold okB;show((bif jR K.sup.used v.aG x.bJ k then ji K.sup.used v.aG es bs else false)&&(fO K.m v.W k&&eR K.m (bK K.m v.W k) bs))=_;rw[hf,dF];cases jR K.sup.used v.aG x.bJ k<;>rfl
    have hu:iT K { v with W:=bK K.m v.W k,nodes:=v.nodes+1 } bs es.length=iT K v (k::bs) (x.bJ::es).length:=by
     grind[iT]
    rw[hu,fI]at hk;rw[ho,cO,show f+1-(es.length+1)=f-es.length by omega];show lI _ (bif (bif top then true else ft par x.bJ)&&(jR K.sup.used v.aG x.bJ k&&okB K { v with W:=bK K.m v.W k,nodes:=v.nodes+1 } es bs)then jM K (f-es.length) (out++([x.bJ]++es)) rest (iT K v (k::bs) (x.bJ::es).length)else none);cases(bif top then true else ft par x.bJ)with
    |false=>trivial
    |true=>
     cases jR K.sup.used v.aG x.bJ k with
     |false=>trivial
     |true=>exact hk
def ZwO {K:bL} (hm:64*K.m<=K.img.length): ∀j,KP K (K.img.take (64*K.m)) j
 |0=>λx f out rest v _=>lI.of (by
   unfold KE jN;show jM K f out rest v=jM K (f-0) (out++[]) rest (iT K v [] 0);rw[gz];unfold iT;simp)
 |j+1=>λx f out rest v hl=>by
  have ih:=ZwO hm j;have ht:=acI hm ih (x.kids.getD j 0) x.bJ false f out (sP x j++rest) v hl;rw[Zpg,nP];refine ht.trans ?_;unfold KE K7;rw[TK];cases hT:lB (K.img.take (64*K.m)) j (x.kids.getD j 0)with
  |none=>
   refine lI.of ?_;grind
  |some q=>
   obtain⟨fe,ga⟩:=q;simp only[af];have hk:=ih x (f-fe.length) (out++fe) rest (iT K v ga fe.length) (Vj hl _ _);unfold KE at hk;cases hS:jN (K.img.take (64*K.m)) j x.kids x.bJ with
   |none=>
    rw[hS]at hk;cases ft x.bJ (fe.headD yc)&&okB K v fe ga with
    |false=>trivial
    |true=>exact hk
   |some q=>
    obtain⟨es,bs⟩:=q;rw[hS]at hk;simp only at hk⊢;show lI _ (match (bif ft x.bJ (fe.headD yc)then some (es++fe,bs++ga)else none)with
     |none=>none
     |some (es,bs)=>bif okB K v es bs then jM K (f-es.length) (out++es) rest (iT K v bs es.length)else none)
    cases ft x.bJ (fe.headD yc)with
    |false=>trivial
    |true=>
     simp only[dF,ae];rw[Zz0 hl (H0 _ _ _ _ _ hS).2.symm fe.length];cases okB K v fe ga with
     |false=>trivial
     |true=>
      rw[ae,dF];refine hk.trans ?_;cases okB K (iT K v ga fe.length) es bs with
      |false=>trivial
      |true=>
       rw[ae,ae,ZuH,ZyH K v (List.perm_append_comm (l₁:=ga) (l₂:=bs)),bB,tk fe.length,show f-fe.length-es.length=f-(es.length+fe.length) by omega,fI];exact Zrw _ _ _ (List.perm_append_comm.append_left out)
def GC (K:bL) (v:aS) (acc:List bh):Option (List bh×ak)->Option (List bh×aS)
 |none=>none
 |some (es,bs)=>bif okB K v es bs then some (acc++es,iT K v bs es.length)else none
def Zzl (hm:64*K.m<=K.img.length) (d:Nat) (k:Int) (v:aS) (hl:v.W.length=(K.m+63)/64):lI (rG K k d v) (GC K v [] (lB (K.img.take (64*K.m)) d k)):=by
 have h:=acI hm (ZwO hm d) k yc true (K.m+1) [] [] v hl;unfold rG;refine h.trans (lI.of ?_);unfold K7;cases hT:lB (K.img.take (64*K.m)) d k with
 |none=>rfl
 |some q=>
  obtain⟨es,bs⟩:=q;simp only[GC,ae,dF];cases ho:okB K v es bs with
  |false=>rfl
  |true=>
   unfold okB at ho;rw[aY]at ho;have h1:=ZuD hl ho.2;have h2:=(Dy hT).2;rw[show K.m+1-es.length=(K.m-es.length)+1 by omega];rfl
def Mj {im:aj} : ∀(l:ak) (i:Nat) (es:List bh) (bs:ak),lJ im i l es bs=(lJ im i l [] []).map λq=>(es++q.1,bs++q.2)
 |[],_,_,_=>by simp[lJ]
 |k::r,i,es,bs=>by
  unfold lJ;cases k==0 with
  |true=>exact Mj r _ es bs
  |false=>
   rw[af,af];cases lB im i k with
   |none=>rfl
   |some q=>
    obtain⟨fe,ga⟩:=q;simp only[jG];rw[Mj r _ (es++fe),Mj r _ fe];cases lJ im (i+1) r [] []with
    |none=>rfl
    |some q=>simp
def U0 {K:bL} (hm:64*K.m<=K.img.length): ∀(l:ak) (i:Nat) (acc:List bh) (v:aS),v.W.length=(K.m+63)/64->lI (lY K (i:Int) l acc v) (GC K v acc (lJ (K.img.take (64*K.m)) i l [] []))
 |[],i,acc,v,_=>by
  show lI (some (acc,v)) (some (acc++[],iT K v [] 0));refine⟨by rw[gz],?_⟩;unfold iT;simp
 |k::r,i,acc,v,hl=>by
  unfold lY lJ;cases k==0 with
  |true=>
   have:=U0 hm r (i+1) acc v hl;rwa [show((i+1:Nat):Int)=(i:Int)+1 by omega]at this
  |false=>
   rw[bn,ae,af];have ht:=Zzl hm i k v hl;cases hT:lB (K.img.take (64*K.m)) i k with
   |none=>
    rw[hT]at ht;cases hM:rG K k i v with
    |none=>trivial
    |some q=>rw[hM]at ht;exact ht.elim
   |some q=>
    obtain⟨fe,ga⟩:=q;rw[hT]at ht;simp only[GC,jG]at ht⊢;rw[Mj r];cases ho:okB K v fe ga with
    |false=>
     rw[ho]at ht;cases hM:rG K k i v with
     |some q=>rw[hM]at ht;exact ht.elim
     |none=>
      cases hF:lJ (K.img.take (64*K.m)) (i+1) r [] []with
      |none=>trivial
      |some q=>
       obtain⟨es,bs⟩:=q;simp only[nc];rw[show okB K v (fe++es) (ga++bs)=(okB K v fe ga&&_)from by
        unfold okB;rw[ML _ _ _ _ _ _ (Dy hT).2.symm,BI];rw[show ∀a b c d:Bool,((a&&b)&&(c&&d))=((a&&c)&&(b&&d))from by decide],ho]
       trivial
    |true=>
     rw[ho]at ht;cases hM:rG K k i v with
     |none=>rw[hM]at ht;exact ht.elim
     |some q=>
      obtain⟨out,w⟩:=q;rw[hM]at ht;obtain⟨hp,rfl⟩:=ht;have ih:=U0 hm r (i+1) (acc++out) (iT K v ga fe.length) (Vj hl _ _);rw[show((i+1:Nat):Int)=(i:Int)+1 by omega]at ih;refine ih.trans ?_;cases hF:lJ (K.img.take (64*K.m)) (i+1) r [] []with
      |none=>trivial
      |some q=>
       obtain⟨es,bs⟩:=q;simp only[nc,GC];rw[show okB K v (fe++es) (ga++bs)=(okB K v fe ga&&okB K (iT K v ga fe.length) es bs)from by
        unfold okB iT;simp only;rw[ML _ _ _ _ _ _ (Dy hT).2.symm,BI];rw[show ∀a b c d:Bool,((a&&b)&&(c&&d))=((a&&c)&&(b&&d))from by decide],ho,dF]
       cases okB K (iT K v ga fe.length) es bs with
       |false=>trivial
       |true=>
        rw[ae,ae,ZuH,<-bB,fI];exact⟨(hp.append_right es).append_left acc,rfl⟩
def ZtW {a b c:bh} (h:ft a b=true) (k:ft b c=true):ft a c=true:=by
 rw[MU]at h k⊢;exact UA h k
def ZyO {a b:bh} (h:a.slot≠b.slot) (k:ft a b=false):ft b a=true:=by
 have:=U1 (x:=e4 a) (y:=e4 b) h;rw[<-MU,<-MU,k,vP]at this;exact this
def Zsr (e:bh) (out:List bh): ∀k,(∀i,rC e out k<=i->i<k->ft e (out.getD i ⟨0,0,0,0⟩)=true)/\(0<rC e out k->ft e (out.getD (rC e out k-1) ⟨0,0,0,0⟩)=false)
 |0=>⟨by omega,λh=>absurd h (Nat.lt_irrefl _)⟩
 |k+1=>by
  obtain⟨h1,h2⟩:=Zsr e out k;grind[rC]
def ZAk {out:List bh} (h:out.Pairwise λa b=>ft a b=true) (hd: ∀x∈out,x.slot≠e.slot):(qd out e).Perm (e::out)/\(qd out e).Pairwise λa b=>ft a b=true:=by
 unfold qd;obtain⟨h1,h2⟩:=Zsr e out out.length;have hp:=Zuz e out out.length;generalize rC e out out.length=p at h1 h2 hp;have hc: ∀i,(hi:i<out.length)->out.getD i ⟨0,0,0,0⟩=out[i]:=by grind
 constructor
 .refine List.perm_middle.trans ?_
  rw[rQ]
 .have hb: ∀a∈out.take p,ft a e=true:=λa ha=>by
   obtain⟨i,hi,rfl⟩:=List.getElem_of_mem ha;rw[cX]at hi;rw[List.getElem_take];have lN:p-1<out.length:=by omega
   have h3:=h2 (by omega);rw[hc _ lN]at h3;have h4:=ZyO (by grind) h3;rcases jH i (p-1)with h5|h5
   .exact ZtW ((Ll.1 h) i (p-1) (by omega) lN h5) h4
   grind
  refine Lj.2 ⟨(by grind),List.pairwise_cons.2 ⟨λa ha=>?_,(by grind)⟩,λa ha b dR=>?_⟩
  .obtain⟨i,hi,rfl⟩:=List.getElem_of_mem ha
   rw[fa]at hi;rw[List.getElem_drop,<-hc _ (by omega)];grind
  .rcases eF.1 dR with rfl|dR
   .exact hb a ha
   .rw[<-rQ p out]at h
    grind
def Zrm: ∀(l out:List bh),(out.Pairwise λa b=>ft a b=true)->(∀x∈out,∀y∈l,x.slot≠y.slot)->Diff l->(l.foldl qd out).Perm (out++l)/\(l.foldl qd out).Pairwise λa b=>ft a b=true
 |[],out,h,_,_=>(by simp_all)
 |e::l,out,h,hd,.cons h1 h2=>by
  obtain⟨a1,a2⟩:=ZAk h (λx hx=>hd x hx e uq);obtain⟨b1,b2⟩:=Zrm l (qd out e) a2 (λx hx y hy=>by
   grind) h2
  exact⟨b1.trans ((a1.append_right l).trans List.perm_middle.symm),b2⟩
def ZyV (hp:hZ.Perm es) (hd:Diff es):lz hZ=Z8 es:=by
 obtain⟨h1,h2⟩:=Zrm es [] .nil (λx hx=>nomatch hx) hd;rw[jG]at h1;exact Zwe (hp.trans h1.symm) h2 (by
  have:=h1.map (·.slot);exact this.nodup_iff.2 (Hy.2 hd))
def Zsy (u:Int) (l:List bw): ∀(es:List bh) (ns:ak),es.length=ns.length->ji u l es ns=true->∀x∈es,∃w∈ns,jR u l x w=true
 |[],_,_,_,_,hx=>nomatch hx
 |e::es,n::ns,h,hf,x,hx=>by
  have hf:(bif jR u l e n then ji u l es ns else false)=true:=hf;cases he:jR u l e n with
  |false=>rw[he]at hf;cases hf
  |true=>
   rw[he,ae]at hf;rcases eF.1 hx with rfl|hx
   .grind
   .obtain⟨w,hw,fR⟩:=Zsy u l es ns (by simpa using h) hf x hx
    grind
def Zzm {l:List bw} {x:bh} {a b:Int} (h:jR u l e a=true) (k:jR u l x b=true) (hs:e.slot=x.slot):a=b:=by
 unfold jR at h k;rw[<-hs]at k;cases hd:decide (e.slot>=u)with
 |true=>rw[hd]at h;cases h
 |false=>
  rw[hd,af]at h k;cases hg:l[e.slot.toNat]? with
  |none=>rw[hg]at h;cases h
  |some s=>
   rw[hg]at h k;grind
def Zrx (u:Int) (l:List bw): ∀(es:List bh) (ns:ak),es.length=ns.length->ji u l es ns=true->ns.Nodup->Diff es
 |[],_,_,_,_=> .nil
 |e::es,n::ns,h,hf,hn=>by
  have hf:(bif jR u l e n then ji u l es ns else false)=true:=hf;cases he:jR u l e n with
  |false=>rw[he]at hf;cases hf
  |true=>
   rw[he,ae]at hf;rw[zu]at hn;have hl:es.length=ns.length:=by simpa using h
   refine .cons (λx hx hs=>?_) (Zrx u l es ns hl hf hn.2);obtain⟨w,hw,fR⟩:=Zsy u l es ns hl hf x hx;exact hn.1 (Zzm he fR hs▸hw)
def TT {im:aj} : ∀(l:ak) (i:Nat) (es:List bh) (bs:ak) {hZ:List bh} {gP:ak},lJ im i l es bs=some (hZ,gP)->es.length=bs.length->hZ.length=gP.length
 |[],_,_,_,_,_,h,k=>by cases h;exact k
 |y::r,i,es,bs,hZ,gP,h,k=>by
  unfold lJ at h;cases hy:y==0 with
  |true=>rw[hy,ae]at h;exact TT r _ _ _ h k
  |false=>
   rw[hy,af]at h;cases hT:lB im i y with
   |none=>rw[hT]at h;cases h
   |some q=>
    obtain⟨fe,ga⟩:=q;rw[hT]at h;exact TT r _ _ _ h (by rw[bB,bB,k,(Dy hT).2])
def Zpl {l:ak} {bs:ak} (h:uV im l=some (es,bs)):es.length=bs.length:=TT l 0 [] [] h rfl
def IY {im:aj} {u:Int} {l:List bw} : ∀(qs:List ZH) (hs:List dO) (all:ak) (lv:Int),iE im u l qs hs all lv=(iE im u l qs [] [] 0).map λq=>(hs++q.1,all++q.2.1,lv+q.2.2)
 |[],_,_,_=>by simp[iE]
 |q::r,hs,all,lv=>by
  unfold iE;cases uV im q.dz with
  |none=>rfl
  |some p=>
   obtain⟨es,ns⟩:=p;simp only[jG];cases ji u l es ns with
   |false=>rfl
   |true=>
    rw[ae,ae,IY r (hs++_),IY r [_]];cases iE im u l r [] [] 0 with
    |none=>rfl
    |some p=>grind
def ZxB {im:aj} : ∀(l:ak) (qs kS:List ZH),mE im qs l=some kS->∃new,kS=qs++new
 |[],qs,kS,h=>⟨[],by rw[gz];cases h;rfl⟩
 |k::r,qs,kS,h=>by
  unfold mE at h;cases hL:jt im k with
  |none=>rw[hL]at h;cases h
  |some c=>
   rw[hL]at h;simp only at h;cases hQ:ZJ c with
   |none=>rw[hQ]at h;cases h
   |some q=>
    rw[hQ]at h;simp only at h;cases hN:w9 qs q with
    |false=>rw[hN]at h;cases h
    |true=>
     rw[hN,ae]at h;obtain⟨new,rfl⟩:=ZxB r _ _ h;simp
def Zzc {qs:List ZH} (h:v.aM.map (·.name)=qs.map (·.name)) (q:ZH):Aa v qs.length q.name=w9 qs q:=by
 unfold Aa w9;rw[List.getLast?_eq_getElem?];by_cases h0:qs.length=0
 .rw[zp.1 h0];rfl
 .rw[aF h0,af]
  have hg: ∀i:Nat,(v.aM[i]?).map dO.name=(qs[i]?).map ZH.name:=λi=>by rw[<-th,<-th,h]
  have h1:=hg (qs.length-1);have h2:qs[qs.length-1]? =some qs[qs.length-1]:=cq (by omega);rw[h2]at h1⊢;grind
def sw (K:bL) (v:aS) (l:ak):Option (List dO×ak×Int)->Option aS
 |none=>none
 |some (h,a,n)=>bif eR K.m v.W (l++a)then some { v with aM:=v.aM++h,W:=(l++a).foldl (bK K.m) v.W,nodes:=v.nodes-n } else none
def ZuT {l:ak} (h: ∀a,eR K.m v.W (l++a)=false): ∀q,sw K v l q=none
 |none=>rfl
 |some (_,a,_)=>by grind[sw]
def ZwB {K:bL} (hm:64*K.m<=K.img.length): ∀(l:ak) (qs:List ZH) (v:aS),v.W.length=(K.m+63)/64->v.aM.map (·.name)=qs.map (·.name)->
  tM K qs.length l v=match mE (K.img.take (64*K.m)) qs l with
   |none=>none
   |some kS=>sw K v l (iE (K.img.take (64*K.m)) K.sup.used v.aG (kS.drop qs.length) [] [] 0)
 |[],qs,v,_,_=>by
  show some v=sw K v [] (iE (K.img.take (64*K.m)) K.sup.used v.aG (qs.drop qs.length) [] [] 0);rw[List.drop_length];simp[iE,sw,eR]
 |y::r,qs,v,hl,hn=>by
  unfold tM mE dN;rw[FO hm];cases hf:fO K.m v.W y with
  |false=>
   have cA: ∀q,sw K v (y::r) q=none:=ZuT λa=>by
    show(fO K.m v.W y&&_)=false;rw[hf,gf]
   grind
  |true=>
  rw[(FP hf).1,ae,ae];simp only;cases hQ:ZJ (ZG K.img y.toNat)with
  |none=>
   cases hb:ZY (ZG K.img y.toNat)with
   |queue x=>rw[aaR.1 hb]at hQ;cases hQ
   |_=>rfl
  |some q=>
  rw[aaR.2 hQ];simp only;rw[show Aa { v with W:=bK K.m v.W y } qs.length q.name=w9 qs q from Zzc hn q];cases hN:w9 qs q with
  |false=>rfl
  |true=>
  rw[ae,ae];have pw:({ v with W:=bK K.m v.W y } :aS).W.length=(K.m+63)/64:=(oM K.m v.W y).trans hl;have hh:=U0 hm q.dz 0 [] { v with W:=bK K.m v.W y } pw;rw[Int.ofNat_zero]at hh;rw[show lJ (K.img.take (64*K.m)) 0 q.dz [] []=uV (K.img.take (64*K.m)) q.dz from rfl]at hh;have AK: ∀new,iE (K.img.take (64*K.m)) K.sup.used v.aG (q::new) [] [] 0=match uV (K.img.take (64*K.m)) q.dz with
    |none=>none
    |some (es,ns)=>bif ji K.sup.used v.aG es ns then iE (K.img.take (64*K.m)) K.sup.used v.aG new [⟨q.name,Z8 es⟩] ns (0-es.length)else none:=λnew=>rfl
  have W9: ∀kS,mE (K.img.take (64*K.m)) (qs++[q]) r=some kS->∃new,kS.drop qs.length=q::new/\kS.drop (qs.length+1)=new:=λkS h1=>by
   obtain⟨new,rfl⟩:=ZxB _ _ _ h1;simp
  cases hF:uV (K.img.take (64*K.m)) q.dz with
  |none=>
   rw[hF]at hh;cases hM:lY K 0 q.dz [] { v with W:=bK K.m v.W y } with
   |some p=>rw[hM]at hh;exact hh.elim
   |none=>
    cases hS:mE (K.img.take (64*K.m)) (qs++[q]) r with
    |none=>rfl
    |some kS=>
     obtain⟨new,e1,_⟩:=W9 _ hS;simp only;rw[e1,AK,hF];rfl
  |some p=>
  obtain⟨es,ns⟩:=p;rw[hF]at hh;simp only[GC,jG]at hh;have ab7: ∀new,iE (K.img.take (64*K.m)) K.sup.used v.aG (q::new) [] [] 0=bif ji K.sup.used v.aG es ns then(iE (K.img.take (64*K.m)) K.sup.used v.aG new [] [] 0).map (λq'=>([⟨q.name,Z8 es⟩]++q'.1,ns++q'.2.1,0-(es.length:Int)+q'.2.2))else none:=λnew=>by
   rw[AK,hF];simp only;rw[IY new]
  have dS: ∀a,eR K.m v.W (y::r++(ns++a))=(eR K.m (bK K.m v.W y) ns&&eR K.m (ns.foldl (bK K.m) (bK K.m v.W y)) (r++a)):=λa=>by
   show(fO K.m v.W y&&eR K.m (bK K.m v.W y) (r++(ns++a)))=_;rw[hf,dF,<-BI];refine Zts pw ?_;rw[<-fI,<-fI];grind
  have hlen:=Zpl hF;cases ho:okB K { v with W:=bK K.m v.W y } es ns with
  |false=>
   rw[ho]at hh;cases hM:lY K 0 q.dz [] { v with W:=bK K.m v.W y } with
   |some p=>rw[hM]at hh;exact hh.elim
   |none=>
    cases hS:mE (K.img.take (64*K.m)) (qs++[q]) r with
    |none=>rfl
    |some kS=>
     obtain⟨new,e1,_⟩:=W9 _ hS;simp only;rw[e1,ab7];unfold okB at ho;cases GF:ji K.sup.used v.aG es ns with
     |false=>rfl
     |true=>
      rw[show ji K.sup.used ({ v with W:=bK K.m v.W y } :aS).aG es ns=true from GF,dF]at ho;rw[ae];cases iE (K.img.take (64*K.m)) K.sup.used v.aG new [] [] 0 with
      |none=>rfl
      |some p=>
       simp only[nc,sw];rw[dS,ho];rfl
  |true=>
   rw[ho]at hh;have ub:=ho;unfold okB at ub;rw[aY]at ub;have hd:Diff es:=Zrx _ _ es ns hlen ub.1 ((IQ pw).1 ub.2).1;cases hM:lY K 0 q.dz [] { v with W:=bK K.m v.W y } with
   |none=>rw[hM]at hh;exact hh.elim
   |some p=>
    obtain⟨out,w⟩:=p;rw[hM]at hh;obtain⟨hp,rfl⟩:=hh;simp only;rw[ZyV hp hd];have ih:=ZwB hm r (qs++[q]) { (iT K { v with W:=bK K.m v.W y } ns es.length)with aM:=v.aM++[⟨q.name,Z8 es⟩] } (Vj pw ns es.length) (by rw[fA,fA,hn];rfl);rw[show(qs++[q]).length=qs.length+1 by simp]at ih;refine ih.trans ?_;cases hS:mE (K.img.take (64*K.m)) (qs++[q]) r with
    |none=>rfl
    |some kS=>
     obtain⟨new,e1,e2⟩:=W9 _ hS;simp only;rw[e1,e2,ab7];rw[show ji K.sup.used v.aG es ns=true from ub.1,ae];show sw K _ r (iE (K.img.take (64*K.m)) K.sup.used v.aG new [] [] 0)=_;cases iE (K.img.take (64*K.m)) K.sup.used v.aG new [] [] 0 with
     |none=>rfl
     |some p=>
      obtain⟨h,a,n⟩:=p;simp only[nc,sw];rw[dS,show eR K.m (bK K.m v.W y) ns=true from ub.2,dF];unfold iT;simp only;cases eR K.m (ns.foldl (bK K.m) (bK K.m v.W y)) (r++a)with
      |false=>rfl
      |true=>
       rw[ae,ae,fI];congr 2
       .show(r++a).foldl (bK K.m) (ns.foldl (bK K.m) (bK K.m v.W y))=(r++(ns++a)).foldl (bK K.m) (bK K.m v.W y)
        rw[<-zn];refine Zrd ?_ _;rw[<-fI,<-fI];grind
       .omega
def ZwE (hm:64*K.m<=K.img.length) (v:aS) (hl:v.W.length=(K.m+63)/64) (hh:v.aM=[]):
  qL K v=match vG (K.img.take (64*K.m)) K.sup.dir with
   |none=>none
   |some (qs,bs)=>sw K v bs (iE (K.img.take (64*K.m)) K.sup.used v.aG qs [] [] 0):=by
 unfold qL vG;by_cases h0:K.sup.dir=0
 .rw[bE h0,h0]
  simp[iE,sw,eR]
 .rw[bj h0,show(K.sup.dir==0)=false by simpa using h0,af,FO hm]
  unfold dN;cases hf:fO K.m v.W K.sup.dir with
  |false=>
   have cA: ∀r q,sw K v (K.sup.dir::r) q=none:=λr=>ZuT λa=>by
    show(fO K.m v.W K.sup.dir&&_)=false;rw[hf,gf]
   grind
  |true=>
  rw[(FP hf).1,ae,ae];simp only;cases hD:lh (ZG K.img K.sup.dir.toNat)with
  |none=>
   cases hb:ZY (ZG K.img K.sup.dir.toNat)with
   |dir x=>rw[aaO.1 hb]at hD;cases hD
   |_=>rfl
  |some l=>
   rw[aaO.2 hD];simp only;have:=ZwB hm l [] { v with W:=bK K.m v.W K.sup.dir } ((oM K.m v.W K.sup.dir).trans hl) (by rw[hh];rfl);rw[Be]at this;rw[this];cases mE (K.img.take (64*K.m)) [] l with
   |none=>rfl
   |some qs=>
    simp only[dK];cases iE (K.img.take (64*K.m)) K.sup.used v.aG qs [] [] 0 with
    |none=>rfl
    |some p=>
     obtain⟨h,a,n⟩:=p;simp only[sw];rw[show eR K.m v.W (K.sup.dir::l++a)=(fO K.m v.W K.sup.dir&&eR K.m (bK K.m v.W K.sup.dir) (l++a))from rfl,hf,dF];rfl
def ZuV {m:Int} {l:ak} {a:Int} (h:kB l):(yI m l a).length<=l.length+1:=by
 obtain⟨h1,h2⟩:=Nb (m:=m) (a:=a) h;refine gZ (xO (m:=a::l) h1.nodup λb hb=>?_) (by simp);grind
def Zrn {m:Int} : ∀(all r q:ak),kB r->pV m all r=some q->q.length<=all.length+r.length
 |[],r,q,_,h=>by cases h;simp
 |k::a,r,q,hr,h=>by
  unfold pV at h;cases h1:decide (k<2)with
  |true=>rw[h1]at h;cases h
  |false=>
   cases h2:decide (k∈r)with
   |true=>rw[h1,h2]at h;cases h
   |false=>
    rw[h1,h2]at h;have h3:=Zrn a _ q (Nb hr).1 h;have h4:=ZuV (m:=m) (a:=k) hr;rw[cO];omega
def Zye (hl:W.length=(m+63)/64) (h:fO m W k=true):yI m (dq W) k=dq (bK m W k)/\(dq (bK m W k)).length=(dq W).length+1:=by
 obtain⟨h1,h2⟩:=Nb (m:=(m:Int)) (a:=k) (xA W);have h3:=h;unfold fO fE at h3;simp only[aY,bu,lD]at h3;obtain⟨jn,⟨lM,vt⟩,ot⟩:=h3;have hn:k∉dq W:=λhm=>by
  obtain⟨b,rfl,hb⟩:=oO.1 hm;rw[bp]at ot;rw[hb]at ot;cases ot
 have e:yI m (dq W) k=dq (bK m W k):=Fy h1 (xA _) λb=>by
  rw[h2,oO,oO];have gM: ∀c:Nat,di (bK m W k) c=true↔di W c=true\/c=k.toNat:=λc=>by
   rw[qM hl,lT,aY,bu];grind[fE]
  grind
 refine⟨e,Nat.le_antisymm ?_ ?_⟩
 .rw[<-e];exact ZuV (xA W)
 .have:=xO (l:=k::dq W) (m:=dq (bK m W k)) (zu.2 ⟨hn,(xA W).nodup⟩) λb hb=>by
   rw[<-e,h2];grind
  rwa [cO]at this
def MZ {m:Nat} : ∀(all:ak) (W:al),W.length=(m+63)/64->(∀b,di W b=true->b<m)->di W 0=true->
  (match pV m all (dq W)with
   |none=>none
   |some q=>bif decide (q.length=all.length+(dq W).length)then some q else none)=bif eR m W all then some (dq (all.foldl (bK m) W))else none
 |[],W,_,_,_=>by simp[pV,eR]
 |k::a,W,hl,hm,h0=>by
  unfold pV eR;cases hf:fO m W k with
  |true=>
   obtain⟨e1,e2⟩:=Zye hl hf;have h3:=hf;unfold fO fE at h3;simp only[aY,bu,lD]at h3;obtain⟨jn,⟨lM,vt⟩,ot⟩:=h3;have hn:k∉dq W:=λhm=>by
    obtain⟨b,rfl,hb⟩:=oO.1 hm;rw[bp]at ot;rw[hb]at ot;cases ot
   rw[aF (show ¬k<2 by omega),aF hn,af,af,e1,dF];have ih:=MZ a (bK m W k) ((oM m W k).trans hl) (λb hb=>by
    rw[qM hl,lT,aY,bu]at hb;grind) (by rw[qM hl,h0,Bool.true_or])
   rw[e2]at ih;rw[cO,show a.length+1+(dq W).length=a.length+((dq W).length+1) by omega];exact ih
  |false=>
   rw[gf,af];by_cases h2:k<2
   .rw[ax h2];rfl
   rw[aF h2,af];by_cases hn:k∈dq W
   .rw[ax hn];rfl
   rw[aF hn,af];have vt: ¬(0<=k/\k<(m:Int)/\k∉dq W):=λ⟨a1,a2,a3⟩=>by
    unfold fO fE at hf;rw[ax (show k>=2 by omega),ax a1,ax a2]at hf;have:di W k.toNat=true:=by simpa using hf
    exact a3 (oO.2 ⟨k.toNat,by omega,this⟩)
   rw[show yI m (dq W) k=dq W from bj vt];cases hR:pV m a (dq W)with
   |none=>rfl
   |some q=>
    have:=Zrn a _ q (xA W) hR;grind
def rF (g:Int) (s:bw):Bool:=bif (bif s.live then true else decide (s.gen<g))then true else s.block==0
structure PW (n:Nat) (out:List Int):Prop where
 nd:out.Nodup
 lt: ∀k∈out,0<=k/\k<(n:Int)
def PW.DZ {out:ak} (h:PW n out):out.length<=n:=by
 have:=xO (m:=ZX 0 n) h.nd λk hk=>by
  have:=h.lt k hk;unfold ZX;exact pK.2 ⟨k.toNat,uu.2 (by omega),by omega⟩
 grind[ZX]
def ZqO {l:List bw} {g:Int} (hr: ∀s∈l,s.live=false->0<=s.block): ∀(f:Nat) (k:Int) (out:ak),0<=k->PW l.length out->l.length+1<=f+out.length->mQ l l.length g (f+1) k out=mQ l l.length g f k out
 |0,k,out,_,ho,h=>by have:=ho.DZ;omega
 |f+1,k,out,hk,ho,h=>by
  conv=>lhs;unfold mQ
  conv=>rhs;unfold mQ
  cases h0:k==0 with
  |true=>rfl
  |false=>
  rw[af,af];have h0:k≠0:=by simpa using h0
  cases h1:decide (k>(l.length:Int))with
  |true=>rfl
  |false=>
  rw[af,af];have h1: ¬k>(l.length:Int):=Ff h1;cases hg:l[(k-1).toNat]? with
  |none=>rfl
  |some s=>
  simp only;cases hv:s.live with
  |true=>rfl
  |false=>
  rw[af,af];cases decide (s.gen>=g)with
  |true=>rfl
  |false=>
  rw[af,af];cases hi:decide (k-1∈out)with
  |true=>rfl
  |false=>
   rw[af,af];exact ZqO hr f _ _ (hr s (ur hg) hv) ⟨rO.2 ⟨ho.nd,by simp,λa ha b hb e=>(by simp_all)⟩,λa ha=>by
    rcases gx.1 ha with h2|h2
    .exact ho.lt a h2
    .rw[cB.1 h2];omega⟩ (by rw[bB,iK];omega)
def Zq1 {K:bL} {v0:aS} {n:Nat} (hu:K.sup.used=(n:Int)) (hn:v0.aG.length=n) (hr: ∀s∈v0.aG,s.live=false->0<=s.block): ∀(f:Nat) (fl:List Bool) (k:Int) (v:aS) (out:ak),v= { v0 with free:=out } ->0<=k->fl.length=n->(∀j:Nat,fl.getD j false=decide ((j:Int)∈out))->
  match mQ v0.aG K.sup.used K.sup.g f k out with
  |none=>nl K f fl k v=none
  |some o=>∃qW,nl K f fl k v=some (qW, { v0 with free:=o })/\∀j:Nat,qW.getD j false=decide ((j:Int)∈o)
 |0,_,_,_,_,_,_,_,_=>rfl
 |f+1,fl,k,v,out,hv,hk,hl,ep=>by
  unfold mQ nl;cases h0:k==0 with
  |true=>simp_all
  |false=>
  rw[af,af];have h0:k≠0:=by simpa using h0
  by_cases h1:k>K.sup.used
  .rw[ax h1,aF (show ¬k<=K.sup.used by omega)];rfl
  rw[aF h1,ax (show k<=K.sup.used by omega),af,ae,hv];show match (match v0.aG[(k-1).toNat]? with|none=>none|some s=>_)with
   |none=>(match v0.aG[(k-1).toNat]? with|none=>none|some x=>_)=none
   |some o=>∃qW,(match v0.aG[(k-1).toNat]? with|none=>none|some x=>_)=some (qW, { v0 with free:=o })/\_
  cases hg:v0.aG[(k-1).toNat]? with
  |none=>rfl
  |some s=>
  simp only;rw[ep,show(((k-1).toNat:Nat):Int)=k-1 by omega,show decide (s.gen>=K.sup.g)= !decide (s.gen<K.sup.g) by rw[lC];simp];cases yE:s.live with
  |true=>rfl
  |false=>
  cases decide (s.gen<K.sup.g)with
  |false=>rfl
  |true=>
  cases hi:decide (k-1∈out)with
  |true=>rfl
  |false=>
   refine Zq1 hu hn hr f (fl.set (k-1).toNat true) s.block { v0 with free:=out++[k-1] } (out++[k-1]) rfl (hr s (ur hg) yE) (by rw[nR];exact hl) λj=>?_
   have fY:(k-1).toNat<fl.length:=by omega
   rw[dW,List.getElem?_set,show decide ((j:Int)∈out++[k-1])=(decide ((j:Int)∈out)||decide ((j:Int)=k-1)) by rw[lC];simp];by_cases hj:(k-1).toNat=j
   .rw[bE hj,bE fY,ax (show(j:Int)=k-1 by omega),Bool.or_true];rfl
   .rw[bj hj,aF (show ¬(j:Int)=k-1 by omega),Bool.or_false,<-ep,dW]
def ZuI {K:bL} {out:ak} : ∀(l:List bw) (i:Nat) (fl:List Bool),(∀s∈l,s.gen<=K.sup.g/\rF K.sup.g s=true)->(∀j,fl.getD j false=decide (((i+j:Nat):Int)∈out))->qO K fl l=sc K.sup.g out i l
 |[],_,_,_,_=>rfl
 |s::r,i,fl,hs,hf=>by
  obtain⟨h1,h2⟩:=hs s uq;have ih:=ZuI r (i+1) (fl.drop 1) (λx hx=>hs x (zs _ hx)) λj=>by
   rw[show i+1+j=i+(j+1) by omega,<-hf,dW,dW,Bc,tk 1 j]
  unfold qO sc;rw[ih,show DS K (fl.getD 0 false) s=sV K.sup.g out i s from ?_]
  .cases sV K.sup.g out i s<;>rfl
  .grind[DS,sV,rF]
def Zpk {g:Int} {out:ak} : ∀(l:List bw) (i:Nat),(∀s∈l,s.gen<=g)->sc g out i l=true->l.all (rF g)=true
 |[],_,_,_=>rfl
 |s::r,i,hg,h=>by
  unfold sc at h;cases hb:sV g out i s with
  |false=>rw[hb]at h;cases h
  |true=>
   rw[hb,ae]at h;rw[vQ,Zpk r (i+1) (by grind) h,vO];grind[sV,rF]
def Zzs (hx:uH K.sup) (hn:(v.aG.length:Int)=K.sup.used) (hr: ∀s∈v.aG,s.live=false->0<=s.block) (hg: ∀s∈v.aG,s.gen<=K.sup.g) (hf:v.free=[]):
  (bif v.aG.all (rF K.sup.g)then sB K v else none)=(wD v.aG K.sup).map λo=> { v with free:=o } :=by
 unfold sB wD;have hu:K.sup.used.toNat=v.aG.length:=by omega
 have fK:=ZqO (l:=v.aG) (g:=K.sup.g) hr (v.aG.length+1) K.sup.free [] hx.f0 ⟨.nil,λk hk=>nomatch hk⟩ (by simp);rw[hn]at fK;rw[fK];have pz:=Zq1 (K:=K) (v0:=v) hn.symm rfl hr (v.aG.length+1) (List.replicate v.aG.length false) K.sup.free v [] (by rw[<-hf]) hx.f0 (by simp) λj=>by
  rw[dW,Le];split<;>rfl
 rw[hu];cases hL:mQ v.aG K.sup.used K.sup.g (v.aG.length+1) K.sup.free []with
 |none=>
  rw[hL]at pz;simp only at pz;rw[pz];cases v.aG.all (rF K.sup.g)<;>rfl
 |some o=>
  rw[hL]at pz;obtain⟨fl,e,he⟩:=pz;rw[e];simp only[BG];cases ha:v.aG.all (rF K.sup.g)with
  |false=>
   cases hR:sc K.sup.g o 0 v.aG with
   |false=>rfl
   |true=>rw[Zpk _ 0 hg hR]at ha;cases ha
  |true=>
   rw[ZuI (out:=o) v.aG 0 fl (by grind) λj=>by rw[eW];exact he j];cases sc K.sup.g o 0 v.aG<;>rfl
def nH (K:bL):Int->List bw->List bw->Option (List bw)
 |_,[],l=>some l
 |k,x::r,l=>bif decide (k>=K.sup.used)then(bif nX x then nH K (k+1) r l else none)else(bif oP K.sup x then nH K (k+1) r (l++[x])else none)
def Zpi (K:bL) (k:Int) (x:bw) (r l:List bw):nH K k (x::r) l=bif decide (k>=K.sup.used)then(bif nX x then nH K (k+1) r l else none)else(bif oP K.sup x then nH K (k+1) r (l++[x])else none):=rfl
def V1 {K:bL} : ∀(x:List bw) (k:Int) (v:aS),nk K k x v=(nH K k x v.aG).map λs=> { v with aG:=s }
 |[],_,_=>rfl
 |x::r,k,v=>by
  unfold nk nH pS;cases decide (k>=K.sup.used)with
  |true=>
   rw[ae,ae];cases nX x with
   |false=>rfl
   |true=>exact V1 r _ v
  |false=>
   rw[af,af];cases oP K.sup x with
   |false=>rfl
   |true=>exact V1 r _ _
def FJ {K:bL} : ∀(a b:List bw) (k:Int) (l:List bw),nH K k (a++b) l=match nH K k a l with
  |none=>none
  |some l'=>nH K (k+a.length) b l'
 |[],b,k,l=>by simp[nH]
 |x::a,b,k,l=>by
  rw[nP,cO,show k+((a.length+1:Nat):Int)=k+1+a.length by omega,Zpi,Zpi];cases decide (k>=K.sup.used)with
  |true=>
   rw[ae,ae];cases nX x with
   |false=>rfl
   |true=>exact FJ a b _ _
  |false=>
   rw[af,af];cases oP K.sup x with
   |false=>rfl
   |true=>exact FJ a b _ _
def tG (u:Nat) (g:Int):Nat->List bw->List bw->Option (List bw)
 |_,[],l=>some l
 |i,s::r,l=>bif decide (u<=i)then(bif nX s then tG u g (i+1) r l else none)else(bif decide (s.gen<1)||decide (s.gen>g)then none else tG u g (i+1) r (l++[s]))
def T6 {u:Nat} {g:Int} : ∀(r:List bw) (i:Nat) (l l':List bw),tG u g i r l=some l'->∃t,l'=l++t
 |[],_,l,l',h=>⟨[],by cases h;rw[gz]⟩
 |s::r,i,l,l',h=>by
  unfold tG at h;cases h1:decide (u<=i)with
  |true=>
   cases h2:nX s with
   |false=>rw[h1,h2]at h;cases h
   |true=>rw[h1,h2]at h;exact T6 r _ _ _ h
  |false=>
   cases h2:decide (s.gen<1)||decide (s.gen>g)with
   |true=>rw[h1,h2]at h;cases h
   |false=>
    rw[h1,h2]at h;obtain⟨t,rfl⟩:=T6 r _ _ _ h;simp
def Vg {K:bL} {u:Nat} (hu:K.sup.used=(u:Int)): ∀(r:List bw) (i:Nat) (l:List bw),l.all (rF K.sup.g)=true->nH K (i:Int) r l=match tG u K.sup.g i r l with
  |none=>none
  |some l'=>bif l'.all (rF K.sup.g)then some l' else none
 |[],_,l,h=>by simp[nH,tG,h]
 |s::r,i,l,h=>by
  unfold nH tG;rw[hu,show decide ((i:Int)>=(u:Int))=decide (u<=i)from decide_eq_decide.2 (by omega),show(i:Int)+1=((i+1:Nat):Int) by omega];cases decide (u<=i)with
  |true=>
   rw[ae,ae];cases nX s with
   |false=>rfl
   |true=>exact Vg hu r _ l h
  |false=>
   rw[af,af];have ho:oP K.sup s=(!(decide (s.gen<1)||decide (s.gen>K.sup.g))&&rF K.sup.g s):=by
    grind[oP,rF]
   rw[ho];cases decide (s.gen<1)||decide (s.gen>K.sup.g)with
   |true=>rfl
   |false=>
    rw[bn,dF,af];cases ht:rF K.sup.g s with
    |true=>exact Vg hu r _ _ (by rw[tf,h,vQ,ht];rfl)
    |false=>
     cases hS:tG u K.sup.g (i+1) r (l++[s])with
     |none=>rfl
     |some l'=>
      obtain⟨t,rfl⟩:=T6 r _ _ _ hS;grind
def ko (im:aj) (c:Nat):Nat->ak->Option (ak×List bw)
 |_,[]=>some ([],[])
 |p,y::r=>bif (!(y==0))==decide (p<c)then(bif y==0 then ko im c (p+1) r else match kq im y with
   |none=>none
   |some l=>match ko im c (p+1) r with
    |none=>none
    |some (bs,ls)=>some (y::bs,l++ls))else none
def nv (im:aj) (c:Nat):Nat->ak->Option (ak×List bw)
 |_,[]=>some ([],[])
 |i,y::r=>bif (!(y==0))==decide (16*i<c)then(bif y==0 then nv im c (i+1) r else match gL im y with
   |none=>none
   |some g=>match ko im c (16*i) g with
    |none=>none
    |some (bs,ls)=>match nv im c (i+1) r with
     |none=>none
     |some (gP,AP)=>some (y::(bs++gP),ls++AP))else none
def Zss {im:aj} {c:Nat} : ∀(g:ak) (p:Nat) (q:ak×List bw),c<=p->ko im c p g=some q->q=([],[])
 |[],_,_,_,h=>by cases h;rfl
 |y::r,p,q,hp,h=>by
  unfold ko at h;rw[aF (show ¬p<c by omega)]at h;cases hy:y==0 with
  |false=>rw[hy]at h;cases h
  |true=>rw[hy]at h;exact Zss r _ _ (by omega) h
def M1 {im:aj} {c:Nat} : ∀(g:ak) (p:Nat) (bs:ak) (ls:List bw),ko im c p g=some (bs,ls)->ls.length=7*min g.length (c-p)
 |[],_,_,_,h=>by cases h;simp
 |y::r,p,bs,ls,h=>by
  unfold ko at h;cases hc:(!(y==0))==decide (p<c)with
  |false=>rw[hc]at h;cases h
  |true=>
  rw[hc,ae]at h;cases hy:y==0 with
  |true=>
   rw[hy]at h hc;have hd:decide (p<c)=false:=by grind
   have:=Ff hd;rw[M1 r (p+1) bs ls h,cO];omega
  |false=>
   rw[hy]at h hc;have hd:decide (p<c)=true:=by grind
   have:=mI hd;rw[af]at h;cases hL:kq im y with
   |none=>rw[hL]at h;cases h
   |some l=>
    cases hK:ko im c (p+1) r with
    |none=>rw[hL,hK]at h;cases h
    |some q=>
     rw[hL,hK]at h;cases h;have h1:=M1 r (p+1) _ _ hK;have h2:=Mw im y;rw[hL]at h2;have h2:l.length=7:=h2;rw[bB,h1,h2,cO];omega
def UN {im:aj} {c:Nat} : ∀(f:ak) (i:Nat) (q:ak×List bw),c<=16*i->nv im c i f=some q->q=([],[])
 |[],_,_,_,h=>by cases h;rfl
 |y::r,i,q,hp,h=>by
  unfold nv at h;rw[aF (show ¬16*i<c by omega)]at h;cases hy:y==0 with
  |false=>rw[hy]at h;cases h
  |true=>rw[hy]at h;exact UN r _ _ (by omega) h
def Zvz {l:List bw} (h:kq im y=some l):l.length=7:=by
 have:=Mw im y;rwa [h]at this
def Uo {l:ak} (h:gL im y=some l):l.length=16:=by
 have:=IE im y;rwa [h]at this
def yU (K:bL) (v:aS) (k:Int):Option (ak×List bw)->Option aS
 |none=>none
 |some (bs,ls)=>bif eR K.m v.W bs then(nH K k ls v.aG).map (λs=> { v with aG:=s,W:=bs.foldl (bK K.m) v.W })else none
def Zwn (h:fO K.m v.W y=false) (bs:ak) (ls:List bw):yU K v k (some (y::bs,ls))=none:=by
 grind[yU,eR]
def Vi {K:bL} (hm:64*K.m<=K.img.length) {c x5:Nat} : ∀(g:ak) (k:Nat) (v:aS),kD K (c:Int) (x5:Int) (k:Int) g v=yU K v ((7*(16*x5+k):Nat):Int) (ko (K.img.take (64*K.m)) c (16*x5+k) g)
 |[],_,_=>rfl
 |y::r,k,v=>by
  unfold kD ko;rw[show decide ((x5:Int)*16+(k:Int)<(c:Int))=decide (16*x5+k<c)from decide_eq_decide.2 (by omega),show(k:Int)+1=((k+1:Nat):Int) by omega];cases hc:(!(y==0))==decide (16*x5+k<c)with
  |false=>rfl
  |true=>
  rw[ae,ae];cases hy:y==0 with
  |true=>
   rw[hy]at hc;have kJ:c<=16*x5+k:=by
    grind
   show kD K (c:Int) (x5:Int) ((k+1:Nat):Int) r v=yU K v _ (ko (K.img.take (64*K.m)) c (16*x5+(k+1)) r);rw[Vi hm r (k+1) v];cases hK:ko (K.img.take (64*K.m)) c (16*x5+(k+1)) r with
   |none=>rfl
   |some q=>rw[Zss r _ q (by omega) hK];rfl
  |false=>
   have Yl:y≠0:=by simpa using hy
   rw[bn,ae,af];unfold mY dN kq;rw[bj Yl,FO hm];cases hf:fO K.m v.W y with
   |false=>
    rw[af];simp only;cases(bif fE K.m y then some (ZG K.img y.toNat)else none)with
    |none=>rfl
    |some ln=>
     simp only;cases ZM ln with
     |none=>rfl
     |some l=>
      simp only;cases ko (K.img.take (64*K.m)) c (16*x5+k+1) r with
      |none=>rfl
      |some q=>exact(Zwn hf _ _).symm
   |true=>
   rw[(FP hf).1,ae,ae];simp only;cases hL:ZM (ZG K.img y.toNat)with
   |none=>
    cases hb:ZY (ZG K.img y.toNat)with
    |leaf x=>rw[aaP.1 hb]at hL;cases hL
    |_=>rfl
   |some l=>
    rw[aaP.2 hL];simp only;rw[V1,show((x5:Int)*16+(k:Int))*7=((7*(16*x5+k):Nat):Int) by omega];have h7:l.length=7:=Ic hL;have ih:=λv'=>Vi hm (c:=c) (x5:=x5) r (k+1) v'
    rw[show 16*x5+k+1=16*x5+(k+1) by omega];cases hS:nH K ((7*(16*x5+k):Nat):Int) l v.aG with
    |none=>
     cases ko (K.img.take (64*K.m)) c (16*x5+(k+1)) r with
     |none=>rfl
     |some q=>
      simp only[yU,FJ,hS];cases eR K.m v.W (y::q.1)<;>rfl
    |some s=>
     simp only[nc];rw[ih];cases ko (K.img.take (64*K.m)) c (16*x5+(k+1)) r with
     |none=>rfl
     |some q=>
      simp only[yU,FJ,hS];rw[show eR K.m v.W (y::q.1)=(fO K.m v.W y&&eR K.m (bK K.m v.W y) q.1)from rfl,hf,dF,h7,show((7*(16*x5+k):Nat):Int)+((7:Nat):Int)=((7*(16*x5+(k+1)):Nat):Int) by omega];rfl
def VI {K:bL} (hm:64*K.m<=K.img.length) {c:Nat} : ∀(f:ak) (i:Nat) (v:aS),od K (c:Int) (i:Int) f v=yU K v ((112*i:Nat):Int) (nv (K.img.take (64*K.m)) c i f)
 |[],_,_=>rfl
 |y::r,i,v=>by
  unfold od nv;rw[show decide ((i:Int)*16<(c:Int))=decide (16*i<c)from decide_eq_decide.2 (by omega),show(i:Int)+1=((i+1:Nat):Int) by omega];cases hc:(!(y==0))==decide (16*i<c)with
  |false=>rfl
  |true=>
  rw[ae,ae];cases hy:y==0 with
  |true=>
   rw[hy]at hc;have kJ:c<=16*i:=by
    grind
   rw[ae,ae,VI hm r (i+1) v];cases hK:nv (K.img.take (64*K.m)) c (i+1) r with
   |none=>rfl
   |some q=>rw[UN r _ q (by omega) hK];rfl
  |false=>
   have Yl:y≠0:=by simpa using hy
   rw[af,af];unfold dN gL;rw[bj Yl,FO hm];cases hf:fO K.m v.W y with
   |false=>
    rw[af];simp only;cases(bif fE K.m y then some (ZG K.img y.toNat)else none)with
    |none=>rfl
    |some ln=>
     simp only;cases iM ln with
     |none=>rfl
     |some g=>
      simp only;cases ko (K.img.take (64*K.m)) c (16*i) g with
      |none=>rfl
      |some q=>
       simp only;cases nv (K.img.take (64*K.m)) c (i+1) r with
       |none=>rfl
       |some q'=>exact(Zwn hf _ _).symm
   |true=>
   rw[(FP hf).1,ae,ae];simp only;cases hL:iM (ZG K.img y.toNat)with
   |none=>
    cases hb:ZY (ZG K.img y.toNat)with
    |cc x=>rw[ND.1 hb]at hL;cases hL
    |_=>rfl
   |some g=>
    rw[ND.2 hL];simp only;have h2:=Vi hm (c:=c) (x5:=i) g 0 { v with W:=bK K.m v.W y };rw[gV,Int.ofNat_zero]at h2;rw[h2];have ih:=λv'=>VI hm (c:=c) r (i+1) v'
    cases hk:ko (K.img.take (64*K.m)) c (16*i) g with
    |none=>rfl
    |some q=>
     obtain⟨bs,ls⟩:=q;simp only[yU];have dS: ∀b',eR K.m v.W (y::(bs++b'))=(eR K.m (bK K.m v.W y) bs&&eR K.m (bs.foldl (bK K.m) (bK K.m v.W y)) b'):=λb'=>by
      rw[<-BI];show(fO K.m v.W y&&_)=_;rw[hf,dF]
     rw[show 7*(16*i)=112*i by omega];cases hF:eR K.m (bK K.m v.W y) bs with
     |false=>
      grind
     |true=>
      rw[ae];cases hS:nH K ((112*i:Nat):Int) ls v.aG with
      |none=>
       cases nv (K.img.take (64*K.m)) c (i+1) r with
       |none=>rfl
       |some q=>
        simp only[FJ,hS];cases eR K.m v.W (y::(bs++q.1))<;>rfl
      |some s=>
       simp only[nc];rw[ih];cases hW:nv (K.img.take (64*K.m)) c (i+1) r with
       |none=>rfl
       |some q=>
        obtain⟨gP,AP⟩:=q;simp only[yU,FJ,hS,dS,hF,dF,Bb,zn];rw[show nH K (((112*i:Nat):Int)+(ls.length:Int)) AP s=nH K ((112*(i+1):Nat):Int) AP s from ?_];by_cases aj9:16*i+16<=c
        .rw[M1 g (16*i) bs ls hk,T7 hL,show((112*i:Nat):Int)+((7*min 16 (c-16*i):Nat):Int)=((112*(i+1):Nat):Int) by omega]
        .cases UN r (i+1) _ (by omega) hW
         rfl
def Uu (im:aj):kq im 0=some nG:=by rfl
def MM (im:aj):gL im 0=some sA:=by rfl
def Dv (acc:ak):cD acc 0=acc:=rfl
def DE (acc:ak) (h:k≠0):cD acc k=acc++[k]:=by
 grind[cD]
def UD (im:aj) (acc:ak): ∀n,mN im acc (List.replicate n 0)=some acc
 |0=>rfl
 |n+1=>by
  rw[List.replicate_succ];unfold mN;rw[Uu,Dv];exact UD im acc n
def Zq7 (im:aj) (acc:ak): ∀n,oT im acc (List.replicate n 0)=some acc
 |0=>rfl
 |n+1=>by
  rw[List.replicate_succ];unfold oT;rw[MM,Dv];simp only;rw[show mN im acc sA=some acc from UD im acc 16];exact Zq7 im acc n
def agree {b:Bool} (h:((!(y==0))==b)=true):(y=0/\b=false)\/(y≠0/\b=true):=by
 grind
def Zxp {bs:ak} {ls:List bw} (h:ko im c p (y::r)=some (bs,ls)):
  (y=0/\c<=p/\ko im c (p+1) r=some (bs,ls))\/∃l gP AP,y≠0/\p<c/\kq im y=some l/\ko im c (p+1) r=some (gP,AP)/\bs=y::gP/\ls=l++AP:=by
 grind[ko]
def Vu {im:aj} {c:Nat} : ∀(g:ak) (p:Nat) (bs:ak) (ls:List bw),ko im c p g=some (bs,ls)->(∀acc,mN im acc g=some (acc++bs))/\bs.length=min g.length (c-p)/\∀j t,t<7->p+j<c->j<g.length->ls[7*j+t]? =(kq im (g.getD j 0)).bind (·[t]?)
 |[],_,_,_,h=>by
  cases h;simp[mN]
 |y::r,p,bs,ls,h=>by
  rcases Zxp h with⟨rfl,hc,hk⟩|⟨l,gP,AP,hy,hc,hL,hk,rfl,rfl⟩
  .obtain⟨h1,h2,h3⟩:=Vu r (p+1) bs ls hk
   refine⟨λacc=>?_,by rw[h2,cO];omega,λj t _ hj _=>by omega⟩;grind[mN,Uu,Dv]
  .obtain⟨h1,h2,h3⟩:=Vu r (p+1) gP AP hk
   have XC:=Zvz hL;refine⟨λacc=>?_,by rw[cO,h2,cO];omega,λj t ht hj tZ=>?_⟩
   .unfold mN
    rw[hL,DE acc hy];grind
   .cases j with
    |zero=>
     rw[Nat.mul_zero,eW,na (by omega)];grind
    |succ j=>
     rw[lE (by omega),XC,show 7*(j+1)+t-7=7*j+t by omega];grind
def yQ (c i n:Nat):Nat:=min (16*n) (c-16*i)+min n ((c+15)/16-i)
def Vs {im:aj} {c:Nat} : ∀(f:ak) (i:Nat) (bs:ak) (ls:List bw),nv im c i f=some (bs,ls)->(∀acc,oT im acc f=some (acc++bs))/\bs.length=yQ c i f.length/\ls.length=7*min (16*f.length) (c-16*i)/\∀q t,t<7->16*i+q<c->q<16*f.length->ls[7*q+t]? =(gL im (f.getD (q/16) 0)).bind λg=>(kq im (g.getD (q%16) 0)).bind (·[t]?)
 |[],_,_,_,h=>by
  cases h;simp[oT,yQ]
 |y::r,i,bs,ls,h=>by
  unfold nv at h;cases hc:(!(y==0))==decide (16*i<c)with
  |false=>rw[hc]at h;cases h
  |true=>
  rw[hc,ae]at h;rcases agree hc with⟨rfl,hd⟩|⟨hy,hd⟩
  .have hd:=Ff hd
   obtain⟨h1,h2,h3,h4⟩:=Vs r (i+1) bs ls h;refine⟨λacc=>?_,by rw[h2,cO];unfold yQ;omega,by rw[h3,cO];omega,λj t _ hj _=>by omega⟩;unfold oT;rw[MM,Dv];simp only;rw[show mN im acc sA=some acc from UD im acc 16];exact h1 acc
  .have hd:=mI hd
   rw[show(y==0)=false by simpa using hy,af]at h;cases hL:gL im y with
   |none=>rw[hL]at h;cases h
   |some g=>
   rw[hL]at h;simp only at h;cases hK:ko im c (16*i) g with
   |none=>rw[hK]at h;cases h
   |some q=>
   obtain⟨b1,l1⟩:=q;rw[hK]at h;simp only at h;cases hF:nv im c (i+1) r with
   |none=>rw[hF]at h;cases h
   |some q=>
   obtain⟨b2,l2⟩:=q;rw[hF]at h;cases h;obtain⟨h1,h2,h3,h4⟩:=Vs r (i+1) b2 l2 hF;obtain⟨k1,k2,k3⟩:=Vu g (16*i) b1 l1 hK;have k4:=M1 g (16*i) b1 l1 hK;have hg:=Uo hL;rw[hg]at k2 k3 k4;refine⟨λacc=>?_,by rw[cO,bB,h2,k2,cO];unfold yQ;omega,by rw[bB,h3,k4,cO];omega,λq t ht hq AH=>?_⟩
   .unfold oT
    rw[hL,DE acc hy];grind
   .rcases jH q 16 with sE|sE
    .rw[na (by omega),show q/16=0 by omega,show q%16=q by omega,k3 q t ht hq sE]
     grind
    .rw[lE (by omega),show 7*q+t-l1.length=7*(q-16)+t by omega,h4 (q-16) t ht (by omega) (by rw[cO]at AH;omega),show q/16=(q-16)/16+1 by omega,show q%16=(q-16)%16 by omega]
     rfl
def ZsJ {im:aj} {c:Nat} : ∀(g:ak) (p:Nat) (acc qS:ak),mN im acc g=some qS->(∀j,j<g.length->p+j<c->g.getD j 0≠0)->acc.length+min g.length (c-p)<=qS.length/\(qS.length=acc.length+min g.length (c-p)->∃q,ko im c p g=some q)
 |[],_,_,_,h,_=>by cases h;exact⟨by simp,λ_=>⟨_,rfl⟩⟩
 |y::r,p,acc,qS,h,hn=>by
  unfold mN at h;cases hL:kq im y with
  |none=>rw[hL]at h;cases h
  |some l=>
  rw[hL]at h;simp only at h;obtain⟨h1,h2⟩:=ZsJ (c:=c) r (p+1) (cD acc y) qS h λj hj hc=>by
   have:=hn (j+1) (by rw[cO];omega) (by omega);exact this
  rw[cO];unfold ko;by_cases hc:p<c
  .have hy:y≠0:=hn 0 (by simp) hc
   rw[DE acc hy,bB,iK]at h1 h2;grind
  .by_cases hy:y=0
   .subst hy
    rw[Dv]at h1 h2;grind
   .rw[DE acc hy,bB,iK]at h1 h2
    omega
def Zse {im:aj} {c:Nat} : ∀(f:ak) (i:Nat) (acc qS:ak),oT im acc f=some qS->(∀a,a<f.length->16*(i+a)<c->f.getD a 0≠0)->(∀a g j,a<f.length->gL im (f.getD a 0)=some g->j<16->16*(i+a)+j<c->g.getD j 0≠0)->acc.length+yQ c i f.length<=qS.length/\(qS.length=acc.length+yQ c i f.length->∃q,nv im c i f=some q)
 |[],_,_,_,h,_,_=>by cases h;exact⟨by simp[yQ],λ_=>⟨_,rfl⟩⟩
 |y::r,i,acc,qS,h,hn,hg=>by
  unfold oT at h;cases hL:gL im y with
  |none=>rw[hL]at h;cases h
  |some g=>
  rw[hL]at h;simp only at h;cases hK:mN im (cD acc y) g with
  |none=>rw[hK]at h;cases h
  |some a2=>
  rw[hK]at h;simp only at h;have jm:=Uo hL;obtain⟨h1,h2⟩:=Zse (c:=c) r (i+1) a2 qS h (λa ha hc=>hn (a+1) (by rw[cO];omega) (by omega)) λa g' j ha hf hj hc=>hg (a+1) g' j (by rw[cO];omega) hf hj (by omega)
  obtain⟨k1,k2⟩:=ZsJ (c:=c) g (16*i) (cD acc y) a2 hK λj hj hc=>hg 0 g j (by simp) hL (by omega) (by omega)
  rw[jm]at k1 k2;rw[cO];unfold nv;unfold yQ at h1 h2⊢;by_cases hc:16*i<c
  .have hy:y≠0:=hn 0 (by simp) (by omega)
   rw[DE acc hy,bB,iK]at k1 k2;refine⟨by omega,λhe=>?_⟩;obtain⟨q,hq⟩:=h2 (by omega);obtain⟨q',sL⟩:=k2 (by omega);rw[show(y==0)=false by simpa using hy,ax hc,hL,hq];grind
  .by_cases hy:y=0
   .subst hy
    rw[Dv]at k1 k2;refine⟨by omega,λhe=>?_⟩;obtain⟨q,hq⟩:=h2 (by omega);rw[aF hc,hq];exact⟨_,rfl⟩
   .rw[DE acc hy,bB,iK]at k1 k2
    exact⟨by omega,λhe=>by omega⟩
def Zpe {im:aj} {top:Int} {u:Nat} {g:Int} : ∀(ls:List bw) (i:Nat) (l:List bw),(∀j,j<ls.length->me im top (i+j)=ls[j]?)->lK im top u g ls.length i l=tG u g i ls l
 |[],_,_,_=>rfl
 |s::r,i,l,h=>by
  rw[cO];unfold lK tG;rw[show me im top i=some s from h 0 (by simp)];simp only;have ih:=λl=>Zpe (u:=u) (g:=g) r (i+1) l λj hj=>by
   have:=h (j+1) (by rw[cO];omega);rw[show i+1+j=i+(j+1) by omega,this];rfl
  rw[ih,ih]
def Zpf {im:aj} {top:Int} {u:Nat} {g:Int} : ∀(c i:Nat) (l l':List bw),lK im top u g c i l=some l'->∀j,i<=j->j<i+c->j<u->∃s,me im top j=some s/\1<=s.gen
 |0,_,_,_,_,_,_,_,_=>by omega
 |c+1,i,l,l',h,j,h1,h2,h3=>by
  unfold lK at h;cases hF:me im top i with
  |none=>rw[hF]at h;cases h
  |some s=>
  rw[hF]at h;simp only at h;rw[aF (show ¬u<=i by omega),af]at h;cases hb:decide (s.gen<1)||decide (s.gen>g)with
  |true=>rw[hb]at h;cases h
  |false=>
   rw[hb]at h;by_cases e:j=i
   .grind
   .exact Zpf c (i+1) _ _ h j (by omega) (by omega) h3
def ZwW {x:cy} {u:Nat} (hu:x.used=(u:Int)) (h0:0<u) (h1:u<=1792) (hf:x.cc≠0):qH im x=match gL im x.cc with
  |none=>none
  |some f=>match nv im ((u+6)/7) 0 f with
   |none=>none
   |some (bs,ls)=>match tG u x.g 0 ls []with
    |none=>none
    |some l=>some (l,x.cc::bs):=by
 unfold qH xS;have Ye:x.used.toNat=u:=by omega
 rw[Ye];cases hL:gL im x.cc with
 |none=>rfl
 |some f=>
 have ep:=Uo hL;simp only;rw[DE [] hf,jG];have ahz:1+yQ ((u+6)/7) 0 16=(u+6)/7+oW u:=by
  grind[yQ,oW]
 cases hW:nv im ((u+6)/7) 0 f with
 |some q=>
  obtain⟨bs,ls⟩:=q;obtain⟨a1,a2,a3,a4⟩:=Vs f 0 bs ls hW;rw[ep]at a2 a3 a4;rw[a1];simp only;rw[ax (show([x.cc]++bs).length=(u+6)/7+oW u by rw[bB,iK,a2];exact ahz),ae,show 7*((u+6)/7)=ls.length by omega,Zpe ls 0 [] λj hj=>?_]
  .rfl
  .have:=a4 (j/7) (j%7) (Nat.mod_lt _ (by decide)) (by omega) (by omega)
   rw[show 7*(j/7)+j%7=j by omega]at this;rw[this,eW];grind[me]
 |none=>
  cases hG:oT im [x.cc] f with
  |none=>rfl
  |some pg=>
  simp only;cases hd:decide (pg.length=(u+6)/7+oW u)with
  |false=>rfl
  |true=>
  rw[ae];cases hS:lK im x.cc u x.g (7*((u+6)/7)) 0 []with
  |none=>rfl
  |some l=>
   exfalso;have Xf: ∀a j,a<16->j<16->16*a+j<(u+6)/7->∃g,gL im (f.getD a 0)=some g/\g.getD j 0≠0:=λa j ha hj hc=>by
    obtain⟨s,hs,hg⟩:=Zpf _ _ _ _ hS (7*(16*a+j)) (cz _) (by omega) (by omega);unfold me at hs;rw[hL]at hs;simp only at hs;rw[show 7*(16*a+j)/112=a by omega,show 7*(16*a+j)/7%16=j by omega]at hs;cases hA:gL im (f.getD a 0)with
    |none=>rw[hA]at hs;cases hs
    |some g=>
     rw[hA]at hs;refine⟨g,rfl,λe=>?_⟩;simp only at hs;rw[e,Uu,show 7*(16*a+j)%7=0 by omega]at hs;cases hs;exact absurd hg (by decide)
   obtain⟨_,b2⟩:=Zse (c:=(u+6)/7) f 0 [x.cc] pg hG (λa ha hc e=>by
    obtain⟨g,hg,hn⟩:=Xf a 0 (by omega) (by decide) (by omega);rw[e,MM]at hg;cases hg;exact hn rfl) λa g j ha hg hj hc=>by
    grind
   grind
def Zyq (hx:uH K.sup) (hm:64*K.m<=K.img.length) (v:aS) (hs:v.aG=[]):nY K v=match qH (K.img.take (64*K.m)) K.sup with
  |none=>none
  |some (l,pg)=>bif eR K.m v.W pg&&l.all (rF K.sup.g)then some { v with aG:=l,W:=pg.foldl (bK K.m) v.W } else none:=by
 obtain⟨g1,g2,g3,g4,g5,g6⟩:=Z4 hx.g;have ug:=hx.u0;have vB:=hx.u1;obtain⟨u,hu⟩: ∃u:Nat,K.sup.used=(u:Int):=⟨K.sup.used.toNat,by omega⟩;by_cases h0:u=0
 .subst h0
  have hf:=hx.t0 hu;unfold nY qH xS;rw[hu,hf,MM];simp only;rw[Dv,show oT (K.img.take (64*K.m)) [] sA=some []from Zq7 _ [] 16];show some v=some { v with aG:=[],W:=v.W };rw[<-hs]
 .have hf:=hx.t1 (by omega)
  have mU:K.sup.cc≠0:=(λe=>by rw[e]at hf;cases hf);rw[ZwW hu (by omega) (by omega) mU];unfold nY dN gL;rw[bj mU,FO hm,show(K.sup.used==0)=false by rw[hu];simp;omega,af];cases dS:fO K.m v.W K.sup.cc with
  |false=>
   rw[af];simp only;cases(bif fE K.m K.sup.cc then some (ZG K.img K.sup.cc.toNat)else none)with
   |none=>rfl
   |some ln=>
    simp only;cases iM ln with
    |none=>rfl
    |some g=>
     simp only;cases nv (K.img.take (64*K.m)) ((u+6)/7) 0 g with
     |none=>rfl
     |some q=>
      simp only;cases tG u K.sup.g 0 q.2 []with
      |none=>rfl
      |some l=>
       show none=bif (fO K.m v.W K.sup.cc&&_)&&_ then _ else _;rw[dS];rfl
  |true=>
  rw[(FP dS).1,ae,ae];simp only;cases hL:iM (ZG K.img K.sup.cc.toNat)with
  |none=>
   cases hb:ZY (ZG K.img K.sup.cc.toNat)with
   |cc x=>rw[ND.1 hb]at hL;cases hL
   |_=>rfl
  |some f=>
   rw[ND.2 hL];simp only;rw[hu,Zuu (by omega)];have h1:=VI hm (c:=(u+6)/7) f 0 { v with W:=bK K.m v.W K.sup.cc };rw[Int.ofNat_zero]at h1;rw[h1];cases nv (K.img.take (64*K.m)) ((u+6)/7) 0 f with
   |none=>rfl
   |some q=>
    obtain⟨bs,ls⟩:=q;simp only[yU];have gp:=Vg hu ls 0 [] rfl;rw[hs];rw[Int.ofNat_zero]at gp;rw[gp];cases tG u K.sup.g 0 ls []with
    |none=>cases eR K.m (bK K.m v.W K.sup.cc) bs<;>rfl
    |some l=>
     simp only;rw[show eR K.m v.W (K.sup.cc::bs)=(fO K.m v.W K.sup.cc&&eR K.m (bK K.m v.W K.sup.cc) bs)from rfl,dS,dF];cases eR K.m (bK K.m v.W K.sup.cc) bs<;>cases l.all (rF K.sup.g)<;>rfl
def UE {im:aj} {top:Int} {u:Nat} {g:Int} : ∀(c i:Nat) (l l':List bw),lK im top u g c i l=some l'->(∀s∈l,s.gen<=g)->∀s∈l',s.gen<=g
 |0,_,_,_,h,hg=>by cases h;exact hg
 |c+1,i,l,l',h,hg=>by
  unfold lK at h;cases hF:me im top i with
  |none=>rw[hF]at h;cases h
  |some s=>
  rw[hF]at h;simp only at h;cases hu:decide (u<=i)with
  |true=>
   rw[hu,ae]at h;cases hs:nX s with
   |false=>rw[hs]at h;cases h
   |true=>rw[hs]at h;exact UE c _ _ _ h hg
  |false=>
   rw[hu,af]at h;cases hb:decide (s.gen<1)||decide (s.gen>g)with
   |true=>rw[hb]at h;cases h
   |false=>
    rw[hb]at h;rw[C2,zw,zw]at hb;refine UE c _ _ _ h λy hy=>?_
    grind
def ZvY {x:cy} {l:List bw} (h:qH im x=some (l,pg)): ∀s∈l,s.gen<=x.g:=by
 unfold qH at h;cases hP:xS im x.cc with
 |none=>rw[hP]at h;cases h
 |some pg'=>
  rw[hP]at h;simp only at h;cases hd:decide (pg'.length=(x.used.toNat+6)/7+oW x.used.toNat)with
  |false=>rw[hd]at h;cases h
  |true=>
   rw[hd,ae]at h;cases hS:lK im x.cc x.used.toNat x.g (7*((x.used.toNat+6)/7)) 0 []with
   |none=>rw[hS]at h;cases h
   |some l'=>
    rw[hS]at h;cases h;exact UE _ _ _ _ hS λs hs=>nomatch hs
def ZuY (h:16<=m:=by omega):dq (jd m [0,1])=[0,1]:=by
 refine Fy (xA _) (by unfold kB;simp) λk=>?_
 rw[oO];constructor
 .rintro⟨b,rfl,hb⟩
  exact((wg _ b).1 hb).1
 .intro hk
  have nB:k=0\/k=1:=by simpa using hk
  exact⟨k.toNat,by omega,(wg _ _).2 (by grind)⟩
def Zyk {x:cy} (km:K.m=x.blocks.toNat) (ki:K.img=img) (ks:K.sup=x) (hx:uH x) (hb:x.blocks<=((img.length/64:Nat):Int)):match sZ K with
  |none=>uS img x=none
  |some v=>uS img x=some (fh x v,dq v.W)/\∃all:ak,v.W=all.foldl (bK x.blocks.toNat) (jd x.blocks.toNat [0,1]):=by
 obtain⟨g1,g2,g3,g4,g5,g6⟩:=Z4 hx.g;obtain⟨m,hm⟩: ∃m:Nat,x.blocks=(m:Int):=by grind
 have jV:x.blocks.toNat=m:=by omega
 have hmi:64*m<=img.length:=by omega
 rw[jV]at km;have vt:64*K.m<=K.img.length:=by rw[km,ki];exact hmi
 obtain⟨W0,sF⟩: ∃W0,jd m [0,1]=W0:=⟨_,rfl⟩;have vu:W0.length=(m+63)/64:=by rw[<-sF];unfold jd;rw[(ZF m _ _).1,oF]
 have GP: ∀b,di W0 b=true->b<m:=λb D5=>by rw[<-sF]at D5;exact((wg _ b).1 D5).2
 have Jq:di W0 0=true:=by rw[<-sF];exact(wg _ 0).2 ⟨by simp,by omega⟩
 have JR:dq W0=[0,1]:=by rw[<-sF];exact ZuY
 have hp:=Zyq (by rw[ks];exact hx) vt (qm K.m) rfl;rw[km,ki,ks]at hp;rw[jV,sF];unfold uS sZ;rw[(BB x).2 hx,br,af,aF (show ¬x.blocks>((img.length/64:Nat):Int) by omega),af,jV,km,hp];cases hS:qH (img.take (64*m)) x with
 |none=>rfl
 |some q=>
 obtain⟨l,pg⟩:=q;obtain⟨s1,s2,s3,s4⟩:=Ut hx hS;have sg:=ZvY hS;simp only;obtain⟨v1,yE⟩: ∃v1:aS, { qm m with aG:=l,W:=pg.foldl (bK m) (qm m).W } =v1:=⟨_,rfl⟩;have e1:v1.aG=l:=by rw[<-yE]
 have e2:v1.W=pg.foldl (bK m) W0:=by rw[<-yE,<-sF];rfl
 have e3:v1.aM=[]/\v1.aK=[]/\v1.free=[]/\v1.nodes=0:=by rw[<-yE];exact⟨rfl,rfl,rfl,rfl⟩
 rw[yE,show(qm m).W=W0 from sF];have hf:=Zzs (K:=K) (v:=v1) (by rw[ks];exact hx) (by rw[ks,e1];exact s2) (λs hs hv=>by rw[e1]at hs;exact(ZkB (s1 s hs) hv).1) (by grind) e3.2.2.1;rw[ks,e1]at hf;cases hP:eR m W0 pg with
 |false=>
  rw[gf,af];simp only;cases wD l x with
  |none=>rfl
  |some fr=>
   simp only;cases vG (img.take (64*m)) x.dir with
   |none=>rfl
   |some q=>
    obtain⟨qs,bs⟩:=q;simp only;rw[IY];cases iE (img.take (64*m)) x.used l qs [] [] 0 with
    |none=>rfl
    |some q=>
     obtain⟨h,a,n⟩:=q;simp only[nc];have hr:=MZ (pg++bs++a) W0 vu GP Jq;rw[JR,fI,BI,hP,gf,af,<-hm,<-fI]at hr;grind
 |true=>
 rw[dF];cases hA:l.all (rF x.g)with
 |false=>
  rw[hA,af]at hf;grind
 |true=>
 rw[hA,ae]at hf;rw[ae];simp only;rw[hf];cases hF:wD l x with
 |none=>rfl
 |some fr=>
 simp only[nc];have hq:=ZwE vt { v1 with free:=fr } (by rw[km];exact(by rw[e2,(ZF m _ _).1];exact vu)) e3.1;rw[km,ki,ks,e1]at hq;rw[hq];cases Gp:vG (img.take (64*m)) x.dir with
 |none=>rfl
 |some q=>
 obtain⟨qs,bs⟩:=q;simp only;rw[IY qs [] (pg++bs)];cases iE (img.take (64*m)) x.used l qs [] [] 0 with
 |none=>rfl
 |some q=>
 obtain⟨h,a,n⟩:=q;simp only[nc,sw];rw[km,e2,e3.1,e3.2.2.2];have hr:=MZ (pg++bs++a) W0 vu GP Jq;rw[JR,fI,BI,hP,dF,<-hm,<-fI,fI pg,zn]at hr;rw[fI pg];cases dS:eR m (pg.foldl (bK m) W0) (bs++a)with
 |false=>
  rw[dS,af]at hr;rw[af];grind
 |true=>
  rw[dS,ae]at hr;rw[ae];simp only;have nC: ∀v:aS,v.aG=l->yM v=oz l:=λv e=>by unfold yM oz;rw[e]
  rw[nC _ rfl];rw[show((oz l:Int)+n==0)=decide ((oz l:Int)=0-n) by rw[lC];simp;omega];cases hR:pV x.blocks (pg++(bs++a)) [0,1]with
  |none=>rw[hR]at hr;cases hr
  |some r=>
   rw[hR]at hr;simp only at hr⊢;cases hd:decide (r.length=(pg++(bs++a)).length+2)with
   |false=>rw[show(([0,1]:ak).length)=2 from rfl,hd]at hr;cases hr
   |true=>
    rw[show(([0,1]:ak).length)=2 from rfl,hd,ae]at hr;cases hr;cases decide ((oz l:Int)=0-n)with
    |false=>rfl
    |true=>
     refine⟨?_,pg++(bs++a),by rw[zn (l:=pg)];rfl⟩;unfold ui fh;grind
def Zvp {x:ZH} (h:ZJ l=some x):x.name.length<=24:=by
 unfold ZJ at h;split at h
 .cases h
 .rename_i k t b _
  cases hk:decide (k=5)with
  |false=>rw[hk]at h;cases h
  |true=>
   cases hc:decide (t<=24)with
   |false=>rw[hk,hc]at h;cases h
   |true=>
    rw[hk,hc]at h;cases hn:ZE (b.drop (28+t))with
    |false=>rw[hn]at h;cases h
    |true=>
     cases hr:mO (Z9 b t)with
     |false=>rw[hn,hr]at h;cases h
     |true=>
      rw[hn,hr]at h;grind[Z9]
def ZtB {im:aj} : ∀(l:ak) (qs kS:List ZH),mE im qs l=some kS->(∀q∈qs,q.name.length<=24)->(∀q∈kS,q.name.length<=24)/\kS.length=qs.length+l.length
 |[],qs,kS,h,hq=>by cases h;exact⟨hq,rfl⟩
 |k::r,qs,kS,h,hq=>by
  unfold mE at h;cases hL:jt im k with
  |none=>rw[hL]at h;cases h
  |some c=>
   rw[hL]at h;simp only at h;cases hQ:ZJ c with
   |none=>rw[hQ]at h;cases h
   |some q=>
    rw[hQ]at h;simp only at h;cases hN:w9 qs q with
    |false=>rw[hN]at h;cases h
    |true=>
     rw[hN,ae]at h;obtain⟨h1,h2⟩:=ZtB r _ _ h λy hy=>by
      rcases gx.1 hy with hy|hy
      .exact hq y hy
      .rw[cB.1 hy];exact Zvp hQ
     grind
def ZwQ: ∀(es out:List bh),(es.foldl qd out).length=out.length+es.length
 |[],_=>rfl
 |e::es,out=>by rw[Bb,ZwQ es,UR,cO];omega
def ZuF {im:aj} {u:Int} {l:List bw} : ∀(qs:List ZH) (hs iQ:List dO) (all Ja:ak) (lv YB:Int),iE im u l qs hs all lv=some (iQ,Ja,YB)->(∀q∈qs,q.name.length<=24)->(∀g∈hs,g.name.length<=24)->(∀g∈iQ,g.name.length<=24)/\iQ.length=hs.length+qs.length/\((iQ.map (·.cj)).flatten).length+all.length=((hs.map (·.cj)).flatten).length+Ja.length
 |[],hs,iQ,all,Ja,lv,YB,h,_,hg=>by cases h;grind
 |q::r,hs,iQ,all,Ja,lv,YB,h,hq,hg=>by
  unfold iE at h;cases hF:uV im q.dz with
  |none=>rw[hF]at h;cases h
  |some p=>
   obtain⟨es,ns⟩:=p;rw[hF]at h;simp only at h;cases hb:ji u l es ns with
   |false=>rw[hb]at h;cases h
   |true=>
    rw[hb,ae]at h;obtain⟨h1,h2,h3⟩:=ZuF r _ _ _ _ _ _ h (by grind) λy hy=>by
     grind
    have h4:=Zpl hF;have h5:(Z8 es).length=es.length:=by simp[Z8,ZwQ]
    rw[fA,Hw,bB,bB,show([⟨q.name,Z8 es⟩]:List dO).map (·.cj)=[Z8 es]from rfl,List.flatten_singleton,h5]at h3;rw[bB,iK]at h2;grind
def Zsh {l:List bw} {u g:Int} : ∀(f:Nat) (k:Int) (out o:ak),mQ l u g f k out=some o->o.length<=out.length+f
 |0,_,_,_,h=>by cases h
 |f+1,k,out,o,h=>by
  unfold mQ at h;cases h0:k==0 with
  |true=>rw[h0]at h;cases h;omega
  |false=>
  rw[h0,af]at h;cases h1:decide (k>u)with
  |true=>rw[h1]at h;cases h
  |false=>
  rw[h1,af]at h;cases hg:l[(k-1).toNat]? with
  |none=>rw[hg]at h;cases h
  |some s=>
  rw[hg]at h;simp only at h;cases h2:s.live with
  |true=>rw[h2]at h;cases h
  |false=>
  cases h3:decide (s.gen>=g)with
  |true=>rw[h2,h3]at h;cases h
  |false=>
  cases h4:decide (k-1∈out)with
  |true=>rw[h2,h3,h4]at h;cases h
  |false=>
   rw[h2,h3,h4]at h;have:=Zsh f _ _ _ h;rw[bB,iK]at this;omega
def ZuR {g:dO} : ∀ {l:List dO},g∈l->g.cj.length<=((l.map (·.cj)).flatten).length
 |x::l,h=>by
  rw[oG,C6,bB];rcases eF.1 h with rfl|h
  .omega
  .have:=ZuR h;omega
def Zyw {x:cy} {y:fJ} (hx:uH x) (h:uS img x=some (y,r)):Dj y/\r.length<5000:=by
 obtain⟨g1,g2,g3,g4,g5,g6⟩:=Z4 hx.g;obtain⟨m,hm⟩: ∃m:Nat,x.blocks=(m:Int):=⟨x.blocks.toNat,by omega⟩;unfold uS at h;rw[(BB x).2 hx,br,af]at h;cases hb:decide (x.blocks>((img.length/64:Nat):Int))with
 |true=>rw[hb]at h;cases h
 |false=>
 rw[hb,af]at h;generalize img.take (64*x.blocks.toNat)=im at h;cases hS:qH im x with
 |none=>rw[hS]at h;cases h
 |some q=>
 obtain⟨l,pg⟩:=q;rw[hS]at h;simp only at h;obtain⟨s1,s2,s3,s4⟩:=Ut hx hS;cases hF:wD l x with
 |none=>rw[hF]at h;cases h
 |some fr=>
 rw[hF]at h;simp only at h;have ep:fr.length<=l.length+2:=by
  unfold wD at hF;cases hL:mQ l x.used x.g (l.length+2) x.free []with
  |none=>rw[hL]at hF;cases hF
  |some o=>
   rw[hL]at hF;simp only at hF;cases hA:sc x.g o 0 l with
   |false=>rw[hA]at hF;cases hF
   |true=>
    rw[hA]at hF;cases hF;have:=Zsh _ _ _ _ hL;simpa using this
 cases hR:vG im x.dir with
 |none=>rw[hR]at h;cases h
 |some q=>
 obtain⟨qs,bs⟩:=q;rw[hR]at h;simp only at h;have Ke:(∀q∈qs,q.name.length<=24)/\qs.length<=bs.length:=by
  unfold vG at hR;split at hR
  .grind
  .split at hR
   .cases hR
   .split at hR
    .cases hR
    .split at hR
     .cases hR
     .rename_i c _ l' _ qs' hq
      cases hR;obtain⟨a1,a2⟩:=ZtB _ _ _ hq λq hq=>nomatch hq
      grind
 cases hW:iE im x.used l qs [] (pg++bs) (oz l)with
 |none=>rw[hW]at h;cases h
 |some q=>
 obtain⟨hs,all,lv⟩:=q;rw[hW]at h;simp only at h;obtain⟨w1,w2,w3⟩:=ZuF _ _ _ _ _ _ _ hW Ke.1 λg hg=>nomatch hg
 cases hG:pV x.blocks all [0,1]with
 |none=>rw[hG]at h;cases h
 |some r'=>
 rw[hG]at h;simp only at h;cases eN:lv==0 with
 |false=>rw[eN]at h;cases h
 |true=>
 rw[eN,ae]at h;cases hd:decide (r'.length=all.length+2)with
 |false=>rw[hd]at h;cases h
 |true=>
 rw[hd,ae]at h;cases h;have vu:(jd m [0,1]).length=(m+63)/64:=by unfold jd;rw[(ZF m _ _).1,oF]
 have hr:=MZ all (jd m [0,1]) vu (λb hb=>((wg _ b).1 hb).2) ((wg _ 0).2 ⟨by simp,by omega⟩);rw[ZuY,<-hm,hG]at hr;simp only at hr;rw[show(([0,1]:ak).length)=2 from rfl,hd,ae]at hr;have aj7:all.length<=m:=by
  cases dS:eR m (jd m [0,1]) all with
  |false=>rw[dS]at hr;cases hr
  |true=>exact ZuD vu dS
 have ik:=mI hd;rw[bB]at w3;simp only[List.map_nil,List.flatten_nil,Be]at w2 w3;refine⟨⟨⟨by grind,λg hg=>?_,by grind⟩,by show((hs.map (·.cj)).flatten).length<=_;omega,by grind,by grind⟩,by omega⟩;have:g.cj.length<=((hs.map (·.cj)).flatten).length:=ZuR hg;omega
end Go.Gv.F
