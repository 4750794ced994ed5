/- The program's walk and the document's: what is taken, and blocks by kind. No program in sight. -/
import Derived.Test.YtegglibipjjblaaGreatDoorGvZMi
set_option linter.all false
namespace Go.Gv.F
open Go.Gv
def fk (m:Nat):al->ak->Bool
 |_,[]=>true
 |W,k::r=>fK m W k&&fk m (bA m W k) r
variable {k u y:Int} {es eu:List aP} {c d m n p:Nat} {v:aI} {e:aP} {im img l:aj} {ik ks pg r:ak} {W:al} {K:bu}
theorem ZsA {a:Int} (hl:W.length=(m+63)/64) (ha:fK m W a=true):fK m (bA m W a) k=(fK m W k&& !decide (k=a)):=by
 unfold fK at ha⊢;rw[oz hl];grind
theorem Jr {m:Nat} : ∀ {ks:ak} {W:al},W.length=(m+63)/64->(fk m W ks=true↔ks.Nodup/\∀k∈ks,fK m W k=true)
 |[],W,_=>by simp[fk]
 |a::r,W,hl=>by
  unfold fk;rw[aS,qQ,Jr (by rw[np];exact hl)];constructor
  .rintro⟨h1,h2,h3⟩
   have h4: ∀k∈r,fK m W k=true/\k≠a:=λk hk=>by
    have:=h3 k hk;rw[ZsA hl h1,aS,kN,tp]at this;exact this
   grind
  .rintro⟨⟨h1,h2⟩,h3⟩
   have h4:=h3 a pz;refine⟨h4,h2,λk hk=>?_⟩;rw[ZsA hl h4,h3 k (tj _ hk),dt,kN,tp];grind
theorem B5 {m:Nat} : ∀(a b:ak) (W:al),fk m W (a++b)=(fk m W a&&fk m (a.foldl (bA m) W) b)
 |[],_,_=>rfl
 |k::a,b,W=>by
  show(fK m W k&&fk m (bA m W k) (a++b))=((fK m W k&&fk m (bA m W k) a)&&_);rw[B5 a b,Bool.and_assoc];rfl
theorem Ztb {a b:ak} (hl:W.length=(m+63)/64) (h:a.Perm b):fk m W a=fk m W b:=by
 rw[nL,Jr hl,Jr hl,h.nodup_iff];grind
theorem ZxN (m:Nat) (W:al) (a b:Int):bA m (bA m W a) b=bA m (bA m W b) a:=by
 unfold bA;cases fe m a<;>cases fe m b<;>simp only[ae,af]
 refine th λi=>?_
 grind
theorem Zq9 {a b:ak} (h:a.Perm b): ∀(W:al),a.foldl (bA m) W=b.foldl (bA m) W:=by
 induction h with
 |nil=>exact λ_=>rfl
 |cons x _ ih=>exact λW=>ih _
 |swap x y l=>exact λW=>by simp only[zZ,ZxN m W y x]
 |trans _ _ i1 i2=>grind
theorem Zvo (hl:W.length=(m+63)/64) (h:fk m W ks=true):ks.length<=m:=by
 have⟨h1,h2⟩:=(Jr hl).1 h;have:=B4 (m:=ZC 0 m) h1 λk hk=>by
  grind[fK,fe,ZC]
 grind[ZC]
def zI (l:aj):Nat:=match eK l with
 |none=>0
 |some (k,_,_)=>k
theorem Oe {x:jz} (h:iy l=some x):zI l=1:=by
 grind[iy,zI]
theorem Of {x:List aX} (h:ZI l=some x):zI l=2:=by
 grind[ZI,zI]
theorem W8 {x:ak} (h:ZY l=some x):zI l=3:=by
 grind[ZY,zI]
theorem Zxu {x:ZL} (h:ZH l=some x):zI l=5:=by
 grind[ZH,zI]
theorem ZBe {x:ak} (h:kl l=some x):zI l=6:=by
 grind[kl,zI]
theorem acv {x:jz} :ZA l= .node x↔iy l=some x:=by
 grind[ZA]
theorem acu {x:List aX} :ZA l= .leaf x↔ZI l=some x:=by
 unfold ZA;cases h1:iy l
 .cases h2:ZI l<;>cases h3:ZY l<;>cases h4:ZH l<;>cases h5:kl l<;>simp
 .rename_i y;cases h2:ZI l
  .simp
  .rename_i z;have:=Oe h1;rw[Of h2]at this;cases this
theorem OB {x:ak} :ZA l= .bY x↔ZY l=some x:=by
 unfold ZA;cases h3:ZY l
 .cases h1:iy l<;>cases h2:ZI l<;>cases h4:ZH l<;>cases h5:kl l<;>simp
 .rename_i z;have hk:=W8 h3;cases h1:iy l
  .cases h2:ZI l
   .simp
   .rename_i y;rw[Of h2]at hk;cases hk
  .rename_i y;rw[Oe h1]at hk;cases hk
theorem acw {x:ZL} :ZA l= .queue x↔ZH l=some x:=by
 unfold ZA;cases h4:ZH l
 .cases h1:iy l<;>cases h2:ZI l<;>cases h3:ZY l<;>cases h5:kl l<;>simp
 .rename_i z;have hk:=Zxu h4;cases h1:iy l
  .cases h2:ZI l
   .cases h3:ZY l
    .simp
    .rename_i y;rw[W8 h3]at hk;cases hk
   .rename_i y;rw[Of h2]at hk;cases hk
  .rename_i y;rw[Oe h1]at hk;cases hk
theorem acs {x:ak} :ZA l= .dir x↔kl l=some x:=by
 unfold ZA;cases h5:kl l
 .cases h1:iy l<;>cases h2:ZI l<;>cases h3:ZY l<;>cases h4:ZH l<;>simp
 .rename_i z;have hk:=ZBe h5;cases h1:iy l
  .cases h2:ZI l
   .cases h3:ZY l
    .cases h4:ZH l
     .simp
     .rename_i y;rw[Zxu h4]at hk;cases hk
    .rename_i y;rw[W8 h3]at hk;cases hk
   .rename_i y;rw[Of h2]at hk;cases hk
  .rename_i y;rw[Oe h1]at hk;cases hk
theorem Gr (hm:64*m<=img.length) (k:Int):j8 (img.take (64*m)) k=bif fe m k then some (Zv img k.toNat)else none:=by
 have h1:(img.take (64*m)).length/64=m:=by rw[cB];omega
 unfold j8 fe;rw[h1];by_cases hk:0<=k/\k<(m:Int)
 .rw[aY AC,aQ hk.1,aQ hk.2,BA,ae,HL]
  grind[fX,BC]
 grind
theorem Gp (h:fK m W k=true):fe m k=true/\2<=k:=by
 grind[fK]
def mI:Option (List aP×aI)->Option (List aP×aI)->Prop
 |none,none=>True
 |some (a,v),some (b,w)=>a.Perm b/\v=w
 |_,_=>False
theorem mI.refl: ∀a,mI a a
 |none=>trivial
 |some _=>⟨.refl _,rfl⟩
theorem mI.of {a b:Option (List aP×aI)} (h:a=b):mI a b:=h▸mI.refl a
theorem mI.trans: ∀ {a b c:Option (List aP×aI)},mI a b->mI b c->mI a c
 |none,none,_,_,h=>h
 |some _,some _,some _,h,k=>⟨h.1.trans k.1,h.2.trans k.2⟩
theorem ZqX {K:bu} : ∀(f:Nat) {a b:List aP} (t:List l8) (v:aI),a.Perm b->mI (ZT K f a t v) (ZT K f b t v)
 |0,_,_,_,_,_=>trivial
 |_+1,_,_,[],_,h=>⟨h,rfl⟩
 |f+1,a,b,t::r,v,h=>by
  unfold ZT;split
  .rename_i x v' _
   cases qj K v' t x
   .trivial
   .exact ZqX f _ _ (h.append_right _)
  .trivial
def ju (K:bu) (v:aI) (bs:ak) (n:Nat):aI:= { v with W:=bs.foldl (bA K.m) v.W,nodes:=v.nodes+(n:Int) }
theorem Zvm (K:bu) (v:aI) (a b:ak) (i j:Nat):ju K (ju K v a i) b j=ju K v (a++b) (i+j):=by
 grind[ju]
theorem Zzo (K:bu) (v:aI) {a b:ak} (h:a.Perm b) (i:Nat):ju K v a i=ju K v b i:=by
 unfold ju;rw[Zq9 h]
theorem NI (u:Int) (l:List aX): ∀(es:List aP) (ns:ak) (eu:List aP) (Lv:ak),es.length=ns.length->jP u l (es++eu) (ns++Lv)=(jP u l es ns&&jP u l eu Lv)
 |[],[],_,_,_=>rfl
 |e::es,n::ns,eu,Lv,h=>by
  show(bif kz u l e n then jP u l (es++eu) (ns++Lv)else false)=((bif kz u l e n then jP u l es ns else false)&&_);rw[NI u l es ns eu Lv (by simpa using h)];cases kz u l e n<;>rfl
def okB (K:bu) (v:aI) (es:List aP) (bs:ak):Bool:=jP K.sup.used v.ay es bs&&fk K.m v.W bs
theorem ZA2 (hl:v.W.length=(K.m+63)/64) {bs:ak} (h:es.length=bs.length) (n:Nat):okB K v (es++eu) (bs++ik)=(okB K v eu ik&&okB K (ju K v ik n) es bs):=by
 unfold okB ju;rw[NI _ _ _ _ _ _ h,Ztb hl (List.perm_append_comm (l₁:=bs) (l₂:=ik)),B5];cases jP K.sup.used v.ay es bs<;>cases jP K.sup.used v.ay eu ik<;>simp
def LP (K:bu) (im:aj) (d:Nat) (k:Int) (par:aP) (top:Bool) (f:Nat) (out:List aP) (rest:List l8) (v:aI):Option (List aP×aI):=match mw im d k with
 |none=>none
 |some (es,bs)=>bif (bif top then true else eX par (es.headD xB))&&okB K v es bs then ZT K (f-es.length) (out++es) rest (ju K v bs es.length)else none
def Lm (K:bu) (im:aj) (j:Nat) (x:jz) (f:Nat) (out:List aP) (rest:List l8) (v:aI):Option (List aP×aI):=match ko im j x.kids x.br with
 |none=>none
 |some (es,bs)=>bif okB K v es bs then ZT K (f-es.length) (out++es) rest (ju K v bs es.length)else none
theorem ZzQ (hm:64*m<=img.length) (k:Int):vC (img.take (64*m)) k=bif fe m k then iy (Zv img k.toNat)else none:=by
 unfold vC;rw[Gr hm];cases fe m k<;>rfl
def TP (K:bu) (im:aj) (d:Nat):Prop:=∀(k:Int) (par:aP) (top:Bool) (f:Nat) (out:List aP) (rest:List l8) (v:aI),v.W.length=(K.m+63)/64->mI (ZT K f out (⟨k,d,par,top⟩::rest) v) (LP K im d k par top f out rest v)
def KP (K:bu) (im:aj) (j:Nat):Prop:=∀(x:jz) (f:Nat) (out:List aP) (rest:List l8) (v:aI),v.W.length=(K.m+63)/64->mI (ZT K f out (nH x j++rest) v) (Lm K im j x f out rest v)
theorem Wt (hl:v.W.length=(K.m+63)/64) (bs:ak) (n:Nat):(ju K v bs n).W.length=(K.m+63)/64:=(ZG K.m bs v.W).1.trans hl
theorem aew (hm:64*K.m<=K.img.length) (h:KP K (K.img.take (64*K.m)) d):TP K (K.img.take (64*K.m)) d:=by
 intro k par top f out rest v hl;cases f with
 |zero=>
  refine mI.of ?_;unfold LP;cases mw (K.img.take (64*K.m)) d k with
  |none=>rfl
  |some q=>
   have⟨es,bs⟩:=q;simp only[Nat.zero_sub];cases(bif top then true else eX par (es.headD xB))&&okB K v es bs<;>rfl
 |succ f=>
 have hL:ZT K (f+1) out (⟨k,d,par,top⟩::rest) v=match dC K k v with
  |some (.node x,v')=>bif qj K v' ⟨k,d,par,top⟩ x then ZT K f (out++[x.br]) (nH x x.kids.length++rest) { v' with nodes:=v'.nodes+1 } else none
  |_=>none:=rfl
 rw[hL];unfold LP mw dC;rw[ZzQ hm];cases hf:fK K.m v.W k with
 |false=>
  refine mI.of ?_;cases(bif fe K.m k then iy (Zv K.img k.toNat)else none)with
  |none=>rfl
  |some x=>
   simp only;cases decide (x.kids.length=d)
   .rfl
   .cases ko (K.img.take (64*K.m)) d x.kids x.br with
    |none=>rfl
    |some q=>
     simp only[ae,okB,fk,hf,gF,Bz,af]
 |true=>
 rw[(Gp hf).1,ae,ae];cases hN:iy (Zv K.img k.toNat)
 .cases hb:ZA (Zv K.img k.toNat)with
  |node x=>rw[acv.1 hb]at hN;cases hN
  |_=>trivial
 .rename_i x;rw[acv.2 hN];simp only;have pP:qj K { v with W:=bA K.m v.W k } ⟨k,d,par,top⟩ x=(decide (x.kids.length=d)&&((bif top then true else eX par x.br)&&kz K.sup.used v.ay x.br k)):=by
   grind[qj,kz,Ch]
  rw[pP];cases hd:decide (x.kids.length=d)
  .trivial
  .have lL:x.kids.length=d:=ng hd;rw[ae,lL,dt];have hk:=h x f (out++[x.br]) rest { v with W:=bA K.m v.W k,nodes:=v.nodes+1 } ((np K.m v.W k).trans hl);unfold Lm at hk;cases hT:ko (K.img.take (64*K.m)) d x.kids x.br
   .rw[hT]at hk;cases(bif top then true else eX par x.br)&&kz K.sup.used v.ay x.br k with
    |false=>trivial
    |true=>exact hk
   .rename_i q;have⟨es,bs⟩:=q;rw[hT]at hk;simp only at hk⊢;have ho:okB K v (x.br::es) (k::bs)=(kz K.sup.used v.ay x.br k&&okB K { v with W:=bA K.m v.W k,nodes:=v.nodes+1 } es bs):=by
     unfold okB;show((bif kz K.sup.used v.ay x.br k then jP K.sup.used v.ay es bs else false)&&(fK K.m v.W k&&fk K.m (bA K.m v.W k) bs))=_;rw[hf,dt];cases kz K.sup.used v.ay x.br k<;>rfl
    have hu:ju K { v with W:=bA K.m v.W k,nodes:=v.nodes+1 } bs es.length=ju K v (k::bs) (x.br::es).length:=by
     grind[ju]
    rw[hu,dL]at hk;rw[ho,cQ,show f+1-(es.length+1)=f-es.length by omega];show mI _ (bif (bif top then true else eX par x.br)&&(kz K.sup.used v.ay x.br k&&okB K { v with W:=bA K.m v.W k,nodes:=v.nodes+1 } es bs)then ZT K (f-es.length) (out++([x.br]++es)) rest (ju K v (k::bs) (x.br::es).length)else none);cases(bif top then true else eX par x.br)with
    |false=>trivial
    |true=>
     cases kz K.sup.used v.ay x.br k
     .trivial
     .exact hk
theorem Zyo {K:bu} (hm:64*K.m<=K.img.length): ∀j,KP K (K.img.take (64*K.m)) j
 |0=>λx f out rest v _=>mI.of (by
   unfold Lm ko;show ZT K f out rest v=ZT K (f-0) (out++[]) rest (ju K v [] 0);rw[fP];unfold ju;simp)
 |j+1=>λx f out rest v hl=>by
  have ih:=Zyo hm j;have ht:=aew hm ih (x.kids.getD j 0) x.br false f out (nH x j++rest) v hl;rw[IM,oo];refine ht.trans ?_;unfold Lm LP;rw[TR];cases hT:mw (K.img.take (64*K.m)) j (x.kids.getD j 0)
  .refine mI.of ?_;grind
  .rename_i q;have⟨fB,gv⟩:=q;simp only[af];have hk:=ih x (f-fB.length) (out++fB) rest (ju K v gv fB.length) (Wt hl _ _);unfold Lm at hk;cases hS:ko (K.img.take (64*K.m)) j x.kids x.br
   .rw[hS]at hk;cases eX x.br (fB.headD xB)&&okB K v fB gv
    .trivial
    .exact hk
   .rename_i q;have⟨es,bs⟩:=q;rw[hS]at hk;simp only at hk⊢;show mI _ (match (bif eX x.br (fB.headD xB)then some (es++fB,bs++gv)else none)with
     |none=>none
     |some (es,bs)=>bif okB K v es bs then ZT K (f-es.length) (out++es) rest (ju K v bs es.length)else none)
    cases eX x.br (fB.headD xB)
    .trivial
    .simp only[dt,ae];rw[ZA2 hl (IL _ _ _ _ _ hS).2.symm fB.length];cases okB K v fB gv
     .trivial
     .rw[ae,dt];refine hk.trans ?_;cases okB K (ju K v gv fB.length) es bs
      .trivial
      .rw[ae,ae,Zvm,Zzo K v (List.perm_append_comm (l₁:=gv) (l₂:=bs)),ba,tm fB.length,show f-fB.length-es.length=f-(es.length+fB.length) by omega,dL];exact ZqX _ _ _ (List.perm_append_comm.append_left out)
def Hh (K:bu) (v:aI) (acc:List aP):Option (List aP×ak)->Option (List aP×aI)
 |none=>none
 |some (es,bs)=>bif okB K v es bs then some (acc++es,ju K v bs es.length)else none
theorem ZAu (hm:64*K.m<=K.img.length) (d:Nat) (k:Int) (v:aI) (hl:v.W.length=(K.m+63)/64):mI (oY K k d v) (Hh K v [] (mw (K.img.take (64*K.m)) d k)):=by
 have h:=aew hm (Zyo hm d) k xB true (K.m+1) [] [] v hl;unfold oY;refine h.trans (mI.of ?_);unfold LP;cases hT:mw (K.img.take (64*K.m)) d k
 .rfl
 .rename_i q;have⟨es,bs⟩:=q;simp only[Hh,ae,dt];cases ho:okB K v es bs
  .rfl
  .unfold okB at ho;rw[aS]at ho;have h1:=Zvo hl ho.2;have h2:=(DW hT).2;rw[show K.m+1-es.length=(K.m-es.length)+1 by omega];rfl
theorem M2 {im:aj} : ∀(l:ak) (i:Nat) (es:List aP) (bs:ak),mP im i l es bs=(mP im i l [] []).map λq=>(es++q.1,bs++q.2)
 |[],_,_,_=>by simp[mP]
 |k::r,i,es,bs=>by
  unfold mP;cases k==0
  .rw[af,af];cases mw im i k with
   |none=>rfl
   |some q=>
    have⟨fB,gv⟩:=q;simp only[gR];rw[M2 r _ (es++fB),M2 r _ fB];cases mP im (i+1) r [] []with
    |none=>rfl
    |some q=>simp
  .exact M2 r _ es bs
theorem V4 {K:bu} (hm:64*K.m<=K.img.length): ∀(l:ak) (i:Nat) (acc:List aP) (v:aI),v.W.length=(K.m+63)/64->mI (Z2 K (i:Int) l acc v) (Hh K v acc (mP (K.img.take (64*K.m)) i l [] []))
 |[],i,acc,v,_=>by
  show mI (some (acc,v)) (some (acc++[],ju K v [] 0));refine⟨by rw[fP],?_⟩;unfold ju;simp
 |k::r,i,acc,v,hl=>by
  unfold Z2 mP;cases k==0
  .rw[bD,ae,af];have ht:=ZAu hm i k v hl;cases hT:mw (K.img.take (64*K.m)) i k
   .rw[hT]at ht;cases hM:oY K k i v
    .trivial
    .rename_i q;rw[hM]at ht;exact ht.elim
   .rename_i q;have⟨fB,gv⟩:=q;rw[hT]at ht;simp only[Hh,gR]at ht⊢;rw[M2 r];cases ho:okB K v fB gv
    .rw[ho]at ht;cases hM:oY K k i v
     .cases hF:mP (K.img.take (64*K.m)) (i+1) r [] []
      .trivial
      .rename_i q;have⟨es,bs⟩:=q;simp only[pC];rw[show okB K v (fB++es) (gv++bs)=(okB K v fB gv&&_)from by
        unfold okB;rw[NI _ _ _ _ _ _ (DW hT).2.symm,B5,show ∀a b c d:Bool,((a&&b)&&(c&&d))=((a&&c)&&(b&&d))from by decide],ho]
       trivial
     .rename_i q;rw[hM]at ht;exact ht.elim
    .rw[ho]at ht;cases hM:oY K k i v
     .rw[hM]at ht;exact ht.elim
     .rename_i q;have⟨out,w⟩:=q;rw[hM]at ht;obtain⟨hp,rfl⟩:=ht;have ih:=V4 hm r (i+1) (acc++out) (ju K v gv fB.length) (Wt hl _ _);rw[show((i+1:Nat):Int)=(i:Int)+1 by omega]at ih;refine ih.trans ?_;cases hF:mP (K.img.take (64*K.m)) (i+1) r [] []
      .trivial
      .rename_i q;have⟨es,bs⟩:=q;simp only[pC,Hh];rw[show okB K v (fB++es) (gv++bs)=(okB K v fB gv&&okB K (ju K v gv fB.length) es bs)from by
        unfold okB ju;simp only;rw[NI _ _ _ _ _ _ (DW hT).2.symm,B5,show ∀a b c d:Bool,((a&&b)&&(c&&d))=((a&&c)&&(b&&d))from by decide],ho,dt]
       cases okB K (ju K v gv fB.length) es bs
       .trivial
       .rw[ae,ae,Zvm,<-ba,dL];exact⟨(hp.append_right es).append_left acc,rfl⟩
  .have:=V4 hm r (i+1) acc v hl;rwa [show((i+1:Nat):Int)=(i:Int)+1 by omega]at this
theorem Zuy {a b c:aP} (h:eX a b=true) (k:eX b c=true):eX a c=true:=by
 rw[Jd]at h k⊢;exact Nl h k
theorem ZyY {a b:aP} (h:a.slot≠b.slot) (k:eX a b=false):eX b a=true:=by
 have:=VU (x:=e4 a) (y:=e4 b) h;rw[<-Jd,<-Jd,k,wX]at this;exact this
theorem ZsS (e:aP) (out:List aP): ∀k,(∀i,sU e out k<=i->i<k->eX e (out.getD i ⟨0,0,0,0⟩)=true)/\(0<sU e out k->eX e (out.getD (sU e out k-1) ⟨0,0,0,0⟩)=false)
 |0=>⟨AC,λh=>absurd h (Nat.lt_irrefl _)⟩
 |k+1=>by
  have⟨h1,h2⟩:=ZsS e out k;grind[sU]
theorem ZA6 {out:List aP} (h:out.Pairwise λa b=>eX a b=true) (hd: ∀x∈out,x.slot≠e.slot):(rH out e).Perm (e::out)/\(rH out e).Pairwise λa b=>eX a b=true:=by
 unfold rH;have⟨h1,h2⟩:=ZsS e out out.length;have hp:=ZvF e out out.length;generalize sU e out out.length=p at h1 h2 hp;have hc: ∀i,(hi:i<out.length)->out.getD i ⟨0,0,0,0⟩=out[i]:=Fd
 constructor
 .refine List.perm_middle.trans ?_
  rw[mD]
 .have hb: ∀a∈out.take p,eX a e=true:=λa ha=>by
   obtain⟨i,hi,rfl⟩:=BE ha;rw[cB]at hi;rw[List.getElem_take];have jT:p-1<out.length:=AC
   have h3:=h2 AC;rw[hc _ jT]at h3;have h4:=ZyY Fd h3;rcases jw i (p-1)with h5|h5
   .exact Zuy ((HZ.1 h) i (p-1) AC jT h5) h4
   grind
  refine Mg.2 ⟨Fd,FE.2 ⟨λa ha=>?_,Fd⟩,λa ha b dq=>?_⟩
  .obtain⟨i,hi,rfl⟩:=BE ha
   rw[dY]at hi;rw[List.getElem_drop,<-hc _ AC];grind
  .rcases ep.1 dq with rfl|dq
   .exact hb a ha
   .rw[<-mD p out]at h
    grind
theorem Zrd: ∀(l out:List aP),(out.Pairwise λa b=>eX a b=true)->(∀x∈out,∀y∈l,x.slot≠y.slot)->Diff l->(l.foldl rH out).Perm (out++l)/\(l.foldl rH out).Pairwise λa b=>eX a b=true
 |[],out,h,_,_=>(by simp_all)
 |e::l,out,h,hd,.cons h1 h2=>by
  have⟨a1,a2⟩:=ZA6 h (λx hx=>hd x hx e pz);have⟨b1,b2⟩:=Zrd l (rH out e) a2 (λx hx y hy=>by
   grind) h2
  exact⟨b1.trans ((a1.append_right l).trans List.perm_middle.symm),b2⟩
theorem ZAM (hp:eu.Perm es) (hd:Diff es):kK eu=kt es:=by
 have⟨h1,h2⟩:=Zrd es [] .nil (λx hx=>nomatch hx) hd;rw[gR]at h1;exact Zq4 (hp.trans h1.symm) h2 (by
  have:=h1.map (·.slot);exact this.nodup_iff.2 (FF.2 hd))
theorem Zst (u:Int) (l:List aX): ∀(es:List aP) (ns:ak),es.length=ns.length->jP u l es ns=true->∀x∈es,∃w∈ns,kz u l x w=true
 |[],_,_,_,_,hx=>nomatch hx
 |e::es,n::ns,h,hf,x,hx=>by
  have hf:(bif kz u l e n then jP u l es ns else false)=true:=hf;cases he:kz u l e n
  .rw[he]at hf;cases hf
  .rw[he,ae]at hf;rcases ep.1 hx with rfl|hx
   .grind
   .have⟨w,hw,gB⟩:=Zst u l es ns (by simpa using h) hf x hx
    grind
theorem ZAj {l:List aX} {x:aP} {a b:Int} (h:kz u l e a=true) (k:kz u l x b=true) (hs:e.slot=x.slot):a=b:=by
 unfold kz at h k;rw[<-hs]at k;cases hd:decide (e.slot>=u)
 .rw[hd,af]at h k;cases hg:l[e.slot.toNat]?
  .rw[hg]at h;cases h
  .rename_i s;rw[hg]at h k;grind
 .rw[hd]at h;cases h
theorem ZrE (u:Int) (l:List aX): ∀(es:List aP) (ns:ak),es.length=ns.length->jP u l es ns=true->ns.Nodup->Diff es
 |[],_,_,_,_=> .nil
 |e::es,n::ns,h,hf,hn=>by
  have hf:(bif kz u l e n then jP u l es ns else false)=true:=hf;cases he:kz u l e n
  .rw[he]at hf;cases hf
  .rw[he,ae]at hf;rw[qQ]at hn;have hl:es.length=ns.length:=by simpa using h
   refine .cons (λx hx hs=>?_) (ZrE u l es ns hl hf hn.2);have⟨w,hw,gB⟩:=Zst u l es ns hl hf x hx;exact hn.1 (ZAj he gB hs▸hw)
theorem UU {im:aj} : ∀(l:ak) (i:Nat) (es:List aP) (bs:ak) {eu:List aP} {ik:ak},mP im i l es bs=some (eu,ik)->es.length=bs.length->eu.length=ik.length
 |[],_,_,_,_,_,h,k=>by cases h;exact k
 |y::r,i,es,bs,eu,ik,h,k=>by
  unfold mP at h;cases hy:y==0
  .rw[hy,af]at h;cases hT:mw im i y
   .rw[hT]at h;cases h
   .rename_i q;have⟨fB,gv⟩:=q;rw[hT]at h;exact UU r _ _ _ h (by rw[ba,ba,k,(DW hT).2])
  .rw[hy,ae]at h;exact UU r _ _ _ h k
theorem ZoB {l:ak} {bs:ak} (h:wc im l=some (es,bs)):es.length=bs.length:=UU l 0 [] [] h rfl
theorem Jv {im:aj} {u:Int} {l:List aX} : ∀(qs:List ZL) (hs:List dw) (all:ak) (lv:Int),je im u l qs hs all lv=(je im u l qs [] [] 0).map λq=>(hs++q.1,all++q.2.1,lv+q.2.2)
 |[],_,_,_=>by simp[je]
 |q::r,hs,all,lv=>by
  unfold je;cases wc im q.cF with
  |none=>rfl
  |some p=>
   have⟨es,ns⟩:=p;simp only[gR];cases jP u l es ns
   .rfl
   .rw[ae,ae,Jv r (hs++_),Jv r [_]];cases je im u l r [] [] 0 with
    |none=>rfl
    |some p=>grind
theorem Zyz {im:aj} : ∀(l:ak) (qs lR:List ZL),nJ im qs l=some lR->∃new,lR=qs++new
 |[],qs,lR,h=>⟨[],by rw[fP];cases h;rfl⟩
 |k::r,qs,lR,h=>by
  unfold nJ at h;cases hL:j8 im k
  .rw[hL]at h;cases h
  .rename_i c;rw[hL]at h;simp only at h;cases hQ:ZH c
   .rw[hQ]at h;cases h
   .rename_i q;rw[hQ]at h;simp only at h;cases hN:xW qs q
    .rw[hN]at h;cases h
    .rw[hN,ae]at h;obtain⟨new,rfl⟩:=Zyz r _ _ h;simp
theorem ZAA {qs:List ZL} (h:v.aD.map (·.name)=qs.map (·.name)) (q:ZL):v8 v qs.length q.name=xW qs q:=by
 unfold v8 xW;rw[List.getLast?_eq_getElem?];by_cases h0:qs.length=0
 .rw[z8.1 h0];rfl
 .rw[aU h0]
  have hg: ∀i:Nat,(v.aD[i]?).map dw.name=(qs[i]?).map ZL.name:=λi=>by rw[<-nf,<-nf,h]
  have h1:=hg (qs.length-1);have h2:qs[qs.length-1]? =some qs[qs.length-1]:=cc AC;rw[h2]at h1⊢;grind
def tP (K:bu) (v:aI) (l:ak):Option (List dw×ak×Int)->Option aI
 |none=>none
 |some (h,a,n)=>bif fk K.m v.W (l++a)then some { v with aD:=v.aD++h,W:=(l++a).foldl (bA K.m) v.W,nodes:=v.nodes-n } else none
theorem ZvE {l:ak} (h: ∀a,fk K.m v.W (l++a)=false): ∀q,tP K v l q=none
 |none=>rfl
 |some (_,a,_)=>by grind[tP]
theorem ZxL {K:bu} (hm:64*K.m<=K.img.length): ∀(l:ak) (qs:List ZL) (v:aI),v.W.length=(K.m+63)/64->v.aD.map (·.name)=qs.map (·.name)->
  oD K qs.length l v=match nJ (K.img.take (64*K.m)) qs l with
   |none=>none
   |some lR=>tP K v l (je (K.img.take (64*K.m)) K.sup.used v.ay (lR.drop qs.length) [] [] 0)
 |[],qs,v,_,_=>by
  show some v=tP K v [] (je (K.img.take (64*K.m)) K.sup.used v.ay (qs.drop qs.length) [] [] 0);rw[List.drop_length];simp[je,tP,fk]
 |y::r,qs,v,hl,hn=>by
  unfold oD nJ dC;rw[Gr hm];cases hf:fK K.m v.W y with
  |false=>
   have cC: ∀q,tP K v (y::r) q=none:=ZvE λa=>by
    show(fK K.m v.W y&&_)=false;rw[hf,gF]
   grind
  |true=>
  rw[(Gp hf).1,ae,ae];simp only;cases hQ:ZH (Zv K.img y.toNat)with
  |none=>
   cases hb:ZA (Zv K.img y.toNat)with
   |queue x=>rw[acw.1 hb]at hQ;cases hQ
   |_=>rfl
  |some q=>
  rw[acw.2 hQ];simp only;rw[show v8 { v with W:=bA K.m v.W y } qs.length q.name=xW qs q from ZAA hn q];cases hN:xW qs q with
  |false=>rfl
  |true=>
  rw[ae,ae];have nz:({ v with W:=bA K.m v.W y } :aI).W.length=(K.m+63)/64:=(np K.m v.W y).trans hl;have hh:=V4 hm q.cF 0 [] { v with W:=bA K.m v.W y } nz;rw[Int.ofNat_zero,show mP (K.img.take (64*K.m)) 0 q.cF [] []=wc (K.img.take (64*K.m)) q.cF from rfl]at hh;have Bh: ∀new,je (K.img.take (64*K.m)) K.sup.used v.ay (q::new) [] [] 0=match wc (K.img.take (64*K.m)) q.cF with
    |none=>none
    |some (es,ns)=>bif jP K.sup.used v.ay es ns then je (K.img.take (64*K.m)) K.sup.used v.ay new [⟨q.name,kt es⟩] ns (0-es.length)else none:=λnew=>rfl
  have Yt: ∀lR,nJ (K.img.take (64*K.m)) (qs++[q]) r=some lR->∃new,lR.drop qs.length=q::new/\lR.drop (qs.length+1)=new:=λlR h1=>by
   obtain⟨new,rfl⟩:=Zyz _ _ _ h1;simp
  cases hF:wc (K.img.take (64*K.m)) q.cF with
  |none=>
   rw[hF]at hh;cases hM:Z2 K 0 q.cF [] { v with W:=bA K.m v.W y }
   .cases hS:nJ (K.img.take (64*K.m)) (qs++[q]) r
    .rfl
    .rename_i lR;have⟨new,e1,_⟩:=Yt _ hS;simp only;rw[e1,Bh,hF];rfl
   .rename_i p;rw[hM]at hh;exact hh.elim
  |some p=>
  have⟨es,ns⟩:=p;rw[hF]at hh;simp only[Hh,gR]at hh;have adZ: ∀new,je (K.img.take (64*K.m)) K.sup.used v.ay (q::new) [] [] 0=bif jP K.sup.used v.ay es ns then(je (K.img.take (64*K.m)) K.sup.used v.ay new [] [] 0).map (λq'=>([⟨q.name,kt es⟩]++q'.1,ns++q'.2.1,0-(es.length:Int)+q'.2.2))else none:=λnew=>by
   rw[Bh,hF];simp only;rw[Jv new]
  have ec: ∀a,fk K.m v.W (y::r++(ns++a))=(fk K.m (bA K.m v.W y) ns&&fk K.m (ns.foldl (bA K.m) (bA K.m v.W y)) (r++a)):=λa=>by
   show(fK K.m v.W y&&fk K.m (bA K.m v.W y) (r++(ns++a)))=_;rw[hf,dt,<-B5];refine Ztb nz ?_;rw[<-dL,<-dL];grind
  have hlen:=ZoB hF;cases ho:okB K { v with W:=bA K.m v.W y } es ns
  .rw[ho]at hh;cases hM:Z2 K 0 q.cF [] { v with W:=bA K.m v.W y }
   .cases hS:nJ (K.img.take (64*K.m)) (qs++[q]) r
    .rfl
    .rename_i lR;have⟨new,e1,_⟩:=Yt _ hS;simp only;rw[e1,adZ];unfold okB at ho;cases Hj:jP K.sup.used v.ay es ns
     .rfl
     .rw[show jP K.sup.used ({ v with W:=bA K.m v.W y } :aI).ay es ns=true from Hj,dt]at ho;rw[ae];cases je (K.img.take (64*K.m)) K.sup.used v.ay new [] [] 0 with
      |none=>rfl
      |some p=>
       rw[pC,tP,ec,ho];rfl
   .rename_i p;rw[hM]at hh;exact hh.elim
  .rw[ho]at hh;have oh:=ho;unfold okB at oh;rw[aS]at oh;have hd:Diff es:=ZrE _ _ es ns hlen oh.1 ((Jr nz).1 oh.2).1;cases hM:Z2 K 0 q.cF [] { v with W:=bA K.m v.W y }
   .rw[hM]at hh;exact hh.elim
   .rename_i p;have⟨out,w⟩:=p;rw[hM]at hh;obtain⟨hp,rfl⟩:=hh;simp only;rw[ZAM hp hd];have ih:=ZxL hm r (qs++[q]) { (ju K { v with W:=bA K.m v.W y } ns es.length)with aD:=v.aD++[⟨q.name,kt es⟩] } (Wt nz ns es.length) (by rw[eV,eV,hn];rfl);rw[show(qs++[q]).length=qs.length+1 by simp]at ih;refine ih.trans ?_;cases hS:nJ (K.img.take (64*K.m)) (qs++[q]) r
    .rfl
    .rename_i lR;have⟨new,e1,e2⟩:=Yt _ hS;simp only;rw[e1,e2,adZ,show jP K.sup.used v.ay es ns=true from oh.1,ae];show tP K _ r (je (K.img.take (64*K.m)) K.sup.used v.ay new [] [] 0)=_;cases je (K.img.take (64*K.m)) K.sup.used v.ay new [] [] 0 with
     |none=>rfl
     |some p=>
      have⟨h,a,n⟩:=p;simp only[pC,tP];rw[ec,show fk K.m (bA K.m v.W y) ns=true from oh.2,dt];unfold ju;simp only;cases fk K.m (ns.foldl (bA K.m) (bA K.m v.W y)) (r++a)
      .rfl
      .rw[ae,ae,dL];congr 2
       .show(r++a).foldl (bA K.m) (ns.foldl (bA K.m) (bA K.m v.W y))=(r++(ns++a)).foldl (bA K.m) (bA K.m v.W y)
        rw[<-wZ];refine Zq9 ?_ _;rw[<-dL,<-dL];grind
       .omega
theorem Zxr (hm:64*K.m<=K.img.length) (v:aI) (hl:v.W.length=(K.m+63)/64) (hh:v.aD=[]):
  nS K v=match wO (K.img.take (64*K.m)) K.sup.dir with
   |none=>none
   |some (qs,bs)=>tP K v bs (je (K.img.take (64*K.m)) K.sup.used v.ay qs [] [] 0):=by
 unfold nS wO;by_cases h0:K.sup.dir=0
 .rw[bx h0,h0]
  simp[je,tP,fk]
 .rw[aY h0,show(K.sup.dir==0)=false by simpa using h0,af,Gr hm]
  unfold dC;cases hf:fK K.m v.W K.sup.dir with
  |false=>
   have cC: ∀r q,tP K v (K.sup.dir::r) q=none:=λr=>ZvE λa=>by
    show(fK K.m v.W K.sup.dir&&_)=false;rw[hf,gF]
   grind
  |true=>
  rw[(Gp hf).1,ae,ae];simp only;cases hD:kl (Zv K.img K.sup.dir.toNat)
  .cases hb:ZA (Zv K.img K.sup.dir.toNat)with
   |dir x=>rw[acs.1 hb]at hD;cases hD
   |_=>rfl
  .rename_i l;rw[acs.2 hD];simp only;have:=ZxL hm l [] { v with W:=bA K.m v.W K.sup.dir } ((np K.m v.W K.sup.dir).trans hl) (by rw[hh];rfl);rw[Aa]at this;rw[this];cases nJ (K.img.take (64*K.m)) [] l with
   |none=>rfl
   |some qs=>
    simp only[dF];cases je (K.img.take (64*K.m)) K.sup.used v.ay qs [] [] 0 with
    |none=>rfl
    |some p=>
     have⟨h,a,n⟩:=p;simp only[tP];rw[show fk K.m v.W (K.sup.dir::l++a)=(fK K.m v.W K.sup.dir&&fk K.m (bA K.m v.W K.sup.dir) (l++a))from rfl,hf,dt];rfl
theorem Zve {m:Int} {l:ak} {a:Int} (h:lZ l):(zG m l a).length<=l.length+1:=by
 have⟨h1,h2⟩:=N6 (m:=m) (a:=a) h;refine ij (B4 (m:=a::l) h1.nodup λb hb=>?_) Do;grind
theorem ZqZ {m:Int} : ∀(all r q:ak),lZ r->rf m all r=some q->q.length<=all.length+r.length
 |[],r,q,_,h=>by cases h;simp
 |k::a,r,q,hr,h=>by
  unfold rf at h;cases h1:decide (k<2)
  .cases h2:decide (k∈r)
   .rw[h1,h2]at h;have h3:=ZqZ a _ q (N6 hr).1 h;have h4:=Zve (m:=m) (a:=k) hr;rw[cQ];omega
   .rw[h1,h2]at h;cases h
  .rw[h1]at h;cases h
theorem Zy8 (hl:W.length=(m+63)/64) (h:fK m W k=true):zG m (dz W) k=dz (bA m W k)/\(dz (bA m W k)).length=(dz W).length+1:=by
 have⟨h1,h2⟩:=N6 (m:=(m:Int)) (a:=k) (yo W);have h3:=h;unfold fK fe at h3;simp only[aS,bq,kN]at h3;have⟨jR,⟨mV,wF⟩,rz⟩:=h3;have hn:k∉dz W:=λhm=>by
  obtain⟨b,rfl,hb⟩:=Z7.1 hm;rw[bn,hb]at rz;cases rz
 have e:zG m (dz W) k=dz (bA m W k):=F9 h1 (yo _) λb=>by
  rw[h2,Z7,Z7];have fA: ∀c:Nat,cD (bA m W k) c=true↔cD W c=true\/c=k.toNat:=λc=>by
   rw[oz hl,mB,aS,bq];grind[fe]
  grind
 refine⟨e,Nat.le_antisymm ?_ ?_⟩
 .rw[<-e];exact Zve (yo W)
 .have:=B4 (l:=k::dz W) (m:=dz (bA m W k)) (qQ.2 ⟨hn,(yo W).nodup⟩) λb hb=>by
   rw[<-e,h2];grind
  rwa [cQ]at this
theorem NX {m:Nat} : ∀(all:ak) (W:al),W.length=(m+63)/64->(∀b,cD W b=true->b<m)->cD W 0=true->
  (match rf m all (dz W)with
   |none=>none
   |some q=>bif decide (q.length=all.length+(dz W).length)then some q else none)=bif fk m W all then some (dz (all.foldl (bA m) W))else none
 |[],W,_,_,_=>by simp[rf,fk]
 |k::a,W,hl,hm,h0=>by
  unfold rf fk;cases hf:fK m W k
  .rw[gF,af];by_cases h2:k<2
   .rw[aQ h2];rfl
   rw[aU h2];by_cases hn:k∈dz W
   .rw[aQ hn];rfl
   rw[aU hn];have wF: ¬(0<=k/\k<(m:Int)/\k∉dz W):=λ⟨a1,a2,a3⟩=>by
    unfold fK fe at hf;rw[aQ (AC:k>=2),aQ a1,aQ a2]at hf;have:cD W k.toNat=true:=by simpa using hf
    exact a3 (Z7.2 ⟨k.toNat,AC,this⟩)
   rw[show zG m (dz W) k=dz W from aY wF];cases hR:rf m a (dz W)
   .rfl
   .rename_i q;have:=ZqZ a _ q (yo W) hR;grind
  .have⟨e1,e2⟩:=Zy8 hl hf;have h3:=hf;unfold fK fe at h3;simp only[aS,bq,kN]at h3;have⟨jR,⟨mV,wF⟩,rz⟩:=h3;have hn:k∉dz W:=λhm=>by
    obtain⟨b,rfl,hb⟩:=Z7.1 hm;rw[bn,hb]at rz;cases rz
   rw[bP (AC:¬k<2),aU hn,af,e1,dt];have ih:=NX a (bA m W k) ((np m W k).trans hl) (λb hb=>by
    rw[oz hl,mB,aS,bq]at hb;grind) (by rw[oz hl,h0,Bool.true_or])
   rw[e2]at ih;rw[cQ,show a.length+1+(dz W).length=a.length+((dz W).length+1) by omega];exact ih
def sY (g:Int) (s:aX):Bool:=bif (bif s.live then true else decide (s.gen<g))then true else s.block==0
structure QN (n:Nat) (out:List Int):Prop where
 nd:out.Nodup
 lt: ∀k∈out,0<=k/\k<(n:Int)
theorem QN.En {out:ak} (h:QN n out):out.length<=n:=by
 have:=B4 (m:=ZC 0 n) h.nd λk hk=>by
  have:=h.lt k hk;unfold ZC;exact jK.2 ⟨k.toNat,uG.2 AC,AC⟩
 grind[ZC]
theorem Zq2 {l:List aX} {g:Int} (hr: ∀s∈l,s.live=false->0<=s.block): ∀(f:Nat) (k:Int) (out:ak),0<=k->QN l.length out->l.length+1<=f+out.length->nT l l.length g (f+1) k out=nT l l.length g f k out
 |0,k,out,_,ho,h=>by have:=ho.En;omega
 |f+1,k,out,hk,ho,h=>by
  conv=>lhs;unfold nT
  conv=>rhs;unfold nT
  cases h0:k==0 with
  |true=>rfl
  |false=>
  rw[af,af];have h0:k≠0:=by simpa using h0
  cases h1:decide (k>(l.length:Int))with
  |true=>rfl
  |false=>
  rw[af,af];have h1: ¬k>(l.length:Int):=DD h1;cases hg:l[(k-1).toNat]? with
  |none=>rfl
  |some s=>
  simp only;cases hv:s.live with
  |true=>rfl
  |false=>
  rw[af,af];cases decide (s.gen>=g)with
  |true=>rfl
  |false=>
  rw[af,af];cases hi:decide (k-1∈out)
  .rw[af,af];exact Zq2 hr f _ _ (hr s (qc hg) hv) ⟨jU.2 ⟨ho.nd,Do,λa ha b hb e=>(by simp_all)⟩,λa ha=>by
    rcases ga.1 ha with h2|h2
    .exact ho.lt a h2
    .rw[cH.1 h2];omega⟩ (by rw[ba,iS];omega)
  .rfl
theorem Zrp {K:bu} {v0:aI} {n:Nat} (hu:K.sup.used=(n:Int)) (hn:v0.ay.length=n) (hr: ∀s∈v0.ay,s.live=false->0<=s.block): ∀(f:Nat) (fl:List Bool) (k:Int) (v:aI) (out:ak),v= { v0 with free:=out } ->0<=k->fl.length=n->(∀j:Nat,fl.getD j false=decide ((j:Int)∈out))->
  match nT v0.ay K.sup.used K.sup.g f k out with
  |none=>jZ K f fl k v=none
  |some o=>∃mh,jZ K f fl k v=some (mh, { v0 with free:=o })/\∀j:Nat,mh.getD j false=decide ((j:Int)∈o)
 |0,_,_,_,_,_,_,_,_=>rfl
 |f+1,fl,k,v,out,hv,hk,hl,dZ=>by
  unfold nT jZ;cases h0:k==0 with
  |true=>simp_all
  |false=>
  rw[af,af];have h0:k≠0:=by simpa using h0
  by_cases h1:k>K.sup.used
  .rw[aQ h1,bP (AC:¬k<=K.sup.used)];rfl
  rw[bP h1,aQ (AC:k<=K.sup.used),af,ae,hv];show match (match v0.ay[(k-1).toNat]? with|none=>none|some s=>_)with
   |none=>(match v0.ay[(k-1).toNat]? with|none=>none|some x=>_)=none
   |some o=>∃mh,(match v0.ay[(k-1).toNat]? with|none=>none|some x=>_)=some (mh, { v0 with free:=o })/\_
  cases hg:v0.ay[(k-1).toNat]? with
  |none=>rfl
  |some s=>
  simp only;rw[dZ,show(((k-1).toNat:Nat):Int)=k-1 by omega,show decide (s.gen>=K.sup.g)= !decide (s.gen<K.sup.g) by rw[nL];simp];cases kC:s.live with
  |true=>rfl
  |false=>
  cases decide (s.gen<K.sup.g)with
  |false=>rfl
  |true=>
  cases hi:decide (k-1∈out)
  .refine Zrp hu hn hr f (fl.set (k-1).toNat true) s.block { v0 with free:=out++[k-1] } (out++[k-1]) rfl (hr s (qc hg) kC) (by rw[lz];exact hl) λj=>?_
   have fM:(k-1).toNat<fl.length:=AC
   rw[cz,List.getElem?_set,show decide ((j:Int)∈out++[k-1])=(decide ((j:Int)∈out)||decide ((j:Int)=k-1)) by rw[nL];simp];by_cases hj:(k-1).toNat=j
   .rw[bx hj,bx fM,aQ (AC:(j:Int)=k-1),Bool.or_true];rfl
   .rw[aY hj,bP (AC:¬(j:Int)=k-1),Bool.or_false,<-dZ,cz]
  .rfl
theorem Zvb {K:bu} {out:ak} : ∀(l:List aX) (i:Nat) (fl:List Bool),(∀s∈l,s.gen<=K.sup.g/\sY K.sup.g s=true)->(∀j,fl.getD j false=decide (((i+j:Nat):Int)∈out))->nj K fl l=tD K.sup.g out i l
 |[],_,_,_,_=>rfl
 |s::r,i,fl,hs,hf=>by
  have⟨h1,h2⟩:=hs s pz;have ih:=Zvb r (i+1) (fl.drop 1) (λx hx=>hs x (tj _ hx)) λj=>by
   rw[show i+1+j=i+(j+1) by omega,<-hf,cz,cz,w4,tm 1 j]
  unfold nj tD;rw[ih,show vV K (fl.getD 0 false) s=ur K.sup.g out i s from ?_]
  .cases ur K.sup.g out i s<;>rfl
  .grind[vV,ur,sY]
theorem ZpB {g:Int} {out:ak} : ∀(l:List aX) (i:Nat),(∀s∈l,s.gen<=g)->tD g out i l=true->l.all (sY g)=true
 |[],_,_,_=>rfl
 |s::r,i,hg,h=>by
  unfold tD at h;cases hb:ur g out i s
  .rw[hb]at h;cases h
  .rw[hb,ae]at h;rw[wY,ZpB r (i+1) Fd h,BA];grind[ur,sY]
theorem ZAe (hx:ox K.sup) (hn:(v.ay.length:Int)=K.sup.used) (hr: ∀s∈v.ay,s.live=false->0<=s.block) (hg: ∀s∈v.ay,s.gen<=K.sup.g) (hf:v.free=[]):
  (bif v.ay.all (sY K.sup.g)then oa K v else none)=(xC v.ay K.sup).map λo=> { v with free:=o } :=by
 unfold oa xC;have hu:K.sup.used.toNat=v.ay.length:=AC
 have gA:=Zq2 (l:=v.ay) (g:=K.sup.g) hr (v.ay.length+1) K.sup.free [] hx.f0 ⟨.nil,λk hk=>nomatch hk⟩ Do;rw[hn]at gA;rw[gA];have qG:=Zrp (K:=K) (v0:=v) hn.symm rfl hr (v.ay.length+1) (List.replicate v.ay.length false) K.sup.free v [] (by rw[<-hf]) hx.f0 Do λj=>by
  rw[cz,Fy];split<;>rfl
 rw[hu];cases hL:nT v.ay K.sup.used K.sup.g (v.ay.length+1) K.sup.free []
 .rw[hL]at qG;simp only at qG;rw[qG];cases v.ay.all (sY K.sup.g)<;>rfl
 .rename_i o;rw[hL]at qG;have⟨fl,e,he⟩:=qG;rw[e];simp only[xm];cases ha:v.ay.all (sY K.sup.g)
  .cases hR:tD K.sup.g o 0 v.ay
   .rfl
   .rw[ZpB _ 0 hg hR]at ha;cases ha
  .rw[Zvb (out:=o) v.ay 0 fl Fd λj=>by rw[fq];exact he j];cases tD K.sup.g o 0 v.ay<;>rfl
def oR (K:bu):Int->List aX->List aX->Option (List aX)
 |_,[],l=>some l
 |k,x::r,l=>bif decide (k>=K.sup.used)then(bif oA x then oR K (k+1) r l else none)else(bif nk K.sup x then oR K (k+1) r (l++[x])else none)
theorem Zo5 (K:bu) (k:Int) (x:aX) (r l:List aX):oR K k (x::r) l=bif decide (k>=K.sup.used)then(bif oA x then oR K (k+1) r l else none)else(bif nk K.sup x then oR K (k+1) r (l++[x])else none):=rfl
theorem Xa {K:bu} : ∀(x:List aX) (k:Int) (v:aI),jY K k x v=(oR K k x v.ay).map λs=> { v with ay:=s }
 |[],_,_=>rfl
 |x::r,k,v=>by
  unfold jY oR mO;cases decide (k>=K.sup.used)
  .rw[af,af];cases nk K.sup x
   .rfl
   .exact Xa r _ _
  .rw[ae,ae];cases oA x
   .rfl
   .exact Xa r _ v
theorem Gg {K:bu} : ∀(a b:List aX) (k:Int) (l:List aX),oR K k (a++b) l=match oR K k a l with
  |none=>none
  |some l'=>oR K (k+a.length) b l'
 |[],b,k,l=>by simp[oR]
 |x::a,b,k,l=>by
  rw[oo,cQ,show k+((a.length+1:Nat):Int)=k+1+a.length by omega,Zo5,Zo5];cases decide (k>=K.sup.used)
  .rw[af,af];cases nk K.sup x
   .rfl
   .exact Gg a b _ _
  .rw[ae,ae];cases oA x
   .rfl
   .exact Gg a b _ _
def uX (u:Nat) (g:Int):Nat->List aX->List aX->Option (List aX)
 |_,[],l=>some l
 |i,s::r,l=>bif decide (u<=i)then(bif oA s then uX u g (i+1) r l else none)else(bif decide (s.gen<1)||decide (s.gen>g)then none else uX u g (i+1) r (l++[s]))
theorem Uw {u:Nat} {g:Int} : ∀(r:List aX) (i:Nat) (l l':List aX),uX u g i r l=some l'->∃t,l'=l++t
 |[],_,l,l',h=>⟨[],by cases h;rw[fP]⟩
 |s::r,i,l,l',h=>by
  unfold uX at h;cases h1:decide (u<=i)
  .cases h2:decide (s.gen<1)||decide (s.gen>g)
   .rw[h1,h2]at h;obtain⟨t,rfl⟩:=Uw r _ _ _ h;simp
   .rw[h1,h2]at h;cases h
  .cases h2:oA s
   .rw[h1,h2]at h;cases h
   .rw[h1,h2]at h;exact Uw r _ _ _ h
theorem WN {K:bu} {u:Nat} (hu:K.sup.used=(u:Int)): ∀(r:List aX) (i:Nat) (l:List aX),l.all (sY K.sup.g)=true->oR K (i:Int) r l=match uX u K.sup.g i r l with
  |none=>none
  |some l'=>bif l'.all (sY K.sup.g)then some l' else none
 |[],_,l,h=>by simp[oR,uX,h]
 |s::r,i,l,h=>by
  unfold oR uX;rw[hu,show decide ((i:Int)>=(u:Int))=decide (u<=i)from decide_eq_decide.2 AC,show(i:Int)+1=((i+1:Nat):Int) by omega];cases decide (u<=i)
  .rw[af,af];have ho:nk K.sup s=(!(decide (s.gen<1)||decide (s.gen>K.sup.g))&&sY K.sup.g s):=by
    grind[nk,sY]
   rw[ho];cases decide (s.gen<1)||decide (s.gen>K.sup.g)
   .rw[bD,dt,af];cases ht:sY K.sup.g s
    .cases hS:uX u K.sup.g (i+1) r (l++[s])
     .rfl
     .rename_i l';obtain⟨t,rfl⟩:=Uw r _ _ _ hS;grind
    .exact WN hu r _ _ (by rw[uC,h,wY,ht];rfl)
   .rfl
  .rw[ae,ae];cases oA s
   .rfl
   .exact WN hu r _ l h
def lb (im:aj) (c:Nat):Nat->ak->Option (ak×List aX)
 |_,[]=>some ([],[])
 |p,y::r=>bif (!(y==0))==decide (p<c)then(bif y==0 then lb im c (p+1) r else match lg im y with
   |none=>none
   |some l=>match lb im c (p+1) r with
    |none=>none
    |some (bs,ls)=>some (y::bs,l++ls))else none
def oG (im:aj) (c:Nat):Nat->ak->Option (ak×List aX)
 |_,[]=>some ([],[])
 |i,y::r=>bif (!(y==0))==decide (16*i<c)then(bif y==0 then oG im c (i+1) r else match gZ im y with
   |none=>none
   |some g=>match lb im c (16*i) g with
    |none=>none
    |some (bs,ls)=>match oG im c (i+1) r with
     |none=>none
     |some (ik,Bm)=>some (y::(bs++ik),ls++Bm))else none
theorem Zt7 {im:aj} {c:Nat} : ∀(g:ak) (p:Nat) (q:ak×List aX),c<=p->lb im c p g=some q->q=([],[])
 |[],_,_,_,h=>by cases h;rfl
 |y::r,p,q,hp,h=>by
  unfold lb at h;rw[bP (AC:¬p<c)]at h;cases hy:y==0
  .rw[hy]at h;cases h
  .rw[hy]at h;exact Zt7 r _ _ AC h
theorem NM {im:aj} {c:Nat} : ∀(g:ak) (p:Nat) (bs:ak) (ls:List aX),lb im c p g=some (bs,ls)->ls.length=7*min g.length (c-p)
 |[],_,_,_,h=>by cases h;simp
 |y::r,p,bs,ls,h=>by
  unfold lb at h;cases hc:(!(y==0))==decide (p<c)with
  |false=>rw[hc]at h;cases h
  |true=>
  rw[hc,ae]at h;cases hy:y==0
  .rw[hy]at h hc;have hd:decide (p<c)=true:=Fd
   have:=ng hd;rw[af]at h;cases hL:lg im y
   .rw[hL]at h;cases h
   .rename_i l;cases hK:lb im c (p+1) r
    .rw[hL,hK]at h;cases h
    .rename_i q;rw[hL,hK]at h;cases h;have h1:=NM r (p+1) _ _ hK;have h2:=NA im y;rw[hL]at h2;have h2:l.length=7:=h2;rw[ba,h1,h2,cQ];omega
  .rw[hy]at h hc;have hd:decide (p<c)=false:=Fd
   have:=DD hd;rw[NM r (p+1) bs ls h,cQ];omega
theorem V8 {im:aj} {c:Nat} : ∀(f:ak) (i:Nat) (q:ak×List aX),c<=16*i->oG im c i f=some q->q=([],[])
 |[],_,_,_,h=>by cases h;rfl
 |y::r,i,q,hp,h=>by
  unfold oG at h;rw[bP (AC:¬16*i<c)]at h;cases hy:y==0
  .rw[hy]at h;cases h
  .rw[hy]at h;exact V8 r _ _ AC h
theorem Zv9 {l:List aX} (h:lg im y=some l):l.length=7:=by
 have:=NA im y;rwa [h]at this
theorem Ve {l:ak} (h:gZ im y=some l):l.length=16:=by
 have:=I6 im y;rwa [h]at this
def zP (K:bu) (v:aI) (k:Int):Option (ak×List aX)->Option aI
 |none=>none
 |some (bs,ls)=>bif fk K.m v.W bs then(oR K k ls v.ay).map (λs=> { v with ay:=s,W:=bs.foldl (bA K.m) v.W })else none
theorem Zxy (h:fK K.m v.W y=false) (bs:ak) (ls:List aX):zP K v k (some (y::bs,ls))=none:=by
 grind[zP,fk]
theorem Wg {K:bu} (hm:64*K.m<=K.img.length) {c x5:Nat} : ∀(g:ak) (k:Nat) (v:aI),jl K (c:Int) (x5:Int) (k:Int) g v=zP K v ((7*(16*x5+k):Nat):Int) (lb (K.img.take (64*K.m)) c (16*x5+k) g)
 |[],_,_=>rfl
 |y::r,k,v=>by
  unfold jl lb;rw[show decide ((x5:Int)*16+(k:Int)<(c:Int))=decide (16*x5+k<c)from decide_eq_decide.2 AC,show(k:Int)+1=((k+1:Nat):Int) by omega];cases hc:(!(y==0))==decide (16*x5+k<c)with
  |false=>rfl
  |true=>
  rw[ae,ae];cases hy:y==0
  .have hy0:y≠0:=by simpa using hy
   rw[bD,ae,af];unfold kG dC lg;rw[aY hy0,Gr hm];cases hf:fK K.m v.W y with
   |false=>
    rw[af];simp only;cases(bif fe K.m y then some (Zv K.img y.toNat)else none)with
    |none=>rfl
    |some ln=>
     simp only;cases ZI ln with
     |none=>rfl
     |some l=>
      simp only;cases lb (K.img.take (64*K.m)) c (16*x5+k+1) r with
      |none=>rfl
      |some q=>exact(Zxy hf _ _).symm
   |true=>
   rw[(Gp hf).1,ae,ae];simp only;cases hL:ZI (Zv K.img y.toNat)
   .cases hb:ZA (Zv K.img y.toNat)with
    |leaf x=>rw[acu.1 hb]at hL;cases hL
    |_=>rfl
   .rename_i l;rw[acu.2 hL];simp only;rw[Xa,show((x5:Int)*16+(k:Int))*7=((7*(16*x5+k):Nat):Int) by omega];have h7:l.length=7:=Iv hL;have ih:=λv'=>Wg hm (c:=c) (x5:=x5) r (k+1) v'
    rw[show 16*x5+k+1=16*x5+(k+1) by omega];cases hS:oR K ((7*(16*x5+k):Nat):Int) l v.ay
    .cases lb (K.img.take (64*K.m)) c (16*x5+(k+1)) r with
     |none=>rfl
     |some q=>
      rw[zP,Gg,hS];cases fk K.m v.W (y::q.1)<;>rfl
    .rename_i s;simp only[pC];rw[ih];cases lb (K.img.take (64*K.m)) c (16*x5+(k+1)) r with
     |none=>rfl
     |some q=>
      simp only[zP,Gg,hS];rw[show fk K.m v.W (y::q.1)=(fK K.m v.W y&&fk K.m (bA K.m v.W y) q.1)from rfl,hf,dt,h7,show((7*(16*x5+k):Nat):Int)+((7:Nat):Int)=((7*(16*x5+(k+1)):Nat):Int) by omega];rfl
  .rw[hy]at hc;have jC:c<=16*x5+k:=by
    grind
   show jl K (c:Int) (x5:Int) ((k+1:Nat):Int) r v=zP K v _ (lb (K.img.take (64*K.m)) c (16*x5+(k+1)) r);rw[Wg hm r (k+1) v];cases hK:lb (K.img.take (64*K.m)) c (16*x5+(k+1)) r
   .rfl
   .rename_i q;rw[Zt7 r _ q AC hK];rfl
theorem Wh {K:bu} (hm:64*K.m<=K.img.length) {c:Nat} : ∀(f:ak) (i:Nat) (v:aI),lC K (c:Int) (i:Int) f v=zP K v ((112*i:Nat):Int) (oG (K.img.take (64*K.m)) c i f)
 |[],_,_=>rfl
 |y::r,i,v=>by
  unfold lC oG;rw[show decide ((i:Int)*16<(c:Int))=decide (16*i<c)from decide_eq_decide.2 AC,show(i:Int)+1=((i+1:Nat):Int) by omega];cases hc:(!(y==0))==decide (16*i<c)with
  |false=>rfl
  |true=>
  rw[ae,ae];cases hy:y==0
  .have hy0:y≠0:=by simpa using hy
   rw[af,af];unfold dC gZ;rw[aY hy0,Gr hm];cases hf:fK K.m v.W y with
   |false=>
    rw[af];simp only;cases(bif fe K.m y then some (Zv K.img y.toNat)else none)with
    |none=>rfl
    |some ln=>
     simp only;cases ZY ln with
     |none=>rfl
     |some g=>
      simp only;cases lb (K.img.take (64*K.m)) c (16*i) g with
      |none=>rfl
      |some q=>
       simp only;cases oG (K.img.take (64*K.m)) c (i+1) r with
       |none=>rfl
       |some q'=>exact(Zxy hf _ _).symm
   |true=>
   rw[(Gp hf).1,ae,ae];simp only;cases hL:ZY (Zv K.img y.toNat)
   .cases hb:ZA (Zv K.img y.toNat)with
    |bY x=>rw[OB.1 hb]at hL;cases hL
    |_=>rfl
   .rename_i g;rw[OB.2 hL];simp only;have h2:=Wg hm (c:=c) (x5:=i) g 0 { v with W:=bA K.m v.W y };rw[fE,Int.ofNat_zero]at h2;rw[h2];have ih:=λv'=>Wh hm (c:=c) r (i+1) v'
    cases hk:lb (K.img.take (64*K.m)) c (16*i) g
    .rfl
    .rename_i q;have⟨bs,ls⟩:=q;simp only[zP];have ec: ∀b',fk K.m v.W (y::(bs++b'))=(fk K.m (bA K.m v.W y) bs&&fk K.m (bs.foldl (bA K.m) (bA K.m v.W y)) b'):=λb'=>by
      rw[<-B5];show(fK K.m v.W y&&_)=_;rw[hf,dt]
     rw[show 7*(16*i)=112*i by omega];cases hF:fk K.m (bA K.m v.W y) bs
     .grind
     .rw[ae];cases hS:oR K ((112*i:Nat):Int) ls v.ay
      .cases oG (K.img.take (64*K.m)) c (i+1) r with
       |none=>rfl
       |some q=>
        simp only[Gg,hS];cases fk K.m v.W (y::(bs++q.1))<;>rfl
      .rename_i s;simp only[pC];rw[ih];cases hW:oG (K.img.take (64*K.m)) c (i+1) r
       .rfl
       .rename_i q;have⟨ik,Bm⟩:=q;simp only[zP,Gg,hS,ec,hF,dt,zZ,wZ];rw[show oR K (((112*i:Nat):Int)+(ls.length:Int)) Bm s=oR K ((112*(i+1):Nat):Int) Bm s from ?_];by_cases ac8:16*i+16<=c
        .rw[NM g (16*i) bs ls hk,Ut hL,show((112*i:Nat):Int)+((7*min 16 (c-16*i):Nat):Int)=((112*(i+1):Nat):Int) by omega]
        .cases V8 r (i+1) _ AC hW
         rfl
  .rw[hy]at hc;have jC:c<=16*i:=by
    grind
   rw[ae,ae,Wh hm r (i+1) v];cases hK:oG (K.img.take (64*K.m)) c (i+1) r
   .rfl
   .rename_i q;rw[V8 r _ q AC hK];rfl
theorem Vi (im:aj):lg im 0=some oQ:=FS
theorem NP (im:aj):gZ im 0=some tR:=FS
theorem DT (acc:ak):cI acc 0=acc:=rfl
theorem DZ (acc:ak) (h:k≠0):cI acc k=acc++[k]:=by
 grind[cI]
theorem Vv (im:aj) (acc:ak): ∀n,nV im acc (List.replicate n 0)=some acc
 |0=>rfl
 |n+1=>by
  rw[List.replicate_succ];unfold nV;rw[Vi,DT];exact Vv im acc n
theorem ZrK (im:aj) (acc:ak): ∀n,ql im acc (List.replicate n 0)=some acc
 |0=>rfl
 |n+1=>by
  rw[List.replicate_succ];unfold ql;rw[NP,DT];simp only;rw[show nV im acc tR=some acc from Vv im acc 16];exact ZrK im acc n
theorem agree {b:Bool} (h:((!(y==0))==b)=true):(y=0/\b=false)\/(y≠0/\b=true):=by
 grind
theorem Zxv {bs:ak} {ls:List aX} (h:lb im c p (y::r)=some (bs,ls)):
  (y=0/\c<=p/\lb im c (p+1) r=some (bs,ls))\/∃l ik Bm,y≠0/\p<c/\lg im y=some l/\lb im c (p+1) r=some (ik,Bm)/\bs=y::ik/\ls=l++Bm:=by
 grind[lb]
theorem WH {im:aj} {c:Nat} : ∀(g:ak) (p:Nat) (bs:ak) (ls:List aX),lb im c p g=some (bs,ls)->(∀acc,nV im acc g=some (acc++bs))/\bs.length=min g.length (c-p)/\∀j t,t<7->p+j<c->j<g.length->ls[7*j+t]? =(lg im (g.getD j 0)).bind (·[t]?)
 |[],_,_,_,h=>by
  cases h;simp[nV]
 |y::r,p,bs,ls,h=>by
  rcases Zxv h with⟨rfl,hc,hk⟩|⟨l,ik,Bm,hy,hc,hL,hk,rfl,rfl⟩
  .have⟨h1,h2,h3⟩:=WH r (p+1) bs ls hk
   refine⟨λacc=>?_,by rw[h2,cQ];omega,λj t _ hj _=>AC⟩;grind[nV,Vi,DT]
  .have⟨h1,h2,h3⟩:=WH r (p+1) ik Bm hk
   have Y1:=Zv9 hL;refine⟨λacc=>?_,by rw[cQ,h2,cQ];omega,λj t ht hj vt=>?_⟩
   .unfold nV
    rw[hL,DZ acc hy];grind
   .cases j with
    |zero=>
     rw[Nat.mul_zero,fq,nc AC];grind
    |succ j=>
     rw[kO AC,Y1,show 7*(j+1)+t-7=7*j+t by omega];grind
def zM (c i n:Nat):Nat:=min (16*n) (c-16*i)+min n ((c+15)/16-i)
theorem Wn {im:aj} {c:Nat} : ∀(f:ak) (i:Nat) (bs:ak) (ls:List aX),oG im c i f=some (bs,ls)->(∀acc,ql im acc f=some (acc++bs))/\bs.length=zM c i f.length/\ls.length=7*min (16*f.length) (c-16*i)/\∀q t,t<7->16*i+q<c->q<16*f.length->ls[7*q+t]? =(gZ im (f.getD (q/16) 0)).bind λg=>(lg im (g.getD (q%16) 0)).bind (·[t]?)
 |[],_,_,_,h=>by
  cases h;simp[ql,zM]
 |y::r,i,bs,ls,h=>by
  unfold oG at h;cases hc:(!(y==0))==decide (16*i<c)with
  |false=>rw[hc]at h;cases h
  |true=>
  rw[hc,ae]at h;rcases agree hc with⟨rfl,hd⟩|⟨hy,hd⟩
  .have hd:=DD hd
   have⟨h1,h2,h3,h4⟩:=Wn r (i+1) bs ls h;refine⟨λacc=>?_,by rw[h2,cQ];unfold zM;omega,by rw[h3,cQ];omega,λj t _ hj _=>AC⟩;unfold ql;rw[NP,DT];simp only;rw[show nV im acc tR=some acc from Vv im acc 16];exact h1 acc
  .have hd:=ng hd
   rw[show(y==0)=false by simpa using hy,af]at h;cases hL:gZ im y with
   |none=>rw[hL]at h;cases h
   |some g=>
   rw[hL]at h;simp only at h;cases hK:lb im c (16*i) g with
   |none=>rw[hK]at h;cases h
   |some q=>
   have⟨b1,l1⟩:=q;rw[hK]at h;simp only at h;cases hF:oG im c (i+1) r with
   |none=>rw[hF]at h;cases h
   |some q=>
   have⟨b2,l2⟩:=q;rw[hF]at h;cases h;have⟨h1,h2,h3,h4⟩:=Wn r (i+1) b2 l2 hF;have⟨k1,k2,k3⟩:=WH g (16*i) b1 l1 hK;have k4:=NM g (16*i) b1 l1 hK;have hg:=Ve hL;rw[hg]at k2 k3 k4;refine⟨λacc=>?_,by rw[cQ,ba,h2,k2,cQ];unfold zM;omega,by rw[ba,h3,k4,cQ];omega,λq t ht hq xO=>?_⟩
   .unfold ql
    rw[hL,DZ acc hy];grind
   .rcases jw q 16 with qB|qB
    .rw[nc AC,show q/16=0 by omega,show q%16=q by omega,k3 q t ht hq qB]
     grind
    .rw[kO AC,show 7*q+t-l1.length=7*(q-16)+t by omega,h4 (q-16) t ht AC (by rw[cQ]at xO;omega),show q/16=(q-16)/16+1 by omega,show q%16=(q-16)%16 by omega]
     rfl
theorem Zss {im:aj} {c:Nat} : ∀(g:ak) (p:Nat) (acc sm:ak),nV im acc g=some sm->(∀j,j<g.length->p+j<c->g.getD j 0≠0)->acc.length+min g.length (c-p)<=sm.length/\(sm.length=acc.length+min g.length (c-p)->∃q,lb im c p g=some q)
 |[],_,_,_,h,_=>by cases h;exact⟨Do,λ_=>⟨_,rfl⟩⟩
 |y::r,p,acc,sm,h,hn=>by
  unfold nV at h;cases hL:lg im y with
  |none=>rw[hL]at h;cases h
  |some l=>
  rw[hL]at h;simp only at h;have⟨h1,h2⟩:=Zss (c:=c) r (p+1) (cI acc y) sm h λj hj hc=>by
   have:=hn (j+1) (by rw[cQ];omega) AC;exact this
  rw[cQ];unfold lb;by_cases hc:p<c
  .have hy:y≠0:=hn 0 Do hc
   rw[DZ acc hy,ba,iS]at h1 h2;grind
  .by_cases hy:y=0
   .subst hy
    rw[DT]at h1 h2;grind
   .rw[DZ acc hy,ba,iS]at h1 h2
    omega
theorem ZtO {im:aj} {c:Nat} : ∀(f:ak) (i:Nat) (acc sm:ak),ql im acc f=some sm->(∀a,a<f.length->16*(i+a)<c->f.getD a 0≠0)->(∀a g j,a<f.length->gZ im (f.getD a 0)=some g->j<16->16*(i+a)+j<c->g.getD j 0≠0)->acc.length+zM c i f.length<=sm.length/\(sm.length=acc.length+zM c i f.length->∃q,oG im c i f=some q)
 |[],_,_,_,h,_,_=>by cases h;exact⟨by simp[zM],λ_=>⟨_,rfl⟩⟩
 |y::r,i,acc,sm,h,hn,hg=>by
  unfold ql at h;cases hL:gZ im y with
  |none=>rw[hL]at h;cases h
  |some g=>
  rw[hL]at h;simp only at h;cases hK:nV im (cI acc y) g with
  |none=>rw[hK]at h;cases h
  |some a2=>
  rw[hK]at h;simp only at h;have kV:=Ve hL;have⟨h1,h2⟩:=ZtO (c:=c) r (i+1) a2 sm h (λa ha hc=>hn (a+1) (by rw[cQ];omega) AC) λa g' j ha hf hj hc=>hg (a+1) g' j (by rw[cQ];omega) hf hj AC
  have⟨k1,k2⟩:=Zss (c:=c) g (16*i) (cI acc y) a2 hK λj hj hc=>hg 0 g j Do hL AC AC
  rw[kV]at k1 k2;rw[cQ];unfold oG;unfold zM at h1 h2⊢;by_cases hc:16*i<c
  .have hy:y≠0:=hn 0 Do AC
   rw[DZ acc hy,ba,iS]at k1 k2;refine⟨AC,λhe=>?_⟩;have⟨q,hq⟩:=h2 AC;have⟨q',ug⟩:=k2 AC;rw[show(y==0)=false by simpa using hy,aQ hc,hL,hq];grind
  .by_cases hy:y=0
   .subst hy
    rw[DT]at k1 k2;refine⟨AC,λhe=>?_⟩;have⟨q,hq⟩:=h2 AC;rw[bP hc,hq];exact⟨_,rfl⟩
   .rw[DZ acc hy,ba,iS]at k1 k2
    exact⟨AC,λhe=>AC⟩
theorem Zpv {im:aj} {top:Int} {u:Nat} {g:Int} : ∀(ls:List aX) (i:Nat) (l:List aX),(∀j,j<ls.length->nx im top (i+j)=ls[j]?)->mK im top u g ls.length i l=uX u g i ls l
 |[],_,_,_=>rfl
 |s::r,i,l,h=>by
  rw[cQ];unfold mK uX;rw[show nx im top i=some s from h 0 Do];simp only;have ih:=λl=>Zpv (u:=u) (g:=g) r (i+1) l λj hj=>by
   have:=h (j+1) (by rw[cQ];omega);rw[show i+1+j=i+(j+1) by omega,this];rfl
  rw[ih,ih]
theorem Zpx {im:aj} {top:Int} {u:Nat} {g:Int} : ∀(c i:Nat) (l l':List aX),mK im top u g c i l=some l'->∀j,i<=j->j<i+c->j<u->∃s,nx im top j=some s/\1<=s.gen
 |0,_,_,_,_,_,_,_,_=>by omega
 |c+1,i,l,l',h,j,h1,h2,h3=>by
  unfold mK at h;cases hF:nx im top i with
  |none=>rw[hF]at h;cases h
  |some s=>
  rw[hF]at h;simp only at h;rw[aU]at h;cases hb:decide (s.gen<1)||decide (s.gen>g)
  .rw[hb]at h;by_cases e:j=i
   .grind
   .exact Zpx c (i+1) _ _ h j AC AC h3
  .rw[hb]at h;cases h
theorem ZxX {x:cm} {u:Nat} (hu:x.used=(u:Int)) (h0:0<u) (h1:u<=1792) (hf:x.bY≠0):sh im x=match gZ im x.bY with
  |none=>none
  |some f=>match oG im ((u+6)/7) 0 f with
   |none=>none
   |some (bs,ls)=>match uX u x.g 0 ls []with
    |none=>none
    |some l=>some (l,x.bY::bs):=by
 unfold sh yF;have hut:x.used.toNat=u:=AC
 rw[hut];cases hL:gZ im x.bY with
 |none=>rfl
 |some f=>
 have dZ:=Ve hL;simp only;rw[DZ [] hf,gR];have aaa:1+zM ((u+6)/7) 0 16=(u+6)/7+qy u:=by
  grind[zM,qy]
 cases hW:oG im ((u+6)/7) 0 f
 .cases hG:ql im [x.bY] f with
  |none=>rfl
  |some pg=>
  simp only;cases hd:decide (pg.length=(u+6)/7+qy u)with
  |false=>rfl
  |true=>
  rw[ae];cases hS:mK im x.bY u x.g (7*((u+6)/7)) 0 []
  .rfl
  .rename_i l;exfalso;have YB: ∀a j,a<16->j<16->16*a+j<(u+6)/7->∃g,gZ im (f.getD a 0)=some g/\g.getD j 0≠0:=λa j ha hj hc=>by
    have⟨s,hs,hg⟩:=Zpx _ _ _ _ hS (7*(16*a+j)) (cN _) AC AC;unfold nx at hs;rw[hL]at hs;simp only at hs;rw[show 7*(16*a+j)/112=a by omega,show 7*(16*a+j)/7%16=j by omega]at hs;cases hA:gZ im (f.getD a 0)
    .rw[hA]at hs;cases hs
    .rename_i g;rw[hA]at hs;refine⟨g,rfl,λe=>?_⟩;simp only at hs;rw[e,Vi,show 7*(16*a+j)%7=0 by omega]at hs;cases hs;exact absurd hg EQ
   have⟨_,b2⟩:=ZtO (c:=(u+6)/7) f 0 [x.bY] pg hG (λa ha hc e=>by
    have⟨g,hg,hn⟩:=YB a 0 AC EQ AC;rw[e,NP]at hg;cases hg;exact hn rfl) λa g j ha hg hj hc=>by
    grind
   grind
 .rename_i q;have⟨bs,ls⟩:=q;have⟨a1,a2,a3,a4⟩:=Wn f 0 bs ls hW;rw[dZ]at a2 a3 a4;rw[a1];simp only;rw[aR (show([x.bY]++bs).length=(u+6)/7+qy u by rw[ba,iS,a2];exact aaa),show 7*((u+6)/7)=ls.length by omega,Zpv ls 0 [] λj hj=>?_]
  .rfl
  .have:=a4 (j/7) (j%7) (Nat.mod_lt _ EQ) AC AC
   rw[show 7*(j/7)+j%7=j by omega]at this;rw[this,fq];grind[nx]
theorem ZyV (hx:ox K.sup) (hm:64*K.m<=K.img.length) (v:aI) (hs:v.ay=[]):lD K v=match sh (K.img.take (64*K.m)) K.sup with
  |none=>none
  |some (l,pg)=>bif fk K.m v.W pg&&l.all (sY K.sup.g)then some { v with ay:=l,W:=pg.foldl (bA K.m) v.W } else none:=by
 have⟨g1,g2,g3,g4,g5,g6⟩:=ZM hx.g;have sO:=hx.u0;have zB:=hx.u1;have⟨u,hu⟩: ∃u:Nat,K.sup.used=(u:Int):=⟨K.sup.used.toNat,AC⟩;by_cases h0:u=0
 .subst h0
  have hf:=hx.t0 hu;unfold lD sh yF;rw[hu,hf,NP];simp only;rw[DT,show ql (K.img.take (64*K.m)) [] tR=some []from ZrK _ [] 16];show some v=some { v with ay:=[],W:=v.W };rw[<-hs]
 .have hf:=hx.t1 AC
  have pO:K.sup.bY≠0:=(λe=>by rw[e]at hf;cases hf);rw[ZxX hu AC AC pO];unfold lD dC gZ;rw[aY pO,Gr hm,show(K.sup.used==0)=false by rw[hu];simp;omega,af];cases ec:fK K.m v.W K.sup.bY with
  |false=>
   rw[af];simp only;cases(bif fe K.m K.sup.bY then some (Zv K.img K.sup.bY.toNat)else none)with
   |none=>rfl
   |some ln=>
    simp only;cases ZY ln with
    |none=>rfl
    |some g=>
     simp only;cases oG (K.img.take (64*K.m)) ((u+6)/7) 0 g with
     |none=>rfl
     |some q=>
      simp only;cases uX u K.sup.g 0 q.2 []with
      |none=>rfl
      |some l=>
       show none=bif (fK K.m v.W K.sup.bY&&_)&&_ then _ else _;rw[ec];rfl
  |true=>
  rw[(Gp ec).1,ae,ae];simp only;cases hL:ZY (Zv K.img K.sup.bY.toNat)
  .cases hb:ZA (Zv K.img K.sup.bY.toNat)with
   |bY x=>rw[OB.1 hb]at hL;cases hL
   |_=>rfl
  .rename_i f;rw[OB.2 hL];simp only;rw[hu,Znr AC];have h1:=Wh hm (c:=(u+6)/7) f 0 { v with W:=bA K.m v.W K.sup.bY };rw[Int.ofNat_zero]at h1;rw[h1];cases oG (K.img.take (64*K.m)) ((u+6)/7) 0 f with
   |none=>rfl
   |some q=>
    have⟨bs,ls⟩:=q;simp only[zP];have fV:=WN hu ls 0 [] rfl;rw[hs];rw[Int.ofNat_zero]at fV;rw[fV];cases uX u K.sup.g 0 ls []with
    |none=>cases fk K.m (bA K.m v.W K.sup.bY) bs<;>rfl
    |some l=>
     simp only;rw[show fk K.m v.W (K.sup.bY::bs)=(fK K.m v.W K.sup.bY&&fk K.m (bA K.m v.W K.sup.bY) bs)from rfl,ec,dt];cases fk K.m (bA K.m v.W K.sup.bY) bs<;>cases l.all (sY K.sup.g)<;>rfl
theorem UP {im:aj} {top:Int} {u:Nat} {g:Int} : ∀(c i:Nat) (l l':List aX),mK im top u g c i l=some l'->(∀s∈l,s.gen<=g)->∀s∈l',s.gen<=g
 |0,_,_,_,h,hg=>by cases h;exact hg
 |c+1,i,l,l',h,hg=>by
  unfold mK at h;cases hF:nx im top i with
  |none=>rw[hF]at h;cases h
  |some s=>
  rw[hF]at h;simp only at h;cases hu:decide (u<=i)
  .rw[hu,af]at h;cases hb:decide (s.gen<1)||decide (s.gen>g)
   .rw[hb]at h;rw[yf,tp,tp]at hb;refine UP c _ _ _ h λy hy=>?_
    grind
   .rw[hb]at h;cases h
  .rw[hu,ae]at h;cases hs:oA s
   .rw[hs]at h;cases h
   .rw[hs]at h;exact UP c _ _ _ h hg
theorem Zv0 {x:cm} {l:List aX} (h:sh im x=some (l,pg)): ∀s∈l,s.gen<=x.g:=by
 unfold sh at h;cases hP:yF im x.bY
 .rw[hP]at h;cases h
 .rename_i pg';rw[hP]at h;simp only at h;cases hd:decide (pg'.length=(x.used.toNat+6)/7+qy x.used.toNat)
  .rw[hd]at h;cases h
  .rw[hd,ae]at h;cases hS:mK im x.bY x.used.toNat x.g (7*((x.used.toNat+6)/7)) 0 []
   .rw[hS]at h;cases h
   .rename_i l';rw[hS]at h;cases h;exact UP _ _ _ _ hS λs hs=>nomatch hs
theorem ZvM (h:16<=m:=by omega):dz (gD m [0,1])=[0,1]:=by
 refine F9 (yo _) (by unfold lZ;simp) λk=>?_
 rw[Z7];constructor
 .rintro⟨b,rfl,hb⟩
  exact((rb _ b).1 hb).1
 .intro hk
  have oK:k=0\/k=1:=by simpa using hk
  exact⟨k.toNat,AC,(rb _ _).2 Fd⟩
theorem Zzt {x:cm} (km:K.m=x.blocks.toNat) (ki:K.img=img) (ks:K.sup=x) (hx:ox x) (hb:x.blocks<=((img.length/64:Nat):Int)):match om K with
  |none=>xw img x=none
  |some v=>xw img x=some (na x v,dz v.W)/\∃all:ak,v.W=all.foldl (bA x.blocks.toNat) (gD x.blocks.toNat [0,1]):=by
 have⟨g1,g2,g3,g4,g5,g6⟩:=ZM hx.g;have⟨m,hm⟩: ∃m:Nat,x.blocks=(m:Int):=Fd
 have kA:x.blocks.toNat=m:=AC
 have hmi:64*m<=img.length:=AC
 rw[kA]at km;have wF:64*K.m<=K.img.length:=by rw[km,ki];exact hmi
 have⟨W0,tV⟩: ∃W0,gD m [0,1]=W0:=⟨_,rfl⟩;have wG:W0.length=(m+63)/64:=by rw[<-tV];unfold gD;rw[(ZG m _ _).1,pw]
 have Hu: ∀b,cD W0 b=true->b<m:=λb yZ=>by rw[<-tV]at yZ;exact((rb _ b).1 yZ).2
 have Ep:cD W0 0=true:=by rw[<-tV];exact(rb _ 0).2 ⟨Do,AC⟩
 have Kt:dz W0=[0,1]:=by rw[<-tV];exact ZvM
 have hp:=ZyV (by rw[ks];exact hx) wF (lj K.m) rfl;rw[km,ki,ks]at hp;rw[kA,tV];unfold xw om;rw[(xk x).2 hx,bI,af,aU,kA,km,hp];cases hS:sh (img.take (64*m)) x with
 |none=>rfl
 |some q=>
 have⟨l,pg⟩:=q;have⟨s1,s2,s3,s4⟩:=VB hx hS;have sg:=Zv0 hS;simp only;have⟨v1,kC⟩: ∃v1:aI, { lj m with ay:=l,W:=pg.foldl (bA m) (lj m).W } =v1:=⟨_,rfl⟩;have e1:v1.ay=l:=by rw[<-kC]
 have e2:v1.W=pg.foldl (bA m) W0:=by rw[<-kC,<-tV];rfl
 have e3:v1.aD=[]/\v1.gens=[]/\v1.free=[]/\v1.nodes=0:=by rw[<-kC];exact⟨rfl,rfl,rfl,rfl⟩
 rw[kC,show(lj m).W=W0 from tV];have hf:=ZAe (K:=K) (v:=v1) (by rw[ks];exact hx) (by rw[ks,e1];exact s2) (λs hs hv=>by rw[e1]at hs;exact(Zko (s1 s hs) hv).1) Fd e3.2.2.1;rw[ks,e1]at hf;cases hP:fk m W0 pg with
 |false=>
  rw[gF,af];simp only;cases xC l x with
  |none=>rfl
  |some fr=>
   simp only;cases wO (img.take (64*m)) x.dir with
   |none=>rfl
   |some q=>
    have⟨qs,bs⟩:=q;simp only;rw[Jv];cases je (img.take (64*m)) x.used l qs [] [] 0 with
    |none=>rfl
    |some q=>
     have⟨h,a,n⟩:=q;rw[pC];have hr:=NX (pg++bs++a) W0 wG Hu Ep;rw[Kt,dL,B5,hP,gF,af,<-hm,<-dL]at hr;grind
 |true=>
 rw[dt];cases hA:l.all (sY x.g)with
 |false=>
  rw[hA,af]at hf;grind
 |true=>
 rw[hA,ae]at hf;rw[ae];simp only;rw[hf];cases hF:xC l x with
 |none=>rfl
 |some fr=>
 simp only[pC];have hq:=Zxr wF { v1 with free:=fr } (by rw[km];exact(by rw[e2,(ZG m _ _).1];exact wG)) e3.1;rw[km,ki,ks,e1]at hq;rw[hq];cases G5:wO (img.take (64*m)) x.dir with
 |none=>rfl
 |some q=>
 have⟨qs,bs⟩:=q;simp only;rw[Jv qs [] (pg++bs)];cases je (img.take (64*m)) x.used l qs [] [] 0 with
 |none=>rfl
 |some q=>
 have⟨h,a,n⟩:=q;rw[pC,tP,km,e2,e3.1,e3.2.2.2];have hr:=NX (pg++bs++a) W0 wG Hu Ep;rw[Kt,dL,B5,hP,dt,<-hm,<-dL,dL pg,wZ]at hr;rw[dL pg];cases ec:fk m (pg.foldl (bA m) W0) (bs++a)
 .rw[ec,af]at hr;rw[af];grind
 .rw[ec,ae]at hr;rw[ae];simp only;have vu: ∀v:aI,v.ay=l->vB v=pX l:=λv e=>by unfold vB pX;rw[e]
  rw[vu _ rfl,show((pX l:Int)+n==0)=decide ((pX l:Int)=0-n) by rw[nL];simp;omega];cases hR:rf x.blocks (pg++(bs++a)) [0,1]
  .rw[hR]at hr;cases hr
  .rename_i r;rw[hR]at hr;simp only at hr⊢;cases hd:decide (r.length=(pg++(bs++a)).length+2)
   .rw[show(([0,1]:ak).length)=2 from rfl,hd]at hr;cases hr
   .rw[show(([0,1]:ak).length)=2 from rfl,hd,ae]at hr;cases hr;cases decide ((pX l:Int)=0-n)
    .rfl
    .refine⟨?_,pg++(bs++a),by rw[wZ (l:=pg)];rfl⟩;unfold sR na;grind
theorem ZwE {x:ZL} (h:ZH l=some x):x.name.length<=24:=by
 unfold ZH at h;split at h
 .cases h
 .rename_i k t b _
  cases hk:decide (k=5)
  .rw[hk]at h;cases h
  .cases hc:decide (t<=24)
   .rw[hk,hc]at h;cases h
   .rw[hk,hc]at h;cases hn:ZB (b.drop (28+t))
    .rw[hn]at h;cases h
    .cases hr:mL (Z1 b t)
     .rw[hn,hr]at h;cases h
     .rw[hn,hr]at h;grind[Z1]
theorem Zsv {im:aj} : ∀(l:ak) (qs lR:List ZL),nJ im qs l=some lR->(∀q∈qs,q.name.length<=24)->(∀q∈lR,q.name.length<=24)/\lR.length=qs.length+l.length
 |[],qs,lR,h,hq=>by cases h;exact⟨hq,rfl⟩
 |k::r,qs,lR,h,hq=>by
  unfold nJ at h;cases hL:j8 im k
  .rw[hL]at h;cases h
  .rename_i c;rw[hL]at h;simp only at h;cases hQ:ZH c
   .rw[hQ]at h;cases h
   .rename_i q;rw[hQ]at h;simp only at h;cases hN:xW qs q
    .rw[hN]at h;cases h
    .rw[hN,ae]at h;have⟨h1,h2⟩:=Zsv r _ _ h λy hy=>by
      rcases ga.1 hy with hy|hy
      .exact hq y hy
      .rw[cH.1 hy];exact ZwE hQ
     grind
theorem ZxD: ∀(es out:List aP),(es.foldl rH out).length=out.length+es.length
 |[],_=>rfl
 |e::es,out=>by rw[zZ,ZxD es,VT,cQ];omega
theorem ZvO {im:aj} {u:Int} {l:List aX} : ∀(qs:List ZL) (hs jt:List dw) (all JA:ak) (lv lv':Int),je im u l qs hs all lv=some (jt,JA,lv')->(∀q∈qs,q.name.length<=24)->(∀g∈hs,g.name.length<=24)->(∀g∈jt,g.name.length<=24)/\jt.length=hs.length+qs.length/\((jt.map (·.bz)).flatten).length+all.length=((hs.map (·.bz)).flatten).length+JA.length
 |[],hs,jt,all,JA,lv,lv',h,_,hg=>by cases h;grind
 |q::r,hs,jt,all,JA,lv,lv',h,hq,hg=>by
  unfold je at h;cases hF:wc im q.cF
  .rw[hF]at h;cases h
  .rename_i p;have⟨es,ns⟩:=p;rw[hF]at h;simp only at h;cases hb:jP u l es ns
   .rw[hb]at h;cases h
   .rw[hb,ae]at h;have⟨h1,h2,h3⟩:=ZvO r _ _ _ _ _ _ h Fd λy hy=>by
     grind
    have h4:=ZoB hF;have h5:(kt es).length=es.length:=by simp[kt,ZxD]
    rw[eV,Fu,ba,ba,show([⟨q.name,kt es⟩]:List dw).map (·.bz)=[kt es]from rfl,List.flatten_singleton,h5]at h3;rw[ba,iS]at h2;grind
theorem Ztl {l:List aX} {u g:Int} : ∀(f:Nat) (k:Int) (out o:ak),nT l u g f k out=some o->o.length<=out.length+f
 |0,_,_,_,h=>by cases h
 |f+1,k,out,o,h=>by
  unfold nT at h;cases h0:k==0 with
  |true=>rw[h0]at h;cases h;omega
  |false=>
  rw[h0,af]at h;cases h1:decide (k>u)with
  |true=>rw[h1]at h;cases h
  |false=>
  rw[h1,af]at h;cases hg:l[(k-1).toNat]? with
  |none=>rw[hg]at h;cases h
  |some s=>
  rw[hg]at h;simp only at h;cases h2:s.live with
  |true=>rw[h2]at h;cases h
  |false=>
  cases h3:decide (s.gen>=g)with
  |true=>rw[h2,h3]at h;cases h
  |false=>
  cases h4:decide (k-1∈out)
  .rw[h2,h3,h4]at h;have:=Ztl f _ _ _ h;rw[ba,iS]at this;omega
  .rw[h2,h3,h4]at h;cases h
theorem Zvk {g:dw} : ∀ {l:List dw},g∈l->g.bz.length<=((l.map (·.bz)).flatten).length
 |x::l,h=>by
  rw[kf,vH,ba];rcases ep.1 h with rfl|h
  .omega
  .have:=Zvk h;omega
theorem ZzL {x:cm} {y:dW} (hx:ox x) (h:xw img x=some (y,r)):FR y/\r.length<5000:=by
 have⟨g1,g2,g3,g4,g5,g6⟩:=ZM hx.g;have⟨m,hm⟩: ∃m:Nat,x.blocks=(m:Int):=⟨x.blocks.toNat,AC⟩;unfold xw at h;rw[(xk x).2 hx,bI,af]at h;cases hb:decide (x.blocks>((img.length/64:Nat):Int))with
 |true=>rw[hb]at h;cases h
 |false=>
 rw[hb,af]at h;generalize img.take (64*x.blocks.toNat)=im at h;cases hS:sh im x with
 |none=>rw[hS]at h;cases h
 |some q=>
 have⟨l,pg⟩:=q;rw[hS]at h;simp only at h;have⟨s1,s2,s3,s4⟩:=VB hx hS;cases hF:xC l x with
 |none=>rw[hF]at h;cases h
 |some fr=>
 rw[hF]at h;simp only at h;have dZ:fr.length<=l.length+2:=by
  unfold xC at hF;cases hL:nT l x.used x.g (l.length+2) x.free []
  .rw[hL]at hF;cases hF
  .rename_i o;rw[hL]at hF;simp only at hF;cases hA:tD x.g o 0 l
   .rw[hA]at hF;cases hF
   .rw[hA]at hF;cases hF;have:=Ztl _ _ _ _ hL;simpa using this
 cases hR:wO im x.dir with
 |none=>rw[hR]at h;cases h
 |some q=>
 have⟨qs,bs⟩:=q;rw[hR]at h;simp only at h;have KR:(∀q∈qs,q.name.length<=24)/\qs.length<=bs.length:=by
  unfold wO at hR;split at hR
  .grind
  .split at hR
   .cases hR
   .split at hR
    .cases hR
    .split at hR
     .cases hR
     .rename_i c _ l' _ qs' hq
      cases hR;have⟨a1,a2⟩:=Zsv _ _ _ hq λq hq=>nomatch hq
      grind
 cases hW:je im x.used l qs [] (pg++bs) (pX l)with
 |none=>rw[hW]at h;cases h
 |some q=>
 have⟨hs,all,lv⟩:=q;rw[hW]at h;simp only at h;have⟨w1,w2,w3⟩:=ZvO _ _ _ _ _ _ _ hW KR.1 λg hg=>nomatch hg
 cases hG:rf x.blocks all [0,1]with
 |none=>rw[hG]at h;cases h
 |some r'=>
 rw[hG]at h;simp only at h;cases eQ:lv==0 with
 |false=>rw[eQ]at h;cases h
 |true=>
 rw[eQ,ae]at h;cases hd:decide (r'.length=all.length+2)with
 |false=>rw[hd]at h;cases h
 |true=>
 rw[hd,ae]at h;cases h;have wG:(gD m [0,1]).length=(m+63)/64:=by unfold gD;rw[(ZG m _ _).1,pw]
 have hr:=NX all (gD m [0,1]) wG (λb hb=>((rb _ b).1 hb).2) ((rb _ 0).2 ⟨Do,AC⟩);rw[ZvM,<-hm,hG]at hr;simp only at hr;rw[show(([0,1]:ak).length)=2 from rfl,hd,ae]at hr;have alR:all.length<=m:=by
  cases ec:fk m (gD m [0,1]) all
  .rw[ec]at hr;cases hr
  .exact Zvo wG ec
 have iH:=ng hd;rw[ba]at w3;simp only[List.map_nil,List.flatten_nil,Aa]at w2 w3;refine⟨⟨⟨Fd,λg hg=>?_,Fd⟩,by show((hs.map (·.bz)).flatten).length<=_;omega,Fd,Fd⟩,AC⟩;have:g.bz.length<=((hs.map (·.bz)).flatten).length:=Zvk hg;omega
