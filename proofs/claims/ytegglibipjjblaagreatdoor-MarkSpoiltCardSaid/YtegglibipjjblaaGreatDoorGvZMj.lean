/- The program's walk and the document's: what is taken, and blocks by kind. No program in sight. -/
import Derived.Test.YtegglibipjjblaaGreatDoorGvZMi
import Derived.Test.YtegglibipjjblaaGreatDoorGvZMg
import Derived.Test.YtegglibipjjblaaGreatDoorGvZMf
namespace Go.Gv.F
open Go.Gv
def eI (m:Nat):al->ak->Bool
 |_,[]=>true
 |W,k::r=>fu m W k&&eI m (bX m W k) r
variable {k u y:Int} {es gY out:List bh} {c d m n p:Nat} {im img l:aj} {gu ks pg r:ak} {W:al} {K:bV} {e:bh} {v:bj}
theorem Zrd {a:Int} (hl:W.length=(m+63)/64) (ha:fu m W a=true):fu m (bX m W a) k=(fu m W k&& !decide (k=a)):=by
 unfold fu at ha⊢;rw[yB hl];simp only[aR,bq]at ha;rw[ha.2.1,de];by_cases hk:k>=2
 .have h2:=ha.1
  rw[aw hk,show decide (k.toNat=a.toNat)=decide (k=a)from decide_eq_decide.2 (by omega)];cases fR m k<;>cases dM W k.toNat<;>simp
 .rw[aB hk];rfl
theorem Hu {m:Nat} : ∀ {ks:ak} {W:al},W.length=(m+63)/64->(eI m W ks=true↔ks.Nodup/\∀k∈ks,fu m W k=true)
 |[],W,_=>by simp[eI]
 |a::r,W,hl=>by
  unfold eI;rw[aR,yk,Hu (by rw[uj];exact hl)];constructor
  .rintro⟨h1,h2,h3⟩
   have h4: ∀k∈r,fu m W k=true/\k≠a:=λk hk=>by
    have:=h3 k hk;rw[Zrd hl h1,aR,kR,ry]at this;exact this
   refine⟨⟨λha=>(h4 a ha).2 rfl,h2⟩,λk hk=>?_⟩;rcases dC.1 hk with rfl|hk
   .exact h1
   .exact(h4 k hk).1
  .rintro⟨⟨h1,h2⟩,h3⟩
   have h4:=h3 a oa;refine⟨h4,h2,λk hk=>?_⟩;rw[Zrd hl h4,h3 k (rp _ hk),de,kR,ry];exact λe=>h1 (e▸hk)
theorem Aj {m:Nat} : ∀(a b:ak) (W:al),eI m W (a++b)=(eI m W a&&eI m (a.foldl (bX m) W) b)
 |[],_,_=>rfl
 |k::a,b,W=>by
  show(fu m W k&&eI m (bX m W k) (a++b))=((fu m W k&&eI m (bX m W k) a)&&_);rw[Aj a b,Bool.and_assoc];rfl
theorem Zq6 {a b:ak} (hl:W.length=(m+63)/64) (h:a.Perm b):eI m W a=eI m W b:=by
 rw[iQ,Hu hl,Hu hl,h.nodup_iff];constructor
 .exact λ⟨h1,h2⟩=>⟨h1,λk hk=>h2 k (h.mem_iff.2 hk)⟩
 .exact λ⟨h1,h2⟩=>⟨h1,λk hk=>h2 k (h.mem_iff.1 hk)⟩
theorem Zvc (m:Nat) (W:al) (a b:Int):bX m (bX m W a) b=bX m (bX m W b) a:=by
 unfold bX;cases fR m a<;>cases fR m b<;>simp only[ae,af]
 refine rk λi=>?_
 simp only[List.getElem?_set,dX,lD];by_cases e:a.toNat/64=b.toNat/64
 .rw[e]
  by_cases hi:b.toNat/64=i
  .subst hi
   by_cases hh:b.toNat/64<W.length
   .simp only[hh,kV,bw,Option.getD_some]
    rw[Nat.or_assoc,Nat.or_assoc,Nat.or_comm (2^_)]
   .simp only[hh,jI,bw]
  .simp only[hi,jI]
 .have e': ¬b.toNat/64=a.toNat/64:=λh=>e h.symm
  simp only[e,e',jI];by_cases h1:a.toNat/64=i
  .have h2: ¬b.toNat/64=i:=λh=>e (h1.trans h.symm)
   simp only[h1,h2,jI]
  .simp only[h1,jI]
theorem Zp3 {a b:ak} (h:a.Perm b): ∀(W:al),a.foldl (bX m) W=b.foldl (bX m) W:=by
 induction h with
 |nil=>exact λ_=>rfl
 |cons x _ ih=>exact λW=>ih _
 |swap x y l=>exact λW=>by simp only[DH,Zvc m W y x]
 |trans _ _ i1 i2=>exact λW=>(i1 W).trans (i2 W)
theorem Ztz (hl:W.length=(m+63)/64) (h:eI m W ks=true):ks.length<=m:=by
 obtain⟨h1,h2⟩:=(Hu hl).1 h;have:=Cf (m:=ZR 0 m) h1 λk hk=>by
  have:=h2 k hk;unfold fu fR at this;simp only[aR,bq]at this;unfold ZR;exact tN.2 ⟨k.toNat,yj.2 (by omega),by omega⟩
 unfold ZR at this;rwa [nY,JL]at this
def xS (l:aj):Nat:=match fY l with
 |none=>0
 |some (k,_,_)=>k
theorem LV {x:jo} (h:iz l=some x):xS l=1:=by
 unfold iz at h;unfold xS;split at h
 .cases h
 .rename_i k t b e
  rw[e];cases hk:decide (k=1)with
  |true=>exact iR hk
  |false=>rw[hk]at h;cases h
theorem LZ {x:List bA} (h:ZH l=some x):xS l=2:=by
 unfold ZH at h;unfold xS;split at h
 .cases h
 .rename_i k t b e
  rw[e];cases hk:decide (k=2)with
  |true=>exact iR hk
  |false=>rw[hk]at h;cases h
theorem TL {x:ak} (h:Z0 l=some x):xS l=3:=by
 unfold Z0 at h;unfold xS;split at h
 .cases h
 .rename_i k t b e
  rw[e];cases hk:decide (k=3)with
  |true=>exact iR hk
  |false=>rw[hk]at h;cases h
theorem ZvT {x:ZC} (h:ZD l=some x):xS l=5:=by
 unfold ZD at h;unfold xS;split at h
 .cases h
 .rename_i k t b e
  rw[e];cases hk:decide (k=5)with
  |true=>exact iR hk
  |false=>rw[hk]at h;cases h
theorem Zyg {x:ak} (h:kD l=some x):xS l=6:=by
 unfold kD at h;unfold xS;split at h
 .cases h
 .rename_i k t b e
  rw[e];cases hk:decide (k=6)with
  |true=>exact iR hk
  |false=>rw[hk]at h;cases h
theorem Xz {x:jo} :ZX l= .node x↔iz l=some x:=by
 unfold ZX;cases h1:iz l<;>cases h2:ZH l<;>cases h3:Z0 l<;>cases h4:ZD l<;>cases h5:kD l<;>simp
theorem Xy {x:List bA} :ZX l= .leaf x↔ZH l=some x:=by
 unfold ZX;cases h1:iz l with
 |some y=>
  cases h2:ZH l with
  |none=>simp
  |some z=>have:=LV h1;rw[LZ h2]at this;cases this
 |none=>cases h2:ZH l<;>cases h3:Z0 l<;>cases h4:ZD l<;>cases h5:kD l<;>simp
theorem Mc {x:ak} :ZX l= .cc x↔Z0 l=some x:=by
 unfold ZX;cases h3:Z0 l with
 |none=>cases h1:iz l<;>cases h2:ZH l<;>cases h4:ZD l<;>cases h5:kD l<;>simp
 |some z=>
  have hk:=TL h3;cases h1:iz l with
  |some y=>rw[LV h1]at hk;cases hk
  |none=>
   cases h2:ZH l with
   |some y=>rw[LZ h2]at hk;cases hk
   |none=>simp
theorem XA {x:ZC} :ZX l= .queue x↔ZD l=some x:=by
 unfold ZX;cases h4:ZD l with
 |none=>cases h1:iz l<;>cases h2:ZH l<;>cases h3:Z0 l<;>cases h5:kD l<;>simp
 |some z=>
  have hk:=ZvT h4;cases h1:iz l with
  |some y=>rw[LV h1]at hk;cases hk
  |none=>
   cases h2:ZH l with
   |some y=>rw[LZ h2]at hk;cases hk
   |none=>
    cases h3:Z0 l with
    |some y=>rw[TL h3]at hk;cases hk
    |none=>simp
theorem Xx {x:ak} :ZX l= .dir x↔kD l=some x:=by
 unfold ZX;cases h5:kD l with
 |none=>cases h1:iz l<;>cases h2:ZH l<;>cases h3:Z0 l<;>cases h4:ZD l<;>simp
 |some z=>
  have hk:=Zyg h5;cases h1:iz l with
  |some y=>rw[LV h1]at hk;cases hk
  |none=>
   cases h2:ZH l with
   |some y=>rw[LZ h2]at hk;cases hk
   |none=>
    cases h3:Z0 l with
    |some y=>rw[TL h3]at hk;cases hk
    |none=>
     cases h4:ZD l with
     |some y=>rw[ZvT h4]at hk;cases hk
     |none=>simp
theorem Eo (hm:64*m<=img.length) (k:Int):ja (img.take (64*m)) k=bif fR m k then some (ZB img k.toNat)else none:=by
 have h1:(img.take (64*m)).length/64=m:=by rw[cz];omega
 unfold ja fR;rw[h1];by_cases hk:0<=k/\k<(m:Int)
 .rw[aW (by omega),aw hk.1,aw hk.2,wE,ae,Y1]
  unfold mD;rw[BJ,DK,kT (by omega)]
 .rw[bw (by omega)]
  cases hb:decide (0<=k)&&decide (k<(m:Int))with
  |false=>rfl
  |true=>rw[aR,bq,bq]at hb;exact absurd hb hk
theorem Eu (h:fu m W k=true):fR m k=true/\2<=k:=by
 unfold fu at h;simp only[aR,bq]at h;exact⟨h.2.1,h.1⟩
def kY:Option (List bh×bj)->Option (List bh×bj)->Prop
 |none,none=>True
 |some (a,v),some (b,w)=>a.Perm b/\v=w
 |_,_=>False
theorem kY.refl: ∀a,kY a a
 |none=>trivial
 |some _=>⟨.refl _,rfl⟩
theorem kY.of {a b:Option (List bh×bj)} (h:a=b):kY a b:=h▸kY.refl a
theorem kY.trans: ∀ {a b c:Option (List bh×bj)},kY a b->kY b c->kY a c
 |none,none,_,_,h=>h
 |some _,some _,some _,h,k=>⟨h.1.trans k.1,h.2.trans k.2⟩
theorem ZpE {K:bV} : ∀(f:Nat) {a b:List bh} (t:List nz) (v:bj),a.Perm b->kY (j3 K f a t v) (j3 K f b t v)
 |0,_,_,_,_,_=>trivial
 |_+1,_,_,[],_,h=>⟨h,rfl⟩
 |f+1,a,b,t::r,v,h=>by
  unfold j3;split
  .rename_i x v' _
   cases wZ K v' t x with
   |false=>trivial
   |true=>exact ZpE f _ _ (h.append_right _)
  .trivial
def iG (K:bV) (v:bj) (bs:ak) (n:Nat):bj:= { v with W:=bs.foldl (bX K.m) v.W,nodes:=v.nodes+(n:Int) }
theorem Ztf (K:bV) (v:bj) (a b:ak) (i j:Nat):iG K (iG K v a i) b j=iG K v (a++b) (i+j):=by
 grind[iG]
theorem ZwX (K:bV) (v:bj) {a b:ak} (h:a.Perm b) (i:Nat):iG K v a i=iG K v b i:=by
 unfold iG;rw[Zp3 h]
theorem Lf (u:Int) (l:List bA): ∀(es:List bh) (ns:ak) (gY:List bh) (Jf:ak),es.length=ns.length->iT u l (es++gY) (ns++Jf)=(iT u l es ns&&iT u l gY Jf)
 |[],[],_,_,_=>rfl
 |e::es,n::ns,gY,Jf,h=>by
  show(bif jv u l e n then iT u l (es++gY) (ns++Jf)else false)=((bif jv u l e n then iT u l es ns else false)&&_);rw[Lf u l es ns gY Jf (by simpa using h)];cases jv u l e n<;>rfl
def okB (K:bV) (v:bj) (es:List bh) (bs:ak):Bool:=iT K.sup.used v.aK es bs&&eI K.m v.W bs
theorem Zyl (hl:v.W.length=(K.m+63)/64) {bs:ak} (h:es.length=bs.length) (n:Nat):okB K v (es++gY) (bs++gu)=(okB K v gY gu&&okB K (iG K v gu n) es bs):=by
 unfold okB iG;rw[Lf _ _ _ _ _ _ h,Zq6 hl (List.perm_append_comm (l₁:=bs) (l₂:=gu)),Aj];cases iT K.sup.used v.aK es bs<;>cases iT K.sup.used v.aK gY gu<;>simp
def JA (K:bV) (im:aj) (d:Nat) (k:Int) (par:bh) (top:Bool) (f:Nat) (out:List bh) (rest:List nz) (v:bj):Option (List bh×bj):=match kN im d k with
 |none=>none
 |some (es,bs)=>bif (bif top then true else fb par (es.headD xq))&&okB K v es bs then j3 K (f-es.length) (out++es) rest (iG K v bs es.length)else none
def I9 (K:bV) (im:aj) (j:Nat) (x:jo) (f:Nat) (out:List bh) (rest:List nz) (v:bj):Option (List bh×bj):=match js im j x.kids x.bH with
 |none=>none
 |some (es,bs)=>bif okB K v es bs then j3 K (f-es.length) (out++es) rest (iG K v bs es.length)else none
theorem ZwH (hm:64*m<=img.length) (k:Int):tG (img.take (64*m)) k=bif fR m k then iz (ZB img k.toNat)else none:=by
 unfold tG;rw[Eo hm];cases fR m k<;>rfl
def TP (K:bV) (im:aj) (d:Nat):Prop:=∀(k:Int) (par:bh) (top:Bool) (f:Nat) (out:List bh) (rest:List nz) (v:bj),v.W.length=(K.m+63)/64->kY (j3 K f out (⟨k,d,par,top⟩::rest) v) (JA K im d k par top f out rest v)
def KP (K:bV) (im:aj) (j:Nat):Prop:=∀(x:jo) (f:Nat) (out:List bh) (rest:List nz) (v:bj),v.W.length=(K.m+63)/64->kY (j3 K f out (sq x j++rest) v) (I9 K im j x f out rest v)
theorem Tu (hl:v.W.length=(K.m+63)/64) (bs:ak) (n:Nat):(iG K v bs n).W.length=(K.m+63)/64:=(pF K.m bs v.W).1.trans hl
theorem aav (hm:64*K.m<=K.img.length) (h:KP K (K.img.take (64*K.m)) d):TP K (K.img.take (64*K.m)) d:=by
 intro k par top f out rest v hl;cases f with
 |zero=>
  refine kY.of ?_;unfold JA;cases kN (K.img.take (64*K.m)) d k with
  |none=>rfl
  |some q=>
   obtain⟨es,bs⟩:=q;simp only[Nat.zero_sub];cases(bif top then true else fb par (es.headD xq))&&okB K v es bs<;>rfl
 |succ f=>
 have hL:j3 K (f+1) out (⟨k,d,par,top⟩::rest) v=match dN K k v with
  |some (.node x,v')=>bif wZ K v' ⟨k,d,par,top⟩ x then j3 K f (out++[x.bH]) (sq x x.kids.length++rest) { v' with nodes:=v'.nodes+1 } else none
  |_=>none:=rfl
 rw[hL];unfold JA kN dN;rw[ZwH hm];cases hf:fu K.m v.W k with
 |false=>
  refine kY.of ?_;cases(bif fR K.m k then iz (ZB K.img k.toNat)else none)with
  |none=>rfl
  |some x=>
   simp only;cases decide (x.kids.length=d)with
   |false=>rfl
   |true=>
    cases js (K.img.take (64*K.m)) d x.kids x.bH with
    |none=>rfl
    |some q=>
     simp only[ae,okB,eI,hf,eG,BG,af]
 |true=>
 rw[(Eu hf).1,ae,ae];cases hN:iz (ZB K.img k.toNat)with
 |none=>
  cases hb:ZX (ZB K.img k.toNat)with
  |node x=>rw[Xz.1 hb]at hN;cases hN
  |_=>trivial
 |some x=>
  rw[Xz.2 hN];simp only;have oK:wZ K { v with W:=bX K.m v.W k } ⟨k,d,par,top⟩ x=(decide (x.kids.length=d)&&((bif top then true else fb par x.bH)&&jv K.sup.used v.aK x.bH k)):=by
   grind[wZ,jv,EH]
  rw[oK];cases hd:decide (x.kids.length=d)with
  |false=>trivial
  |true=>
   have oJ:x.kids.length=d:=iR hd;rw[ae,oJ,de];have hk:=h x f (out++[x.bH]) rest { v with W:=bX K.m v.W k,nodes:=v.nodes+1 } ((uj K.m v.W k).trans hl);unfold I9 at hk;cases hT:js (K.img.take (64*K.m)) d x.kids x.bH with
   |none=>
    rw[hT]at hk;cases(bif top then true else fb par x.bH)&&jv K.sup.used v.aK x.bH k with
    |false=>trivial
    |true=>exact hk
   |some q=>
    obtain⟨es,bs⟩:=q;rw[hT]at hk;simp only at hk⊢;have ho:okB K v (x.bH::es) (k::bs)=(jv K.sup.used v.aK x.bH k&&okB K { v with W:=bX K.m v.W k,nodes:=v.nodes+1 } es bs):=by
     unfold okB;show((bif jv K.sup.used v.aK x.bH k then iT K.sup.used v.aK es bs else false)&&(fu K.m v.W k&&eI K.m (bX K.m v.W k) bs))=_;rw[hf,de];cases jv K.sup.used v.aK x.bH k<;>rfl
    have hu:iG K { v with W:=bX K.m v.W k,nodes:=v.nodes+1 } bs es.length=iG K v (k::bs) (x.bH::es).length:=by
     grind[iG]
    rw[hu,fD]at hk;rw[ho,cH,show f+1-(es.length+1)=f-es.length by omega];show kY _ (bif (bif top then true else fb par x.bH)&&(jv K.sup.used v.aK x.bH k&&okB K { v with W:=bX K.m v.W k,nodes:=v.nodes+1 } es bs)then j3 K (f-es.length) (out++([x.bH]++es)) rest (iG K v (k::bs) (x.bH::es).length)else none);cases(bif top then true else fb par x.bH)with
    |false=>trivial
    |true=>
     cases jv K.sup.used v.aK x.bH k with
     |false=>trivial
     |true=>exact hk
theorem ZvY {K:bV} (hm:64*K.m<=K.img.length): ∀j,KP K (K.img.take (64*K.m)) j
 |0=>λx f out rest v _=>kY.of (by
   unfold I9 js;show j3 K f out rest v=j3 K (f-0) (out++[]) rest (iG K v [] 0);rw[gG];unfold iG;simp)
 |j+1=>λx f out rest v hl=>by
  have ih:=ZvY hm j;have ht:=aav hm ih (x.kids.getD j 0) x.bH false f out (sq x j++rest) v hl;rw[Zn8,nr];refine ht.trans ?_;unfold I9 JA;rw[Ra];cases hT:kN (K.img.take (64*K.m)) j (x.kids.getD j 0)with
  |none=>
   refine kY.of ?_;grind
  |some q=>
   obtain⟨eS,fK⟩:=q;simp only[af];have hk:=ih x (f-eS.length) (out++eS) rest (iG K v fK eS.length) (Tu hl _ _);unfold I9 at hk;cases hS:js (K.img.take (64*K.m)) j x.kids x.bH with
   |none=>
    rw[hS]at hk;cases fb x.bH (eS.headD xq)&&okB K v eS fK with
    |false=>trivial
    |true=>exact hk
   |some q=>
    obtain⟨es,bs⟩:=q;rw[hS]at hk;simp only at hk⊢;show kY _ (match (bif fb x.bH (eS.headD xq)then some (es++eS,bs++fK)else none)with
     |none=>none
     |some (es,bs)=>bif okB K v es bs then j3 K (f-es.length) (out++es) rest (iG K v bs es.length)else none)
    cases fb x.bH (eS.headD xq)with
    |false=>trivial
    |true=>
     simp only[de,ae];rw[Zyl hl (GR _ _ _ _ _ hS).2.symm eS.length];cases okB K v eS fK with
     |false=>trivial
     |true=>
      rw[ae,de];refine hk.trans ?_;cases okB K (iG K v fK eS.length) es bs with
      |false=>trivial
      |true=>
       rw[ae,ae,Ztf,ZwX K v (List.perm_append_comm (l₁:=fK) (l₂:=bs)),bz,sN eS.length,show f-eS.length-es.length=f-(es.length+eS.length) by omega,fD];exact ZpE _ _ _ (List.perm_append_comm.append_left out)
def Fo (K:bV) (v:bj) (acc:List bh):Option (List bh×ak)->Option (List bh×bj)
 |none=>none
 |some (es,bs)=>bif okB K v es bs then some (acc++es,iG K v bs es.length)else none
theorem Zxz (hm:64*K.m<=K.img.length) (d:Nat) (k:Int) (v:bj) (hl:v.W.length=(K.m+63)/64):kY (sH K k d v) (Fo K v [] (kN (K.img.take (64*K.m)) d k)):=by
 have h:=aav hm (ZvY hm d) k xq true (K.m+1) [] [] v hl;unfold sH;refine h.trans (kY.of ?_);unfold JA;cases hT:kN (K.img.take (64*K.m)) d k with
 |none=>rfl
 |some q=>
  obtain⟨es,bs⟩:=q;simp only[Fo,ae,de];cases ho:okB K v es bs with
  |false=>rfl
  |true=>
   unfold okB at ho;rw[aR]at ho;have h1:=Ztz hl ho.2;have h2:=(Cl hT).2;rw[show K.m+1-es.length=(K.m-es.length)+1 by omega];rfl
theorem Kx {im:aj} : ∀(l:ak) (i:Nat) (es:List bh) (bs:ak),Z4 im i l es bs=(Z4 im i l [] []).map λq=>(es++q.1,bs++q.2)
 |[],_,_,_=>by simp[Z4]
 |k::r,i,es,bs=>by
  unfold Z4;cases k==0 with
  |true=>exact Kx r _ es bs
  |false=>
   rw[af,af];cases kN im i k with
   |none=>rfl
   |some q=>
    obtain⟨eS,fK⟩:=q;simp only[gU];rw[Kx r _ (es++eS),Kx r _ eS];cases Z4 im (i+1) r [] []with
    |none=>rfl
    |some q=>simp
theorem SK {K:bV} (hm:64*K.m<=K.img.length): ∀(l:ak) (i:Nat) (acc:List bh) (v:bj),v.W.length=(K.m+63)/64->kY (mN K (i:Int) l acc v) (Fo K v acc (Z4 (K.img.take (64*K.m)) i l [] []))
 |[],i,acc,v,_=>by
  show kY (some (acc,v)) (some (acc++[],iG K v [] 0));refine⟨by rw[gG],?_⟩;unfold iG;simp
 |k::r,i,acc,v,hl=>by
  unfold mN Z4;cases k==0 with
  |true=>
   have:=SK hm r (i+1) acc v hl;rwa [show((i+1:Nat):Int)=(i:Int)+1 by omega]at this
  |false=>
   rw[bp,ae,af];have ht:=Zxz hm i k v hl;cases hT:kN (K.img.take (64*K.m)) i k with
   |none=>
    rw[hT]at ht;cases hM:sH K k i v with
    |none=>trivial
    |some q=>rw[hM]at ht;exact ht.elim
   |some q=>
    obtain⟨eS,fK⟩:=q;rw[hT]at ht;simp only[Fo,gU]at ht⊢;rw[Kx r];cases ho:okB K v eS fK with
    |false=>
     rw[ho]at ht;cases hM:sH K k i v with
     |some q=>rw[hM]at ht;exact ht.elim
     |none=>
      cases hF:Z4 (K.img.take (64*K.m)) (i+1) r [] []with
      |none=>trivial
      |some q=>
       obtain⟨es,bs⟩:=q;simp only[mb];rw[show okB K v (eS++es) (fK++bs)=(okB K v eS fK&&_)from by
        unfold okB;rw[Lf _ _ _ _ _ _ (Cl hT).2.symm,Aj];rw[show ∀a b c d:Bool,((a&&b)&&(c&&d))=((a&&c)&&(b&&d))from by decide],ho]
       trivial
    |true=>
     rw[ho]at ht;cases hM:sH K k i v with
     |none=>rw[hM]at ht;exact ht.elim
     |some q=>
      obtain⟨out,w⟩:=q;rw[hM]at ht;obtain⟨hp,rfl⟩:=ht;have ih:=SK hm r (i+1) (acc++out) (iG K v fK eS.length) (Tu hl _ _);rw[show((i+1:Nat):Int)=(i:Int)+1 by omega]at ih;refine ih.trans ?_;cases hF:Z4 (K.img.take (64*K.m)) (i+1) r [] []with
      |none=>trivial
      |some q=>
       obtain⟨es,bs⟩:=q;simp only[mb,Fo];rw[show okB K v (eS++es) (fK++bs)=(okB K v eS fK&&okB K (iG K v fK eS.length) es bs)from by
        unfold okB iG;simp only;rw[Lf _ _ _ _ _ _ (Cl hT).2.symm,Aj];rw[show ∀a b c d:Bool,((a&&b)&&(c&&d))=((a&&c)&&(b&&d))from by decide],ho,de]
       cases okB K (iG K v fK eS.length) es bs with
       |false=>trivial
       |true=>
        rw[ae,ae,Ztf,<-bz,fD];exact⟨(hp.append_right es).append_left acc,rfl⟩
theorem ZsS {a b c:bh} (h:fb a b=true) (k:fb b c=true):fb a c=true:=by
 rw[Ld]at h k⊢;exact Ss h k
theorem Zwb {a b:bh} (h:a.slot≠b.slot) (k:fb a b=false):fb b a=true:=by
 have:=ZrW (x:=e4 a) (y:=e4 b) h;rw[<-Ld,<-Ld,k,sK]at this;exact this
theorem Zso (e:bh) (out:List bh): ∀k,(∀i,qW e out k<=i->i<k->fb e (out.getD i ⟨0,0,0,0⟩)=true)/\(0<qW e out k->fb e (out.getD (qW e out k-1) ⟨0,0,0,0⟩)=false)
 |0=>⟨by omega,λh=>absurd h (Nat.lt_irrefl _)⟩
 |k+1=>by
  obtain⟨h1,h2⟩:=Zso e out k;grind[qW]
theorem Zyk (h:out.Pairwise λa b=>fb a b=true) (hd: ∀x∈out,x.slot≠e.slot):(pW out e).Perm (e::out)/\(pW out e).Pairwise λa b=>fb a b=true:=by
 unfold pW;obtain⟨h1,h2⟩:=Zso e out out.length;have hp:=Zto e out out.length;generalize qW e out out.length=p at h1 h2 hp;have hc: ∀i,(hi:i<out.length)->out.getD i ⟨0,0,0,0⟩=out[i]:=by grind
 constructor
 .refine List.perm_middle.trans ?_
  rw[nu]
 .have hb: ∀a∈out.take p,fb a e=true:=λa ha=>by
   obtain⟨i,hi,rfl⟩:=Gc ha;rw[cz]at hi;rw[List.getElem_take];have lr:p-1<out.length:=by omega
   have h3:=h2 (by omega);rw[hc _ lr]at h3;have h4:=Zwb (by grind) h3;rcases jH i (p-1)with h5|h5
   .exact ZsS ((N7.1 h) i (p-1) (by omega) lr h5) h4
   grind
  refine JM.2 ⟨(by grind),List.pairwise_cons.2 ⟨λa ha=>?_,(by grind)⟩,λa ha b ep=>?_⟩
  .obtain⟨i,hi,rfl⟩:=Gc ha
   rw[dT]at hi;rw[List.getElem_drop,<-hc _ (by omega)];grind
  .rcases dC.1 ep with rfl|ep
   .exact hb a ha
   .rw[<-nu p out]at h
    grind
theorem ZpK: ∀(l out:List bh),(out.Pairwise λa b=>fb a b=true)->(∀x∈out,∀y∈l,x.slot≠y.slot)->Diff l->(l.foldl pW out).Perm (out++l)/\(l.foldl pW out).Pairwise λa b=>fb a b=true
 |[],out,h,_,_=>(by simp_all)
 |e::l,out,h,hd,.cons h1 h2=>by
  obtain⟨a1,a2⟩:=Zyk h (λx hx=>hd x hx e oa);obtain⟨b1,b2⟩:=ZpK l (pW out e) a2 (λx hx y hy=>by
   grind) h2
  exact⟨b1.trans ((a1.append_right l).trans List.perm_middle.symm),b2⟩
theorem Zxs (hp:gY.Perm es) (hd:Diff es):vb gY=Z2 es:=by
 obtain⟨h1,h2⟩:=ZpK es [] .nil (λx hx=>nomatch hx) hd;rw[gU]at h1;exact ZvS (hp.trans h1.symm) h2 (by
  have:=h1.map (·.slot);exact this.nodup_iff.2 (JN.2 hd))
theorem Zrn (u:Int) (l:List bA): ∀(es:List bh) (ns:ak),es.length=ns.length->iT u l es ns=true->∀x∈es,∃w∈ns,jv u l x w=true
 |[],_,_,_,_,hx=>nomatch hx
 |e::es,n::ns,h,hf,x,hx=>by
  have hf:(bif jv u l e n then iT u l es ns else false)=true:=hf;cases he:jv u l e n with
  |false=>rw[he]at hf;cases hf
  |true=>
   rw[he,ae]at hf;rcases dC.1 hx with rfl|hx
   .grind
   .obtain⟨w,hw,fP⟩:=Zrn u l es ns (by simpa using h) hf x hx
    grind
theorem Zxy {l:List bA} {x:bh} {a b:Int} (h:jv u l e a=true) (k:jv u l x b=true) (hs:e.slot=x.slot):a=b:=by
 unfold jv at h k;rw[<-hs]at k;cases hd:decide (e.slot>=u)with
 |true=>rw[hd]at h;cases h
 |false=>
  rw[hd,af]at h k;cases hg:l[e.slot.toNat]? with
  |none=>rw[hg]at h;cases h
  |some s=>
   rw[hg]at h k;grind
theorem ZpF (u:Int) (l:List bA): ∀(es:List bh) (ns:ak),es.length=ns.length->iT u l es ns=true->ns.Nodup->Diff es
 |[],_,_,_,_=> .nil
 |e::es,n::ns,h,hf,hn=>by
  have hf:(bif jv u l e n then iT u l es ns else false)=true:=hf;cases he:jv u l e n with
  |false=>rw[he]at hf;cases hf
  |true=>
   rw[he,ae]at hf;rw[yk]at hn;have hl:es.length=ns.length:=by simpa using h
   refine .cons (λx hx hs=>?_) (ZpF u l es ns hl hf hn.2);obtain⟨w,hw,fP⟩:=Zrn u l es ns hl hf x hx;exact hn.1 (Zxy he fP hs▸hw)
theorem Rm {im:aj} : ∀(l:ak) (i:Nat) (es:List bh) (bs:ak) {gY:List bh} {gu:ak},Z4 im i l es bs=some (gY,gu)->es.length=bs.length->gY.length=gu.length
 |[],_,_,_,_,_,h,k=>by cases h;exact k
 |y::r,i,es,bs,gY,gu,h,k=>by
  unfold Z4 at h;cases hy:y==0 with
  |true=>rw[hy,ae]at h;exact Rm r _ _ _ h k
  |false=>
   rw[hy,af]at h;cases hT:kN im i y with
   |none=>rw[hT]at h;cases h
   |some q=>
    obtain⟨eS,fK⟩:=q;rw[hT]at h;exact Rm r _ _ _ h (by rw[bz,bz,k,(Cl hT).2])
theorem Zob {l:ak} {bs:ak} (h:ui im l=some (es,bs)):es.length=bs.length:=Rm l 0 [] [] h rfl
theorem Hw {im:aj} {u:Int} {l:List bA} : ∀(qs:List ZC) (hs:List dr) (all:ak) (lv:Int),ij im u l qs hs all lv=(ij im u l qs [] [] 0).map λq=>(hs++q.1,all++q.2.1,lv+q.2.2)
 |[],_,_,_=>by simp[ij]
 |q::r,hs,all,lv=>by
  unfold ij;cases ui im q.df with
  |none=>rfl
  |some p=>
   obtain⟨es,ns⟩:=p;simp only[gU];cases iT u l es ns with
   |false=>rfl
   |true=>
    rw[ae,ae,Hw r (hs++_),Hw r [_]];cases ij im u l r [] [] 0 with
    |none=>rfl
    |some p=>grind
theorem Zvf {im:aj} : ∀(l:ak) (qs ku:List ZC),lX im qs l=some ku->∃new,ku=qs++new
 |[],qs,ku,h=>⟨[],by rw[gG];cases h;rfl⟩
 |k::r,qs,ku,h=>by
  unfold lX at h;cases hL:ja im k with
  |none=>rw[hL]at h;cases h
  |some c=>
   rw[hL]at h;simp only at h;cases hQ:ZD c with
   |none=>rw[hQ]at h;cases h
   |some q=>
    rw[hQ]at h;simp only at h;cases hN:wi qs q with
    |false=>rw[hN]at h;cases h
    |true=>
     rw[hN,ae]at h;obtain⟨new,rfl⟩:=Zvf r _ _ h;simp
theorem ZxA {qs:List ZC} (h:v.aU.map (·.name)=qs.map (·.name)) (q:ZC):Cv v qs.length q.name=wi qs q:=by
 unfold Cv wi;rw[List.getLast?_eq_getElem?];by_cases h0:qs.length=0
 .rw[wG.1 h0];rfl
 .rw[aB h0,af]
  have hg: ∀i:Nat,(v.aU[i]?).map dr.name=(qs[i]?).map ZC.name:=λi=>by rw[<-oY,<-oY,h]
  have h1:=hg (qs.length-1);have h2:qs[qs.length-1]? =some qs[qs.length-1]:=bU (by omega);rw[h2]at h1⊢;grind
def rW (K:bV) (v:bj) (l:ak):Option (List dr×ak×Int)->Option bj
 |none=>none
 |some (h,a,n)=>bif eI K.m v.W (l++a)then some { v with aU:=v.aU++h,W:=(l++a).foldl (bX K.m) v.W,nodes:=v.nodes-n } else none
theorem ZtB {l:ak} (h: ∀a,eI K.m v.W (l++a)=false): ∀q,rW K v l q=none
 |none=>rfl
 |some (_,a,_)=>by grind[rW]
theorem Zvy {K:bV} (hm:64*K.m<=K.img.length): ∀(l:ak) (qs:List ZC) (v:bj),v.W.length=(K.m+63)/64->v.aU.map (·.name)=qs.map (·.name)->
  vD K qs.length l v=match lX (K.img.take (64*K.m)) qs l with
   |none=>none
   |some ku=>rW K v l (ij (K.img.take (64*K.m)) K.sup.used v.aK (ku.drop qs.length) [] [] 0)
 |[],qs,v,_,_=>by
  show some v=rW K v [] (ij (K.img.take (64*K.m)) K.sup.used v.aK (qs.drop qs.length) [] [] 0);rw[List.drop_length];simp[ij,rW,eI]
 |y::r,qs,v,hl,hn=>by
  unfold vD lX dN;rw[Eo hm];cases hf:fu K.m v.W y with
  |false=>
   have cx: ∀q,rW K v (y::r) q=none:=ZtB λa=>by
    show(fu K.m v.W y&&_)=false;rw[hf,eG]
   grind
  |true=>
  rw[(Eu hf).1,ae,ae];simp only;cases hQ:ZD (ZB K.img y.toNat)with
  |none=>
   cases hb:ZX (ZB K.img y.toNat)with
   |queue x=>rw[XA.1 hb]at hQ;cases hQ
   |_=>rfl
  |some q=>
  rw[XA.2 hQ];simp only;rw[show Cv { v with W:=bX K.m v.W y } qs.length q.name=wi qs q from ZxA hn q];cases hN:wi qs q with
  |false=>rfl
  |true=>
  rw[ae,ae];have oP:({ v with W:=bX K.m v.W y } :bj).W.length=(K.m+63)/64:=(uj K.m v.W y).trans hl;have hh:=SK hm q.df 0 [] { v with W:=bX K.m v.W y } oP;rw[Int.ofNat_zero]at hh;rw[show Z4 (K.img.take (64*K.m)) 0 q.df [] []=ui (K.img.take (64*K.m)) q.df from rfl]at hh;have zi: ∀new,ij (K.img.take (64*K.m)) K.sup.used v.aK (q::new) [] [] 0=match ui (K.img.take (64*K.m)) q.df with
    |none=>none
    |some (es,ns)=>bif iT K.sup.used v.aK es ns then ij (K.img.take (64*K.m)) K.sup.used v.aK new [⟨q.name,Z2 es⟩] ns (0-es.length)else none:=λnew=>rfl
  have UY: ∀ku,lX (K.img.take (64*K.m)) (qs++[q]) r=some ku->∃new,ku.drop qs.length=q::new/\ku.drop (qs.length+1)=new:=λku h1=>by
   obtain⟨new,rfl⟩:=Zvf _ _ _ h1;simp
  cases hF:ui (K.img.take (64*K.m)) q.df with
  |none=>
   rw[hF]at hh;cases hM:mN K 0 q.df [] { v with W:=bX K.m v.W y } with
   |some p=>rw[hM]at hh;exact hh.elim
   |none=>
    cases hS:lX (K.img.take (64*K.m)) (qs++[q]) r with
    |none=>rfl
    |some ku=>
     obtain⟨new,e1,_⟩:=UY _ hS;simp only;rw[e1,zi,hF];rfl
  |some p=>
  obtain⟨es,ns⟩:=p;rw[hF]at hh;simp only[Fo,gU]at hh;have YS: ∀new,ij (K.img.take (64*K.m)) K.sup.used v.aK (q::new) [] [] 0=bif iT K.sup.used v.aK es ns then(ij (K.img.take (64*K.m)) K.sup.used v.aK new [] [] 0).map (λq'=>([⟨q.name,Z2 es⟩]++q'.1,ns++q'.2.1,0-(es.length:Int)+q'.2.2))else none:=λnew=>by
   rw[zi,hF];simp only;rw[Hw new]
  have ew: ∀a,eI K.m v.W (y::r++(ns++a))=(eI K.m (bX K.m v.W y) ns&&eI K.m (ns.foldl (bX K.m) (bX K.m v.W y)) (r++a)):=λa=>by
   show(fu K.m v.W y&&eI K.m (bX K.m v.W y) (r++(ns++a)))=_;rw[hf,de,<-Aj];refine Zq6 oP ?_;rw[<-fD,<-fD];grind
  have hlen:=Zob hF;cases ho:okB K { v with W:=bX K.m v.W y } es ns with
  |false=>
   rw[ho]at hh;cases hM:mN K 0 q.df [] { v with W:=bX K.m v.W y } with
   |some p=>rw[hM]at hh;exact hh.elim
   |none=>
    cases hS:lX (K.img.take (64*K.m)) (qs++[q]) r with
    |none=>rfl
    |some ku=>
     obtain⟨new,e1,_⟩:=UY _ hS;simp only;rw[e1,YS];unfold okB at ho;cases Fq:iT K.sup.used v.aK es ns with
     |false=>rfl
     |true=>
      rw[show iT K.sup.used ({ v with W:=bX K.m v.W y } :bj).aK es ns=true from Fq,de]at ho;rw[ae];cases ij (K.img.take (64*K.m)) K.sup.used v.aK new [] [] 0 with
      |none=>rfl
      |some p=>
       simp only[mb,rW];rw[ew,ho];rfl
  |true=>
   rw[ho]at hh;have si:=ho;unfold okB at si;rw[aR]at si;have hd:Diff es:=ZpF _ _ es ns hlen si.1 ((Hu oP).1 si.2).1;cases hM:mN K 0 q.df [] { v with W:=bX K.m v.W y } with
   |none=>rw[hM]at hh;exact hh.elim
   |some p=>
    obtain⟨out,w⟩:=p;rw[hM]at hh;obtain⟨hp,rfl⟩:=hh;simp only;rw[Zxs hp hd];have ih:=Zvy hm r (qs++[q]) { (iG K { v with W:=bX K.m v.W y } ns es.length)with aU:=v.aU++[⟨q.name,Z2 es⟩] } (Tu oP ns es.length) (by rw[fg,fg,hn];rfl);rw[show(qs++[q]).length=qs.length+1 by simp]at ih;refine ih.trans ?_;cases hS:lX (K.img.take (64*K.m)) (qs++[q]) r with
    |none=>rfl
    |some ku=>
     obtain⟨new,e1,e2⟩:=UY _ hS;simp only;rw[e1,e2,YS];rw[show iT K.sup.used v.aK es ns=true from si.1,ae];show rW K _ r (ij (K.img.take (64*K.m)) K.sup.used v.aK new [] [] 0)=_;cases ij (K.img.take (64*K.m)) K.sup.used v.aK new [] [] 0 with
     |none=>rfl
     |some p=>
      obtain⟨h,a,n⟩:=p;simp only[mb,rW];rw[ew,show eI K.m (bX K.m v.W y) ns=true from si.2,de];unfold iG;simp only;cases eI K.m (ns.foldl (bX K.m) (bX K.m v.W y)) (r++a)with
      |false=>rfl
      |true=>
       rw[ae,ae,fD];congr 2
       .show(r++a).foldl (bX K.m) (ns.foldl (bX K.m) (bX K.m v.W y))=(r++(ns++a)).foldl (bX K.m) (bX K.m v.W y)
        rw[<-zM];refine Zp3 ?_ _;rw[<-fD,<-fD];grind
       .omega
theorem Zv6 (hm:64*K.m<=K.img.length) (v:bj) (hl:v.W.length=(K.m+63)/64) (hh:v.aU=[]):
  sY K v=match uX (K.img.take (64*K.m)) K.sup.dir with
   |none=>none
   |some (qs,bs)=>rW K v bs (ij (K.img.take (64*K.m)) K.sup.used v.aK qs [] [] 0):=by
 unfold sY uX;by_cases h0:K.sup.dir=0
 .rw[bw h0,h0]
  simp[ij,rW,eI]
 .rw[aW h0,show(K.sup.dir==0)=false by simpa using h0,af,Eo hm]
  unfold dN;cases hf:fu K.m v.W K.sup.dir with
  |false=>
   have cx: ∀r q,rW K v (K.sup.dir::r) q=none:=λr=>ZtB λa=>by
    show(fu K.m v.W K.sup.dir&&_)=false;rw[hf,eG]
   grind
  |true=>
  rw[(Eu hf).1,ae,ae];simp only;cases hD:kD (ZB K.img K.sup.dir.toNat)with
  |none=>
   cases hb:ZX (ZB K.img K.sup.dir.toNat)with
   |dir x=>rw[Xx.1 hb]at hD;cases hD
   |_=>rfl
  |some l=>
   rw[Xx.2 hD];simp only;have:=Zvy hm l [] { v with W:=bX K.m v.W K.sup.dir } ((uj K.m v.W K.sup.dir).trans hl) (by rw[hh];rfl);rw[yi]at this;rw[this];cases lX (K.img.take (64*K.m)) [] l with
   |none=>rfl
   |some qs=>
    simp only[dj];cases ij (K.img.take (64*K.m)) K.sup.used v.aK qs [] [] 0 with
    |none=>rfl
    |some p=>
     obtain⟨h,a,n⟩:=p;simp only[rW];rw[show eI K.m v.W (K.sup.dir::l++a)=(fu K.m v.W K.sup.dir&&eI K.m (bX K.m v.W K.sup.dir) (l++a))from rfl,hf,de];rfl
theorem Ztj {m:Int} {l:ak} {a:Int} (h:kZ l):(xQ m l a).length<=l.length+1:=by
 obtain⟨h1,h2⟩:=Lx (m:=m) (a:=a) h;refine gH (Cf (m:=a::l) h1.nodup λb hb=>?_) (by simp);rcases(h2 b).1 hb with h3|h3
 .exact rp _ h3
 .rw[h3.1];exact oa
theorem Zqa {m:Int} : ∀(all r q:ak),kZ r->nF m all r=some q->q.length<=all.length+r.length
 |[],r,q,_,h=>by cases h;simp
 |k::a,r,q,hr,h=>by
  unfold nF at h;cases h1:decide (k<2)with
  |true=>rw[h1]at h;cases h
  |false=>
   cases h2:decide (k∈r)with
   |true=>rw[h1,h2]at h;cases h
   |false=>
    rw[h1,h2]at h;have h3:=Zqa a _ q (Lx hr).1 h;have h4:=Ztj (m:=m) (a:=k) hr;rw[cH];omega
theorem Zw2 (hl:W.length=(m+63)/64) (h:fu m W k=true):xQ m (dJ W) k=dJ (bX m W k)/\(dJ (bX m W k)).length=(dJ W).length+1:=by
 obtain⟨h1,h2⟩:=Lx (m:=(m:Int)) (a:=k) (Ac W);have h3:=h;unfold fu fR at h3;simp only[aR,bq,kR]at h3;obtain⟨iL,⟨j9,qL⟩,oO⟩:=h3;have hn:k∉dJ W:=λhm=>by
  obtain⟨b,rfl,hb⟩:=qk.1 hm;rw[bu]at oO;rw[hb]at oO;cases oO
 have e:xQ m (dJ W) k=dJ (bX m W k):=GZ h1 (Ac _) λb=>by
  rw[h2,qk,qk];have fO: ∀c:Nat,dM (bX m W k) c=true↔dM W c=true\/c=k.toNat:=λc=>by
   rw[yB hl,lz,aR,bq];unfold fR;rw[aw j9,aw qL];simp
  constructor
  .rintro(⟨c,rfl,hc⟩|⟨rfl,_⟩)
   .exact⟨c,rfl,(fO c).2 (.inl hc)⟩
   .exact⟨b.toNat,by omega,(fO _).2 (.inr rfl)⟩
  .rintro⟨c,rfl,hc⟩
   rcases(fO c).1 hc with h4|h4
   .exact .inl ⟨c,rfl,h4⟩
   .exact .inr ⟨by omega,j9,qL⟩
 refine⟨e,Nat.le_antisymm ?_ ?_⟩
 .rw[<-e];exact Ztj (Ac W)
 .have:=Cf (l:=k::dJ W) (m:=dJ (bX m W k)) (yk.2 ⟨hn,(Ac W).nodup⟩) λb hb=>by
   rw[<-e,h2];rcases dC.1 hb with rfl|hb
   .exact .inr ⟨rfl,j9,qL⟩
   .exact .inl hb
  rwa [cH]at this
theorem Lg {m:Nat} : ∀(all:ak) (W:al),W.length=(m+63)/64->(∀b,dM W b=true->b<m)->dM W 0=true->
  (match nF m all (dJ W)with
   |none=>none
   |some q=>bif decide (q.length=all.length+(dJ W).length)then some q else none)=bif eI m W all then some (dJ (all.foldl (bX m) W))else none
 |[],W,_,_,_=>by simp[nF,eI]
 |k::a,W,hl,hm,h0=>by
  unfold nF eI;cases hf:fu m W k with
  |true=>
   obtain⟨e1,e2⟩:=Zw2 hl hf;have h3:=hf;unfold fu fR at h3;simp only[aR,bq,kR]at h3;obtain⟨iL,⟨j9,qL⟩,oO⟩:=h3;have hn:k∉dJ W:=λhm=>by
    obtain⟨b,rfl,hb⟩:=qk.1 hm;rw[bu]at oO;rw[hb]at oO;cases oO
   rw[aB (show ¬k<2 by omega),aB hn,af,af,e1,de];have ih:=Lg a (bX m W k) ((uj m W k).trans hl) (λb hb=>by
    rw[yB hl,lz,aR,bq]at hb;rcases hb with h4|h4
    .exact hm b h4
    .omega) (by rw[yB hl,h0,zJ])
   rw[e2]at ih;rw[cH,show a.length+1+(dJ W).length=a.length+((dJ W).length+1) by omega];exact ih
  |false=>
   rw[eG,af];by_cases h2:k<2
   .rw[aw h2];rfl
   rw[aB h2,af];by_cases hn:k∈dJ W
   .rw[aw hn];rfl
   rw[aB hn,af];have qL: ¬(0<=k/\k<(m:Int)/\k∉dJ W):=λ⟨a1,a2,a3⟩=>by
    unfold fu fR at hf;rw[aw (show k>=2 by omega),aw a1,aw a2]at hf;have:dM W k.toNat=true:=by simpa using hf
    exact a3 (qk.2 ⟨k.toNat,by omega,this⟩)
   rw[show xQ m (dJ W) k=dJ W from aW qL];cases hR:nF m a (dJ W)with
   |none=>rfl
   |some q=>
    have:=Zqa a _ q (Ac W) hR;simp only;rw[aB (by rw[cH];omega)];rfl
def q8 (g:Int) (s:bA):Bool:=bif (bif s.live then true else decide (s.gen<g))then true else s.block==0
structure Od (n:Nat) (out:List Int):Prop where
 nd:out.Nodup
 lt: ∀k∈out,0<=k/\k<(n:Int)
theorem Od.EX {out:ak} (h:Od n out):out.length<=n:=by
 have:=Cf (m:=ZR 0 n) h.nd λk hk=>by
  have:=h.lt k hk;unfold ZR;exact tN.2 ⟨k.toNat,yj.2 (by omega),by omega⟩
 unfold ZR at this;rwa [nY,JL]at this
theorem Zp2 {l:List bA} {g:Int} (hr: ∀s∈l,s.live=false->0<=s.block): ∀(f:Nat) (k:Int) (out:ak),0<=k->Od l.length out->l.length+1<=f+out.length->mm l l.length g (f+1) k out=mm l l.length g f k out
 |0,k,out,_,ho,h=>by have:=ho.EX;omega
 |f+1,k,out,hk,ho,h=>by
  conv=>lhs;unfold mm
  conv=>rhs;unfold mm
  cases h0:k==0 with
  |true=>rfl
  |false=>
  rw[af,af];have h0:k≠0:=by simpa using h0
  cases h1:decide (k>(l.length:Int))with
  |true=>rfl
  |false=>
  rw[af,af];have h1: ¬k>(l.length:Int):=BP h1;cases hg:l[(k-1).toNat]? with
  |none=>rfl
  |some s=>
  simp only;cases hv:s.live with
  |true=>rfl
  |false=>
  rw[af,af];cases decide (s.gen>=g)with
  |true=>rfl
  |false=>
  rw[af,af];cases hi:decide (k-1∈out)with
  |true=>rfl
  |false=>
   rw[af,af];exact Zp2 hr f _ _ (hr s (oZ hg) hv) ⟨vi.2 ⟨ho.nd,by simp,λa ha b hb e=>BP hi (by rw[cj.1 hb]at e;exact e▸ha)⟩,λa ha=>by
    rcases fE.1 ha with h2|h2
    .exact ho.lt a h2
    .rw[cj.1 h2];omega⟩ (by rw[bz,iw];omega)
theorem ZpD {K:bV} {v0:bj} {n:Nat} (hu:K.sup.used=(n:Int)) (hn:v0.aK.length=n) (hr: ∀s∈v0.aK,s.live=false->0<=s.block): ∀(f:Nat) (fl:List Bool) (k:Int) (v:bj) (out:ak),v= { v0 with free:=out } ->0<=k->fl.length=n->(∀j:Nat,fl.getD j false=decide ((j:Int)∈out))->
  match mm v0.aK K.sup.used K.sup.g f k out with
  |none=>qm K f fl k v=none
  |some o=>∃CK,qm K f fl k v=some (CK, { v0 with free:=o })/\∀j:Nat,CK.getD j false=decide ((j:Int)∈o)
 |0,_,_,_,_,_,_,_,_=>rfl
 |f+1,fl,k,v,out,hv,hk,hl,eu=>by
  unfold mm qm;cases h0:k==0 with
  |true=>exact⟨fl,by rw[hv];rfl,eu⟩
  |false=>
  rw[af,af];have h0:k≠0:=by simpa using h0
  by_cases h1:k>K.sup.used
  .rw[aw h1,aB (show ¬k<=K.sup.used by omega)];rfl
  rw[aB h1,aw (show k<=K.sup.used by omega),af,ae,hv];show match (match v0.aK[(k-1).toNat]? with|none=>none|some s=>_)with
   |none=>(match v0.aK[(k-1).toNat]? with|none=>none|some x=>_)=none
   |some o=>∃CK,(match v0.aK[(k-1).toNat]? with|none=>none|some x=>_)=some (CK, { v0 with free:=o })/\_
  cases hg:v0.aK[(k-1).toNat]? with
  |none=>rfl
  |some s=>
  simp only;rw[eu,show(((k-1).toNat:Nat):Int)=k-1 by omega,show decide (s.gen>=K.sup.g)= !decide (s.gen<K.sup.g) by rw[iQ];simp];cases xO:s.live with
  |true=>rfl
  |false=>
  cases decide (s.gen<K.sup.g)with
  |false=>rfl
  |true=>
  cases hi:decide (k-1∈out)with
  |true=>rfl
  |false=>
   refine ZpD hu hn hr f (fl.set (k-1).toNat true) s.block { v0 with free:=out++[k-1] } (out++[k-1]) rfl (hr s (oZ hg) xO) (by rw[lD];exact hl) λj=>?_
   have gA:(k-1).toNat<fl.length:=by omega
   rw[dX,List.getElem?_set,show decide ((j:Int)∈out++[k-1])=(decide ((j:Int)∈out)||decide ((j:Int)=k-1)) by rw[iQ];simp];by_cases hj:(k-1).toNat=j
   .rw[bw hj,bw gA,aw (show(j:Int)=k-1 by omega),Bool.or_true];rfl
   .rw[aW hj,aB (show ¬(j:Int)=k-1 by omega),Bool.or_false,<-eu,dX]
theorem Zta {K:bV} {out:ak} : ∀(l:List bA) (i:Nat) (fl:List Bool),(∀s∈l,s.gen<=K.sup.g/\q8 K.sup.g s=true)->(∀j,fl.getD j false=decide (((i+j:Nat):Int)∈out))->vv K fl l=rM K.sup.g out i l
 |[],_,_,_,_=>rfl
 |s::r,i,fl,hs,hf=>by
  obtain⟨h1,h2⟩:=hs s oa;have ih:=Zta r (i+1) (fl.drop 1) (λx hx=>hs x (rp _ hx)) λj=>by
   rw[show i+1+j=i+(j+1) by omega,<-hf,dX,dX,tM,sN 1 j]
  unfold vv rM;rw[ih,show EJ K (fl.getD 0 false) s=sC K.sup.g out i s from ?_]
  .cases sC K.sup.g out i s<;>rfl
  .unfold EJ sC
   unfold q8 at h2;rw[hf,fT];cases hl:s.live with
   |true=>rfl
   |false=>
    rw[hl,af]at h2;rw[af,af];by_cases hg:s.gen<K.sup.g
    .rw[aw hg,show(s.gen==K.sup.g)=false by simp;omega];rfl
    .rw[aB hg,af]at h2
     rw[aB hg,show(s.gen==K.sup.g)=true by simp;omega,ae,af,ae,h2]
theorem Zok {g:Int} {out:ak} : ∀(l:List bA) (i:Nat),(∀s∈l,s.gen<=g)->rM g out i l=true->l.all (q8 g)=true
 |[],_,_,_=>rfl
 |s::r,i,hg,h=>by
  unfold rM at h;cases hb:sC g out i s with
  |false=>rw[hb]at h;cases h
  |true=>
   rw[hb,ae]at h;rw[tL,Zok r (i+1) (λx hx=>hg x (rp _ hx)) h,wE];have:=hg s oa;unfold sC at hb;unfold q8;cases hl:s.live with
   |true=>rfl
   |false=>
    rw[hl,af]at hb;rw[af];by_cases h1:s.gen<g
    .rw[aw h1];rfl
    .rw[aB h1,af,show(s.gen==g)=true by simp;omega,ae]at hb
     rw[aB h1,hb];rfl
theorem ZxK (hx:qf K.sup) (hn:(v.aK.length:Int)=K.sup.used) (hr: ∀s∈v.aK,s.live=false->0<=s.block) (hg: ∀s∈v.aK,s.gen<=K.sup.g) (hf:v.free=[]):
  (bif v.aK.all (q8 K.sup.g)then uD K v else none)=(uC v.aK K.sup).map λo=> { v with free:=o } :=by
 unfold uD uC;have hu:K.sup.used.toNat=v.aK.length:=by omega
 have fw:=Zp2 (l:=v.aK) (g:=K.sup.g) hr (v.aK.length+1) K.sup.free [] hx.f0 ⟨.nil,λk hk=>nomatch hk⟩ (by simp);rw[hn]at fw;rw[fw];have oQ:=ZpD (K:=K) (v0:=v) hn.symm rfl hr (v.aK.length+1) (List.replicate v.aK.length false) K.sup.free v [] (by rw[<-hf]) hx.f0 (by simp) λj=>by
  rw[dX,List.getElem?_replicate];split<;>rfl
 rw[hu];cases hL:mm v.aK K.sup.used K.sup.g (v.aK.length+1) K.sup.free []with
 |none=>
  rw[hL]at oQ;simp only at oQ;rw[oQ];cases v.aK.all (q8 K.sup.g)<;>rfl
 |some o=>
  rw[hL]at oQ;obtain⟨fl,e,he⟩:=oQ;rw[e];simp only[Cp];cases ha:v.aK.all (q8 K.sup.g)with
  |false=>
   cases hR:rM K.sup.g o 0 v.aK with
   |false=>rfl
   |true=>rw[Zok _ 0 hg hR]at ha;cases ha
  |true=>
   rw[Zta (out:=o) v.aK 0 fl (λs hs=>⟨hg s hs,lA.1 ha s hs⟩) λj=>by rw[ej];exact he j];cases rM K.sup.g o 0 v.aK<;>rfl
def nf (K:bV):Int->List bA->List bA->Option (List bA)
 |_,[],l=>some l
 |k,x::r,l=>bif decide (k>=K.sup.used)then(bif nD x then nf K (k+1) r l else none)else(bif uq K.sup x then nf K (k+1) r (l++[x])else none)
theorem Zns (K:bV) (k:Int) (x:bA) (r l:List bA):nf K k (x::r) l=bif decide (k>=K.sup.used)then(bif nD x then nf K (k+1) r l else none)else(bif uq K.sup x then nf K (k+1) r (l++[x])else none):=rfl
theorem TV {K:bV} : ∀(x:List bA) (k:Int) (v:bj),oq K k x v=(nf K k x v.aK).map λs=> { v with aK:=s }
 |[],_,_=>rfl
 |x::r,k,v=>by
  unfold oq nf rG;cases decide (k>=K.sup.used)with
  |true=>
   rw[ae,ae];cases nD x with
   |false=>rfl
   |true=>exact TV r _ v
  |false=>
   rw[af,af];cases uq K.sup x with
   |false=>rfl
   |true=>exact TV r _ _
theorem Eh {K:bV} : ∀(a b:List bA) (k:Int) (l:List bA),nf K k (a++b) l=match nf K k a l with
  |none=>none
  |some l'=>nf K (k+a.length) b l'
 |[],b,k,l=>by simp[nf]
 |x::a,b,k,l=>by
  rw[nr,cH,show k+((a.length+1:Nat):Int)=k+1+a.length by omega,Zns,Zns];cases decide (k>=K.sup.used)with
  |true=>
   rw[ae,ae];cases nD x with
   |false=>rfl
   |true=>exact Eh a b _ _
  |false=>
   rw[af,af];cases uq K.sup x with
   |false=>rfl
   |true=>exact Eh a b _ _
def tf (u:Nat) (g:Int):Nat->List bA->List bA->Option (List bA)
 |_,[],l=>some l
 |i,s::r,l=>bif decide (u<=i)then(bif nD s then tf u g (i+1) r l else none)else(bif decide (s.gen<1)||decide (s.gen>g)then none else tf u g (i+1) r (l++[s]))
theorem Rs {u:Nat} {g:Int} : ∀(r:List bA) (i:Nat) (l l':List bA),tf u g i r l=some l'->∃t,l'=l++t
 |[],_,l,l',h=>⟨[],by cases h;rw[gG]⟩
 |s::r,i,l,l',h=>by
  unfold tf at h;cases h1:decide (u<=i)with
  |true=>
   cases h2:nD s with
   |false=>rw[h1,h2]at h;cases h
   |true=>rw[h1,h2]at h;exact Rs r _ _ _ h
  |false=>
   cases h2:decide (s.gen<1)||decide (s.gen>g)with
   |true=>rw[h1,h2]at h;cases h
   |false=>
    rw[h1,h2]at h;obtain⟨t,rfl⟩:=Rs r _ _ _ h;simp
theorem Tt {K:bV} {u:Nat} (hu:K.sup.used=(u:Int)): ∀(r:List bA) (i:Nat) (l:List bA),l.all (q8 K.sup.g)=true->nf K (i:Int) r l=match tf u K.sup.g i r l with
  |none=>none
  |some l'=>bif l'.all (q8 K.sup.g)then some l' else none
 |[],_,l,h=>by simp[nf,tf,h]
 |s::r,i,l,h=>by
  unfold nf tf;rw[hu,show decide ((i:Int)>=(u:Int))=decide (u<=i)from decide_eq_decide.2 (by omega),show(i:Int)+1=((i+1:Nat):Int) by omega];cases decide (u<=i)with
  |true=>
   rw[ae,ae];cases nD s with
   |false=>rfl
   |true=>exact Tt hu r _ l h
  |false=>
   rw[af,af];have ho:uq K.sup s=(!(decide (s.gen<1)||decide (s.gen>K.sup.g))&&q8 K.sup.g s):=by
    grind[uq,q8]
   rw[ho];cases decide (s.gen<1)||decide (s.gen>K.sup.g)with
   |true=>rfl
   |false=>
    rw[bp,de,af];cases ht:q8 K.sup.g s with
    |true=>exact Tt hu r _ _ (by rw[rj,h,tL,ht];rfl)
    |false=>
     cases hS:tf u K.sup.g (i+1) r (l++[s])with
     |none=>rfl
     |some l'=>
      obtain⟨t,rfl⟩:=Rs r _ _ _ hS;grind
def jQ (im:aj) (c:Nat):Nat->ak->Option (ak×List bA)
 |_,[]=>some ([],[])
 |p,y::r=>bif (!(y==0))==decide (p<c)then(bif y==0 then jQ im c (p+1) r else match jR im y with
   |none=>none
   |some l=>match jQ im c (p+1) r with
    |none=>none
    |some (bs,ls)=>some (y::bs,l++ls))else none
def mS (im:aj) (c:Nat):Nat->ak->Option (ak×List bA)
 |_,[]=>some ([],[])
 |i,y::r=>bif (!(y==0))==decide (16*i<c)then(bif y==0 then mS im c (i+1) r else match gz im y with
   |none=>none
   |some g=>match jQ im c (16*i) g with
    |none=>none
    |some (bs,ls)=>match mS im c (i+1) r with
     |none=>none
     |some (gu,zw)=>some (y::(bs++gu),ls++zw))else none
theorem ZqW {im:aj} {c:Nat} : ∀(g:ak) (p:Nat) (q:ak×List bA),c<=p->jQ im c p g=some q->q=([],[])
 |[],_,_,_,h=>by cases h;rfl
 |y::r,p,q,hp,h=>by
  unfold jQ at h;rw[aB (show ¬p<c by omega)]at h;cases hy:y==0 with
  |false=>rw[hy]at h;cases h
  |true=>rw[hy]at h;exact ZqW r _ _ (by omega) h
theorem Ll {im:aj} {c:Nat} : ∀(g:ak) (p:Nat) (bs:ak) (ls:List bA),jQ im c p g=some (bs,ls)->ls.length=7*min g.length (c-p)
 |[],_,_,_,h=>by cases h;simp
 |y::r,p,bs,ls,h=>by
  unfold jQ at h;cases hc:(!(y==0))==decide (p<c)with
  |false=>rw[hc]at h;cases h
  |true=>
  rw[hc,ae]at h;cases hy:y==0 with
  |true=>
   rw[hy]at h hc;have hd:decide (p<c)=false:=by grind
   have:=BP hd;rw[Ll r (p+1) bs ls h,cH];omega
  |false=>
   rw[hy]at h hc;have hd:decide (p<c)=true:=by grind
   have:=iR hd;rw[af]at h;cases hL:jR im y with
   |none=>rw[hL]at h;cases h
   |some l=>
    cases hK:jQ im c (p+1) r with
    |none=>rw[hL,hK]at h;cases h
    |some q=>
     rw[hL,hK]at h;cases h;have h1:=Ll r (p+1) _ _ hK;have h2:=KR im y;rw[hL]at h2;have h2:l.length=7:=h2;rw[bz,h1,h2,cH];omega
theorem SA {im:aj} {c:Nat} : ∀(f:ak) (i:Nat) (q:ak×List bA),c<=16*i->mS im c i f=some q->q=([],[])
 |[],_,_,_,h=>by cases h;rfl
 |y::r,i,q,hp,h=>by
  unfold mS at h;rw[aB (show ¬16*i<c by omega)]at h;cases hy:y==0 with
  |false=>rw[hy]at h;cases h
  |true=>rw[hy]at h;exact SA r _ _ (by omega) h
theorem ZuD {l:List bA} (h:jR im y=some l):l.length=7:=by
 have:=KR im y;rwa [h]at this
theorem Sc {l:ak} (h:gz im y=some l):l.length=16:=by
 have:=Hk im y;rwa [h]at this
def xZ (K:bV) (v:bj) (k:Int):Option (ak×List bA)->Option bj
 |none=>none
 |some (bs,ls)=>bif eI K.m v.W bs then(nf K k ls v.aK).map (λs=> { v with aK:=s,W:=bs.foldl (bX K.m) v.W })else none
theorem ZvN (h:fu K.m v.W y=false) (bs:ak) (ls:List bA):xZ K v k (some (y::bs,ls))=none:=by
 grind[xZ,eI]
theorem SX {K:bV} (hm:64*K.m<=K.img.length) {c x5:Nat} : ∀(g:ak) (k:Nat) (v:bj),lg K (c:Int) (x5:Int) (k:Int) g v=xZ K v ((7*(16*x5+k):Nat):Int) (jQ (K.img.take (64*K.m)) c (16*x5+k) g)
 |[],_,_=>rfl
 |y::r,k,v=>by
  unfold lg jQ;rw[show decide ((x5:Int)*16+(k:Int)<(c:Int))=decide (16*x5+k<c)from decide_eq_decide.2 (by omega),show(k:Int)+1=((k+1:Nat):Int) by omega];cases hc:(!(y==0))==decide (16*x5+k<c)with
  |false=>rfl
  |true=>
  rw[ae,ae];cases hy:y==0 with
  |true=>
   rw[hy]at hc;have j7:c<=16*x5+k:=by
    grind
   show lg K (c:Int) (x5:Int) ((k+1:Nat):Int) r v=xZ K v _ (jQ (K.img.take (64*K.m)) c (16*x5+(k+1)) r);rw[SX hm r (k+1) v];cases hK:jQ (K.img.take (64*K.m)) c (16*x5+(k+1)) r with
   |none=>rfl
   |some q=>rw[ZqW r _ q (by omega) hK];rfl
  |false=>
   have V6:y≠0:=by simpa using hy
   rw[bp,ae,af];unfold nP dN jR;rw[aW V6,Eo hm];cases hf:fu K.m v.W y with
   |false=>
    rw[af];simp only;cases(bif fR K.m y then some (ZB K.img y.toNat)else none)with
    |none=>rfl
    |some ln=>
     simp only;cases ZH ln with
     |none=>rfl
     |some l=>
      simp only;cases jQ (K.img.take (64*K.m)) c (16*x5+k+1) r with
      |none=>rfl
      |some q=>exact(ZvN hf _ _).symm
   |true=>
   rw[(Eu hf).1,ae,ae];simp only;cases hL:ZH (ZB K.img y.toNat)with
   |none=>
    cases hb:ZX (ZB K.img y.toNat)with
    |leaf x=>rw[Xy.1 hb]at hL;cases hL
    |_=>rfl
   |some l=>
    rw[Xy.2 hL];simp only;rw[TV,show((x5:Int)*16+(k:Int))*7=((7*(16*x5+k):Nat):Int) by omega];have h7:l.length=7:=GK hL;have ih:=λv'=>SX hm (c:=c) (x5:=x5) r (k+1) v'
    rw[show 16*x5+k+1=16*x5+(k+1) by omega];cases hS:nf K ((7*(16*x5+k):Nat):Int) l v.aK with
    |none=>
     cases jQ (K.img.take (64*K.m)) c (16*x5+(k+1)) r with
     |none=>rfl
     |some q=>
      simp only[xZ,Eh,hS];cases eI K.m v.W (y::q.1)<;>rfl
    |some s=>
     simp only[mb];rw[ih];cases jQ (K.img.take (64*K.m)) c (16*x5+(k+1)) r with
     |none=>rfl
     |some q=>
      simp only[xZ,Eh,hS];rw[show eI K.m v.W (y::q.1)=(fu K.m v.W y&&eI K.m (bX K.m v.W y) q.1)from rfl,hf,de,h7,show((7*(16*x5+k):Nat):Int)+((7:Nat):Int)=((7*(16*x5+(k+1)):Nat):Int) by omega];rfl
theorem Tb {K:bV} (hm:64*K.m<=K.img.length) {c:Nat} : ∀(f:ak) (i:Nat) (v:bj),pG K (c:Int) (i:Int) f v=xZ K v ((112*i:Nat):Int) (mS (K.img.take (64*K.m)) c i f)
 |[],_,_=>rfl
 |y::r,i,v=>by
  unfold pG mS;rw[show decide ((i:Int)*16<(c:Int))=decide (16*i<c)from decide_eq_decide.2 (by omega),show(i:Int)+1=((i+1:Nat):Int) by omega];cases hc:(!(y==0))==decide (16*i<c)with
  |false=>rfl
  |true=>
  rw[ae,ae];cases hy:y==0 with
  |true=>
   rw[hy]at hc;have j7:c<=16*i:=by
    grind
   rw[ae,ae,Tb hm r (i+1) v];cases hK:mS (K.img.take (64*K.m)) c (i+1) r with
   |none=>rfl
   |some q=>rw[SA r _ q (by omega) hK];rfl
  |false=>
   have V6:y≠0:=by simpa using hy
   rw[af,af];unfold dN gz;rw[aW V6,Eo hm];cases hf:fu K.m v.W y with
   |false=>
    rw[af];simp only;cases(bif fR K.m y then some (ZB K.img y.toNat)else none)with
    |none=>rfl
    |some ln=>
     simp only;cases Z0 ln with
     |none=>rfl
     |some g=>
      simp only;cases jQ (K.img.take (64*K.m)) c (16*i) g with
      |none=>rfl
      |some q=>
       simp only;cases mS (K.img.take (64*K.m)) c (i+1) r with
       |none=>rfl
       |some q'=>exact(ZvN hf _ _).symm
   |true=>
   rw[(Eu hf).1,ae,ae];simp only;cases hL:Z0 (ZB K.img y.toNat)with
   |none=>
    cases hb:ZX (ZB K.img y.toNat)with
    |cc x=>rw[Mc.1 hb]at hL;cases hL
    |_=>rfl
   |some g=>
    rw[Mc.2 hL];simp only;have h2:=SX hm (c:=c) (x5:=i) g 0 { v with W:=bX K.m v.W y };rw[fT,Int.ofNat_zero]at h2;rw[h2];have ih:=λv'=>Tb hm (c:=c) r (i+1) v'
    cases hk:jQ (K.img.take (64*K.m)) c (16*i) g with
    |none=>rfl
    |some q=>
     obtain⟨bs,ls⟩:=q;simp only[xZ];have ew: ∀b',eI K.m v.W (y::(bs++b'))=(eI K.m (bX K.m v.W y) bs&&eI K.m (bs.foldl (bX K.m) (bX K.m v.W y)) b'):=λb'=>by
      rw[<-Aj];show(fu K.m v.W y&&_)=_;rw[hf,de]
     rw[show 7*(16*i)=112*i by omega];cases hF:eI K.m (bX K.m v.W y) bs with
     |false=>
      grind
     |true=>
      rw[ae];cases hS:nf K ((112*i:Nat):Int) ls v.aK with
      |none=>
       cases mS (K.img.take (64*K.m)) c (i+1) r with
       |none=>rfl
       |some q=>
        simp only[Eh,hS];cases eI K.m v.W (y::(bs++q.1))<;>rfl
      |some s=>
       simp only[mb];rw[ih];cases hW:mS (K.img.take (64*K.m)) c (i+1) r with
       |none=>rfl
       |some q=>
        obtain⟨gu,zw⟩:=q;simp only[xZ,Eh,hS,ew,hF,de,DH,zM];rw[show nf K (((112*i:Nat):Int)+(ls.length:Int)) zw s=nf K ((112*(i+1):Nat):Int) zw s from ?_];by_cases aho:16*i+16<=c
        .rw[Ll g (16*i) bs ls hk,RB hL,show((112*i:Nat):Int)+((7*min 16 (c-16*i):Nat):Int)=((112*(i+1):Nat):Int) by omega]
        .cases SA r (i+1) _ (by omega) hW
         rfl
theorem Sx (im:aj):jR im 0=some nc:=by rfl
theorem K8 (im:aj):gz im 0=some rY:=by rfl
theorem Cj (acc:ak):cy acc 0=acc:=rfl
theorem Cd (acc:ak) (h:k≠0):cy acc k=acc++[k]:=by
 grind[cy]
theorem RS (im:aj) (acc:ak): ∀n,mj im acc (List.replicate n 0)=some acc
 |0=>rfl
 |n+1=>by
  rw[Gd];unfold mj;rw[Sx,Cj];exact RS im acc n
theorem ZpS (im:aj) (acc:ak): ∀n,ou im acc (List.replicate n 0)=some acc
 |0=>rfl
 |n+1=>by
  rw[Gd];unfold ou;rw[K8,Cj];simp only;rw[show mj im acc rY=some acc from RS im acc 16];exact ZpS im acc n
theorem agree {b:Bool} (h:((!(y==0))==b)=true):(y=0/\b=false)\/(y≠0/\b=true):=by
 grind
theorem Zu3 {bs:ak} {ls:List bA} (h:jQ im c p (y::r)=some (bs,ls)):
  (y=0/\c<=p/\jQ im c (p+1) r=some (bs,ls))\/∃l gu zw,y≠0/\p<c/\jR im y=some l/\jQ im c (p+1) r=some (gu,zw)/\bs=y::gu/\ls=l++zw:=by
 grind[jQ]
theorem Td {im:aj} {c:Nat} : ∀(g:ak) (p:Nat) (bs:ak) (ls:List bA),jQ im c p g=some (bs,ls)->(∀acc,mj im acc g=some (acc++bs))/\bs.length=min g.length (c-p)/\∀j t,t<7->p+j<c->j<g.length->ls[7*j+t]? =(jR im (g.getD j 0)).bind (·[t]?)
 |[],_,_,_,h=>by
  cases h;simp[mj]
 |y::r,p,bs,ls,h=>by
  rcases Zu3 h with⟨rfl,hc,hk⟩|⟨l,gu,zw,hy,hc,hL,hk,rfl,rfl⟩
  .obtain⟨h1,h2,h3⟩:=Td r (p+1) bs ls hk
   refine⟨λacc=>?_,by rw[h2,cH];omega,λj t _ hj _=>by omega⟩;grind[mj,Sx,Cj]
  .obtain⟨h1,h2,h3⟩:=Td r (p+1) gu zw hk
   have Vm:=ZuD hL;refine⟨λacc=>?_,by rw[cH,h2,cH];omega,λj t ht hj tC=>?_⟩
   .unfold mj
    rw[hL,Cd acc hy];grind
   .cases j with
    |zero=>
     rw[Nat.mul_zero,ej,l8 (by omega)];grind
    |succ j=>
     rw[jY (by omega),Vm,show 7*(j+1)+t-7=7*j+t by omega];grind
def xW (c i n:Nat):Nat:=min (16*n) (c-16*i)+min n ((c+15)/16-i)
theorem Tp {im:aj} {c:Nat} : ∀(f:ak) (i:Nat) (bs:ak) (ls:List bA),mS im c i f=some (bs,ls)->(∀acc,ou im acc f=some (acc++bs))/\bs.length=xW c i f.length/\ls.length=7*min (16*f.length) (c-16*i)/\∀q t,t<7->16*i+q<c->q<16*f.length->ls[7*q+t]? =(gz im (f.getD (q/16) 0)).bind λg=>(jR im (g.getD (q%16) 0)).bind (·[t]?)
 |[],_,_,_,h=>by
  cases h;simp[ou,xW]
 |y::r,i,bs,ls,h=>by
  unfold mS at h;cases hc:(!(y==0))==decide (16*i<c)with
  |false=>rw[hc]at h;cases h
  |true=>
  rw[hc,ae]at h;rcases agree hc with⟨rfl,hd⟩|⟨hy,hd⟩
  .have hd:=BP hd
   obtain⟨h1,h2,h3,h4⟩:=Tp r (i+1) bs ls h;refine⟨λacc=>?_,by rw[h2,cH];unfold xW;omega,by rw[h3,cH];omega,λj t _ hj _=>by omega⟩;unfold ou;rw[K8,Cj];simp only;rw[show mj im acc rY=some acc from RS im acc 16];exact h1 acc
  .have hd:=iR hd
   rw[show(y==0)=false by simpa using hy,af]at h;cases hL:gz im y with
   |none=>rw[hL]at h;cases h
   |some g=>
   rw[hL]at h;simp only at h;cases hK:jQ im c (16*i) g with
   |none=>rw[hK]at h;cases h
   |some q=>
   obtain⟨b1,l1⟩:=q;rw[hK]at h;simp only at h;cases hF:mS im c (i+1) r with
   |none=>rw[hF]at h;cases h
   |some q=>
   obtain⟨b2,l2⟩:=q;rw[hF]at h;cases h;obtain⟨h1,h2,h3,h4⟩:=Tp r (i+1) b2 l2 hF;obtain⟨k1,k2,k3⟩:=Td g (16*i) b1 l1 hK;have k4:=Ll g (16*i) b1 l1 hK;have hg:=Sc hL;rw[hg]at k2 k3 k4;refine⟨λacc=>?_,by rw[cH,bz,h2,k2,cH];unfold xW;omega,by rw[bz,h3,k4,cH];omega,λq t ht hq y8=>?_⟩
   .unfold ou
    rw[hL,Cd acc hy];grind
   .rcases jH q 16 with sb|sb
    .rw[l8 (by omega),show q/16=0 by omega,show q%16=q by omega,k3 q t ht hq sb]
     grind
    .rw[jY (by omega),show 7*q+t-l1.length=7*(q-16)+t by omega,h4 (q-16) t ht (by omega) (by rw[cH]at y8;omega),show q/16=(q-16)/16+1 by omega,show q%16=(q-16)%16 by omega]
     rfl
theorem ZrT {im:aj} {c:Nat} : ∀(g:ak) (p:Nat) (acc qz:ak),mj im acc g=some qz->(∀j,j<g.length->p+j<c->g.getD j 0≠0)->acc.length+min g.length (c-p)<=qz.length/\(qz.length=acc.length+min g.length (c-p)->∃q,jQ im c p g=some q)
 |[],_,_,_,h,_=>by cases h;exact⟨by simp,λ_=>⟨_,rfl⟩⟩
 |y::r,p,acc,qz,h,hn=>by
  unfold mj at h;cases hL:jR im y with
  |none=>rw[hL]at h;cases h
  |some l=>
  rw[hL]at h;simp only at h;obtain⟨h1,h2⟩:=ZrT (c:=c) r (p+1) (cy acc y) qz h λj hj hc=>by
   have:=hn (j+1) (by rw[cH];omega) (by omega);exact this
  rw[cH];unfold jQ;by_cases hc:p<c
  .have hy:y≠0:=hn 0 (by simp) hc
   rw[Cd acc hy,bz,iw]at h1 h2;grind
  .by_cases hy:y=0
   .subst hy
    rw[Cj]at h1 h2;grind
   .rw[Cd acc hy,bz,iw]at h1 h2
    omega
theorem Zrt {im:aj} {c:Nat} : ∀(f:ak) (i:Nat) (acc qz:ak),ou im acc f=some qz->(∀a,a<f.length->16*(i+a)<c->f.getD a 0≠0)->(∀a g j,a<f.length->gz im (f.getD a 0)=some g->j<16->16*(i+a)+j<c->g.getD j 0≠0)->acc.length+xW c i f.length<=qz.length/\(qz.length=acc.length+xW c i f.length->∃q,mS im c i f=some q)
 |[],_,_,_,h,_,_=>by cases h;exact⟨by simp[xW],λ_=>⟨_,rfl⟩⟩
 |y::r,i,acc,qz,h,hn,hg=>by
  unfold ou at h;cases hL:gz im y with
  |none=>rw[hL]at h;cases h
  |some g=>
  rw[hL]at h;simp only at h;cases hK:mj im (cy acc y) g with
  |none=>rw[hK]at h;cases h
  |some a2=>
  rw[hK]at h;simp only at h;have lR:=Sc hL;obtain⟨h1,h2⟩:=Zrt (c:=c) r (i+1) a2 qz h (λa ha hc=>hn (a+1) (by rw[cH];omega) (by omega)) λa g' j ha hf hj hc=>hg (a+1) g' j (by rw[cH];omega) hf hj (by omega)
  obtain⟨k1,k2⟩:=ZrT (c:=c) g (16*i) (cy acc y) a2 hK λj hj hc=>hg 0 g j (by simp) hL (by omega) (by omega)
  rw[lR]at k1 k2;rw[cH];unfold mS;unfold xW at h1 h2⊢;by_cases hc:16*i<c
  .have hy:y≠0:=hn 0 (by simp) (by omega)
   rw[Cd acc hy,bz,iw]at k1 k2;refine⟨by omega,λhe=>?_⟩;obtain⟨q,hq⟩:=h2 (by omega);obtain⟨q',y7⟩:=k2 (by omega);rw[show(y==0)=false by simpa using hy,aw hc,hL,hq];grind
  .by_cases hy:y=0
   .subst hy
    rw[Cj]at k1 k2;refine⟨by omega,λhe=>?_⟩;obtain⟨q,hq⟩:=h2 (by omega);rw[aB hc,hq];exact⟨_,rfl⟩
   .rw[Cd acc hy,bz,iw]at k1 k2
    exact⟨by omega,λhe=>by omega⟩
theorem Znv {im:aj} {top:Int} {u:Nat} {g:Int} : ∀(ls:List bA) (i:Nat) (l:List bA),(∀j,j<ls.length->lP im top (i+j)=ls[j]?)->lj im top u g ls.length i l=tf u g i ls l
 |[],_,_,_=>rfl
 |s::r,i,l,h=>by
  rw[cH];unfold lj tf;rw[show lP im top i=some s from h 0 (by simp)];simp only;have ih:=λl=>Znv (u:=u) (g:=g) r (i+1) l λj hj=>by
   have:=h (j+1) (by rw[cH];omega);rw[show i+1+j=i+(j+1) by omega,this];rfl
  rw[ih,ih]
theorem Zoa {im:aj} {top:Int} {u:Nat} {g:Int} : ∀(c i:Nat) (l l':List bA),lj im top u g c i l=some l'->∀j,i<=j->j<i+c->j<u->∃s,lP im top j=some s/\1<=s.gen
 |0,_,_,_,_,_,_,_,_=>by omega
 |c+1,i,l,l',h,j,h1,h2,h3=>by
  unfold lj at h;cases hF:lP im top i with
  |none=>rw[hF]at h;cases h
  |some s=>
  rw[hF]at h;simp only at h;rw[aB (show ¬u<=i by omega),af]at h;cases hb:decide (s.gen<1)||decide (s.gen>g)with
  |true=>rw[hb]at h;cases h
  |false=>
   rw[hb]at h;by_cases e:j=i
   .grind
   .exact Zoa c (i+1) _ _ h j (by omega) (by omega) h3
theorem ZvF {x:eC} {u:Nat} (hu:x.used=(u:Int)) (h0:0<u) (h1:u<=1792) (hf:x.cc≠0):qy im x=match gz im x.cc with
  |none=>none
  |some f=>match mS im ((u+6)/7) 0 f with
   |none=>none
   |some (bs,ls)=>match tf u x.g 0 ls []with
    |none=>none
    |some l=>some (l,x.cc::bs):=by
 unfold qy xb;have V0:x.used.toNat=u:=by omega
 rw[V0];cases hL:gz im x.cc with
 |none=>rfl
 |some f=>
 have eu:=Sc hL;simp only;rw[Cd [] hf,gU];have Yq:1+xW ((u+6)/7) 0 16=(u+6)/7+oE u:=by
  grind[xW,oE]
 cases hW:mS im ((u+6)/7) 0 f with
 |some q=>
  obtain⟨bs,ls⟩:=q;obtain⟨a1,a2,a3,a4⟩:=Tp f 0 bs ls hW;rw[eu]at a2 a3 a4;rw[a1];simp only;rw[aw (show([x.cc]++bs).length=(u+6)/7+oE u by rw[bz,iw,a2];exact Yq),ae,show 7*((u+6)/7)=ls.length by omega,Znv ls 0 [] λj hj=>?_]
  .rfl
  .have:=a4 (j/7) (j%7) (Nat.mod_lt _ (by decide)) (by omega) (by omega)
   rw[show 7*(j/7)+j%7=j by omega]at this;rw[this,ej];grind[lP]
 |none=>
  cases hG:ou im [x.cc] f with
  |none=>rfl
  |some pg=>
  simp only;cases hd:decide (pg.length=(u+6)/7+oE u)with
  |false=>rfl
  |true=>
  rw[ae];cases hS:lj im x.cc u x.g (7*((u+6)/7)) 0 []with
  |none=>rfl
  |some l=>
   exfalso;have H9: ∀a j,a<16->j<16->16*a+j<(u+6)/7->∃g,gz im (f.getD a 0)=some g/\g.getD j 0≠0:=λa j ha hj hc=>by
    obtain⟨s,hs,hg⟩:=Zoa _ _ _ _ hS (7*(16*a+j)) (cn _) (by omega) (by omega);unfold lP at hs;rw[hL]at hs;simp only at hs;rw[show 7*(16*a+j)/112=a by omega,show 7*(16*a+j)/7%16=j by omega]at hs;cases hA:gz im (f.getD a 0)with
    |none=>rw[hA]at hs;cases hs
    |some g=>
     rw[hA]at hs;refine⟨g,rfl,λe=>?_⟩;simp only at hs;rw[e,Sx,show 7*(16*a+j)%7=0 by omega]at hs;cases hs;exact absurd hg (by decide)
   obtain⟨_,b2⟩:=Zrt (c:=(u+6)/7) f 0 [x.cc] pg hG (λa ha hc e=>by
    obtain⟨g,hg,hn⟩:=H9 a 0 (by omega) (by decide) (by omega);rw[e,K8]at hg;cases hg;exact hn rfl) λa g j ha hg hj hc=>by
    grind
   grind
theorem Zwi (hx:qf K.sup) (hm:64*K.m<=K.img.length) (v:bj) (hs:v.aK=[]):qu K v=match qy (K.img.take (64*K.m)) K.sup with
  |none=>none
  |some (l,pg)=>bif eI K.m v.W pg&&l.all (q8 K.sup.g)then some { v with aK:=l,W:=pg.foldl (bX K.m) v.W } else none:=by
 obtain⟨g1,g2,g3,g4,g5,g6⟩:=Z3 hx.g;have vY:=hx.u0;have zg:=hx.u1;obtain⟨u,hu⟩: ∃u:Nat,K.sup.used=(u:Int):=⟨K.sup.used.toNat,by omega⟩;by_cases h0:u=0
 .subst h0
  have hf:=hx.t0 hu;unfold qu qy xb;rw[hu,hf,K8];simp only;rw[Cj,show ou (K.img.take (64*K.m)) [] rY=some []from ZpS _ [] 16];show some v=some { v with aK:=[],W:=v.W };rw[<-hs]
 .have hf:=hx.t1 (by omega)
  have nK:K.sup.cc≠0:=(λe=>by rw[e]at hf;cases hf);rw[ZvF hu (by omega) (by omega) nK];unfold qu dN gz;rw[aW nK,Eo hm,show(K.sup.used==0)=false by rw[hu];simp;omega,af];cases ew:fu K.m v.W K.sup.cc with
  |false=>
   rw[af];simp only;cases(bif fR K.m K.sup.cc then some (ZB K.img K.sup.cc.toNat)else none)with
   |none=>rfl
   |some ln=>
    simp only;cases Z0 ln with
    |none=>rfl
    |some g=>
     simp only;cases mS (K.img.take (64*K.m)) ((u+6)/7) 0 g with
     |none=>rfl
     |some q=>
      simp only;cases tf u K.sup.g 0 q.2 []with
      |none=>rfl
      |some l=>
       show none=bif (fu K.m v.W K.sup.cc&&_)&&_ then _ else _;rw[ew];rfl
  |true=>
  rw[(Eu ew).1,ae,ae];simp only;cases hL:Z0 (ZB K.img K.sup.cc.toNat)with
  |none=>
   cases hb:ZX (ZB K.img K.sup.cc.toNat)with
   |cc x=>rw[Mc.1 hb]at hL;cases hL
   |_=>rfl
  |some f=>
   rw[Mc.2 hL];simp only;rw[hu,Zst (by omega)];have h1:=Tb hm (c:=(u+6)/7) f 0 { v with W:=bX K.m v.W K.sup.cc };rw[Int.ofNat_zero]at h1;rw[h1];cases mS (K.img.take (64*K.m)) ((u+6)/7) 0 f with
   |none=>rfl
   |some q=>
    obtain⟨bs,ls⟩:=q;simp only[xZ];have gZ:=Tt hu ls 0 [] rfl;rw[hs];rw[Int.ofNat_zero]at gZ;rw[gZ];cases tf u K.sup.g 0 ls []with
    |none=>cases eI K.m (bX K.m v.W K.sup.cc) bs<;>rfl
    |some l=>
     simp only;rw[show eI K.m v.W (K.sup.cc::bs)=(fu K.m v.W K.sup.cc&&eI K.m (bX K.m v.W K.sup.cc) bs)from rfl,ew,de];cases eI K.m (bX K.m v.W K.sup.cc) bs<;>cases l.all (q8 K.sup.g)<;>rfl
theorem Sj {im:aj} {top:Int} {u:Nat} {g:Int} : ∀(c i:Nat) (l l':List bA),lj im top u g c i l=some l'->(∀s∈l,s.gen<=g)->∀s∈l',s.gen<=g
 |0,_,_,_,h,hg=>by cases h;exact hg
 |c+1,i,l,l',h,hg=>by
  unfold lj at h;cases hF:lP im top i with
  |none=>rw[hF]at h;cases h
  |some s=>
  rw[hF]at h;simp only at h;cases hu:decide (u<=i)with
  |true=>
   rw[hu,ae]at h;cases hs:nD s with
   |false=>rw[hs]at h;cases h
   |true=>rw[hs]at h;exact Sj c _ _ _ h hg
  |false=>
   rw[hu,af]at h;cases hb:decide (s.gen<1)||decide (s.gen>g)with
   |true=>rw[hb]at h;cases h
   |false=>
    rw[hb]at h;rw[wF,ry,ry]at hb;refine Sj c _ _ _ h λy hy=>?_
    rcases fE.1 hy with hy|hy
    .exact hg y hy
    .rw[cj.1 hy];omega
theorem ZtN {x:eC} {l:List bA} (h:qy im x=some (l,pg)): ∀s∈l,s.gen<=x.g:=by
 unfold qy at h;cases hP:xb im x.cc with
 |none=>rw[hP]at h;cases h
 |some pg'=>
  rw[hP]at h;simp only at h;cases hd:decide (pg'.length=(x.used.toNat+6)/7+oE x.used.toNat)with
  |false=>rw[hd]at h;cases h
  |true=>
   rw[hd,ae]at h;cases hS:lj im x.cc x.used.toNat x.g (7*((x.used.toNat+6)/7)) 0 []with
   |none=>rw[hS]at h;cases h
   |some l'=>
    rw[hS]at h;cases h;exact Sj _ _ _ _ hS λs hs=>nomatch hs
theorem Ztg (h:16<=m:=by omega):dJ (kM m [0,1])=[0,1]:=by
 refine GZ (Ac _) (by unfold kZ;simp) λk=>?_
 rw[qk];constructor
 .rintro⟨b,rfl,hb⟩
  exact((vw _ b).1 hb).1
 .intro hk
  have xH:k=0\/k=1:=by simpa using hk
  exact⟨k.toNat,by omega,(vw _ _).2 ⟨by rw[show((k.toNat:Nat):Int)=k by omega];exact hk,by omega⟩⟩
theorem Zr3 {x:eC} (km:K.m=x.blocks.toNat) (ki:K.img=img) (ks:K.sup=x) (hx:qf x) (hb:x.blocks<=((img.length/64:Nat):Int)):match ve K with
  |none=>uo img x=none
  |some v=>uo img x=some (wy x v,dJ v.W)/\∃all:ak,v.W=all.foldl (bX x.blocks.toNat) (kM x.blocks.toNat [0,1]):=by
 obtain⟨g1,g2,g3,g4,g5,g6⟩:=Z3 hx.g;obtain⟨m,hm⟩: ∃m:Nat,x.blocks=(m:Int):=⟨x.blocks.toNat,by omega⟩;have jy:x.blocks.toNat=m:=by omega
 have hmi:64*m<=img.length:=by omega
 rw[jy]at km;have qL:64*K.m<=K.img.length:=by rw[km,ki];exact hmi
 obtain⟨W0,sc⟩: ∃W0,kM m [0,1]=W0:=⟨_,rfl⟩;have Bh:W0.length=(m+63)/64:=by rw[<-sc];unfold kM;rw[(pF m _ _).1,vh]
 have MT: ∀b,dM W0 b=true->b<m:=λb yT=>by rw[<-sc]at yT;exact((vw _ b).1 yT).2
 have HT:dM W0 0=true:=by rw[<-sc];exact(vw _ 0).2 ⟨by simp,by omega⟩
 have Ip:dJ W0=[0,1]:=by rw[<-sc];exact Ztg
 have hp:=Zwi (by rw[ks];exact hx) qL (wC K.m) rfl;rw[km,ki,ks]at hp;rw[jy,sc];unfold uo ve;rw[(zZ x).2 hx,bm,af,aB (show ¬x.blocks>((img.length/64:Nat):Int) by omega),af,jy,km,hp];cases hS:qy (img.take (64*m)) x with
 |none=>rfl
 |some q=>
 obtain⟨l,pg⟩:=q;obtain⟨s1,s2,s3,s4⟩:=RW hx hS;have sg:=ZtN hS;simp only;obtain⟨v1,xO⟩: ∃v1:bj, { wC m with aK:=l,W:=pg.foldl (bX m) (wC m).W } =v1:=⟨_,rfl⟩;have e1:v1.aK=l:=by rw[<-xO]
 have e2:v1.W=pg.foldl (bX m) W0:=by rw[<-xO,<-sc];rfl
 have e3:v1.aU=[]/\v1.aH=[]/\v1.free=[]/\v1.nodes=0:=by rw[<-xO];exact⟨rfl,rfl,rfl,rfl⟩
 rw[xO,show(wC m).W=W0 from sc];have hf:=ZxK (K:=K) (v:=v1) (by rw[ks];exact hx) (by rw[ks,e1];exact s2) (λs hs hv=>by rw[e1]at hs;exact(ZjQ (s1 s hs) hv).1) (λs hs=>by rw[ks];rw[e1]at hs;exact sg s hs) e3.2.2.1;rw[ks,e1]at hf;cases hP:eI m W0 pg with
 |false=>
  rw[eG,af];simp only;cases uC l x with
  |none=>rfl
  |some fr=>
   simp only;cases uX (img.take (64*m)) x.dir with
   |none=>rfl
   |some q=>
    obtain⟨qs,bs⟩:=q;simp only;rw[Hw];cases ij (img.take (64*m)) x.used l qs [] [] 0 with
    |none=>rfl
    |some q=>
     obtain⟨h,a,n⟩:=q;simp only[mb];have hr:=Lg (pg++bs++a) W0 Bh MT HT;rw[Ip,fD,Aj,hP,eG,af,<-hm,<-fD]at hr;cases hR:nF x.blocks (pg++bs++a) [0,1]with
     |none=>rfl
     |some r=>
      rw[hR]at hr;simp only at hr⊢;cases hd:decide (r.length=(pg++bs++a).length+2)with
      |false=>cases(mE l:Int)+n==0<;>rfl
      |true=>rw[show(([0,1]:ak).length)=2 from rfl,hd]at hr;cases hr
 |true=>
 rw[de];cases hA:l.all (q8 x.g)with
 |false=>
  rw[hA,af]at hf;cases hF:uC l x with
  |none=>rfl
  |some fr=>rw[hF]at hf;cases hf
 |true=>
 rw[hA,ae]at hf;rw[ae];simp only;rw[hf];cases hF:uC l x with
 |none=>rfl
 |some fr=>
 simp only[mb];have hq:=Zv6 qL { v1 with free:=fr } (by rw[km];exact(by rw[e2,(pF m _ _).1];exact Bh)) e3.1;rw[km,ki,ks,e1]at hq;rw[hq];cases Fb:uX (img.take (64*m)) x.dir with
 |none=>rfl
 |some q=>
 obtain⟨qs,bs⟩:=q;simp only;rw[Hw qs [] (pg++bs)];cases ij (img.take (64*m)) x.used l qs [] [] 0 with
 |none=>rfl
 |some q=>
 obtain⟨h,a,n⟩:=q;simp only[mb,rW];rw[km,e2,e3.1,e3.2.2.2];have hr:=Lg (pg++bs++a) W0 Bh MT HT;rw[Ip,fD,Aj,hP,de,<-hm,<-fD,fD pg,zM]at hr;rw[fD pg];cases ew:eI m (pg.foldl (bX m) W0) (bs++a)with
 |false=>
  rw[ew,af]at hr;rw[af];simp only;cases hR:nF x.blocks (pg++(bs++a)) [0,1]with
  |none=>rfl
  |some r=>
   rw[hR]at hr;simp only at hr⊢;cases hd:decide (r.length=(pg++(bs++a)).length+2)with
   |false=>cases(mE l:Int)+n==0<;>rfl
   |true=>rw[show(([0,1]:ak).length)=2 from rfl,hd]at hr;cases hr
 |true=>
  rw[ew,ae]at hr;rw[ae];simp only;have mX: ∀v:bj,v.aK=l->Dr v=mE l:=λv e=>by unfold Dr mE;rw[e]
  rw[mX _ rfl];rw[show((mE l:Int)+n==0)=decide ((mE l:Int)=0-n) by rw[iQ];simp;omega];cases hR:nF x.blocks (pg++(bs++a)) [0,1]with
  |none=>rw[hR]at hr;cases hr
  |some r=>
   rw[hR]at hr;simp only at hr⊢;cases hd:decide (r.length=(pg++(bs++a)).length+2)with
   |false=>rw[show(([0,1]:ak).length)=2 from rfl,hd]at hr;cases hr
   |true=>
    rw[show(([0,1]:ak).length)=2 from rfl,hd,ae]at hr;cases hr;cases decide ((mE l:Int)=0-n)with
    |false=>rfl
    |true=>
     refine⟨?_,pg++(bs++a),by rw[zM (l:=pg)];rfl⟩;unfold uV wy;simp only[ae,e1,e3.2.1,gU]
theorem Zux {x:ZC} (h:ZD l=some x):x.name.length<=24:=by
 unfold ZD at h;split at h
 .cases h
 .rename_i k t b _
  cases hk:decide (k=5)with
  |false=>rw[hk]at h;cases h
  |true=>
   cases hc:decide (t<=24)with
   |false=>rw[hk,hc]at h;cases h
   |true=>
    rw[hk,hc]at h;cases hn:ZI (b.drop (28+t))with
    |false=>rw[hn]at h;cases h
    |true=>
     cases hr:mO (Z1 b t)with
     |false=>rw[hn,hr]at h;cases h
     |true=>
      rw[hn,hr]at h;cases h;have:=iR hc;unfold Z1;simp only[cz];omega
theorem Zrr {im:aj} : ∀(l:ak) (qs ku:List ZC),lX im qs l=some ku->(∀q∈qs,q.name.length<=24)->(∀q∈ku,q.name.length<=24)/\ku.length=qs.length+l.length
 |[],qs,ku,h,hq=>by cases h;exact⟨hq,rfl⟩
 |k::r,qs,ku,h,hq=>by
  unfold lX at h;cases hL:ja im k with
  |none=>rw[hL]at h;cases h
  |some c=>
   rw[hL]at h;simp only at h;cases hQ:ZD c with
   |none=>rw[hQ]at h;cases h
   |some q=>
    rw[hQ]at h;simp only at h;cases hN:wi qs q with
    |false=>rw[hN]at h;cases h
    |true=>
     rw[hN,ae]at h;obtain⟨h1,h2⟩:=Zrr r _ _ h λy hy=>by
      rcases fE.1 hy with hy|hy
      .exact hq y hy
      .rw[cj.1 hy];exact Zux hQ
     refine⟨h1,?_⟩;rw[h2,bz,iw,cH];omega
theorem Zvl: ∀(es out:List bh),(es.foldl pW out).length=out.length+es.length
 |[],_=>rfl
 |e::es,out=>by rw[DH,Zvl es,SB,cH];omega
theorem Ztq {im:aj} {u:Int} {l:List bA} : ∀(qs:List ZC) (hs iB:List dr) (all HC:ak) (lv Wp:Int),ij im u l qs hs all lv=some (iB,HC,Wp)->(∀q∈qs,q.name.length<=24)->(∀g∈hs,g.name.length<=24)->(∀g∈iB,g.name.length<=24)/\iB.length=hs.length+qs.length/\((iB.map (·.bW)).flatten).length+all.length=((hs.map (·.bW)).flatten).length+HC.length
 |[],hs,iB,all,HC,lv,Wp,h,_,hg=>by cases h;exact⟨hg,rfl,rfl⟩
 |q::r,hs,iB,all,HC,lv,Wp,h,hq,hg=>by
  unfold ij at h;cases hF:ui im q.df with
  |none=>rw[hF]at h;cases h
  |some p=>
   obtain⟨es,ns⟩:=p;rw[hF]at h;simp only at h;cases hb:iT u l es ns with
   |false=>rw[hb]at h;cases h
   |true=>
    rw[hb,ae]at h;obtain⟨h1,h2,h3⟩:=Ztq r _ _ _ _ _ _ h (λy hy=>hq y (rp _ hy)) λy hy=>by
     rcases fE.1 hy with hy|hy
     .exact hg y hy
     .rw[cj.1 hy];exact hq q oa
    have h4:=Zob hF;have h5:(Z2 es).length=es.length:=by unfold Z2;rw[Zvl];simp
    rw[fg,Gb,bz,bz,show([⟨q.name,Z2 es⟩]:List dr).map (·.bW)=[Z2 es]from rfl,List.flatten_singleton,h5]at h3;rw[bz,iw]at h2;exact⟨h1,by rw[h2,cH];omega,by omega⟩
theorem Zrw {l:List bA} {u g:Int} : ∀(f:Nat) (k:Int) (out o:ak),mm l u g f k out=some o->o.length<=out.length+f
 |0,_,_,_,h=>by cases h
 |f+1,k,out,o,h=>by
  unfold mm at h;cases h0:k==0 with
  |true=>rw[h0]at h;cases h;omega
  |false=>
  rw[h0,af]at h;cases h1:decide (k>u)with
  |true=>rw[h1]at h;cases h
  |false=>
  rw[h1,af]at h;cases hg:l[(k-1).toNat]? with
  |none=>rw[hg]at h;cases h
  |some s=>
  rw[hg]at h;simp only at h;cases h2:s.live with
  |true=>rw[h2]at h;cases h
  |false=>
  cases h3:decide (s.gen>=g)with
  |true=>rw[h2,h3]at h;cases h
  |false=>
  cases h4:decide (k-1∈out)with
  |true=>rw[h2,h3,h4]at h;cases h
  |false=>
   rw[h2,h3,h4]at h;have:=Zrw f _ _ _ h;rw[bz,iw]at this;omega
theorem Ztl {g:dr} : ∀ {l:List dr},g∈l->g.bW.length<=((l.map (·.bW)).flatten).length
 |x::l,h=>by
  rw[nZ,yh,bz];rcases dC.1 h with rfl|h
  .omega
  .have:=Ztl h;omega
theorem Zwa {x:eC} {y:eO} (hx:qf x) (h:uo img x=some (y,r)):BZ y/\r.length<5000:=by
 obtain⟨g1,g2,g3,g4,g5,g6⟩:=Z3 hx.g;obtain⟨m,hm⟩: ∃m:Nat,x.blocks=(m:Int):=⟨x.blocks.toNat,by omega⟩;unfold uo at h;rw[(zZ x).2 hx,bm,af]at h;cases hb:decide (x.blocks>((img.length/64:Nat):Int))with
 |true=>rw[hb]at h;cases h
 |false=>
 rw[hb,af]at h;generalize img.take (64*x.blocks.toNat)=im at h;cases hS:qy im x with
 |none=>rw[hS]at h;cases h
 |some q=>
 obtain⟨l,pg⟩:=q;rw[hS]at h;simp only at h;obtain⟨s1,s2,s3,s4⟩:=RW hx hS;cases hF:uC l x with
 |none=>rw[hF]at h;cases h
 |some fr=>
 rw[hF]at h;simp only at h;have eu:fr.length<=l.length+2:=by
  unfold uC at hF;cases hL:mm l x.used x.g (l.length+2) x.free []with
  |none=>rw[hL]at hF;cases hF
  |some o=>
   rw[hL]at hF;simp only at hF;cases hA:rM x.g o 0 l with
   |false=>rw[hA]at hF;cases hF
   |true=>
    rw[hA]at hF;cases hF;have:=Zrw _ _ _ _ hL;simpa using this
 cases hR:uX im x.dir with
 |none=>rw[hR]at h;cases h
 |some q=>
 obtain⟨qs,bs⟩:=q;rw[hR]at h;simp only at h;have Bn:(∀q∈qs,q.name.length<=24)/\qs.length<=bs.length:=by
  unfold uX at hR;split at hR
  .cases hR;exact⟨(λq hq=>nomatch hq),aL _⟩
  .split at hR
   .cases hR
   .split at hR
    .cases hR
    .split at hR
     .cases hR
     .rename_i c _ l' _ qs' hq
      cases hR;obtain⟨a1,a2⟩:=Zrr _ _ _ hq λq hq=>nomatch hq
      exact⟨a1,by rw[a2,cH];simp⟩
 cases hW:ij im x.used l qs [] (pg++bs) (mE l)with
 |none=>rw[hW]at h;cases h
 |some q=>
 obtain⟨hs,all,lv⟩:=q;rw[hW]at h;simp only at h;obtain⟨w1,w2,w3⟩:=Ztq _ _ _ _ _ _ _ hW Bn.1 λg hg=>nomatch hg
 cases hG:nF x.blocks all [0,1]with
 |none=>rw[hG]at h;cases h
 |some r'=>
 rw[hG]at h;simp only at h;cases fj:lv==0 with
 |false=>rw[fj]at h;cases h
 |true=>
 rw[fj,ae]at h;cases hd:decide (r'.length=all.length+2)with
 |false=>rw[hd]at h;cases h
 |true=>
 rw[hd,ae]at h;cases h;have Bh:(kM m [0,1]).length=(m+63)/64:=by unfold kM;rw[(pF m _ _).1,vh]
 have hr:=Lg all (kM m [0,1]) Bh (λb hb=>((vw _ b).1 hb).2) ((vw _ 0).2 ⟨by simp,by omega⟩);rw[Ztg,<-hm,hG]at hr;simp only at hr;rw[show(([0,1]:ak).length)=2 from rfl,hd,ae]at hr;have ahm:all.length<=m:=by
  cases ew:eI m (kM m [0,1]) all with
  |false=>rw[ew]at hr;cases hr
  |true=>exact Ztz Bh ew
 have jM:=iR hd;rw[bz]at w3;simp only[List.map_nil,List.flatten_nil,yi]at w2 w3;refine⟨⟨⟨by show hs.length<=_;omega,λg hg=>?_,λg hg=>by have:=w1 g hg;omega⟩,by show((hs.map (·.bW)).flatten).length<=_;omega,by show(l.map _).length<=_;rw[nY];omega,by show fr.length<=_;omega⟩,by omega⟩;have:g.bW.length<=((hs.map (·.bW)).flatten).length:=Ztl hg;omega
end Go.Gv.F
