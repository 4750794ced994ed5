/- An image with an octet of a used block changed is not in order. -/
import Derived.Test.YtegglibipjjblaaGreatDoorGvKOne
set_option linter.all false
namespace Go.Gv.F
open Go.Gv
set_option maxHeartbeats 4000000
variable {e:Int} {v:aI}
theorem ZlS {img:aj} {x:cm} (h:nW img=(some (x,v),e)):sT img=some x/\nb (jJ img x)=some (some v)/\uP img x v.W=true:=by
 unfold nW at h;cases hp:sT img
 .rw[hp]at h;cases h
 .rename_i y;rw[hp]at h;simp only at h;split at h
  .rename_i w hf
   cases hc:uP img y w.W
   .rw[hc]at h;cases h
   .rw[hc]at h;cases h;exact⟨rfl,hf,hc⟩
  .cases h
theorem Up {K:bu} (h:nb K=some (some v)):ZP K.sup=true/\om K=some v:=by
 unfold nb at h;cases h1:ZP K.sup
 .rw[h1]at h;cases h
 .rw[h1,ae]at h;cases h2:decide (K.sup.blocks<=((K.img.length/64:Nat):Int))
  .rw[h2]at h;cases h
  .rw[h2]at h;exact⟨rfl,DB h⟩
theorem Zyx {B:aj} {s:cm} (hv:nW B=(some (s,v),e)) {j o:Nat} {y:UInt8} (hj:2<=j) (Kf:(j:Int)∈dz (s.aK.foldl (bA s.blocks.toNat) v.W)) (ho:o<64) (hB:64*j+o<B.length) (cV:B[64*j+o]? ≠some y):
  nW (B.set (64*j+o) y)=(none,31)\/nW (B.set (64*j+o) y)=(none,32):=by
 have⟨jS,hwf,y9⟩:=ZlS hv;have⟨_,hx,hb,HF,Hd,mq,K8,_⟩:=TF hv;have⟨oM,PZ⟩:=Up hwf;have⟨B',vi⟩: ∃B',B.set (64*j+o) y=B':=⟨_,rfl⟩;have hlen:B'.length=B.length:=by rw[<-vi,lz]
 have xK: ∀b,b≠j->Zv B' b=Zv B b:=λb h=>by rw[<-vi,Zud ho,aY h]
 have Y4:Zv B' j=(Zv B j).set o y:=by rw[<-vi,Zud ho,bx rfl]
 have Pa:Zv B' j≠Zv B j:=λh=>by
  rw[Y4]at h;have:=congrArg (λl:aj=>l[o]?) h;unfold Zv at this;simp only[uE,w4,List.getElem?_set,cB,dY]at this;refine cV ?_;grind
 rw[vi];have ajE:sT B'=some s:=by
  have hr: ∀k,k<2->lS B' k=lS B k:=λk hk=>by
   unfold lS;have:vA B' k=vA B k:=by
    have:=xK k AC;unfold Zv at this;unfold vA;rw[BG 64 k];exact this
   rw[hlen,this]
  unfold sT at jS⊢;rw[hr 0 AC,hr 1 AC];exact jS
 unfold nW;rw[ajE];simp only;cases hw:nb (jJ B' s)with
 |none=>exact .inl rfl
 |some q=>cases q with
  |none=>exact .inl rfl
  |some v'=>
   simp only;cases hc:uP B' s v'.W
   .exact .inr rfl
   .exfalso;have⟨_,aki⟩:=Up hw;have hW:=Uy (img:=B') (x:=s) oM;rw[hw]at hW;have⟨_,dq,_,aiu,PY,akk,_⟩:=hW;have Ew:=(MQ hx mq K8 Hd hb).1 y9;have acY:=(MQ hx PY akk aiu dq).1 hc;have loc:=Vq (K:=jJ B' s) (K':=jJ B s) rfl rfl aki;have akC:=Vq (K:=jJ B s) (K':=jJ B s) rfl rfl PZ;have JR:cD (lj (jJ B s).m).W j=false:=by
     cases h:cD (lj (jJ B s).m).W j
     .rfl
     .have:=((rb _ _).1 (show cD (gD s.blocks.toNat [0,1]) j=true from h)).1;simp only[ep,tk,pD]at this;omega
    have⟨b,hbj,fA⟩:=Z7.1 Kf;have:b=j:=AC
    subst this;have fA:=(uR _ mq b).1 fA;cases hr:cD v'.W b
    .have:=loc.same λc hcI=>(xK c (λe=>by rw[e]at hcI;rw[hcI]at hr;cases hr)).symm
     rw[PZ]at this;cases this;rcases fA with h1|h1
     .rw[h1]at hr;cases hr
     .have⟨r,jG,iH⟩:=Ew.2
      have⟨r',adJ,ajP⟩:=acY.2;have:r=r':=F9 jG.1 adJ.1 λk=>by rw[jG.2,adJ.2]
      subst this;have⟨i,hi⟩:=Dz.1 h1.1;have e1:=iH i _ hi;have e2:=ajP i _ hi;rw[<-e2]at e1;unfold j8 at e1;rw[hlen]at e1;split at e1
      .rename_i hcx
       have:=hx.g;omega
      .have e1:=DB e1
       rw[<-HL,<-HL,bn]at e1;exact Pa e1.symm
    .rcases fA with h1|h1
     .have r1:nU (Zv B b)=true:=(akC.right b h1).elim (λh=>by rw[JR]at h;cases h) ZoN
      have r2:nU (Zv B' b)=true:=(loc.right b hr).elim (λh=>by have h:cD (lj (jJ B s).m).W b=true:=h;rw[JR]at h;cases h) ZoN;rw[Y4]at r2;exact Pa (Y4.trans (Zyn r1 r2))
     .exact acY.1 _ h1.1 (Z7.2 ⟨b,rfl,hr⟩)
