/- A block's superblock, and the one that counts: the document's. -/
import Derived.Test.YtegglibipjjblaaGreatDoorGvZCa
import Derived.Test.YtegglibipjjblaaGreatDoorGvZMj
import Derived.Test.YtegglibipjjblaaGreatDoorGvMOk3
set_option linter.all false
namespace Go.Gv.F
open Go.Gv
set_option maxHeartbeats 4000000
variable {Bd:Zg} [h:HA Bd]
theorem Zsh (n:Nat) (x:cm) (pc:ai) (l:ak) (p:ai) (st:St) (hc:Sl st pc (ints x.aK)) (hs:Sl st p (ints l)) (hr:lZ l) (hl:l.length<50000) (cU:x.aK.length<1000) (hn:l.length+x.aK.length+1000<=n):
  Ok (λo=>∃p r s',o=(.val [.slice 1 p r.length],s')/\aB st s'/\Sl s' p (ints r)/\If x.blocks l x.aK r) (run Bd n 344 [.agg (dI x pc),.slice 1 p l.length] st):=by
 obtain _|n:=n;omega;rw[Ze,h.ah7];unfold Ta ZU ck gj l9 Zo jL bj jA fj
 try dsimp only
 rw[fh];unfold dI;simp only[au,aZ,ao,Z8];refine Ok.join λax sC=>?_
 refine Zj _ (λq y t=>∃(i:Nat) (r:ak) (p':ai),y=[.slice 1 p' r.length,.i (i:Int)]/\i<=x.aK.length/\x.aK.length-i<=q/\aB st t/\Sl t p' (ints r)/\lZ r/\r.length<=l.length+i/\∀k,k∈r↔k∈l\/(k∈x.aK.take i/\0<=k/\k<x.blocks)) ?_ x.aK.length n _ _ ⟨0,l,p,rfl,cN _,AC,.refl _,hs,hr,AC,λk=>Do⟩ AC;rintro q y t ⟨i,r,p',rfl,hi,hq,hp,hf,PN,C5,iL⟩ rec aN;rw[aZ,au,ao];by_cases av:i<x.aK.length
 .obtain⟨i1,o1,rfl⟩:=hc.cS (by simp[ints];omega)
  have da:(ints x.aK)[i]? =some (.i x.aK[i]):=ZJ av;have hY:x.aK.take (i+1)=x.aK.take i++[x.aK[i]]:=oq av;rw[aR,bh,Zc (Zi av),bn,(hc.mono hp).dX da,bg];generalize x.aK[i]=w at da hY;refine Ok.call (ZmV n r 1 p' x.blocks w t (.inl rfl) hf PN) ?_;rintro _ ⟨p2,r2,s2,rfl,bd,pO,iH,eG⟩;refine⟨_,s2,rfl,?_⟩;rw[aZ,ao,Zb];refine aN (x.aK.length-(i+1)) _ _ AC ⟨i+1,r2,p2,rfl,AC,aJ _,hp.trans bd,pO,iH,?_,λk=>?_⟩
  .have:r2.length<=(w::r).length:=B4 iH.nodup λk hk=>by
    grind
   rw[cQ]at this;omega
  grind
 .rw[aU,sC]
  rw[dG AC]at iL;simp only[aZ,ao];rw[Zs];exact .mk ⟨p',r,_,rfl,Zx hp,hf.gk _,PN,iL⟩
def ab5 (img:aj) (x:cm) (v:aI):Prop:=ox x/\x.blocks<=((img.length/64:Nat):Int)/\xw img x=some (na x v,dz v.W)/\(∀b,cD v.W b=true->b<x.blocks.toNat)/\v.W.length=(x.blocks.toNat+63)/64/\(∀w∈v.W,w<18446744073709551616)/\FR (na x v)/\(dz v.W).length<5000/\lY (na x v)
variable {img l:aj}
theorem Uy {x:cm} (oM:ZP x=true):match nb (jJ img x)with
  |some (some v)=>ab5 img x v
  |_=>xw img x=none:=by
 have hx:=(xk x).1 oM;have⟨g1,g2,_⟩:=ZM hx.g;unfold nb;rw[show(jJ img x).sup=x from rfl,show(jJ img x).img=img from rfl,oM,ae];by_cases hb:x.blocks<=((img.length/64:Nat):Int)
 .rw[aQ hb,ae]
  have PX:=Zzt (K:=jJ img x) (img:=img) (x:=x) rfl rfl rfl hx hb;cases hw:om (jJ img x)
  .rw[hw]at PX;exact PX
  .rename_i v;rw[hw]at PX;have⟨HF,all,dH⟩:=PX;have⟨sz,C5⟩:=ZzL hx HF;have wG:(gD x.blocks.toNat [0,1]).length=(x.blocks.toNat+63)/64:=by unfold gD;rw[(ZG _ _ _).1,pw]
   have Dc: ∀w∈gD x.blocks.toNat [0,1],w<18446744073709551616:=by
    unfold gD;exact(ZG _ _ _).2 λw hw=>by rw[List.mem_replicate]at hw;omega
   refine⟨hx,hb,HF,λb hb=>?_,?_,?_,sz,C5,(Zy0 (K:=jJ img x) oM (by show x.blocks=(x.blocks.toNat:Int);omega) hw).may⟩
   .rw[dH,uR all wG,rb]at hb
    omega
   .rw[dH,(ZG _ _ _).1,wG]
   .rw[dH]
    exact(ZG _ _ _).2 Dc
 .rw[bP hb,af]
  grind[xw]
theorem ZAI {x:cm} (h:rk l=some x):ZP x=true:=by
 grind[rk]
theorem Ztg {x:cm} (h:sT img=some x):ZP x=true:=by
 have hr: ∀k y,lS img k=some y->ZP y=true:=λk y h=>by
  unfold lS at h;cases hd:decide (k<img.length/64)
  .rw[hd]at h;cases h
  .rw[hd]at h;exact ZAI h
 unfold sT at h;cases h0:lS img 0
 .cases h1:lS img 1
  .rw[h0,h1]at h;cases h
  .rename_i y;rw[h0,h1]at h;cases h;exact hr _ _ h1
 .rename_i y;cases h1:lS img 1
  .rw[h0,h1]at h;cases h;exact hr _ _ h0
  .rename_i z;rw[h0,h1,show Bt (Bt none (some y)) (some z)=(bif decide (z.seq>y.seq)then some z else some y)from rfl]at h;grind
theorem ZAp {x:cm} {W:al} {r:ak} (g:16<=x.blocks) (hl:W.length=(x.blocks.toNat+63)/64) (h:If x.blocks (dz W) x.aK r):r=dz (x.aK.foldl (bA x.blocks.toNat) W):=
 F9 h.1 (yo _) λk=>by
  rw[h.2,Z7,Z7];constructor
  .rintro(⟨b,rfl,h1⟩|⟨h1,h2,h3⟩)
   .exact⟨b,rfl,(uR _ hl b).2 (.inl h1)⟩
   .exact⟨k.toNat,AC,(uR _ hl _).2 Fd⟩
  .rintro⟨b,rfl,h1⟩
   rcases(uR _ hl b).1 h1 with h1|⟨h1,h2⟩
   .grind
   grind
end Go.Gv.F
namespace Go.Gv.F
open Go.Gv
set_option maxHeartbeats 4000000
theorem TF {img:aj} {x:cm} {v:aI} {e:Int} (h:nW img=(some (x,v),e)):e=0/\ab5 img x v:=by
 unfold nW at h;cases hp:sT img
 .rw[hp]at h;cases h
 .rename_i y;rw[hp]at h;have hw:=Uy (img:=img) (Ztg hp);grind
