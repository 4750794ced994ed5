/- The law of states that are laid into an image. -/
import Derived.Test.YtegglibipjjblaaGreatDoorGvZKa
import Derived.Test.YtegglibipjjblaaGreatDoorGvCLawC
import Derived.Test.YtegglibipjjblaaGreatDoorGvMLawT
import Derived.Test.YtegglibipjjblaaGreatDoorGvMLawO
set_option linter.all false
namespace Go.Gv.F
set_option maxHeartbeats 4000000
open Go.Gv
theorem UI (B more:aj) {k:Nat} (h:64*k+64<=B.length:=by omega):fX (B++more) k=fX B k:=by
 grind[fX]
variable {e p:Int} {s:cm}
theorem Zwq {x:dW} {B:aj} (h:vY x e p=some (B,s)) (more:aj):sT (B++more)=some s:=by
 have⟨h1,h2,h3,h4⟩:=Zwi h;have hs:=(xk s).1 h2;have⟨g1,g2,_⟩:=ZM hs.g;have hb:s.blocks=x.blocks:=by rw[h1];rfl
 have hl:=ZrA x;have jT:=Zpy hs;have⟨j,hj,xJ⟩: ∃j,(p%2).toNat=j/\j<2:=⟨_,rfl,AC⟩;rw[hj]at h3;have OV:B.length=64*x.blocks.toNat:=by rw[h3,NZ _,hl]
 have hz: ∀k,k<2->fX (ku (kL x) (lP x) 0 (fN x).2).B k=ZR 64:=λk hk=>((Ex.all x).line k (AC:k<2)).trans (ZxU AC)
 have hr: ∀k,k<2->lS (B++more) k=rk (fX B k):=λk hk=>by
  unfold lS;rw[aR (by rw[ba];omega)];exact congrArg rk (UI B more)
 have CH:fX B j=wb s:=by rw[h3];exact Zxt AC jT
 have C2: ∀k,k<2->k≠j->fX B k=ZR 64:=λk hk cV=>by
  rw[h3];rcases jw k j with av|mT
  .exact(Zpb AC av).trans (hz k hk)
  .exact(Zpz AC jT).trans (hz k hk)
 unfold sT;rw[hr 0 AC,hr 1 AC]
 match j,xJ with
 |0,_=>rw[CH,C2 1 AC AC,Zs1 h2,Zri];rfl
 |1,_=>rw[CH,C2 0 AC AC,Zs1 h2,Zri];rfl
theorem Zwk {x:dW} (hm:lY x) (hk:Xl x) {B:aj} (h:vY x e p=some (B,s)) (more:aj): ∃v,nW (B++more)=(some (s,v),0)/\na s v=x:=by
 have jS:=Zwq h more;have oM:=Ztg jS;obtain⟨rfl,hP⟩:=ZnG h;have⟨g1,g2,_⟩:=ZM hm.Cz;have C6:=hP.room;have OV:=hP.len;have F1:=hP.fin;have hBC:=ZrA x;have F2:Fin (B++more) (ku (kL x) (lP x) 0 (fN x).2):=⟨F1.room,λk a b=>by
  have:=F1.room;rw[UI B more,F1.line k a b]⟩
 have⟨v,kC,vz,hv3⟩:=Zzr hm hk hP.ok AC (F2.back (Ex.ku _ _ _ _)) Fd;have hw:=Uy (img:=B++more) oM;rw[kC]at hw;have⟨hx,hb,_,Hd,mq,K8,_⟩:=hw;refine⟨v,?_,vz⟩;unfold nW;rw[jS];simp only;rw[kC];simp only;have gV:=(MQ hx mq K8 Hd (by show x.blocks<=_;omega)).1 (ZuK hm hP hv3);have:uP (B++more) (eS x e) v.W=true:=by
  refine(MQ hx mq K8 Hd hb).2 ⟨gV.1,?_⟩;have⟨r,hr,iH⟩:=gV.2;refine⟨r,hr,λi c hi=>?_⟩;have:=iH i c hi;rw[<-this];unfold j8 at this⊢;split at this
  .cases this
  .rename_i hc
   rw[aY hc,aY (by rw[ba];omega),UI B more]
 rw[this];rfl
