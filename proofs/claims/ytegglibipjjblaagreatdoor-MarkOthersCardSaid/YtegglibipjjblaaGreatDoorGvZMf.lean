/- Lists without twins. -/
import Derived.Test.YtegglibipjjblaaGreatDoorGvDef
import Derived.Test.YtegglibipjjblaaGreatDoorGvZMe
import Derived.Test.YtegglibipjjblaaGreatDoorGvZMd
import Derived.Test.YtegglibipjjblaaGreatDoorGvZMc
import Derived.Test.YtegglibipjjblaaGreatDoorGvMOk2
set_option linter.all false
namespace Go.Gv.F
open Go.Gv
theorem BI {α:Type} [DecidableEq α]: ∀ {l m:List α},l.Nodup->(∀x∈l,x∈m)->l.length<=m.length
 |[],m,_,_=>cE _
 |a::l,m,hn,hs=>by
  rw[zg]at hn;have ha:=hs a (by simp);have hle:=List.length_erase_of_mem ha;have vA:=List.length_pos_of_mem ha;have:=BI (m:=m.erase a) hn.2 λy hy=>(List.mem_erase_of_ne (λe':y=a=>hn.1 (by rw[<-e'];exact hy))).2 (hs y (by simp[hy]))
  rw[cO];omega
variable {t:Int} {k n:Nat} {s:aj}
theorem Sp (h:k<256):(qD (k:Int)).toNat=k:=by
 unfold qD;show((k:Int)%256).toNat%256=k;omega
theorem Zjt (n:Nat):ZG (kP n)=true:=by
 simp[ZG,kP]
theorem Zvc {b:aj} (h:b.length<=56):(jo b 56).length=56:=by
 grind[jo,kP]
theorem Zu5 {k:Int} {b:aj} (h:b.length<=56):(ou k t b).length=60:=by
 unfold ou;rw[bA,Zvc h];rfl
theorem Rt {k:Int} {b:aj} (h:b.length<=56:=by omega):(iz k t b).length=64:=by
 unfold iz;rw[bA,Zy,Zu5 h]
theorem Ki {t:Nat} {b:aj} (lD:0<k) (hk:k<256) (ht:t<256) (h:b.length<=56):gf (iz k t b)=some (k,t,jo b 56):=by
 have hl:(iz k t b).length=64:=Rt h;have Uk:(iz k t b).drop 4=ou k t b:=by
  rfl
 have CI:(iz k t b).take 4=dG (va (ou k t b)) 4:=by
  rfl
 have hg: ∀j,(iz k t b).getD (4+j) 0=(ou k t b).getD j 0:=by grind
 have g4:(iz k t b).getD 4 0=qD k:=hg 0;have g5:(iz k t b).getD 5 0=qD t:=hg 1;have d6:((iz k t b).drop 6).take 2=[0,0]:=by
  rfl
 have d8:(iz k t b).drop 8=jo b 56:=by
  rfl
 have hr:sF (iz k t b)=true:=by
  unfold sF;rw[hl,g4,d6,Uk,CI,Zrl];have h1:(qD (k:Int)==0)=false:=by
   rw[dX];intro e;have:=congrArg UInt8.toNat e;rw[Sp hk]at this;grind
  have hc:=SJ (ou k t b);rw[h1,Nat.mod_eq_of_lt (by omega)];simp[ZG]
 unfold gf;rw[hr,ae,g4,g5,d8,Sp hk,Sp ht]
theorem ZtH {c:ZL} (h1:c.no<8) (h2:c.eF.length=48):(si c).length=64/\wv (si c)=some c:=by
 have ho:gf (si c)=some (4,c.no,jo c.eF 56):=Ki (k:=4) (by decide) (by decide) (by omega) (by omega);refine⟨Rt,?_⟩;have cA:ZG ((jo c.eF 56).drop 48)=true:=by
  unfold jo;rw[<-h2,Bi];exact Zjt _
 have ht:(jo c.eF 56).take 48=c.eF:=by
  grind[jo]
 simp_all[wv]
def mL (l:aj) (k:Nat):aj:=(l.drop (64*k)).take 64
structure Ex (m m':cC):Prop where
 len:m'.B.length=m.B.length
 le:m.next<=m'.next
 line: ∀k,k<m.next->mL m'.B k=mL m.B k
theorem Ex.refl (m:cC):Ex m m:=⟨rfl,aO _,λ_ _=>rfl⟩
theorem Ex.trans {a b c:cC} (h:Ex a b) (k:Ex b c):Ex a c:=⟨k.len.trans h.len,gJ h.le k.le,λj hj=>(k.line j (lj hj h.le)).trans (h.line j hj)⟩
theorem Ex.at {m m':cC} (h:Ex m m') (l:ak):Ex m { m' with At:=l } :=⟨h.len,h.le,h.line⟩
theorem ZtZ {B:aj} (hn:64*n<=B.length) (hk:k<n):mL (rL B (64*n) s) k=mL B k:=by
 grind[mL,rL,Dd,Dk]
theorem Zub {B:aj} (hn:64*n+64<=B.length) (hs:s.length=64) (hk:n<k):mL (rL B (64*n) s) k=mL B k:=by
 unfold mL rL;have hl:(B.take (64*n)).length=64*n:=by rw[cV];omega
 have kC:(s.take (B.length-64*n)).length=64:=by rw[cV];omega
 rw[List.drop_append,hl,ke (by omega),iL,List.drop_append,kC,ke (by omega),iL,kd,hs];rw[show 64*n+64+(64*k-64*n-64)=64*k by omega]
theorem Ex.put (m:cC) (s:aj):Ex m (j8 m s):=by
 refine⟨tK m s,Nat.le_succ _,λk hk=>?_⟩;unfold j8;by_cases h:64*m.next+64<=m.B.length
 .simp only[aw h,ae]
  exact ZtZ (by omega) hk
 grind
theorem Ex.fin (es:List bc) (r:ak×cC):Ex r.2 (tX es r).2:=by
 unfold tX;cases es with
 |nil=>exact .refl _
 |cons e t=>exact(Ex.put r.2 _).at _
theorem Ex.kids: ∀(j:Nat) (es:List bc) (m:cC),Ex m (ga j es m).2
 |0,_,m=> .refl m
 |j+1,es,m=>((Ex.kids j es m).trans (Ex.kids j _ _)).trans (Ex.fin _ _)
theorem Ex.tree (j:Nat) (es:List bc) (m:cC):Ex m (nE j es m).2:=(Ex.kids j es m).trans (Ex.fin _ _)
theorem Ex.ot (cK:Nat): ∀(c k:Nat) (hs:ak) (rest:List bc) (m:cC),Ex m (ot cK c k hs rest m).2
 |0,_,_,_,m=> .refl m
 |c+1,k,hs,rest,m=>by
  unfold F.ot;cases fC cK k with
  |true=>exact(Ex.tree k _ m).trans (Ex.ot cK c _ _ _ _)
  |false=>exact Ex.ot cK c _ _ _ _
theorem Ex.nX: ∀(l:List di) (iP:ak) (m:cC),Ex m (nX l iP m).2
 |[],_,m=> .refl m
 |_x::r,agq,m=>((Ex.ot _ _ _ _ _ m).trans (Ex.put _ _)).trans (Ex.nX r _ _)
theorem Ex.pW (l:List di) (m:cC):Ex m (pW l m).2:=by
 unfold F.pW;have:=Ex.nX l [] m;generalize F.nX l [] m=t at this;simp only;cases wK t.1 with
 |none=>exact this
 |some s=>exact this.trans (Ex.put _ _)
theorem Ex.lZ (aG free:ak): ∀(c f:Nat) (ls:ak) (m:cC),Ex m (lZ aG free c f ls m).2
 |0,_,_,m=> .refl m
 |c+1,f,ls,m=>by
  unfold F.lZ;cases decide (f<aG.length)with
  |true=>exact(Ex.put m _).trans (Ex.lZ aG free c _ _ _)
  |false=>exact .refl m
theorem Ex.oP (leaves:ak): ∀(c i:Nat) (top:ak) (m:cC),Ex m (oP leaves c i top m).2
 |0,_,_,m=> .refl m
 |c+1,i,top,m=>by
  unfold F.oP;cases decide (16*i<leaves.length)with
  |true=>exact(Ex.put m _).trans (Ex.oP leaves c _ _ _)
  |false=>exact .refl m
theorem Ex.qA (aG free:ak) (m:cC):Ex m (qA aG free m).2:=by
 unfold F.qA;have:=Ex.lZ aG free aG.length 0 [] m;generalize F.lZ aG free aG.length 0 [] m=t at this;simp only;cases Nat.beq t.1.length 0 with
 |true=>exact this
 |false=>exact(this.trans (Ex.oP _ _ _ _ _)).trans (Ex.put _ _)
theorem Ex.nU (used:ak): ∀(c i:Nat) (m:cC),Ex m (nU used c i m)
 |0,_,m=> .refl m
 |c+1,_i,m=>(Ex.put m _).trans (Ex.nU used c _ _)
theorem Ex.all (x:eL):Ex (vL x) (F.nU (ow x) (rI x) 0 (iV x).2):=((Ex.pW x.aS (vL x)).trans (Ex.qA x.aG x.free (vM x).2)).trans (Ex.nU _ _ _ _)
theorem Ztv {x:dY} (h:pK x):x.aL.length<=8:=by
 have hl:=h.len;have hg:=h.g;obtain⟨g1,g2,_⟩:=Z2 hg;unfold yc at hl;rw[hg,ae]at hl;unfold pD at hl;have e1:ar (x.blocks+384)=x.blocks+384:=by
  obtain⟨m,hm⟩: ∃m:Nat,x.blocks=m:=⟨x.blocks.toNat,by omega⟩;rw[hm];exact Zc
 have e2:ar (x.blocks+384-1)=x.blocks+384-1:=by
  obtain⟨m,hm⟩: ∃m:Nat,x.blocks=m:=⟨x.blocks.toNat,by omega⟩;rw[hm,show((m:Int)+384-1)=((m+383:Nat):Int) by omega];exact Zc
 rw[e1,e2,Int.tdiv_eq_ediv_of_nonneg (by omega)]at hl;have e3:ar ((x.blocks+384-1)/384)=(x.blocks+384-1)/384:=by
  obtain⟨m,hm⟩: ∃m:Nat,(x.blocks+384-1)/384=m:=⟨((x.blocks+384-1)/384).toNat,by omega⟩;rw[hm];exact Zc
 rw[e3]at hl;omega
theorem ZwC (x:dY):(Nd x).length=32+2*x.aL.length:=by
 grind[Nd,bA,Zy,sm]
theorem ZtD {x:dY} (h:pK x):(z8 x).length=64:=by
 have h1:=Ztv h;have h2:=ZwC x;exact Rt
structure Fin (B:List UInt8) (m:cC):Prop where
 room:64*m.next<=m.B.length
 line: ∀k,2<=k->k<m.next->mL B k=mL m.B k
structure Mem (m:Nat) (W:List Nat) (P:Nat->Prop):Prop where
 len:W.length=(m+63)/64
 lt: ∀w∈W,w<18446744073709551616
 iff: ∀b,dT W b=true↔P b
theorem Yu (img:aj) (k:Nat):ZB img k=mL img k:=by grind[ZB,mL]
section
variable (K:bR) (A:ak)
end
end Go.Gv.F
namespace Go.Gv.F
open Go.Gv
theorem Zru: ∀(n:Nat) (s:aj),s.length<=n->((dh s).all λr=>vQ r)=true->s.length<=3*(dh s).length
 |0,s,h,_=>by omega
 |n+1,s,h,ha=>by
  by_cases h0:0<s.length
  .rw[KU h0]at ha⊢
   rw[uE,aW]at ha;have hp:=Eb s 0;have ih:=Zru n (s.drop (dec s 0).2) (by rw[fb];omega) ha.2;have h3:(dec s 0).2<=3:=by
    have hr:((dec s 0).1:Int)<=65519:=by
     grind[vQ]
    rw[zW]at hr⊢;by_cases c1:oc s 0<128
    .rw[bG c1]
     omega
    rw[ba c1]at hr⊢;by_cases c2:(194<=oc s 0/\oc s 0<=223)/\(128<=oc s (0+1)/\oc s (0+1)<=191)
    .rw[bG c2]
     omega
    rw[ba c2]at hr⊢;by_cases c3:(224<=oc s 0/\oc s 0<=239)/\((if oc s 0=224 then 160 else 128)<=oc s (0+1)/\oc s (0+1)<=(if oc s 0=237 then 159 else 191))/\(128<=oc s (0+2)/\oc s (0+2)<=191)
    .rw[bG c3]
     omega
    rw[ba c3]at hr⊢;by_cases c4:(240<=oc s 0/\oc s 0<=244)/\((if oc s 0=240 then 144 else 128)<=oc s (0+1)/\oc s (0+1)<=(if oc s 0=244 then 143 else 191))/\(128<=oc s (0+2)/\oc s (0+2)<=191)/\(128<=oc s (0+3)/\oc s (0+3)<=191)
    .rw[bG c4]at hr
     grind
    rw[ba c4];omega
   rw[fb]at ih;rw[cO];omega
  .omega
theorem ZtF {s:aj} (h:qU s=true):s.length<=24:=by
 unfold qU at h;rw[aW,aW,bC,bC]at h;have:=Zru s.length s (aO _) h.2.2;omega
theorem KQ (a b:bc):eY a b=fm (e4 a) (e4 b):=Zvv (e4 a) (e4 b)
theorem Zvt {es gR:List bc} (hp:gR.Perm es) (ho:es.Pairwise λa b=>eY a b=true) (hd:(es.map (·.slot)).Nodup):uA gR=es:=by
 have oe:Diff gR:=by
  grind[Diff]
 have w4:=RD (Pu oe);have hs:(es.map e4).Pairwise (λa b=>fm b a=false):=by
  rw[List.pairwise_map];refine ho.imp λ{a b} h=>?_
  rw[KQ]at h;exact QR h
 have:=ZnQ (l:=gR.map e4) (l':=es.map e4) ((hp.map e4).symm) w4 hs;unfold uA;rw[<-this,List.map_map,show FD∘e4=id from rfl,List.map_id]
end Go.Gv.F
namespace Go.Gv.F
open Go.Gv
theorem Zsw {u:Nat} (h:u<=1792):zT (u:Int)=(((u+6)/7:Nat):Int):=by
 unfold zT pD;rw[aw (show(u:Int)>=0 by omega),aw (show(u:Int)<=1792 by omega),y9,ae,Zc (x:=(u:Int)+7),Zc (x:=(u:Int)+7-1),show((u:Int)+7-1)=((u+6:Nat):Int) by omega,show(((u+6:Nat):Int).tdiv 7)=(((u+6)/7:Nat):Int)from rfl];exact Zc
end Go.Gv.F
namespace Go.Gv.F
open Go.Gv
structure Zx6 (x:eL) (dR:Int) (B:List UInt8):Prop where
 ok:pK (gp x dR)
 room:(iV x).2.next+rI x<=x.blocks.toNat
 fin:Fin B (nU (ow x) (rI x) 0 (iV x).2)
 len:B.length=64*x.blocks.toNat
theorem Zsz {x:eL} {dR place:Int} {B:aj} {s:dY} (hb:ye x dR place=some (B,s)):s=gp x dR/\Zx6 x dR B:=by
 unfold ye at hb;cases hc:(decide (((ow x).length:Int)>x.blocks)|| !iN (gp x dR))with
 |true=>rw[hc]at hb;cases hb
 |false=>
  rw[hc,af]at hb;obtain⟨h1,h2⟩:=Bh.1 hc;rw[wg]at h1;have hS:pK (gp x dR):=(zH _).1 (by rw[<-Bool.not_eq_false'];exact h2);have xo:(ow x).length=(iV x).2.next+rI x:=sj _ _;have ix:x.blocks=(gp x dR).blocks:=rfl;obtain⟨g1,g2,_⟩:=Z2 hS.g;rw[<-ix]at g1 g2;have hex:=Ex.all x;have hC:(nU (ow x) (rI x) 0 (iV x).2).B.length=64*x.blocks.toNat:=by
   rw[hex.len];simp[vL,kP]
  have hp:=ZtD hS;have hk:=Zlq (ow x) (rI x) 0 (iV x).2;obtain⟨C,hCd⟩: ∃C,nU (ow x) (rI x) 0 (iV x).2=C:=⟨_,rfl⟩;rw[hCd]at hb hC hk;cases hb;have hlen:(rL C.B (64*(place%2).toNat) (z8 (gp x dR))).length=C.B.length:=by
   unfold rL;grind
  refine⟨rfl,hS,by omega,?_,by rw[hlen,hC]⟩;rw[hCd];refine⟨by rw[hC,hk.2];omega,λk h2 h3=>?_⟩;exact Zub (by omega) hp (by omega)
theorem Zxt (n k:Nat):dT (List.replicate n 0) k=false:=by
 unfold dT fC;rw[dZ,List.getElem?_replicate];split<;>simp
end Go.Gv.F
