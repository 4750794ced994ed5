/- Lists without twins. -/
import Derived.Test.YtegglibipjjblaaGreatDoorGvMOk2
set_option linter.all false
namespace Go.Gv.F
open Go.Gv
def xO {α:Type} [DecidableEq α]: ∀ {l m:List α},l.Nodup->(∀x∈l,x∈m)->l.length<=m.length
 |[],m,_,_=>cz _
 |a::l,m,hn,hs=>by
  rw[zu]at hn;have ha:=hs a (by simp);have hle:=List.length_erase_of_mem ha;have wR:=List.length_pos_of_mem ha;have:=xO (m:=m.erase a) hn.2 λy hy=>(List.mem_erase_of_ne (λe':y=a=>hn.1 (by rw[<-e'];exact hy))).2 (hs y (by simp[hy]))
  rw[cO];omega
variable {t:Int} {k:Nat}
def Vc (h:k<256):(rI (k:Int)).toNat=k:=by
 unfold rI;show((k:Int)%256).toNat%256=k;omega
def ZkJ (n:Nat):ZE (l9 n)=true:=by
 simp[ZE,l9]
def ZwG {b:aj} (h:b.length<=56):(jQ b 56).length=56:=by
 grind[jQ,l9]
def Zxw {k:Int} {b:aj} (h:b.length<=56):(pF k t b).length=60:=by
 unfold pF;rw[bB,ZwG h];rfl
def Zq0 {k:Int} {b:aj} (h:b.length<=56):(iS k t b).length=64:=by
 unfold iS;rw[bB,ZA,Zxw h]
def MC {t:Nat} {b:aj} (lM:0<k) (hk:k<256) (ht:t<256) (h:b.length<=56):fM (iS k t b)=some (k,t,jQ b 56):=by
 have hl:(iS k t b).length=64:=Zq0 h;have W6:(iS k t b).drop 4=pF k t b:=by
  rfl
 have Ev:(iS k t b).take 4=db (wy (pF k t b)) 4:=by
  rfl
 have hg: ∀j,(iS k t b).getD (4+j) 0=(pF k t b).getD j 0:=by grind
 have g4:(iS k t b).getD 4 0=rI k:=hg 0;have g5:(iS k t b).getD 5 0=rI t:=hg 1;have d6:((iS k t b).drop 6).take 2=[0,0]:=by
  rfl
 have d8:(iS k t b).drop 8=jQ b 56:=by
  rfl
 have hr:tE (iS k t b)=true:=by
  unfold tE;rw[hl,g4,d6,W6,Ev,Zs0];have h1:(rI (k:Int)==0)=false:=by
   rw[eG];intro e;have:=congrArg UInt8.toNat e;rw[Vc hk]at this;grind
  have hc:=Vt (pF k t b);rw[h1,Nat.mod_eq_of_lt (by omega)];simp[ZE]
 unfold fM;rw[hr,ae,g4,g5,d8,Vc hk,Vc ht]
def ZvA {c:ZP} (h1:c.no<8) (h2:c.eY.length=48):(uL c).length=64/\xP (uL c)=some c:=by
 have ho:fM (uL c)=some (4,c.no,jQ c.eY 56):=MC (k:=4) (by decide) (by decide) (by omega) (by omega);refine⟨Zq0 (by omega),?_⟩;have cA:ZE ((jQ c.eY 56).drop 48)=true:=by
  unfold jQ;rw[<-h2,C4];exact ZkJ _
 have ht:(jQ c.eY 56).take 48=c.eY:=by
  grind[jQ]
 simp_all[xP]
def w4 (l:aj) (k:Nat):aj:=(l.drop (64*k)).take 64
end Go.Gv.F
namespace Go.Gv.F
open Go.Gv
structure Fin (B:List UInt8) (m:dD):Prop where
 room:64*m.next<=m.B.length
 line: ∀k,2<=k->k<m.next->w4 B k=w4 m.B k
structure Mem (m:Nat) (W:List Nat) (P:Nat->Prop):Prop where
 len:W.length=(m+63)/64
 lt: ∀w∈W,w<18446744073709551616
 iff: ∀b,di W b=true↔P b
def aci (img:aj) (k:Nat):ZG img k=w4 img k:=by grind[ZG,w4]
section
variable (K:bL) (A:ak)
end
end Go.Gv.F
namespace Go.Gv.F
open Go.Gv
def ZtI: ∀(n:Nat) (s:aj),s.length<=n->((dB s).all λr=>xb r)=true->s.length<=3*(dB s).length
 |0,s,h,_=>by omega
 |n+1,s,h,ha=>by
  by_cases h0:0<s.length
  .rw[M2 h0]at ha⊢
   rw[vQ,aY]at ha;have hp:=FT s 0;have ih:=ZtI n (s.drop (dec s 0).2) (by rw[fa];omega) ha.2;have h3:(dec s 0).2<=3:=by
    have hr:((dec s 0).1:Int)<=65519:=by
     grind[xb]
    rw[BO]at hr⊢;by_cases c1:oc s 0<128
    .rw[bE c1]
     omega
    rw[bj c1]at hr⊢;by_cases c2:(194<=oc s 0/\oc s 0<=223)/\(128<=oc s (0+1)/\oc s (0+1)<=191)
    .rw[bE c2]
     omega
    rw[bj c2]at hr⊢;by_cases c3:(224<=oc s 0/\oc s 0<=239)/\((if oc s 0=224 then 160 else 128)<=oc s (0+1)/\oc s (0+1)<=(if oc s 0=237 then 159 else 191))/\(128<=oc s (0+2)/\oc s (0+2)<=191)
    .rw[bE c3]
     omega
    rw[bj c3]at hr⊢;by_cases c4:(240<=oc s 0/\oc s 0<=244)/\((if oc s 0=240 then 144 else 128)<=oc s (0+1)/\oc s (0+1)<=(if oc s 0=244 then 143 else 191))/\(128<=oc s (0+2)/\oc s (0+2)<=191)/\(128<=oc s (0+3)/\oc s (0+3)<=191)
    .rw[bE c4]at hr
     grind
    rw[bj c4];omega
   rw[fa]at ih;rw[cO];omega
  .omega
def Zv1 {s:aj} (h:qJ s=true):s.length<=24:=by
 unfold qJ at h;rw[aY,aY,bu,bu]at h;have:=ZtI s.length s (aQ _) h.2.2;omega
def MU (a b:bh):ft a b=fL (e4 a) (e4 b):=Zq6 (e4 a) (e4 b)
def Zwe {es hZ:List bh} (hp:hZ.Perm es) (ho:es.Pairwise λa b=>ft a b=true) (hd:(es.map (·.slot)).Nodup):lz hZ=es:=by
 have mh:Diff hZ:=by
  grind[Diff]
 have yk:=Ux (RG mh);have hs:(es.map e4).Pairwise (λa b=>fL b a=false):=by
  rw[Hy];refine ho.imp λ{a b} h=>?_
  rw[MU]at h;exact UB h
 have:=Zpc (l:=hZ.map e4) (l':=es.map e4) ((hp.map e4).symm) yk hs;unfold lz;rw[<-this,Bf,show CW∘e4=id from rfl,List.map_id]
end Go.Gv.F
namespace Go.Gv.F
open Go.Gv
def Zuu {u:Nat} (h:u<=1792):BF (u:Int)=(((u+6)/7:Nat):Int):=by
 unfold BF rJ;rw[ax (show(u:Int)>=0 by omega),ax (show(u:Int)<=1792 by omega),vO,ae,Zc (x:=(u:Int)+7),Zc (x:=(u:Int)+7-1),show((u:Int)+7-1)=((u+6:Nat):Int) by omega,show(((u+6:Nat):Int).tdiv 7)=(((u+6)/7:Nat):Int)from rfl];exact Zc
end Go.Gv.F
namespace Go.Gv.F
open Go.Gv
def Zzn (n k:Nat):di (List.replicate n 0) k=false:=by
 unfold di eE;rw[dW,Le];split<;>simp
end Go.Gv.F
