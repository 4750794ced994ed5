/- Lists without twins. -/
import Derived.Test.YtegglibipjjblaaGreatDoorGvMOk2
set_option linter.all false
namespace Go.Gv.F
open Go.Gv
theorem xL {α:Type} [DecidableEq α]: ∀ {l m:List α},l.Nodup->(∀x∈l,x∈m)->l.length<=m.length
 |[],m,_,_=>cz _
 |a::l,m,hn,hs=>by
  rw[zA]at hn;have ha:=hs a (by simp);have hle:=List.length_erase_of_mem ha;have wR:=List.length_pos_of_mem ha;have:=xL (m:=m.erase a) hn.2 λy hy=>(List.mem_erase_of_ne (λe':y=a=>hn.1 (by rw[<-e'];exact hy))).2 (hs y (by simp[hy]))
  rw[cO];omega
variable {t:Int} {k:Nat}
theorem Vp (h:k<256):(rJ (k:Int)).toNat=k:=by
 unfold rJ;show((k:Int)%256).toNat%256=k;omega
theorem ZkK (n:Nat):ZE (mc n)=true:=by
 simp[ZE,mc]
theorem ZwZ {b:aj} (h:b.length<=56):(jR b 56).length=56:=by
 grind[jR,mc]
theorem Zwh {k:Int} {b:aj} (h:b.length<=56):(pF k t b).length=60:=by
 unfold pF;rw[bB,ZwZ h];rfl
theorem Zra {k:Int} {b:aj} (h:b.length<=56):(iS k t b).length=64:=by
 unfold iS;rw[bB,ZA,Zwh h]
theorem MA {t:Nat} {b:aj} (lO:0<k) (hk:k<256) (ht:t<256) (h:b.length<=56):fM (iS k t b)=some (k,t,jR b 56):=by
 have hl:(iS k t b).length=64:=Zra h;have Xg:(iS k t b).drop 4=pF k t b:=by
  rfl
 have EA:(iS k t b).take 4=db (wy (pF k t b)) 4:=by
  rfl
 have hg: ∀j,(iS k t b).getD (4+j) 0=(pF k t b).getD j 0:=by grind
 have g4:(iS k t b).getD 4 0=rJ k:=hg 0;have g5:(iS k t b).getD 5 0=rJ t:=hg 1;have d6:((iS k t b).drop 6).take 2=[0,0]:=by
  rfl
 have d8:(iS k t b).drop 8=jR b 56:=by
  rfl
 have hr:tK (iS k t b)=true:=by
  unfold tK;rw[hl,g4,d6,Xg,EA,ZsM];have h1:(rJ (k:Int)==0)=false:=by
   rw[eG];intro e;have:=congrArg UInt8.toNat e;rw[Vp hk]at this;grind
  have hc:=VT (pF k t b);rw[h1,Nat.mod_eq_of_lt (by omega)];simp[ZE]
 unfold fM;rw[hr,ae,g4,g5,d8,Vp hk,Vp ht]
theorem ZvB {c:ZP} (h1:c.no<8) (h2:c.eY.length=48):(uM c).length=64/\xN (uM c)=some c:=by
 have ho:fM (uM c)=some (4,c.no,jR c.eY 56):=MA (k:=4) (by decide) (by decide) (by omega) (by omega);refine⟨Zra (by omega),?_⟩;have cA:ZE ((jR c.eY 56).drop 48)=true:=by
  unfold jR;rw[<-h2,C8];exact ZkK _
 have ht:(jR c.eY 56).take 48=c.eY:=by
  grind[jR]
 simp_all[xN]
def w4 (l:aj) (k:Nat):aj:=(l.drop (64*k)).take 64
end Go.Gv.F
namespace Go.Gv.F
open Go.Gv
structure Fin (B:List UInt8) (m:dD):Prop where
 room:64*m.next<=m.B.length
 line: ∀k,2<=k->k<m.next->w4 B k=w4 m.B k
structure Mem (m:Nat) (W:List Nat) (P:Nat->Prop):Prop where
 len:W.length=(m+63)/64
 lt: ∀w∈W,w<18446744073709551616
 iff: ∀b,di W b=true↔P b
theorem acw (img:aj) (k:Nat):ZG img k=w4 img k:=by grind[ZG,w4]
section
variable (K:bL) (A:ak)
end
end Go.Gv.F
namespace Go.Gv.F
open Go.Gv
theorem ZsI: ∀(n:Nat) (s:aj),s.length<=n->((dB s).all λr=>xb r)=true->s.length<=3*(dB s).length
 |0,s,h,_=>by omega
 |n+1,s,h,ha=>by
  by_cases h0:0<s.length
  .rw[M9 h0]at ha⊢
   rw[vS,aY]at ha;have hp:=F3 s 0;have ih:=ZsI n (s.drop (dec s 0).2) (by rw[fa];omega) ha.2;have h3:(dec s 0).2<=3:=by
    have hr:((dec s 0).1:Int)<=65519:=by
     grind[xb]
    rw[BS]at hr⊢;by_cases c1:oc s 0<128
    .rw[bE c1]
     omega
    rw[bj c1]at hr⊢;by_cases c2:(194<=oc s 0/\oc s 0<=223)/\(128<=oc s (0+1)/\oc s (0+1)<=191)
    .rw[bE c2]
     omega
    rw[bj c2]at hr⊢;by_cases c3:(224<=oc s 0/\oc s 0<=239)/\((if oc s 0=224 then 160 else 128)<=oc s (0+1)/\oc s (0+1)<=(if oc s 0=237 then 159 else 191))/\(128<=oc s (0+2)/\oc s (0+2)<=191)
    .rw[bE c3]
     omega
    rw[bj c3]at hr⊢;by_cases c4:(240<=oc s 0/\oc s 0<=244)/\((if oc s 0=240 then 144 else 128)<=oc s (0+1)/\oc s (0+1)<=(if oc s 0=244 then 143 else 191))/\(128<=oc s (0+2)/\oc s (0+2)<=191)/\(128<=oc s (0+3)/\oc s (0+3)<=191)
    .rw[bE c4]at hr
     grind
    rw[bj c4];omega
   rw[fa]at ih;rw[cO];omega
  .omega
theorem ZvE {s:aj} (h:qI s=true):s.length<=24:=by
 unfold qI at h;rw[aY,aY,br,br]at h;have:=ZsI s.length s (aO _) h.2.2;omega
theorem MX (a b:bh):fu a b=fL (e4 a) (e4 b):=Zri (e4 a) (e4 b)
theorem Zwo {es hY:List bh} (hp:hY.Perm es) (ho:es.Pairwise λa b=>fu a b=true) (hd:(es.map (·.slot)).Nodup):lB hY=es:=by
 have kK:Diff hY:=by
  grind[Diff]
 have yl:=UM (Sp kK);have hs:(es.map e4).Pairwise (λa b=>fL b a=false):=by
  rw[HE];refine ho.imp λ{a b} h=>?_
  rw[MX]at h;exact T1 h
 have:=Zpa (l:=hY.map e4) (l':=es.map e4) ((hp.map e4).symm) yl hs;unfold lB;rw[<-this,zw,show C0∘e4=id from rfl,List.map_id]
end Go.Gv.F
namespace Go.Gv.F
open Go.Gv
theorem ZtW {u:Nat} (h:u<=1792):BI (u:Int)=(((u+6)/7:Nat):Int):=by
 unfold BI rK;rw[ax (show(u:Int)>=0 by omega),ax (show(u:Int)<=1792 by omega),vQ,ae,Zc (x:=(u:Int)+7),Zc (x:=(u:Int)+7-1),show((u:Int)+7-1)=((u+6:Nat):Int) by omega,show(((u+6:Nat):Int).tdiv 7)=(((u+6)/7:Nat):Int)from rfl];exact Zc
end Go.Gv.F
namespace Go.Gv.F
open Go.Gv
theorem Zzv (n k:Nat):di (List.replicate n 0) k=false:=by
 unfold di eE;rw[dW,Lm];split<;>simp
end Go.Gv.F
