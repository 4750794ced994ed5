/- Lists without twins. -/
import Derived.Test.YtegglibipjjblaaGreatDoorGvDef
import Derived.Test.YtegglibipjjblaaGreatDoorGvZMe
import Derived.Test.YtegglibipjjblaaGreatDoorGvZMd
import Derived.Test.YtegglibipjjblaaGreatDoorGvZMc
import Derived.Test.YtegglibipjjblaaGreatDoorGvMOk2
namespace Go.Gv.F
open Go.Gv
theorem Cf {α:Type} [DecidableEq α]: ∀ {l m:List α},l.Nodup->(∀x∈l,x∈m)->l.length<=m.length
 |[],m,_,_=>cn _
 |a::l,m,hn,hs=>by
  rw[yk]at hn;have ha:=hs a (by simp);have hle:=List.length_erase_of_mem ha;have vT:=List.length_pos_of_mem ha;have:=Cf (m:=m.erase a) hn.2 λy hy=>(List.mem_erase_of_ne (λe':y=a=>hn.1 (by rw[<-e'];exact hy))).2 (hs y (by simp[hy]))
  rw[cH];omega
variable {t:Int} {k n:Nat} {s:aj}
theorem Th (h:k<256):(rb (k:Int)).toNat=k:=by
 unfold rb;show((k:Int)%256).toNat%256=k;omega
theorem ZjY (n:Nat):ZI (lf n)=true:=by
 simp[ZI,lf]
theorem ZuO {b:aj} (h:b.length<=56):(ju b 56).length=56:=by
 grind[ju,lf]
theorem ZvJ {k:Int} {b:aj} (h:b.length<=56):(oU k t b).length=60:=by
 unfold oU;rw[bz,ZuO h];rfl
theorem Sv {k:Int} {b:aj} (h:b.length<=56:=by omega):(iE k t b).length=64:=by
 unfold iE;rw[bz,Zx,ZvJ h]
theorem K2 {t:Nat} {b:aj} (j9:0<k) (hk:k<256) (ht:t<256) (h:b.length<=56):fY (iE k t b)=some (k,t,ju b 56):=by
 have hl:(iE k t b).length=64:=Sv h;have UU:(iE k t b).drop 4=oU k t b:=by
  rfl
 have Dg:(iE k t b).take 4=dF (oA (oU k t b)) 4:=by
  rfl
 have hg: ∀j,(iE k t b).getD (4+j) 0=(oU k t b).getD j 0:=by grind
 have g4:(iE k t b).getD 4 0=rb k:=hg 0;have g5:(iE k t b).getD 5 0=rb t:=hg 1;have d6:((iE k t b).drop 6).take 2=[0,0]:=by
  rfl
 have d8:(iE k t b).drop 8=ju b 56:=by
  rfl
 have hr:rK (iE k t b)=true:=by
  unfold rK;rw[hl,g4,d6,UU,Dg,Zsr];have h1:(rb (k:Int)==0)=false:=by
   rw[dY];intro e;have:=congrArg UInt8.toNat e;rw[Th hk]at this;grind
  have hc:=LJ (oU k t b);rw[h1,Nat.mod_eq_of_lt (by omega)];simp[ZI]
 unfold fY;rw[hr,ae,g4,g5,d8,Th hk,Th ht]
theorem Zuq {c:ZN} (h1:c.no<8) (h2:c.dH.length=48):(ta c).length=64/\wX (ta c)=some c:=by
 have ho:fY (ta c)=some (4,c.no,ju c.dH 56):=K2 (k:=4) (by decide) (by decide) (by omega) (by omega);refine⟨Sv,?_⟩;have cx:ZI ((ju c.dH 56).drop 48)=true:=by
  unfold ju;rw[<-h2,BI];exact ZjY _
 have ht:(ju c.dH 56).take 48=c.dH:=by
  unfold ju;rw[<-h2,BK]
 unfold wX;rw[ho];simp only;rw[cx,ht,aw h1];rfl
def mD (l:aj) (k:Nat):aj:=(l.drop (64*k)).take 64
structure Ex (m m':cE):Prop where
 len:m'.B.length=m.B.length
 le:m.next<=m'.next
 line: ∀k,k<m.next->mD m'.B k=mD m.B k
theorem Ex.refl (m:cE):Ex m m:=⟨rfl,aL _,λ_ _=>rfl⟩
theorem Ex.trans {a b c:cE} (h:Ex a b) (k:Ex b c):Ex a c:=⟨k.len.trans h.len,gH h.le k.le,λj hj=>(k.line j (lE hj h.le)).trans (h.line j hj)⟩
theorem Ex.at {m m':cE} (h:Ex m m') (l:ak):Ex m { m' with At:=l } :=⟨h.len,h.le,h.line⟩
theorem Zum {B:aj} (hn:64*n<=B.length) (hk:k<n):mD (mF B (64*n) s) k=mD B k:=by
 unfold mD mF;rw[List.drop_append_of_le_length (by rw[cz];omega),N8 (by rw[dT,cz];omega),BJ,DK,kT (by omega)]
theorem ZtI {B:aj} (hn:64*n+64<=B.length) (hs:s.length=64) (hk:n<k):mD (mF B (64*n) s) k=mD B k:=by
 unfold mD mF;have hl:(B.take (64*n)).length=64*n:=by rw[cz];omega
 have jN:(s.take (B.length-64*n)).length=64:=by rw[cz];omega
 rw[List.drop_append,hl,kz (by omega),gU,List.drop_append,jN,kz (by omega),gU,jX,hs];rw[show 64*n+64+(64*k-64*n-64)=64*k by omega]
theorem Ex.put (m:cE) (s:aj):Ex m (kt m s):=by
 refine⟨uk m s,Nat.le_succ _,λk hk=>?_⟩;unfold kt;by_cases h:64*m.next+64<=m.B.length
 .simp only[aw h,ae]
  exact Zum (by omega) hk
 .simp only[aB h,af]
theorem Ex.fin (es:List bh) (r:ak×cE):Ex r.2 (uB es r).2:=by
 unfold uB;cases es with
 |nil=>exact .refl _
 |cons e t=>exact(Ex.put r.2 _).at _
theorem Ex.kids: ∀(j:Nat) (es:List bh) (m:cE),Ex m (fX j es m).2
 |0,_,m=> .refl m
 |j+1,es,m=>((Ex.kids j es m).trans (Ex.kids j _ _)).trans (Ex.fin _ _)
theorem Ex.tree (j:Nat) (es:List bh) (m:cE):Ex m (nV j es m).2:=(Ex.kids j es m).trans (Ex.fin _ _)
theorem Ex.oT (cM:Nat): ∀(c k:Nat) (hs:ak) (rest:List bh) (m:cE),Ex m (oT cM c k hs rest m).2
 |0,_,_,_,m=> .refl m
 |c+1,k,hs,rest,m=>by
  unfold F.oT;cases fF cM k with
  |true=>exact(Ex.tree k _ m).trans (Ex.oT cM c _ _ _ _)
  |false=>exact Ex.oT cM c _ _ _ _
theorem Ex.oD: ∀(l:List dr) (iV:ak) (m:cE),Ex m (oD l iV m).2
 |[],_,m=> .refl m
 |_x::r,ag6,m=>((Ex.oT _ _ _ _ _ m).trans (Ex.put _ _)).trans (Ex.oD r _ _)
theorem Ex.qC (l:List dr) (m:cE):Ex m (qC l m).2:=by
 unfold F.qC;have:=Ex.oD l [] m;generalize F.oD l [] m=t at this;simp only;cases xf t.1 with
 |none=>exact this
 |some s=>exact this.trans (Ex.put _ _)
theorem Ex.mC (aH free:ak): ∀(c f:Nat) (ls:ak) (m:cE),Ex m (mC aH free c f ls m).2
 |0,_,_,m=> .refl m
 |c+1,f,ls,m=>by
  unfold F.mC;cases decide (f<aH.length)with
  |true=>exact(Ex.put m _).trans (Ex.mC aH free c _ _ _)
  |false=>exact .refl m
theorem Ex.pJ (leaves:ak): ∀(c i:Nat) (top:ak) (m:cE),Ex m (pJ leaves c i top m).2
 |0,_,_,m=> .refl m
 |c+1,i,top,m=>by
  unfold F.pJ;cases decide (16*i<leaves.length)with
  |true=>exact(Ex.put m _).trans (Ex.pJ leaves c _ _ _)
  |false=>exact .refl m
theorem Ex.qZ (aH free:ak) (m:cE):Ex m (qZ aH free m).2:=by
 unfold F.qZ;have:=Ex.mC aH free aH.length 0 [] m;generalize F.mC aH free aH.length 0 [] m=t at this;simp only;cases Nat.beq t.1.length 0 with
 |true=>exact this
 |false=>exact(this.trans (Ex.pJ _ _ _ _ _)).trans (Ex.put _ _)
theorem Ex.oy (used:ak): ∀(c i:Nat) (m:cE),Ex m (oy used c i m)
 |0,_,m=> .refl m
 |c+1,_i,m=>(Ex.put m _).trans (Ex.oy used c _ _)
theorem Ex.all (x:eO):Ex (we x) (F.oy (oV x) (su x) 0 (jb x).2):=((Ex.qC x.aU (we x)).trans (Ex.qZ x.aH x.free (wg x).2)).trans (Ex.oy _ _ _ _)
theorem Zt5 {x:eC} (h:qf x):x.aO.length<=8:=by
 have hl:=h.len;have hg:=h.g;obtain⟨g1,g2,_⟩:=Z3 hg;unfold yy at hl;rw[hg,ae]at hl;unfold qa at hl;have e1:ar (x.blocks+384)=x.blocks+384:=by
  obtain⟨m,hm⟩: ∃m:Nat,x.blocks=m:=⟨x.blocks.toNat,by omega⟩;rw[hm];exact Zc
 have e2:ar (x.blocks+384-1)=x.blocks+384-1:=by
  obtain⟨m,hm⟩: ∃m:Nat,x.blocks=m:=⟨x.blocks.toNat,by omega⟩;rw[hm,show((m:Int)+384-1)=((m+383:Nat):Int) by omega];exact Zc
 rw[e1,e2,Int.tdiv_eq_ediv_of_nonneg (by omega)]at hl;have e3:ar ((x.blocks+384-1)/384)=(x.blocks+384-1)/384:=by
  obtain⟨m,hm⟩: ∃m:Nat,(x.blocks+384-1)/384=m:=⟨((x.blocks+384-1)/384).toNat,by omega⟩;rw[hm];exact Zc
 rw[e3]at hl;omega
theorem Zwk (x:eC):(NR x).length=32+2*x.aO.length:=by
 unfold NR;simp only[bz,Zx,sU]
theorem Zub {x:eC} (h:qf x):(Aw x).length=64:=by
 have h1:=Zt5 h;have h2:=Zwk x;exact Sv
structure Fin (B:List UInt8) (m:cE):Prop where
 room:64*m.next<=m.B.length
 line: ∀k,2<=k->k<m.next->mD B k=mD m.B k
structure Mem (m:Nat) (W:List Nat) (P:Nat->Prop):Prop where
 len:W.length=(m+63)/64
 lt: ∀w∈W,w<18446744073709551616
 iff: ∀b,dM W b=true↔P b
theorem Y1 (img:aj) (k:Nat):ZB img k=mD img k:=by grind[ZB,mD]
section
variable (K:bV) (A:ak)
end
end Go.Gv.F
namespace Go.Gv.F
open Go.Gv
theorem ZqT: ∀(n:Nat) (s:aj),s.length<=n->((dp s).all λr=>wm r)=true->s.length<=3*(dp s).length
 |0,s,h,_=>by omega
 |n+1,s,h,ha=>by
  by_cases h0:0<s.length
  .rw[Lo h0]at ha⊢
   rw[tL,aR]at ha;have hp:=Cn s 0;have ih:=ZqT n (s.drop (dec s 0).2) (by rw[dT];omega) ha.2;have h3:(dec s 0).2<=3:=by
    have ho:=ha.1;have hr:((dec s 0).1:Int)<=65519:=by
     unfold wm at ho;simp only[lz,aR,bq,kU]at ho;omega
    rw[Ao]at hr⊢;by_cases c1:oc s 0<128
    .rw[bw c1]
     show 1<=3;omega
    rw[aW c1]at hr⊢;by_cases c2:(194<=oc s 0/\oc s 0<=223)/\(128<=oc s (0+1)/\oc s (0+1)<=191)
    .rw[bw c2]
     show 2<=3;omega
    rw[aW c2]at hr⊢;by_cases c3:(224<=oc s 0/\oc s 0<=239)/\((if oc s 0=224 then 160 else 128)<=oc s (0+1)/\oc s (0+1)<=(if oc s 0=237 then 159 else 191))/\(128<=oc s (0+2)/\oc s (0+2)<=191)
    .rw[bw c3]
     show 3<=3;omega
    rw[aW c3]at hr⊢;by_cases c4:(240<=oc s 0/\oc s 0<=244)/\((if oc s 0=240 then 144 else 128)<=oc s (0+1)/\oc s (0+1)<=(if oc s 0=244 then 143 else 191))/\(128<=oc s (0+2)/\oc s (0+2)<=191)/\(128<=oc s (0+3)/\oc s (0+3)<=191)
    .rw[bw c4]at hr
     exfalso;simp only at hr;by_cases e:oc s 0=240
     .have:=c4.2.1.1
      rw[bw e]at this;omega
     .omega
    rw[aW c4];show 1<=3;omega
   rw[dT]at ih;rw[cH];omega
  .omega
theorem Zuk {s:aj} (h:rI s=true):s.length<=24:=by
 unfold rI at h;rw[aR,aR,bq,bq]at h;have:=ZqT s.length s (aL _) h.2.2;omega
theorem Ld (a b:bh):fb a b=fp (e4 a) (e4 b):=ZuV (e4 a) (e4 b)
theorem ZvS {es gY:List bh} (hp:gY.Perm es) (ho:es.Pairwise λa b=>fb a b=true) (hd:(es.map (·.slot)).Nodup):vb gY=es:=by
 have oJ:Diff gY:=by
  have:=(hp.map (·.slot)).nodup_iff.2 hd;unfold Diff;exact JN.1 this
 have xA:=Si (Qk oJ);have hs:(es.map e4).Pairwise (λa b=>fp b a=false):=by
  rw[JN];refine ho.imp λ{a b} h=>?_
  rw[Ld]at h;exact Se h
 have:=ZnV (l:=gY.map e4) (l':=es.map e4) ((hp.map e4).symm) xA hs;unfold vb;rw[<-this,List.map_map,show F3∘e4=id from rfl,List.map_id]
end Go.Gv.F
namespace Go.Gv.F
open Go.Gv
theorem Zst {u:Nat} (h:u<=1792):Ah (u:Int)=(((u+6)/7:Nat):Int):=by
 unfold Ah qa;rw[aw (show(u:Int)>=0 by omega),aw (show(u:Int)<=1792 by omega),wE,ae,Zc (x:=(u:Int)+7),Zc (x:=(u:Int)+7-1),show((u:Int)+7-1)=((u+6:Nat):Int) by omega,show(((u+6:Nat):Int).tdiv 7)=(((u+6)/7:Nat):Int)from rfl];exact Zc
end Go.Gv.F
namespace Go.Gv.F
open Go.Gv
structure Zx8 (x:eO) (dV:Int) (B:List UInt8):Prop where
 ok:qf (gv x dV)
 room:(jb x).2.next+su x<=x.blocks.toNat
 fin:Fin B (oy (oV x) (su x) 0 (jb x).2)
 len:B.length=64*x.blocks.toNat
theorem Zs6 {x:eO} {dV place:Int} {B:aj} {s:eC} (hb:yE x dV place=some (B,s)):s=gv x dV/\Zx8 x dV B:=by
 unfold yE at hb;cases hc:(decide (((oV x).length:Int)>x.blocks)|| !Z6 (gv x dV))with
 |true=>rw[hc]at hb;cases hb
 |false=>
  rw[hc,af]at hb;obtain⟨h1,h2⟩:=wF.1 hc;rw[ry]at h1;have hS:qf (gv x dV):=(zZ _).1 (by rw[<-Bool.not_eq_false'];exact h2);have xN:(oV x).length=(jb x).2.next+su x:=sS _ _;have gR:x.blocks=(gv x dV).blocks:=rfl;obtain⟨g1,g2,_⟩:=Z3 hS.g;rw[<-gR]at g1 g2;have hex:=Ex.all x;have hC:(oy (oV x) (su x) 0 (jb x).2).B.length=64*x.blocks.toNat:=by
   rw[hex.len];unfold we lf;simp
  have hp:=Zub hS;have hk:=ZlQ (oV x) (su x) 0 (jb x).2;obtain⟨C,hCd⟩: ∃C,oy (oV x) (su x) 0 (jb x).2=C:=⟨_,rfl⟩;rw[hCd]at hb hC hk;cases hb;have hn:(place%2).toNat<2:=by omega
  have hlen:(mF C.B (64*(place%2).toNat) (Aw (gv x dV))).length=C.B.length:=by
   unfold mF;simp only[bz,cz,dT];omega
  refine⟨rfl,hS,by omega,?_,by rw[hlen,hC]⟩;rw[hCd];refine⟨by rw[hC,hk.2];omega,λk h2 h3=>?_⟩;exact ZtI (by omega) hp (by omega)
theorem Zxq (n k:Nat):dM (List.replicate n 0) k=false:=by
 unfold dM fF;rw[dX,List.getElem?_replicate];split<;>simp
end Go.Gv.F
