/- Lists without twins. -/
import Derived.Test.YtegglibipjjblaaGreatDoorGvMOk2
set_option linter.all false
namespace Go.Gv.F
open Go.Gv
theorem yp {α:Type} [DecidableEq α]: ∀ {l m:List α},l.Nodup->(∀x∈l,x∈m)->l.length<=m.length
 |[],m,_,_=>cB _
 |a::l,m,hn,hs=>by
  rw[zY]at hn;have ha:=hs a Do;have hle:=List.length_erase_of_mem ha;have xo:=List.length_pos_of_mem ha;have:=yp (m:=m.erase a) hn.2 λy hy=>(List.mem_erase_of_ne (λe':y=a=>hn.1 (by rw[<-e'];exact hy))).2 (hs y (by simp[hy]))
  rw[cQ];omega
variable {t:Int} {k n:Nat} {s:aj}
theorem Wx (h:k<256):(sw (k:Int)).toNat=k:=by
 unfold sw;show((k:Int)%256).toNat%256=k;omega
theorem ZkG (n:Nat):ZD (l9 n)=true:=by
 simp[ZD,l9]
theorem Zx8 {b:aj} (h:b.length<=56):(j3 b 56).length=56:=by
 grind[j3,l9]
theorem Zx1 {k:Int} {b:aj} (h:b.length<=56):(qb k t b).length=60:=by
 unfold qb;rw[bz,Zx8 h];rfl
theorem VB {k:Int} {b:aj} (h:b.length<=56:=by omega):(ja k t b).length=64:=by
 unfold ja;rw[bz,Zy,Zx1 h]
theorem Nq {t:Nat} {b:aj} (mg:0<k) (hk:k<256) (ht:t<256) (h:b.length<=56):fU (ja k t b)=some (k,t,j3 b 56):=by
 have hl:(ja k t b).length=64:=VB h;have XY:(ja k t b).drop 4=qb k t b:=by
  rfl
 have Fh:(ja k t b).take 4=cZ (pN (qb k t b)) 4:=by
  rfl
 have hg: ∀j,(ja k t b).getD (4+j) 0=(qb k t b).getD j 0:=Fd
 have g4:(ja k t b).getD 4 0=sw k:=hg 0;have g5:(ja k t b).getD 5 0=sw t:=hg 1;have d6:((ja k t b).drop 6).take 2=[0,0]:=by
  rfl
 have d8:(ja k t b).drop 8=j3 b 56:=by
  rfl
 have hr:uo (ja k t b)=true:=by
  unfold uo;rw[hl,g4,d6,XY,Fh,Zuc];have h1:(sw (k:Int)==0)=false:=by
   rw[eN];intro e;have:=congrArg UInt8.toNat e;rw[Wx hk]at this;grind
  have hc:=NV (qb k t b);rw[h1,Nat.mod_eq_of_lt AC];simp[ZD]
 unfold fU;rw[hr,ae,g4,g5,d8,Wx hk,Wx ht]
theorem Zwj {c:ZS} (h1:c.no<8) (h2:c.dR.length=48):(ui c).length=64/\yr (ui c)=some c:=by
 have ho:fU (ui c)=some (4,c.no,j3 c.dR 56):=Nq (k:=4) EQ EQ AC AC;refine⟨VB,?_⟩;have cD:ZD ((j3 c.dR 56).drop 48)=true:=by
  unfold j3;rw[<-h2,DG];exact ZkG _
 have ht:(j3 c.dR 56).take 48=c.dR:=by
  grind[j3]
 simp_all[yr]
def nU (l:aj) (k:Nat):aj:=(l.drop (64*k)).take 64
structure Ex (m m':cP):Prop where
 len:m'.B.length=m.B.length
 le:m.next<=m'.next
 line: ∀k,k<m.next->nU m'.B k=nU m.B k
theorem Ex.refl (m:cP):Ex m m:=⟨rfl,aM _,λ_ _=>rfl⟩
theorem Ex.trans {a b c:cP} (h:Ex a b) (k:Ex b c):Ex a c:=⟨k.len.trans h.len,hU h.le k.le,λj hj=>(k.line j (mo hj h.le)).trans (h.line j hj)⟩
theorem Ex.at {m m':cP} (h:Ex m m') (l:ak):Ex m { m' with At:=l } :=⟨h.len,h.le,h.line⟩
theorem Zv6 {B:aj} (hn:64*n<=B.length) (hk:k<n):nU (mQ B (64*n) s) k=nU B k:=by
 grind[nU,mQ,BD,BH]
theorem ZvN {B:aj} (hn:64*n+64<=B.length) (hs:s.length=64) (hk:n<k):nU (mQ B (64*n) s) k=nU B k:=by
 unfold nU mQ;have hl:(B.take (64*n)).length=64*n:=by rw[cR];omega
 have lO:(s.take (B.length-64*n)).length=64:=by rw[cR];omega
 rw[List.drop_append,hl,ly AC,iG,List.drop_append,lO,ly AC,iG,jG,hs,show 64*n+64+(64*k-64*n-64)=64*k by omega]
theorem Ex.put (m:cP) (s:aj):Ex m (ll m s):=by
 refine⟨vr m s,Nat.le_succ _,λk hk=>?_⟩;unfold ll;by_cases h:64*m.next+64<=m.B.length
 .rw[aX h]
  exact Zv6 AC hk
 grind
theorem Ex.fin (es:List bm) (r:ak×cP):Ex r.2 (vJ es r).2:=by
 unfold vJ;cases es with
 |nil=>exact .refl _
 |cons e t=>exact(Ex.put r.2 _).at _
theorem Ex.kids: ∀(j:Nat) (es:List bm) (m:cP),Ex m (gL j es m).2
 |0,_,m=> .refl m
 |j+1,es,m=>((Ex.kids j es m).trans (Ex.kids j _ _)).trans (Ex.fin _ _)
theorem Ex.tree (j:Nat) (es:List bm) (m:cP):Ex m (oS j es m).2:=(Ex.kids j es m).trans (Ex.fin _ _)
theorem Ex.qa (cH:Nat): ∀(c k:Nat) (hs:ak) (rest:List bm) (m:cP),Ex m (qa cH c k hs rest m).2
 |0,_,_,_,m=> .refl m
 |c+1,k,hs,rest,m=>by
  unfold F.qa;cases eI cH k with
  |true=>exact(Ex.tree k _ m).trans (Ex.qa cH c _ _ _ _)
  |false=>exact Ex.qa cH c _ _ _ _
theorem Ex.pP: ∀(l:List dJ) (jw:ak) (m:cP),Ex m (pP l jw m).2
 |[],_,m=> .refl m
 |_x::r,akY,m=>((Ex.qa _ _ _ _ _ m).trans (Ex.put _ _)).trans (Ex.pP r _ _)
theorem Ex.rO (l:List dJ) (m:cP):Ex m (rO l m).2:=by
 unfold F.rO;have:=Ex.pP l [] m;generalize F.pP l [] m=t at this;simp only;cases yw t.1 with
 |none=>exact this
 |some s=>exact this.trans (Ex.put _ _)
theorem Ex.nu (aF free:ak): ∀(c f:Nat) (ls:ak) (m:cP),Ex m (nu aF free c f ls m).2
 |0,_,_,m=> .refl m
 |c+1,f,ls,m=>by
  unfold F.nu;cases decide (f<aF.length)with
  |true=>exact(Ex.put m _).trans (Ex.nu aF free c _ _ _)
  |false=>exact .refl m
theorem Ex.qC (leaves:ak): ∀(c i:Nat) (top:ak) (m:cP),Ex m (qC leaves c i top m).2
 |0,_,_,m=> .refl m
 |c+1,i,top,m=>by
  unfold F.qC;cases decide (16*i<leaves.length)with
  |true=>exact(Ex.put m _).trans (Ex.qC leaves c _ _ _)
  |false=>exact .refl m
theorem Ex.sq (aF free:ak) (m:cP):Ex m (sq aF free m).2:=by
 unfold F.sq;have:=Ex.nu aF free aF.length 0 [] m;generalize F.nu aF free aF.length 0 [] m=t at this;simp only;cases Nat.beq t.1.length 0 with
 |true=>exact this
 |false=>exact(this.trans (Ex.qC _ _ _ _ _)).trans (Ex.put _ _)
theorem Ex.pL (used:ak): ∀(c i:Nat) (m:cP),Ex m (pL used c i m)
 |0,_,m=> .refl m
 |c+1,_i,m=>(Ex.put m _).trans (Ex.pL used c _ _)
theorem Ex.all (x:eR):Ex (xB x) (F.pL (qc x) (wh x) 0 (jD x).2):=((Ex.rO x.aK (xB x)).trans (Ex.sq x.aF x.free (xC x).2)).trans (Ex.pL _ _ _ _)
theorem Zpg {x:cy} (h:pB x):x.aJ.length<=8:=by
 have hl:=h.len;have hg:=h.g;have⟨g1,g2,_⟩:=ZR hg;unfold Av at hl;rw[hg,ae]at hl;unfold qS at hl;have e1:ar (x.blocks+384)=x.blocks+384:=by
  have⟨m,hm⟩: ∃m:Nat,x.blocks=m:=⟨x.blocks.toNat,AC⟩;rw[hm];exact Zc
 have e2:ar (x.blocks+384-1)=x.blocks+384-1:=by
  have⟨m,hm⟩: ∃m:Nat,x.blocks=m:=⟨x.blocks.toNat,AC⟩;rw[hm,show((m:Int)+384-1)=((m+383:Nat):Int) by omega];exact Zc
 rw[e1,e2,Int.tdiv_eq_ediv_of_nonneg AC]at hl;have e3:ar ((x.blocks+384-1)/384)=(x.blocks+384-1)/384:=by
  have⟨m,hm⟩: ∃m:Nat,(x.blocks+384-1)/384=m:=⟨((x.blocks+384-1)/384).toNat,AC⟩;rw[hm];exact Zc
 rw[e3]at hl;omega
theorem Zzk (x:cy):(HX x).length=32+2*x.aJ.length:=by
 grind[HX,bz,Zy,uc]
theorem Zpr {x:cy} (h:pB x):(sZ x).length=64:=by
 have h1:=Zpg h;have h2:=Zzk x;exact VB
structure Fin (B:List UInt8) (m:cP):Prop where
 room:64*m.next<=m.B.length
 line: ∀k,2<=k->k<m.next->nU B k=nU m.B k
structure Mem (m:Nat) (W:List Nat) (P:Nat->Prop):Prop where
 len:W.length=(m+63)/64
 lt: ∀w∈W,w<18446744073709551616
 iff: ∀b,du W b=true↔P b
theorem adf (img:aj) (k:Nat):ZG img k=nU img k:=by grind[ZG,nU]
section
variable (K:bP) (A:ak)
end
end Go.Gv.F
namespace Go.Gv.F
open Go.Gv
theorem Zth: ∀(n:Nat) (s:aj),s.length<=n->((dM s).all λr=>xG r)=true->s.length<=3*(dM s).length
 |0,s,h,_=>by omega
 |n+1,s,h,ha=>by
  by_cases h0:0<s.length
  .rw[Nz h0]at ha⊢
   rw[wE,aY]at ha;have hp:=Gz s 0;have ih:=Zth n (s.drop (dec s 0).2) (by rw[eH];omega) ha.2;have h3:(dec s 0).2<=3:=by
    have hr:((dec s 0).1:Int)<=65519:=by
     grind[xG]
    rw[Cu]at hr⊢;by_cases c1:oc s 0<128
    .rw[bG c1]
     omega
    rw[bq c1]at hr⊢;by_cases c2:(194<=oc s 0/\oc s 0<=223)/\(128<=oc s (0+1)/\oc s (0+1)<=191)
    .rw[bG c2]
     omega
    rw[bq c2]at hr⊢;by_cases c3:(224<=oc s 0/\oc s 0<=239)/\((if oc s 0=224 then 160 else 128)<=oc s (0+1)/\oc s (0+1)<=(if oc s 0=237 then 159 else 191))/\(128<=oc s (0+2)/\oc s (0+2)<=191)
    .rw[bG c3]
     omega
    rw[bq c3]at hr⊢;by_cases c4:(240<=oc s 0/\oc s 0<=244)/\((if oc s 0=240 then 144 else 128)<=oc s (0+1)/\oc s (0+1)<=(if oc s 0=244 then 143 else 191))/\(128<=oc s (0+2)/\oc s (0+2)<=191)/\(128<=oc s (0+3)/\oc s (0+3)<=191)
    .rw[bG c4]at hr
     grind
    rw[bq c4];omega
   rw[eH]at ih;rw[cQ];omega
  .omega
theorem Zv8 {s:aj} (h:rF s=true):s.length<=24:=by
 unfold rF at h;rw[aY,aY,bn,bn]at h;have:=Zth s.length s (aM _) h.2.2;omega
theorem Nx (a b:bm):fD a b=fT (e4 a) (e4 b):=Zrw (e4 a) (e4 b)
theorem Zw1 {es iy:List bm} (hp:iy.Perm es) (ho:es.Pairwise λa b=>fD a b=true) (hd:(es.map (·.slot)).Nodup):lQ iy=es:=by
 have kV:Diff iy:=by
  grind[Diff]
 have yP:=Ve (TD kV);have hs:(es.map e4).Pairwise (λa b=>fT b a=false):=by
  rw[Ia];refine ho.imp λ{a b} h=>?_
  rw[Nx]at h;exact Vh h
 have:=Zpk (l:=iy.map e4) (l':=es.map e4) ((hp.map e4).symm) yP hs;unfold lQ;rw[<-this,zX,show Dy∘e4=id from rfl,List.map_id]
end Go.Gv.F
namespace Go.Gv.F
open Go.Gv
theorem Zui {u:Nat} (h:u<=1792):Cj (u:Int)=(((u+6)/7:Nat):Int):=by
 unfold Cj qS;rw[aS (AC:(u:Int)>=0),aS (AC:(u:Int)<=1792),wC,ae,Zc (x:=(u:Int)+7),Zc (x:=(u:Int)+7-1),show((u:Int)+7-1)=((u+6:Nat):Int) by omega,show(((u+6:Nat):Int).tdiv 7)=(((u+6)/7:Nat):Int)from rfl];exact Zc
end Go.Gv.F
namespace Go.Gv.F
open Go.Gv
structure ZAX (x:eR) (eD:Int) (B:List UInt8):Prop where
 ok:pB (fG x eD)
 room:(jD x).2.next+wh x<=x.blocks.toNat
 fin:Fin B (pL (qc x) (wh x) 0 (jD x).2)
 len:B.length=64*x.blocks.toNat
theorem ZuU {x:eR} {eD place:Int} {B:aj} {s:cy} (hb:Cq x eD place=some (B,s)):s=fG x eD/\ZAX x eD B:=by
 unfold Cq at hb;cases hc:(decide (((qc x).length:Int)>x.blocks)|| !ZT (fG x eD))with
 |true=>rw[hc]at hb;cases hb
 |false=>
  rw[hc,af]at hb;have⟨h1,h2⟩:=BB.1 hc;rw[xV]at h1;have hS:pB (fG x eD):=(Ai _).1 (by rw[<-L5];exact h2);have zg:(qc x).length=(jD x).2.next+wh x:=vp _ _;have hZ:x.blocks=(fG x eD).blocks:=rfl;have⟨g1,g2,_⟩:=ZR hS.g;rw[<-hZ]at g1 g2;have hex:=Ex.all x;have hC:(pL (qc x) (wh x) 0 (jD x).2).B.length=64*x.blocks.toNat:=by
   rw[hex.len];simp[xB,l9]
  have hp:=Zpr hS;have hk:=Zme (qc x) (wh x) 0 (jD x).2;have⟨C,hCd⟩: ∃C,pL (qc x) (wh x) 0 (jD x).2=C:=⟨_,rfl⟩;rw[hCd]at hb hC hk;cases hb;have hlen:(mQ C.B (64*(place%2).toNat) (sZ (fG x eD))).length=C.B.length:=by
   unfold mQ;grind
  refine⟨rfl,hS,AC,?_,by rw[hlen,hC]⟩;rw[hCd];refine⟨by rw[hC,hk.2];omega,λk h2 h3=>?_⟩;exact ZvN AC hp AC
theorem ZzJ (n k:Nat):du (List.replicate n 0) k=false:=by
 unfold du eI;rw[ef,L7];split<;>simp
end Go.Gv.F
