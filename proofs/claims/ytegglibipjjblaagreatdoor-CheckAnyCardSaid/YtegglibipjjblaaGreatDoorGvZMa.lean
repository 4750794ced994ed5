/- Numbers as octets, the least one first. -/
import Derived.Test.YtegglibipjjblaaGreatDoorGvZPg
set_option linter.all false
namespace Go.Gv.F
open Go.Gv
def ez:aj->Nat
 |[]=>0
 |c::l=>c.toNat+256*ez l
def db:Nat->Nat->aj
 |_,0=>[]
 |v,n+1=>UInt8.ofNat v::db (v/256) n
theorem ZA: ∀(v n:Nat),(db v n).length=n
 |_,0=>rfl
 |v,n+1=>by rw[db,cO,ZA]
theorem Ga: ∀(l:aj),ez l<256^l.length
 |[]=>by decide
 |c::l=>by
  have h1:=c.toNat_lt;have h2:=Ga l;rw[ez,cO,uz];omega
theorem ZsM: ∀(v n:Nat),ez (db v n)=v%256^n
 |v,0=>by simp[db,ez,Nat.mod_one]
 |v,n+1=>by
  rw[db,ez,ZsM,uz,De (256^n),Nat.mod_mul];have:(UInt8.ofNat v).toNat=v%256:=rfl;rw[this]
theorem M5: ∀(l:aj),db (ez l) l.length=l
 |[]=>rfl
 |c::l=>by
  have h1:=c.toNat_lt;rw[ez,cO,db,show(c.toNat+256*ez l)/256=ez l by omega,M5 l];simp
theorem ZuX: ∀(l m:aj),ez (l++m)=ez l+256^l.length*ez m
 |[],m=>by simp[ez]
 |c::l,m=>by
  rw[nQ,ez,ez,ZuX l m,cO,uz,Nat.mul_add,<-Nat.mul_assoc,De 256 (256^l.length)];omega
theorem Vj: ∀(v m n:Nat),db v (m+n)=db v m++db (v/256^m) n
 |v,0,n=>by simp[db]
 |v,m+1,n=>by
  rw[show m+1+n=(m+n)+1 by omega,db,db,Vj (v/256) m n,nQ,uz,De (256^m),Ff]
def oC (x:Nat):Nat:=if x%2=1 then(x/2)^^^2197175160 else x/2
def ZO:Nat->Nat->Nat
 |0,x=>x
 |n+1,x=>ZO n (oC x)
def sX (x:Nat) (c:UInt8):Nat:=ZO 8 (x^^^c.toNat)
def wy (l:aj):Nat:=4294967295-l.foldl sX 4294967295
theorem Zzz (a b:Nat):(a^^^b)%2=(a+b)%2:=by
 have h:=Nat.testBit_xor a b 0;grind
theorem ZxW (a b:Nat):(a^^^b)/2=(a/2)^^^(b/2):=by
 have:=Nat.shiftRight_xor_distrib (a:=a) (b:=b) (i:=1);grind[Nat.shiftRight_succ]
theorem ZwI (a b:Nat):oC (a^^^b)=oC a^^^oC b:=by
 unfold oC;rw[Zzz,ZxW];rcases P3 a with ha|ha<;>rcases P3 b with hb|hb
 .rw[bj (by omega),bj (by omega),bj (by omega)]
 .rw[bE (by omega),bj (by omega),bE (by omega),Nat.xor_assoc]
 .rw[bE (by omega),bE (by omega),bj (by omega),Nat.xor_assoc,Nat.xor_comm (b/2),<-Nat.xor_assoc]
 grind
theorem Zor: ∀(n a b:Nat),ZO n (a^^^b)=ZO n a^^^ZO n b
 |0,_,_=>rfl
 |n+1,a,b=>by rw[ZO,ZO,ZO,ZwI,Zor n]
theorem Zok: ∀(m n x:Nat),ZO (m+n) x=ZO n (ZO m x)
 |0,n,x=>by rw[eO];rfl
 |m+1,n,x=>by rw[show m+1+n=(m+n)+1 by omega,ZO,ZO,Zok m n]
theorem MD (z:Nat):oC (2*z)=z:=by simp[oC]
theorem ZzF (x:Nat):x=(16*(x/16))^^^(x%16):=by
 refine Dc λi=>?_
 rw[Nat.testBit_xor];have e1:(16*(x/16)).testBit i=(decide (4<=i)&&x.testBit i):=by
  rw[show 16*(x/16)=2^4*(x/2^4)from rfl,Nat.testBit_two_pow_mul];by_cases h:4<=i
  .rw[ax h,Nat.testBit_div_two_pow,show i-4+4=i by omega]
  grind
 have e2:(x%16).testBit i=(decide (i<4)&&x.testBit i):=by
  rw[show x%16=x%2^4 from rfl,Nat.testBit_mod_two_pow]
 rw[e1,e2];by_cases h:4<=i
 .rw[ax h,aF (by omega)];simp
 grind
theorem nib (x:Nat):ZO 4 x=(x/16)^^^ZO 4 (x%16):=by
 have h:ZO 4 (16*(x/16))=x/16:=by
  generalize x/16=y;show oC (oC (oC (oC (16*y))))=y;rw[show 16*y=2*(2*(2*(2*y))) by omega,MD,MD,MD,MD]
 have h2:=Zor 4 (16*(x/16)) (x%16);rw[<-ZzF,h]at h2;exact h2
theorem Zs4 {x:Nat} (h:x<4294967296):oC x<4294967296:=by
 unfold oC;split
 .exact HI (n:=32) (by omega) (by omega)
 .omega
theorem Iy: ∀(n:Nat) {x:Nat},x<4294967296->ZO n x<4294967296
 |0,_,h=>h
 |n+1,_,h=>Iy n (Zs4 h)
theorem Zzj {x:Nat} (h:x<4294967296) (c:UInt8):sX x c<4294967296:=
 Iy 8 (HI (n:=32) h (by have:=c.toNat_lt;omega))
theorem IW: ∀(l:aj) {x:Nat},x<4294967296->l.foldl sX x<4294967296
 |[],_,h=>h
 |c::l,_,h=>IW l (Zzj h c)
theorem VT (l:aj):wy l<4294967296:=by unfold wy;omega
theorem Zyu (x:Nat) (c:UInt8):sX x c=((((x^^^c.toNat)/16)^^^ZO 4 ((x^^^c.toNat)%16))/16)^^^ZO 4 ((((x^^^c.toNat)/16)^^^ZO 4 ((x^^^c.toNat)%16))%16):=by
 unfold sX;generalize x^^^c.toNat=y;rw[show ZO 8 y=ZO 4 (ZO 4 y)from Zok 4 4 y,nib y];exact nib _
theorem Zy2 {x:Nat} (h:x<4294967296):x^^^4294967295=4294967295-x:=by
 refine Dc λi=>?_
 rw[show(4294967295:Nat)=2^32-1 from rfl,Nat.testBit_xor,Nat.testBit_two_pow_sub_one,show 2^32-1-x=2^32-(x+1) by omega,Nat.testBit_two_pow_sub_succ (by omega)];by_cases hi:i<32
 .rw[ax hi];simp
 .rw[aF hi]
  have:x.testBit i=false:=HH (mI (show x<2^32 by omega) (nT (by decide) (by omega)));simp[this]
variable {β:Type}
theorem qQ {x:Nat} (h:x<18446744073709551616:=by omega):IntKind.wrap .u64 (x:Int)=x:=IntWalk.u64_in _ (by omega)
theorem BR {x:Nat} (h:x<4294967296:=by omega):IntKind.wrap .u32 (x:Int)=x:=by
 show(x:Int)%_=x;have:((2:Int)^32)=4294967296:=by decide
 show(x:Int)%(2^32)=x;omega
theorem ZyZ (x:Nat):IntKind.wrap .u64 (x:Int)=((x%18446744073709551616:Nat):Int):=by
 rfl
theorem Gg {x:Nat} (h:x<18446744073709551616:=by omega):(BitVec.ofInt 64 (x:Int)).toNat=x:=by
 rw[BitVec.toNat_ofInt];omega
theorem NN {x:Nat} (h:x<4294967296):(BitVec.ofInt 32 (x:Int)).toNat=x:=by
 rw[BitVec.toNat_ofInt];omega
variable {f:Bool} {d:DV} {i j k m n o r t w y:Nat} {s s' st:St} {A D cs ds:ah} {l:aj} {T T' W:al}
theorem acH {x:Nat} (hx:x<18446744073709551616) (hy:y<18446744073709551616):bits .or .u64 (x:Int) (y:Int)=((x|||y:Nat):Int):=by
 show IntKind.wrap .u64 ((BitVec.ofInt 64 (x:Int)|||BitVec.ofInt 64 (y:Int)).toNat:Int)=_;rw[BitVec.toNat_or,Gg hx,Gg hy];exact qQ (Nat.or_lt_two_pow (n:=64) hx hy)
theorem D1 {x:Nat} (hx:x<18446744073709551616) (hy:y<18446744073709551616):bits .and .u64 (x:Int) (y:Int)=((x&&& y:Nat):Int):=by
 show IntKind.wrap .u64 ((BitVec.ofInt 64 (x:Int)&&& BitVec.ofInt 64 (y:Int)).toNat:Int)=_;rw[Ll,Gg hx,Gg hy];exact qQ (Dd Nat.and_le_left hx)
theorem EZ {x:Nat} (hx:x<4294967296) (hy:y<4294967296:=by omega):bits .xor .u32 (x:Int) (y:Int)=((x^^^y:Nat):Int):=by
 show IntKind.wrap .u32 ((BitVec.ofInt 32 (x:Int)^^^BitVec.ofInt 32 (y:Int)).toNat:Int)=_;rw[BitVec.toNat_xor,NN hx,NN hy];exact BR (HI (n:=32) hx hy)
theorem aaM {x:Nat} (hx:x<4294967296) (hy:y<4294967296):bits .and .u32 (x:Int) (y:Int)=((x&&& y:Nat):Int):=by
 show IntKind.wrap .u32 ((BitVec.ofInt 32 (x:Int)&&& BitVec.ofInt 32 (y:Int)).toNat:Int)=_;rw[Ll,NN hx,NN hy];exact BR (Dd Nat.and_le_left hx)
theorem tB (x m:Nat):Int.fdiv (x:Int) (m:Int)=((x/m:Nat):Int):=by
 grind
def bU (l:aj):ah:=l.map λb=> .u b.toNat
theorem lr (l:aj):ZQ l=bU l:=rfl
theorem Zu (l:aj):(bU l).length=l.length:=by simp[bU]
theorem Vb {b:UInt8} (h:l[j]? =some b):(bU l)[j]? =some (.u b.toNat):=by grind[bU]
theorem Zxz (l:aj) (k:Nat):(bU l).drop k=bU (l.drop k):=by simp[bU]
theorem ZwX (l:aj) (k:Nat):(bU l).take k=bU (l.take k):=by simp[bU]
theorem IJ (l m:aj):bU (l++m)=bU l++bU m:=by simp[bU]
def dc (s:St) (a:ai) (l:aj):Prop:=Sl s a (bU l)
theorem dc.mono {s s':St} (k:aB s s') {a:ai} {l:aj} (h:dc s a l):dc s' a l:=Sl.mono k h
theorem dc.get {s:St} {i o:Nat} {l:aj} (h:dc s (some (i,o)) l) {j:Nat} {b:UInt8} (hb:l[j]? =some b) (K:DV->M β):bD i (j+o) K s=K (.u b.toNat) s:=Sl.get h (Vb hb) K
theorem dc.dJ (h:dc s (some (i,o)) l) {b:UInt8} (hb:l[j]? =some b) (K:DV->M β):bD i (j*1+o) K s=K (.u b.toNat) s:=by rw[cR];exact h.get hb K
theorem dc.cH {s:St} {a:ai} {l:aj} (h:dc s a l) (hn:0<l.length): ∃i o,a=some (i,o):=Sl.cH h (by rw[Zu];exact hn)
theorem Sl.sub (h:Sl s (some (i,o)) cs) (hk:k<=cs.length):Sl s (some (i,k+o)) (cs.drop k):=by
 have⟨f,all,h1,h2,h3⟩:=h;refine⟨f,all,h1,by rw[fa];omega,?_⟩;rw[fa,show k+o=o+k by omega,<-kW,<-C9,h3]
theorem Sl.cU {s:St} {a:ai} {cs:ah} (h:Sl s a cs) {k:Nat} (hk:k<=cs.length):Sl s (cU true a k) (cs.drop k):=by
 cases a with
 |none=>rw[show cs=[]from h];simp[Go.Gv.cU,Sl]
 |some p=>exact Sl.sub h hk
theorem Sl.lC {a:ai} (h:Sl s a cs) (k:Nat):Sl s a (cs.take k):=by
 cases a with
 |none=>rw[show cs=[]from h];simp[Sl]
 |some p=>
  have⟨f,all,h1,h2,h3⟩:=h;refine⟨f,all,h1,by rw[cX];omega,?_⟩;rw[cX,<-Db,h3]
theorem dc.cU {s:St} {a:ai} {l:aj} (h:dc s a l) {k:Nat} (hk:k<=l.length):dc s (cU true a k) (l.drop k):=by
 unfold dc;rw[<-Zxz];exact Sl.cU h (by rw[Zu];exact hk)
theorem dc.lC {s:St} {a:ai} {l:aj} (h:dc s a l) (k:Nat):dc s a (l.take k):=by
 unfold dc;rw[<-ZwX];exact Sl.lC h k
variable {Bd:Zh} [h:HA Bd]
theorem ZkE (n:Nat) (a:ai) (len at' k:Nat) (st:St) (hl:len<1000000) (hk:k<1000000:=by omega):
  run Bd (n+1) 261 [.s 1 a len,.i at',.i k] st=some (.val [.b (decide (at'+k<=len))],st):=by
 rw[Ze,h.afD];unfold Sf xS aA Lb;simp only[aX,av,au,aq,Za,ax (show(at':Int)>=0 by omega),ax (show(k:Int)>=0 by omega),ae];by_cases h1:k<=len
 .rw[ax (show(k:Int)<=(len:Int) by omega),ae]
  rw[Zc,Zd];by_cases h2:at'+k<=len
  .rw[ax h2,ax (by omega)]
  grind
 .rw[aF (show ¬(k:Int)<=(len:Int) by omega),af]
  rw[Zd,aF (by omega)]
theorem ok_eq {x:Option (Out β×St)} {o:Out β×St} (h:Ok (λp=>p=o) x):x=some o:=by
 obtain⟨_,e,rfl⟩:=h;exact e
theorem ZyM (l:aj) (c:UInt8):ez (l++[c])=ez l+256^l.length*c.toNat:=by
 rw[ZuX];simp[ez]
theorem ZAd {x c:Nat} (hx:x<2^k):x|||(c*2^k)=x+c*2^k:=by
 rw[Nat.or_comm,De,<-Nat.two_pow_add_eq_or_of_lt hx,tm]
theorem ZwC (k:Nat):256^k=2^(8*k):=by rw[Nat.pow_mul]
theorem xz (n:Nat) (a:ai) (l:aj) (st:St) (ha:dc st a l) (hl:l.length<=8:=by omega) (hn:12<=n:=by omega):
  run Bd n 285 [.s 1 a l.length] st=some (.val [.w (ez l)],st):=by
 obtain _|n:=n;omega;rw[Ze,h.abb];unfold LZ bV BU zS mS lg ZC
 try dsimp only
 rw[aX,aq];have hif:(if (8:Int)<(l.length:Int)then(8:Int)else(l.length:Int))=(l.length:Int):=bj (by omega);rw[hif];rw[Zb (by simp),Za];refine ok_eq ?_;refine Zi _ (λq y s=>∃k:Nat,y=[.w (ez (l.take k)),.i k]/\s=st/\k<=l.length/\l.length-k<=q) ?_ l.length n _ _ ⟨0,by simp[ez],rfl,cz _,by omega⟩ (by omega);rintro q _ s ⟨k,rfl,rfl,hk,hq⟩ rec aN;simp only[av,aq,bp];by_cases aw:k<l.length
 .rw[ax (show(k:Int)<(l.length:Int) by omega),ae]
  obtain⟨i,o,rfl⟩:=ha.cH (by omega);have⟨c,hc⟩: ∃c,l[k]? =some c:=by simp_all
  rw[bd,Zb (Zj aw),ha.dJ hc];rw[bg];rw[Zc,Zb (ax (by omega)),Zc];have JE:=c.toNat_lt;have e1:(8*(k:Int)).toNat=8*k:=by omega
  have hp:c.toNat*2^(8*k)<18446744073709551616:=by
   have h1:c.toNat*2^(8*k)<2^8*2^(8*k):=Nat.mul_lt_mul_of_pos_right (by omega) (Nat.two_pow_pos _);have h2:2^8*2^(8*k)<=2^64:=by rw[<-Nat.pow_add];exact nT (by decide) (by omega)
   omega
  rw[e1,nS (by omega),qQ];have e2:((c.toNat:Int)*2^(8*k))=((c.toNat*2^(8*k):Nat):Int):=by push_cast;rfl
  rw[e2,qQ hp];have JY:ez (l.take k)<2^(8*k):=by
   have:=Ga (l.take k);rwa [cX,nS (by omega),ZwC]at this
  have ahG:ez (l.take k)<18446744073709551616:=mI JY (by
   have:2^(8*k)<=2^64:=nT (by decide) (by omega);omega)
  rw[acH ahG hp,ZAd JY];refine aN (l.length-(k+1)) _ _ (by omega) ⟨k+1,?_,rfl,by omega,aO _⟩;have e3:l.take (k+1)=l.take k++[c]:=by
   rw[Lx,hc];rfl
  rw[e3,ZyM,cX,nS (by omega),ZwC,De];simp
 .rw[aF (show ¬(k:Int)<(l.length:Int) by omega),af]
  rw[Zd,dG (by omega)];exact .mk rfl
def rd (l:aj) (at' k:Nat):Nat:=ez ((l.drop at').take k)
theorem PB (l:aj) (at' k:Nat):rd l at' k<256^k:=by
 have:=Ga ((l.drop at').take k);refine mI this (nT (by decide) ?_);rw[cX];omega
def ZE (l:aj):Bool:=l.all (· ==0)
theorem Dr (n:Nat) (a:ai) (l:aj) (at' k:Nat) (st:St) (ha:dc st a l) (hl:l.length<1000000:=by omega) (hk:at'+k<=l.length:=by omega) (hn:k+5<=n:=by omega):
  run Bd n 238 [.s 1 a l.length,.i at',.i k] st=some (.val [.b (ZE ((l.drop at').take k))],st):=by
 obtain⟨n,rfl⟩: ∃m,n=m+2:=⟨n-2,by omega⟩;rw[Ze,h.afi];unfold Rq xS bq Q_ cN mS Z7 Lb Li;simp only[aX,av,aq];rw[Zk (ZkE n a l.length at' k st hl)];rw[au,aq];rw[ax hk,bu,af,Zc];have e1:((at':Int)+(k:Int)).toNat=at'+k:=by omega
 rw[e1];rw[Zb (by simp;omega),Zb (by simp;omega),Za];simp only[bp,cR,show at'+k-at'=k by omega];refine ok_eq ?_;have hb:=ha.cU (k:=at') (by omega);generalize hm:l.drop at'=m at hb;have J2:k<=m.length:=by rw[<-hm,fa];omega
 refine Zi _ (λq y s=>∃j:Nat,y=[.i j]/\s=st/\j<=k/\k-j<=q/\ZE (m.take j)=true) ?_ k (n+1) _ _ ⟨0,rfl,rfl,cz _,by omega,rfl⟩ (by omega);rintro q _ s ⟨j,rfl,rfl,hj,hq,hz⟩ rec aN;simp only[av,aq];by_cases aw:j<k
 .rw[ax (show(j:Int)<(k:Int) by omega),ae]
  have⟨i,o,hio⟩:=hb.cH (by omega);rw[hio]at hb⊢;have⟨c,hc⟩: ∃c,m[j]? =some c:=⟨_,cq (by omega)⟩;rw[bd,Zb (Zj aw),bp,hb.get hc];rw[bg];by_cases h0:c=0
  .subst h0
   rw[show(!((((0:UInt8).toNat:Nat):Int)==0))=false from rfl,af,Zc];refine aN (k-(j+1)) _ _ (by omega) ⟨j+1,by simp,rfl,by omega,aO _,?_⟩;have e3:m.take (j+1)=m.take j++[0]:=by rw[Lx,hc];rfl
   rw[e3];simp[ZE]at hz⊢;exact hz
  .have Of:c.toNat≠0:=λe=>h0 (HK.1 e)
   have e2:(!((c.toNat:Int)==0))=true:=by
    rw[lF];grind
   rw[e2,ae,Zd];refine .mk ?_;have:ZE (m.take k)=false:=by
    cases e:ZE (m.take k)with
    |false=>rfl
    |true=>
     unfold ZE at e;rw[vT]at e;have:=e c (uw (i:=j) (by rw[xo,bE aw];exact hc));grind
   rw[this]
 .rw[aF (show ¬(j:Int)<(k:Int) by omega),af]
  rw[Zd];have:j=k:=by omega
  subst this;rw[hz];exact .mk rfl
theorem ZtF (n:Nat) (a:ai) (l:aj) (at' k:Nat) (st:St) (ha:dc st a l) (hl:l.length<1000000) (h1:1<=k) (h8:k<=8) (hk:at'+k<=l.length) (hn:20<=n):
  run Bd n 312 [.s 1 a l.length,.i at',.i k] st=some (.val [.w (rd l at' k),.b true],st):=by
 obtain⟨n,rfl⟩: ∃m,n=m+2:=⟨n-2,by omega⟩;rw[Ze,h.age];unfold Te xS aA uT bq aZ Lb Z7;simp only[aX,av,aq,Za,aF (show ¬(k:Int)<1 by omega),aF (show ¬(k:Int)>8 by omega),af,au];rw[Zk (ZkE n a l.length at' k st hl)];rw[au,aq];rw[ax hk,bu,af,Zc];have e1:((at':Int)+(k:Int)).toNat=at'+k:=by omega
 rw[e1];rw[Zb (by simp;omega),Zb (by simp;omega)];rw[bp,cR,show at'+k-at'=k by omega];have hb:=(ha.cU (k:=at') (by omega)).lC k;have hlen:((l.drop at').take k).length=k:=by rw[cX,fa];omega
 have hr:=xz (n+1) _ _ st hb;rw[hlen]at hr;rw[Zk hr];rfl
def y7 (x:Nat):ah:=(List.range 16).map λi=> .y (if i<x then(ZO 4 i:Nat)else 0)
def Ht:ah:=y7 16
theorem ZyD: ∀x,x<16->cE (y7 x) (x*1) [.y (ZO 4 x:Nat)]=y7 (x+1)
 |0,_=>rfl|1,_=>rfl|2,_=>rfl|3,_=>rfl|4,_=>rfl|5,_=>rfl|6,_=>rfl|7,_=>rfl
 |8,_=>rfl|9,_=>rfl|10,_=>rfl|11,_=>rfl|12,_=>rfl|13,_=>rfl|14,_=>rfl|15,_=>rfl
 |n+16,h=>by omega
theorem ZsD (h:j<16):Ht[j]? =some (.y (ZO 4 j:Nat)):=by
 grind[Ht,y7]
theorem M8 (x:Nat):(y7 x).length=16:=by unfold y7;simp
theorem Zua (n:Nat) (x:Nat) (hx:x<4294967296) (st:St):run Bd (n+1) 320 [.y x] st=some (.val [.y (oC x)],st):=by
 rw[Ze,h.agm];unfold TD lf oC
 try dsimp only
 rw[av,aq];have ha:bits .and .u32 (x:Int) 1=((x%2:Nat):Int):=by
  have:=aaM hx (show 2^1-1<4294967296 by decide);rw[P1]at this;exact this
 rw[ha,show((2:Int)^1)=((2:Nat):Int)from rfl,tB];have h2:x/2<4294967296:=by omega
 rcases P3 x with e|e
 .rw[e,show(((0:Nat):Int)==1)=false from rfl,af,bj (by omega),Zd]
 .rw[e,show(((1:Nat):Int)==1)=true from rfl,ae,bE rfl]
  rw[show(2197175160:Int)=((2197175160:Nat):Int)from rfl,EZ h2,Zd]
theorem Mc: ∀(n x:Nat),ZO (n+1) x=oC (ZO n x)
 |0,_=>rfl
 |n+1,x=>by rw[ZO,Mc n,ZO]
theorem ZsN (n:Nat) (hn:30<=n) (st:St):run Bd n 317 [] st=some (.val [.a Ht],st):=by
 obtain⟨n,rfl⟩: ∃m,n=m+2:=⟨n-2,by omega⟩;rw[Ze,h.agj];unfold S6 cP xU xI uS lf pV;simp only[aq,Za];refine ok_eq ?_;refine Zi _ (λq y s=>∃x:Nat,y=[.a (y7 x),.i x]/\s=st/\x<=16/\16-x<=q) ?_ 16 (n+1) _ _ ⟨0,rfl,rfl,by omega,by omega⟩ (by omega);rintro q _ s ⟨x,rfl,rfl,hx,hq⟩ rec aN;simp only[cT,av,aq,bI (M8 x)];by_cases aw:x<16
 .rw[ax (show(x:Int)<16 by omega),ae]
  rw[BR];refine Zi _ (λq y s'=>∃j:Nat,y=[.y (ZO j x),.i j]/\s'=s/\j<=4/\4-j<=q) ?_ 4 (n+1) _ _ ⟨0,rfl,rfl,by omega,by omega⟩ (by omega);rintro q' _ s' ⟨j,rfl,rfl,hj,sP⟩ dw j4;simp only[av,aq];by_cases Ot:j<4
  .rw[ax (show(j:Int)<4 by omega),ae]
   rw[Zk (Zua n (ZO j x) (Iy j (by omega)) s')];rw[av,aq];rw[Zc];exact j4 (4-(j+1)) _ _ (by omega) ⟨j+1,by rw[Mc];simp,rfl,by omega,aO _⟩
  .rw[aF (show ¬(j:Int)<4 by omega),af]
   have:j=4:=by omega
   subst this;rw[Zb (by rw[Zj aw]),bp,Zb (by simp;omega),ZyD x aw];rw[bI (M8 (x+1))];rw[Zc];exact aN (16-(x+1)) _ _ (by omega) (by grind)
 .rw[aF (show ¬(x:Int)<16 by omega),af,Zd]
  have:x=16:=by omega
  subst this;exact .mk rfl
theorem ZoD (n x ti:Nat) (a:ai) (l:aj) (st:St) (ht:Sl st (some (ti,0)) Ht) (ha:dc st a l) (hx:x<4294967296) (hl:l.length<1000000) (hn:l.length+3<=n):
  run Bd n 318 [.p (some (ti,0)),.y x,.s 1 a l.length] st=some (.val [.y (l.foldl sX x:Nat)],st):=by
 obtain _|n:=n;omega;rw[Ze,h.agk];unfold Re bV xU xI N_ mS lf pV
 try dsimp only
 rw[eH,av,aX,aq,Za];refine ok_eq ?_;refine Zi _ (λq y s=>∃k:Nat,y=[.y ((l.take k).foldl sX x:Nat),.i k]/\s=st/\k<=l.length/\l.length-k<=q) ?_ l.length n _ _ (by grind) (by omega);rintro q _ s ⟨k,rfl,rfl,hk,hq⟩ rec aN;simp only[av,aq];by_cases aw:k<l.length
 .rw[ax (show(k:Int)<(l.length:Int) by omega),ae]
  obtain⟨i,o,rfl⟩:=ha.cH (by omega);have⟨c,hc⟩: ∃c,l[k]? =some c:=⟨_,cq aw⟩;rw[bd,Zb (Zj aw),bp,ha.dJ hc];rw[bg];have JE:=c.toNat_lt;have hy:(l.take k).foldl sX x<4294967296:=IW _ hx;have e3:(l.take (k+1)).foldl sX x=sX ((l.take k).foldl sX x) c:=by
   have:l.take (k+1)=l.take k++[c]:=by rw[Lx,hc];rfl
   rw[this,zs];rfl
  generalize (l.take k).foldl sX x=y at hy e3;have hz:y^^^c.toNat<4294967296:=HI (n:=32) hy (by omega);rw[BR,EZ hy];rw[Zyu]at e3;generalize y^^^c.toNat=z at hz e3;have aaL: ∀z:Nat,z<4294967296->bits .and .u32 (z:Int) 15=((z%16:Nat):Int):=λz hz=>by
   have:=aaM hz (show 2^4-1<4294967296 by decide);rw[P1]at this;exact this
  have f16: ∀z:Nat,Int.fdiv (z:Int) (2^4)=((z/16:Nat):Int):=λz=>tB z 16
  have m16:z%16<16:=Nat.mod_lt _ (by decide);have AY:ZO 4 (z%16)<4294967296:=Iy 4 (by omega);rw[aaL z hz,bd,Zb (Zj m16),bp,ht.dJ (ZsD m16)];rw[bg];rw[f16,EZ (by omega) AY];have hw:z/16^^^ZO 4 (z%16)<4294967296:=HI (n:=32) (by omega) AY;generalize z/16^^^ZO 4 (z%16)=w at hw e3;have acv:w%16<16:=Nat.mod_lt _ (by decide);rw[aaL w hw,bd,Zb (Zj acv),bp,ht.dJ (ZsD acv)];rw[bg];rw[f16,EZ (by omega) (Iy 4 (by omega)),Zc];exact aN (l.length-(k+1)) _ _ (by omega) (by grind)
 .rw[aF (show ¬(k:Int)<(l.length:Int) by omega),af,Zd,dG (by omega)]
  exact .mk rfl
theorem ZqW (hl:ds.length=cs.length) (K:M β):dI s.length 0 ds K (s++[some ⟨false,cs⟩])=K (s++[some ⟨false,ds⟩]):=by
 unfold dI St.ik;rw[kX (aO _),Bk];simp only[kY];rw[gA (by omega),ae];have:cE cs 0 ds=ds:=by
  have key: ∀(cs ds:ah),ds.length=cs.length->ov cs ds=ds:=by
   intro cs;induction cs with
   |nil=>intro ds h;cases ds with|nil=>rfl|cons _ _=>simp at h
   |cons c cs ih=>intro ds h;cases ds with|nil=>simp at h|cons d ds=>rw[ov,ih ds (by simpa using h)]
  have e:cE cs 0 ds=ov cs ds:=by cases cs<;>rfl
  rw[e,key cs ds hl]
 rw[this];simp
theorem Zvu (n:Nat) (bs a:ai) (l:aj) (st:St) (vj:Sl st bs [.s 1 a l.length]) (ha:dc st a l) (hl:l.length<1000000) (hn:l.length+40<=n):
  Ok (λo=>∃s',o=(.val [.y (wy l)],s')/\aB st s') (run Bd n 306 [.s 1 bs 1] st):=by
 obtain _|n:=n;omega;rw[Ze,h.af8];unfold T2 bV xU xI N_ uS lf pV
 try dsimp only
 rw[aX,aq];rw[Zk (ZsN n (by omega) st)];simp only[cT,aq,bI (M8 16),Ht];rw[Zz,ZqW (by rw[M8];rfl),Za];have hp:=aB.new st (some ⟨false,y7 16⟩);have ht:Sl (st++[some ⟨false,y7 16⟩]) (some (st.length,0)) Ht:=Nt st _;have Xe:=vj.mono hp;have tT:=ha.mono hp;generalize (st++[some ⟨false,y7 16⟩])=s1 at hp ht Xe tT;obtain⟨i,o,rfl⟩:=Xe.cH (by simp);obtain⟨m,rfl⟩: ∃m,n=m+2:=⟨n-2,by omega⟩;rw[Bz];simp only[av,aq];rw[show decide ((0:Int)<((1:Nat):Int))=true from rfl,ae,bd,Zb (by rfl),show(0:Int).toNat=0 from rfl,Xe.dJ (j:=0) rfl];rw[kb];have hr:=ZoD (m+2) 4294967295 st.length a l s1 ht tT (by decide) hl (by omega);rw[show(4294967295:Int)=((4294967295:Nat):Int)from rfl,Zk hr];rw[av,aq];rw[Bz];simp only[av,aq];rw[show decide (ar (0+1)<((1:Nat):Int))=false from rfl,af];rw[EZ (IW l (by decide)) (by decide),Zy2 (IW l (by decide)),Zd];exact .mk ⟨s1,rfl,hp⟩
theorem Zur (n x:Nat) (bs a:ai) (l:aj) (st:St) (vj:Sl st bs [.s 1 a l.length]) (ha:dc st a l) (hl:l.length<1000000) (hn:l.length+41<=n):
  Ok (λo=>∃s',o=(.val [.b (decide (wy l=x))],s')/\aB st s') (run Bd n 286 [.y x,.s 1 bs 1] st):=by
 obtain _|n:=n;omega;rw[Ze,h.afT];unfold Uj bV uS aZ Lb
 try dsimp only
 rw[av,aX,aq];refine Ok.call (Zvu n bs a l st vj ha hl (by omega)) ?_;rintro _ ⟨s',rfl,hp⟩;refine⟨_,s',rfl,?_⟩;rw[av,aq,Zd];refine .mk ⟨s',?_,hp⟩;congr 3;by_cases e:wy l=x
 .rw[ax e,e];simp
 .rw[aF e];exact congrArg _ (by grind)
def mL (s:St) (a:ai) (l:aj):Prop:=Fz s a (bU l)
theorem mL.sw {a:ai} (h:mL s a l):dc s a l:=h.1
theorem mL.kp {s s':St} {a:ai} {l:aj} (h:mL s a l) (k:Kp s s'):mL s' a l:=Fz.kp h k
theorem mL.pre {a:ai} (h:mL s a l) (k:aB s s'):mL s' a l:=Fz.kp h k.kp
theorem mL.cU {s:St} {a:ai} {l:aj} (h:mL s a l) {k:Nat} (hk:k<=l.length):mL s (cU true a k) (l.drop k):=by
 refine⟨h.sw.cU hk,λi o e=>?_⟩;cases a with
 |none=>cases e
 |some p=>cases e;exact h.2 _ _ rfl
def tK (l:aj):Bool:=decide (l.length=64)&&(!(l.getD 4 0==0)&&(ZE ((l.drop 6).take 2)&&decide (wy (l.drop 4)=ez (l.take 4))))
def fM (l:aj):Option (Nat×Nat×aj):=bif tK l then some ((l.getD 4 0).toNat,(l.getD 5 0).toNat,l.drop 8)else none
theorem getD_some {c:UInt8} (h:l[j]? =some c):l.getD j 0=c:=by rw[dW,h];rfl
theorem ajn (c:UInt8):(!((c.toNat:Int)==0))= !(c==0):=by
 by_cases h:c=0
 .subst h;rfl
 .rw[eG.2 h,eG.2]
  intro e;exact h (HK.1 (by simpa using e))
theorem Zqv (n:Nat) (a:ai) (l:aj) (st:St) (ha:dc st a l) (hl:l.length<1000000) (hn:150<=n):
  Ok (λo=>∃s',o=(.val [.b (tK l)],s')/\aB st s') (run Bd n 259 [.s 1 a l.length] st):=by
 obtain _|n:=n;omega;rw[Ze,h.afB];unfold Sm bV aA DM bq mS Lb aZ Z7 tK;simp only[aX,aq,Za];by_cases qY:l.length=64
 .rw[show((l.length:Int)==64)=true by rw[qY];rfl,ae,ax qY,dF]
  obtain⟨i,o,rfl⟩:=ha.cH (by omega);have⟨c,hc⟩: ∃c,l[4]? =some c:=by simp_all
  rw[bd,Zb (show aR 4 l.length=true from Zj (i:=4)),ha.get hc,getD_some hc];rw[bg,au,aq];rw[ajn];cases hz: !(c==0)with
  |false=>rw[af];simp only[af,Zd,gf];exact .mk ⟨st,rfl,.refl st⟩
  |true=>
   rw[ae,dF];have cA:=Dr n _ l 6 2 st ha hl;rw[show(6:Int)=((6:Nat):Int)from rfl,show(2:Int)=((2:Nat):Int)from rfl,Zk cA];simp only[au,aq];cases ZE ((l.drop 6).take 2)with
   |false=>rw[af,Zd,gf];exact .mk ⟨st,rfl,.refl st⟩
   |true=>
    rw[ae,dF,Zb (ax (by omega))];have EA:(l.take 4).length=4:=by rw[cX];omega
    have hr:=xz n _ (l.take 4) st (ha.lC 4);rw[EA]at hr;rw[qG hr (.refl st)];rw[av,aq];rw[Zb (ax (by omega)),Zz];have hp:=aB.new st (some ⟨false,[DV.s 1 (cU true (some (i,o)) 4) (l.length-4)]⟩);have hs:=Nt st [DV.s 1 (cU true (some (i,o)) 4) (l.length-4)];generalize (st++[some ⟨false,[DV.s 1 (cU true (some (i,o)) 4) (l.length-4)]⟩])=s1 at hp hs;have aw:ez (l.take 4)<4294967296:=by have:=Ga (l.take 4);rw[EA]at this;exact this
    rw[BR aw];have Xg:(l.drop 4).length=l.length-4:=fa;rw[<-Xg]at hs;refine Ok.cv (Zur n (ez (l.take 4)) _ _ (l.drop 4) s1 hs ((ha.mono hp).cU (by omega)) (by omega) (by omega)) λs2 aU=>?_
    rw[au,aq,Zd];exact .mk ⟨s2,rfl,hp.trans aU⟩
 .rw[show((l.length:Int)==64)=false from eG.2 (by omega),af,aF qY]
  simp only[au,aq,af,Zd,gf];exact .mk ⟨st,rfl,.refl st⟩
theorem ZpI (n:Nat) (a:ai) (l:aj) (st:St) (ha:dc st a l) (h0:0<l.length) (hl:l.length<1000000):
  Ok (λo=>∃p s',o=(.val [.s 1 p l.length],s')/\aB st s'/\mL s' p l) (run Bd (n+1) 260 [.s 1 a l.length] st):=by
 rw[Ze,h.afC];unfold RM bV aZ
 try dsimp only
 rw[aX,aq];rw[ZM];obtain⟨i,o,rfl⟩:=ha.cH h0;rw[show((some (i,o):ai).isNone)=false from rfl,af,Zz];have hp:=aB.new st (some ⟨false,[]⟩);have ho:bm st (st++[some ⟨false,[]⟩]) (some (st.length,0)) []:=⟨hp,(by simp)⟩;have tT:=ha.mono hp;generalize (st++[some ⟨false,[]⟩])=s1 at hp ho tT;rw[cR,<-Zu l,iR tT];have⟨p,s2,du,he⟩:=ho.app (β:=ah) (sz:=1) (n:=0) (m:=l.length) (lim:=70368744177664) (ds:=bU l) (by omega) (by simp) h0 (by omega);rw[Zu,he,Zp];rw[jH]at du;exact .mk ⟨p,_,by rw[eO],Zr du.1,du.fz⟩
theorem Dt (n:Nat) (a:ai) (l:aj) (st:St) (ha:dc st a l) (hl:l.length<1000000) (hn:152<=n:=by omega):
  Ok (λo=>∃s',aB st s'/\match fM l with
   |none=>o=(.val [.i 0,.i 0,.s 0 none 0,.b false],s')
   |some (k,t,b)=>∃p,o=(.val [.i (k:Nat),.i (t:Nat),.s 1 p 56,.b true],s')/\mL s' p b/\b.length=56/\k<256/\t<256) (run Bd n 237 [.s 1 a l.length] st):=by
 obtain⟨n,rfl⟩: ∃m,n=m+2:=⟨n-2,by omega⟩;rw[Ze,h.afh];unfold SB bV bq mS aZ fM
 try dsimp only
 rw[aX,aq];rw[ZM];refine Ok.cv (Zqv (n+1) a l st ha hl (by omega)) λs1 hp=>?_
 rw[au,aq];cases hr:tK l with
 |false=>
  rw[bn,ae,Zp];rw[af];exact .mk ⟨_,Zr hp,rfl⟩
 |true=>
  have qY:l.length=64:=by
   grind[tK]
  rw[bu,af];rw[ae];have tT:=ha.mono hp;obtain⟨i,o,rfl⟩:=tT.cH (by omega);have⟨c4,hc4⟩: ∃c,l[4]? =some c:=by simp_all
  have⟨c5,hc5⟩: ∃c,l[5]? =some c:=by grind
  rw[bd,Zb (show aR 4 l.length=true from Zj (i:=4)),tT.get hc4];rw[bg];rw[bd,Zb (show aR 5 l.length=true from Zj (i:=5)),tT.get hc5];rw[bg];rw[Zb (ax (by omega))];have hb:=tT.cU (k:=8) (by omega);have hd:(l.drop 8).length=l.length-8:=fa;have cL:=ZpI n _ (l.drop 8) s1 hb (by omega) (by omega);rw[hd]at cL;obtain⟨_,e,p,s2,rfl,aU,hf⟩:=cL;rw[qG e aU];rw[aX,aq,Zp];have h4:=c4.toNat_lt;have h5:=c5.toNat_lt;rw[getD_some hc4,getD_some hc5,Zc,Zc];refine .mk ⟨_,Zr (hp.trans aU),p,?_,hf.kp (Zz3 _ _),by omega,h4,h5⟩;rw[qY]
structure jL where
 bJ:bh
 kids:ak
def oA (x:jL) (z:Nat) (p:ai):ah:=fk x.bJ++[.s z p x.kids.length]
def bN (l:aj) (at' k:Nat):Int:=ar (rd l at' k:Int)
def EJ (k:Int):Bool:=decide (k<2)||decide (k>=3072)
def oS (x:jL):Bool:= !(decide (x.bJ.slot<0)||(decide (x.bJ.slot>=1792)||(decide (x.bJ.gen<1)||(decide (x.bJ.gen>4294967295)||decide ((x.kids.length:Int)>12)))))&& !x.kids.any EJ
def oP (b:aj) (t:Nat):ak:=(List.range t).map λj=>bN b (24+2*j) 2
theorem Dv (b:aj) (t:Nat):(oP b t).length=t:=by unfold oP;simp
theorem Znt (b:aj) (t:Nat):oP b (t+1)=oP b t++[bN b (24+2*t) 2]:=by simp[oP,qy,fq]
def l9 (b:aj) (t:Nat):jL:=⟨⟨bN b 16 4,bN b 20 4,bN b 0 8,bN b 8 8⟩,oP b t⟩
def iY (l:aj):Option jL:=match fM l with
 |none=>none
 |some (k,t,b)=>bif decide (k=1)&&decide (t<=12)then(bif oS (l9 b t)&&ZE (b.drop (24+2*t))then some (l9 b t)else none)else none
theorem HU (n:Nat) (a:ai) (l:aj) (at' k:Nat) (I K:Int) (hI:I=at') (hK:K=k) (st:St) (ha:dc st a l) (hl:l.length<1000000:=by omega) (h1:1<=k:=by omega) (h8:k<=8:=by omega) (hk:at'+k<=l.length:=by omega) (hn:21<=n:=by omega):
  run Bd n 295 [.s 1 a l.length,.i I,.i K] st=some (.val [.i (bN l at' k)],st):=by
 subst hI hK;obtain _|n:=n;omega;rw[Ze,h.af2];unfold Sn xS jg Z7 Li;simp only[aX,av,aq];rw[Zk (ZtF n a l at' k st ha hl h1 h8 hk (by omega))];rfl
theorem ZoZ (n:Nat) (k:Int) (st:St):run Bd (n+1) 313 [.i k] st=some (.val [.b (EJ k)],st):=by
 rw[Ze,h.agf];unfold Q9 cP aA Lb EJ;simp only[av,aq,Za,au];cases decide (k<2)<;>simp only[ae,af,Zd,Bool.true_or,vR]
theorem ZrL (n:Nat) (x:jL) (p:ai) (st:St) (hs:Sl st p (ints x.kids)) (hl:x.kids.length<1000000) (hn:x.kids.length+20<=n):
  run Bd n 296 [.a (oA x 1 p)] st=some (.val [.b (oS x)],st):=by
 obtain _|n:=n;omega;rw[Ze,h.af3];have Og:=Zqi n 1 313 [] [] x.kids p st EJ (.inl rfl) hs (by omega) hl (λv _=>by
  have⟨m,hm⟩: ∃m,n-2=m+1:=⟨n-3,by omega⟩;rw[hm];exact ZoZ m v st)
 unfold SZ FK aA bq Lb oA fk oS;simp only[nQ,jH,cT,av,aX,aq,Za];cases decide (x.bJ.slot<0)with
 |true=>rfl
 |false=>
 cases decide (x.bJ.slot>=1792)with
 |true=>rfl
 |false=>
 cases decide (x.bJ.gen<1)with
 |true=>rfl
 |false=>
 cases decide (x.bJ.gen>4294967295)with
 |true=>rfl
 |false=>
 cases decide ((x.kids.length:Int)>12)with
 |true=>rfl
 |false=>
  simp only[af,au,aq,vR,bn,dF];rw[Zk Og];rfl
theorem MR {x:jL} (h:iY l=some x):oS x=true/\x.kids.length<=12:=by
 unfold iY at h;split at h
 .cases h
 .rename_i k t b _
  cases e:(decide (k=1)&&decide (t<=12))with
  |false=>rw[e]at h;cases h
  |true=>
   rw[e]at h;cases e2:(oS (l9 b t)&&ZE (b.drop (24+2*t)))with
   |false=>rw[e2]at h;cases h
   |true=>
    rw[e2]at h;cases h;rw[aY]at e e2;refine⟨e2.1,?_⟩;show(oP b t).length<=12;rw[Dv];grind
theorem Zuh (n:Nat) (a:ai) (l:aj) (st:St) (ha:dc st a l) (hl:l.length<1000000) (hn:160<=n):
  Ok (λo=>∃s',aB st s'/\match iY l with
   |none=>o=(.val [.a [.i 0,.i 0,.i 0,.i 0,.s 0 none 0],.b false],s')
   |some x=>∃p,o=(.val [.a (oA x 1 p),.b true],s')/\Fz s' p (ints x.kids)) (run Bd n 272 [.s 1 a l.length] st):=by
 obtain _|n:=n;omega;rw[Ze,h.afO];unfold Ud bV sm aA cw FI bq Fy lY aZ Bv Z7 xG Fv Lb Li FJ FB iY;simp only[aX,aq,Za];rw[ZM];refine Ok.call (Dt n a l st ha hl) ?_;rintro _ ⟨s1,aH,ho⟩;cases eC:fM l with
 |none=>
  rw[eC]at ho;subst ho;refine⟨_,s1,rfl,?_⟩;simp only[av,au,aq,Zg 1 0 none _ (.inr rfl)];rw[bn,ae];simp only[ae];rw[Zp];exact .mk ⟨_,Zr aH,rfl⟩
 |some q=>
  have⟨k,t,b⟩:=q;rw[eC]at ho;obtain⟨p1,rfl,hf,hb,hk,ht⟩:=ho;refine⟨_,s1,rfl,?_⟩;simp only[av,au,aX,aq];rw[bu,af];have e1:((k:Int)==1)=decide (k=1):=by
   by_cases kh:k=1
   .subst kh;rfl
   grind
  rw[e1];cases kh:decide (k=1)with
  |false=>
   rw[bn];simp only[ae,gf,af];rw[Zp];exact .mk ⟨_,Zr aH,rfl⟩
  |true=>
  rw[bu];rw[af,dF];by_cases kP:t<=12
  .rw[aF (show ¬(t:Int)>12 by omega),ax kP]
   simp only[af,ae];have dR:=hf.sw;rw[show(56:Nat)=b.length from hb.symm];rw[Zk (HU n p1 b 16 4 16 4 rfl rfl s1 dR)];rw[av,aq];rw[Zk (HU n p1 b 20 4 20 4 rfl rfl s1 dR)];rw[av,aq];rw[Zk (HU n p1 b 0 8 0 8 rfl rfl s1 dR)];rw[av,aq];rw[Zk (HU n p1 b 8 8 8 8 rfl rfl s1 dR)];rw[av,aq];refine Zi _ (λq y s=>∃(i z:Nat) (p:ai),y=[.a [.i (bN b 16 4),.i (bN b 20 4),.i (bN b 0 8),.i (bN b 8 8),.s z p i],.i i]/\(z=1\/p=none)/\i<=t/\t-i<=q/\bm st s p (ints (oP b i))/\mL s p1 b) ?_ t n _ _ ⟨0,0,none,rfl,.inr rfl,cz _,by omega,bm.nil aH,hf⟩ (by omega);rintro q _ s ⟨i,z,p,rfl,hz,hi,hq,ho,GL⟩ rec aN;simp only[cT,av,Zg 1 z p _ hz,aq];by_cases aw:i<t
   .rw[ax (show(i:Int)<(t:Int) by omega),ae,Zc (x:=2*(i:Int)),Zc,show(24+2*(i:Int))=((24+2*i:Nat):Int) by omega]
    rw[v8 (HU n p1 b (24+2*i) 2 _ 2 rfl rfl s GL.sw)];rw[av,aq];have⟨p2,s2,du,rj,he⟩:=ho.CV (β:=ah) (sz:=1) (n:=i) (lim:=8796093022208) [.i (bN b (24+2*i) 2)] (xp 0) (by simp[ints,Dv]) rfl (by omega);rw[he,Zc];refine aN (t-(i+1)) _ _ (by omega) ⟨i+1,1,p2,by simp,.inl rfl,by omega,aO _,?_,GL.kp rj⟩;rw[Znt];show bm st s2 p2 (List.map _ _);rw[fq];exact du
   .rw[aF (show ¬(i:Int)<(t:Int) by omega),af]
    have AF:i=t:=by omega
    subst AF;have hr:=ZrL n (l9 b i) p s ho.sl (by show(oP b i).length<_;rw[Dv];omega) (by show(oP b i).length+_<=_;rw[Dv];omega);have hc:oA (l9 b i) 1 p=[.i (bN b 16 4),.i (bN b 20 4),.i (bN b 0 8),.i (bN b 8 8),.s 1 p i]:=by
     show fk _++[DV.s 1 p (oP b i).length]=_;rw[Dv];rfl
    rw[aX,aq];rw[<-hc,Zk hr];rw[au,aq];cases hrn:oS (l9 b i)with
    |false=>
     rw[bn,ae];rw[gf,af];rw[Zp];exact .mk ⟨_,Zr ho.1,rfl⟩
    |true=>
     rw[bu,af,Zc (x:=2*(i:Int)),Zc (x:=24+2*(i:Int)),Zc];rw[show(24+2*(i:Int))=((24+2*i:Nat):Int) by omega,show(b.length:Int)-((24+2*i:Nat):Int)=((b.length-(24+2*i):Nat):Int) by omega];rw[Zk (Dr n p1 b (24+2*i) (b.length-(24+2*i)) s GL.sw)];rw[dG (by rw[fa];exact aO _)];rw[au,aq,dF];cases ZE (b.drop (24+2*i))with
     |false=>
      rw[bn,ae,af];rw[Zp];exact .mk ⟨_,Zr ho.1,rfl⟩
     |true=>
      rw[bu,ae,af];rw[Zp];exact .mk ⟨_,Zr ho.1,p,rfl,ho.fz⟩
  .rw[ax (show(t:Int)>12 by omega),aF kP]
   rw[af,ae];rw[Zp];exact .mk ⟨_,Zr aH,rfl⟩
theorem ZsC: ∀(B D C:ah),B.length=D.length->ov (B++C) D=D++C
 |[],[],C,_=>by simp[Zw5]
 |b::B,d::D,C,h=>by show d::ov (B++C) D=_;rw[ZsC B D C (by simpa using h)];rfl
 |[],_::_,_,h=>by cases h
 |_::_,[],_,h=>by cases h
theorem tF: ∀(A B C D:ah),B.length=D.length->cE (A++(B++C)) A.length D=A++(D++C)
 |[],B,C,D,h=>by
  show cE (B++C) 0 D=D++C;rw[<-ZsC B D C h];cases B++C<;>rfl
 |a::A,B,C,D,h=>by show a::cE (A++(B++C)) A.length D=_;rw[tF A B C D h];rfl
def eE (t j:Nat):Bool:=decide (t/2^j%2=1)
theorem ZwO (ht:t<9223372036854775808) (hj:j<=63):bits .and .i64 ((t:Int).fdiv (2^(min j 64))) 1=((t/2^j%2:Nat):Int):=by
 rw[nS (by omega),show((2:Int)^j)=((2^j:Nat):Int) by push_cast;rfl,tB];have h1:t/2^j<9223372036854775808:=Dd (Fg _ _) ht;show IntKind.wrap .i64 ((BitVec.ofInt 64 ((t/2^j:Nat):Int)&&& BitVec.ofInt 64 (1:Int)).toNat:Int)=_;rw[Ll,Gg,show(BitVec.ofInt 64 (1:Int)).toNat=1 from rfl,Nat.and_one_is_mod];exact Zc
theorem Zux (ht:t<9223372036854775808:=by omega) (hj:j<=63:=by omega):(bits .and .i64 ((t:Int).fdiv (2^(min j 64))) 1==1)=eE t j:=by
 rw[ZwO ht hj];grind[eE]
theorem ZyP (ht:t<9223372036854775808) (hj:j<=63):(bits .and .i64 ((t:Int).fdiv (2^(min j 64))) 1==0)= !eE t j:=by
 rw[ZwO ht hj];grind[eE]
structure bw where
 live:Bool
 gen:Int
 block:Int
def eL (x:bw):ah:=[.b x.live,.i x.gen,.i x.block]
def bT (l:List bw):ah:=(l.map eL).flatten
theorem ZB (l:List bw):(bT l).length=l.length*3:=by
 unfold bT;induction l with
 |nil=>rfl
 |cons e l ih=>rw[oG,Da,bB,ih,cO];show 3+_=_;omega
theorem Iw (l m:List bw):bT (l++m)=bT l++bT m:=by simp[bT]
def gT:bw:=⟨false,0,0⟩
def nH:List bw:=List.replicate 7 gT
def ll (v f t:Int):Bool:=bif decide (v>=f)then decide (v<=t)else false
def ZK (x:bw):Bool:=bif x.live then ll x.gen 1 4294967295&&ll x.block 2 3071 else ll x.gen 0 4294967295&&(ll x.block 0 1792&&(decide (x.gen>0)||x.block==0))
def wo (b:aj) (t j:Nat):bw:=⟨eE t j,bN b (8*j) 4,bN b (8*j+4) 4⟩
def ZR (b:aj) (t n:Nat):List bw:=(List.range n).map (wo b t)
theorem BE (b:aj) (t n:Nat):(ZR b t n).length=n:=by unfold ZR;simp
theorem Il (b:aj) (t n:Nat):ZR b t (n+1)=ZR b t n++[wo b t n]:=by simp[ZR,qy,fq]
def ZL (l:aj):Option (List bw):=match fM l with
 |none=>none
 |some (k,t,b)=>bif decide (k=2)&&decide (t<128)then(bif (ZR b t 7).all ZK then some (ZR b t 7)else none)else none
theorem HX (n:Nat) (v f t:Int) (st:St):run Bd (n+1) 314 [.i v,.i f,.i t] st=some (.val [.b (ll v f t)],st):=by
 rw[Ze,h.agh];unfold RX Zip aA Lb ll;simp only[av,aq,Za,au];cases decide (v>=f)<;>rfl
theorem Znh (n:Nat) (x:bw) (st:St):run Bd (n+2) 297 [.a (eL x)] st=some (.val [.b (ZK x)],st):=by
 rw[Ze,h.af4];unfold QX qJ bq aA zI Lb eL ZK;simp only[cT,av,au,aq,Za];cases x.live with
 |true=>
  rw[ae,ae,Zk (HX n _ _ _ st)];rw[au,aq];cases ll x.gen 1 4294967295 with
  |false=>rfl
  |true=>
   rw[ae,Zk (HX n _ _ _ st)];rfl
 |false=>
  rw[af,af,Zk (HX n _ _ _ st)];rw[au,aq];cases ll x.gen 0 4294967295 with
  |false=>rfl
  |true=>
   rw[ae,Zk (HX n _ _ _ st)];rw[au,aq,dF];cases ll x.block 0 1792 with
   |false=>rfl
   |true=>
    cases decide (x.gen>0)<;>rfl
theorem nl (k c:Nat) (C:Int) (hC:C=c:=by omega):((k:Int)==C)=decide (k=c):=by
 grind
theorem ZoJ (n:Nat) (a:ai) (l:aj) (st:St) (ha:dc st a l) (hl:l.length<1000000) (hn:160<=n):
  Ok (λo=>∃s',aB st s'/\match ZL l with
   |none=>o=(.val [.a (bT nH),.b false],s')
   |some x=>o=(.val [.a (bT x),.b true],s')) (run Bd n 273 [.s 1 a l.length] st):=by
 obtain _|n:=n;omega;rw[Ze,h.afP];unfold Rh bV sm aA cP DM bq aZ ZI rX Ds Lb ZL;simp only[aX,aq,Za];refine Ok.call (Dt n a l st ha hl) ?_;rintro _ ⟨s1,aH,ho⟩;cases eC:fM l with
 |none=>
  rw[eC]at ho;subst ho;refine⟨_,s1,rfl,?_⟩;simp only[av,au,aq,Zg 1 0 none _ (.inr rfl)];rw[bn,ae];simp only[ae,Zd];exact .mk ⟨_,aH,rfl⟩
 |some q=>
  have⟨k,t,b⟩:=q;rw[eC]at ho;obtain⟨p1,rfl,hf,hb,hk,ht⟩:=ho;refine⟨_,s1,rfl,?_⟩;simp only[av,au,aX,aq];rw[bu,af,nl k 2 2 rfl];cases kh:decide (k=2)with
  |false=>
   rw[bn];simp only[ae,gf,af,Zd];exact .mk ⟨_,aH,rfl⟩
  |true=>
  rw[bu];rw[af,dF];by_cases kP:t<128
  .rw[aF (show ¬(t:Int)>=128 by omega),ax kP]
   rw[af,ae];have dR:=hf.sw;refine Zi _ (λq y s=>∃i:Nat,y=[.a (bT nH),.a (bT (ZR b t i)++bT (List.replicate (7-i) gT)),.i i]/\i<=7/\7-i<=q/\s=s1/\(ZR b t i).all ZK=true) ?_ 7 n _ _ ⟨0,rfl,by omega,by omega,rfl,rfl⟩ (by omega);rintro q _ s ⟨i,rfl,hi,hq,rfl,dt⟩ rec aN;have hlen:(bT (ZR b t i)++bT (List.replicate (7-i) gT)).length=21:=by
    rw[bB,ZB,ZB,BE,oF];omega
   simp only[cT,av,aq];rw[bI (cs:=bT nH) (n:=21) rfl,bI hlen];by_cases aw:i<7
   .have cG:ar ((i:Int)+1)=((i+1:Nat):Int):=Zc
    have fR:ar (8*((i+1:Nat):Int))=((8*(i+1):Nat):Int):=Zc;have jB:ar (8*(i:Int))=((8*i:Nat):Int):=Zc;simp only[cG,fR,jB,bp,cR];rw[ax (show(i:Int)<7 by omega),ae];rw[Zb (by rw[aY,br,br];omega),Zb (by rw[aY,br,br];omega),Zb (ax (by omega)),Zb (ax (by omega))];have iZ:=dR.cU (k:=8*i) (by omega);have tY:(b.drop (8*i)).length=56-8*i:=by rw[fa,hb]
    have Kv:((b.drop (8*i)).take 4).length=4:=by rw[cX];omega
    have j3:=xz n _ ((b.drop (8*i)).take 4) s (iZ.lC 4);rw[Kv]at j3;rw[qG j3 (.refl s)];rw[av,aq];rw[Zb (ax (by omega)),show 8*(i+1)-8*i-4=4 by omega];have kJ:=iZ.cU (k:=4) (by omega);have ht3:(((b.drop (8*i)).drop 4).take 4).length=4:=by rw[cX,fa];omega
    have ij:=xz n _ (((b.drop (8*i)).drop 4).take 4) s (kJ.lC 4);rw[ht3]at ij;rw[qG ij (.refl s)];rw[av,aq];rw[kW,Zux];obtain⟨n,rfl⟩: ∃m,n=m+2:=⟨n-2,by omega⟩;have G9:=Znh n (wo b t i) s;have Ey:eL (wo b t i)=[.b (eE t i),.i (ar ((ez ((b.drop (8*i)).take 4):Nat):Int)),.i (ar ((ez ((b.drop (8*i+4)).take 4):Nat):Int))]:=rfl;rw[<-Ey,Zk G9];rw[au,aq];cases Ex:ZK (wo b t i)with
    |false=>
     rw[bn,ae];have:(ZR b t 7).all ZK=false:=List.all_eq_false.2 ⟨wo b t i,pK.2 (by grind),by rw[Ex];decide⟩;rw[this,af,Zd];exact .mk ⟨s,aH,rfl⟩
    |true=>
     rw[bu,af,Zb (show aR (i:Int) 7=true from Zj aw),Zb (gA (by omega))];refine aN (7-(i+1)) _ _ (by omega) ⟨i+1,?_,by omega,aO _,rfl,?_⟩
     .congr 3
      rw[Il,Iw,show List.replicate (7-i) gT=gT::List.replicate (7-(i+1)) gT by rw[show 7-i=(7-(i+1))+1 by omega];rfl];show cE (bT (ZR b t i)++(eL gT++bT (List.replicate (7-(i+1)) gT))) (i*3) (eL (wo b t i))=_;have e3:i*3=(bT (ZR b t i)).length:=by rw[ZB,BE]
      rw[e3,tF (bT (ZR b t i)) (eL gT) (bT (List.replicate (7-(i+1)) gT)) (eL (wo b t i)) rfl,fI];rfl
     .rw[Il,tj,dt]
      simp[Ex]
   .rw[aF (show ¬(i:Int)<7 by omega),af]
    have p9:i=7:=by omega
    subst p9;rw[bI (cs:=bT nH) (n:=21) rfl,bI hlen,bI hlen,dt,ae,Zd];refine .mk ⟨s,aH,?_⟩;show _=(Out.val [DV.a (bT (ZR b t 7)),_],s);rw[show bT (List.replicate (7-7) gT)=[]from rfl,gz]
  .rw[ax (show(t:Int)>=128 by omega),aF kP]
   rw[af,ae,Zd];exact .mk ⟨_,aH,rfl⟩
def BF (l:ak):Bool:=l.all λv=>v==0||ll v 2 3071
def dU (b:aj) (n:Nat):ak:=(List.range n).map λj=>bN b (2*j) 2
theorem nW (b:aj) (n:Nat):(dU b n).length=n:=by unfold dU;simp
theorem Mo (b:aj) (n:Nat):dU b (n+1)=dU b n++[bN b (2*n) 2]:=by simp[dU,qy,fq]
def iM (l:aj):Option (ak):=match fM l with
 |none=>none
 |some (k,t,b)=>bif decide (k=3)&&(decide (t=0)&&ZE (b.drop 32))then(bif BF (dU b 16)then some (dU b 16)else none)else none
theorem ZD {l:ak} (h:j<l.length:=by omega):(ints l)[j]? =some (.i l[j]):=by simp[ints,h]
theorem gZ (h:cs[i]? =some d) (K:DV->M β):eJ cs i K=K d:=by unfold eJ;rw[h]
theorem ZnU (n:Nat) (l:ak) (st:St) (hl:l.length=16) (hn:22<=n):run Bd n 298 [.a (ints l)] st=some (.val [.b (BF l)],st):=by
 obtain⟨n,rfl⟩: ∃m,n=m+2:=⟨n-2,by omega⟩;rw[Ze,h.af5];unfold QN Q_ cN aA bq Lb Li zI BF
 try dsimp only
 have hlen:(ints l).length=16:=by simp[ints,hl]
 simp only[cT,aq,Za];rw[bI hlen,bI hlen];refine ok_eq ?_;refine Zi _ (λq y s=>∃i:Nat,y=[.i i]/\i<=16/\16-i<=q/\s=st/\(l.take i).all (λv=>v==0||ll v 2 3071)=true) ?_ 16 (n+1) _ _ (by grind) (by omega);rintro q _ s ⟨i,rfl,hi,hq,rfl,dt⟩ rec aN;rw[av,aq];by_cases aw:i<16
 .rw[ax (show(i:Int)<16 by omega),ae,Zb (show aR (i:Int) 16=true from Zj aw),bp,cR,gZ (ZD)]
  rw[bg];have hw:ar ((i:Int)+1)=((i+1:Nat):Int):=Zc;have aQ:(l[i]==0||ll l[i] 2 3071)=true->Ok (λp=>p=(Out.val [DV.b (l.all λv=>v==0||ll v 2 3071)],s)) (rec [.i (ar ((i:Int)+1))] s):=λe=>by
   rw[hw];refine aN (16-(i+1)) _ _ (by omega) ⟨i+1,rfl,by omega,aO _,rfl,?_⟩;rw[lX (by omega),tj,dt];simpa using e
  have cA:(l[i]==0||ll l[i] 2 3071)=false->(l.all λv=>v==0||ll v 2 3071)=false:=by grind
  cases h0:(l[i]==0)with
  |true=>
   rw[bu,af];simp_all
  |false=>
   rw[bn,ae,Zk (HX n _ _ _ s)];simp only[au,aq];cases fR:ll l[i] 2 3071 with
   |true=>
    rw[bu,af];grind
   |false=>
    rw[bn,ae,Zd,cA (by rw[h0,fR];rfl)];exact .mk rfl
 .rw[aF (show ¬(i:Int)<16 by omega),af,Zd]
  rw[dG (by omega)]at dt;rw[dt];exact .mk rfl
theorem Zql (n:Nat) (a:ai) (l:aj) (st:St) (ha:dc st a l) (hl:l.length<1000000) (hn:160<=n):
  Ok (λo=>∃s',aB st s'/\match iM l with
   |none=>o=(.val [.a (ints (List.replicate 16 0)),.b false],s')
   |some x=>o=(.val [.a (ints x),.b true],s')/\x.length=16) (run Bd n 274 [.s 1 a l.length] st):=by
 obtain _|n:=n;omega;rw[Ze,h.afQ];unfold RZ bV sm aA bq cP uT aZ Li Lb Z7 iM;simp only[aX,aq,Za];refine Ok.call (Dt n a l st ha hl) ?_;rintro _ ⟨s1,aH,ho⟩;cases eC:fM l with
 |none=>
  rw[eC]at ho;subst ho;refine⟨_,s1,rfl,?_⟩;simp only[av,au,aq,Zg 1 0 none _ (.inr rfl)];rw[bn,ae];simp only[ae,Zd];exact .mk ⟨_,aH,rfl⟩
 |some q=>
  have⟨k,t,b⟩:=q;rw[eC]at ho;obtain⟨p1,rfl,hf,hb,hk,ht⟩:=ho;refine⟨_,s1,rfl,?_⟩;simp only[av,au,aX,aq];rw[bu,af,nl k 3 3 rfl,nl t 0 0 rfl];cases kh:decide (k=3)with
  |false=>
   rw[bn];simp only[ae,gf,af,Zd];exact .mk ⟨_,aH,rfl⟩
  |true=>
  rw[bu];rw[af,dF];cases Kv:decide (t=0)with
  |false=>
   rw[bn];simp only[ae,gf,af,Zd];exact .mk ⟨_,aH,rfl⟩
  |true=>
  rw[bu];rw[af,dF];have dR:=hf.sw;have cA:=Dr n p1 b 32 24 s1 dR;rw[hb,dG (by rw[fa];omega)]at cA;rw[show ar (((56:Nat):Int)-32)=((24:Nat):Int) by decide,show(32:Int)=((32:Nat):Int)from rfl,Zk cA];rw[au,aq];cases ZE (b.drop 32)with
  |false=>
   rw[bn,ae,af,Zd];exact .mk ⟨_,aH,rfl⟩
  |true=>
   rw[bu];rw[ae,af];refine Zi _ (λq y s=>∃i:Nat,y=[.a (ints (dU b i)++ints (List.replicate (16-i) 0)),.i i]/\i<=16/\16-i<=q/\s=s1) ?_ 16 n _ _ ⟨0,rfl,by omega,by omega,rfl⟩ (by omega);rintro q _ s ⟨i,rfl,hi,hq,rfl⟩ rec aN;have hlen:(ints (dU b i)++ints (List.replicate (16-i) 0)).length=16:=by
    simp[ints,nW];omega
   simp only[cT,av,aq];rw[bI hlen];by_cases aw:i<16
   .have cG:ar ((i:Int)+1)=((i+1:Nat):Int):=Zc
    have fR:ar (2*((i+1:Nat):Int))=((2*(i+1):Nat):Int):=Zc;have jB:ar (2*(i:Int))=((2*i:Nat):Int):=Zc;simp only[cG,fR,jB,bp,cR];rw[ax (show(i:Int)<16 by omega),ae];rw[Zb (by rw[aY,br,br];omega),Zb (by rw[aY,br,br];omega)];have iZ:=dR.cU (k:=2*i) (by omega);have tY:((b.drop (2*i)).take 2).length=2:=by rw[cX,fa];omega
    have j3:=xz n _ ((b.drop (2*i)).take 2) s (iZ.lC 2);rw[tY]at j3;rw[show 2*(i+1)-2*i=2 by omega,Zk j3];rw[av,aq];rw[Zb (show aR (i:Int) 16=true from Zj aw),Zb (gA (by omega))];refine aN (16-(i+1)) _ _ (by omega) ⟨i+1,?_,by omega,aO _,rfl⟩;congr 2;rw[Mo,show List.replicate (16-i) (0:Int)=0::List.replicate (16-(i+1)) 0 by rw[show 16-i=(16-(i+1))+1 by omega];rfl];have e3:i=(ints (dU b i)).length:=by simp[ints,nW]
    have e4:=tF (ints (dU b i)) [.i 0] (ints (List.replicate (16-(i+1)) 0)) [.i (bN b (2*i) 2)] rfl;rw[<-e3]at e4;show cE (ints (dU b i)++([.i 0]++ints (List.replicate (16-(i+1)) 0))) i [.i (bN b (2*i) 2)]=ints (dU b i++[bN b (2*i) 2])++_;rw[e4,show ints (dU b i++[bN b (2*i) 2])=ints (dU b i)++[.i (bN b (2*i) 2)] by unfold ints;rw[fq];rfl,fI]
   .rw[aF (show ¬(i:Int)<16 by omega),af]
    have p9:i=16:=by omega
    subst p9;rw[bI hlen];rw[show ints (dU b 16)++ints (List.replicate (16-16) 0)=ints (dU b 16)from gz _]at hlen⊢;rw[Zk (ZnU n (dU b 16) s (nW b 16) (by omega))];rw[au,aq];cases BF (dU b 16)with
    |false=>
     rw[bn,ae,Zd];exact .mk ⟨_,aH,rfl⟩
    |true=>
     rw[bu,af,bI hlen,Zd];exact .mk ⟨_,aH,rfl,nW b 16⟩
theorem ZsZ (n:Nat) (l:ak) (v:Int) (p:ai) (st:St) (hs:Sl st p (ints l)) (hl:l.length<1000000) (hn:l.length+3<=n):
  Ok (λo=>∃y:Int,o=(.val [.i y],st)/\decide (y>=0)=decide (v∈l)) (run Bd n 254 [.s 1 p l.length,.i v] st):=by
 obtain _|n:=n;omega;rw[Ze,h.afy];unfold Qp oe Q_ cN Zn Li
 try dsimp only
 rw[aX,av,aq,Za];refine Zi _ (λq y s=>∃i:Nat,y=[.i i]/\i<=l.length/\l.length-i<=q/\s=st/\v∉l.take i) ?_ l.length n _ _ (by grind) (by omega);rintro q _ s ⟨i,rfl,hi,hq,rfl,cA⟩ rec aN;simp only[av,aq];by_cases aw:i<l.length
 .obtain⟨i1,o1,rfl⟩:=hs.cH (by simp[ints];omega)
  rw[ax (show(i:Int)<(l.length:Int) by omega),ae,bd,Zb (Zj aw),bp,hs.dJ (ZD aw)];rw[bg];by_cases hv:v=l[i]
  .rw[show(v==l[i])=true by rw[hv];simp,ae,Zd]
   refine .mk ⟨_,rfl,?_⟩;rw[ax (by omega),ax];rw[hv];simp
  .rw[eG.2 hv,af,Zc]
   refine aN (l.length-(i+1)) _ _ (by omega) ⟨i+1,rfl,by omega,aO _,rfl,?_⟩;rw[lX aw];grind
 .rw[aF (show ¬(i:Int)<(l.length:Int) by omega),af,Zd]
  rw[dG (by omega)]at cA;exact .mk (by grind)
theorem Zju (n:Nat) (l:ak) (v:Int) (p:ai) (st:St) (hs:Sl st p (ints l)) (hl:l.length<1000000) (hn:l.length+4<=n):
  run Bd n 222 [.s 1 p l.length,.i v] st=some (.val [.b (decide (v∈l))],st):=by
 obtain _|n:=n;omega;rw[Ze,h.ae4];unfold Qk oe cw dY Lb
 try dsimp only
 rw[aX,av,aq];refine ok_eq ?_;refine Ok.call (ZsZ n l v p st hs hl (by omega)) ?_;rintro _ ⟨y,rfl,e⟩;refine⟨_,st,rfl,?_⟩;rw[av,aq,Zd];rw[e];exact .mk rfl
def se (v:Int):Bool:=bif decide (v>=2)then decide (v<3072)else false
theorem Zf4 (n:Nat) (v:Int) (st:St):run Bd (n+1) 315 [.i v] st=some (.val [.b (se v)],st):=by
 rw[Ze,h.agi];unfold Qz cP aA Lb se;simp only[av,aq,Za,au];cases decide (v>=2)<;>rfl
structure ZH where
 name:aj
 mask:Nat
 dz:ak
def Z0 (x:ZH):ah:= .t x.name:: .i x.mask::ints x.dz
def rf (m i:Nat) (v:Int):Bool:=bif eE m i then se v else v==0
def mQ (x:ZH):Bool:=qI x.name&&(decide (x.mask<4096)&&(List.range 12).all λi=>rf x.mask i (x.dz.getD i 0))
def ZZ (b:aj) (n:Nat):ak:=(List.range n).map λj=>bN b (4+2*j) 2
theorem Dw (b:aj) (n:Nat):(ZZ b n).length=n:=by unfold ZZ;simp
theorem ZmU (b:aj) (n:Nat):ZZ b (n+1)=ZZ b n++[bN b (4+2*n) 2]:=by simp[ZZ,qy,fq]
def Z9 (b:aj) (t:Nat):ZH:=⟨(b.drop 28).take t,rd b 0 4,ZZ b 12⟩
def ZJ (l:aj):Option ZH:=match fM l with
 |none=>none
 |some (k,t,b)=>bif decide (k=5)&&(decide (t<=24)&&ZE (b.drop (28+t)))then(bif mQ (Z9 b t)then some (Z9 b t)else none)else none
def DX:ZH:=⟨[],0,List.replicate 12 0⟩
theorem ZlV (n:Nat) (x:ZH) (st:St) (hl:x.dz.length=12) (hs:x.name.length<1000) (hm:x.mask<4294967296) (hn:22+x.name.length<=n):run Bd n 299 [.a (Z0 x)] st=some (.val [.b (mQ x)],st):=by
 obtain⟨n,rfl⟩: ∃m,n=m+2:=⟨n-2,by omega⟩;rw[Ze,h.af6];unfold Qu bq aA Q_ cN Ls Lb Li mQ Z0
 try dsimp only
 have hlen:(ints x.dz).length=12:=by simp[ints,hl]
 simp only[cT,bR,av,aq,Za];rw[bI hlen,bI (by simp[hlen])];rw[Zk (ok_eq (ZrA (n+1) x.name (by omega) (by omega) st))];simp only[au,aq];cases qI x.name with
 |false=>rw[bn,ae];rfl
 |true=>
 rw[bu,af,aF (show ¬(x.mask:Int)<0 by omega)];simp only[af,dF];by_cases fw:x.mask<4096;rotate_left
 .rw[ax (show(x.mask:Int)>=4096 by omega),ae,aF fw,Zd,gf]
 rw[aF (show ¬(x.mask:Int)>=4096 by omega),af,ax fw,dF];rw[show(ints x.dz).take 12=ints x.dz from dG (by omega)];refine ok_eq ?_;refine Zi _ (λq y s=>∃i:Nat,y=[.i i]/\i<=12/\12-i<=q/\s=st/\((List.range i).all λi=>rf x.mask i (x.dz.getD i 0))=true) ?_ 12 (n+1) _ _ (by grind) (by omega);rintro q _ s ⟨i,rfl,hi,hq,rfl,dt⟩ rec aN;rw[av,aq];by_cases aw:i<12
 .rw[ax (show(i:Int)<12 by omega),ae,Zb (show aR (i:Int) 12=true from Zj aw),bp,cR,gZ (ZD)]
  rw[bg];rw[Zb (ax (by omega)),Zux,ZyP (by omega) (by omega)];have hw:ar ((i:Int)+1)=((i+1:Nat):Int):=Zc;have yw:x.dz.getD i 0=x.dz[i]'(by omega):=by rw[dW,cq (by omega)];rfl
  have aQ:rf x.mask i (x.dz[i]'(by omega))=true->Ok (λp=>p=(Out.val [DV.b ((List.range 12).all λi=>rf x.mask i (x.dz.getD i 0))],s)) (rec [.i (ar ((i:Int)+1))] s):=λe=>by
   rw[hw];refine aN (12-(i+1)) _ _ (by omega) ⟨i+1,rfl,by omega,aO _,rfl,?_⟩;rw[qy,tj,dt,vS,List.all_nil,yw,e];rfl
  have cA:rf x.mask i (x.dz[i]'(by omega))=false->((List.range 12).all λi=>rf x.mask i (x.dz.getD i 0))=false:=by grind
  cases hb:eE x.mask i with
  |true=>
   rw[bu,af];rw[Zb (ax (by omega)),ae,Zk (Zf4 n _ s)];rw[au,aq];cases hbn:se (x.dz[i]'(by omega))with
   |true=>
    rw[bu,af];exact aQ (by grind[rf])
   |false=>
    rw[bn,ae,Zd,cA (by grind[rf])];exact .mk rfl
  |false=>
   rw[bn,ae];cases h0:(x.dz[i]'(by omega)==0)with
   |false=>
    rw[bn,ae];rw[ae];rw[Zd,cA (by grind[rf])];exact .mk rfl
   |true=>
    rw[bu,af];rw[Zb (ax (by omega)),af];exact aQ (by grind[rf])
 .rw[aF (show ¬(i:Int)<12 by omega),af,Zd]
  rw[show i=12 by omega]at dt;rw[dt];exact .mk rfl
theorem Zne (n:Nat) (a:ai) (l:aj) (st:St) (ha:dc st a l) (hl:l.length<1000000) (hn:160<=n):
  Ok (λo=>∃s',aB st s'/\match ZJ l with
   |none=>o=(.val [.a (Z0 DX),.b false],s')
   |some x=>o=(.val [.a (Z0 x),.b true],s')/\x.dz.length=12) (run Bd n 275 [.s 1 a l.length] st):=by
 obtain _|n:=n;omega;rw[Ze,h.afR];unfold QY bV sm aA DM bq cP uT aZ Fq Li Ft Lb Z7 ZJ;simp only[aX,aq,Za];refine Ok.call (Dt n a l st ha hl) ?_;rintro _ ⟨s1,aH,ho⟩;cases eC:fM l with
 |none=>
  rw[eC]at ho;subst ho;refine⟨_,s1,rfl,?_⟩;simp only[av,au,aq,Zg 1 0 none _ (.inr rfl)];rw[bn,ae];simp only[ae,Zd];exact .mk ⟨_,aH,rfl⟩
 |some q=>
  have⟨k,t,b⟩:=q;rw[eC]at ho;obtain⟨p1,rfl,hf,hb,hk,ht⟩:=ho;refine⟨_,s1,rfl,?_⟩;simp only[av,au,aX,aq];rw[bu,af,nl k 5 5 rfl];cases kh:decide (k=5)with
  |false=>
   rw[bn];simp only[ae,gf,af,Zd];exact .mk ⟨_,aH,rfl⟩
  |true=>
  rw[bu];rw[af,dF];by_cases kP:t<=24;rotate_left
  .rw[ax (show(t:Int)>24 by omega),aF kP]
   simp only[ae,gf,af,Zd];exact .mk ⟨_,aH,rfl⟩
  rw[aF (show ¬(t:Int)>24 by omega),ax kP];rw[af,dF];have dR:=hf.sw;have hw:ar (28+(t:Int))=((28+t:Nat):Int):=Zc;have cA:=Dr n p1 b (28+t) (28-t) s1 dR;rw[hb,dG (by rw[fa];omega)]at cA;have fR:ar (ar (((56:Nat):Int)-28)-(t:Int))=((28-t:Nat):Int):=by
   rw[show ar (((56:Nat):Int)-28)=28 by decide];rw[Zc];omega
  rw[hw,fR,Zk cA];rw[au,aq,bp];cases ZE (b.drop (28+t))with
  |false=>
   rw[bn,ae,af,Zd];exact .mk ⟨_,aH,rfl⟩
  |true=>
   rw[bu];rw[ae,af];rw[Zb (by rw[aY,br,br];omega),Zb (ax (by omega))];have wQ:=(dR.cU (k:=28) (by omega)).lC t;have OE:(bU ((b.drop 28).take t)).length=28+t-28:=by rw[Zu,cX,fa];omega
   have lQ:=iR (β:=ah) wQ;rw[OE]at lQ;rw[lQ,<-lr,oJ,Zb (ax (by omega))];have EA:(b.take 4).length=4:=by rw[cX];omega
   have j3:=xz n _ (b.take 4) s1 (dR.lC 4);rw[EA]at j3;rw[qG j3 (.refl s1)];rw[av,aq];have ahJ:ez (b.take 4)<4294967296:=by have:=Ga (b.take 4);rw[EA]at this;exact this
   rw[Zc (x:=((ez (b.take 4):Nat):Int))];have rp:((b.drop 28).take t).length<=24:=by rw[cX];omega
   refine Zi _ (λq y s=>∃i:Nat,y=[.a (.t ((b.drop 28).take t):: .i (ez (b.take 4):Nat)::(ints (ZZ b i)++ints (List.replicate (12-i) 0))),.i i]/\i<=12/\12-i<=q/\s=s1) ?_ 12 n _ _ ⟨0,rfl,by omega,by omega,rfl⟩ (by omega);rintro q _ s ⟨i,rfl,hi,hq,rfl⟩ rec aN;have hlen:(ints (ZZ b i)++ints (List.replicate (12-i) 0)).length=12:=by
    simp[ints,Dw];omega
   simp only[cT,bR,av,aq];rw[bI hlen];by_cases aw:i<12
   .have cG:ar ((i:Int)+1)=((i+1:Nat):Int):=Zc
    have jB:ar (2*(i:Int))=((2*i:Nat):Int):=Zc;have j5:ar (4+((2*i:Nat):Int))=((4+2*i:Nat):Int):=Zc;have pC:ar (((4+2*i:Nat):Int)+2)=((4+2*i+2:Nat):Int):=Zc;simp only[cG,jB,j5,pC,bp,cR];rw[ax (show(i:Int)<12 by omega),ae];rw[Zb (by rw[aY,br,br];omega),Zb (by rw[aY,br,br];omega)];have iZ:=dR.cU (k:=4+2*i) (by omega);have tY:((b.drop (4+2*i)).take 2).length=2:=by rw[cX,fa];omega
    have j3:=xz n _ ((b.drop (4+2*i)).take 2) s (iZ.lC 2);rw[tY]at j3;rw[show 4+2*i+2-(4+2*i)=2 by omega,Zk j3];rw[av,aq];rw[Zb (show aR (i:Int) 12=true from Zj aw),Zb (gA (by omega))];refine aN (12-(i+1)) _ _ (by omega) ⟨i+1,?_,by omega,aO _,rfl⟩;congr 4;rw[ZmU,show List.replicate (12-i) (0:Int)=0::List.replicate (12-(i+1)) 0 by rw[show 12-i=(12-(i+1))+1 by omega];rfl];have e3:i=(ints (ZZ b i)).length:=by simp[ints,Dw]
    have e4:=tF (ints (ZZ b i)) [.i 0] (ints (List.replicate (12-(i+1)) 0)) [.i (bN b (4+2*i) 2)] rfl;rw[<-e3]at e4;show cE (ints (ZZ b i)++([.i 0]++ints (List.replicate (12-(i+1)) 0))) i [.i (bN b (4+2*i) 2)]=ints (ZZ b i++[bN b (4+2*i) 2])++_;rw[e4,show ints (ZZ b i++[bN b (4+2*i) 2])=ints (ZZ b i)++[.i (bN b (4+2*i) 2)] by unfold ints;rw[fq];rfl,fI]
   .rw[aF (show ¬(i:Int)<12 by omega),af]
    have p9:i=12:=by omega
    subst p9;rw[show ints (ZZ b 12)++ints (List.replicate (12-12) 0)=ints (ZZ b 12)from gz _]at hlen⊢;rw[bI hlen];have hrq:=ZlV n (Z9 b t) s (Dw b 12) (by show((b.drop 28).take t).length<_;omega) ahJ (by show _+((b.drop 28).take t).length<=_;omega);have hqc:Z0 (Z9 b t)= .t ((b.drop 28).take t):: .i (ez (b.take 4):Nat)::ints (ZZ b 12):=rfl;rw[<-hqc,Zk hrq];rw[au,aq];cases mQ (Z9 b t)with
    |false=>
     rw[bn,ae,Zd];exact .mk ⟨_,aH,rfl⟩
    |true=>
     rw[bu,af,bI (by rw[hqc];simp[hlen]),Zd];exact .mk ⟨_,aH,rfl,Dw b 12⟩
def DE (l:ak):Bool:=decide (1<=l.length)&&(decide (l.length<=16)&&(List.range l.length).all λi=>se (l.getD i 0)&& !decide (l.getD i 0∈l.take i))
def lj (l:aj):Option (ak):=match fM l with
 |none=>none
 |some (k,t,b)=>bif decide (k=6)&&(decide (t<=16)&&ZE (b.drop (2*t)))then(bif DE (dU b t)then some (dU b t)else none)else none
theorem Zni (n:Nat) (l:ak) (p:ai) (st:St) (hs:Sl st p (ints l)) (hl:l.length<1000) (hn:l.length+10<=n):run Bd n 300 [.a [.s 1 p l.length]] st=some (.val [.b (DE l)],st):=by
 obtain⟨n,rfl⟩: ∃m,n=m+2:=⟨n-2,by omega⟩;rw[Ze,h.af7];unfold Q5 bV aA Q_ cN Zn bq Lb Li dY DE;simp only[cT,aX,aq,Za];by_cases h1:1<=l.length;rotate_left
 .rw[ax (show(l.length:Int)<1 by omega),aF h1]
  rfl
 rw[aF (show ¬(l.length:Int)<1 by omega),ax h1];simp only[au,aq,af,dF];by_cases h2:l.length<=16;rotate_left
 .rw[ax (show(l.length:Int)>16 by omega),aF h2]
  rfl
 rw[aF (show ¬(l.length:Int)>16 by omega),ax h2];rw[af,dF];refine ok_eq ?_;refine Zi _ (λq y s=>∃i:Nat,y=[.i i]/\i<=l.length/\l.length-i<=q/\s=st/\((List.range i).all λi=>se (l.getD i 0)&& !decide (l.getD i 0∈l.take i))=true) ?_ l.length (n+1) _ _ (by grind) (by omega);rintro q _ s ⟨i,rfl,hi,hq,rfl,dt⟩ rec aN;rw[av,aq];by_cases aw:i<l.length
 .obtain⟨i1,o1,rfl⟩:=hs.cH (by simp[ints];omega)
  rw[ax (show(i:Int)<(l.length:Int) by omega),ae,bd,Zb (Zj aw),bp,hs.dJ (ZD aw)];rw[bg];have hw:ar ((i:Int)+1)=((i+1:Nat):Int):=Zc;have yw:l.getD i 0=l[i]:=by rw[dW,cq aw];rfl
  have cA:(se l[i]&& !decide (l[i]∈l.take i))=false->((List.range l.length).all λi=>se (l.getD i 0)&& !decide (l.getD i 0∈l.take i))=false:=by grind
  rw[Zk (Zf4 n _ s)];rw[au,aq];cases hb:se l[i]with
  |false=>
   rw[bn,ae];rw[ae];rw[Zd,cA (by rw[hb];rfl)];exact .mk rfl
  |true=>
   rw[bu,af,Zb (by rw[aY,br,br];omega)];have Ym:(l.take i).length=i:=by rw[cX];omega
   have cg:Sl s (some (i1,o1)) (ints (l.take i)):=by
    have:=Sl.lC hs i;rwa [show(ints l).take i=ints (l.take i) by simp[ints]]at this
   have hc:=Zju (n+1) (l.take i) l[i] _ s cg (by omega) (by omega);rw[Ym]at hc;rw[Zk hc];rw[au,aq];cases hm:decide (l[i]∈l.take i)with
   |true=>
    rw[ae,Zd,cA (by rw[hb,hm];rfl)];exact .mk rfl
   |false=>
    rw[af,hw];refine aN (l.length-(i+1)) _ _ (by omega) ⟨i+1,rfl,by omega,aO _,rfl,?_⟩;rw[qy,tj,dt,vS,List.all_nil,yw,hb,hm];rfl
 .rw[aF (show ¬(i:Int)<(l.length:Int) by omega),af,Zd]
  rw[show i=l.length by omega]at dt;rw[dt];exact .mk rfl
theorem ZoX (n:Nat) (a:ai) (l:aj) (st:St) (ha:dc st a l) (hl:l.length<1000000) (hn:160<=n):
  Ok (λo=>∃s',aB st s'/\match lj l with
   |none=>o=(.val [.a [.s 0 none 0],.b false],s')
   |some x=>∃p,o=(.val [.a [.s 1 p x.length],.b true],s')/\Fz s' p (ints x)/\x.length<=16) (run Bd n 276 [.s 1 a l.length] st):=by
 obtain _|n:=n;omega;rw[Ze,h.afS];unfold Rw bV sm aA bq cP aZ Li Lb Z7 lj;simp only[aX,aq,Za];rw[ZM];refine Ok.call (Dt n a l st ha hl) ?_;rintro _ ⟨s1,aH,ho⟩;cases eC:fM l with
 |none=>
  rw[eC]at ho;subst ho;refine⟨_,s1,rfl,?_⟩;simp only[av,au,aq,Zg 1 0 none _ (.inr rfl)];rw[bn,ae];simp only[ae];rw[Zp];exact .mk ⟨_,Zr aH,rfl⟩
 |some q=>
  have⟨k,t,b⟩:=q;rw[eC]at ho;obtain⟨p1,rfl,hf,hb,hk,ht⟩:=ho;refine⟨_,s1,rfl,?_⟩;simp only[av,au,aX,aq];rw[bu,af,nl k 6 6 rfl];cases kh:decide (k=6)with
  |false=>
   rw[bn];simp only[ae,gf,af];rw[Zp];exact .mk ⟨_,Zr aH,rfl⟩
  |true=>
  rw[bu];rw[af,dF];by_cases kP:t<=16;rotate_left
  .rw[ax (show(t:Int)>16 by omega),aF kP]
   simp only[ae,gf,af];rw[Zp];exact .mk ⟨_,Zr aH,rfl⟩
  rw[aF (show ¬(t:Int)>16 by omega),ax kP];rw[af,dF];have dR:=hf.sw;have hw:ar (2*(t:Int))=((2*t:Nat):Int):=Zc;have cA:=Dr n p1 b (2*t) (56-2*t) s1 dR;rw[hb,dG (by rw[fa];omega)]at cA;have fR:ar (((56:Nat):Int)-((2*t:Nat):Int))=((56-2*t:Nat):Int):=by
   rw[Zc];omega
  rw[hw,fR,Zk cA];rw[au,aq];cases ZE (b.drop (2*t))with
  |false=>
   rw[bn,ae,af];rw[Zp];exact .mk ⟨_,Zr aH,rfl⟩
  |true=>
   rw[bu];rw[ae,af];refine Zi _ (λq y s=>∃(i z:Nat) (p:ai),y=[.a [.s z p i],.i i]/\(z=1\/p=none)/\i<=t/\t-i<=q/\bm st s p (ints (dU b i))/\mL s p1 b) ?_ t n _ _ ⟨0,0,none,rfl,.inr rfl,cz _,by omega,bm.nil aH,hf⟩ (by omega);rintro q _ s ⟨i,z,p,rfl,hz,hi,hq,ho,GL⟩ rec aN;simp only[cT,av,Zg 1 z p _ hz,aq];by_cases aw:i<t
   .have cG:ar ((i:Int)+1)=((i+1:Nat):Int):=Zc
    have fR:ar (2*((i+1:Nat):Int))=((2*(i+1):Nat):Int):=Zc;have jB:ar (2*(i:Int))=((2*i:Nat):Int):=Zc;simp only[cG,fR,jB,bp,cR];rw[ax (show(i:Int)<(t:Int) by omega),ae];rw[Zb (by rw[aY,br,br];omega),Zb (by rw[aY,br,br];omega)];have iZ:=GL.sw.cU (k:=2*i) (by omega);have tY:((b.drop (2*i)).take 2).length=2:=by rw[cX,fa];omega
    have j3:=xz n _ ((b.drop (2*i)).take 2) s (iZ.lC 2);rw[tY]at j3;rw[show 2*(i+1)-2*i=2 by omega,v8 j3];rw[av,aq];have⟨p2,s2,du,rj,he⟩:=ho.CV (β:=ah) (sz:=1) (n:=i) (lim:=8796093022208) [.i (bN b (2*i) 2)] (xp 0) (by simp[ints,nW]) rfl (by omega);refine Eq.mpr (congrArg (Ok _) (he _)) ?_;refine aN (t-(i+1)) _ _ (by omega) ⟨i+1,1,p2,rfl,.inl rfl,by omega,aO _,?_,GL.kp rj⟩;rw[Mo];show bm st s2 p2 (List.map _ _);rw[fq];exact du
   .rw[aF (show ¬(i:Int)<(t:Int) by omega),af]
    have AF:i=t:=by omega
    subst AF;have hr:=Zni n (dU b i) p s ho.sl (by rw[nW];omega) (by rw[nW];omega);rw[nW]at hr;rw[aX,aq];rw[Zk hr];rw[au,aq];cases DE (dU b i)with
    |false=>
     rw[bn,ae];rw[af];rw[Zp];exact .mk ⟨_,Zr ho.1,rfl⟩
    |true=>
     rw[bu,af];rw[ae];rw[Zp];refine .mk ⟨_,Zr ho.1,p,?_,ho.fz,?_⟩
     .rw[nW]
     .rw[nW];omega
def rK (n k:Int):Int:=ar ((ar (ar (n+k)-1)).tdiv k)
def BK (b s g:Int):Int:=bif oY b s g then rK b 384 else 0
def BI (n:Int):Int:=bif (decide (n>=0)&&decide (n<=1792))then rK n 7 else 0
theorem Zo3 (n:Nat) (v k:Int) (hk:k≠0) (st:St):run Bd (n+1) 253 [.i v,.i k] st=some (.val [.i (rK v k)],st):=by
 rw[Ze,h.afx];unfold UN iX Li rK;simp only[av,aq];rw[Zb (by rw[eG.2 hk];rfl)];rfl
theorem Zr3 (n:Nat) (v:Int) (st:St):run Bd (n+1) 255 [.i v] st=some (.val [.b (decide (v>=0)&&decide (v<=1792))],st):=by
 rw[Ze,h.afz];unfold Sx cP aA Lb
 try dsimp only
 rw[av,aq,Za];cases decide (v>=0)<;>rfl
theorem ZpP (n:Nat) (v:Int) (st:St):run Bd (n+2) 227 [.i v] st=some (.val [.i (BI v)],st):=by
 rw[Ze,h.ae8];unfold Sd cP bq cw Li gJ BI
 try dsimp only
 rw[av,aq];rw[Zk (Zr3 n v st)];rw[au,aq];cases(decide (v>=0)&&decide (v<=1792))with
 |false=>rfl
 |true=>
  rw[bu,af,Zk (Zo3 n v 7 (by decide) st)];rfl
theorem ZpU (n:Nat) (b s g:Int) (st:St):run Bd (n+2) 223 [.a [.i b,.i s,.i g]] st=some (.val [.i (BK b s g)],st):=by
 rw[Ze,h.ae5];unfold Sc DH bq cw uR Li gJ BK;simp only[cT,av,aq];rw[Zk (ZlG n b s g st)];rw[au,aq];cases oY b s g with
 |false=>rfl
 |true=>
  rw[bu,af,Zk (Zo3 n b 384 (by decide) st)];rfl
structure ZP where
 no:Nat
 eY:aj
def ZY (x:ZP):ah:= .i x.no::bU x.eY
def Nu:ZP:=⟨0,List.replicate 48 0⟩
def xN (l:aj):Option ZP:=match fM l with
 |none=>none
 |some (k,t,b)=>bif decide (k=4)&&(decide (t<8)&&ZE (b.drop 48))then some ⟨t,b.take 48⟩else none
def ym (x:ZP) (a:Nat):Bool:=decide (a/384=x.no)&&eE (x.eY.getD (a%384/8) 0).toNat (a%8)
def eV (x:ZP) (n:Nat):ak:=((List.range n).filter λi=>ym x (x.no*384+i)).map λi=>((x.no*384+i:Nat):Int)
theorem Mq (x:ZP) (n:Nat):eV x (n+1)=eV x n++(bif ym x (x.no*384+n)then[((x.no*384+n:Nat):Int)]else[]):=by
 unfold eV;rw[qy,E9,fq];grind
theorem Zrt (x:ZP) (n:Nat):(eV x n).length<=n:=by
 grind[eV]
theorem adz {x:Nat} (hx:x<256) (hr:r<8):((bits .and .u8 (x:Int) ((2^r:Nat):Int))==0)= !eE x r:=by
 have key: ∀x:Fin 256,∀r:Fin 8,((x.val&&& 2^r.val)==0)= !decide (x.val/2^r.val%2=1):=by decide+kernel
 have hp:2^r<256:=Lz (a:=2) (m:=r) (n:=8) (by decide) hr;have e:bits .and .u8 (x:Int) ((2^r:Nat):Int)=((x&&& 2^r:Nat):Int):=by
  generalize 2^r=w at hp;show IntKind.wrap .u8 ((BitVec.ofInt 8 (x:Int)&&& BitVec.ofInt 8 (w:Int)).toNat:Int)=_;rw[Ll,BitVec.toNat_ofInt,BitVec.toNat_ofInt];have e1:((x:Int)%((2^8:Nat):Int)).toNat=x:=by omega
  have e2:((w:Int)%((2^8:Nat):Int)).toNat=w:=by omega
  rw[e1,e2];have:x&&& w<256:=Dd Nat.and_le_left hx;show((x&&& w:Nat):Int)%(2^8)=_;omega
 rw[e];have:=key ⟨x,hx⟩ ⟨r,hr⟩;grind[eE]
theorem Zp8 (n:Nat) (x:ZP) (hl:x.eY.length=48) (st:St):run Bd (n+1) 307 [.a (ZY x)] st=some (.val [.b (decide (x.no<8))],st):=by
 rw[Ze,h.af9];unfold R9 aA Lb ZY
 try dsimp only
 have hlen:(bU x.eY).length=48:=by rw[Zu,hl]
 rw[cT,av,aq,Za];rw[bI hlen,bI (by simp[hlen]),ax (show(x.no:Int)>=0 by omega),ae];simp only[au,aq];rw[Zd];by_cases h8:x.no<8
 .rw[ax h8,ax (by omega)]
 grind
theorem ZsV (n:Nat) (x:ZP) (a:Nat) (ha:a<1000000) (hl:x.eY.length=48) (h8:x.no<8) (st:St):
  run Bd (n+2) 287 [.a (ZY x),.i a] st=some (.val (bif decide (a/384=x.no)then[.i (a%384/8:Nat),.u (2^(a%8):Nat),.b true]else[.i 0,.u 0,.b false]),st):=by
 rw[Ze,h.afU];have hr:=Zp8 n x hl st;unfold TM cP bq aA Lb
 try dsimp only
 have hlen:(bU x.eY).length=48:=by rw[Zu,hl]
 unfold ZY at hr⊢;simp only[cT,av,aq,Za];rw[bI hlen,bI (by simp[hlen]),Zk hr];simp only[au,aq];rw[ax h8,bu,af,aF (show ¬(a:Int)<0 by omega)];rw[af];rw[show((a:Int).tdiv 384)=((a/384:Nat):Int)from rfl,Zc,nl (a/384) x.no _ rfl];cases hd:decide (a/384=x.no)with
 |false=>rfl
 |true=>
  rw[bu,af,ae];rw[show((a:Int).tmod 384)=((a%384:Nat):Int)from rfl,show(((a%384:Nat):Int).tmod 8)=((a%384%8:Nat):Int)from rfl,show(((a%384:Nat):Int).tdiv 8)=((a%384/8:Nat):Int)from rfl];rw[Zb (ax (by omega)),Zc,bp,nS (by omega),show a%384%8=a%8 by omega,Zd];have hp:2^(a%8)<256:=Lz (a:=2) (m:=a%8) (n:=8) (by decide) (by omega);have e:IntKind.wrap .u8 (1*2^(a%8))=((2^(a%8):Nat):Int):=by
   rw[Int.one_mul,show((2:Int)^(a%8))=((2^(a%8):Nat):Int) by push_cast;rfl];generalize 2^(a%8)=w at hp;show(w:Int)%(2^8)=_;omega
  rw[e]
theorem Zts (n:Nat) (x:ZP) (a:Nat) (ha:a<1000000) (hl:x.eY.length=48) (h8:x.no<8) (st:St):
  run Bd (n+3) 262 [.a (ZY x),.i a] st=some (.val [.b (ym x a)],st):=by
 rw[Ze,h.afE];have hr:=ZsV n x a ha hl h8 st;unfold TY cP ZuF aA Lb ym
 try dsimp only
 have hlen:(bU x.eY).length=48:=by rw[Zu,hl]
 unfold ZY at hr⊢;simp only[cT,av,aq,Za];rw[bI hlen,bI (by simp[hlen]),Zk hr];cases decide (a/384=x.no)with
 |false=>rfl
 |true=>
  simp only[ae,av,au,aq,bp,cR,dF];rw[Zb (show aR ((a%384/8:Nat):Int) 48=true from Zj)];have⟨c,hc⟩: ∃c,x.eY[a%384/8]? =some c:=⟨_,cq (by omega)⟩;rw[gZ (Vb hc),getD_some hc];rw[bg];rw[adz c.toNat_lt (by omega),Bool.not_not];rfl
theorem Zr4 (n:Nat) (x:ZP) (hl:x.eY.length=48) (h8:x.no<8) (st:St) (hn:400<=n):
  Ok (λo=>∃p s',o=(.val [.s 1 p (eV x 384).length],s')/\aB st s'/\Fz s' p (ints (eV x 384))) (run Bd n 239 [.a (ZY x)] st):=by
 obtain⟨n,rfl⟩: ∃m,n=m+4:=⟨n-4,by omega⟩;rw[Ze,h.afj];have hr:=λa ha s=>Zts n x a ha hl h8 s
 unfold Sy fB kd bq aZ dY Li iw
 try dsimp only
 have hlen:(bU x.eY).length=48:=by rw[Zu,hl]
 unfold ZY at hr⊢;simp only[cT,av,aq,Za];rw[bI hlen,ZM,bI (by simp[hlen])];refine Zi _ (λq y s=>∃(i z:Nat) (p:ai),y=[.s z p (eV x i).length,.i i]/\(z=1\/p=none)/\i<=384/\384-i<=q/\bm st s p (ints (eV x i))) ?_ 384 (n+3) _ _ ⟨0,0,none,rfl,.inr rfl,cz _,by omega,bm.nil (.refl st)⟩ (by omega);rintro q _ s ⟨i,z,p,rfl,hz,hi,hq,ho⟩ rec aN;simp only[av,Zg 1 z p _ hz,aq];by_cases aw:i<384
 .have cG:ar ((i:Int)+1)=((i+1:Nat):Int):=Zc
  have fR:ar ((x.no:Int)*384)=((x.no*384:Nat):Int):=by rw[Zc];omega
  have jB:ar (((x.no*384:Nat):Int)+(i:Int))=((x.no*384+i:Nat):Int):=Zc;rw[cG,fR,jB];rw[ax (show(i:Int)<384 by omega),ae,Zk (hr (x.no*384+i) (by omega) s)];rw[au,aq];have gp:=Zrt x i;cases hh:ym x (x.no*384+i)with
  |true=>
   rw[ae];have⟨p2,s2,du,rj,he⟩:=ho.CV (β:=ah) (sz:=1) (n:=(eV x i).length) (lim:=8796093022208) [.i ((x.no*384+i:Nat):Int)] (xp 0) (by simp[ints]) rfl (by omega);refine Eq.mpr (congrArg (Ok _) (he _)) ?_;rw[aX,aq];refine aN (384-(i+1)) _ _ (by omega) ⟨i+1,1,p2,?_,.inl rfl,by omega,aO _,?_⟩
   .rw[Mq,hh];simp
   .rw[Mq,hh]
    show bm st s2 p2 (List.map _ _);rw[fq];exact du
  |false=>
   rw[af];rw[aX,aq];refine aN (384-(i+1)) _ _ (by omega) ⟨i+1,1,p,?_,.inl rfl,by omega,aO _,?_⟩
   .rw[Mq,hh];simp
   .rw[Mq,hh,af,gz];exact ho
 .rw[aF (show ¬(i:Int)<384 by omega),af]
  rw[aX,aq];rw[Zp];have p9:i=384:=by omega
  subst p9;exact .mk ⟨p,_,rfl,Zr ho.1,ho.fz⟩
theorem Zyi {B:ah} (hl:B.length=D.length) (K:M β):dI s.length A.length D K (s++[some ⟨false,A++B⟩])=K (s++[some ⟨false,A++D⟩]):=by
 unfold dI St.ik;rw[kX (aO _),Bk];simp only[kY];rw[gA (by rw[bB];omega),ae];have e:=tF A B [] D hl;rw[gz,gz]at e;rw[e];simp
theorem ZtM (n:Nat) (a:ai) (l:aj) (st:St) (ha:dc st a l) (hl:l.length<1000000) (hn:160<=n):
  Ok (λo=>∃s',aB st s'/\match xN l with
   |none=>o=(.val [.a (ZY Nu),.b false],s')
   |some x=>o=(.val [.a (ZY x),.b true],s')/\x.eY.length=48/\x.no<8) (run Bd n 204 [.s 1 a l.length] st):=by
 obtain _|n:=n;omega;rw[Ze,h.aeO];unfold Th bV sm aA bq aZ Lb Z7 xN;simp only[aX,aq,Za];refine Ok.call (Dt n a l st ha hl) ?_;rintro _ ⟨s1,aH,ho⟩;cases eC:fM l with
 |none=>
  rw[eC]at ho;subst ho;refine⟨_,s1,rfl,?_⟩;simp only[av,au,aq,Zg 1 0 none _ (.inr rfl)];rw[bn,ae];simp only[ae,Zd];exact .mk ⟨_,aH,rfl⟩
 |some q=>
  have⟨k,t,b⟩:=q;rw[eC]at ho;obtain⟨p1,rfl,hf,hb,hk,ht⟩:=ho;refine⟨_,s1,rfl,?_⟩;simp only[av,au,aX,aq];rw[bu,af,nl k 4 4 rfl];cases kh:decide (k=4)with
  |false=>
   rw[bn];simp only[ae,gf,af,Zd];exact .mk ⟨_,aH,rfl⟩
  |true=>
  rw[bu];rw[af,dF];by_cases kP:t<8;rotate_left
  .rw[ax (show(t:Int)>=8 by omega),aF kP]
   simp only[ae,gf,af,Zd];exact .mk ⟨_,aH,rfl⟩
  rw[aF (show ¬(t:Int)>=8 by omega),ax kP];rw[af,dF];have dR:=hf.sw;have cA:=Dr n p1 b 48 8 s1 dR;rw[hb,dG (by rw[fa];omega)]at cA;rw[show ar (((56:Nat):Int)-48)=((8:Nat):Int) by decide,show(48:Int)=((48:Nat):Int)from rfl,Zk cA];rw[au,aq];cases ZE (b.drop 48)with
  |false=>
   rw[bn,ae,af,Zd];exact .mk ⟨_,aH,rfl⟩
  |true=>
   rw[bu];rw[ae,af];have Kw:(b.take 48).length=48:=by rw[cX];omega
   have hZ:(bU (b.take 48)).length=min 56 48*1:=by rw[Zu,Kw];rfl
   refine Eq.mpr (congrArg (Ok _) (show _=(cd (ZY Nu) λc1=>dI c1 0 (ZY ⟨t,List.replicate 48 0⟩)<|bS c1 1 48 λ_=>dy p1 (min 56 48*1) λcs=>dI c1 1 cs<|bS c1 0 49 λbM=>aD .i64 bM λx4 r1=>bA r1 48<|bA ((.i x4)::r1) 49<|ay [.a ((.i x4)::r1),.b true]) s1 from rfl)) ?_;rw[Zz,ZqW (by rfl)];rw[Z8 (i:=s1.length) (o:=1) (n:=48) (f:=false) (all:=ZY ⟨t,List.replicate 48 0⟩) (by simp) (by simp[ZY,Zu])];have c9:=(dR.mono (aB.new s1 (some ⟨false,ZY ⟨t,List.replicate 48 0⟩⟩))).lC 48;rw[<-hZ,iR c9];have cg:=Zyi (β:=ah) (s:=s1) (A:=[.i t]) (B:=bU (List.replicate 48 0)) (D:=bU (b.take 48)) (by rw[Zu,Zu,Kw];rfl);refine Eq.mpr (congrArg (Ok _) (cg _)) ?_;have hco:([.i t]++bU (b.take 48):ah).length=49:=by rw[bB,Zu,Kw];rfl
   rw[Z8 (i:=s1.length) (o:=0) (n:=49) (f:=false) (all:=[.i t]++bU (b.take 48)) (by simp) (by rw[hco];omega)];rw[dK,dG (l:=[DV.i t]++bU (b.take 48)) (i:=49) (by rw[hco];omega)];show Ok _ (aD .i64 (.i t::bU (b.take 48)) _ _);rw[av];have abX:(bU (b.take 48)).length=48:=by rw[Zu,Kw]
   rw[bI abX,bI (by rw[cO,abX]),Zd];exact .mk ⟨_,aH.trans (.new _ _),rfl,Kw,kP⟩
def Fx (T:al) (s s':St):Prop:=s.length<=s'.length/\∀(b:Nat) (x:Option bO),b∉T->s[b]? =some x->s'[b]? =some x
theorem Fx.refl (T:al) (s:St):Fx T s s:=⟨aO _,λ_ _ _ h=>h⟩
theorem Fx.pre (T:al) (h:aB s s'):Fx T s s':=⟨h.len,λ_ _ _ e=>h.get e⟩
theorem Fx.trans {a b c:St} (h:Fx T a b) (k:Fx T b c):Fx T a c:=⟨gY h.1 k.1,λi x n e=>k.2 i x n (h.2 i x n e)⟩
theorem Fx.step {a b c:St} (h:Fx T a b) (k:Fx T' b c) (hT: ∀x∈T',x∈T\/a.length<=x):Fx T a c:=
 ⟨gY h.1 k.1,λi x n e=>k.2 i x (λhm=>by
  grind) (h.2 i x n e)⟩
theorem Fx.mono {a b:St} (h:Fx T a b) (k: ∀x∈T,x∈T'):Fx T' a b:=⟨h.1,λi x n e=>h.2 i x (λm=>n (k i m)) e⟩
theorem Fx.set (s:St) (j:Nat) (b:Option bO):Fx [j] s (s.set j b):=⟨by simp,by grind⟩
def lI (T:al) (a:ai):Prop:=∀b o,a=some (b,o)->b∉T
theorem Sl.fx {a:ai} (h:Sl s a cs) (k:Fx T s s') (n:lI T a):Sl s' a cs:=by
 cases a with
 |none=>exact h
 |some p=>
  have⟨i,o⟩:=p;have⟨f,all,h1,h2⟩:=h;exact⟨f,all,k.2 i _ (n i o rfl) h1,h2⟩
theorem Sl.lt (h:Sl s (some (i,o)) cs):i<s.length:=by
 have⟨f,all,h1,_⟩:=h;grind
theorem lI.new {a:ai} (h:lI T a) (k:Sl s a cs) (hT: ∀x∈T',x∈T\/s.length<=x):lI T' a:=by
 intro b o e hm;subst e;rcases hT b hm with h1|h1
 .exact h b o rfl h1
 .have:=Sl.lt k;omega
def Zv (W:al):ah:=W.map λ(w:Nat)=> .w w
theorem Ug (W:al):(Zv W).length=W.length:=by simp[Zv]
structure gy (s:St) (f:Bool) (i j n:Nat) (W:List Nat):Prop where
 hd:s[i]? =some (some ⟨f,[.i n,.s 1 (some (j,0)) W.length]⟩)
 wd:s[j]? =some (some ⟨f,Zv W⟩)
 len:W.length=(n+63)/64
 lt: ∀w∈W,w<18446744073709551616
 le:n<=3072
theorem gy.fx (h:gy s f i j n W) (k:Fx T s s') (hi:i∉T) (hj:j∉T):gy s' f i j n W:=
 ⟨k.2 i _ hi h.hd,k.2 j _ hj h.wd,h.len,h.lt,h.le⟩
theorem gy.pre (h:gy s f i j n W) (k:aB s s'):gy s' f i j n W:=
 ⟨k.get h.hd,k.get h.wd,h.len,h.lt,h.le⟩
def fE (n:Nat) (a:Int):Bool:=decide (0<=a)&&decide (a<n)
def di (W:al) (a:Nat):Bool:=eE (W.getD (a/64) 0) (a%64)
def bK (n:Nat) (W:al) (a:Int):al:=bif fE n a then W.set (a.toNat/64) (W.getD (a.toNat/64) 0|||2^(a.toNat%64))else W
theorem oM (n:Nat) (W:al) (a:Int):(bK n W a).length=W.length:=by
 grind[bK]
theorem VC {a:Int} (h: ∀w∈W,w<18446744073709551616): ∀w∈bK n W a,w<18446744073709551616:=by
 unfold bK;cases fE n a with
 |false=>exact h
 |true=>
  intro w hw;rw[ae]at hw;rcases List.mem_or_eq_of_mem_set hw with h1|h1
  .exact h w h1
  .rw[h1]
   refine Nat.or_lt_two_pow (n:=64) ?_ (Lz (by decide) (by omega));rw[dW];cases e:W[a.toNat/64]? with
   |none=>decide
   |some v=>exact h v (uw e)
theorem qP {a:Int} {b:Nat} (hl:W.length=(n+63)/64):di (bK n W a) b=(di W b||(fE n a&&decide (b=a.toNat))):=by
 unfold bK;cases hm:fE n a with
 |false=>simp[di]
 |true=>
  rw[ae,dF];unfold fE at hm;rw[aY,br,br]at hm;unfold di;have hk:a.toNat/64<W.length:=by omega
  by_cases hq:b/64=a.toNat/64
  .rw[hq,dW,kZ hk]
   show eE (W.getD (a.toNat/64) 0|||2^(a.toNat%64)) (b%64)=_;have key: ∀w:Nat,eE (w|||2^(a.toNat%64)) (b%64)=(eE w (b%64)||decide (b=a.toNat)):=by
    intro w;unfold eE;rw[<-Nat.testBit_eq_decide_div_mod_eq,<-Nat.testBit_eq_decide_div_mod_eq,Nat.testBit_or,Nat.testBit_two_pow];grind
   rw[key,dW]
  grind
theorem Znk (n:Nat) (a:Int) (st:St) (hs:gy st f i j m W):
  run Bd (n+1) 209 [.p (some (i,0)),.i a] st=some (.val [.b (fE m a)],st):=by
 rw[Ze,h.aeS];unfold Ra pP aA Zm Lb fE
 try dsimp only
 rw[eH,av,aq,Za,bd];by_cases h0:a>=0
 .rw[ax h0,ae,Zo hs.hd rfl]
  rfl
 .rw[aF h0,af]
  rfl
theorem V5 {a:Int} (h:0<=a):a.tdiv 64=((a.toNat/64:Nat):Int):=by
 grind
theorem ZwE {a:Int} (h:0<=a):a.tmod 64=((a.toNat%64:Nat):Int):=by
 grind
theorem ZzP (hw:w<18446744073709551616) (hj:j<64):(bits .and .u64 ((w:Int).fdiv (2^(min j 64))) 1==1)=eE w j:=by
 rw[nS (by omega),show((2:Int)^j)=((2^j:Nat):Int) by push_cast;rfl,tB];have h1:w/2^j<18446744073709551616:=Dd (Fg _ _) hw;rw[show(1:Int)=((1:Nat):Int)from rfl,D1 h1 (by decide),Nat.and_one_is_mod];grind[eE]
theorem Zny (n:Nat) (a:Int) (st:St) (hs:gy st f i j m W):
  run Bd (n+2) 184 [.p (some (i,0)),.i a] st=some (.val [.b (fE m a&&di W a.toNat)],st):=by
 rw[Ze,h.aeA];unfold Rz pP bq aA ix Lb;simp only[eH,av,aq,Za,bd];rw[Zk (Znk n a st hs)];rw[au,aq];cases hm:fE m a with
 |false=>rfl
 |true=>
  have qb:=hm;unfold fE at qb;rw[aY,br,br]at qb;have hle:=hs.le;have hlen:=hs.len;have hk:a.toNat/64<W.length:=by omega
  rw[ae,Zo hs.hd rfl];rw[kb,bd];rw[V5 qb.1,ZwE qb.1,Zc,Zb (Zj hk),bp,bp];rw[Zo (d:= .w (W[a.toNat/64]'hk:Nat)) hs.wd (by rw[cR,gV];simp[Zv,hk])];rw[bg];have aw:=hs.lt _ (kA hk);rw[Zb (ax (by omega)),ZzP aw (by omega),dF];unfold di;rw[dW,cq hk];rfl
theorem qE (h:st[j]? =some (some ⟨false,cs⟩)) (hk:k<cs.length) (K:M β):dI j k [d] K st=K (st.set j (some ⟨false,cs.set k d⟩)):=by
 unfold dI St.ik;rw[h];simp only[iK,gA (show k+1<=cs.length by omega),ae,BJ d cs k hk]
theorem gy.add (hs:gy st false i j m W) (mn:i≠j) (W':al) (hl:W'.length=W.length) (aw: ∀w∈W',w<18446744073709551616):gy (st.set j (some ⟨false,Zv W'⟩)) false i j m W':=by
 have hj:j<st.length:=(ef.1 hs.wd).1;refine⟨?_,?_,by rw[hl];exact hs.len,aw,hs.le⟩
 .rw[jv (by omega),hl];exact hs.hd
 grind
theorem H3 (n:Nat) (l:ak) (p:ai) (st:St) (hs:gy st false i j m W) (mn:i≠j) (hl:Sl st p (ints l)) (hp:lI [j] p) (gp:l.length<1000000:=by omega) (hn:l.length+3<=n:=by omega):
  run Bd n 206 [.p (some (i,0)),.s 1 p l.length] st=some (.val [],st.set j (some ⟨false,Zv (l.foldl (bK m) W)⟩)):=by
 obtain⟨n,rfl⟩: ∃k,n=k+2:=⟨n-2,by omega⟩;rw[Ze,h.aeQ];unfold Rl bV Q_ cN Zn bq ix Li lg;simp only[eH,aX,aq,Za];refine ok_eq ?_;have e0:st=st.set j (some ⟨false,Zv W⟩):=by
  refine tk λk=>?_
  by_cases e:j=k
  .grind[hs.wd]
  grind
 refine Zi _ (λq y s=>∃k:Nat,y=[.i k]/\k<=l.length/\l.length-k<=q/\s=st.set j (some ⟨false,Zv ((l.take k).foldl (bK m) W)⟩)/\gy s false i j m ((l.take k).foldl (bK m) W)) ?_ l.length (n+1) _ _ (by grind) (by omega);rintro q _ s ⟨k,rfl,hk,hq,cg,kO⟩ rec aN;rw[av,aq];by_cases aw:k<l.length
 .have El:Sl s p (ints l):=by rw[cg];exact Sl.fx hl (Fx.set st j _) hp
  obtain⟨i1,o1,rfl⟩:=El.cH (by simp[ints];omega);rw[ax (show(k:Int)<(l.length:Int) by omega),ae,bd,Zb (Zj aw),bp,El.dJ (ZD aw)];rw[bg];rw[Zk (Znk n l[k] s kO)];rw[au,aq];have hw:ar ((k:Int)+1)=((k+1:Nat):Int):=Zc;have fZ:(l.take (k+1)).foldl (bK m) W=bK m ((l.take k).foldl (bK m) W) l[k]:=by
   rw[lX aw,zs];rfl
  generalize hV:(l.take k).foldl (bK m) W=V at cg kO fZ;cases hm:fE m l[k]with
  |false=>
   rw[af,hw];have Ch:bK m V l[k]=V:=by unfold bK;rw[hm];rfl
   exact aN (l.length-(k+1)) _ _ (by omega) (by grind)
  |true=>
   have qb:=hm;unfold fE at qb;rw[aY,br,br]at qb;have hle:=hs.le;have hlen:=kO.len;have AH:l[k].toNat/64<V.length:=by omega
   rw[ae,bd,Zo kO.hd rfl];simp only[kb,bd];rw[V5 qb.1,ZwE qb.1,Zc,Zb (Zj AH),bp,bp];rw[Zo (d:= .w (V[l[k].toNat/64]'AH:Nat)) kO.wd (by rw[cR,gV];simp[Zv,AH])];rw[bg];have aw:=kO.lt _ (kA AH);have aU:2^(l[k].toNat%64)<18446744073709551616:=Lz (a:=2) (n:=64) (by decide) (by omega);rw[Zb (ax (by omega)),Zb (Zj AH),nS (by omega),Int.one_mul,show((2:Int)^(l[k].toNat%64))=((2^(l[k].toNat%64):Nat):Int) by push_cast;rfl,qQ aU,acH aw aU];rw[qE kO.wd (by rw[Ug,cR,gV];exact AH),hw,cR];have Ch:bK m V l[k]=V.set (l[k].toNat/64) (V[l[k].toNat/64]'AH|||2^(l[k].toNat%64)):=by
    unfold bK;rw[hm,ae,dW,cq AH];rfl
   have Cj:(Zv V).set (l[k].toNat/64+0) (.w ((V[l[k].toNat/64]'AH|||2^(l[k].toNat%64):Nat):Int))=Zv (bK m V l[k]):=by
    rw[Ch,gV];unfold Zv;rw[List.map_set]
   rw[Cj];refine aN (l.length-(k+1)) _ _ (by omega) ⟨k+1,rfl,by omega,aO _,?_,?_⟩
   .rw[fZ,cg,List.set_set]
   .rw[fZ];exact kO.add mn _ (oM _ _ _) (VC kO.lt)
 .rw[aF (show ¬(k:Int)<(l.length:Int) by omega),af]
  rw[Zd];rw[cg,dG (by omega)];exact .mk rfl
def jd (n:Nat) (l:ak):al:=l.foldl (bK n) (List.replicate ((n+63)/64) 0)
theorem ZF (n:Nat): ∀(l:ak) (W:al),(l.foldl (bK n) W).length=W.length/\((∀w∈W,w<18446744073709551616)->∀w∈l.foldl (bK n) W,w<18446744073709551616)
 |[],_=>⟨rfl,id⟩
 |a::l,W=>⟨by rw[Bf,(ZF n l _).1,oM],λh=>(ZF n l _).2 (VC h)⟩
theorem T7 (n m:Nat) (l:ak) (p:ai) (st:St) (hm:m<=3072) (hl:Sl st p (ints l)) (gp:l.length<1000000) (hn:l.length+4<=n):
  ∃s',run Bd n 177 [.i m,.s 1 p l.length] st=some (.val [.p (some (st.length+1,0))],s')/\aB st s'/\s'.length=st.length+2/\gy s' false (st.length+1) st.length m (jd m l):=by
 obtain _|n:=n;omega;rw[Ze,h.aa9];unfold UQ bV C_ lg uF Lp
 try dsimp only
 rw[av,aX,aq];have h0:(if (m:Int)<0 then(0:Int)else m)=m:=bj (by omega);have h1:(if (3072:Int)<(m:Int)then(3072:Int)else m)=m:=bj (by omega);have h2:ar ((ar ((ar ((m:Int)+64))-1)).tdiv 64)=(((m+63)/64:Nat):Int):=by
  rw[Zc (x:=(m:Int)+64),show((m:Int)+64-1)=((m+63:Nat):Int) by omega,Zc (x:=((m+63:Nat):Int)),show(((m+63:Nat):Int).tdiv 64)=(((m+63)/64:Nat):Int)from rfl];exact Zc
 rw[h0,h1,h2,bp];rw[Zb (by rw[aY,aY,br,br,br];omega),Zz,Zz];have hw:il ((m+63)/64) [DV.w 0]=Zv (List.replicate ((m+63)/64) 0):=by rw[DK];simp[Zv]
 rw[hw];have OA:(st++[some (⟨false,Zv (List.replicate ((m+63)/64) 0)⟩:bO)]).length=st.length+1:=by simp
 rw[OA];have hp:aB st (st++[some (⟨false,Zv (List.replicate ((m+63)/64) 0)⟩:bO)]++[some (⟨false,[.i m,.s 1 (some (st.length,0)) ((m+63)/64)]⟩:bO)]):=(aB.new _ _).trans (.new _ _);have kO:gy (st++[some (⟨false,Zv (List.replicate ((m+63)/64) 0)⟩:bO)]++[some (⟨false,[.i m,.s 1 (some (st.length,0)) ((m+63)/64)]⟩:bO)]) false (st.length+1) st.length m (List.replicate ((m+63)/64) 0):=by
  refine⟨?_,?_,by simp,by simp,hm⟩
  .rw[kX (by simp)];simp
  simp
 have GV:(st++[some (⟨false,Zv (List.replicate ((m+63)/64) 0)⟩:bO)]++[some (⟨false,[.i m,.s 1 (some (st.length,0)) ((m+63)/64)]⟩:bO)]).length=st.length+2:=by simp
 generalize st++[some (⟨false,Zv (List.replicate ((m+63)/64) 0)⟩:bO)]++[some (⟨false,[.i m,.s 1 (some (st.length,0)) ((m+63)/64)]⟩:bO)]=s2 at hp kO GV;have Er:lI [st.length] p:=by
  intro b o e hb;subst e;have:=Sl.lt hl;rw[cB.1 hb]at this;omega
 rw[Zk (H3 n l p s2 kO (by omega) (hl.mono hp) Er gp)];rw[aq,Zd];exact⟨_,rfl,tA hp (aO _) _,by simp[GV],kO.add (by omega) _ (ZF m l _).1 ((ZF m l _).2 kO.lt)⟩
end Go.Gv.F
