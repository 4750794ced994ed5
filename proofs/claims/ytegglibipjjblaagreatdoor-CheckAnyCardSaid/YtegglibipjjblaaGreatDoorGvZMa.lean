/- Numbers as octets, the least one first. -/
import Derived.Test.YtegglibipjjblaaGreatDoorGvZPg
set_option linter.all false
namespace Go.Gv.F
open Go.Gv
def ez:aj->Nat
 |[]=>0
 |c::l=>c.toNat+256*ez l
def db:Nat->Nat->aj
 |_,0=>[]
 |v,n+1=>UInt8.ofNat v::db (v/256) n
def ZA: ∀(v n:Nat),(db v n).length=n
 |_,0=>rfl
 |v,n+1=>by rw[db,cO,ZA]
def F4: ∀(l:aj),ez l<256^l.length
 |[]=>by decide
 |c::l=>by
  have h1:=c.toNat_lt;have h2:=F4 l;rw[ez,cO,uw];omega
def Zs0: ∀(v n:Nat),ez (db v n)=v%256^n
 |v,0=>by simp[db,ez,Nat.mod_one]
 |v,n+1=>by
  rw[db,ez,Zs0,uw,Da (256^n),Nat.mod_mul];have:(UInt8.ofNat v).toNat=v%256:=rfl;rw[this]
def MS: ∀(l:aj),db (ez l) l.length=l
 |[]=>rfl
 |c::l=>by
  have h1:=c.toNat_lt;rw[ez,cO,db,show(c.toNat+256*ez l)/256=ez l by omega,MS l];simp
def ZuM: ∀(l m:aj),ez (l++m)=ez l+256^l.length*ez m
 |[],m=>by simp[ez]
 |c::l,m=>by
  rw[nP,ez,ez,ZuM l m,cO,uw,Nat.mul_add,<-Nat.mul_assoc,Da 256 (256^l.length)];omega
def UQ: ∀(v m n:Nat),db v (m+n)=db v m++db (v/256^m) n
 |v,0,n=>by simp[db]
 |v,m+1,n=>by
  rw[show m+1+n=(m+n)+1 by omega,db,db,UQ (v/256) m n,nP,uw,Da (256^m),E8]
def oC (x:Nat):Nat:=if x%2=1 then(x/2)^^^2197175160 else x/2
def ZO:Nat->Nat->Nat
 |0,x=>x
 |n+1,x=>ZO n (oC x)
def sU (x:Nat) (c:UInt8):Nat:=ZO 8 (x^^^c.toNat)
def wy (l:aj):Nat:=4294967295-l.foldl sU 4294967295
def Zzg (a b:Nat):(a^^^b)%2=(a+b)%2:=by
 have h:=Nat.testBit_xor a b 0;grind
def Zx0 (a b:Nat):(a^^^b)/2=(a/2)^^^(b/2):=by
 have:=Nat.shiftRight_xor_distrib (a:=a) (b:=b) (i:=1);grind[Nat.shiftRight_succ]
def Zw6 (a b:Nat):oC (a^^^b)=oC a^^^oC b:=by
 unfold oC;rw[Zzg,Zx0];rcases PR a with ha|ha<;>rcases PR b with hb|hb
 .rw[bj (by omega),bj (by omega),bj (by omega)]
 .rw[bE (by omega),bj (by omega),bE (by omega),Nat.xor_assoc]
 .rw[bE (by omega),bE (by omega),bj (by omega),Nat.xor_assoc,Nat.xor_comm (b/2),<-Nat.xor_assoc]
 grind
def ZoV: ∀(n a b:Nat),ZO n (a^^^b)=ZO n a^^^ZO n b
 |0,_,_=>rfl
 |n+1,a,b=>by rw[ZO,ZO,ZO,Zw6,ZoV n]
def Zpy: ∀(m n x:Nat),ZO (m+n) x=ZO n (ZO m x)
 |0,n,x=>by rw[eW];rfl
 |m+1,n,x=>by rw[show m+1+n=(m+n)+1 by omega,ZO,ZO,Zpy m n]
def Mz (z:Nat):oC (2*z)=z:=by simp[oC]
def ZyZ (x:Nat):x=(16*(x/16))^^^(x%16):=by
 refine C8 λi=>?_
 rw[Nat.testBit_xor];have e1:(16*(x/16)).testBit i=(decide (4<=i)&&x.testBit i):=by
  rw[show 16*(x/16)=2^4*(x/2^4)from rfl,Nat.testBit_two_pow_mul];by_cases h:4<=i
  .rw[ax h,Nat.testBit_div_two_pow,show i-4+4=i by omega]
  grind
 have e2:(x%16).testBit i=(decide (i<4)&&x.testBit i):=by
  rw[show x%16=x%2^4 from rfl,Nat.testBit_mod_two_pow]
 rw[e1,e2];by_cases h:4<=i
 .rw[ax h,aF (by omega)];simp
 grind
def nib (x:Nat):ZO 4 x=(x/16)^^^ZO 4 (x%16):=by
 have h:ZO 4 (16*(x/16))=x/16:=by
  generalize x/16=y;show oC (oC (oC (oC (16*y))))=y;rw[show 16*y=2*(2*(2*(2*y))) by omega,Mz,Mz,Mz,Mz]
 have h2:=ZoV 4 (16*(x/16)) (x%16);rw[<-ZyZ,h]at h2;exact h2
def ZtE {x:Nat} (h:x<4294967296):oC x<4294967296:=by
 unfold oC;split
 .exact HD (n:=32) (by omega) (by omega)
 .omega
def Ig: ∀(n:Nat) {x:Nat},x<4294967296->ZO n x<4294967296
 |0,_,h=>h
 |n+1,_,h=>Ig n (ZtE h)
def ZyS {x:Nat} (h:x<4294967296) (c:UInt8):sU x c<4294967296:=
 Ig 8 (HD (n:=32) h (by have:=c.toNat_lt;omega))
def IS: ∀(l:aj) {x:Nat},x<4294967296->l.foldl sU x<4294967296
 |[],_,h=>h
 |c::l,_,h=>IS l (ZyS h c)
def Vt (l:aj):wy l<4294967296:=by unfold wy;omega
def ZxR (x:Nat) (c:UInt8):sU x c=((((x^^^c.toNat)/16)^^^ZO 4 ((x^^^c.toNat)%16))/16)^^^ZO 4 ((((x^^^c.toNat)/16)^^^ZO 4 ((x^^^c.toNat)%16))%16):=by
 unfold sU;generalize x^^^c.toNat=y;rw[show ZO 8 y=ZO 4 (ZO 4 y)from Zpy 4 4 y,nib y];exact nib _
def Zy1 {x:Nat} (h:x<4294967296):x^^^4294967295=4294967295-x:=by
 refine C8 λi=>?_
 rw[show(4294967295:Nat)=2^32-1 from rfl,Nat.testBit_xor,Nat.testBit_two_pow_sub_one,show 2^32-1-x=2^32-(x+1) by omega,Nat.testBit_two_pow_sub_succ (by omega)];by_cases hi:i<32
 .rw[ax hi];simp
 .rw[aF hi]
  have:x.testBit i=false:=HC (mG (show x<2^32 by omega) (nT (by decide) (by omega)));simp[this]
variable {β:Type}
def qP {x:Nat} (h:x<18446744073709551616:=by omega):IntKind.wrap .u64 (x:Int)=x:=IntWalk.u64_in _ (by omega)
def BR {x:Nat} (h:x<4294967296:=by omega):IntKind.wrap .u32 (x:Int)=x:=by
 show(x:Int)%_=x;have:((2:Int)^32)=4294967296:=by decide
 show(x:Int)%(2^32)=x;omega
def Zzd (x:Nat):IntKind.wrap .u64 (x:Int)=((x%18446744073709551616:Nat):Int):=by
 rfl
def Gb {x:Nat} (h:x<18446744073709551616:=by omega):(BitVec.ofInt 64 (x:Int)).toNat=x:=by
 rw[BitVec.toNat_ofInt];omega
def NF {x:Nat} (h:x<4294967296):(BitVec.ofInt 32 (x:Int)).toNat=x:=by
 rw[BitVec.toNat_ofInt];omega
variable {f:Bool} {d:DV} {i j k m n o r t w y:Nat} {s s' st:St} {A D cs ds:ah} {l:aj} {T T' W:al}
def acv {x:Nat} (hx:x<18446744073709551616) (hy:y<18446744073709551616):bits .or .u64 (x:Int) (y:Int)=((x|||y:Nat):Int):=by
 show IntKind.wrap .u64 ((BitVec.ofInt 64 (x:Int)|||BitVec.ofInt 64 (y:Int)).toNat:Int)=_;rw[BitVec.toNat_or,Gb hx,Gb hy];exact qP (Nat.or_lt_two_pow (n:=64) hx hy)
def DW {x:Nat} (hx:x<18446744073709551616) (hy:y<18446744073709551616):bits .and .u64 (x:Int) (y:Int)=((x&&& y:Nat):Int):=by
 show IntKind.wrap .u64 ((BitVec.ofInt 64 (x:Int)&&& BitVec.ofInt 64 (y:Int)).toNat:Int)=_;rw[Ld,Gb hx,Gb hy];exact qP (C9 Nat.and_le_left hx)
def EU {x:Nat} (hx:x<4294967296) (hy:y<4294967296:=by omega):bits .xor .u32 (x:Int) (y:Int)=((x^^^y:Nat):Int):=by
 show IntKind.wrap .u32 ((BitVec.ofInt 32 (x:Int)^^^BitVec.ofInt 32 (y:Int)).toNat:Int)=_;rw[BitVec.toNat_xor,NF hx,NF hy];exact BR (HD (n:=32) hx hy)
def aaB {x:Nat} (hx:x<4294967296) (hy:y<4294967296):bits .and .u32 (x:Int) (y:Int)=((x&&& y:Nat):Int):=by
 show IntKind.wrap .u32 ((BitVec.ofInt 32 (x:Int)&&& BitVec.ofInt 32 (y:Int)).toNat:Int)=_;rw[Ld,NF hx,NF hy];exact BR (C9 Nat.and_le_left hx)
def tz (x m:Nat):Int.fdiv (x:Int) (m:Int)=((x/m:Nat):Int):=by
 grind
def bU (l:aj):ah:=l.map λb=> .int .u8 b.toNat
def ll (l:aj):ZQ l=bU l:=rfl
def Zu (l:aj):(bU l).length=l.length:=by simp[bU]
def U6 {b:UInt8} (h:l[j]? =some b):(bU l)[j]? =some (.int .u8 b.toNat):=by grind[bU]
def Zwh (l:aj) (k:Nat):(bU l).drop k=bU (l.drop k):=by simp[bU]
def Zxh (l:aj) (k:Nat):(bU l).take k=bU (l.take k):=by simp[bU]
def IB (l m:aj):bU (l++m)=bU l++bU m:=by simp[bU]
def dc (s:St) (a:ai) (l:aj):Prop:=Sl s a (bU l)
def dc.mono {s s':St} (k:aB s s') {a:ai} {l:aj} (h:dc s a l):dc s' a l:=Sl.mono k h
def dc.get {s:St} {i o:Nat} {l:aj} (h:dc s (some (i,o)) l) {j:Nat} {b:UInt8} (hb:l[j]? =some b) (K:DV->M β):bD i (j+o) K s=K (.int .u8 b.toNat) s:=Sl.get h (U6 hb) K
def dc.dJ (h:dc s (some (i,o)) l) {b:UInt8} (hb:l[j]? =some b) (K:DV->M β):bD i (j*1+o) K s=K (.int .u8 b.toNat) s:=by rw[cR];exact h.get hb K
def dc.cH {s:St} {a:ai} {l:aj} (h:dc s a l) (hn:0<l.length): ∃i o,a=some (i,o):=Sl.cH h (by rw[Zu];exact hn)
def Sl.sub (h:Sl s (some (i,o)) cs) (hk:k<=cs.length):Sl s (some (i,k+o)) (cs.drop k):=by
 obtain⟨f,all,h1,h2,h3⟩:=h;refine⟨f,all,h1,by rw[fa];omega,?_⟩;rw[fa,show k+o=o+k by omega,<-kV,<-C5,h3]
def Sl.cU {s:St} {a:ai} {cs:ah} (h:Sl s a cs) {k:Nat} (hk:k<=cs.length):Sl s (cU true a k) (cs.drop k):=by
 cases a with
 |none=>rw[show cs=[]from h];simp[Go.Gv.cU,Sl]
 |some p=>exact Sl.sub h hk
def Sl.lA {a:ai} (h:Sl s a cs) (k:Nat):Sl s a (cs.take k):=by
 cases a with
 |none=>rw[show cs=[]from h];simp[Sl]
 |some p=>
  obtain⟨f,all,h1,h2,h3⟩:=h;refine⟨f,all,h1,by rw[cX];omega,?_⟩;rw[cX,<-C7,h3]
def dc.cU {s:St} {a:ai} {l:aj} (h:dc s a l) {k:Nat} (hk:k<=l.length):dc s (cU true a k) (l.drop k):=by
 unfold dc;rw[<-Zwh];exact Sl.cU h (by rw[Zu];exact hk)
def dc.lA {s:St} {a:ai} {l:aj} (h:dc s a l) (k:Nat):dc s a (l.take k):=by
 unfold dc;rw[<-Zxh];exact Sl.lA h k
variable {Bd:Zh} [h:HA Bd]
def ZkG (n:Nat) (a:ai) (len at' k:Nat) (st:St) (hl:len<1000000) (hk:k<1000000:=by omega):
  run Bd (n+1) 261 [.slice 1 a len,.int .i64 at',.int .i64 k] st=some (.val [.bool (decide (at'+k<=len))],st):=by
 rw[Ze,h.afq];unfold Ru xJ aA Lb;simp only[aX,av,au,aq,Za,ax (show(at':Int)>=0 by omega),ax (show(k:Int)>=0 by omega),ae];by_cases h1:k<=len
 .rw[ax (show(k:Int)<=(len:Int) by omega),ae]
  rw[Zc,Zd];by_cases h2:at'+k<=len
  .rw[ax h2,ax (by omega)]
  grind
 .rw[aF (show ¬(k:Int)<=(len:Int) by omega),af]
  rw[Zd,aF (by omega)]
def ok_eq {x:Option (Out β×St)} {o:Out β×St} (h:Ok (λp=>p=o) x):x=some o:=by
 obtain⟨_,e,rfl⟩:=h;exact e
def Zyv (l:aj) (c:UInt8):ez (l++[c])=ez l+256^l.length*c.toNat:=by
 rw[ZuM];simp[ez]
def ZAq {x c:Nat} (hx:x<2^k):x|||(c*2^k)=x+c*2^k:=by
 rw[Nat.or_comm,Da,<-Nat.two_pow_add_eq_or_of_lt hx,tk]
def Zwd (k:Nat):256^k=2^(8*k):=by rw[Nat.pow_mul]
def xz (n:Nat) (a:ai) (l:aj) (st:St) (ha:dc st a l) (hl:l.length<=8:=by omega) (hn:12<=n:=by omega):
  run Bd n 285 [.slice 1 a l.length] st=some (.val [.int .u64 (ez l)],st):=by
 obtain⟨n,rfl⟩: ∃m,n=m+1:=⟨n-1,by omega⟩;rw[Ze,h.aaZ];unfold LU bV BP zT mP kZ ZC;simp only[aX,aq];have hif:(if (8:Int)<(l.length:Int)then(8:Int)else(l.length:Int))=(l.length:Int):=bj (by omega);simp only[hif];rw[Zb (by simp),Za];refine ok_eq ?_;refine Zi _ (λq y s=>∃k:Nat,y=[.int .u64 (ez (l.take k)),.int .i64 k]/\s=st/\k<=l.length/\l.length-k<=q) ?_ l.length n _ _ ⟨0,by simp[ez],rfl,cz _,by omega⟩ (by omega);rintro q _ s ⟨k,rfl,rfl,hk,hq⟩ rec aN;simp only[av,aq,bp];by_cases aw:k<l.length
 .rw[ax (show(k:Int)<(l.length:Int) by omega),ae]
  obtain⟨i,o,rfl⟩:=ha.cH (by omega);obtain⟨c,hc⟩: ∃c,l[k]? =some c:=by simp_all
  rw[bd,Zb (Zj aw),ha.dJ hc];simp only[bg];rw[Zc,Zb (ax (by omega)),Zc];have Jz:=c.toNat_lt;have e1:(8*(k:Int)).toNat=8*k:=by omega
  have hp:c.toNat*2^(8*k)<18446744073709551616:=by
   have h1:c.toNat*2^(8*k)<2^8*2^(8*k):=Nat.mul_lt_mul_of_pos_right (by omega) (Nat.two_pow_pos _);have h2:2^8*2^(8*k)<=2^64:=by rw[<-Nat.pow_add];exact nT (by decide) (by omega)
   omega
  rw[e1,nS (by omega),qP];have e2:((c.toNat:Int)*2^(8*k))=((c.toNat*2^(8*k):Nat):Int):=by push_cast;rfl
  rw[e2,qP hp];have JR:ez (l.take k)<2^(8*k):=by
   have:=F4 (l.take k);rwa [cX,nS (by omega),Zwd]at this
  have aht:ez (l.take k)<18446744073709551616:=mG JR (by
   have:2^(8*k)<=2^64:=nT (by decide) (by omega);omega)
  rw[acv aht hp,ZAq JR];refine aN (l.length-(k+1)) _ _ (by omega) ⟨k+1,?_,rfl,by omega,aQ _⟩;have e3:l.take (k+1)=l.take k++[c]:=by
   rw[Ln,hc];rfl
  rw[e3,Zyv,cX,nS (by omega),Zwd,Da];simp
 .rw[aF (show ¬(k:Int)<(l.length:Int) by omega),af]
  rw[Zd,dG (by omega)];exact .mk rfl
def rd (l:aj) (at' k:Nat):Nat:=ez ((l.drop at').take k)
def Pq (l:aj) (at' k:Nat):rd l at' k<256^k:=by
 have:=F4 ((l.drop at').take k);refine mG this (nT (by decide) ?_);rw[cX];omega
def ZE (l:aj):Bool:=l.all (· ==0)
def Dm (n:Nat) (a:ai) (l:aj) (at' k:Nat) (st:St) (ha:dc st a l) (hl:l.length<1000000:=by omega) (hk:at'+k<=l.length:=by omega) (hn:k+5<=n:=by omega):
  run Bd n 238 [.slice 1 a l.length,.int .i64 at',.int .i64 k] st=some (.val [.bool (ZE ((l.drop at').take k))],st):=by
 obtain⟨n,rfl⟩: ∃m,n=m+2:=⟨n-2,by omega⟩;rw[Ze,h.ae5];unfold QA xJ bq Q_ cM mP Z7 Lb Li;simp only[aX,av,aq];rw[Zk (ZkG n a l.length at' k st hl)];simp only[au,aq];rw[ax hk,br,af,Zc];have e1:((at':Int)+(k:Int)).toNat=at'+k:=by omega
 simp only[e1];rw[Zb (by simp;omega),Zb (by simp;omega),Za];simp only[bp,cR,show at'+k-at'=k by omega];refine ok_eq ?_;have hb:=ha.cU (k:=at') (by omega);generalize hm:l.drop at'=m at hb;have JW:k<=m.length:=by rw[<-hm,fa];omega
 refine Zi _ (λq y s=>∃j:Nat,y=[.int .i64 j]/\s=st/\j<=k/\k-j<=q/\ZE (m.take j)=true) ?_ k (n+1) _ _ ⟨0,rfl,rfl,cz _,by omega,rfl⟩ (by omega);rintro q _ s ⟨j,rfl,rfl,hj,hq,hz⟩ rec aN;simp only[av,aq];by_cases aw:j<k
 .rw[ax (show(j:Int)<(k:Int) by omega),ae]
  obtain⟨i,o,hio⟩:=hb.cH (by omega);rw[hio]at hb⊢;obtain⟨c,hc⟩: ∃c,m[j]? =some c:=⟨_,cq (by omega)⟩;rw[bd,Zb (Zj aw),bp,hb.get hc];simp only[bg];by_cases h0:c=0
  .subst h0
   rw[show(!((((0:UInt8).toNat:Nat):Int)==0))=false from rfl,af,Zc];refine aN (k-(j+1)) _ _ (by omega) ⟨j+1,by simp,rfl,by omega,aQ _,?_⟩;have e3:m.take (j+1)=m.take j++[0]:=by rw[Ln,hc];rfl
   rw[e3];simp[ZE]at hz⊢;exact hz
  .have N5:c.toNat≠0:=λe=>h0 (HF.1 e)
   have e2:(!((c.toNat:Int)==0))=true:=by
    rw[lD];grind
   rw[e2,ae,Zd];refine .mk ?_;have:ZE (m.take k)=false:=by
    cases e:ZE (m.take k)with
    |false=>rfl
    |true=>
     unfold ZE at e;rw[vR]at e;have:=e c (ur (i:=j) (by rw[xo,bE aw];exact hc));grind
   rw[this]
 .rw[aF (show ¬(j:Int)<(k:Int) by omega),af]
  simp only[Zd];have:j=k:=by omega
  subst this;rw[hz];exact .mk rfl
def Zs4 (n:Nat) (a:ai) (l:aj) (at' k:Nat) (st:St) (ha:dc st a l) (hl:l.length<1000000) (h1:1<=k) (h8:k<=8) (hk:at'+k<=l.length) (hn:20<=n):
  run Bd n 312 [.slice 1 a l.length,.int .i64 at',.int .i64 k] st=some (.val [.int .u64 (rd l at' k),.bool true],st):=by
 obtain⟨n,rfl⟩: ∃m,n=m+2:=⟨n-2,by omega⟩;rw[Ze,h.af1];unfold S9 xJ aA uP bq aZ Lb Z7;simp only[aX,av,aq,Za,aF (show ¬(k:Int)<1 by omega),aF (show ¬(k:Int)>8 by omega),af,au];rw[Zk (ZkG n a l.length at' k st hl)];simp only[au,aq];rw[ax hk,br,af,Zc];have e1:((at':Int)+(k:Int)).toNat=at'+k:=by omega
 simp only[e1];rw[Zb (by simp;omega),Zb (by simp;omega)];simp only[bp,cR,show at'+k-at'=k by omega];have hb:=(ha.cU (k:=at') (by omega)).lA k;have hlen:((l.drop at').take k).length=k:=by rw[cX,fa];omega
 have hr:=xz (n+1) _ _ st hb;rw[hlen]at hr;rw[Zk hr];rfl
def yZ (x:Nat):ah:=(List.range 16).map λi=> .int .u32 (if i<x then(ZO 4 i:Nat)else 0)
def Hn:ah:=yZ 16
def ZxN: ∀x,x<16->cE (yZ x) (x*1) [.int .u32 (ZO 4 x:Nat)]=yZ (x+1)
 |0,_=>rfl|1,_=>rfl|2,_=>rfl|3,_=>rfl|4,_=>rfl|5,_=>rfl|6,_=>rfl|7,_=>rfl
 |8,_=>rfl|9,_=>rfl|10,_=>rfl|11,_=>rfl|12,_=>rfl|13,_=>rfl|14,_=>rfl|15,_=>rfl
 |n+16,h=>by omega
def Zsz (h:j<16):Hn[j]? =some (.int .u32 (ZO 4 j:Nat)):=by
 grind[Hn,yZ]
def MR (x:Nat):(yZ x).length=16:=by unfold yZ;simp
def Zub (n:Nat) (x:Nat) (hx:x<4294967296) (st:St):run Bd (n+1) 320 [.int .u32 x] st=some (.val [.int .u32 (oC x)],st):=by
 rw[Ze,h.af8];unfold T3 kY oC;simp only[av,aq];have ha:bits .and .u32 (x:Int) 1=((x%2:Nat):Int):=by
  have:=aaB hx (show 2^1-1<4294967296 by decide);rw[PQ]at this;exact this
 rw[ha,show((2:Int)^1)=((2:Nat):Int)from rfl,tz];have h2:x/2<4294967296:=by omega
 rcases PR x with e|e
 .rw[e,show(((0:Nat):Int)==1)=false from rfl,af,bj (by omega),Zd]
 .rw[e,show(((1:Nat):Int)==1)=true from rfl,ae,bE rfl]
  rw[show(2197175160:Int)=((2197175160:Nat):Int)from rfl,EU h2,Zd]
def LV: ∀(n x:Nat),ZO (n+1) x=oC (ZO n x)
 |0,_=>rfl
 |n+1,x=>by rw[ZO,LV n,ZO]
def ZsO (n:Nat) (hn:30<=n) (st:St):run Bd n 317 [] st=some (.val [.agg Hn],st):=by
 obtain⟨n,rfl⟩: ∃m,n=m+2:=⟨n-2,by omega⟩;rw[Ze,h.af5];unfold SR cP xV xH uO kY pU;simp only[aq,Za];refine ok_eq ?_;refine Zi _ (λq y s=>∃x:Nat,y=[.agg (yZ x),.int .i64 x]/\s=st/\x<=16/\16-x<=q) ?_ 16 (n+1) _ _ ⟨0,rfl,rfl,by omega,by omega⟩ (by omega);rintro q _ s ⟨x,rfl,rfl,hx,hq⟩ rec aN;simp only[cT,av,aq,bI (MR x)];by_cases aw:x<16
 .rw[ax (show(x:Int)<16 by omega),ae]
  rw[BR];refine Zi _ (λq y s'=>∃j:Nat,y=[.int .u32 (ZO j x),.int .i64 j]/\s'=s/\j<=4/\4-j<=q) ?_ 4 (n+1) _ _ ⟨0,rfl,rfl,by omega,by omega⟩ (by omega);rintro q' _ s' ⟨j,rfl,rfl,hj,sL⟩ dw j3;simp only[av,aq];by_cases Of:j<4
  .rw[ax (show(j:Int)<4 by omega),ae]
   rw[Zk (Zub n (ZO j x) (Ig j (by omega)) s')];simp only[av,aq];rw[Zc];exact j3 (4-(j+1)) _ _ (by omega) ⟨j+1,by rw[LV];simp,rfl,by omega,aQ _⟩
  .rw[aF (show ¬(j:Int)<4 by omega),af]
   have:j=4:=by omega
   subst this;rw[Zb (by rw[Zj aw]),bp,Zb (by simp;omega),ZxN x aw];simp only[bI (MR (x+1))];rw[Zc];exact aN (16-(x+1)) _ _ (by omega) (by grind)
 .rw[aF (show ¬(x:Int)<16 by omega),af,Zd]
  have:x=16:=by omega
  subst this;exact .mk rfl
def Zo1 (n x ti:Nat) (a:ai) (l:aj) (st:St) (ht:Sl st (some (ti,0)) Hn) (ha:dc st a l) (hx:x<4294967296) (hl:l.length<1000000) (hn:l.length+3<=n):
  run Bd n 318 [.ptr (some (ti,0)),.int .u32 x,.slice 1 a l.length] st=some (.val [.int .u32 (l.foldl sU x:Nat)],st):=by
 obtain⟨n,rfl⟩: ∃m,n=m+1:=⟨n-1,by omega⟩;rw[Ze,h.af6];unfold Q4 bV xV xH N_ mP kY pU;simp only[eH,av,aX,aq,Za];refine ok_eq ?_;refine Zi _ (λq y s=>∃k:Nat,y=[.int .u32 ((l.take k).foldl sU x:Nat),.int .i64 k]/\s=st/\k<=l.length/\l.length-k<=q) ?_ l.length n _ _ (by grind) (by omega);rintro q _ s ⟨k,rfl,rfl,hk,hq⟩ rec aN;simp only[av,aq];by_cases aw:k<l.length
 .rw[ax (show(k:Int)<(l.length:Int) by omega),ae]
  obtain⟨i,o,rfl⟩:=ha.cH (by omega);obtain⟨c,hc⟩: ∃c,l[k]? =some c:=⟨_,cq aw⟩;rw[bd,Zb (Zj aw),bp,ha.dJ hc];simp only[bg];have Jz:=c.toNat_lt;have hy:(l.take k).foldl sU x<4294967296:=IS _ hx;have e3:(l.take (k+1)).foldl sU x=sU ((l.take k).foldl sU x) c:=by
   have:l.take (k+1)=l.take k++[c]:=by rw[Ln,hc];rfl
   rw[this,zn];rfl
  generalize (l.take k).foldl sU x=y at hy e3;have hz:y^^^c.toNat<4294967296:=HD (n:=32) hy (by omega);rw[BR,EU hy];rw[ZxR]at e3;generalize y^^^c.toNat=z at hz e3;have aaA: ∀z:Nat,z<4294967296->bits .and .u32 (z:Int) 15=((z%16:Nat):Int):=λz hz=>by
   have:=aaB hz (show 2^4-1<4294967296 by decide);rw[PQ]at this;exact this
  have f16: ∀z:Nat,Int.fdiv (z:Int) (2^4)=((z/16:Nat):Int):=λz=>tz z 16
  have m16:z%16<16:=Nat.mod_lt _ (by decide);have AV:ZO 4 (z%16)<4294967296:=Ig 4 (by omega);rw[aaA z hz,bd,Zb (Zj m16),bp,ht.dJ (Zsz m16)];simp only[bg];rw[f16,EU (by omega) AV];have hw:z/16^^^ZO 4 (z%16)<4294967296:=HD (n:=32) (by omega) AV;generalize z/16^^^ZO 4 (z%16)=w at hw e3;have ach:w%16<16:=Nat.mod_lt _ (by decide);rw[aaA w hw,bd,Zb (Zj ach),bp,ht.dJ (Zsz ach)];simp only[bg];rw[f16,EU (by omega) (Ig 4 (by omega)),Zc];exact aN (l.length-(k+1)) _ _ (by omega) (by grind)
 .rw[aF (show ¬(k:Int)<(l.length:Int) by omega),af,Zd,dG (by omega)]
  exact .mk rfl
def Zrq (hl:ds.length=cs.length) (K:M β):dI s.length 0 ds K (s++[some ⟨false,cs⟩])=K (s++[some ⟨false,ds⟩]):=by
 unfold dI St.il;rw[lE (aQ _),Bi];simp only[kW];rw[gA (by omega),ae];have:cE cs 0 ds=ds:=by
  have key: ∀(cs ds:ah),ds.length=cs.length->ov cs ds=ds:=by
   intro cs;induction cs with
   |nil=>intro ds h;cases ds with|nil=>rfl|cons _ _=>simp at h
   |cons c cs ih=>intro ds h;cases ds with|nil=>simp at h|cons d ds=>rw[ov,ih ds (by simpa using h)]
  have e:cE cs 0 ds=ov cs ds:=by cases cs<;>rfl
  rw[e,key cs ds hl]
 rw[this];simp
def Zvt (n:Nat) (bs a:ai) (l:aj) (st:St) (vh:Sl st bs [.slice 1 a l.length]) (ha:dc st a l) (hl:l.length<1000000) (hn:l.length+40<=n):
  Ok (λo=>∃s',o=(.val [.int .u32 (wy l)],s')/\aB st s') (run Bd n 306 [.slice 1 bs 1] st):=by
 obtain⟨n,rfl⟩: ∃m,n=m+1:=⟨n-1,by omega⟩;rw[Ze,h.afV];unfold TX bV xV xH N_ uO kY pU;simp only[aX,aq];rw[Zk (ZsO n (by omega) st)];simp only[cT,aq,bI (MR 16),Hn];rw[Zz,Zrq (by rw[MR];rfl),Za];have hp:=aB.new st (some ⟨false,yZ 16⟩);have ht:Sl (st++[some ⟨false,yZ 16⟩]) (some (st.length,0)) Hn:=Nn st _;have W4:=vh.mono hp;have tQ:=ha.mono hp;generalize (st++[some ⟨false,yZ 16⟩])=s1 at hp ht W4 tQ;obtain⟨i,o,rfl⟩:=W4.cH (by simp);obtain⟨m,rfl⟩: ∃m,n=m+2:=⟨n-2,by omega⟩;rw[By];simp only[av,aq];rw[show decide ((0:Int)<((1:Nat):Int))=true from rfl,ae,bd,Zb (by rfl),show(0:Int).toNat=0 from rfl,W4.dJ (j:=0) rfl];simp only[j9];have hr:=Zo1 (m+2) 4294967295 st.length a l s1 ht tQ (by decide) hl (by omega);rw[show(4294967295:Int)=((4294967295:Nat):Int)from rfl,Zk hr];simp only[av,aq];rw[By];simp only[av,aq];rw[show decide (ar (0+1)<((1:Nat):Int))=false from rfl,af];rw[EU (IS l (by decide)) (by decide),Zy1 (IS l (by decide)),Zd];exact .mk ⟨s1,rfl,hp⟩
def ZtX (n x:Nat) (bs a:ai) (l:aj) (st:St) (vh:Sl st bs [.slice 1 a l.length]) (ha:dc st a l) (hl:l.length<1000000) (hn:l.length+41<=n):
  Ok (λo=>∃s',o=(.val [.bool (decide (wy l=x))],s')/\aB st s') (run Bd n 286 [.int .u32 x,.slice 1 bs 1] st):=by
 obtain⟨n,rfl⟩: ∃m,n=m+1:=⟨n-1,by omega⟩;rw[Ze,h.afG];unfold Tn bV uO aZ Lb;simp only[av,aX,aq];refine Ok.call (Zvt n bs a l st vh ha hl (by omega)) ?_;rintro _ ⟨s',rfl,hp⟩;refine⟨_,s',rfl,?_⟩;simp only[av,aq,Zd];refine .mk ⟨s',?_,hp⟩;congr 3;by_cases e:wy l=x
 .rw[ax e,e];simp
 .rw[aF e];exact congrArg _ (by grind)
def mJ (s:St) (a:ai) (l:aj):Prop:=Fz s a (bU l)
def mJ.sr {a:ai} (h:mJ s a l):dc s a l:=h.1
def mJ.kp {s s':St} {a:ai} {l:aj} (h:mJ s a l) (k:Kp s s'):mJ s' a l:=Fz.kp h k
def mJ.pre {a:ai} (h:mJ s a l) (k:aB s s'):mJ s' a l:=Fz.kp h k.kp
def mJ.cU {s:St} {a:ai} {l:aj} (h:mJ s a l) {k:Nat} (hk:k<=l.length):mJ s (cU true a k) (l.drop k):=by
 refine⟨h.sr.cU hk,λi o e=>?_⟩;cases a with
 |none=>cases e
 |some p=>cases e;exact h.2 _ _ rfl
def tE (l:aj):Bool:=decide (l.length=64)&&(!(l.getD 4 0==0)&&(ZE ((l.drop 6).take 2)&&decide (wy (l.drop 4)=ez (l.take 4))))
def fM (l:aj):Option (Nat×Nat×aj):=bif tE l then some ((l.getD 4 0).toNat,(l.getD 5 0).toNat,l.drop 8)else none
def getD_some {c:UInt8} (h:l[j]? =some c):l.getD j 0=c:=by rw[dW,h];rfl
def aja (c:UInt8):(!((c.toNat:Int)==0))= !(c==0):=by
 by_cases h:c=0
 .subst h;rfl
 .rw[eG.2 h,eG.2]
  intro e;exact h (HF.1 (by simpa using e))
def ZpK (n:Nat) (a:ai) (l:aj) (st:St) (ha:dc st a l) (hl:l.length<1000000) (hn:150<=n):
  Ok (λo=>∃s',o=(.val [.bool (tE l)],s')/\aB st s') (run Bd n 259 [.slice 1 a l.length] st):=by
 obtain⟨n,rfl⟩: ∃m,n=m+1:=⟨n-1,by omega⟩;rw[Ze,h.afo];unfold Sa bV aA DI bq mP Lb aZ Z7 tE;simp only[aX,aq,Za];by_cases qX:l.length=64
 .rw[show(((l.length:Nat):Int)==64)=true by rw[qX];rfl,ae,ax qX,dF]
  obtain⟨i,o,rfl⟩:=ha.cH (by omega);obtain⟨c,hc⟩: ∃c,l[4]? =some c:=by simp_all
  rw[bd,Zb (show aR 4 l.length=true from Zj (i:=4)),ha.get hc,getD_some hc];simp only[bg,au,aq];rw[aja];cases hz: !(c==0)with
  |false=>rw[af];simp only[af,Zd,gf];exact .mk ⟨st,rfl,.refl st⟩
  |true=>
   rw[ae,dF];have cA:=Dm n _ l 6 2 st ha hl;rw[show(6:Int)=((6:Nat):Int)from rfl,show(2:Int)=((2:Nat):Int)from rfl,Zk cA];simp only[au,aq];cases ZE ((l.drop 6).take 2)with
   |false=>simp only[af,Zd,gf];exact .mk ⟨st,rfl,.refl st⟩
   |true=>
    rw[ae,dF,Zb (ax (by omega))];have Ev:(l.take 4).length=4:=by rw[cX];omega
    have hr:=xz n _ (l.take 4) st (ha.lA 4);rw[Ev]at hr;rw[qF hr (.refl st)];simp only[av,aq];rw[Zb (ax (by omega)),Zz];have hp:=aB.new st (some ⟨false,[DV.slice 1 (cU true (some (i,o)) 4) (l.length-4)]⟩);have hs:=Nn st [DV.slice 1 (cU true (some (i,o)) 4) (l.length-4)];generalize (st++[some ⟨false,[DV.slice 1 (cU true (some (i,o)) 4) (l.length-4)]⟩])=s1 at hp hs;have aw:ez (l.take 4)<4294967296:=by have:=F4 (l.take 4);rw[Ev]at this;exact this
    rw[BR aw];have W6:(l.drop 4).length=l.length-4:=fa;rw[<-W6]at hs;refine Ok.cv (ZtX n (ez (l.take 4)) _ _ (l.drop 4) s1 hs ((ha.mono hp).cU (by omega)) (by omega) (by omega)) λs2 aU=>?_
    simp only[au,aq,Zd];exact .mk ⟨s2,rfl,hp.trans aU⟩
 .rw[show(((l.length:Nat):Int)==64)=false from eG.2 (by omega),af,aF qX]
  simp only[au,aq,af,Zd,gf];exact .mk ⟨st,rfl,.refl st⟩
def Zqy (n:Nat) (a:ai) (l:aj) (st:St) (ha:dc st a l) (h0:0<l.length) (hl:l.length<1000000):
  Ok (λo=>∃p s',o=(.val [.slice 1 p l.length],s')/\aB st s'/\mJ s' p l) (run Bd (n+1) 260 [.slice 1 a l.length] st):=by
 rw[Ze,h.afp];unfold Rq bV aZ;simp only[aX,aq];rw[ZL];obtain⟨i,o,rfl⟩:=ha.cH h0;rw[show((some (i,o):ai).isNone)=false from rfl,af,Zz];have hp:=aB.new st (some ⟨false,[]⟩);have ho:bm st (st++[some ⟨false,[]⟩]) (some (st.length,0)) []:=⟨hp,(by simp)⟩;have tQ:=ha.mono hp;generalize (st++[some ⟨false,[]⟩])=s1 at hp ho tQ;rw[cR,<-Zu l,iR tQ];obtain⟨p,s2,du,he⟩:=ho.app (β:=ah) (sz:=1) (n:=0) (m:=l.length) (lim:=70368744177664) (ds:=bU l) (by omega) (by simp) h0 (by omega);rw[Zu,he,Zp];rw[jG]at du;exact .mk ⟨p,_,by rw[eW],Zr du.1,du.fz⟩
def Dp (n:Nat) (a:ai) (l:aj) (st:St) (ha:dc st a l) (hl:l.length<1000000) (hn:152<=n:=by omega):
  Ok (λo=>∃s',aB st s'/\match fM l with
   |none=>o=(.val [.int .i64 0,.int .i64 0,.slice 0 none 0,.bool false],s')
   |some (k,t,b)=>∃p,o=(.val [.int .i64 (k:Nat),.int .i64 (t:Nat),.slice 1 p 56,.bool true],s')/\mJ s' p b/\b.length=56/\k<256/\t<256) (run Bd n 237 [.slice 1 a l.length] st):=by
 obtain⟨n,rfl⟩: ∃m,n=m+2:=⟨n-2,by omega⟩;rw[Ze,h.ae4];unfold Sv bV bq mP aZ fM;simp only[aX,aq];rw[ZL];refine Ok.cv (ZpK (n+1) a l st ha hl (by omega)) λs1 hp=>?_
 simp only[au,aq];cases hr:tE l with
 |false=>
  rw[bn,ae,Zp];simp only[af];exact .mk ⟨_,Zr hp,rfl⟩
 |true=>
  have qX:l.length=64:=by
   grind[tE]
  rw[br,af];simp only[ae];have tQ:=ha.mono hp;obtain⟨i,o,rfl⟩:=tQ.cH (by omega);obtain⟨c4,hc4⟩: ∃c,l[4]? =some c:=by simp_all
  obtain⟨c5,hc5⟩: ∃c,l[5]? =some c:=by grind
  rw[bd,Zb (show aR 4 l.length=true from Zj (i:=4)),tQ.get hc4];simp only[bg];rw[bd,Zb (show aR 5 l.length=true from Zj (i:=5)),tQ.get hc5];simp only[bg];rw[Zb (ax (by omega))];have hb:=tQ.cU (k:=8) (by omega);have hd:(l.drop 8).length=l.length-8:=fa;have cN:=Zqy n _ (l.drop 8) s1 hb (by omega) (by omega);rw[hd]at cN;obtain⟨_,e,p,s2,rfl,aU,hf⟩:=cN;rw[qF e aU];simp only[aX,aq,Zp];have h4:=c4.toNat_lt;have h5:=c5.toNat_lt;rw[getD_some hc4,getD_some hc5,Zc,Zc];refine .mk ⟨_,Zr (hp.trans aU),p,?_,hf.kp (ZAe _ _),by omega,h4,h5⟩;rw[qX]
structure jK where
 bJ:bh
 kids:ak
def oA (x:jK) (z:Nat) (p:ai):ah:=fk x.bJ++[.slice z p x.kids.length]
def bN (l:aj) (at' k:Nat):Int:=ar ((rd l at' k:Nat):Int)
def EE (k:Int):Bool:=decide (k<2)||decide (k>=3072)
def oR (x:jK):Bool:= !(decide (x.bJ.slot<0)||(decide (x.bJ.slot>=1792)||(decide (x.bJ.gen<1)||(decide (x.bJ.gen>4294967295)||decide ((x.kids.length:Int)>12)))))&& !x.kids.any EE
def oS (b:aj) (t:Nat):ak:=(List.range t).map λj=>bN b (24+2*j) 2
def Dr (b:aj) (t:Nat):(oS b t).length=t:=by unfold oS;simp
def Znu (b:aj) (t:Nat):oS b (t+1)=oS b t++[bN b (24+2*t) 2]:=by simp[oS,qw,fA]
def lZ (b:aj) (t:Nat):jK:=⟨⟨bN b 16 4,bN b 20 4,bN b 0 8,bN b 8 8⟩,oS b t⟩
def iY (l:aj):Option jK:=match fM l with
 |none=>none
 |some (k,t,b)=>bif decide (k=1)&&decide (t<=12)then(bif oR (lZ b t)&&ZE (b.drop (24+2*t))then some (lZ b t)else none)else none
def HQ (n:Nat) (a:ai) (l:aj) (at' k:Nat) (I K:Int) (hI:I=at') (hK:K=k) (st:St) (ha:dc st a l) (hl:l.length<1000000:=by omega) (h1:1<=k:=by omega) (h8:k<=8:=by omega) (hk:at'+k<=l.length:=by omega) (hn:21<=n:=by omega):
  run Bd n 295 [.slice 1 a l.length,.int .i64 I,.int .i64 K] st=some (.val [.int .i64 (bN l at' k)],st):=by
 subst hI hK;obtain⟨n,rfl⟩: ∃m,n=m+1:=⟨n-1,by omega⟩;rw[Ze,h.afP];unfold RM xJ jg Z7 Li;simp only[aX,av,aq];rw[Zk (Zs4 n a l at' k st ha hl h1 h8 hk (by omega))];rfl
def ZoS (n:Nat) (k:Int) (st:St):run Bd (n+1) 313 [.int .i64 k] st=some (.val [.bool (EE k)],st):=by
 rw[Ze,h.af2];unfold Q3 cP aA Lb EE;simp only[av,aq,Za,au];cases decide (k<2)<;>simp only[ae,af,Zd,Bool.true_or,vP]
def ZrY (n:Nat) (x:jK) (p:ai) (st:St) (hs:Sl st p (ints x.kids)) (hl:x.kids.length<1000000) (hn:x.kids.length+20<=n):
  run Bd n 296 [.agg (oA x 1 p)] st=some (.val [.bool (oR x)],st):=by
 obtain⟨n,rfl⟩: ∃m,n=m+1:=⟨n-1,by omega⟩;rw[Ze,h.afQ];have N6:=Zqc n 1 313 [] [] x.kids p st EE (.inl rfl) hs (by omega) hl (λv _=>by
  obtain⟨m,hm⟩: ∃m,n-2=m+1:=⟨n-3,by omega⟩;rw[hm];exact ZoS m v st)
 unfold SJ Fm aA bq Lb oA fk oR;simp only[nP,jG,cT,av,aX,aq,Za];cases decide (x.bJ.slot<0)with
 |true=>rfl
 |false=>
 cases decide (x.bJ.slot>=1792)with
 |true=>rfl
 |false=>
 cases decide (x.bJ.gen<1)with
 |true=>rfl
 |false=>
 cases decide (x.bJ.gen>4294967295)with
 |true=>rfl
 |false=>
 cases decide ((x.kids.length:Int)>12)with
 |true=>rfl
 |false=>
  simp only[af,au,aq,vP,bn,dF];rw[Zk N6];rfl
def Mx {x:jK} (h:iY l=some x):oR x=true/\x.kids.length<=12:=by
 unfold iY at h;split at h
 .cases h
 .rename_i k t b _
  cases e:(decide (k=1)&&decide (t<=12))with
  |false=>rw[e]at h;cases h
  |true=>
   rw[e]at h;cases e2:(oR (lZ b t)&&ZE (b.drop (24+2*t)))with
   |false=>rw[e2]at h;cases h
   |true=>
    rw[e2]at h;cases h;rw[aY]at e e2;refine⟨e2.1,?_⟩;show(oS b t).length<=12;rw[Dr];grind
def Zt6 (n:Nat) (a:ai) (l:aj) (st:St) (ha:dc st a l) (hl:l.length<1000000) (hn:160<=n):
  Ok (λo=>∃s',aB st s'/\match iY l with
   |none=>o=(.val [.agg [.int .i64 0,.int .i64 0,.int .i64 0,.int .i64 0,.slice 0 none 0],.bool false],s')
   |some x=>∃p,o=(.val [.agg (oA x 1 p),.bool true],s')/\Fz s' p (ints x.kids)) (run Bd n 272 [.slice 1 a l.length] st):=by
 obtain⟨n,rfl⟩: ∃m,n=m+1:=⟨n-1,by omega⟩;rw[Ze,h.afB];unfold Tu bV sf aA cw Fw bq FE lW aZ Bt Z7 xG FC Lb Li Fo FD iY;simp only[aX,aq,Za];rw[ZL];refine Ok.call (Dp n a l st ha hl) ?_;rintro _ ⟨s1,aH,ho⟩;cases eC:fM l with
 |none=>
  rw[eC]at ho;subst ho;refine⟨_,s1,rfl,?_⟩;simp only[av,au,aq,Zg 1 0 none _ (.inr rfl)];rw[bn,ae];simp only[ae];rw[Zp];exact .mk ⟨_,Zr aH,rfl⟩
 |some q=>
  obtain⟨k,t,b⟩:=q;rw[eC]at ho;obtain⟨p1,rfl,hf,hb,hk,ht⟩:=ho;refine⟨_,s1,rfl,?_⟩;simp only[av,au,aX,aq];rw[br,af];have e1:(((k:Nat):Int)==1)=decide (k=1):=by
   by_cases kf:k=1
   .subst kf;rfl
   grind
  rw[e1];cases kf:decide (k=1)with
  |false=>
   rw[bn];simp only[ae,gf,af];rw[Zp];exact .mk ⟨_,Zr aH,rfl⟩
  |true=>
  rw[br];simp only[af,dF];by_cases kO:t<=12
  .rw[aF (show ¬((t:Nat):Int)>12 by omega),ax kO]
   simp only[af,ae];have dR:=hf.sr;rw[show(56:Nat)=b.length from hb.symm];rw[Zk (HQ n p1 b 16 4 16 4 rfl rfl s1 dR)];simp only[av,aq];rw[Zk (HQ n p1 b 20 4 20 4 rfl rfl s1 dR)];simp only[av,aq];rw[Zk (HQ n p1 b 0 8 0 8 rfl rfl s1 dR)];simp only[av,aq];rw[Zk (HQ n p1 b 8 8 8 8 rfl rfl s1 dR)];simp only[av,aq];refine Zi _ (λq y s=>∃(i z:Nat) (p:ai),y=[.agg [.int .i64 (bN b 16 4),.int .i64 (bN b 20 4),.int .i64 (bN b 0 8),.int .i64 (bN b 8 8),.slice z p i],.int .i64 i]/\(z=1\/p=none)/\i<=t/\t-i<=q/\bm st s p (ints (oS b i))/\mJ s p1 b) ?_ t n _ _ ⟨0,0,none,rfl,.inr rfl,cz _,by omega,bm.nil aH,hf⟩ (by omega);rintro q _ s ⟨i,z,p,rfl,hz,hi,hq,ho,GD⟩ rec aN;simp only[cT,av,Zg 1 z p _ hz,aq];by_cases aw:i<t
   .rw[ax (show(i:Int)<(t:Int) by omega),ae,Zc (x:=2*(i:Int)),Zc,show(24+2*(i:Int))=((24+2*i:Nat):Int) by omega]
    rw[vZ (HQ n p1 b (24+2*i) 2 _ 2 rfl rfl s GD.sr)];simp only[av,aq];obtain⟨p2,s2,du,ri,he⟩:=ho.CP (β:=ah) (sz:=1) (n:=i) (lim:=8796093022208) [.int .i64 (bN b (24+2*i) 2)] (xp 0) (by simp[ints,Dr]) rfl (by omega);rw[he,Zc];refine aN (t-(i+1)) _ _ (by omega) ⟨i+1,1,p2,by simp,.inl rfl,by omega,aQ _,?_,GD.kp ri⟩;rw[Znu];show bm st s2 p2 (List.map _ _);rw[fA];exact du
   .rw[aF (show ¬(i:Int)<(t:Int) by omega),af]
    have AA:i=t:=by omega
    subst AA;have hr:=ZrY n (lZ b i) p s ho.sl (by show(oS b i).length<_;rw[Dr];omega) (by show(oS b i).length+_<=_;rw[Dr];omega);have hc:oA (lZ b i) 1 p=[.int .i64 (bN b 16 4),.int .i64 (bN b 20 4),.int .i64 (bN b 0 8),.int .i64 (bN b 8 8),.slice 1 p i]:=by
     show fk _++[DV.slice 1 p (oS b i).length]=_;rw[Dr];rfl
    simp only[aX,aq];rw[<-hc,Zk hr];simp only[au,aq];cases hrn:oR (lZ b i)with
    |false=>
     rw[bn,ae];simp only[gf,af];rw[Zp];exact .mk ⟨_,Zr ho.1,rfl⟩
    |true=>
     rw[br,af,Zc (x:=2*(i:Int)),Zc (x:=24+2*(i:Int)),Zc];rw[show(24+2*(i:Int))=((24+2*i:Nat):Int) by omega,show((b.length:Nat):Int)-((24+2*i:Nat):Int)=((b.length-(24+2*i):Nat):Int) by omega];rw[Zk (Dm n p1 b (24+2*i) (b.length-(24+2*i)) s GD.sr)];rw[dG (by rw[fa];exact aQ _)];simp only[au,aq,dF];cases ZE (b.drop (24+2*i))with
     |false=>
      simp only[bn,ae,af];rw[Zp];exact .mk ⟨_,Zr ho.1,rfl⟩
     |true=>
      simp only[br,ae,af];rw[Zp];exact .mk ⟨_,Zr ho.1,p,rfl,ho.fz⟩
  .rw[ax (show((t:Nat):Int)>12 by omega),aF kO]
   simp only[af,ae];rw[Zp];exact .mk ⟨_,Zr aH,rfl⟩
def Ztd: ∀(B D C:ah),B.length=D.length->ov (B++C) D=D++C
 |[],[],C,_=>by simp[Zxz]
 |b::B,d::D,C,h=>by show d::ov (B++C) D=_;rw[Ztd B D C (by simpa using h)];rfl
 |[],_::_,_,h=>by cases h
 |_::_,[],_,h=>by cases h
def tw: ∀(A B C D:ah),B.length=D.length->cE (A++(B++C)) A.length D=A++(D++C)
 |[],B,C,D,h=>by
  show cE (B++C) 0 D=D++C;rw[<-Ztd B D C h];cases B++C<;>rfl
 |a::A,B,C,D,h=>by show a::cE (A++(B++C)) A.length D=_;rw[tw A B C D h];rfl
def eE (t j:Nat):Bool:=decide (t/2^j%2=1)
def ZxE (ht:t<9223372036854775808) (hj:j<=63):bits .and .i64 ((t:Int).fdiv (2^(min j 64))) 1=((t/2^j%2:Nat):Int):=by
 rw[nS (by omega),show((2:Int)^j)=((2^j:Nat):Int) by push_cast;rfl,tz];have h1:t/2^j<9223372036854775808:=C9 (E9 _ _) ht;show IntKind.wrap .i64 ((BitVec.ofInt 64 ((t/2^j:Nat):Int)&&& BitVec.ofInt 64 (1:Int)).toNat:Int)=_;rw[Ld,Gb,show(BitVec.ofInt 64 (1:Int)).toNat=1 from rfl,Nat.and_one_is_mod];exact Zc
def ZuG (ht:t<9223372036854775808:=by omega) (hj:j<=63:=by omega):(bits .and .i64 ((t:Int).fdiv (2^(min j 64))) 1==1)=eE t j:=by
 rw[ZxE ht hj];grind[eE]
def ZxU (ht:t<9223372036854775808) (hj:j<=63):(bits .and .i64 ((t:Int).fdiv (2^(min j 64))) 1==0)= !eE t j:=by
 rw[ZxE ht hj];grind[eE]
structure bw where
 live:Bool
 gen:Int
 block:Int
def eL (x:bw):ah:=[.bool x.live,.int .i64 x.gen,.int .i64 x.block]
def bT (l:List bw):ah:=(l.map eL).flatten
def ZB (l:List bw):(bT l).length=l.length*3:=by
 unfold bT;induction l with
 |nil=>rfl
 |cons e l ih=>rw[oG,C6,bB,ih,cO];show 3+_=_;omega
def Iv (l m:List bw):bT (l++m)=bT l++bT m:=by simp[bT]
def gT:bw:=⟨false,0,0⟩
def nG:List bw:=List.replicate 7 gT
def lg (v f t:Int):Bool:=bif decide (v>=f)then decide (v<=t)else false
def ZK (x:bw):Bool:=bif x.live then lg x.gen 1 4294967295&&lg x.block 2 3071 else lg x.gen 0 4294967295&&(lg x.block 0 1792&&(decide (x.gen>0)||x.block==0))
def wo (b:aj) (t j:Nat):bw:=⟨eE t j,bN b (8*j) 4,bN b (8*j+4) 4⟩
def ZR (b:aj) (t n:Nat):List bw:=(List.range n).map (wo b t)
def Bz (b:aj) (t n:Nat):(ZR b t n).length=n:=by unfold ZR;simp
def HX (b:aj) (t n:Nat):ZR b t (n+1)=ZR b t n++[wo b t n]:=by simp[ZR,qw,fA]
def ZM (l:aj):Option (List bw):=match fM l with
 |none=>none
 |some (k,t,b)=>bif decide (k=2)&&decide (t<128)then(bif (ZR b t 7).all ZK then some (ZR b t 7)else none)else none
def HW (n:Nat) (v f t:Int) (st:St):run Bd (n+1) 314 [.int .i64 v,.int .i64 f,.int .i64 t] st=some (.val [.bool (lg v f t)],st):=by
 rw[Ze,h.af3];unfold RV Zip aA Lb lg;simp only[av,aq,Za,au];cases decide (v>=f)<;>rfl
def Znf (n:Nat) (x:bw) (st:St):run Bd (n+2) 297 [.agg (eL x)] st=some (.val [.bool (ZK x)],st):=by
 rw[Ze,h.afR];unfold QI qI bq aA zF Lb eL ZK;simp only[cT,av,au,aq,Za];cases x.live with
 |true=>
  rw[ae,ae,Zk (HW n _ _ _ st)];simp only[au,aq];cases lg x.gen 1 4294967295 with
  |false=>rfl
  |true=>
   rw[ae,Zk (HW n _ _ _ st)];rfl
 |false=>
  rw[af,af,Zk (HW n _ _ _ st)];simp only[au,aq];cases lg x.gen 0 4294967295 with
  |false=>rfl
  |true=>
   rw[ae,Zk (HW n _ _ _ st)];simp only[au,aq,dF];cases lg x.block 0 1792 with
   |false=>rfl
   |true=>
    cases decide (x.gen>0)<;>rfl
def nn (k c:Nat) (C:Int) (hC:C=c:=by omega):(((k:Nat):Int)==C)=decide (k=c):=by
 grind
def Zph (n:Nat) (a:ai) (l:aj) (st:St) (ha:dc st a l) (hl:l.length<1000000) (hn:160<=n):
  Ok (λo=>∃s',aB st s'/\match ZM l with
   |none=>o=(.val [.agg (bT nG),.bool false],s')
   |some x=>o=(.val [.agg (bT x),.bool true],s')) (run Bd n 273 [.slice 1 a l.length] st):=by
 obtain⟨n,rfl⟩: ∃m,n=m+1:=⟨n-1,by omega⟩;rw[Ze,h.afC];unfold QZ bV sf aA cP DI bq aZ ZI rV Dn Lb ZM;simp only[aX,aq,Za];refine Ok.call (Dp n a l st ha hl) ?_;rintro _ ⟨s1,aH,ho⟩;cases eC:fM l with
 |none=>
  rw[eC]at ho;subst ho;refine⟨_,s1,rfl,?_⟩;simp only[av,au,aq,Zg 1 0 none _ (.inr rfl)];rw[bn,ae];simp only[ae,Zd];exact .mk ⟨_,aH,rfl⟩
 |some q=>
  obtain⟨k,t,b⟩:=q;rw[eC]at ho;obtain⟨p1,rfl,hf,hb,hk,ht⟩:=ho;refine⟨_,s1,rfl,?_⟩;simp only[av,au,aX,aq];rw[br,af,nn k 2 2 rfl];cases kf:decide (k=2)with
  |false=>
   rw[bn];simp only[ae,gf,af,Zd];exact .mk ⟨_,aH,rfl⟩
  |true=>
  rw[br];simp only[af,dF];by_cases kO:t<128
  .rw[aF (show ¬((t:Nat):Int)>=128 by omega),ax kO]
   simp only[af,ae];have dR:=hf.sr;refine Zi _ (λq y s=>∃i:Nat,y=[.agg (bT nG),.agg (bT (ZR b t i)++bT (List.replicate (7-i) gT)),.int .i64 i]/\i<=7/\7-i<=q/\s=s1/\(ZR b t i).all ZK=true) ?_ 7 n _ _ ⟨0,rfl,by omega,by omega,rfl,rfl⟩ (by omega);rintro q _ s ⟨i,rfl,hi,hq,rfl,dt⟩ rec aN;have hlen:(bT (ZR b t i)++bT (List.replicate (7-i) gT)).length=21:=by
    rw[bB,ZB,ZB,Bz,oF];omega
   simp only[cT,av,aq];rw[bI (cs:=bT nG) (n:=21) rfl,bI hlen];by_cases aw:i<7
   .have cG:ar ((i:Int)+1)=((i+1:Nat):Int):=Zc
    have fR:ar (8*((i+1:Nat):Int))=((8*(i+1):Nat):Int):=Zc;have jA:ar (8*(i:Int))=((8*i:Nat):Int):=Zc;simp only[cG,fR,jA,bp,cR];rw[ax (show(i:Int)<7 by omega),ae];rw[Zb (by rw[aY,bu,bu];omega),Zb (by rw[aY,bu,bu];omega),Zb (ax (by omega)),Zb (ax (by omega))];have iZ:=dR.cU (k:=8*i) (by omega);have tV:(b.drop (8*i)).length=56-8*i:=by rw[fa,hb]
    have Km:((b.drop (8*i)).take 4).length=4:=by rw[cX];omega
    have j1:=xz n _ ((b.drop (8*i)).take 4) s (iZ.lA 4);rw[Km]at j1;rw[qF j1 (.refl s)];simp only[av,aq];rw[Zb (ax (by omega)),show 8*(i+1)-8*i-4=4 by omega];have kJ:=iZ.cU (k:=4) (by omega);have ht3:(((b.drop (8*i)).drop 4).take 4).length=4:=by rw[cX,fa];omega
    have ik:=xz n _ (((b.drop (8*i)).drop 4).take 4) s (kJ.lA 4);rw[ht3]at ik;rw[qF ik (.refl s)];simp only[av,aq];rw[kV,ZuG];obtain⟨n,rfl⟩: ∃m,n=m+2:=⟨n-2,by omega⟩;have G3:=Znf n (wo b t i) s;have Et:eL (wo b t i)=[.bool (eE t i),.int .i64 (ar ((ez ((b.drop (8*i)).take 4):Nat):Int)),.int .i64 (ar ((ez ((b.drop (8*i+4)).take 4):Nat):Int))]:=rfl;rw[<-Et,Zk G3];simp only[au,aq];cases Es:ZK (wo b t i)with
    |false=>
     rw[bn,ae];have:(ZR b t 7).all ZK=false:=List.all_eq_false.2 ⟨wo b t i,pK.2 (by grind),by rw[Es];decide⟩;rw[this,af,Zd];exact .mk ⟨s,aH,rfl⟩
    |true=>
     rw[br,af,Zb (show aR (i:Int) 7=true from Zj aw),Zb (gA (by omega))];refine aN (7-(i+1)) _ _ (by omega) ⟨i+1,?_,by omega,aQ _,rfl,?_⟩
     .congr 3
      rw[HX,Iv,show List.replicate (7-i) gT=gT::List.replicate (7-(i+1)) gT by rw[show 7-i=(7-(i+1))+1 by omega];rfl];show cE (bT (ZR b t i)++(eL gT++bT (List.replicate (7-(i+1)) gT))) (i*3) (eL (wo b t i))=_;have e3:i*3=(bT (ZR b t i)).length:=by rw[ZB,Bz]
      rw[e3,tw (bT (ZR b t i)) (eL gT) (bT (List.replicate (7-(i+1)) gT)) (eL (wo b t i)) rfl,fI];rfl
     .rw[HX,tf,dt]
      simp[Es]
   .rw[aF (show ¬(i:Int)<7 by omega),af]
    have p8:i=7:=by omega
    subst p8;rw[bI (cs:=bT nG) (n:=21) rfl,bI hlen,bI hlen,dt,ae,Zd];refine .mk ⟨s,aH,?_⟩;show _=(Out.val [DV.agg (bT (ZR b t 7)),_],s);rw[show bT (List.replicate (7-7) gT)=[]from rfl,gz]
  .rw[ax (show((t:Nat):Int)>=128 by omega),aF kO]
   simp only[af,ae,Zd];exact .mk ⟨_,aH,rfl⟩
def BC (l:ak):Bool:=l.all λv=>v==0||lg v 2 3071
def dU (b:aj) (n:Nat):ak:=(List.range n).map λj=>bN b (2*j) 2
def nW (b:aj) (n:Nat):(dU b n).length=n:=by unfold dU;simp
def Mg (b:aj) (n:Nat):dU b (n+1)=dU b n++[bN b (2*n) 2]:=by simp[dU,qw,fA]
def iM (l:aj):Option (ak):=match fM l with
 |none=>none
 |some (k,t,b)=>bif decide (k=3)&&(decide (t=0)&&ZE (b.drop 32))then(bif BC (dU b 16)then some (dU b 16)else none)else none
def ZD {l:ak} (h:j<l.length:=by omega):(ints l)[j]? =some (.int .i64 l[j]):=by simp[ints,h]
def hJ (h:cs[i]? =some d) (K:DV->M β):eJ cs i K=K d:=by unfold eJ;rw[h]
def Zoc (n:Nat) (l:ak) (st:St) (hl:l.length=16) (hn:22<=n):run Bd n 298 [.agg (ints l)] st=some (.val [.bool (BC l)],st):=by
 obtain⟨n,rfl⟩: ∃m,n=m+2:=⟨n-2,by omega⟩;rw[Ze,h.afS];unfold QE Q_ cM aA bq Lb Li zF BC;have hlen:(ints l).length=16:=by simp[ints,hl]
 simp only[cT,aq,Za];rw[bI hlen,bI hlen];refine ok_eq ?_;refine Zi _ (λq y s=>∃i:Nat,y=[.int .i64 i]/\i<=16/\16-i<=q/\s=st/\(l.take i).all (λv=>v==0||lg v 2 3071)=true) ?_ 16 (n+1) _ _ (by grind) (by omega);rintro q _ s ⟨i,rfl,hi,hq,rfl,dt⟩ rec aN;simp only[av,aq];by_cases aw:i<16
 .rw[ax (show(i:Int)<16 by omega),ae,Zb (show aR (i:Int) 16=true from Zj aw),bp,cR,hJ (ZD)]
  simp only[bg];have hw:ar ((i:Int)+1)=((i+1:Nat):Int):=Zc;have aP:(l[i]==0||lg l[i] 2 3071)=true->Ok (λp=>p=(Out.val [DV.bool (l.all λv=>v==0||lg v 2 3071)],s)) (rec [.int .i64 (ar ((i:Int)+1))] s):=λe=>by
   rw[hw];refine aN (16-(i+1)) _ _ (by omega) ⟨i+1,rfl,by omega,aQ _,rfl,?_⟩;rw[lV (by omega),tf,dt];simpa using e
  have cA:(l[i]==0||lg l[i] 2 3071)=false->(l.all λv=>v==0||lg v 2 3071)=false:=by grind
  cases h0:(l[i]==0)with
  |true=>
   rw[br,af];simp_all
  |false=>
   rw[bn,ae,Zk (HW n _ _ _ s)];simp only[au,aq];cases fR:lg l[i] 2 3071 with
   |true=>
    rw[br,af];grind
   |false=>
    rw[bn,ae,Zd,cA (by rw[h0,fR];rfl)];exact .mk rfl
 .rw[aF (show ¬(i:Int)<16 by omega),af,Zd]
  rw[dG (by omega)]at dt;rw[dt];exact .mk rfl
def Zqg (n:Nat) (a:ai) (l:aj) (st:St) (ha:dc st a l) (hl:l.length<1000000) (hn:160<=n):
  Ok (λo=>∃s',aB st s'/\match iM l with
   |none=>o=(.val [.agg (ints (List.replicate 16 0)),.bool false],s')
   |some x=>o=(.val [.agg (ints x),.bool true],s')/\x.length=16) (run Bd n 274 [.slice 1 a l.length] st):=by
 obtain⟨n,rfl⟩: ∃m,n=m+1:=⟨n-1,by omega⟩;rw[Ze,h.afD];unfold Rz bV sf aA bq cP uP aZ Li Lb Z7 iM;simp only[aX,aq,Za];refine Ok.call (Dp n a l st ha hl) ?_;rintro _ ⟨s1,aH,ho⟩;cases eC:fM l with
 |none=>
  rw[eC]at ho;subst ho;refine⟨_,s1,rfl,?_⟩;simp only[av,au,aq,Zg 1 0 none _ (.inr rfl)];rw[bn,ae];simp only[ae,Zd];exact .mk ⟨_,aH,rfl⟩
 |some q=>
  obtain⟨k,t,b⟩:=q;rw[eC]at ho;obtain⟨p1,rfl,hf,hb,hk,ht⟩:=ho;refine⟨_,s1,rfl,?_⟩;simp only[av,au,aX,aq];rw[br,af,nn k 3 3 rfl,nn t 0 0 rfl];cases kf:decide (k=3)with
  |false=>
   rw[bn];simp only[ae,gf,af,Zd];exact .mk ⟨_,aH,rfl⟩
  |true=>
  rw[br];simp only[af,dF];cases Km:decide (t=0)with
  |false=>
   rw[bn];simp only[ae,gf,af,Zd];exact .mk ⟨_,aH,rfl⟩
  |true=>
  rw[br];simp only[af,dF];have dR:=hf.sr;have cA:=Dm n p1 b 32 24 s1 dR;rw[hb,dG (by rw[fa];omega)]at cA;rw[show ar (((56:Nat):Int)-32)=((24:Nat):Int) by decide,show(32:Int)=((32:Nat):Int)from rfl,Zk cA];simp only[au,aq];cases ZE (b.drop 32)with
  |false=>
   simp only[bn,ae,af,Zd];exact .mk ⟨_,aH,rfl⟩
  |true=>
   rw[br];simp only[ae,af];refine Zi _ (λq y s=>∃i:Nat,y=[.agg (ints (dU b i)++ints (List.replicate (16-i) 0)),.int .i64 i]/\i<=16/\16-i<=q/\s=s1) ?_ 16 n _ _ ⟨0,rfl,by omega,by omega,rfl⟩ (by omega);rintro q _ s ⟨i,rfl,hi,hq,rfl⟩ rec aN;have hlen:(ints (dU b i)++ints (List.replicate (16-i) 0)).length=16:=by
    simp[ints,nW];omega
   simp only[cT,av,aq];rw[bI hlen];by_cases aw:i<16
   .have cG:ar ((i:Int)+1)=((i+1:Nat):Int):=Zc
    have fR:ar (2*((i+1:Nat):Int))=((2*(i+1):Nat):Int):=Zc;have jA:ar (2*(i:Int))=((2*i:Nat):Int):=Zc;simp only[cG,fR,jA,bp,cR];rw[ax (show(i:Int)<16 by omega),ae];rw[Zb (by rw[aY,bu,bu];omega),Zb (by rw[aY,bu,bu];omega)];have iZ:=dR.cU (k:=2*i) (by omega);have tV:((b.drop (2*i)).take 2).length=2:=by rw[cX,fa];omega
    have j1:=xz n _ ((b.drop (2*i)).take 2) s (iZ.lA 2);rw[tV]at j1;rw[show 2*(i+1)-2*i=2 by omega,Zk j1];simp only[av,aq];rw[Zb (show aR (i:Int) 16=true from Zj aw),Zb (gA (by omega))];refine aN (16-(i+1)) _ _ (by omega) ⟨i+1,?_,by omega,aQ _,rfl⟩;congr 2;rw[Mg,show List.replicate (16-i) (0:Int)=0::List.replicate (16-(i+1)) 0 by rw[show 16-i=(16-(i+1))+1 by omega];rfl];have e3:i=(ints (dU b i)).length:=by simp[ints,nW]
    have e4:=tw (ints (dU b i)) [.int .i64 0] (ints (List.replicate (16-(i+1)) 0)) [.int .i64 (bN b (2*i) 2)] rfl;rw[<-e3]at e4;show cE (ints (dU b i)++([.int .i64 0]++ints (List.replicate (16-(i+1)) 0))) i [.int .i64 (bN b (2*i) 2)]=ints (dU b i++[bN b (2*i) 2])++_;rw[e4,show ints (dU b i++[bN b (2*i) 2])=ints (dU b i)++[.int .i64 (bN b (2*i) 2)] by unfold ints;rw[fA];rfl,fI]
   .rw[aF (show ¬(i:Int)<16 by omega),af]
    have p8:i=16:=by omega
    subst p8;rw[bI hlen];rw[show ints (dU b 16)++ints (List.replicate (16-16) 0)=ints (dU b 16)from gz _]at hlen⊢;rw[Zk (Zoc n (dU b 16) s (nW b 16) (by omega))];simp only[au,aq];cases BC (dU b 16)with
    |false=>
     rw[bn,ae,Zd];exact .mk ⟨_,aH,rfl⟩
    |true=>
     rw[br,af,bI hlen,Zd];exact .mk ⟨_,aH,rfl,nW b 16⟩
def ZtD (n:Nat) (l:ak) (v:Int) (p:ai) (st:St) (hs:Sl st p (ints l)) (hl:l.length<1000000) (hn:l.length+3<=n):
  Ok (λo=>∃y:Int,o=(.val [.int .i64 y],st)/\decide (y>=0)=decide (v∈l)) (run Bd n 254 [.slice 1 p l.length,.int .i64 v] st):=by
 obtain⟨n,rfl⟩: ∃m,n=m+1:=⟨n-1,by omega⟩;rw[Ze,h.afl];unfold Qd oe Q_ cM Zn Li;simp only[aX,av,aq,Za];refine Zi _ (λq y s=>∃i:Nat,y=[.int .i64 i]/\i<=l.length/\l.length-i<=q/\s=st/\v∉l.take i) ?_ l.length n _ _ (by grind) (by omega);rintro q _ s ⟨i,rfl,hi,hq,rfl,cA⟩ rec aN;simp only[av,aq];by_cases aw:i<l.length
 .obtain⟨i1,o1,rfl⟩:=hs.cH (by simp[ints];omega)
  rw[ax (show(i:Int)<(l.length:Int) by omega),ae,bd,Zb (Zj aw),bp,hs.dJ (ZD aw)];simp only[bg];by_cases hv:v=l[i]
  .rw[show(v==l[i])=true by rw[hv];simp,ae,Zd]
   refine .mk ⟨_,rfl,?_⟩;rw[ax (by omega),ax];rw[hv];simp
  .rw[eG.2 hv,af,Zc]
   refine aN (l.length-(i+1)) _ _ (by omega) ⟨i+1,rfl,by omega,aQ _,rfl,?_⟩;rw[lV aw];grind
 .rw[aF (show ¬(i:Int)<(l.length:Int) by omega),af,Zd]
  rw[dG (by omega)]at cA;exact .mk (by grind)
def ZjB (n:Nat) (l:ak) (v:Int) (p:ai) (st:St) (hs:Sl st p (ints l)) (hl:l.length<1000000) (hn:l.length+4<=n):
  run Bd n 222 [.slice 1 p l.length,.int .i64 v] st=some (.val [.bool (decide (v∈l))],st):=by
 obtain⟨n,rfl⟩: ∃m,n=m+1:=⟨n-1,by omega⟩;rw[Ze,h.aeR];unfold P8 oe cw dY Lb;simp only[aX,av,aq];refine ok_eq ?_;refine Ok.call (ZtD n l v p st hs hl (by omega)) ?_;rintro _ ⟨y,rfl,e⟩;refine⟨_,st,rfl,?_⟩;simp only[av,aq,Zd];rw[e];exact .mk rfl
def se (v:Int):Bool:=bif decide (v>=2)then decide (v<3072)else false
def Zgm (n:Nat) (v:Int) (st:St):run Bd (n+1) 315 [.int .i64 v] st=some (.val [.bool (se v)],st):=by
 rw[Ze,h.af4];unfold Qp cP aA Lb se;simp only[av,aq,Za,au];cases decide (v>=2)<;>rfl
structure ZH where
 name:aj
 mask:Nat
 dz:ak
def Z0 (x:ZH):ah:= .str x.name:: .int .i64 x.mask::ints x.dz
def qZ (m i:Nat) (v:Int):Bool:=bif eE m i then se v else v==0
def mO (x:ZH):Bool:=qJ x.name&&(decide (x.mask<4096)&&(List.range 12).all λi=>qZ x.mask i (x.dz.getD i 0))
def ZV (b:aj) (n:Nat):ak:=(List.range n).map λj=>bN b (4+2*j) 2
def Ds (b:aj) (n:Nat):(ZV b n).length=n:=by unfold ZV;simp
def Zl0 (b:aj) (n:Nat):ZV b (n+1)=ZV b n++[bN b (4+2*n) 2]:=by simp[ZV,qw,fA]
def Z9 (b:aj) (t:Nat):ZH:=⟨(b.drop 28).take t,rd b 0 4,ZV b 12⟩
def ZJ (l:aj):Option ZH:=match fM l with
 |none=>none
 |some (k,t,b)=>bif decide (k=5)&&(decide (t<=24)&&ZE (b.drop (28+t)))then(bif mO (Z9 b t)then some (Z9 b t)else none)else none
def DL:ZH:=⟨[],0,List.replicate 12 0⟩
def ZlV (n:Nat) (x:ZH) (st:St) (hl:x.dz.length=12) (hs:x.name.length<1000) (hm:x.mask<4294967296) (hn:22+x.name.length<=n):run Bd n 299 [.agg (Z0 x)] st=some (.val [.bool (mO x)],st):=by
 obtain⟨n,rfl⟩: ∃m,n=m+2:=⟨n-2,by omega⟩;rw[Ze,h.afT];unfold Qt bq aA Q_ cM Ls Lb Li mO Z0;have hlen:(ints x.dz).length=12:=by simp[ints,hl]
 simp only[cT,bR,av,aq,Za];rw[bI hlen,bI (by simp[hlen])];rw[Zk (ok_eq (ZrZ (n+1) x.name (by omega) (by omega) st))];simp only[au,aq];cases qJ x.name with
 |false=>rw[bn,ae];rfl
 |true=>
 rw[br,af,aF (show ¬((x.mask:Nat):Int)<0 by omega)];simp only[af,dF];by_cases fu:x.mask<4096;rotate_left
 .rw[ax (show((x.mask:Nat):Int)>=4096 by omega),ae,aF fu,Zd,gf]
 rw[aF (show ¬((x.mask:Nat):Int)>=4096 by omega),af,ax fu,dF];rw[show(ints x.dz).take 12=ints x.dz from dG (by omega)];refine ok_eq ?_;refine Zi _ (λq y s=>∃i:Nat,y=[.int .i64 i]/\i<=12/\12-i<=q/\s=st/\((List.range i).all λi=>qZ x.mask i (x.dz.getD i 0))=true) ?_ 12 (n+1) _ _ (by grind) (by omega);rintro q _ s ⟨i,rfl,hi,hq,rfl,dt⟩ rec aN;simp only[av,aq];by_cases aw:i<12
 .rw[ax (show(i:Int)<12 by omega),ae,Zb (show aR (i:Int) 12=true from Zj aw),bp,cR,hJ (ZD)]
  simp only[bg];rw[Zb (ax (by omega)),ZuG,ZxU (by omega) (by omega)];have hw:ar ((i:Int)+1)=((i+1:Nat):Int):=Zc;have yv:x.dz.getD i 0=x.dz[i]'(by omega):=by rw[dW,cq (by omega)];rfl
  have aP:qZ x.mask i (x.dz[i]'(by omega))=true->Ok (λp=>p=(Out.val [DV.bool ((List.range 12).all λi=>qZ x.mask i (x.dz.getD i 0))],s)) (rec [.int .i64 (ar ((i:Int)+1))] s):=λe=>by
   rw[hw];refine aN (12-(i+1)) _ _ (by omega) ⟨i+1,rfl,by omega,aQ _,rfl,?_⟩;rw[qw,tf,dt,vQ,List.all_nil,yv,e];rfl
  have cA:qZ x.mask i (x.dz[i]'(by omega))=false->((List.range 12).all λi=>qZ x.mask i (x.dz.getD i 0))=false:=by grind
  cases hb:eE x.mask i with
  |true=>
   rw[br,af];rw[Zb (ax (by omega)),ae,Zk (Zgm n _ s)];simp only[au,aq];cases hbn:se (x.dz[i]'(by omega))with
   |true=>
    rw[br,af];exact aP (by grind[qZ])
   |false=>
    rw[bn,ae,Zd,cA (by grind[qZ])];exact .mk rfl
  |false=>
   rw[bn,ae];cases h0:(x.dz[i]'(by omega)==0)with
   |false=>
    rw[bn,ae];simp only[ae];rw[Zd,cA (by grind[qZ])];exact .mk rfl
   |true=>
    rw[br,af];rw[Zb (ax (by omega)),af];exact aP (by grind[qZ])
 .rw[aF (show ¬(i:Int)<12 by omega),af,Zd]
  rw[show i=12 by omega]at dt;rw[dt];exact .mk rfl
def Zng (n:Nat) (a:ai) (l:aj) (st:St) (ha:dc st a l) (hl:l.length<1000000) (hn:160<=n):
  Ok (λo=>∃s',aB st s'/\match ZJ l with
   |none=>o=(.val [.agg (Z0 DL),.bool false],s')
   |some x=>o=(.val [.agg (Z0 x),.bool true],s')/\x.dz.length=12) (run Bd n 275 [.slice 1 a l.length] st):=by
 obtain⟨n,rfl⟩: ∃m,n=m+1:=⟨n-1,by omega⟩;rw[Ze,h.afE];unfold QN bV sf aA DI bq cP uP aZ Fj Li Fl Lb Z7 ZJ;simp only[aX,aq,Za];refine Ok.call (Dp n a l st ha hl) ?_;rintro _ ⟨s1,aH,ho⟩;cases eC:fM l with
 |none=>
  rw[eC]at ho;subst ho;refine⟨_,s1,rfl,?_⟩;simp only[av,au,aq,Zg 1 0 none _ (.inr rfl)];rw[bn,ae];simp only[ae,Zd];exact .mk ⟨_,aH,rfl⟩
 |some q=>
  obtain⟨k,t,b⟩:=q;rw[eC]at ho;obtain⟨p1,rfl,hf,hb,hk,ht⟩:=ho;refine⟨_,s1,rfl,?_⟩;simp only[av,au,aX,aq];rw[br,af,nn k 5 5 rfl];cases kf:decide (k=5)with
  |false=>
   rw[bn];simp only[ae,gf,af,Zd];exact .mk ⟨_,aH,rfl⟩
  |true=>
  rw[br];simp only[af,dF];by_cases kO:t<=24;rotate_left
  .rw[ax (show((t:Nat):Int)>24 by omega),aF kO]
   simp only[ae,gf,af,Zd];exact .mk ⟨_,aH,rfl⟩
  rw[aF (show ¬((t:Nat):Int)>24 by omega),ax kO];simp only[af,dF];have dR:=hf.sr;have hw:ar (28+(t:Int))=((28+t:Nat):Int):=Zc;have cA:=Dm n p1 b (28+t) (28-t) s1 dR;rw[hb,dG (by rw[fa];omega)]at cA;have fR:ar (ar (((56:Nat):Int)-28)-(t:Int))=((28-t:Nat):Int):=by
   rw[show ar (((56:Nat):Int)-28)=28 by decide];rw[Zc];omega
  rw[hw,fR,Zk cA];simp only[au,aq,bp];cases ZE (b.drop (28+t))with
  |false=>
   simp only[bn,ae,af,Zd];exact .mk ⟨_,aH,rfl⟩
  |true=>
   rw[br];simp only[ae,af];rw[Zb (by rw[aY,bu,bu];omega),Zb (ax (by omega))];have wQ:=(dR.cU (k:=28) (by omega)).lA t;have Ou:(bU ((b.drop 28).take t)).length=28+t-28:=by rw[Zu,cX,fa];omega
   have lO:=iR (β:=ah) wQ;rw[Ou]at lO;rw[lO,<-ll,oJ,Zb (ax (by omega))];have Ev:(b.take 4).length=4:=by rw[cX];omega
   have j1:=xz n _ (b.take 4) s1 (dR.lA 4);rw[Ev]at j1;rw[qF j1 (.refl s1)];simp only[av,aq];have ahw:ez (b.take 4)<4294967296:=by have:=F4 (b.take 4);rw[Ev]at this;exact this
   rw[Zc (x:=((ez (b.take 4):Nat):Int))];have rk:((b.drop 28).take t).length<=24:=by rw[cX];omega
   refine Zi _ (λq y s=>∃i:Nat,y=[.agg (.str ((b.drop 28).take t):: .int .i64 (ez (b.take 4):Nat)::(ints (ZV b i)++ints (List.replicate (12-i) 0))),.int .i64 i]/\i<=12/\12-i<=q/\s=s1) ?_ 12 n _ _ ⟨0,rfl,by omega,by omega,rfl⟩ (by omega);rintro q _ s ⟨i,rfl,hi,hq,rfl⟩ rec aN;have hlen:(ints (ZV b i)++ints (List.replicate (12-i) 0)).length=12:=by
    simp[ints,Ds];omega
   simp only[cT,bR,av,aq];rw[bI hlen];by_cases aw:i<12
   .have cG:ar ((i:Int)+1)=((i+1:Nat):Int):=Zc
    have jA:ar (2*(i:Int))=((2*i:Nat):Int):=Zc;have j4:ar (4+((2*i:Nat):Int))=((4+2*i:Nat):Int):=Zc;have pC:ar (((4+2*i:Nat):Int)+2)=((4+2*i+2:Nat):Int):=Zc;simp only[cG,jA,j4,pC,bp,cR];rw[ax (show(i:Int)<12 by omega),ae];rw[Zb (by rw[aY,bu,bu];omega),Zb (by rw[aY,bu,bu];omega)];have iZ:=dR.cU (k:=4+2*i) (by omega);have tV:((b.drop (4+2*i)).take 2).length=2:=by rw[cX,fa];omega
    have j1:=xz n _ ((b.drop (4+2*i)).take 2) s (iZ.lA 2);rw[tV]at j1;rw[show 4+2*i+2-(4+2*i)=2 by omega,Zk j1];simp only[av,aq];rw[Zb (show aR (i:Int) 12=true from Zj aw),Zb (gA (by omega))];refine aN (12-(i+1)) _ _ (by omega) ⟨i+1,?_,by omega,aQ _,rfl⟩;congr 4;rw[Zl0,show List.replicate (12-i) (0:Int)=0::List.replicate (12-(i+1)) 0 by rw[show 12-i=(12-(i+1))+1 by omega];rfl];have e3:i=(ints (ZV b i)).length:=by simp[ints,Ds]
    have e4:=tw (ints (ZV b i)) [.int .i64 0] (ints (List.replicate (12-(i+1)) 0)) [.int .i64 (bN b (4+2*i) 2)] rfl;rw[<-e3]at e4;show cE (ints (ZV b i)++([.int .i64 0]++ints (List.replicate (12-(i+1)) 0))) i [.int .i64 (bN b (4+2*i) 2)]=ints (ZV b i++[bN b (4+2*i) 2])++_;rw[e4,show ints (ZV b i++[bN b (4+2*i) 2])=ints (ZV b i)++[.int .i64 (bN b (4+2*i) 2)] by unfold ints;rw[fA];rfl,fI]
   .rw[aF (show ¬(i:Int)<12 by omega),af]
    have p8:i=12:=by omega
    subst p8;rw[show ints (ZV b 12)++ints (List.replicate (12-12) 0)=ints (ZV b 12)from gz _]at hlen⊢;rw[bI hlen];have hrq:=ZlV n (Z9 b t) s (Ds b 12) (by show((b.drop 28).take t).length<_;omega) ahw (by show _+((b.drop 28).take t).length<=_;omega);have hqc:Z0 (Z9 b t)= .str ((b.drop 28).take t):: .int .i64 (ez (b.take 4):Nat)::ints (ZV b 12):=rfl;rw[<-hqc,Zk hrq];simp only[au,aq];cases mO (Z9 b t)with
    |false=>
     rw[bn,ae,Zd];exact .mk ⟨_,aH,rfl⟩
    |true=>
     rw[br,af,bI (by rw[hqc];simp[hlen]),Zd];exact .mk ⟨_,aH,rfl,Ds b 12⟩
def Dz (l:ak):Bool:=decide (1<=l.length)&&(decide (l.length<=16)&&(List.range l.length).all λi=>se (l.getD i 0)&& !decide (l.getD i 0∈l.take i))
def lh (l:aj):Option (ak):=match fM l with
 |none=>none
 |some (k,t,b)=>bif decide (k=6)&&(decide (t<=16)&&ZE (b.drop (2*t)))then(bif Dz (dU b t)then some (dU b t)else none)else none
def Zni (n:Nat) (l:ak) (p:ai) (st:St) (hs:Sl st p (ints l)) (hl:l.length<1000) (hn:l.length+10<=n):run Bd n 300 [.agg [.slice 1 p l.length]] st=some (.val [.bool (Dz l)],st):=by
 obtain⟨n,rfl⟩: ∃m,n=m+2:=⟨n-2,by omega⟩;rw[Ze,h.afU];unfold QO bV aA Q_ cM Zn bq Lb Li dY Dz;simp only[cT,aX,aq,Za];by_cases h1:1<=l.length;rotate_left
 .rw[ax (show((l.length:Nat):Int)<1 by omega),aF h1]
  rfl
 rw[aF (show ¬((l.length:Nat):Int)<1 by omega),ax h1];simp only[au,aq,af,dF];by_cases h2:l.length<=16;rotate_left
 .rw[ax (show((l.length:Nat):Int)>16 by omega),aF h2]
  rfl
 rw[aF (show ¬((l.length:Nat):Int)>16 by omega),ax h2];simp only[af,dF];refine ok_eq ?_;refine Zi _ (λq y s=>∃i:Nat,y=[.int .i64 i]/\i<=l.length/\l.length-i<=q/\s=st/\((List.range i).all λi=>se (l.getD i 0)&& !decide (l.getD i 0∈l.take i))=true) ?_ l.length (n+1) _ _ (by grind) (by omega);rintro q _ s ⟨i,rfl,hi,hq,rfl,dt⟩ rec aN;simp only[av,aq];by_cases aw:i<l.length
 .obtain⟨i1,o1,rfl⟩:=hs.cH (by simp[ints];omega)
  rw[ax (show(i:Int)<(l.length:Int) by omega),ae,bd,Zb (Zj aw),bp,hs.dJ (ZD aw)];simp only[bg];have hw:ar ((i:Int)+1)=((i+1:Nat):Int):=Zc;have yv:l.getD i 0=l[i]:=by rw[dW,cq aw];rfl
  have cA:(se l[i]&& !decide (l[i]∈l.take i))=false->((List.range l.length).all λi=>se (l.getD i 0)&& !decide (l.getD i 0∈l.take i))=false:=by grind
  rw[Zk (Zgm n _ s)];simp only[au,aq];cases hb:se l[i]with
  |false=>
   rw[bn,ae];simp only[ae];rw[Zd,cA (by rw[hb];rfl)];exact .mk rfl
  |true=>
   rw[br,af,Zb (by rw[aY,bu,bu];omega)];have Yc:(l.take i).length=i:=by rw[cX];omega
   have cg:Sl s (some (i1,o1)) (ints (l.take i)):=by
    have:=Sl.lA hs i;rwa [show(ints l).take i=ints (l.take i) by simp[ints]]at this
   have hc:=ZjB (n+1) (l.take i) l[i] _ s cg (by omega) (by omega);rw[Yc]at hc;rw[Zk hc];simp only[au,aq];cases hm:decide (l[i]∈l.take i)with
   |true=>
    rw[ae,Zd,cA (by rw[hb,hm];rfl)];exact .mk rfl
   |false=>
    rw[af,hw];refine aN (l.length-(i+1)) _ _ (by omega) ⟨i+1,rfl,by omega,aQ _,rfl,?_⟩;rw[qw,tf,dt,vQ,List.all_nil,yv,hb,hm];rfl
 .rw[aF (show ¬(i:Int)<(l.length:Int) by omega),af,Zd]
  rw[show i=l.length by omega]at dt;rw[dt];exact .mk rfl
def Zoo (n:Nat) (a:ai) (l:aj) (st:St) (ha:dc st a l) (hl:l.length<1000000) (hn:160<=n):
  Ok (λo=>∃s',aB st s'/\match lh l with
   |none=>o=(.val [.agg [.slice 0 none 0],.bool false],s')
   |some x=>∃p,o=(.val [.agg [.slice 1 p x.length],.bool true],s')/\Fz s' p (ints x)/\x.length<=16) (run Bd n 276 [.slice 1 a l.length] st):=by
 obtain⟨n,rfl⟩: ∃m,n=m+1:=⟨n-1,by omega⟩;rw[Ze,h.afF];unfold Q6 bV sf aA bq cP aZ Li Lb Z7 lh;simp only[aX,aq,Za];rw[ZL];refine Ok.call (Dp n a l st ha hl) ?_;rintro _ ⟨s1,aH,ho⟩;cases eC:fM l with
 |none=>
  rw[eC]at ho;subst ho;refine⟨_,s1,rfl,?_⟩;simp only[av,au,aq,Zg 1 0 none _ (.inr rfl)];rw[bn,ae];simp only[ae];rw[Zp];exact .mk ⟨_,Zr aH,rfl⟩
 |some q=>
  obtain⟨k,t,b⟩:=q;rw[eC]at ho;obtain⟨p1,rfl,hf,hb,hk,ht⟩:=ho;refine⟨_,s1,rfl,?_⟩;simp only[av,au,aX,aq];rw[br,af,nn k 6 6 rfl];cases kf:decide (k=6)with
  |false=>
   rw[bn];simp only[ae,gf,af];rw[Zp];exact .mk ⟨_,Zr aH,rfl⟩
  |true=>
  rw[br];simp only[af,dF];by_cases kO:t<=16;rotate_left
  .rw[ax (show((t:Nat):Int)>16 by omega),aF kO]
   simp only[ae,gf,af];rw[Zp];exact .mk ⟨_,Zr aH,rfl⟩
  rw[aF (show ¬((t:Nat):Int)>16 by omega),ax kO];simp only[af,dF];have dR:=hf.sr;have hw:ar (2*(t:Int))=((2*t:Nat):Int):=Zc;have cA:=Dm n p1 b (2*t) (56-2*t) s1 dR;rw[hb,dG (by rw[fa];omega)]at cA;have fR:ar (((56:Nat):Int)-((2*t:Nat):Int))=((56-2*t:Nat):Int):=by
   rw[Zc];omega
  rw[hw,fR,Zk cA];simp only[au,aq];cases ZE (b.drop (2*t))with
  |false=>
   simp only[bn,ae,af];rw[Zp];exact .mk ⟨_,Zr aH,rfl⟩
  |true=>
   rw[br];simp only[ae,af];refine Zi _ (λq y s=>∃(i z:Nat) (p:ai),y=[.agg [.slice z p i],.int .i64 i]/\(z=1\/p=none)/\i<=t/\t-i<=q/\bm st s p (ints (dU b i))/\mJ s p1 b) ?_ t n _ _ ⟨0,0,none,rfl,.inr rfl,cz _,by omega,bm.nil aH,hf⟩ (by omega);rintro q _ s ⟨i,z,p,rfl,hz,hi,hq,ho,GD⟩ rec aN;simp only[cT,av,Zg 1 z p _ hz,aq];by_cases aw:i<t
   .have cG:ar ((i:Int)+1)=((i+1:Nat):Int):=Zc
    have fR:ar (2*((i+1:Nat):Int))=((2*(i+1):Nat):Int):=Zc;have jA:ar (2*(i:Int))=((2*i:Nat):Int):=Zc;simp only[cG,fR,jA,bp,cR];rw[ax (show(i:Int)<(t:Int) by omega),ae];rw[Zb (by rw[aY,bu,bu];omega),Zb (by rw[aY,bu,bu];omega)];have iZ:=GD.sr.cU (k:=2*i) (by omega);have tV:((b.drop (2*i)).take 2).length=2:=by rw[cX,fa];omega
    have j1:=xz n _ ((b.drop (2*i)).take 2) s (iZ.lA 2);rw[tV]at j1;rw[show 2*(i+1)-2*i=2 by omega,vZ j1];simp only[av,aq];obtain⟨p2,s2,du,ri,he⟩:=ho.CP (β:=ah) (sz:=1) (n:=i) (lim:=8796093022208) [.int .i64 (bN b (2*i) 2)] (xp 0) (by simp[ints,nW]) rfl (by omega);refine Eq.mpr (congrArg (Ok _) (he _)) ?_;refine aN (t-(i+1)) _ _ (by omega) ⟨i+1,1,p2,rfl,.inl rfl,by omega,aQ _,?_,GD.kp ri⟩;rw[Mg];show bm st s2 p2 (List.map _ _);rw[fA];exact du
   .rw[aF (show ¬(i:Int)<(t:Int) by omega),af]
    have AA:i=t:=by omega
    subst AA;have hr:=Zni n (dU b i) p s ho.sl (by rw[nW];omega) (by rw[nW];omega);rw[nW]at hr;simp only[aX,aq];rw[Zk hr];simp only[au,aq];cases Dz (dU b i)with
    |false=>
     rw[bn,ae];simp only[af];rw[Zp];exact .mk ⟨_,Zr ho.1,rfl⟩
    |true=>
     rw[br,af];simp only[ae];rw[Zp];refine .mk ⟨_,Zr ho.1,p,?_,ho.fz,?_⟩
     .rw[nW]
     .rw[nW];omega
def rJ (n k:Int):Int:=ar ((ar (ar (n+k)-1)).tdiv k)
def BJ (b s g:Int):Int:=bif oY b s g then rJ b 384 else 0
def BF (n:Int):Int:=bif (decide (n>=0)&&decide (n<=1792))then rJ n 7 else 0
def ZoO (n:Nat) (v k:Int) (hk:k≠0) (st:St):run Bd (n+1) 253 [.int .i64 v,.int .i64 k] st=some (.val [.int .i64 (rJ v k)],st):=by
 rw[Ze,h.afk];unfold Ur iX Li rJ;simp only[av,aq];rw[Zb (by rw[eG.2 hk];rfl)];rfl
def Zr4 (n:Nat) (v:Int) (st:St):run Bd (n+1) 255 [.int .i64 v] st=some (.val [.bool (decide (v>=0)&&decide (v<=1792))],st):=by
 rw[Ze,h.afm];unfold Tk cP aA Lb;simp only[av,aq,Za];cases decide (v>=0)<;>rfl
def ZpF (n:Nat) (v:Int) (st:St):run Bd (n+2) 227 [.int .i64 v] st=some (.val [.int .i64 (BF v)],st):=by
 rw[Ze,h.aeV];unfold RT cP bq cw Li gJ BF;simp only[av,aq];rw[Zk (Zr4 n v st)];simp only[au,aq];cases(decide (v>=0)&&decide (v<=1792))with
 |false=>rfl
 |true=>
  rw[br,af,Zk (ZoO n v 7 (by decide) st)];rfl
def Zp4 (n:Nat) (b s g:Int) (st:St):run Bd (n+2) 223 [.agg [.int .i64 b,.int .i64 s,.int .i64 g]] st=some (.val [.int .i64 (BJ b s g)],st):=by
 rw[Ze,h.aeS];unfold RJ DB bq cw uQ Li gJ BJ;simp only[cT,av,aq];rw[Zk (ZlP n b s g st)];simp only[au,aq];cases oY b s g with
 |false=>rfl
 |true=>
  rw[br,af,Zk (ZoO n b 384 (by decide) st)];rfl
structure ZP where
 no:Nat
 eY:aj
def ZW (x:ZP):ah:= .int .i64 x.no::bU x.eY
def Ng:ZP:=⟨0,List.replicate 48 0⟩
def xP (l:aj):Option ZP:=match fM l with
 |none=>none
 |some (k,t,b)=>bif decide (k=4)&&(decide (t<8)&&ZE (b.drop 48))then some ⟨t,b.take 48⟩else none
def yl (x:ZP) (a:Nat):Bool:=decide (a/384=x.no)&&eE (x.eY.getD (a%384/8) 0).toNat (a%8)
def eU (x:ZP) (n:Nat):ak:=((List.range n).filter λi=>yl x (x.no*384+i)).map λi=>((x.no*384+i:Nat):Int)
def Mi (x:ZP) (n:Nat):eU x (n+1)=eU x n++(bif yl x (x.no*384+n)then[((x.no*384+n:Nat):Int)]else[]):=by
 unfold eU;rw[qw,EV,fA];grind
def Zrp (x:ZP) (n:Nat):(eU x n).length<=n:=by
 grind[eU]
def adn {x:Nat} (hx:x<256) (hr:r<8):((bits .and .u8 (x:Int) ((2^r:Nat):Int))==0)= !eE x r:=by
 have key: ∀x:Fin 256,∀r:Fin 8,((x.val&&& 2^r.val)==0)= !decide (x.val/2^r.val%2=1):=by decide+kernel
 have hp:2^r<256:=Lq (a:=2) (m:=r) (n:=8) (by decide) hr;have e:bits .and .u8 (x:Int) ((2^r:Nat):Int)=((x&&& 2^r:Nat):Int):=by
  generalize 2^r=w at hp;show IntKind.wrap .u8 ((BitVec.ofInt 8 (x:Int)&&& BitVec.ofInt 8 ((w:Nat):Int)).toNat:Int)=_;rw[Ld,BitVec.toNat_ofInt,BitVec.toNat_ofInt];have e1:((x:Int)%((2^8:Nat):Int)).toNat=x:=by omega
  have e2:(((w:Nat):Int)%((2^8:Nat):Int)).toNat=w:=by omega
  rw[e1,e2];have:x&&& w<256:=C9 Nat.and_le_left hx;show((x&&& w:Nat):Int)%(2^8)=_;omega
 rw[e];have:=key ⟨x,hx⟩ ⟨r,hr⟩;grind[eE]
def Zp2 (n:Nat) (x:ZP) (hl:x.eY.length=48) (st:St):run Bd (n+1) 307 [.agg (ZW x)] st=some (.val [.bool (decide (x.no<8))],st):=by
 rw[Ze,h.afW];unfold RB aA Lb ZW;have hlen:(bU x.eY).length=48:=by rw[Zu,hl]
 simp only[cT,av,aq,Za];rw[bI hlen,bI (by simp[hlen]),ax (show((x.no:Nat):Int)>=0 by omega),ae];simp only[au,aq];rw[Zd];by_cases h8:x.no<8
 .rw[ax h8,ax (by omega)]
 grind
def Zs6 (n:Nat) (x:ZP) (a:Nat) (ha:a<1000000) (hl:x.eY.length=48) (h8:x.no<8) (st:St):
  run Bd (n+2) 287 [.agg (ZW x),.int .i64 a] st=some (.val (bif decide (a/384=x.no)then[.int .i64 (a%384/8:Nat),.int .u8 (2^(a%8):Nat),.bool true]else[.int .i64 0,.int .u8 0,.bool false]),st):=by
 rw[Ze,h.afH];have hr:=Zp2 n x hl st;unfold TE cP bq aA Lb;have hlen:(bU x.eY).length=48:=by rw[Zu,hl]
 unfold ZW at hr⊢;simp only[cT,av,aq,Za];rw[bI hlen,bI (by simp[hlen]),Zk hr];simp only[au,aq];rw[ax h8,br,af,aF (show ¬(a:Int)<0 by omega)];simp only[af];rw[show((a:Int).tdiv 384)=((a/384:Nat):Int)from rfl,Zc,nn (a/384) x.no _ rfl];cases hd:decide (a/384=x.no)with
 |false=>rfl
 |true=>
  rw[br,af,ae];rw[show((a:Int).tmod 384)=((a%384:Nat):Int)from rfl,show(((a%384:Nat):Int).tmod 8)=((a%384%8:Nat):Int)from rfl,show(((a%384:Nat):Int).tdiv 8)=((a%384/8:Nat):Int)from rfl];rw[Zb (ax (by omega)),Zc,bp,nS (by omega),show a%384%8=a%8 by omega,Zd];have hp:2^(a%8)<256:=Lq (a:=2) (m:=a%8) (n:=8) (by decide) (by omega);have e:IntKind.wrap .u8 (1*2^(a%8))=((2^(a%8):Nat):Int):=by
   rw[Int.one_mul,show((2:Int)^(a%8))=((2^(a%8):Nat):Int) by push_cast;rfl];generalize 2^(a%8)=w at hp;show((w:Nat):Int)%(2^8)=_;omega
  rw[e]
def ZsY (n:Nat) (x:ZP) (a:Nat) (ha:a<1000000) (hl:x.eY.length=48) (h8:x.no<8) (st:St):
  run Bd (n+3) 262 [.agg (ZW x),.int .i64 a] st=some (.val [.bool (yl x a)],st):=by
 rw[Ze,h.afr];have hr:=Zs6 n x a ha hl h8 st;unfold S8 cP ZuK aA Lb yl;have hlen:(bU x.eY).length=48:=by rw[Zu,hl]
 unfold ZW at hr⊢;simp only[cT,av,aq,Za];rw[bI hlen,bI (by simp[hlen]),Zk hr];cases decide (a/384=x.no)with
 |false=>rfl
 |true=>
  simp only[ae,av,au,aq,bp,cR,dF];rw[Zb (show aR ((a%384/8:Nat):Int) 48=true from Zj)];obtain⟨c,hc⟩: ∃c,x.eY[a%384/8]? =some c:=⟨_,cq (by omega)⟩;rw[hJ (U6 hc),getD_some hc];simp only[bg];rw[adn c.toNat_lt (by omega),Bool.not_not];rfl
def ZrG (n:Nat) (x:ZP) (hl:x.eY.length=48) (h8:x.no<8) (st:St) (hn:400<=n):
  Ok (λo=>∃p s',o=(.val [.slice 1 p (eU x 384).length],s')/\aB st s'/\Fz s' p (ints (eU x 384))) (run Bd n 239 [.agg (ZW x)] st):=by
 obtain⟨n,rfl⟩: ∃m,n=m+4:=⟨n-4,by omega⟩;rw[Ze,h.ae6];have hr:=λa ha s=>ZsY n x a ha hl h8 s
 unfold SE fB kb bq aZ dY Li iw;have hlen:(bU x.eY).length=48:=by rw[Zu,hl]
 unfold ZW at hr⊢;simp only[cT,av,aq,Za];rw[bI hlen,ZL,bI (by simp[hlen])];refine Zi _ (λq y s=>∃(i z:Nat) (p:ai),y=[.slice z p (eU x i).length,.int .i64 i]/\(z=1\/p=none)/\i<=384/\384-i<=q/\bm st s p (ints (eU x i))) ?_ 384 (n+3) _ _ ⟨0,0,none,rfl,.inr rfl,cz _,by omega,bm.nil (.refl st)⟩ (by omega);rintro q _ s ⟨i,z,p,rfl,hz,hi,hq,ho⟩ rec aN;simp only[av,Zg 1 z p _ hz,aq];by_cases aw:i<384
 .have cG:ar ((i:Int)+1)=((i+1:Nat):Int):=Zc
  have fR:ar ((x.no:Int)*384)=((x.no*384:Nat):Int):=by rw[Zc];omega
  have jA:ar (((x.no*384:Nat):Int)+(i:Int))=((x.no*384+i:Nat):Int):=Zc;simp only[cG,fR,jA];rw[ax (show(i:Int)<384 by omega),ae,Zk (hr (x.no*384+i) (by omega) s)];simp only[au,aq];have gp:=Zrp x i;cases hh:yl x (x.no*384+i)with
  |true=>
   rw[ae];obtain⟨p2,s2,du,ri,he⟩:=ho.CP (β:=ah) (sz:=1) (n:=(eU x i).length) (lim:=8796093022208) [.int .i64 ((x.no*384+i:Nat):Int)] (xp 0) (by simp[ints]) rfl (by omega);refine Eq.mpr (congrArg (Ok _) (he _)) ?_;simp only[aX,aq];refine aN (384-(i+1)) _ _ (by omega) ⟨i+1,1,p2,?_,.inl rfl,by omega,aQ _,?_⟩
   .rw[Mi,hh];simp
   .rw[Mi,hh]
    show bm st s2 p2 (List.map _ _);rw[fA];exact du
  |false=>
   rw[af];simp only[aX,aq];refine aN (384-(i+1)) _ _ (by omega) ⟨i+1,1,p,?_,.inl rfl,by omega,aQ _,?_⟩
   .rw[Mi,hh];simp
   .rw[Mi,hh,af,gz];exact ho
 .rw[aF (show ¬(i:Int)<384 by omega),af]
  simp only[aX,aq];rw[Zp];have p8:i=384:=by omega
  subst p8;exact .mk ⟨p,_,rfl,Zr ho.1,ho.fz⟩
def Zyf {B:ah} (hl:B.length=D.length) (K:M β):dI s.length A.length D K (s++[some ⟨false,A++B⟩])=K (s++[some ⟨false,A++D⟩]):=by
 unfold dI St.il;rw[lE (aQ _),Bi];simp only[kW];rw[gA (by rw[bB];omega),ae];have e:=tw A B [] D hl;rw[gz,gz]at e;rw[e];simp
def Zs2 (n:Nat) (a:ai) (l:aj) (st:St) (ha:dc st a l) (hl:l.length<1000000) (hn:160<=n):
  Ok (λo=>∃s',aB st s'/\match xP l with
   |none=>o=(.val [.agg (ZW Ng),.bool false],s')
   |some x=>o=(.val [.agg (ZW x),.bool true],s')/\x.eY.length=48/\x.no<8) (run Bd n 204 [.slice 1 a l.length] st):=by
 obtain⟨n,rfl⟩: ∃m,n=m+1:=⟨n-1,by omega⟩;rw[Ze,h.aeB];unfold TH bV sf aA bq aZ Lb Z7 xP;simp only[aX,aq,Za];refine Ok.call (Dp n a l st ha hl) ?_;rintro _ ⟨s1,aH,ho⟩;cases eC:fM l with
 |none=>
  rw[eC]at ho;subst ho;refine⟨_,s1,rfl,?_⟩;simp only[av,au,aq,Zg 1 0 none _ (.inr rfl)];rw[bn,ae];simp only[ae,Zd];exact .mk ⟨_,aH,rfl⟩
 |some q=>
  obtain⟨k,t,b⟩:=q;rw[eC]at ho;obtain⟨p1,rfl,hf,hb,hk,ht⟩:=ho;refine⟨_,s1,rfl,?_⟩;simp only[av,au,aX,aq];rw[br,af,nn k 4 4 rfl];cases kf:decide (k=4)with
  |false=>
   rw[bn];simp only[ae,gf,af,Zd];exact .mk ⟨_,aH,rfl⟩
  |true=>
  rw[br];simp only[af,dF];by_cases kO:t<8;rotate_left
  .rw[ax (show((t:Nat):Int)>=8 by omega),aF kO]
   simp only[ae,gf,af,Zd];exact .mk ⟨_,aH,rfl⟩
  rw[aF (show ¬((t:Nat):Int)>=8 by omega),ax kO];simp only[af,dF];have dR:=hf.sr;have cA:=Dm n p1 b 48 8 s1 dR;rw[hb,dG (by rw[fa];omega)]at cA;rw[show ar (((56:Nat):Int)-48)=((8:Nat):Int) by decide,show(48:Int)=((48:Nat):Int)from rfl,Zk cA];simp only[au,aq];cases ZE (b.drop 48)with
  |false=>
   simp only[bn,ae,af,Zd];exact .mk ⟨_,aH,rfl⟩
  |true=>
   rw[br];simp only[ae,af];have Ko:(b.take 48).length=48:=by rw[cX];omega
   have ig:(bU (b.take 48)).length=min 56 48*1:=by rw[Zu,Ko];rfl
   refine Eq.mpr (congrArg (Ok _) (show _=(cd (ZW Ng) λc1=>dI c1 0 (ZW ⟨t,List.replicate 48 0⟩)<|bS c1 1 48 λ_=>dy p1 (min 56 48*1) λcs=>dI c1 1 cs<|bS c1 0 49 λbM=>aD .i64 bM λx4 r1=>bA r1 48<|bA ((.int .i64 x4)::r1) 49<|ay [.agg ((.int .i64 x4)::r1),.bool true]) s1 from rfl)) ?_;rw[Zz,Zrq (by rfl)];rw[jL (i:=s1.length) (o:=1) (n:=48) (f:=false) (all:=ZW ⟨t,List.replicate 48 0⟩) (by simp) (by simp[ZW,Zu])];have c9:=(dR.mono (aB.new s1 (some ⟨false,ZW ⟨t,List.replicate 48 0⟩⟩))).lA 48;rw[<-ig,iR c9];have cg:=Zyf (β:=ah) (s:=s1) (A:=[.int .i64 t]) (B:=bU (List.replicate 48 0)) (D:=bU (b.take 48)) (by rw[Zu,Zu,Ko];rfl);refine Eq.mpr (congrArg (Ok _) (cg _)) ?_;have hco:([.int .i64 t]++bU (b.take 48):ah).length=49:=by rw[bB,Zu,Ko];rfl
   rw[jL (i:=s1.length) (o:=0) (n:=49) (f:=false) (all:=[.int .i64 t]++bU (b.take 48)) (by simp) (by rw[hco];omega)];rw[dK,dG (l:=[DV.int .i64 t]++bU (b.take 48)) (i:=49) (by rw[hco];omega)];show Ok _ (aD .i64 (.int .i64 t::bU (b.take 48)) _ _);simp only[av];have abL:(bU (b.take 48)).length=48:=by rw[Zu,Ko]
   rw[bI abL,bI (by rw[cO,abL]),Zd];exact .mk ⟨_,aH.trans (.new _ _),rfl,Ko,kO⟩
def Fx (T:al) (s s':St):Prop:=s.length<=s'.length/\∀(b:Nat) (x:Option bO),b∉T->s[b]? =some x->s'[b]? =some x
def Fx.refl (T:al) (s:St):Fx T s s:=⟨aQ _,λ_ _ _ h=>h⟩
def Fx.pre (T:al) (h:aB s s'):Fx T s s':=⟨h.len,λ_ _ _ e=>h.get e⟩
def Fx.trans {a b c:St} (h:Fx T a b) (k:Fx T b c):Fx T a c:=⟨gZ h.1 k.1,λi x n e=>k.2 i x n (h.2 i x n e)⟩
def Fx.step {a b c:St} (h:Fx T a b) (k:Fx T' b c) (hT: ∀x∈T',x∈T\/a.length<=x):Fx T a c:=
 ⟨gZ h.1 k.1,λi x n e=>k.2 i x (λhm=>by
  grind) (h.2 i x n e)⟩
def Fx.mono {a b:St} (h:Fx T a b) (k: ∀x∈T,x∈T'):Fx T' a b:=⟨h.1,λi x n e=>h.2 i x (λm=>n (k i m)) e⟩
def Fx.set (s:St) (j:Nat) (b:Option bO):Fx [j] s (s.set j b):=⟨by simp,by grind⟩
def lG (T:al) (a:ai):Prop:=∀b o,a=some (b,o)->b∉T
def Sl.fx {a:ai} (h:Sl s a cs) (k:Fx T s s') (n:lG T a):Sl s' a cs:=by
 cases a with
 |none=>exact h
 |some p=>
  obtain⟨i,o⟩:=p;obtain⟨f,all,h1,h2⟩:=h;exact⟨f,all,k.2 i _ (n i o rfl) h1,h2⟩
def Sl.lt (h:Sl s (some (i,o)) cs):i<s.length:=by
 obtain⟨f,all,h1,_⟩:=h;grind
def lG.new {a:ai} (h:lG T a) (k:Sl s a cs) (hT: ∀x∈T',x∈T\/s.length<=x):lG T' a:=by
 intro b o e hm;subst e;rcases hT b hm with h1|h1
 .exact h b o rfl h1
 .have:=Sl.lt k;omega
def Zv (W:al):ah:=W.map λ(w:Nat)=> .int .u64 w
def T0 (W:al):(Zv W).length=W.length:=by simp[Zv]
structure gy (s:St) (f:Bool) (i j n:Nat) (W:List Nat):Prop where
 hd:s[i]? =some (some ⟨f,[.int .i64 n,.slice 1 (some (j,0)) W.length]⟩)
 wd:s[j]? =some (some ⟨f,Zv W⟩)
 len:W.length=(n+63)/64
 lt: ∀w∈W,w<18446744073709551616
 le:n<=3072
def gy.fx (h:gy s f i j n W) (k:Fx T s s') (hi:i∉T) (hj:j∉T):gy s' f i j n W:=
 ⟨k.2 i _ hi h.hd,k.2 j _ hj h.wd,h.len,h.lt,h.le⟩
def gy.pre (h:gy s f i j n W) (k:aB s s'):gy s' f i j n W:=
 ⟨k.get h.hd,k.get h.wd,h.len,h.lt,h.le⟩
def fE (n:Nat) (a:Int):Bool:=decide (0<=a)&&decide (a<n)
def di (W:al) (a:Nat):Bool:=eE (W.getD (a/64) 0) (a%64)
def bK (n:Nat) (W:al) (a:Int):al:=bif fE n a then W.set (a.toNat/64) (W.getD (a.toNat/64) 0|||2^(a.toNat%64))else W
def oM (n:Nat) (W:al) (a:Int):(bK n W a).length=W.length:=by
 grind[bK]
def VQ {a:Int} (h: ∀w∈W,w<18446744073709551616): ∀w∈bK n W a,w<18446744073709551616:=by
 unfold bK;cases fE n a with
 |false=>exact h
 |true=>
  intro w hw;rw[ae]at hw;rcases List.mem_or_eq_of_mem_set hw with h1|h1
  .exact h w h1
  .rw[h1]
   refine Nat.or_lt_two_pow (n:=64) ?_ (Lq (by decide) (by omega));rw[dW];cases e:W[a.toNat/64]? with
   |none=>decide
   |some v=>exact h v (ur e)
def qM {a:Int} {b:Nat} (hl:W.length=(n+63)/64):di (bK n W a) b=(di W b||(fE n a&&decide (b=a.toNat))):=by
 unfold bK;cases hm:fE n a with
 |false=>simp[di]
 |true=>
  rw[ae,dF];unfold fE at hm;rw[aY,bu,bu]at hm;unfold di;have hk:a.toNat/64<W.length:=by omega
  by_cases hq:b/64=a.toNat/64
  .rw[hq,dW,kX hk]
   show eE (W.getD (a.toNat/64) 0|||2^(a.toNat%64)) (b%64)=_;have key: ∀w:Nat,eE (w|||2^(a.toNat%64)) (b%64)=(eE w (b%64)||decide (b=a.toNat)):=by
    intro w;unfold eE;rw[<-Nat.testBit_eq_decide_div_mod_eq,<-Nat.testBit_eq_decide_div_mod_eq,Nat.testBit_or,Nat.testBit_two_pow];grind
   rw[key,dW]
  grind
def ZnH (n:Nat) (a:Int) (st:St) (hs:gy st f i j m W):
  run Bd (n+1) 209 [.ptr (some (i,0)),.int .i64 a] st=some (.val [.bool (fE m a)],st):=by
 rw[Ze,h.aeF];unfold QP pO aA Zm Lb fE;simp only[eH,av,aq,Za,bd];by_cases h0:a>=0
 .rw[ax h0,ae,Zo hs.hd rfl]
  rfl
 .rw[aF h0,af]
  rfl
def V0 {a:Int} (h:0<=a):a.tdiv 64=((a.toNat/64:Nat):Int):=by
 grind
def Zxj {a:Int} (h:0<=a):a.tmod 64=((a.toNat%64:Nat):Int):=by
 grind
def ZzK (hw:w<18446744073709551616) (hj:j<64):(bits .and .u64 ((w:Int).fdiv (2^(min j 64))) 1==1)=eE w j:=by
 rw[nS (by omega),show((2:Int)^j)=((2^j:Nat):Int) by push_cast;rfl,tz];have h1:w/2^j<18446744073709551616:=C9 (E9 _ _) hw;rw[show(1:Int)=((1:Nat):Int)from rfl,DW h1 (by decide),Nat.and_one_is_mod];grind[eE]
def ZnE (n:Nat) (a:Int) (st:St) (hs:gy st f i j m W):
  run Bd (n+2) 184 [.ptr (some (i,0)),.int .i64 a] st=some (.val [.bool (fE m a&&di W a.toNat)],st):=by
 rw[Ze,h.aen];unfold Rm pO bq aA ix Lb;simp only[eH,av,aq,Za,bd];rw[Zk (ZnH n a st hs)];simp only[au,aq];cases hm:fE m a with
 |false=>rfl
 |true=>
  have qa:=hm;unfold fE at qa;rw[aY,bu,bu]at qa;have hle:=hs.le;have hlen:=hs.len;have hk:a.toNat/64<W.length:=by omega
  rw[ae,Zo hs.hd rfl];simp only[j9,bd];rw[V0 qa.1,Zxj qa.1,Zc,Zb (Zj hk),bp,bp];rw[Zo (d:= .int .u64 (W[a.toNat/64]'hk:Nat)) hs.wd (by rw[cR,gV];simp[Zv,hk])];simp only[bg];have aw:=hs.lt _ (kz hk);rw[Zb (ax (by omega)),ZzK aw (by omega),dF];unfold di;rw[dW,cq hk];rfl
def qD (h:st[j]? =some (some ⟨false,cs⟩)) (hk:k<cs.length) (K:M β):dI j k [d] K st=K (st.set j (some ⟨false,cs.set k d⟩)):=by
 unfold dI St.il;rw[h];simp only[iK,gA (show k+1<=cs.length by omega),ae,BL d cs k hk]
def gy.add (hs:gy st false i j m W) (mm:i≠j) (W':al) (hl:W'.length=W.length) (aw: ∀w∈W',w<18446744073709551616):gy (st.set j (some ⟨false,Zv W'⟩)) false i j m W':=by
 have hj:j<st.length:=(ef.1 hs.wd).1;refine⟨?_,?_,by rw[hl];exact hs.len,aw,hs.le⟩
 .rw[jv (by omega),hl];exact hs.hd
 grind
def Ia (n:Nat) (l:ak) (p:ai) (st:St) (hs:gy st false i j m W) (mm:i≠j) (hl:Sl st p (ints l)) (hp:lG [j] p) (gp:l.length<1000000:=by omega) (hn:l.length+3<=n:=by omega):
  run Bd n 206 [.ptr (some (i,0)),.slice 1 p l.length] st=some (.val [],st.set j (some ⟨false,Zv (l.foldl (bK m) W)⟩)):=by
 obtain⟨n,rfl⟩: ∃k,n=k+2:=⟨n-2,by omega⟩;rw[Ze,h.aeD];unfold Rf bV Q_ cM Zn bq ix Li kZ;simp only[eH,aX,aq,Za];refine ok_eq ?_;have e0:st=st.set j (some ⟨false,Zv W⟩):=by
  refine tg λk=>?_
  by_cases e:j=k
  .grind[hs.wd]
  grind
 refine Zi _ (λq y s=>∃k:Nat,y=[.int .i64 k]/\k<=l.length/\l.length-k<=q/\s=st.set j (some ⟨false,Zv ((l.take k).foldl (bK m) W)⟩)/\gy s false i j m ((l.take k).foldl (bK m) W)) ?_ l.length (n+1) _ _ (by grind) (by omega);rintro q _ s ⟨k,rfl,hk,hq,cg,kN⟩ rec aN;simp only[av,aq];by_cases aw:k<l.length
 .have Eg:Sl s p (ints l):=by rw[cg];exact Sl.fx hl (Fx.set st j _) hp
  obtain⟨i1,o1,rfl⟩:=Eg.cH (by simp[ints];omega);rw[ax (show(k:Int)<(l.length:Int) by omega),ae,bd,Zb (Zj aw),bp,Eg.dJ (ZD aw)];simp only[bg];rw[Zk (ZnH n l[k] s kN)];simp only[au,aq];have hw:ar ((k:Int)+1)=((k+1:Nat):Int):=Zc;have fZ:(l.take (k+1)).foldl (bK m) W=bK m ((l.take k).foldl (bK m) W) l[k]:=by
   rw[lV aw,zn];rfl
  generalize hV:(l.take k).foldl (bK m) W=V at cg kN fZ;cases hm:fE m l[k]with
  |false=>
   rw[af,hw];have Ce:bK m V l[k]=V:=by unfold bK;rw[hm];rfl
   exact aN (l.length-(k+1)) _ _ (by omega) (by grind)
  |true=>
   have qa:=hm;unfold fE at qa;rw[aY,bu,bu]at qa;have hle:=hs.le;have hlen:=kN.len;have AE:l[k].toNat/64<V.length:=by omega
   rw[ae,bd,Zo kN.hd rfl];simp only[j9,bd];rw[V0 qa.1,Zxj qa.1,Zc,Zb (Zj AE),bp,bp];rw[Zo (d:= .int .u64 (V[l[k].toNat/64]'AE:Nat)) kN.wd (by rw[cR,gV];simp[Zv,AE])];simp only[bg];have aw:=kN.lt _ (kz AE);have aU:2^(l[k].toNat%64)<18446744073709551616:=Lq (a:=2) (n:=64) (by decide) (by omega);rw[Zb (ax (by omega)),Zb (Zj AE),nS (by omega),Int.one_mul,show((2:Int)^(l[k].toNat%64))=((2^(l[k].toNat%64):Nat):Int) by push_cast;rfl,qP aU,acv aw aU];rw[qD kN.wd (by rw[T0,cR,gV];exact AE),hw,cR];have Ce:bK m V l[k]=V.set (l[k].toNat/64) (V[l[k].toNat/64]'AE|||2^(l[k].toNat%64)):=by
    unfold bK;rw[hm,ae,dW,cq AE];rfl
   have Cg:(Zv V).set (l[k].toNat/64+0) (.int .u64 ((V[l[k].toNat/64]'AE|||2^(l[k].toNat%64):Nat):Int))=Zv (bK m V l[k]):=by
    rw[Ce,gV];unfold Zv;rw[List.map_set]
   rw[Cg];refine aN (l.length-(k+1)) _ _ (by omega) ⟨k+1,rfl,by omega,aQ _,?_,?_⟩
   .rw[fZ,cg,List.set_set]
   .rw[fZ];exact kN.add mm _ (oM _ _ _) (VQ kN.lt)
 .rw[aF (show ¬(k:Int)<(l.length:Int) by omega),af]
  simp only[Zd];rw[cg,dG (by omega)];exact .mk rfl
def jd (n:Nat) (l:ak):al:=l.foldl (bK n) (List.replicate ((n+63)/64) 0)
def ZF (n:Nat): ∀(l:ak) (W:al),(l.foldl (bK n) W).length=W.length/\((∀w∈W,w<18446744073709551616)->∀w∈l.foldl (bK n) W,w<18446744073709551616)
 |[],_=>⟨rfl,id⟩
 |a::l,W=>⟨by rw[Bb,(ZF n l _).1,oM],λh=>(ZF n l _).2 (VQ h)⟩
def Ua (n m:Nat) (l:ak) (p:ai) (st:St) (hm:m<=3072) (hl:Sl st p (ints l)) (gp:l.length<1000000) (hn:l.length+4<=n):
  ∃s',run Bd n 177 [.int .i64 m,.slice 1 p l.length] st=some (.val [.ptr (some (st.length+1,0))],s')/\aB st s'/\s'.length=st.length+2/\gy s' false (st.length+1) st.length m (jd m l):=by
 obtain⟨n,rfl⟩: ∃k,n=k+1:=⟨n-1,by omega⟩;rw[Ze,h.aaX];unfold Uy bV C_ kZ uD Lp;simp only[av,aX,aq];have h0:(if ((m:Nat):Int)<0 then(0:Int)else m)=m:=bj (by omega);have h1:(if (3072:Int)<((m:Nat):Int)then(3072:Int)else m)=m:=bj (by omega);have h2:ar ((ar ((ar (((m:Nat):Int)+64))-1)).tdiv 64)=(((m+63)/64:Nat):Int):=by
  rw[Zc (x:=((m:Nat):Int)+64),show(((m:Nat):Int)+64-1)=((m+63:Nat):Int) by omega,Zc (x:=((m+63:Nat):Int)),show(((m+63:Nat):Int).tdiv 64)=(((m+63)/64:Nat):Int)from rfl];exact Zc
 simp only[h0,h1,h2,bp];rw[Zb (by rw[aY,aY,bu,bu,bu];omega),Zz,Zz];have hw:gY ((m+63)/64) [DV.int .u64 0]=Zv (List.replicate ((m+63)/64) 0):=by rw[FW];simp[Zv]
 rw[hw];have On:(st++[some (⟨false,Zv (List.replicate ((m+63)/64) 0)⟩:bO)]).length=st.length+1:=by simp
 rw[On];have hp:aB st (st++[some (⟨false,Zv (List.replicate ((m+63)/64) 0)⟩:bO)]++[some (⟨false,[.int .i64 m,.slice 1 (some (st.length,0)) ((m+63)/64)]⟩:bO)]):=(aB.new _ _).trans (.new _ _);have kN:gy (st++[some (⟨false,Zv (List.replicate ((m+63)/64) 0)⟩:bO)]++[some (⟨false,[.int .i64 m,.slice 1 (some (st.length,0)) ((m+63)/64)]⟩:bO)]) false (st.length+1) st.length m (List.replicate ((m+63)/64) 0):=by
  refine⟨?_,?_,by simp,by simp,hm⟩
  .rw[lE (by simp)];simp
  simp
 have GN:(st++[some (⟨false,Zv (List.replicate ((m+63)/64) 0)⟩:bO)]++[some (⟨false,[.int .i64 m,.slice 1 (some (st.length,0)) ((m+63)/64)]⟩:bO)]).length=st.length+2:=by simp
 generalize st++[some (⟨false,Zv (List.replicate ((m+63)/64) 0)⟩:bO)]++[some (⟨false,[.int .i64 m,.slice 1 (some (st.length,0)) ((m+63)/64)]⟩:bO)]=s2 at hp kN GN;have El:lG [st.length] p:=by
  intro b o e hb;subst e;have:=Sl.lt hl;rw[cB.1 hb]at this;omega
 rw[Zk (Ia n l p s2 kN (by omega) (hl.mono hp) El gp)];simp only[aq,Zd];exact⟨_,rfl,tC hp (aQ _) _,by simp[GN],kN.add (by omega) _ (ZF m l _).1 ((ZF m l _).2 kN.lt)⟩
end Go.Gv.F
