/- Numbers as octets, the least one first. -/
import Derived.Test.YtjcghijjmhhldaaGreatDoorGvZPg
set_option linter.all false
namespace Go.Gv.F
open Go.Gv
def da:aj->Nat
 |[]=>0
 |c::l=>c.toNat+256*da l
def cI:Nat->Nat->aj
 |_,0=>[]
 |v,n+1=>UInt8.ofNat v::cI (v/256) n
theorem ZH: ∀(v n:Nat),(cI v n).length=n
 |_,0=>rfl
 |v,n+1=>by rw[cI,eK,ZH]
theorem Bj: ∀(l:aj),da l<256^l.length
 |[]=>by decide
 |c::l=>by
  have h1:=c.toNat_lt;have h2:=Bj l;rw[da,eK,Nat.pow_succ];omega
theorem ZpA: ∀(l:aj),cI (da l) l.length=l
 |[]=>rfl
 |c::l=>by
  have h1:=c.toNat_lt;rw[da,eK,cI,show(c.toNat+256*da l)/256=da l by omega,ZpA l];simp
theorem Zqx: ∀(l m:aj),da (l++m)=da l+256^l.length*da m
 |[],m=>by simp[da]
 |c::l,m=>by
  rw[qN,da,da,Zqx l m,eK,Nat.pow_succ,Nat.mul_add,<-Nat.mul_assoc,Nat.mul_comm 256 (256^l.length)];omega
theorem Lj: ∀(v m n:Nat),cI v (m+n)=cI v m++cI (v/256^m) n
 |v,0,n=>by simp[cI]
 |v,m+1,n=>by
  rw[show m+1+n=(m+n)+1 by omega,cI,cI,Lj (v/256) m n,qN,Nat.pow_succ,Nat.mul_comm (256^m),Nat.div_div_eq_div_mul]
def kC (x:Nat):Nat:=if x%2=1 then(x/2)^^^2197175160 else x/2
def ZC:Nat->Nat->Nat
 |0,x=>x
 |n+1,x=>ZC n (kC x)
def nE (x:Nat) (c:UInt8):Nat:=ZC 8 (x^^^c.toNat)
def mb (l:aj):Nat:=4294967295-l.foldl nE 4294967295
theorem ZtA (a b:Nat):(a^^^b)%2=(a+b)%2:=by
 have h:=Nat.testBit_xor a b 0;grind
theorem ZsJ (a b:Nat):(a^^^b)/2=(a/2)^^^(b/2):=by
 have:=Nat.shiftRight_xor_distrib (a:=a) (b:=b) (i:=1);grind[Nat.shiftRight_succ]
theorem ZrA (a b:Nat):kC (a^^^b)=kC a^^^kC b:=by
 unfold kC;rw[ZtA,ZsJ];rcases Nat.mod_two_eq_zero_or_one a with ha|ha<;>rcases Nat.mod_two_eq_zero_or_one b with hb|hb
 .rw[cG AC,cG AC,cG AC]
 .rw[bO AC,cG AC,bO AC,Nat.xor_assoc]
 .rw[bO AC,bO AC,cG AC,Nat.xor_assoc,Nat.xor_comm (b/2),<-Nat.xor_assoc]
 grind
theorem ZlS: ∀(n a b:Nat),ZC n (a^^^b)=ZC n a^^^ZC n b
 |0,_,_=>rfl
 |n+1,a,b=>by rw[ZC,ZC,ZC,ZrA,ZlS n]
theorem ZlO: ∀(m n x:Nat),ZC (m+n) x=ZC n (ZC m x)
 |0,n,x=>by rw[ei];rfl
 |m+1,n,x=>by rw[show m+1+n=(m+n)+1 by omega,ZC,ZC,ZlO m n]
theorem Ei (z:Nat):kC (2*z)=z:=by simp[kC]
theorem Ztx (x:Nat):x=(16*(x/16))^^^(x%16):=by
 refine Nat.eq_of_testBit_eq λi=>?_
 rw[Nat.testBit_xor];have e1:(16*(x/16)).testBit i=(decide (4<=i)&&x.testBit i):=by
  rw[show 16*(x/16)=2^4*(x/2^4)from rfl,Nat.testBit_two_pow_mul];by_cases h:4<=i
  .rw[aI h,Nat.testBit_div_two_pow,show i-4+4=i by omega]
  grind
 have e2:(x%16).testBit i=(decide (i<4)&&x.testBit i):=by
  rw[show x%16=x%2^4 from rfl,Nat.testBit_mod_two_pow]
 rw[e1,e2];by_cases h:4<=i
 .rw[aI h,aK AC];simp
 grind
theorem nib (x:Nat):ZC 4 x=(x/16)^^^ZC 4 (x%16):=by
 have h:ZC 4 (16*(x/16))=x/16:=by
  generalize x/16=y;show kC (kC (kC (kC (16*y))))=y;rw[show 16*y=2*(2*(2*(2*y))) by omega,Ei,Ei,Ei,Ei]
 have h2:=ZlS 4 (16*(x/16)) (x%16);rw[<-Ztx,h]at h2;exact h2
theorem Zou {x:Nat} (h:x<4294967296):kC x<4294967296:=by
 unfold kC;split
 .exact Ac (n:=32) AC AC
 .omega
theorem AL: ∀(n:Nat) {x:Nat},x<4294967296->ZC n x<4294967296
 |0,_,h=>h
 |n+1,_,h=>AL n (Zou h)
theorem Zte {x:Nat} (h:x<4294967296) (c:UInt8):nE x c<4294967296:=
 AL 8 (Ac (n:=32) h (by have:=c.toNat_lt;omega))
theorem Bg: ∀(l:aj) {x:Nat},x<4294967296->l.foldl nE x<4294967296
 |[],_,h=>h
 |c::l,_,h=>Bg l (Zte h c)
theorem LC (l:aj):mb l<4294967296:=by unfold mb;omega
theorem ZsF (x:Nat) (c:UInt8):nE x c=((((x^^^c.toNat)/16)^^^ZC 4 ((x^^^c.toNat)%16))/16)^^^ZC 4 ((((x^^^c.toNat)/16)^^^ZC 4 ((x^^^c.toNat)%16))%16):=by
 unfold nE;generalize x^^^c.toNat=y;rw[show ZC 8 y=ZC 4 (ZC 4 y)from ZlO 4 4 y,nib y];exact nib _
theorem ZtS {x:Nat} (h:x<4294967296):x^^^4294967295=4294967295-x:=by
 refine Nat.eq_of_testBit_eq λi=>?_
 rw[show(4294967295:Nat)=2^32-1 from rfl,Nat.testBit_xor,Nat.testBit_two_pow_sub_one,show 2^32-1-x=2^32-(x+1) by omega,Nat.testBit_two_pow_sub_succ AC];by_cases hi:i<32
 .rw[aI hi];simp
 .rw[aK hi]
  have:x.testBit i=false:=Nat.testBit_lt_two_pow (lR (AC:x<2^32) (xC EQ AC));simp[this]
variable {β:Type}
theorem rl {x:Nat} (h:x<18446744073709551616:=by omega):IntKind.wrap .u64 (x:Int)=x:=IntWalk.u64_in _ AC
theorem uE {x:Nat} (h:x<4294967296:=by omega):IntKind.wrap .u32 (x:Int)=x:=by
 show(x:Int)%_=x;have:((2:Int)^32)=4294967296:=EQ
 show(x:Int)%(2^32)=x;omega
theorem Ztc (x:Nat):IntKind.wrap .u64 (x:Int)=((x%18446744073709551616:Nat):Int):=by
 rfl
theorem Bt {x:Nat} (h:x<18446744073709551616):(BitVec.ofInt 64 (x:Int)).toNat=x:=by
 rw[BitVec.toNat_ofInt];omega
theorem Fm {x:Nat} (h:x<4294967296):(BitVec.ofInt 32 (x:Int)).toNat=x:=by
 rw[BitVec.toNat_ofInt];omega
variable {f:Bool} {d:DV} {i j k m n o r t w y:Nat} {s s' st:St} {l:aj} {T T':al}
theorem QT {x:Nat} (hx:x<18446744073709551616) (hy:y<18446744073709551616):bits .or .u64 (x:Int) (y:Int)=((x|||y:Nat):Int):=by
 show IntKind.wrap .u64 ((BitVec.ofInt 64 (x:Int)|||BitVec.ofInt 64 (y:Int)).toNat:Int)=_;rw[BitVec.toNat_or,Bt hx,Bt hy];exact rl (Nat.or_lt_two_pow (n:=64) hx hy)
theorem O5 {x:Nat} (hx:x<18446744073709551616) (hy:y<18446744073709551616):bits .and .u64 (x:Int) (y:Int)=((x&&& y:Nat):Int):=by
 show IntKind.wrap .u64 ((BitVec.ofInt 64 (x:Int)&&& BitVec.ofInt 64 (y:Int)).toNat:Int)=_;rw[BitVec.toNat_and,Bt hx,Bt hy];exact rl (Aa Nat.and_le_left hx)
theorem xj {x:Nat} (hx:x<4294967296) (hy:y<4294967296:=by omega):bits .xor .u32 (x:Int) (y:Int)=((x^^^y:Nat):Int):=by
 show IntKind.wrap .u32 ((BitVec.ofInt 32 (x:Int)^^^BitVec.ofInt 32 (y:Int)).toNat:Int)=_;rw[BitVec.toNat_xor,Fm hx,Fm hy];exact uE (Ac (n:=32) hx hy)
theorem O4 {x:Nat} (hx:x<4294967296) (hy:y<4294967296):bits .and .u32 (x:Int) (y:Int)=((x&&& y:Nat):Int):=by
 show IntKind.wrap .u32 ((BitVec.ofInt 32 (x:Int)&&& BitVec.ofInt 32 (y:Int)).toNat:Int)=_;rw[BitVec.toNat_and,Fm hx,Fm hy];exact uE (Aa Nat.and_le_left hx)
theorem vY (x m:Nat):Int.fdiv (x:Int) (m:Int)=((x/m:Nat):Int):=by
 grind
def aN (l:aj):af:=l.map λb=> .u b.toNat
theorem vX (l:aj):ZR l=aN l:=rfl
theorem Zp (l:aj):(aN l).length=l.length:=by simp[aN]
theorem EC {b:UInt8} (h:l[j]? =some b):(aN l)[j]? =some (.u b.toNat):=by grind[aN]
theorem Zsj (l:aj) (k:Nat):(aN l).drop k=aN (l.drop k):=by simp[aN]
theorem ZrM (l:aj) (k:Nat):(aN l).take k=aN (l.take k):=by simp[aN]
theorem pJ (l m:aj):aN (l++m)=aN l++aN m:=by simp[aN]
def cC (s:St) (a:ah) (l:aj):Prop:=Sl s a (aN l)
theorem cC.mono {s s':St} (k:ax s s') {a:ah} {l:aj} (h:cC s a l):cC s' a l:=Sl.mono k h
theorem cC.get {s:St} {i o:Nat} {l:aj} (h:cC s (some (i,o)) l) {j:Nat} {b:UInt8} (hb:l[j]? =some b) (K:DV->M β):bc i (j+o) K s=K (.u b.toNat) s:=Sl.get h (EC hb) K
theorem cC.fj (h:cC s (some (i,o)) l) {b:UInt8} (hb:l[j]? =some b) (K:DV->M β):bc i (j*1+o) K s=K (.u b.toNat) s:=by rw[cL];exact h.get hb K
theorem cC.dP {s:St} {a:ah} {l:aj} (h:cC s a l) (hn:0<l.length): ∃i o,a=some (i,o):=Sl.dP h (by rw[Zp];exact hn)
theorem Sl.sub {cs:af} (h:Sl s (some (i,o)) cs) (hk:k<=cs.length):Sl s (some (i,k+o)) (cs.drop k):=by
 have⟨f,all,h1,h2,h3⟩:=h;refine⟨f,all,h1,by rw[ft];omega,?_⟩;rw[ft,show k+o=o+k by omega,<-kd,<-xm,h3]
theorem Sl.cR {s:St} {a:ah} {cs:af} (h:Sl s a cs) {k:Nat} (hk:k<=cs.length):Sl s (cR true a k) (cs.drop k):=by
 cases a with
 |none=>rw[show cs=[]from h];simp[Go.Gv.cR,Sl]
 |some p=>exact Sl.sub h hk
theorem Sl.js {a:ah} {cs:af} (h:Sl s a cs) (k:Nat):Sl s a (cs.take k):=by
 cases a with
 |none=>rw[show cs=[]from h];simp[Sl]
 |some p=>
  have⟨f,all,h1,h2,h3⟩:=h;refine⟨f,all,h1,by rw[dh];omega,?_⟩;rw[dh,<-List.take_take,h3]
theorem cC.cR {s:St} {a:ah} {l:aj} (h:cC s a l) {k:Nat} (hk:k<=l.length):cC s (cR true a k) (l.drop k):=by
 unfold cC;rw[<-Zsj];exact Sl.cR h (by rw[Zp];exact hk)
theorem cC.js {s:St} {a:ah} {l:aj} (h:cC s a l) (k:Nat):cC s a (l.take k):=by
 unfold cC;rw[<-ZrM];exact Sl.js h k
variable {Bd:Ze} [h:HA Bd]
theorem Zil (n:Nat) (a:ah) (len at' k:Nat) (st:St) (hl:len<1000000) (hk:k<1000000:=by omega):
  run Bd (n+1) 261 [.slice 1 a len,.i at',.i k] st=some (.val [.bool (decide (at'+k<=len))],st):=by
 rw[Zb,h.S6];unfold IT qY aB Lb;simp only[bd,ar,aA,ao,Zi,aI (AC:(at':Int)>=0),aI (AC:(k:Int)>=0),aa];by_cases h1:k<=len
 .rw[aI (AC:(k:Int)<=(len:Int)),aa]
  rw[Zc,Zh];by_cases h2:at'+k<=len
  .rw[aI h2,aI AC]
  grind
 .rw[aK (AC:¬(k:Int)<=(len:Int)),ae]
  rw[Zh,aK AC]
theorem ok_eq {x:Option (Out β×St)} {o:Out β×St} (h:Ok (λp=>p=o) x):x=some o:=by
 obtain⟨_,e,rfl⟩:=h;exact e
theorem Zsv (l:aj) (c:UInt8):da (l++[c])=da l+256^l.length*c.toNat:=by
 rw[Zqx];simp[da]
theorem Zt4 {x c:Nat} (hx:x<2^k):x|||(c*2^k)=x+c*2^k:=by
 rw[Nat.or_comm,Nat.mul_comm,<-Nat.two_pow_add_eq_or_of_lt hx,oz]
theorem L7 (k:Nat):256^k=2^(8*k):=by rw[Nat.pow_mul]
theorem Z4 (n:Nat) (a:ah) (l:aj) (st:St) (ha:cC st a l) (hl:l.length<=8:=by omega) (hn:12<=n:=by omega):
  run Bd n 285 [.slice 1 a l.length] st=some (.val [.w (da l)],st):=by
 obtain _|n:=n;omega;rw[Zb,h.Pu];unfold DI bG uG sQ cV ZD
 try dsimp only
 rw[bd,ao];have hif:(if (8:Int)<(l.length:Int)then(8:Int)else(l.length:Int))=(l.length:Int):=cG AC;rw[hif,Zg Do,Zi];refine ok_eq ?_;refine Zn _ (λq y s=>∃k:Nat,y=[.w (da (l.take k)),.i k]/\s=st/\k<=l.length/\l.length-k<=q) ?_ l.length n _ _ ⟨0,by simp[da],rfl,eB _,AC⟩ AC;rintro q _ s ⟨k,rfl,rfl,hk,hq⟩ rec aQ;simp only[ar,ao,bw];by_cases aw:k<l.length
 .rw[aI (AC:(k:Int)<(l.length:Int)),aa]
  obtain⟨i,o,rfl⟩:=ha.dP AC;have⟨c,hc⟩: ∃c,l[k]? =some c:=by simp_all
  rw[aD,Zg (Zo aw),ha.fj hc,bm,Zc,Zg (aI AC),Zc];have wz:=c.toNat_lt;have e1:(8*(k:Int)).toNat=8*k:=AC
  have hp:c.toNat*2^(8*k)<18446744073709551616:=by
   have h1:c.toNat*2^(8*k)<2^8*2^(8*k):=Nat.mul_lt_mul_of_pos_right AC (Nat.two_pow_pos _);have h2:2^8*2^(8*k)<=2^64:=by rw[<-Nat.pow_add];exact xC EQ AC
   omega
  rw[e1,je AC,rl];have e2:((c.toNat:Int)*2^(8*k))=((c.toNat*2^(8*k):Nat):Int):=by push_cast;rfl
  rw[e2,rl hp];have P6:da (l.take k)<2^(8*k):=by
   have:=Bj (l.take k);rwa [dh,je AC,L7]at this
  have Vf:da (l.take k)<18446744073709551616:=lR P6 (by
   have:2^(8*k)<=2^64:=xC EQ AC;omega)
  rw[QT Vf hp,Zt4 P6];refine aQ (l.length-(k+1)) _ _ AC ⟨k+1,?_,rfl,AC,aW _⟩;have e3:l.take (k+1)=l.take k++[c]:=by
   rw[xy,hc];rfl
  rw[e3,Zsv,dh,je AC,L7,Nat.mul_comm];simp
 .rw[aK (AC:¬(k:Int)<(l.length:Int)),ae]
  rw[Zh,dJ AC];exact .mk rfl
def rd (l:aj) (at' k:Nat):Nat:=da ((l.drop at').take k)
def ZV (l:aj):Bool:=l.all (· ==0)
theorem vM (n:Nat) (a:ah) (l:aj) (at' k:Nat) (st:St) (ha:cC st a l) (hl:l.length<1000000:=by omega) (hk:at'+k<=l.length:=by omega) (hn:k+5<=n:=by omega):
  run Bd n 238 [.slice 1 a l.length,.i at',.i k] st=some (.val [.bool (ZV ((l.drop at').take k))],st):=by
 obtain⟨n,rfl⟩: ∃m,n=m+2:=⟨n-2,AC⟩;rw[Zb,h.SL];unfold Iv qY bA Q_ bY ZY Lb Li;simp only[bd,ar,ao];rw[Zj (Zil n a l.length at' k st hl),aA,ao,aI hk,bU,ae,Zc];have e1:((at':Int)+(k:Int)).toNat=at'+k:=AC
 rw[e1,Zg (by simp;omega),Zg (by simp;omega),Zi];simp only[bw,cL,show at'+k-at'=k by omega];refine ok_eq ?_;have hb:=ha.cR (k:=at') AC;generalize hm:l.drop at'=m at hb;have nu:k<=m.length:=by rw[<-hm,ft];omega
 refine Zn _ (λq y s=>∃j:Nat,y=[.i j]/\s=st/\j<=k/\k-j<=q/\ZV (m.take j)=true) ?_ k (n+1) _ _ ⟨0,rfl,rfl,eB _,AC,rfl⟩ AC;rintro q _ s ⟨j,rfl,rfl,hj,hq,hz⟩ rec aQ;simp only[ar,ao];by_cases aw:j<k
 .rw[aI (AC:(j:Int)<(k:Int)),aa]
  have⟨i,o,hio⟩:=hb.dP AC;rw[hio]at hb⊢;have⟨c,hc⟩: ∃c,m[j]? =some c:=⟨_,dt AC⟩;rw[aD,Zg (Zo aw),bw,hb.get hc,bm];by_cases h0:c=0
  .subst h0
   rw[show(!((((0:UInt8).toNat:Nat):Int)==0))=false from rfl,ae,Zc];refine aQ (k-(j+1)) _ _ AC ⟨j+1,Do,rfl,AC,aW _,?_⟩;have e3:m.take (j+1)=m.take j++[0]:=by rw[xy,hc];rfl
   rw[e3];simp[ZV]at hz⊢;exact hz
  .have hc0:c.toNat≠0:=λe=>h0 (UInt8.toNat_inj.1 e)
   have e2:(!((c.toNat:Int)==0))=true:=by
    rw[nN];grind
   rw[e2,aa,Zh];refine .mk ?_;have:ZV (m.take k)=false:=by
    cases e:ZV (m.take k)with
    |false=>rfl
    |true=>
     unfold ZV at e;rw[sD]at e;have:=e c (z7 (i:=j) (by rw[ug,bO aw];exact hc));grind
   rw[this]
 .rw[aK (AC:¬(j:Int)<(k:Int)),ae]
  rw[Zh];have:j=k:=AC
  subst this;rw[hz];exact .mk rfl
theorem Zo6 (n:Nat) (a:ah) (l:aj) (at' k:Nat) (st:St) (ha:cC st a l) (hl:l.length<1000000) (h1:1<=k) (h8:k<=8) (hk:at'+k<=l.length) (hn:20<=n):
  run Bd n 312 [.slice 1 a l.length,.i at',.i k] st=some (.val [.w (rd l at' k),.bool true],st):=by
 obtain⟨n,rfl⟩: ∃m,n=m+2:=⟨n-2,AC⟩;rw[Zb,h.Ts];unfold JC qY aB kR bA bh Lb ZY;simp only[bd,ar,ao,Zi,aK (AC:¬(k:Int)<1),aK (AC:¬(k:Int)>8),ae,aA];rw[Zj (Zil n a l.length at' k st hl),aA,ao,aI hk,bU,ae,Zc];have e1:((at':Int)+(k:Int)).toNat=at'+k:=AC
 rw[e1,Zg (by simp;omega),Zg (by simp;omega),bw,cL,show at'+k-at'=k by omega];have hb:=(ha.cR (k:=at') AC).js k;have hlen:((l.drop at').take k).length=k:=by rw[dh,ft];omega
 have hr:=Z4 (n+1) _ _ st hb;rw[hlen]at hr;rw[Zj hr];rfl
def si (x:Nat):af:=(List.range 16).map λi=> .y (if i<x then(ZC 4 i:Nat)else 0)
def zS:af:=si 16
theorem ZsW: ∀x,x<16->cT (si x) (x*1) [.y (ZC 4 x:Nat)]=si (x+1)
 |0,_=>rfl|1,_=>rfl|2,_=>rfl|3,_=>rfl|4,_=>rfl|5,_=>rfl|6,_=>rfl|7,_=>rfl
 |8,_=>rfl|9,_=>rfl|10,_=>rfl|11,_=>rfl|12,_=>rfl|13,_=>rfl|14,_=>rfl|15,_=>rfl
 |n+16,h=>by omega
theorem Zpp (h:j<16):zS[j]? =some (.y (ZC 4 j:Nat)):=by
 grind[zS,si]
theorem Eu (x:Nat):(si x).length=16:=by unfold si;simp
theorem Zp5 (n:Nat) (x:Nat) (hx:x<4294967296) (st:St):run Bd (n+1) 320 [.y x] st=some (.val [.y (kC x)],st):=by
 rw[Zb,h.Tz];unfold Ko iI kC
 try dsimp only
 rw[ar,ao];have ha:bits .and .u32 (x:Int) 1=((x%2:Nat):Int):=by
  have:=O4 hx (EQ:2^1-1<4294967296);rw[Nat.and_two_pow_sub_one_eq_mod]at this;exact this
 rw[ha,show((2:Int)^1)=((2:Nat):Int)from rfl,vY];have h2:x/2<4294967296:=AC
 rcases Nat.mod_two_eq_zero_or_one x with e|e
 .rw[e,show(((0:Nat):Int)==1)=false from rfl,ae,cG AC,Zh]
 .rw[e,show(((1:Nat):Int)==1)=true from rfl,aa,bO rfl]
  rw[show(2197175160:Int)=((2197175160:Nat):Int)from rfl,xj h2,Zh]
theorem DU: ∀(n x:Nat),ZC (n+1) x=kC (ZC n x)
 |0,_=>rfl
 |n+1,x=>by rw[ZC,DU n,ZC]
theorem Zo7 (n:Nat) (hn:30<=n) (st:St):run Bd n 317 [] st=some (.val [.agg zS],st):=by
 obtain⟨n,rfl⟩: ∃m,n=m+2:=⟨n-2,AC⟩;rw[Zb,h.Tw];unfold JK bQ rn ra nc iI ly;simp only[ao,Zi];refine ok_eq ?_;refine Zn _ (λq y s=>∃x:Nat,y=[.agg (si x),.i x]/\s=st/\x<=16/\16-x<=q) ?_ 16 (n+1) _ _ ⟨0,rfl,rfl,AC,AC⟩ AC;rintro q _ s ⟨x,rfl,rfl,hx,hq⟩ rec aQ;simp only[cU,ar,ao,bV (Eu x)];by_cases aw:x<16
 .rw[aI (AC:(x:Int)<16),aa]
  rw[uE];refine Zn _ (λq y s'=>∃j:Nat,y=[.y (ZC j x),.i j]/\s'=s/\j<=4/\4-j<=q) ?_ 4 (n+1) _ _ ⟨0,rfl,rfl,AC,AC⟩ AC;rintro q' _ s' ⟨j,rfl,rfl,hj,u5⟩ gv Co;simp only[ar,ao];by_cases hj4:j<4
  .rw[aI (AC:(j:Int)<4),aa]
   rw[Zj (Zp5 n (ZC j x) (AL j AC) s'),ar,ao,Zc];exact Co (4-(j+1)) _ _ AC ⟨j+1,by rw[DU];simp,rfl,AC,aW _⟩
  .rw[aK (AC:¬(j:Int)<4),ae]
   have:j=4:=AC
   subst this;rw[Zg (by rw[Zo aw]),bw,Zg (by simp;omega),ZsW x aw,bV (Eu (x+1)),Zc];exact aQ (16-(x+1)) _ _ AC Fd
 .rw[aK (AC:¬(x:Int)<16),ae,Zh]
  have:x=16:=AC
  subst this;exact .mk rfl
theorem Zmf (n x ti:Nat) (a:ah) (l:aj) (st:St) (ht:Sl st (some (ti,0)) zS) (ha:cC st a l) (hx:x<4294967296) (hl:l.length<1000000) (hn:l.length+3<=n):
  run Bd n 318 [.ptr (some (ti,0)),.y x,.slice 1 a l.length] st=some (.val [.y (l.foldl nE x:Nat)],st):=by
 obtain _|n:=n;omega;rw[Zb,h.Tx];unfold Ik bG rn ra N_ iI ly
 try dsimp only
 rw[bF,ar,bd,ao,Zi];refine ok_eq ?_;refine Zn _ (λq y s=>∃k:Nat,y=[.y ((l.take k).foldl nE x:Nat),.i k]/\s=st/\k<=l.length/\l.length-k<=q) ?_ l.length n _ _ Fd AC;rintro q _ s ⟨k,rfl,rfl,hk,hq⟩ rec aQ;simp only[ar,ao];by_cases aw:k<l.length
 .rw[aI (AC:(k:Int)<(l.length:Int)),aa]
  obtain⟨i,o,rfl⟩:=ha.dP AC;have⟨c,hc⟩: ∃c,l[k]? =some c:=⟨_,dt aw⟩;rw[aD,Zg (Zo aw),bw,ha.fj hc,bm];have wz:=c.toNat_lt;have hy:(l.take k).foldl nE x<4294967296:=Bg _ hx;have e3:(l.take (k+1)).foldl nE x=nE ((l.take k).foldl nE x) c:=by
   have:l.take (k+1)=l.take k++[c]:=by rw[xy,hc];rfl
   rw[this,Dc];rfl
  generalize (l.take k).foldl nE x=y at hy e3;have hz:y^^^c.toNat<4294967296:=Ac (n:=32) hy AC;rw[uE,xj hy];rw[ZsF]at e3;generalize y^^^c.toNat=z at hz e3;have O3: ∀z:Nat,z<4294967296->bits .and .u32 (z:Int) 15=((z%16:Nat):Int):=λz hz=>by
   have:=O4 hz (EQ:2^4-1<4294967296);rw[Nat.and_two_pow_sub_one_eq_mod]at this;exact this
  have f16: ∀z:Nat,Int.fdiv (z:Int) (2^4)=((z/16:Nat):Int):=λz=>vY z 16
  have m16:z%16<16:=vy _ EQ;have qF:ZC 4 (z%16)<4294967296:=AL 4 AC;rw[O3 z hz,aD,Zg (Zo m16),bw,ht.fj (Zpp m16),bm,f16,xj AC qF];have hw:z/16^^^ZC 4 (z%16)<4294967296:=Ac (n:=32) AC qF;generalize z/16^^^ZC 4 (z%16)=w at hw e3;have QI:w%16<16:=vy _ EQ;rw[O3 w hw,aD,Zg (Zo QI),bw,ht.fj (Zpp QI),bm,f16,xj AC (AL 4 AC),Zc];exact aQ (l.length-(k+1)) _ _ AC Fd
 .rw[aK (AC:¬(k:Int)<(l.length:Int)),ae,Zh,dJ AC]
  exact .mk rfl
theorem Zny {cs ds:af} (hl:ds.length=cs.length) (K:M β):bB s.length 0 ds K (s++[some ⟨false,cs⟩])=K (s++[some ⟨false,ds⟩]):=by
 unfold bB St.fJ;rw[iO (aW _),mO];simp only[jI];rw[fE AC,aa];have:cT cs 0 ds=ds:=by
  have key: ∀(cs ds:af),ds.length=cs.length->ov cs ds=ds:=by
   intro cs;induction cs with
   |nil=>intro ds h;cases ds with|nil=>rfl|cons _ _=>simp at h
   |cons c cs ih=>intro ds h;cases ds with|nil=>simp at h|cons d ds=>rw[ov,ih ds (by simpa using h)]
  have e:cT cs 0 ds=ov cs ds:=by cases cs<;>rfl
  rw[e,key cs ds hl]
 rw[this];simp
theorem ZlU (n:Nat) (bs a:ah) (l:aj) (st:St) (uT:Sl st bs [.slice 1 a l.length]) (ha:cC st a l) (hl:l.length<1000000) (hn:l.length+40<=n:=by omega):
  Ok (λo=>∃s',o=(.val [.y (mb l)],s')/\ax st s') (run Bd n 306 [.slice 1 bs 1] st):=by
 obtain _|n:=n;omega;rw[Zb,h.To];unfold K9 bG rn ra N_ nc iI ly
 try dsimp only
 rw[bd,ao,Zj (Zo7 n AC st)];simp only[cU,ao,bV (Eu 16),zS];rw[Zv,Zny (by rw[Eu];rfl),Zi];have hp:=ax.new st (some ⟨false,si 16⟩);have ht:Sl (st++[some ⟨false,si 16⟩]) (some (st.length,0)) zS:=pY st _;have M6:=uT.mono hp;have mj:=ha.mono hp;generalize (st++[some ⟨false,si 16⟩])=s1 at hp ht M6 mj;obtain⟨i,o,rfl⟩:=M6.dP Do;obtain⟨m,rfl⟩: ∃m,n=m+2:=⟨n-2,AC⟩;rw[pN];simp only[ar,ao];rw[show decide ((0:Int)<((1:Nat):Int))=true from rfl,aa,aD,Zg FS,show(0:Int).toNat=0 from rfl,M6.fj (j:=0) rfl,eH];have hr:=Zmf (m+2) 4294967295 st.length a l s1 ht mj EQ hl AC;rw[show(4294967295:Int)=((4294967295:Nat):Int)from rfl,Zj hr,ar,ao,pN];simp only[ar,ao];rw[show decide (aq (0+1)<((1:Nat):Int))=false from rfl,ae,xj (Bg l EQ) EQ,ZtS (Bg l EQ),Zh];exact .mk ⟨s1,rfl,hp⟩
theorem ZpU (n x:Nat) (bs a:ah) (l:aj) (st:St) (uT:Sl st bs [.slice 1 a l.length]) (ha:cC st a l) (hl:l.length<1000000) (hn:l.length+41<=n):
  Ok (λo=>∃s',o=(.val [.bool (decide (mb l=x))],s')/\ax st s') (run Bd n 286 [.y x,.slice 1 bs 1] st):=by
 obtain _|n:=n;omega;rw[Zb,h.Tf];unfold Ke bG nc bh Lb
 try dsimp only
 rw[ar,bd,ao];refine Ok.call (ZlU n bs a l st uT ha hl) ?_;rintro _ ⟨s',rfl,hp⟩;refine⟨_,s',rfl,?_⟩;rw[ar,ao,Zh];refine .mk ⟨s',?_,hp⟩;congr 3;by_cases e:mb l=x
 .rw[aI e,e];simp
 .rw[aK e];exact congrArg _ Fd
def jv (s:St) (a:ah) (l:aj):Prop:=Fz s a (aN l)
theorem jv.l9 {a:ah} (h:jv s a l):cC s a l:=h.1
theorem jv.kp {s s':St} {a:ah} {l:aj} (h:jv s a l) (k:Kp s s'):jv s' a l:=Fz.kp h k
theorem jv.pre {a:ah} (h:jv s a l) (k:ax s s'):jv s' a l:=Fz.kp h k.kp
theorem jv.cR {s:St} {a:ah} {l:aj} (h:jv s a l) {k:Nat} (hk:k<=l.length):jv s (cR true a k) (l.drop k):=by
 refine⟨h.l9.cR hk,λi o e=>?_⟩;cases a with
 |none=>cases e
 |some p=>cases e;exact h.2 _ _ rfl
def Bk (l:aj):Bool:=decide (l.length=64)&&(!(l.getD 4 0==0)&&(ZV ((l.drop 6).take 2)&&decide (mb (l.drop 4)=da (l.take 4))))
def lH (l:aj):Option (Nat×Nat×aj):=bif Bk l then some ((l.getD 4 0).toNat,(l.getD 5 0).toNat,l.drop 8)else none
theorem getD_some {c:UInt8} (h:l[j]? =some c):l.getD j 0=c:=by rw[gF,h];rfl
theorem We (c:UInt8):(!((c.toNat:Int)==0))= !(c==0):=by
 by_cases h:c=0
 .subst h;rfl
 .rw[iG.2 h,iG.2]
  intro e;exact h (UInt8.toNat_inj.1 (by simpa using e))
theorem ZmW (n:Nat) (a:ah) (l:aj) (st:St) (ha:cC st a l) (hl:l.length<1000000) (hn:150<=n):
  Ok (λo=>∃s',o=(.val [.bool (Bk l)],s')/\ax st s') (run Bd n 259 [.slice 1 a l.length] st):=by
 obtain _|n:=n;omega;rw[Zb,h.SZ];unfold IL bG aB sT bA Lb bh ZY Bk;simp only[bd,ao,Zi];by_cases BE:l.length=64
 .rw[show((l.length:Int)==64)=true by rw[BE];rfl,aa,aI BE,ez]
  obtain⟨i,o,rfl⟩:=ha.dP AC;have⟨c,hc⟩: ∃c,l[4]? =some c:=by simp_all
  rw[aD,Zg (show bL 4 l.length=true from Zo (i:=4)),ha.get hc,getD_some hc,bm,aA,ao,We];cases hz: !(c==0)with
  |false=>rw[ae];simp only[ae,Zh,gN];exact .mk ⟨st,rfl,.refl st⟩
  |true=>
   rw[aa,ez];have dq:=vM n _ l 6 2 st ha hl;rw[show(6:Int)=((6:Nat):Int)from rfl,show(2:Int)=((2:Nat):Int)from rfl,Zj dq];simp only[aA,ao];cases ZV ((l.drop 6).take 2)with
   |false=>rw[ae,Zh,gN];exact .mk ⟨st,rfl,.refl st⟩
   |true=>
    rw[aa,ez,Zg (aI AC)];have Ct:(l.take 4).length=4:=by rw[dh];omega
    have hr:=Z4 n _ (l.take 4) st (ha.js 4);rw[Ct]at hr;rw[sL hr (.refl st),ar,ao,Zg (aI AC),Zv];have hp:=ax.new st (some ⟨false,[DV.slice 1 (cR true (some (i,o)) 4) (l.length-4)]⟩);have hs:=pY st [DV.slice 1 (cR true (some (i,o)) 4) (l.length-4)];generalize (st++[some ⟨false,[DV.slice 1 (cR true (some (i,o)) 4) (l.length-4)]⟩])=s1 at hp hs;have aw:da (l.take 4)<4294967296:=by have:=Bj (l.take 4);rw[Ct]at this;exact this
    rw[uE aw];have BN:(l.drop 4).length=l.length-4:=ft;rw[<-BN]at hs;refine Ok.cv (ZpU n (da (l.take 4)) _ _ (l.drop 4) s1 hs ((ha.mono hp).cR AC) AC AC) λs2 bC=>?_
    rw[aA,ao,Zh];exact .mk ⟨s2,rfl,hp.trans bC⟩
 .rw[show((l.length:Int)==64)=false from iG.2 AC,ae,aK BE]
  simp only[aA,ao,ae,Zh,gN];exact .mk ⟨st,rfl,.refl st⟩
theorem ZmG (n:Nat) (a:ah) (l:aj) (st:St) (ha:cC st a l) (h0:0<l.length) (hl:l.length<1000000):
  Ok (λo=>∃p s',o=(.val [.slice 1 p l.length],s')/\ax st s'/\jv s' p l) (run Bd (n+1) 260 [.slice 1 a l.length] st):=by
 rw[Zb,h.S0];unfold IS bG bh
 try dsimp only
 rw[bd,ao,mW];obtain⟨i,o,rfl⟩:=ha.dP h0;rw[show((some (i,o):ah).isNone)=false from rfl,ae,Zv];have hp:=ax.new st (some ⟨false,[]⟩);have ho:bn st (st++[some ⟨false,[]⟩]) (some (st.length,0)) []:=⟨hp,Do⟩;have mj:=ha.mono hp;generalize (st++[some ⟨false,[]⟩])=s1 at hp ho mj;rw[cL,<-Zp l,kA mj];have⟨p,s2,dA,he⟩:=ho.app (β:=af) (sz:=1) (n:=0) (m:=l.length) (lim:=70368744177664) (ds:=aN l) AC Do h0 AC;rw[Zp,he,ZE];rw[mN]at dA;exact .mk ⟨p,_,by rw[ei],ZK dA.1,dA.fz⟩
theorem vL (n:Nat) (a:ah) (l:aj) (st:St) (ha:cC st a l) (hl:l.length<1000000) (hn:152<=n:=by omega):
  Ok (λo=>∃s',ax st s'/\match lH l with
   |none=>o=(.val [.i 0,.i 0,.slice 0 none 0,.bool false],s')
   |some (k,t,b)=>∃p,o=(.val [.i (k:Nat),.i (t:Nat),.slice 1 p 56,.bool true],s')/\jv s' p b/\b.length=56/\k<256/\t<256) (run Bd n 237 [.slice 1 a l.length] st):=by
 obtain⟨n,rfl⟩: ∃m,n=m+2:=⟨n-2,AC⟩;rw[Zb,h.SK];unfold Jl bG bA vD bh lH
 try dsimp only
 rw[bd,ao,mW];refine Ok.cv (ZmW (n+1) a l st ha hl AC) λs1 hp=>?_
 rw[aA,ao];cases hr:Bk l with
 |false=>
  rw[cy,aa,ZE,ae];exact .mk ⟨_,ZK hp,rfl⟩
 |true=>
  have BE:l.length=64:=by
   grind[Bk]
  rw[bU,ae,aa];have mj:=ha.mono hp;obtain⟨i,o,rfl⟩:=mj.dP AC;have⟨c4,hc4⟩: ∃c,l[4]? =some c:=by simp_all
  have⟨c5,hc5⟩: ∃c,l[5]? =some c:=Fd
  rw[aD,Zg (show bL 4 l.length=true from Zo (i:=4)),mj.get hc4,bm,aD,Zg (show bL 5 l.length=true from Zo (i:=5)),mj.get hc5,bm,Zg (aI AC)];have hb:=mj.cR (k:=8) AC;have hd:(l.drop 8).length=l.length-8:=ft;have eu:=ZmG n _ (l.drop 8) s1 hb AC AC;rw[hd]at eu;obtain⟨_,e,p,s2,rfl,bC,hf⟩:=eu;rw[sL e bC,bd,ao,ZE];have h4:=c4.toNat_lt;have h5:=c5.toNat_lt;rw[getD_some hc4,getD_some hc5,Zc,Zc];refine .mk ⟨_,ZK (hp.trans bC),p,?_,hf.kp (L8 _ _),AC,h4,h5⟩;rw[BE]
structure lU where
 du:eL
 kids:ak
def wZ (x:lU) (z:Nat) (p:ah):af:=qd x.du++[.slice z p x.kids.length]
def bZ (l:aj) (at' k:Nat):Int:=aq (rd l at' k:Int)
def GC (k:Int):Bool:=decide (k<2)||decide (k>=3072)
def rk (x:lU):Bool:= !(decide (x.du.slot<0)||(decide (x.du.slot>=1792)||(decide (x.du.gen<1)||(decide (x.du.gen>4294967295)||decide ((x.kids.length:Int)>12)))))&& !x.kids.any GC
def pW (b:aj) (t:Nat):ak:=(List.range t).map λj=>bZ b (24+2*j) 2
theorem AD (b:aj) (t:Nat):(pW b t).length=t:=by unfold pW;simp
theorem Zqa (b:aj) (t:Nat):pW b (t+1)=pW b t++[bZ b (24+2*t) 2]:=by simp[pW,lN,fb]
def yu (b:aj) (t:Nat):lU:=⟨⟨bZ b 16 4,bZ b 20 4,bZ b 0 8,bZ b 8 8⟩,pW b t⟩
def yT (l:aj):Option lU:=match lH l with
 |none=>none
 |some (k,t,b)=>bif decide (k=1)&&decide (t<=12)then(bif rk (yu b t)&&ZV (b.drop (24+2*t))then some (yu b t)else none)else none
theorem Ao (n:Nat) (a:ah) (l:aj) (at' k:Nat) (I K:Int) (hI:I=at') (hK:K=k) (st:St) (ha:cC st a l) (hl:l.length<1000000:=by omega) (h1:1<=k:=by omega) (h8:k<=8:=by omega) (hk:at'+k<=l.length:=by omega) (hn:21<=n:=by omega):
  run Bd n 295 [.slice 1 a l.length,.i I,.i K] st=some (.val [.i (bZ l at' k)],st):=by
 subst hI hK;obtain _|n:=n;omega;rw[Zb,h.Ti];unfold Jv qY jK ZY Li;simp only[bd,ar,ao];rw[Zj (Zo6 n a l at' k st ha hl h1 h8 hk AC)];rfl
theorem Zlq (n:Nat) (k:Int) (st:St):run Bd (n+1) 313 [.i k] st=some (.val [.bool (GC k)],st):=by
 rw[Zb,h.Tt];unfold Il bQ aB Lb GC;simp only[ar,ao,Zi,aA];cases decide (k<2)<;>simp only[aa,ae,Zh,Bool.true_or,ue]
theorem Zn8 (n:Nat) (x:lU) (p:ah) (st:St) (hs:Sl st p (ints x.kids)) (hl:x.kids.length<1000000) (hn:x.kids.length+20<=n):
  run Bd n 296 [.agg (wZ x 1 p)] st=some (.val [.bool (rk x)],st):=by
 obtain _|n:=n;omega;rw[Zb,h.Tj];have hci:=ZmM n 1 313 [] [] x.kids p st GC (.inl rfl) hs AC hl (λv _=>by
  have⟨m,hm⟩: ∃m,n-2=m+1:=⟨n-3,AC⟩;rw[hm];exact Zlq m v st)
 unfold Js sM aB bA Lb wZ qd rk;simp only[qN,mN,cU,ar,bd,ao,Zi];cases decide (x.du.slot<0)with
 |true=>rfl
 |false=>
 cases decide (x.du.slot>=1792)with
 |true=>rfl
 |false=>
 cases decide (x.du.gen<1)with
 |true=>rfl
 |false=>
 cases decide (x.du.gen>4294967295)with
 |true=>rfl
 |false=>
 cases decide ((x.kids.length:Int)>12)with
 |true=>rfl
 |false=>
  simp only[ae,aA,ao,ue,cy,ez];rw[Zj hci];rfl
theorem La {x:lU} (h:yT l=some x):rk x=true/\x.kids.length<=12:=by
 unfold yT at h;split at h
 .cases h
 .rename_i k t b _
  cases e:(decide (k=1)&&decide (t<=12))with
  |false=>rw[e]at h;cases h
  |true=>
   rw[e]at h;cases e2:(rk (yu b t)&&ZV (b.drop (24+2*t)))with
   |false=>rw[e2]at h;cases h
   |true=>
    rw[e2]at h;cases h;rw[aZ]at e e2;refine⟨e2.1,?_⟩;show(pW b t).length<=12;rw[AD];grind
theorem Zp7 (n:Nat) (a:ah) (l:aj) (st:St) (ha:cC st a l) (hl:l.length<1000000) (hn:160<=n):
  Ok (λo=>∃s',ax st s'/\match yT l with
   |none=>o=(.val [.agg [.i 0,.i 0,.i 0,.i 0,.slice 0 none 0],.bool false],s')
   |some x=>∃p,o=(.val [.agg (wZ x 1 p),.bool true],s')/\Fz s' p (ints x.kids)) (run Bd n 272 [.slice 1 a l.length] st):=by
 obtain _|n:=n;omega;rw[Zb,h.Ta];unfold Kt bG mX aB aX sM bA bQ nR bh ZY Lb Li yT;simp only[bd,ao,Zi];rw[mW];refine Ok.call (vL n a l st ha hl) ?_;rintro _ ⟨s1,bj,ho⟩;cases cX:lH l with
 |none=>
  rw[cX]at ho;subst ho;refine⟨_,s1,rfl,?_⟩;simp only[ar,aA,ao,Zr 1 0 none _ (.inr rfl)];rw[cy,aa];simp only[aa];rw[ZE];exact .mk ⟨_,ZK bj,rfl⟩
 |some q=>
  have⟨k,t,b⟩:=q;rw[cX]at ho;obtain⟨p1,rfl,hf,hb,hk,ht⟩:=ho;refine⟨_,s1,rfl,?_⟩;simp only[ar,aA,bd,ao];rw[bU,ae];have e1:((k:Int)==1)=decide (k=1):=by
   by_cases jl:k=1
   .subst jl;rfl
   grind
  rw[e1];cases jl:decide (k=1)with
  |false=>
   rw[cy];simp only[aa,gN,ae];rw[ZE];exact .mk ⟨_,ZK bj,rfl⟩
  |true=>
  rw[bU,ae,ez];by_cases iC:t<=12
  .rw[aK (AC:¬(t:Int)>12),aI iC]
   simp only[ae,aa];have dH:=hf.l9;rw[show(56:Nat)=b.length from hb.symm,Zj (Ao n p1 b 16 4 16 4 rfl rfl s1 dH),ar,ao,Zj (Ao n p1 b 20 4 20 4 rfl rfl s1 dH),ar,ao,Zj (Ao n p1 b 0 8 0 8 rfl rfl s1 dH),ar,ao,Zj (Ao n p1 b 8 8 8 8 rfl rfl s1 dH),ar,ao];refine Zn _ (λq y s=>∃(i z:Nat) (p:ah),y=[.agg [.i (bZ b 16 4),.i (bZ b 20 4),.i (bZ b 0 8),.i (bZ b 8 8),.slice z p i],.i i]/\(z=1\/p=none)/\i<=t/\t-i<=q/\bn st s p (ints (pW b i))/\jv s p1 b) ?_ t n _ _ ⟨0,0,none,rfl,.inr rfl,eB _,AC,bn.nil bj,hf⟩ AC;rintro q _ s ⟨i,z,p,rfl,hz,hi,hq,ho,zb⟩ rec aQ;simp only[cU,ar,Zr 1 z p _ hz,ao];by_cases aw:i<t
   .rw[aI (AC:(i:Int)<(t:Int)),aa,Zc (x:=2*(i:Int)),Zc,show(24+2*(i:Int))=((24+2*i:Nat):Int) by omega]
    rw[vU (Ao n p1 b (24+2*i) 2 _ 2 rfl rfl s zb.l9),ar,ao];have⟨p2,s2,dA,zh,he⟩:=ho.CQ (β:=af) (sz:=1) (n:=i) (lim:=8796093022208) [.i (bZ b (24+2*i) 2)] (vz 0) (by simp[ints,AD]) rfl AC;rw[he,Zc];refine aQ (t-(i+1)) _ _ AC ⟨i+1,1,p2,Do,.inl rfl,AC,aW _,?_,zb.kp zh⟩;rw[Zqa];show bn st s2 p2 (List.map _ _);rw[fb];exact dA
   .rw[aK (AC:¬(i:Int)<(t:Int)),ae]
    have Ns:i=t:=AC
    subst Ns;have hr:=Zn8 n (yu b i) p s ho.sl (by show(pW b i).length<_;rw[AD];omega) (by show(pW b i).length+_<=_;rw[AD];omega);have hc:wZ (yu b i) 1 p=[.i (bZ b 16 4),.i (bZ b 20 4),.i (bZ b 0 8),.i (bZ b 8 8),.slice 1 p i]:=by
     show qd _++[DV.slice 1 p (pW b i).length]=_;rw[AD];rfl
    rw[bd,ao,<-hc,Zj hr,aA,ao];cases hrn:rk (yu b i)with
    |false=>
     rw[cy,aa,gN,ae,ZE];exact .mk ⟨_,ZK ho.1,rfl⟩
    |true=>
     rw[bU,ae,Zc (x:=2*(i:Int)),Zc (x:=24+2*(i:Int)),Zc,show(24+2*(i:Int))=((24+2*i:Nat):Int) by omega,show(b.length:Int)-((24+2*i:Nat):Int)=((b.length-(24+2*i):Nat):Int) by omega,Zj (vM n p1 b (24+2*i) (b.length-(24+2*i)) s zb.l9),dJ (by rw[ft];exact aW _),aA,ao,ez];cases ZV (b.drop (24+2*i))with
     |false=>
      rw[cy,aa,ae,ZE];exact .mk ⟨_,ZK ho.1,rfl⟩
     |true=>
      rw[bU,aa,ae,ZE];exact .mk ⟨_,ZK ho.1,p,rfl,ho.fz⟩
  .rw[aI (AC:(t:Int)>12),aK iC]
   rw[ae,aa,ZE];exact .mk ⟨_,ZK bj,rfl⟩
theorem ZpB: ∀(B D C:af),B.length=D.length->ov (B++C) D=D++C
 |[],[],C,_=>by simp[Zso]
 |b::B,d::D,C,h=>by show d::ov (B++C) D=_;rw[ZpB B D C (by simpa using h)];rfl
 |[],_::_,_,h=>by cases h
 |_::_,[],_,h=>by cases h
theorem rb: ∀(A B C D:af),B.length=D.length->cT (A++(B++C)) A.length D=A++(D++C)
 |[],B,C,D,h=>by
  show cT (B++C) 0 D=D++C;rw[<-ZpB B D C h];cases B++C<;>rfl
 |a::A,B,C,D,h=>by show a::cT (A++(B++C)) A.length D=_;rw[rb A B C D h];rfl
def gQ (t j:Nat):Bool:=decide (t/2^j%2=1)
theorem ZrH (ht:t<9223372036854775808) (hj:j<=63):bits .and .i64 ((t:Int).fdiv (2^(min j 64))) 1=((t/2^j%2:Nat):Int):=by
 rw[je AC,show((2:Int)^j)=((2^j:Nat):Int) by push_cast;rfl,vY];have h1:t/2^j<9223372036854775808:=Aa (Nat.div_le_self _ _) ht;show IntKind.wrap .i64 ((BitVec.ofInt 64 ((t/2^j:Nat):Int)&&& BitVec.ofInt 64 (1:Int)).toNat:Int)=_;rw[BitVec.toNat_and,Bt AC,show(BitVec.ofInt 64 (1:Int)).toNat=1 from rfl,Nat.and_one_is_mod];exact Zc
theorem Zqn (ht:t<9223372036854775808:=by omega) (hj:j<=63:=by omega):(bits .and .i64 ((t:Int).fdiv (2^(min j 64))) 1==1)=gQ t j:=by
 rw[ZrH ht hj];grind[gQ]
theorem Ztb (ht:t<9223372036854775808) (hj:j<=63):(bits .and .i64 ((t:Int).fdiv (2^(min j 64))) 1==0)= !gQ t j:=by
 rw[ZrH ht hj];grind[gQ]
structure eR where
 live:Bool
 gen:Int
 block:Int
def iZ (x:eR):af:=[.bool x.live,.i x.gen,.i x.block]
def eN (l:List eR):af:=(l.map iZ).flatten
theorem pP (l:List eR):(eN l).length=l.length*3:=by
 unfold eN;induction l with
 |nil=>rfl
 |cons e l ih=>rw[pC,zZ,cq,ih,eK];show 3+_=_;omega
theorem Zng (l m:List eR):eN (l++m)=eN l++eN m:=by simp[eN]
def qH:eR:=⟨false,0,0⟩
def zI:List eR:=List.replicate 7 qH
def kN (v f t:Int):Bool:=bif decide (v>=f)then decide (v<=t)else false
def Z3 (x:eR):Bool:=bif x.live then kN x.gen 1 4294967295&&kN x.block 2 3071 else kN x.gen 0 4294967295&&(kN x.block 0 1792&&(decide (x.gen>0)||x.block==0))
def uF (b:aj) (t j:Nat):eR:=⟨gQ t j,bZ b (8*j) 4,bZ b (8*j+4) 4⟩
def lv (b:aj) (t n:Nat):List eR:=(List.range n).map (uF b t)
theorem KA (b:aj) (t n:Nat):(lv b t n).length=n:=by unfold lv;simp
theorem ZkZ (b:aj) (t n:Nat):lv b t (n+1)=lv b t n++[uF b t n]:=by simp[lv,lN,fb]
def uC (l:aj):Option (List eR):=match lH l with
 |none=>none
 |some (k,t,b)=>bif decide (k=2)&&decide (t<128)then(bif (lv b t 7).all Z3 then some (lv b t 7)else none)else none
theorem An (n:Nat) (v f t:Int) (st:St):run Bd (n+1) 314 [.i v,.i f,.i t] st=some (.val [.bool (kN v f t)],st):=by
 rw[Zb,h.Tu];unfold IM oH aB Lb kN;simp only[ar,ao,Zi,aA];cases decide (v>=f)<;>rfl
theorem ZkH (n:Nat) (x:eR) (st:St):run Bd (n+2) 297 [.agg (iZ x)] st=some (.val [.bool (Z3 x)],st):=by
 rw[Zb,h.Tk];unfold HM sY bA aB sI Lb iZ Z3;simp only[cU,ar,aA,ao,Zi];cases x.live with
 |true=>
  rw[aa,aa,Zj (An n _ _ _ st),aA,ao];cases kN x.gen 1 4294967295 with
  |false=>rfl
  |true=>
   rw[aa,Zj (An n _ _ _ st)];rfl
 |false=>
  rw[ae,ae,Zj (An n _ _ _ st),aA,ao];cases kN x.gen 0 4294967295 with
  |false=>rfl
  |true=>
   rw[aa,Zj (An n _ _ _ st),aA,ao,ez];cases kN x.block 0 1792 with
   |false=>rfl
   |true=>
    cases decide (x.gen>0)<;>rfl
theorem vZ (k c:Nat) (C:Int) (hC:C=c):((k:Int)==C)=decide (k=c):=by
 grind
theorem ZlR (n:Nat) (a:ah) (l:aj) (st:St) (ha:cC st a l) (hl:l.length<1000000) (hn:160<=n):
  Ok (λo=>∃s',ax st s'/\match uC l with
   |none=>o=(.val [.agg (eN zI),.bool false],s')
   |some x=>o=(.val [.agg (eN x),.bool true],s')) (run Bd n 273 [.slice 1 a l.length] st):=by
 obtain _|n:=n;omega;rw[Zb,h.Tb];unfold H4 bG mX aB bQ sT bA bh Z6 Lb uC;simp only[bd,ao,Zi];refine Ok.call (vL n a l st ha hl) ?_;rintro _ ⟨s1,bj,ho⟩;cases cX:lH l with
 |none=>
  rw[cX]at ho;subst ho;refine⟨_,s1,rfl,?_⟩;simp only[ar,aA,ao,Zr 1 0 none _ (.inr rfl)];rw[cy,aa];simp only[aa,Zh];exact .mk ⟨_,bj,rfl⟩
 |some q=>
  have⟨k,t,b⟩:=q;rw[cX]at ho;obtain⟨p1,rfl,hf,hb,hk,ht⟩:=ho;refine⟨_,s1,rfl,?_⟩;simp only[ar,aA,bd,ao];rw[bU,ae,vZ k 2 2 rfl];cases jl:decide (k=2)with
  |false=>
   rw[cy];simp only[aa,gN,ae,Zh];exact .mk ⟨_,bj,rfl⟩
  |true=>
  rw[bU,ae,ez];by_cases iC:t<128
  .rw[aK (AC:¬(t:Int)>=128),aI iC]
   rw[ae,aa];have dH:=hf.l9;refine Zn _ (λq y s=>∃i:Nat,y=[.agg (eN zI),.agg (eN (lv b t i)++eN (List.replicate (7-i) qH)),.i i]/\i<=7/\7-i<=q/\s=s1/\(lv b t i).all Z3=true) ?_ 7 n _ _ ⟨0,rfl,AC,AC,rfl,rfl⟩ AC;rintro q _ s ⟨i,rfl,hi,hq,rfl,gq⟩ rec aQ;have hlen:(eN (lv b t i)++eN (List.replicate (7-i) qH)).length=21:=by
    rw[cq,pP,pP,KA,qO];omega
   simp only[cU,ar,ao];rw[bV (cs:=eN zI) (n:=21) rfl,bV hlen];by_cases aw:i<7
   .have cD:aq ((i:Int)+1)=((i+1:Nat):Int):=Zc
    have fR:aq (8*((i+1:Nat):Int))=((8*(i+1):Nat):Int):=Zc;have mA:aq (8*(i:Int))=((8*i:Nat):Int):=Zc;simp only[cD,fR,mA,bw,cL];rw[aI (AC:(i:Int)<7),aa,Zg (by rw[aZ,bD,bD];omega),Zg (by rw[aZ,bD,bD];omega),Zg (aI AC),Zg (aI AC)];have fW:=dH.cR (k:=8*i) AC;have qj:(b.drop (8*i)).length=56-8*i:=by rw[ft,hb]
    have Gm:((b.drop (8*i)).take 4).length=4:=by rw[dh];omega
    have gu:=Z4 n _ ((b.drop (8*i)).take 4) s (fW.js 4);rw[Gm]at gu;rw[sL gu (.refl s),ar,ao,Zg (aI AC),show 8*(i+1)-8*i-4=4 by omega];have jB:=fW.cR (k:=4) AC;have ht3:(((b.drop (8*i)).drop 4).take 4).length=4:=by rw[dh,ft];omega
    have j1:=Z4 n _ (((b.drop (8*i)).drop 4).take 4) s (jB.js 4);rw[ht3]at j1;rw[sL j1 (.refl s),ar,ao,kd,Zqn];obtain⟨n,rfl⟩: ∃m,n=m+2:=⟨n-2,AC⟩;have hrs:=ZkH n (uF b t i) s;have hsc:iZ (uF b t i)=[.bool (gQ t i),.i (aq ((da ((b.drop (8*i)).take 4):Nat):Int)),.i (aq ((da ((b.drop (8*i+4)).take 4):Nat):Int))]:=rfl;rw[<-hsc,Zj hrs,aA,ao];cases Gh:Z3 (uF b t i)with
    |false=>
     rw[cy,aa];have:(lv b t 7).all Z3=false:=List.all_eq_false.2 ⟨uF b t i,ox.2 Fd,by rw[Gh];decide⟩;rw[this,ae,Zh];exact .mk ⟨s,bj,rfl⟩
    |true=>
     rw[bU,ae,Zg (show bL (i:Int) 7=true from Zo aw),Zg (fE AC)];refine aQ (7-(i+1)) _ _ AC ⟨i+1,?_,AC,aW _,rfl,?_⟩
     .congr 3
      rw[ZkZ,Zng,show List.replicate (7-i) qH=qH::List.replicate (7-(i+1)) qH by rw[show 7-i=(7-(i+1))+1 by omega];rfl];show cT (eN (lv b t i)++(iZ qH++eN (List.replicate (7-(i+1)) qH))) (i*3) (iZ (uF b t i))=_;have e3:i*3=(eN (lv b t i)).length:=by rw[pP,KA]
      rw[e3,rb (eN (lv b t i)) (iZ qH) (eN (List.replicate (7-(i+1)) qH)) (iZ (uF b t i)) rfl,gX];rfl
     .rw[ZkZ,uf,gq]
      simp[Gh]
   .rw[aK (AC:¬(i:Int)<7),ae]
    have rN:i=7:=AC
    subst rN;rw[bV (cs:=eN zI) (n:=21) rfl,bV hlen,bV hlen,gq,aa,Zh];refine .mk ⟨s,bj,?_⟩;show _=(Out.val [DV.agg (eN (lv b t 7)),_],s);rw[show eN (List.replicate (7-7) qH)=[]from rfl,gE]
  .rw[aI (AC:(t:Int)>=128),aK iC]
   rw[ae,aa,Zh];exact .mk ⟨_,bj,rfl⟩
def AQ (l:ak):Bool:=l.all λv=>v==0||kN v 2 3071
def hY (b:aj) (n:Nat):ak:=(List.range n).map λj=>bZ b (2*j) 2
theorem pO (b:aj) (n:Nat):(hY b n).length=n:=by unfold hY;simp
theorem Zmc (b:aj) (n:Nat):hY b (n+1)=hY b n++[bZ b (2*n) 2]:=by simp[hY,lN,fb]
def yx (l:aj):Option (ak):=match lH l with
 |none=>none
 |some (k,t,b)=>bif decide (k=3)&&(decide (t=0)&&ZV (b.drop 32))then(bif AQ (hY b 16)then some (hY b 16)else none)else none
theorem ZN {l:ak} (h:j<l.length:=by omega):(ints l)[j]? =some (.i l[j]):=by simp[ints,h]
theorem lq {cs:af} (h:cs[i]? =some d) (K:DV->M β):fe cs i K=K d:=by unfold fe;rw[h]
theorem Zli (n:Nat) (l:ak) (st:St) (hl:l.length=16) (hn:22<=n):run Bd n 298 [.agg (ints l)] st=some (.val [.bool (AQ l)],st):=by
 obtain⟨n,rfl⟩: ∃m,n=m+2:=⟨n-2,AC⟩;rw[Zb,h.Tl];unfold Ig Q_ bY aB bA Lb Li sI AQ
 try dsimp only
 have hlen:(ints l).length=16:=by simp[ints,hl]
 simp only[cU,ao,Zi];rw[bV hlen,bV hlen];refine ok_eq ?_;refine Zn _ (λq y s=>∃i:Nat,y=[.i i]/\i<=16/\16-i<=q/\s=st/\(l.take i).all (λv=>v==0||kN v 2 3071)=true) ?_ 16 (n+1) _ _ Fd AC;rintro q _ s ⟨i,rfl,hi,hq,rfl,gq⟩ rec aQ;rw[ar,ao];by_cases aw:i<16
 .rw[aI (AC:(i:Int)<16),aa,Zg (show bL (i:Int) 16=true from Zo aw),bw,cL,lq (ZN)]
  rw[bm];have hw:aq ((i:Int)+1)=((i+1:Nat):Int):=Zc;have aO:(l[i]==0||kN l[i] 2 3071)=true->Ok (λp=>p=(Out.val [DV.bool (l.all λv=>v==0||kN v 2 3071)],s)) (rec [.i (aq ((i:Int)+1))] s):=λe=>by
   rw[hw];refine aQ (16-(i+1)) _ _ AC ⟨i+1,rfl,AC,aW _,rfl,?_⟩;rw[pE AC,uf,gq];simpa using e
  have dq:(l[i]==0||kN l[i] 2 3071)=false->(l.all λv=>v==0||kN v 2 3071)=false:=Fd
  cases h0:(l[i]==0)with
  |true=>
   rw[bU,ae];simp_all
  |false=>
   rw[cy,aa,Zj (An n _ _ _ s)];simp only[aA,ao];cases fR:kN l[i] 2 3071 with
   |true=>
    rw[bU,ae];grind
   |false=>
    rw[cy,aa,Zh,dq (by rw[h0,fR];rfl)];exact .mk rfl
 .rw[aK (AC:¬(i:Int)<16),ae,Zh]
  rw[dJ AC]at gq;rw[gq];exact .mk rfl
theorem Zm7 (n:Nat) (a:ah) (l:aj) (st:St) (ha:cC st a l) (hl:l.length<1000000) (hn:160<=n):
  Ok (λo=>∃s',ax st s'/\match yx l with
   |none=>o=(.val [.agg (ints (List.replicate 16 0)),.bool false],s')
   |some x=>o=(.val [.agg (ints x),.bool true],s')/\x.length=16) (run Bd n 274 [.slice 1 a l.length] st):=by
 obtain _|n:=n;omega;rw[Zb,h.Tc];unfold IH bG mX aB bA bQ kR bh Li Lb ZY yx;simp only[bd,ao,Zi];refine Ok.call (vL n a l st ha hl) ?_;rintro _ ⟨s1,bj,ho⟩;cases cX:lH l with
 |none=>
  rw[cX]at ho;subst ho;refine⟨_,s1,rfl,?_⟩;simp only[ar,aA,ao,Zr 1 0 none _ (.inr rfl)];rw[cy,aa];simp only[aa,Zh];exact .mk ⟨_,bj,rfl⟩
 |some q=>
  have⟨k,t,b⟩:=q;rw[cX]at ho;obtain⟨p1,rfl,hf,hb,hk,ht⟩:=ho;refine⟨_,s1,rfl,?_⟩;simp only[ar,aA,bd,ao];rw[bU,ae,vZ k 3 3 rfl,vZ t 0 0 rfl];cases jl:decide (k=3)with
  |false=>
   rw[cy];simp only[aa,gN,ae,Zh];exact .mk ⟨_,bj,rfl⟩
  |true=>
  rw[bU,ae,ez];cases Gm:decide (t=0)with
  |false=>
   rw[cy];simp only[aa,gN,ae,Zh];exact .mk ⟨_,bj,rfl⟩
  |true=>
  rw[bU,ae,ez];have dH:=hf.l9;have dq:=vM n p1 b 32 24 s1 dH;rw[hb,dJ (by rw[ft];omega)]at dq;rw[show aq (((56:Nat):Int)-32)=((24:Nat):Int) by decide,show(32:Int)=((32:Nat):Int)from rfl,Zj dq,aA,ao];cases ZV (b.drop 32)with
  |false=>
   rw[cy,aa,ae,Zh];exact .mk ⟨_,bj,rfl⟩
  |true=>
   rw[bU,aa,ae];refine Zn _ (λq y s=>∃i:Nat,y=[.agg (ints (hY b i)++ints (List.replicate (16-i) 0)),.i i]/\i<=16/\16-i<=q/\s=s1) ?_ 16 n _ _ ⟨0,rfl,AC,AC,rfl⟩ AC;rintro q _ s ⟨i,rfl,hi,hq,rfl⟩ rec aQ;have hlen:(ints (hY b i)++ints (List.replicate (16-i) 0)).length=16:=by
    simp[ints,pO];omega
   simp only[cU,ar,ao];rw[bV hlen];by_cases aw:i<16
   .have cD:aq ((i:Int)+1)=((i+1:Nat):Int):=Zc
    have fR:aq (2*((i+1:Nat):Int))=((2*(i+1):Nat):Int):=Zc;have mA:aq (2*(i:Int))=((2*i:Nat):Int):=Zc;simp only[cD,fR,mA,bw,cL];rw[aI (AC:(i:Int)<16),aa,Zg (by rw[aZ,bD,bD];omega),Zg (by rw[aZ,bD,bD];omega)];have fW:=dH.cR (k:=2*i) AC;have qj:((b.drop (2*i)).take 2).length=2:=by rw[dh,ft];omega
    have gu:=Z4 n _ ((b.drop (2*i)).take 2) s (fW.js 2);rw[qj]at gu;rw[show 2*(i+1)-2*i=2 by omega,Zj gu,ar,ao,Zg (show bL (i:Int) 16=true from Zo aw),Zg (fE AC)];refine aQ (16-(i+1)) _ _ AC ⟨i+1,?_,AC,aW _,rfl⟩;congr 2;rw[Zmc,show List.replicate (16-i) (0:Int)=0::List.replicate (16-(i+1)) 0 by rw[show 16-i=(16-(i+1))+1 by omega];rfl];have e3:i=(ints (hY b i)).length:=by simp[ints,pO]
    have e4:=rb (ints (hY b i)) [.i 0] (ints (List.replicate (16-(i+1)) 0)) [.i (bZ b (2*i) 2)] rfl;rw[<-e3]at e4;show cT (ints (hY b i)++([.i 0]++ints (List.replicate (16-(i+1)) 0))) i [.i (bZ b (2*i) 2)]=ints (hY b i++[bZ b (2*i) 2])++_;rw[e4,show ints (hY b i++[bZ b (2*i) 2])=ints (hY b i)++[.i (bZ b (2*i) 2)] by unfold ints;rw[fb];rfl,gX]
   .rw[aK (AC:¬(i:Int)<16),ae]
    have rN:i=16:=AC
    subst rN;rw[bV hlen];rw[show ints (hY b 16)++ints (List.replicate (16-16) 0)=ints (hY b 16)from gE _]at hlen⊢;rw[Zj (Zli n (hY b 16) s (pO b 16) AC),aA,ao];cases AQ (hY b 16)with
    |false=>
     rw[cy,aa,Zh];exact .mk ⟨_,bj,rfl⟩
    |true=>
     rw[bU,ae,bV hlen,Zh];exact .mk ⟨_,bj,rfl,pO b 16⟩
theorem Zox (n:Nat) (l:ak) (v:Int) (p:ah) (st:St) (hs:Sl st p (ints l)) (hl:l.length<1000000) (hn:l.length+3<=n):
  Ok (λo=>∃y:Int,o=(.val [.i y],st)/\decide (y>=0)=decide (v∈l)) (run Bd n 254 [.slice 1 p l.length,.i v] st):=by
 obtain _|n:=n;omega;rw[Zb,h.SU];unfold HD bQ Q_ bY Zw Li
 try dsimp only
 rw[bd,ar,ao,Zi];refine Zn _ (λq y s=>∃i:Nat,y=[.i i]/\i<=l.length/\l.length-i<=q/\s=st/\v∉l.take i) ?_ l.length n _ _ Fd AC;rintro q _ s ⟨i,rfl,hi,hq,rfl,dq⟩ rec aQ;simp only[ar,ao];by_cases aw:i<l.length
 .obtain⟨i1,o1,rfl⟩:=hs.dP (by simp[ints];omega)
  rw[aI (AC:(i:Int)<(l.length:Int)),aa,aD,Zg (Zo aw),bw,hs.fj (ZN aw),bm];by_cases hv:v=l[i]
  .rw[show(v==l[i])=true by rw[hv];simp,aa,Zh]
   refine .mk ⟨_,rfl,?_⟩;rw[aI AC,aI (by rw[hv];simp)]
  .rw[iG.2 hv,ae,Zc]
   refine aQ (l.length-(i+1)) _ _ AC ⟨i+1,rfl,AC,aW _,rfl,?_⟩;rw[pE aw];grind
 .rw[aK (AC:¬(i:Int)<(l.length:Int)),ae,Zh]
  rw[dJ AC]at dq;exact .mk Fd
theorem Zhm (n:Nat) (l:ak) (v:Int) (p:ah) (st:St) (hs:Sl st p (ints l)) (hl:l.length<1000000) (hn:l.length+4<=n):
  run Bd n 222 [.slice 1 p l.length,.i v] st=some (.val [.bool (decide (v∈l))],st):=by
 obtain _|n:=n;omega;rw[Zb,h.Sx];unfold Hg bQ aX gj Lb
 try dsimp only
 rw[bd,ar,ao];refine ok_eq ?_;refine Ok.call (Zox n l v p st hs hl AC) ?_;rintro _ ⟨y,rfl,e⟩;refine⟨_,st,rfl,?_⟩;rw[ar,ao,Zh,e];exact .mk rfl
def sS (v:Int):Bool:=bif decide (v>=2)then decide (v<3072)else false
theorem Zev (n:Nat) (v:Int) (st:St):run Bd (n+1) 315 [.i v] st=some (.val [.bool (sS v)],st):=by
 rw[Zb,h.Tv];unfold Ht bQ aB Lb sS;simp only[ar,ao,Zi,aA];cases decide (v>=2)<;>rfl
structure ri where
 name:aj
 mask:Nat
 ia:ak
def sW (x:ri):af:= .str x.name:: .i x.mask::ints x.ia
def rJ (m i:Nat) (v:Int):Bool:=bif gQ m i then sS v else v==0
def yA (x:ri):Bool:=EX x.name&&(decide (x.mask<4096)&&(List.range 12).all λi=>rJ x.mask i (x.ia.getD i 0))
def kO (b:aj) (n:Nat):ak:=(List.range n).map λj=>bZ b (4+2*j) 2
theorem DT (b:aj) (n:Nat):(kO b n).length=n:=by unfold kO;simp
theorem Zpd (b:aj) (n:Nat):kO b (n+1)=kO b n++[bZ b (4+2*n) 2]:=by simp[kO,lN,fb]
def yj (b:aj) (t:Nat):ri:=⟨(b.drop 28).take t,rd b 0 4,kO b 12⟩
def vN (l:aj):Option ri:=match lH l with
 |none=>none
 |some (k,t,b)=>bif decide (k=5)&&(decide (t<=24)&&ZV (b.drop (28+t)))then(bif yA (yj b t)then some (yj b t)else none)else none
def Zsm:ri:=⟨[],0,List.replicate 12 0⟩
theorem Zjx (n:Nat) (x:ri) (st:St) (hl:x.ia.length=12) (hs:x.name.length<1000) (hm:x.mask<4294967296) (hn:22+x.name.length<=n):run Bd n 299 [.agg (sW x)] st=some (.val [.bool (yA x)],st):=by
 obtain⟨n,rfl⟩: ∃m,n=m+2:=⟨n-2,AC⟩;rw[Zb,h.Tm];unfold HS bA aB Q_ bY Ls Lb Li yA sW
 try dsimp only
 have hlen:(ints x.ia).length=12:=by simp[ints,hl]
 simp only[cU,fL,ar,ao,Zi];rw[bV hlen,bV (by simp[hlen]),Zj (ok_eq (Zn6 (n+1) x.name AC AC st))];simp only[aA,ao];cases EX x.name with
 |false=>rw[cy,aa];rfl
 |true=>
 rw[bU,ae,aK (AC:¬(x.mask:Int)<0)];simp only[ae,ez];by_cases oY:x.mask<4096;rotate_left
 .rw[aI (AC:(x.mask:Int)>=4096),aa,aK oY,Zh,gN]
 rw[aK (AC:¬(x.mask:Int)>=4096),ae,aI oY,ez,show(ints x.ia).take 12=ints x.ia from dJ AC];refine ok_eq ?_;refine Zn _ (λq y s=>∃i:Nat,y=[.i i]/\i<=12/\12-i<=q/\s=st/\((List.range i).all λi=>rJ x.mask i (x.ia.getD i 0))=true) ?_ 12 (n+1) _ _ Fd AC;rintro q _ s ⟨i,rfl,hi,hq,rfl,gq⟩ rec aQ;rw[ar,ao];by_cases aw:i<12
 .rw[aI (AC:(i:Int)<12),aa,Zg (show bL (i:Int) 12=true from Zo aw),bw,cL,lq (ZN)]
  rw[bm,Zg (aI AC),Zqn,Ztb AC AC];have hw:aq ((i:Int)+1)=((i+1:Nat):Int):=Zc;have rM:x.ia.getD i 0=x.ia[i]' AC:=by rw[gF,dt AC];rfl
  have aO:rJ x.mask i (x.ia[i]' AC)=true->Ok (λp=>p=(Out.val [DV.bool ((List.range 12).all λi=>rJ x.mask i (x.ia.getD i 0))],s)) (rec [.i (aq ((i:Int)+1))] s):=λe=>by
   rw[hw];refine aQ (12-(i+1)) _ _ AC ⟨i+1,rfl,AC,aW _,rfl,?_⟩;rw[lN,uf,gq,vu,List.all_nil,rM,e];rfl
  have dq:rJ x.mask i (x.ia[i]' AC)=false->((List.range 12).all λi=>rJ x.mask i (x.ia.getD i 0))=false:=Fd
  cases hb:gQ x.mask i with
  |true=>
   rw[bU,ae,Zg (aI AC),aa,Zj (Zev n _ s),aA,ao];cases hbn:sS (x.ia[i]' AC)with
   |true=>
    rw[bU,ae];exact aO (by grind[rJ])
   |false=>
    rw[cy,aa,Zh,dq (by grind[rJ])];exact .mk rfl
  |false=>
   rw[cy,aa];cases h0:(x.ia[i]' AC==0)with
   |false=>
    rw[cy,aa,aa,Zh,dq (by grind[rJ])];exact .mk rfl
   |true=>
    rw[bU,ae,Zg (aI AC),ae];exact aO (by grind[rJ])
 .rw[aK (AC:¬(i:Int)<12),ae,Zh]
  rw[show i=12 by omega]at gq;rw[gq];exact .mk rfl
theorem ZkG (n:Nat) (a:ah) (l:aj) (st:St) (ha:cC st a l) (hl:l.length<1000000) (hn:160<=n):
  Ok (λo=>∃s',ax st s'/\match vN l with
   |none=>o=(.val [.agg (sW Zsm),.bool false],s')
   |some x=>o=(.val [.agg (sW x),.bool true],s')/\x.ia.length=12) (run Bd n 275 [.slice 1 a l.length] st):=by
 obtain _|n:=n;omega;rw[Zb,h.Td];unfold Is bG mX aB sT bA bQ kR bh DA Li Lb ZY vN;simp only[bd,ao,Zi];refine Ok.call (vL n a l st ha hl) ?_;rintro _ ⟨s1,bj,ho⟩;cases cX:lH l with
 |none=>
  rw[cX]at ho;subst ho;refine⟨_,s1,rfl,?_⟩;simp only[ar,aA,ao,Zr 1 0 none _ (.inr rfl)];rw[cy,aa];simp only[aa,Zh];exact .mk ⟨_,bj,rfl⟩
 |some q=>
  have⟨k,t,b⟩:=q;rw[cX]at ho;obtain⟨p1,rfl,hf,hb,hk,ht⟩:=ho;refine⟨_,s1,rfl,?_⟩;simp only[ar,aA,bd,ao];rw[bU,ae,vZ k 5 5 rfl];cases jl:decide (k=5)with
  |false=>
   rw[cy];simp only[aa,gN,ae,Zh];exact .mk ⟨_,bj,rfl⟩
  |true=>
  rw[bU,ae,ez];by_cases iC:t<=24;rotate_left
  .rw[aI (AC:(t:Int)>24),aK iC]
   simp only[aa,gN,ae,Zh];exact .mk ⟨_,bj,rfl⟩
  rw[aK (AC:¬(t:Int)>24),aI iC,ae,ez];have dH:=hf.l9;have hw:aq (28+(t:Int))=((28+t:Nat):Int):=Zc;have dq:=vM n p1 b (28+t) (28-t) s1 dH;rw[hb,dJ (by rw[ft];omega)]at dq;have fR:aq (aq (((56:Nat):Int)-28)-(t:Int))=((28-t:Nat):Int):=by
   rw[show aq (((56:Nat):Int)-28)=28 by decide,Zc];omega
  rw[hw,fR,Zj dq,aA,ao,bw];cases ZV (b.drop (28+t))with
  |false=>
   rw[cy,aa,ae,Zh];exact .mk ⟨_,bj,rfl⟩
  |true=>
   rw[bU,aa,ae,Zg (by rw[aZ,bD,bD];omega),Zg (aI AC)];have hnm:=(dH.cR (k:=28) AC).js t;have hnl:(aN ((b.drop 28).take t)).length=28+t-28:=by rw[Zp,dh,ft];omega
   have dG:=kA (β:=af) hnm;rw[hnl]at dG;rw[dG,<-vX,Dk,Zg (aI AC)];have Ct:(b.take 4).length=4:=by rw[dh];omega
   have gu:=Z4 n _ (b.take 4) s1 (dH.js 4);rw[Ct]at gu;rw[sL gu (.refl s1),ar,ao];have Vg:da (b.take 4)<4294967296:=by have:=Bj (b.take 4);rw[Ct]at this;exact this
   rw[Zc (x:=((da (b.take 4):Nat):Int))];have mq:((b.drop 28).take t).length<=24:=by rw[dh];omega
   refine Zn _ (λq y s=>∃i:Nat,y=[.agg (.str ((b.drop 28).take t):: .i (da (b.take 4):Nat)::(ints (kO b i)++ints (List.replicate (12-i) 0))),.i i]/\i<=12/\12-i<=q/\s=s1) ?_ 12 n _ _ ⟨0,rfl,AC,AC,rfl⟩ AC;rintro q _ s ⟨i,rfl,hi,hq,rfl⟩ rec aQ;have hlen:(ints (kO b i)++ints (List.replicate (12-i) 0)).length=12:=by
    simp[ints,DT];omega
   simp only[cU,fL,ar,ao];rw[bV hlen];by_cases aw:i<12
   .have cD:aq ((i:Int)+1)=((i+1:Nat):Int):=Zc
    have mA:aq (2*(i:Int))=((2*i:Nat):Int):=Zc;have nz:aq (4+((2*i:Nat):Int))=((4+2*i:Nat):Int):=Zc;have tL:aq (((4+2*i:Nat):Int)+2)=((4+2*i+2:Nat):Int):=Zc;simp only[cD,mA,nz,tL,bw,cL];rw[aI (AC:(i:Int)<12),aa,Zg (by rw[aZ,bD,bD];omega),Zg (by rw[aZ,bD,bD];omega)];have fW:=dH.cR (k:=4+2*i) AC;have qj:((b.drop (4+2*i)).take 2).length=2:=by rw[dh,ft];omega
    have gu:=Z4 n _ ((b.drop (4+2*i)).take 2) s (fW.js 2);rw[qj]at gu;rw[show 4+2*i+2-(4+2*i)=2 by omega,Zj gu,ar,ao,Zg (show bL (i:Int) 12=true from Zo aw),Zg (fE AC)];refine aQ (12-(i+1)) _ _ AC ⟨i+1,?_,AC,aW _,rfl⟩;congr 4;rw[Zpd,show List.replicate (12-i) (0:Int)=0::List.replicate (12-(i+1)) 0 by rw[show 12-i=(12-(i+1))+1 by omega];rfl];have e3:i=(ints (kO b i)).length:=by simp[ints,DT]
    have e4:=rb (ints (kO b i)) [.i 0] (ints (List.replicate (12-(i+1)) 0)) [.i (bZ b (4+2*i) 2)] rfl;rw[<-e3]at e4;show cT (ints (kO b i)++([.i 0]++ints (List.replicate (12-(i+1)) 0))) i [.i (bZ b (4+2*i) 2)]=ints (kO b i++[bZ b (4+2*i) 2])++_;rw[e4,show ints (kO b i++[bZ b (4+2*i) 2])=ints (kO b i)++[.i (bZ b (4+2*i) 2)] by unfold ints;rw[fb];rfl,gX]
   .rw[aK (AC:¬(i:Int)<12),ae]
    have rN:i=12:=AC
    subst rN;rw[show ints (kO b 12)++ints (List.replicate (12-12) 0)=ints (kO b 12)from gE _]at hlen⊢;rw[bV hlen];have hrq:=Zjx n (yj b t) s (DT b 12) (by show((b.drop 28).take t).length<_;omega) Vg (by show _+((b.drop 28).take t).length<=_;omega);have hqc:sW (yj b t)= .str ((b.drop 28).take t):: .i (da (b.take 4):Nat)::ints (kO b 12):=rfl;rw[<-hqc,Zj hrq,aA,ao];cases yA (yj b t)with
    |false=>
     rw[cy,aa,Zh];exact .mk ⟨_,bj,rfl⟩
    |true=>
     rw[bU,ae,bV (by rw[hqc];simp[hlen]),Zh];exact .mk ⟨_,bj,rfl,DT b 12⟩
def Ex (l:ak):Bool:=decide (1<=l.length)&&(decide (l.length<=16)&&(List.range l.length).all λi=>sS (l.getD i 0)&& !decide (l.getD i 0∈l.take i))
def E9 (l:aj):Option (ak):=match lH l with
 |none=>none
 |some (k,t,b)=>bif decide (k=6)&&(decide (t<=16)&&ZV (b.drop (2*t)))then(bif Ex (hY b t)then some (hY b t)else none)else none
theorem ZkF (n:Nat) (l:ak) (p:ah) (st:St) (hs:Sl st p (ints l)) (hl:l.length<1000) (hn:l.length+10<=n):run Bd n 300 [.agg [.slice 1 p l.length]] st=some (.val [.bool (Ex l)],st):=by
 obtain⟨n,rfl⟩: ∃m,n=m+2:=⟨n-2,AC⟩;rw[Zb,h.Tn];unfold It bG aB Q_ bY Zw bA Lb Li gj Ex;simp only[cU,bd,ao,Zi];by_cases h1:1<=l.length;rotate_left
 .rw[aI (AC:(l.length:Int)<1),aK h1]
  rfl
 rw[aK (AC:¬(l.length:Int)<1),aI h1];simp only[aA,ao,ae,ez];by_cases h2:l.length<=16;rotate_left
 .rw[aI (AC:(l.length:Int)>16),aK h2]
  rfl
 rw[aK (AC:¬(l.length:Int)>16),aI h2,ae,ez];refine ok_eq ?_;refine Zn _ (λq y s=>∃i:Nat,y=[.i i]/\i<=l.length/\l.length-i<=q/\s=st/\((List.range i).all λi=>sS (l.getD i 0)&& !decide (l.getD i 0∈l.take i))=true) ?_ l.length (n+1) _ _ Fd AC;rintro q _ s ⟨i,rfl,hi,hq,rfl,gq⟩ rec aQ;rw[ar,ao];by_cases aw:i<l.length
 .obtain⟨i1,o1,rfl⟩:=hs.dP (by simp[ints];omega)
  rw[aI (AC:(i:Int)<(l.length:Int)),aa,aD,Zg (Zo aw),bw,hs.fj (ZN aw),bm];have hw:aq ((i:Int)+1)=((i+1:Nat):Int):=Zc;have rM:l.getD i 0=l[i]:=by rw[gF,dt aw];rfl
  have dq:(sS l[i]&& !decide (l[i]∈l.take i))=false->((List.range l.length).all λi=>sS (l.getD i 0)&& !decide (l.getD i 0∈l.take i))=false:=Fd
  rw[Zj (Zev n _ s),aA,ao];cases hb:sS l[i]with
  |false=>
   rw[cy,aa,aa,Zh,dq (by rw[hb];rfl)];exact .mk rfl
  |true=>
   rw[bU,ae,Zg (by rw[aZ,bD,bD];omega)];have N2:(l.take i).length=i:=by rw[dh];omega
   have bx:Sl s (some (i1,o1)) (ints (l.take i)):=by
    have:=Sl.js hs i;rwa [show(ints l).take i=ints (l.take i) by simp[ints]]at this
   have hc:=Zhm (n+1) (l.take i) l[i] _ s bx AC AC;rw[N2]at hc;rw[Zj hc,aA,ao];cases hm:decide (l[i]∈l.take i)with
   |true=>
    rw[aa,Zh,dq (by rw[hb,hm];rfl)];exact .mk rfl
   |false=>
    rw[ae,hw];refine aQ (l.length-(i+1)) _ _ AC ⟨i+1,rfl,AC,aW _,rfl,?_⟩;rw[lN,uf,gq,vu,List.all_nil,rM,hb,hm];rfl
 .rw[aK (AC:¬(i:Int)<(l.length:Int)),ae,Zh]
  rw[show i=l.length by omega]at gq;rw[gq];exact .mk rfl
theorem ZlJ (n:Nat) (a:ah) (l:aj) (st:St) (ha:cC st a l) (hl:l.length<1000000) (hn:160<=n):
  Ok (λo=>∃s',ax st s'/\match E9 l with
   |none=>o=(.val [.agg [.slice 0 none 0],.bool false],s')
   |some x=>∃p,o=(.val [.agg [.slice 1 p x.length],.bool true],s')/\Fz s' p (ints x)/\x.length<=16) (run Bd n 276 [.slice 1 a l.length] st):=by
 obtain _|n:=n;omega;rw[Zb,h.Te];unfold I4 bG mX aB bA bQ bh Li Lb ZY E9;simp only[bd,ao,Zi];rw[mW];refine Ok.call (vL n a l st ha hl) ?_;rintro _ ⟨s1,bj,ho⟩;cases cX:lH l with
 |none=>
  rw[cX]at ho;subst ho;refine⟨_,s1,rfl,?_⟩;simp only[ar,aA,ao,Zr 1 0 none _ (.inr rfl)];rw[cy,aa];simp only[aa];rw[ZE];exact .mk ⟨_,ZK bj,rfl⟩
 |some q=>
  have⟨k,t,b⟩:=q;rw[cX]at ho;obtain⟨p1,rfl,hf,hb,hk,ht⟩:=ho;refine⟨_,s1,rfl,?_⟩;simp only[ar,aA,bd,ao];rw[bU,ae,vZ k 6 6 rfl];cases jl:decide (k=6)with
  |false=>
   rw[cy];simp only[aa,gN,ae];rw[ZE];exact .mk ⟨_,ZK bj,rfl⟩
  |true=>
  rw[bU,ae,ez];by_cases iC:t<=16;rotate_left
  .rw[aI (AC:(t:Int)>16),aK iC]
   simp only[aa,gN,ae];rw[ZE];exact .mk ⟨_,ZK bj,rfl⟩
  rw[aK (AC:¬(t:Int)>16),aI iC,ae,ez];have dH:=hf.l9;have hw:aq (2*(t:Int))=((2*t:Nat):Int):=Zc;have dq:=vM n p1 b (2*t) (56-2*t) s1 dH;rw[hb,dJ (by rw[ft];omega)]at dq;have fR:aq (((56:Nat):Int)-((2*t:Nat):Int))=((56-2*t:Nat):Int):=by
   rw[Zc];omega
  rw[hw,fR,Zj dq,aA,ao];cases ZV (b.drop (2*t))with
  |false=>
   rw[cy,aa,ae,ZE];exact .mk ⟨_,ZK bj,rfl⟩
  |true=>
   rw[bU,aa,ae];refine Zn _ (λq y s=>∃(i z:Nat) (p:ah),y=[.agg [.slice z p i],.i i]/\(z=1\/p=none)/\i<=t/\t-i<=q/\bn st s p (ints (hY b i))/\jv s p1 b) ?_ t n _ _ ⟨0,0,none,rfl,.inr rfl,eB _,AC,bn.nil bj,hf⟩ AC;rintro q _ s ⟨i,z,p,rfl,hz,hi,hq,ho,zb⟩ rec aQ;simp only[cU,ar,Zr 1 z p _ hz,ao];by_cases aw:i<t
   .have cD:aq ((i:Int)+1)=((i+1:Nat):Int):=Zc
    have fR:aq (2*((i+1:Nat):Int))=((2*(i+1):Nat):Int):=Zc;have mA:aq (2*(i:Int))=((2*i:Nat):Int):=Zc;simp only[cD,fR,mA,bw,cL];rw[aI (AC:(i:Int)<(t:Int)),aa,Zg (by rw[aZ,bD,bD];omega),Zg (by rw[aZ,bD,bD];omega)];have fW:=zb.l9.cR (k:=2*i) AC;have qj:((b.drop (2*i)).take 2).length=2:=by rw[dh,ft];omega
    have gu:=Z4 n _ ((b.drop (2*i)).take 2) s (fW.js 2);rw[qj]at gu;rw[show 2*(i+1)-2*i=2 by omega,vU gu,ar,ao];have⟨p2,s2,dA,zh,he⟩:=ho.CQ (β:=af) (sz:=1) (n:=i) (lim:=8796093022208) [.i (bZ b (2*i) 2)] (vz 0) (by simp[ints,pO]) rfl AC;refine Eq.mpr (congrArg (Ok _) (he _)) ?_;refine aQ (t-(i+1)) _ _ AC ⟨i+1,1,p2,rfl,.inl rfl,AC,aW _,?_,zb.kp zh⟩;rw[Zmc];show bn st s2 p2 (List.map _ _);rw[fb];exact dA
   .rw[aK (AC:¬(i:Int)<(t:Int)),ae]
    have Ns:i=t:=AC
    subst Ns;have hr:=ZkF n (hY b i) p s ho.sl (by rw[pO];omega) (by rw[pO];omega);rw[pO]at hr;rw[bd,ao,Zj hr,aA,ao];cases Ex (hY b i)with
    |false=>
     rw[cy,aa,ae,ZE];exact .mk ⟨_,ZK ho.1,rfl⟩
    |true=>
     rw[bU,ae,aa,ZE];refine .mk ⟨_,ZK ho.1,p,?_,ho.fz,?_⟩
     .rw[pO]
     .rw[pO];omega
def nJ (n k:Int):Int:=aq ((aq (aq (n+k)-1)).tdiv k)
def sP (b s g:Int):Int:=bif kq b s g then nJ b 384 else 0
def yo (n:Int):Int:=bif (decide (n>=0)&&decide (n<=1792))then nJ n 7 else 0
theorem Zl2 (n:Nat) (v k:Int) (hk:k≠0) (st:St):run Bd (n+1) 253 [.i v,.i k] st=some (.val [.i (nJ v k)],st):=by
 rw[Zb,h.SS];unfold KN bQ Li nJ;simp only[ar,ao];rw[Zg (by rw[iG.2 hk];rfl)];rfl
theorem Zn5 (n:Nat) (v:Int) (st:St):run Bd (n+1) 255 [.i v] st=some (.val [.bool (decide (v>=0)&&decide (v<=1792))],st):=by
 rw[Zb,h.SX];unfold Jr bQ aB Lb
 try dsimp only
 rw[ar,ao,Zi];cases decide (v>=0)<;>rfl
theorem Zms (n:Nat) (v:Int) (st:St):run Bd (n+2) 227 [.i v] st=some (.val [.i (yo v)],st):=by
 rw[Zb,h.SB];unfold IG bQ bA aX Li gH yo
 try dsimp only
 rw[ar,ao,Zj (Zn5 n v st),aA,ao];cases(decide (v>=0)&&decide (v<=1792))with
 |false=>rfl
 |true=>
  rw[bU,ae,Zj (Zl2 n v 7 EQ st)];rfl
theorem Zii (n:Nat) (b s g:Int) (st:St):run Bd (n+2) 223 [.agg [.i b,.i s,.i g]] st=some (.val [.i (sP b s g)],st):=by
 rw[Zb,h.Sy];unfold IJ pK bA aX p6 Li gH sP;simp only[cU,ar,ao];rw[Zj (Iy n b s g st),aA,ao];cases kq b s g with
 |false=>rfl
 |true=>
  rw[bU,ae,Zj (Zl2 n b 384 EQ st)];rfl
structure ZJ where
 no:Nat
 cE:aj
def Zz (x:ZJ):af:= .i x.no::aN x.cE
def EY:ZJ:=⟨0,List.replicate 48 0⟩
def Ey (l:aj):Option ZJ:=match lH l with
 |none=>none
 |some (k,t,b)=>bif decide (k=4)&&(decide (t<8)&&ZV (b.drop 48))then some ⟨t,b.take 48⟩else none
def BH (x:ZJ) (a:Nat):Bool:=decide (a/384=x.no)&&gQ (x.cE.getD (a%384/8) 0).toNat (a%8)
def iX (x:ZJ) (n:Nat):ak:=((List.range n).filter λi=>BH x (x.no*384+i)).map λi=>((x.no*384+i:Nat):Int)
theorem DZ (x:ZJ) (n:Nat):iX x (n+1)=iX x n++(bif BH x (x.no*384+n)then[((x.no*384+n:Nat):Int)]else[]):=by
 unfold iX;rw[lN,xp,fb];grind
theorem Znf (x:ZJ) (n:Nat):(iX x n).length<=n:=by
 grind[iX]
theorem Rl {x:Nat} (hx:x<256) (hr:r<8):((bits .and .u8 (x:Int) ((2^r:Nat):Int))==0)= !gQ x r:=by
 have key: ∀x:Fin 256,∀r:Fin 8,((x.val&&& 2^r.val)==0)= !decide (x.val/2^r.val%2=1):=by decide+kernel
 have hp:2^r<256:=Dh (a:=2) (m:=r) (n:=8) EQ hr;have e:bits .and .u8 (x:Int) ((2^r:Nat):Int)=((x&&& 2^r:Nat):Int):=by
  generalize 2^r=w at hp;show IntKind.wrap .u8 ((BitVec.ofInt 8 (x:Int)&&& BitVec.ofInt 8 (w:Int)).toNat:Int)=_;rw[BitVec.toNat_and,BitVec.toNat_ofInt,BitVec.toNat_ofInt];have e1:((x:Int)%((2^8:Nat):Int)).toNat=x:=AC
  have e2:((w:Int)%((2^8:Nat):Int)).toNat=w:=AC
  rw[e1,e2];have:x&&& w<256:=Aa Nat.and_le_left hx;show((x&&& w:Nat):Int)%(2^8)=_;omega
 rw[e];have:=key ⟨x,hx⟩ ⟨r,hr⟩;grind[gQ]
theorem Ziu (n:Nat) (x:ZJ) (hl:x.cE.length=48) (st:St):run Bd (n+1) 307 [.agg (Zz x)] st=some (.val [.bool (decide (x.no<8))],st):=by
 rw[Zb,h.Tp];unfold ID aB Lb Zz
 try dsimp only
 have hlen:(aN x.cE).length=48:=by rw[Zp,hl]
 rw[cU,ar,ao,Zi,bV hlen,bV (by simp[hlen]),aI (AC:(x.no:Int)>=0),aa];simp only[aA,ao];rw[Zh];by_cases h8:x.no<8
 .rw[aI h8,aI AC]
 grind
theorem ZjG (n:Nat) (x:ZJ) (a:Nat) (ha:a<1000000) (hl:x.cE.length=48) (h8:x.no<8) (st:St):
  run Bd (n+2) 287 [.agg (Zz x),.i a] st=some (.val (bif decide (a/384=x.no)then[.i (a%384/8:Nat),.u (2^(a%8):Nat),.bool true]else[.i 0,.u 0,.bool false]),st):=by
 rw[Zb,h.Tg];have hr:=Ziu n x hl st;unfold JD bQ bA aB Lb
 try dsimp only
 have hlen:(aN x.cE).length=48:=by rw[Zp,hl]
 unfold Zz at hr⊢;simp only[cU,ar,ao,Zi];rw[bV hlen,bV (by simp[hlen]),Zj hr];simp only[aA,ao];rw[aI h8,bU,ae,aK (AC:¬(a:Int)<0),ae,show((a:Int).tdiv 384)=((a/384:Nat):Int)from rfl,Zc,vZ (a/384) x.no _ rfl];cases hd:decide (a/384=x.no)with
 |false=>rfl
 |true=>
  rw[bU,ae,aa,show((a:Int).tmod 384)=((a%384:Nat):Int)from rfl,show(((a%384:Nat):Int).tmod 8)=((a%384%8:Nat):Int)from rfl,show(((a%384:Nat):Int).tdiv 8)=((a%384/8:Nat):Int)from rfl,Zg (aI AC),Zc,bw,je AC,show a%384%8=a%8 by omega,Zh];have hp:2^(a%8)<256:=Dh (a:=2) (m:=a%8) (n:=8) EQ AC;have e:IntKind.wrap .u8 (1*2^(a%8))=((2^(a%8):Nat):Int):=by
   rw[Int.one_mul,show((2:Int)^(a%8))=((2^(a%8):Nat):Int) by push_cast;rfl];generalize 2^(a%8)=w at hp;show(w:Int)%(2^8)=_;omega
  rw[e]
theorem Zpu (n:Nat) (x:ZJ) (a:Nat) (ha:a<1000000) (hl:x.cE.length=48) (h8:x.no<8) (st:St):
  run Bd (n+3) 262 [.agg (Zz x),.i a] st=some (.val [.bool (BH x a)],st):=by
 rw[Zb,h.S7];have hr:=ZjG n x a ha hl h8 st;unfold KC bQ EP aB Lb BH
 try dsimp only
 have hlen:(aN x.cE).length=48:=by rw[Zp,hl]
 unfold Zz at hr⊢;simp only[cU,ar,ao,Zi];rw[bV hlen,bV (by simp[hlen]),Zj hr];cases decide (a/384=x.no)with
 |false=>rfl
 |true=>
  simp only[aa,ar,aA,ao,bw,cL,ez];rw[Zg (show bL ((a%384/8:Nat):Int) 48=true from Zo)];have⟨c,hc⟩: ∃c,x.cE[a%384/8]? =some c:=⟨_,dt AC⟩;rw[lq (EC hc),getD_some hc,bm,Rl c.toNat_lt AC,Bool.not_not];rfl
theorem ZnS (n:Nat) (x:ZJ) (hl:x.cE.length=48) (h8:x.no<8) (st:St) (hn:400<=n):
  Ok (λo=>∃p s',o=(.val [.slice 1 p (iX x 384).length],s')/\ax st s'/\Fz s' p (ints (iX x 384))) (run Bd n 239 [.agg (Zz x)] st):=by
 obtain⟨n,rfl⟩: ∃m,n=m+4:=⟨n-4,AC⟩;rw[Zb,h.SM];have hr:=λa ha s=>Zpu n x a ha hl h8 s
 unfold Ji jx oG bA bh gj Li lT
 try dsimp only
 have hlen:(aN x.cE).length=48:=by rw[Zp,hl]
 unfold Zz at hr⊢;simp only[cU,ar,ao,Zi];rw[bV hlen,mW,bV (by simp[hlen])];refine Zn _ (λq y s=>∃(i z:Nat) (p:ah),y=[.slice z p (iX x i).length,.i i]/\(z=1\/p=none)/\i<=384/\384-i<=q/\bn st s p (ints (iX x i))) ?_ 384 (n+3) _ _ ⟨0,0,none,rfl,.inr rfl,eB _,AC,bn.nil (.refl st)⟩ AC;rintro q _ s ⟨i,z,p,rfl,hz,hi,hq,ho⟩ rec aQ;simp only[ar,Zr 1 z p _ hz,ao];by_cases aw:i<384
 .have cD:aq ((i:Int)+1)=((i+1:Nat):Int):=Zc
  have fR:aq ((x.no:Int)*384)=((x.no*384:Nat):Int):=by rw[Zc];omega
  have mA:aq (((x.no*384:Nat):Int)+(i:Int))=((x.no*384+i:Nat):Int):=Zc;rw[cD,fR,mA,aI (AC:(i:Int)<384),aa,Zj (hr (x.no*384+i) AC s),aA,ao];have iL:=Znf x i;cases hh:BH x (x.no*384+i)with
  |true=>
   rw[aa];have⟨p2,s2,dA,zh,he⟩:=ho.CQ (β:=af) (sz:=1) (n:=(iX x i).length) (lim:=8796093022208) [.i ((x.no*384+i:Nat):Int)] (vz 0) (by simp[ints]) rfl AC;refine Eq.mpr (congrArg (Ok _) (he _)) ?_;rw[bd,ao];refine aQ (384-(i+1)) _ _ AC ⟨i+1,1,p2,?_,.inl rfl,AC,aW _,?_⟩
   .rw[DZ,hh];simp
   .rw[DZ,hh]
    show bn st s2 p2 (List.map _ _);rw[fb];exact dA
  |false=>
   rw[ae,bd,ao];refine aQ (384-(i+1)) _ _ AC ⟨i+1,1,p,?_,.inl rfl,AC,aW _,?_⟩
   .rw[DZ,hh];simp
   .rw[DZ,hh,ae,gE];exact ho
 .rw[aK (AC:¬(i:Int)<384),ae]
  rw[bd,ao,ZE];have rN:i=384:=AC
  subst rN;exact .mk ⟨p,_,rfl,ZK ho.1,ho.fz⟩
theorem Zoj {A B D:af} (hl:B.length=D.length) (K:M β):bB s.length A.length D K (s++[some ⟨false,A++B⟩])=K (s++[some ⟨false,A++D⟩]):=by
 unfold bB St.fJ;rw[iO (aW _),mO];simp only[jI];rw[fE (by rw[cq];omega),aa];have e:=rb A B [] D hl;rw[gE,gE]at e;rw[e];simp
theorem Zoy (n:Nat) (a:ah) (l:aj) (st:St) (ha:cC st a l) (hl:l.length<1000000) (hn:160<=n):
  Ok (λo=>∃s',ax st s'/\match Ey l with
   |none=>o=(.val [.agg (Zz EY),.bool false],s')
   |some x=>o=(.val [.agg (Zz x),.bool true],s')/\x.cE.length=48/\x.no<8) (run Bd n 204 [.slice 1 a l.length] st):=by
 obtain _|n:=n;omega;rw[Zb,h.Sm];unfold J0 bG mX aB bA bh Za Lb ZY Ey;simp only[bd,ao,Zi];refine Ok.call (vL n a l st ha hl) ?_;rintro _ ⟨s1,bj,ho⟩;cases cX:lH l with
 |none=>
  rw[cX]at ho;subst ho;refine⟨_,s1,rfl,?_⟩;simp only[ar,aA,ao,Zr 1 0 none _ (.inr rfl)];rw[cy,aa];simp only[aa,Zh];exact .mk ⟨_,bj,rfl⟩
 |some q=>
  have⟨k,t,b⟩:=q;rw[cX]at ho;obtain⟨p1,rfl,hf,hb,hk,ht⟩:=ho;refine⟨_,s1,rfl,?_⟩;simp only[ar,aA,bd,ao];rw[bU,ae,vZ k 4 4 rfl];cases jl:decide (k=4)with
  |false=>
   rw[cy];simp only[aa,gN,ae,Zh];exact .mk ⟨_,bj,rfl⟩
  |true=>
  rw[bU,ae,ez];by_cases iC:t<8;rotate_left
  .rw[aI (AC:(t:Int)>=8),aK iC]
   simp only[aa,gN,ae,Zh];exact .mk ⟨_,bj,rfl⟩
  rw[aK (AC:¬(t:Int)>=8),aI iC,ae,ez];have dH:=hf.l9;have dq:=vM n p1 b 48 8 s1 dH;rw[hb,dJ (by rw[ft];omega)]at dq;rw[show aq (((56:Nat):Int)-48)=((8:Nat):Int) by decide,show(48:Int)=((48:Nat):Int)from rfl,Zj dq,aA,ao];cases ZV (b.drop 48)with
  |false=>
   rw[cy,aa,ae,Zh];exact .mk ⟨_,bj,rfl⟩
  |true=>
   rw[bU,aa,ae];have Cu:(b.take 48).length=48:=by rw[dh];omega
   have dY:(aN (b.take 48)).length=min 56 48*1:=by rw[Zp,Cu];rfl
   refine Eq.mpr (congrArg (Ok _) (show _=(bH (Zz EY) λc1=>bB c1 0 (Zz ⟨t,List.replicate 48 0⟩)<|bP c1 1 48 λ_=>gJ p1 (min 56 48*1) λcs=>bB c1 1 cs<|bP c1 0 49 λbM=>az .i64 bM λx4 r1=>bK r1 48<|bK ((.i x4)::r1) 49<|au [.agg ((.i x4)::r1),.bool true]) s1 from rfl)) ?_;rw[Zv,Zny FS,ZM (i:=s1.length) (o:=1) (n:=48) (f:=false) (all:=Zz ⟨t,List.replicate 48 0⟩) Do (by simp[Zz,Zp])];have fV:=(dH.mono (ax.new s1 (some ⟨false,Zz ⟨t,List.replicate 48 0⟩⟩))).js 48;rw[<-dY,kA fV];have bx:=Zoj (β:=af) (s:=s1) (A:=[.i t]) (B:=aN (List.replicate 48 0)) (D:=aN (b.take 48)) (by rw[Zp,Zp,Cu];rfl);refine Eq.mpr (congrArg (Ok _) (bx _)) ?_;have hco:([.i t]++aN (b.take 48):af).length=49:=by rw[cq,Zp,Cu];rfl
   rw[ZM (i:=s1.length) (o:=0) (n:=49) (f:=false) (all:=[.i t]++aN (b.take 48)) Do (by rw[hco];omega),eG,dJ (l:=[DV.int .i64 t]++aN (b.take 48)) (i:=49) (by rw[hco];omega)];show Ok _ (az .i64 (.i t::aN (b.take 48)) _ _);rw[ar];have Qe:(aN (b.take 48)).length=48:=by rw[Zp,Cu]
   rw[bV Qe,bV (by rw[eK,Qe]),Zh];exact .mk ⟨_,bj.trans (.new _ _),rfl,Cu,iC⟩
def Fx (T:al) (s s':St):Prop:=s.length<=s'.length/\∀(b:Nat) (x:Option aH),b∉T->s[b]? =some x->s'[b]? =some x
theorem Fx.refl (T:al) (s:St):Fx T s s:=⟨aW _,λ_ _ _ h=>h⟩
theorem Fx.pre (T:al) (h:ax s s'):Fx T s s':=⟨h.len,λ_ _ _ e=>h.get e⟩
theorem Fx.trans {a b c:St} (h:Fx T a b) (k:Fx T b c):Fx T a c:=⟨fF h.1 k.1,λi x n e=>k.2 i x n (h.2 i x n e)⟩
theorem Fx.step {a b c:St} (h:Fx T a b) (k:Fx T' b c) (hT: ∀x∈T',x∈T\/a.length<=x):Fx T a c:=
 ⟨fF h.1 k.1,λi x n e=>k.2 i x (λhm=>by
  grind) (h.2 i x n e)⟩
theorem Fx.mono {a b:St} (h:Fx T a b) (k: ∀x∈T,x∈T'):Fx T' a b:=⟨h.1,λi x n e=>h.2 i x (λm=>n (k i m)) e⟩
theorem Fx.set (s:St) (j:Nat) (b:Option aH):Fx [j] s (s.set j b):=⟨Do,Fd⟩
def dF (T:al) (a:ah):Prop:=∀b o,a=some (b,o)->b∉T
theorem Sl.fx {a:ah} {cs:af} (h:Sl s a cs) (k:Fx T s s') (n:dF T a):Sl s' a cs:=by
 cases a with
 |none=>exact h
 |some p=>
  have⟨i,o⟩:=p;have⟨f,all,h1,h2⟩:=h;exact⟨f,all,k.2 i _ (n i o rfl) h1,h2⟩
theorem Sl.lt {cs:af} (h:Sl s (some (i,o)) cs):i<s.length:=by
 have⟨f,all,h1,_⟩:=h;grind
theorem dF.new {a:ah} {cs:af} (h:dF T a) (k:Sl s a cs) (hT: ∀x∈T',x∈T\/s.length<=x):dF T' a:=by
 intro b o e hm;subst e;rcases hT b hm with h1|h1
 .exact h b o rfl h1
 .have:=Sl.lt k;omega
def Zm (W:al):af:=W.map λ(w:Nat)=> .w w
theorem Z8 (W:al):(Zm W).length=W.length:=by simp[Zm]
structure dT (s:St) (f:Bool) (i j n:Nat) (W:List Nat):Prop where
 hd:s[i]? =some (some ⟨f,[.i n,.slice 1 (some (j,0)) W.length]⟩)
 wd:s[j]? =some (some ⟨f,Zm W⟩)
 len:W.length=(n+63)/64
 lt: ∀w∈W,w<18446744073709551616
 le:n<=3072
theorem dT.fx {W:al} (h:dT s f i j n W) (k:Fx T s s') (hi:i∉T) (hj:j∉T):dT s' f i j n W:=
 ⟨k.2 i _ hi h.hd,k.2 j _ hj h.wd,h.len,h.lt,h.le⟩
theorem dT.pre {W:al} (h:dT s f i j n W) (k:ax s s'):dT s' f i j n W:=
 ⟨k.get h.hd,k.get h.wd,h.len,h.lt,h.le⟩
def iY (n:Nat) (a:Int):Bool:=decide (0<=a)&&decide (a<n)
def ey (W:al) (a:Nat):Bool:=gQ (W.getD (a/64) 0) (a%64)
def ej (n:Nat) (W:al) (a:Int):al:=bif iY n a then W.set (a.toNat/64) (W.getD (a.toNat/64) 0|||2^(a.toNat%64))else W
theorem vT (n:Nat) (W:al) (a:Int):(ej n W a).length=W.length:=by
 grind[ej]
theorem Lv {W:al} {a:Int} (h: ∀w∈W,w<18446744073709551616): ∀w∈ej n W a,w<18446744073709551616:=by
 unfold ej;cases iY n a with
 |false=>exact h
 |true=>
  intro w hw;rw[aa]at hw;rcases List.mem_or_eq_of_mem_set hw with h1|h1
  .exact h w h1
  .rw[h1]
   refine Nat.or_lt_two_pow (n:=64) ?_ (Dh EQ AC);rw[gF];cases e:W[a.toNat/64]? with
   |none=>decide
   |some v=>exact h v (z7 e)
theorem ym {W:al} {a:Int} {b:Nat} (hl:W.length=(n+63)/64):ey (ej n W a) b=(ey W b||(iY n a&&decide (b=a.toNat))):=by
 unfold ej;cases hm:iY n a with
 |false=>simp[ey]
 |true=>
  rw[aa,ez];unfold iY at hm;rw[aZ,bD,bD]at hm;unfold ey;have hk:a.toNat/64<W.length:=AC
  by_cases hq:b/64=a.toNat/64
  .rw[hq,gF,eJ hk]
   show gQ (W.getD (a.toNat/64) 0|||2^(a.toNat%64)) (b%64)=_;have key: ∀w:Nat,gQ (w|||2^(a.toNat%64)) (b%64)=(gQ w (b%64)||decide (b=a.toNat)):=by
    intro w;unfold gQ;rw[<-Nat.testBit_eq_decide_div_mod_eq,<-Nat.testBit_eq_decide_div_mod_eq,Nat.testBit_or,Nat.testBit_two_pow];grind
   rw[key,gF]
  grind
theorem ZkV (n:Nat) {W:al} (a:Int) (st:St) (hs:dT st f i j m W):
  run Bd (n+1) 209 [.ptr (some (i,0)),.i a] st=some (.val [.bool (iY m a)],st):=by
 rw[Zb,h.Sp];unfold Ij gy aB Zl Lb iY
 try dsimp only
 rw[bF,ar,ao,Zi,aD];by_cases h0:a>=0
 .rw[aI h0,aa,Zf hs.hd rfl]
  rfl
 .rw[aK h0,ae]
  rfl
theorem L5 {a:Int} (h:0<=a):a.tdiv 64=((a.toNat/64:Nat):Int):=by
 grind
theorem Zr7 {a:Int} (h:0<=a):a.tmod 64=((a.toNat%64:Nat):Int):=by
 grind
theorem ZtC (hw:w<18446744073709551616) (hj:j<64):(bits .and .u64 ((w:Int).fdiv (2^(min j 64))) 1==1)=gQ w j:=by
 rw[je AC,show((2:Int)^j)=((2^j:Nat):Int) by push_cast;rfl,vY];have h1:w/2^j<18446744073709551616:=Aa (Nat.div_le_self _ _) hw;rw[show(1:Int)=((1:Nat):Int)from rfl,O5 h1 EQ,Nat.and_one_is_mod];grind[gQ]
theorem JP (n:Nat) {W:al} (a:Int) (st:St) (hs:dT st f i j m W):
  run Bd (n+2) 184 [.ptr (some (i,0)),.i a] st=some (.val [.bool (iY m a&&ey W a.toNat)],st):=by
 rw[Zb,h.Sa];unfold H7 gy bA aB ZL cP Lb;simp only[bF,ar,ao,Zi,aD];rw[Zj (ZkV n a st hs),aA,ao];cases hm:iY m a with
 |false=>rfl
 |true=>
  have lC:=hm;unfold iY at lC;rw[aZ,bD,bD]at lC;have hle:=hs.le;have hlen:=hs.len;have hk:a.toNat/64<W.length:=AC
  rw[aa,Zf hs.hd rfl,eH,aD,L5 lC.1,Zr7 lC.1,Zc,Zg (Zo hk),bw,bw,Zf (d:= .w (W[a.toNat/64]'hk:Nat)) hs.wd (by rw[cL,dK];simp[Zm,hk]),bm];have aw:=hs.lt _ (nP hk);rw[Zg (aI AC),ZtC aw AC,ez];unfold ey;rw[gF,dt hk];rfl
theorem Zs {cs:af} (h:st[j]? =some (some ⟨false,cs⟩)) (hk:k<cs.length) (K:M β):bB j k [d] K st=K (st.set j (some ⟨false,cs.set k d⟩)):=by
 unfold bB St.fJ;rw[h];simp only[xu,fE (AC:k+1<=cs.length),aa,yh d cs k hk]
theorem dT.add {W:al} (hs:dT st false i j m W) (ky:i≠j) (W':al) (hl:W'.length=W.length) (aw: ∀w∈W',w<18446744073709551616):dT (st.set j (some ⟨false,Zm W'⟩)) false i j m W':=by
 have hj:j<st.length:=(cF.1 hs.wd).1;refine⟨?_,?_,by rw[hl];exact hs.len,aw,hs.le⟩
 .rw[cz AC,hl];exact hs.hd
 grind
theorem Aq (n:Nat) {W:al} (l:ak) (p:ah) (st:St) (hs:dT st false i j m W) (ky:i≠j) (hl:Sl st p (ints l)) (hp:dF [j] p) (iL:l.length<1000000:=by omega) (hn:l.length+3<=n:=by omega):
  run Bd n 206 [.ptr (some (i,0)),.slice 1 p l.length] st=some (.val [],st.set j (some ⟨false,Zm (l.foldl (ej m) W)⟩)):=by
 obtain⟨n,rfl⟩: ∃k,n=k+2:=⟨n-2,AC⟩;rw[Zb,h.Sn];unfold IZ bG Q_ bY Zw bA ZL cP Li cV;simp only[bF,bd,ao,Zi];refine ok_eq ?_;have e0:st=st.set j (some ⟨false,Zm W⟩):=by
  refine xo λk=>?_
  by_cases e:j=k
  .grind[hs.wd]
  grind
 refine Zn _ (λq y s=>∃k:Nat,y=[.i k]/\k<=l.length/\l.length-k<=q/\s=st.set j (some ⟨false,Zm ((l.take k).foldl (ej m) W)⟩)/\dT s false i j m ((l.take k).foldl (ej m) W)) ?_ l.length (n+1) _ _ Fd AC;rintro q _ s ⟨k,rfl,hk,hq,bx,jD⟩ rec aQ;rw[ar,ao];by_cases aw:k<l.length
 .have wK:Sl s p (ints l):=by rw[bx];exact Sl.fx hl (Fx.set st j _) hp
  obtain⟨i1,o1,rfl⟩:=wK.dP (by simp[ints];omega);rw[aI (AC:(k:Int)<(l.length:Int)),aa,aD,Zg (Zo aw),bw,wK.fj (ZN aw),bm,Zj (ZkV n l[k] s jD),aA,ao];have hw:aq ((k:Int)+1)=((k+1:Nat):Int):=Zc;have rS:(l.take (k+1)).foldl (ej m) W=ej m ((l.take k).foldl (ej m) W) l[k]:=by
   rw[pE aw,Dc];rfl
  generalize hV:(l.take k).foldl (ej m) W=V at bx jD rS;cases hm:iY m l[k]with
  |false=>
   rw[ae,hw];have hav:ej m V l[k]=V:=by unfold ej;rw[hm];rfl
   exact aQ (l.length-(k+1)) _ _ AC Fd
  |true=>
   have lC:=hm;unfold iY at lC;rw[aZ,bD,bD]at lC;have hle:=hs.le;have hlen:=jD.len;have tE:l[k].toNat/64<V.length:=AC
   rw[aa,aD,Zf jD.hd rfl];simp only[eH,aD];rw[L5 lC.1,Zr7 lC.1,Zc,Zg (Zo tE),bw,bw,Zf (d:= .w (V[l[k].toNat/64]'tE:Nat)) jD.wd (by rw[cL,dK];simp[Zm,tE]),bm];have aw:=jD.lt _ (nP tE);have bC:2^(l[k].toNat%64)<18446744073709551616:=Dh (a:=2) (n:=64) EQ AC;rw[Zg (aI AC),Zg (Zo tE),je AC,Int.one_mul,show((2:Int)^(l[k].toNat%64))=((2^(l[k].toNat%64):Nat):Int) by push_cast;rfl,rl bC,QT aw bC,Zs jD.wd (by rw[Z8,cL,dK];exact tE),hw,cL];have hav:ej m V l[k]=V.set (l[k].toNat/64) (V[l[k].toNat/64]'tE|||2^(l[k].toNat%64)):=by
    unfold ej;rw[hm,aa,gF,dt tE];rfl
   have y7:(Zm V).set (l[k].toNat/64+0) (.w ((V[l[k].toNat/64]'tE|||2^(l[k].toNat%64):Nat):Int))=Zm (ej m V l[k]):=by
    rw[hav,dK];unfold Zm;rw[pD]
   rw[y7];refine aQ (l.length-(k+1)) _ _ AC ⟨k+1,rfl,AC,aW _,?_,?_⟩
   .rw[rS,bx,vx]
   .rw[rS];exact jD.add ky _ (vT _ _ _) (Lv jD.lt)
 .rw[aK (AC:¬(k:Int)<(l.length:Int)),ae]
  rw[Zh,bx,dJ AC];exact .mk rfl
def nH (n:Nat) (l:ak):al:=l.foldl (ej n) (List.replicate ((n+63)/64) 0)
theorem qW (n:Nat): ∀(l:ak) (W:al),(l.foldl (ej n) W).length=W.length/\((∀w∈W,w<18446744073709551616)->∀w∈l.foldl (ej n) W,w<18446744073709551616)
 |[],_=>⟨rfl,id⟩
 |a::l,W=>⟨by rw[List.foldl_cons,(qW n l _).1,vT],λh=>(qW n l _).2 (Lv h)⟩
theorem xS (n m:Nat) (l:ak) (p:ah) (st:St) (hm:m<=3072) (hl:Sl st p (ints l)) (iL:l.length<1000000:=by omega) (hn:l.length+4<=n:=by omega):
  ∃s',run Bd n 177 [.i m,.slice 1 p l.length] st=some (.val [.ptr (some (st.length+1,0))],s')/\ax st s'/\s'.length=st.length+2/\dT s' false (st.length+1) st.length m (nH m l):=by
 obtain _|n:=n;omega;rw[Zb,h.ML];unfold Ej bG C_ cV lu jM Lp
 try dsimp only
 rw[ar,bd,ao];have h0:(if (m:Int)<0 then(0:Int)else m)=m:=cG AC;have h1:(if (3072:Int)<(m:Int)then(3072:Int)else m)=m:=cG AC;have h2:aq ((aq ((aq ((m:Int)+64))-1)).tdiv 64)=(((m+63)/64:Nat):Int):=by
  rw[Zc (x:=(m:Int)+64),show((m:Int)+64-1)=((m+63:Nat):Int) by omega,Zc (x:=((m+63:Nat):Int)),show(((m+63:Nat):Int).tdiv 64)=(((m+63)/64:Nat):Int)from rfl];exact Zc
 rw[h0,h1,h2,bw,Zg (by rw[aZ,aZ,bD,bD,bD];omega),Zv,Zv];have hw:fp ((m+63)/64) [DV.int .u64 0]=Zm (List.replicate ((m+63)/64) 0):=by rw[qZ];simp[Zm]
 rw[hw];have F6:(st++[some (⟨false,Zm (List.replicate ((m+63)/64) 0)⟩:aH)]).length=st.length+1:=Do
 rw[F6];have hp:ax st (st++[some (⟨false,Zm (List.replicate ((m+63)/64) 0)⟩:aH)]++[some (⟨false,[.i m,.slice 1 (some (st.length,0)) ((m+63)/64)]⟩:aH)]):=(ax.new _ _).trans (.new _ _);have jD:dT (st++[some (⟨false,Zm (List.replicate ((m+63)/64) 0)⟩:aH)]++[some (⟨false,[.i m,.slice 1 (some (st.length,0)) ((m+63)/64)]⟩:aH)]) false (st.length+1) st.length m (List.replicate ((m+63)/64) 0):=by
  refine⟨?_,?_,Do,Do,hm⟩
  .rw[iO Do];simp
  simp
 have zj:(st++[some (⟨false,Zm (List.replicate ((m+63)/64) 0)⟩:aH)]++[some (⟨false,[.i m,.slice 1 (some (st.length,0)) ((m+63)/64)]⟩:aH)]).length=st.length+2:=Do
 generalize st++[some (⟨false,Zm (List.replicate ((m+63)/64) 0)⟩:aH)]++[some (⟨false,[.i m,.slice 1 (some (st.length,0)) ((m+63)/64)]⟩:aH)]=s2 at hp jD zj;have lD:dF [st.length] p:=by
  intro b o e hb;subst e;have:=Sl.lt hl;rw[cA.1 hb]at this;omega
 rw[Zj (Aq n l p s2 jD AC (hl.mono hp) lD iL),ao,Zh];exact⟨_,rfl,kP hp (aW _) _,by simp[zj],jD.add AC _ (qW m l _).1 ((qW m l _).2 jD.lt)⟩
end Go.Gv.F
