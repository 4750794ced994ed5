/- Numbers as octets, the least one first. -/
import Derived.Test.YtegglibipjjblaaGreatDoorGvZPg
set_option linter.all false
namespace Go.Gv.F
open Go.Gv
def eG:aj->Nat
 |[]=>0
 |c::l=>c.toNat+256*eG l
def cZ:Nat->Nat->aj
 |_,0=>[]
 |v,n+1=>UInt8.ofNat v::cZ (v/256) n
theorem Zy: ∀(v n:Nat),(cZ v n).length=n
 |_,0=>rfl
 |v,n+1=>by rw[cZ,cQ,Zy]
theorem GB: ∀(l:aj),eG l<256^l.length
 |[]=>by decide
 |c::l=>by
  have h1:=c.toNat_lt;have h2:=GB l;rw[eG,cQ,u7];omega
theorem Zuc: ∀(v n:Nat),eG (cZ v n)=v%256^n
 |v,0=>by simp[cZ,eG,Nat.mod_one]
 |v,n+1=>by
  rw[cZ,eG,Zuc,u7,DJ (256^n),Nat.mod_mul];have:(UInt8.ofNat v).toNat=v%256:=rfl;rw[this]
theorem NC: ∀(l:aj),cZ (eG l) l.length=l
 |[]=>rfl
 |c::l=>by
  have h1:=c.toNat_lt;rw[eG,cQ,cZ,show(c.toNat+256*eG l)/256=eG l by omega,NC l];simp
theorem Zvs: ∀(l m:aj),eG (l++m)=eG l+256^l.length*eG m
 |[],m=>by simp[eG]
 |c::l,m=>by
  rw[od,eG,eG,Zvs l m,cQ,u7,Nat.mul_add,<-Nat.mul_assoc,DJ 256 (256^l.length)];omega
theorem VQ: ∀(v m n:Nat),cZ v (m+n)=cZ v m++cZ (v/256^m) n
 |v,0,n=>by simp[cZ]
 |v,m+1,n=>by
  rw[show m+1+n=(m+n)+1 by omega,cZ,cZ,VQ (v/256) m n,od,u7,DJ (256^m),FQ]
def oR (x:Nat):Nat:=if x%2=1 then(x/2)^^^2197175160 else x/2
def ZQ:Nat->Nat->Nat
 |0,x=>x
 |n+1,x=>ZQ n (oR x)
def tL (x:Nat) (c:UInt8):Nat:=ZQ 8 (x^^^c.toNat)
def pN (l:aj):Nat:=4294967295-l.foldl tL 4294967295
theorem Zz9 (a b:Nat):(a^^^b)%2=(a+b)%2:=by
 have h:=Nat.testBit_xor a b 0;grind
theorem ZyK (a b:Nat):(a^^^b)/2=(a/2)^^^(b/2):=by
 have:=Nat.shiftRight_xor_distrib (a:=a) (b:=b) (i:=1);grind[Nat.shiftRight_succ]
theorem ZxD (a b:Nat):oR (a^^^b)=oR a^^^oR b:=by
 unfold oR;rw[Zz9,ZyK];rcases QI a with ha|ha<;>rcases QI b with hb|hb
 .rw[bq AC,bq AC,bq AC]
 .rw[bG AC,bq AC,bG AC,Nat.xor_assoc]
 .rw[bG AC,bG AC,bq AC,Nat.xor_assoc,Nat.xor_comm (b/2),<-Nat.xor_assoc]
 grind
theorem ZpA: ∀(n a b:Nat),ZQ n (a^^^b)=ZQ n a^^^ZQ n b
 |0,_,_=>rfl
 |n+1,a,b=>by rw[ZQ,ZQ,ZQ,ZxD,ZpA n]
theorem Zpe: ∀(m n x:Nat),ZQ (m+n) x=ZQ n (ZQ m x)
 |0,n,x=>by rw[eJ];rfl
 |m+1,n,x=>by rw[show m+1+n=(m+n)+1 by omega,ZQ,ZQ,Zpe m n]
theorem Nb (z:Nat):oR (2*z)=z:=by simp[oR]
theorem ZAq (x:Nat):x=(16*(x/16))^^^(x%16):=by
 refine DH λi=>?_
 rw[Nat.testBit_xor];have e1:(16*(x/16)).testBit i=(decide (4<=i)&&x.testBit i):=by
  rw[show 16*(x/16)=2^4*(x/2^4)from rfl,Nat.testBit_two_pow_mul];by_cases h:4<=i
  .rw[aS h,Nat.testBit_div_two_pow,show i-4+4=i by omega]
  grind
 have e2:(x%16).testBit i=(decide (i<4)&&x.testBit i):=by
  rw[show x%16=x%2^4 from rfl,Nat.testBit_mod_two_pow]
 rw[e1,e2];by_cases h:4<=i
 .rw[aS h,bM AC];simp
 grind
theorem nib (x:Nat):ZQ 4 x=(x/16)^^^ZQ 4 (x%16):=by
 have h:ZQ 4 (16*(x/16))=x/16:=by
  generalize x/16=y;show oR (oR (oR (oR (16*y))))=y;rw[show 16*y=2*(2*(2*(2*y))) by omega,Nb,Nb,Nb,Nb]
 have h2:=ZpA 4 (16*(x/16)) (x%16);rw[<-ZAq,h]at h2;exact h2
theorem Ztr {x:Nat} (h:x<4294967296):oR x<4294967296:=by
 unfold oR;split
 .exact Ig (n:=32) AC AC
 .omega
theorem I7: ∀(n:Nat) {x:Nat},x<4294967296->ZQ n x<4294967296
 |0,_,h=>h
 |n+1,_,h=>I7 n (Ztr h)
theorem ZzN {x:Nat} (h:x<4294967296) (c:UInt8):tL x c<4294967296:=
 I7 8 (Ig (n:=32) h (by have:=c.toNat_lt;omega))
theorem Jq: ∀(l:aj) {x:Nat},x<4294967296->l.foldl tL x<4294967296
 |[],_,h=>h
 |c::l,_,h=>Jq l (ZzN h c)
theorem NV (l:aj):pN l<4294967296:=by unfold pN;omega
theorem Zzc (x:Nat) (c:UInt8):tL x c=((((x^^^c.toNat)/16)^^^ZQ 4 ((x^^^c.toNat)%16))/16)^^^ZQ 4 ((((x^^^c.toNat)/16)^^^ZQ 4 ((x^^^c.toNat)%16))%16):=by
 unfold tL;generalize x^^^c.toNat=y;rw[show ZQ 8 y=ZQ 4 (ZQ 4 y)from Zpe 4 4 y,nib y];exact nib _
theorem ZAf {x:Nat} (h:x<4294967296):x^^^4294967295=4294967295-x:=by
 refine DH λi=>?_
 rw[show(4294967295:Nat)=2^32-1 from rfl,Nat.testBit_xor,Nat.testBit_two_pow_sub_one,show 2^32-1-x=2^32-(x+1) by omega,Nat.testBit_two_pow_sub_succ AC];by_cases hi:i<32
 .rw[aS hi];simp
 .rw[bM hi]
  have:x.testBit i=false:=If (mo (AC:x<2^32) (oh EQ AC));simp[this]
variable {β:Type}
theorem rE {x:Nat} (h:x<18446744073709551616:=by omega):IntKind.wrap .u64 (x:Int)=x:=IntWalk.u64_in _ AC
theorem Ct {x:Nat} (h:x<4294967296:=by omega):IntKind.wrap .u32 (x:Int)=x:=by
 show(x:Int)%_=x;have:((2:Int)^32)=4294967296:=EQ
 show(x:Int)%(2^32)=x;omega
theorem ZzQ (x:Nat):IntKind.wrap .u64 (x:Int)=((x%18446744073709551616:Nat):Int):=by
 rfl
theorem GN {x:Nat} (h:x<18446744073709551616:=by omega):(BitVec.ofInt 64 (x:Int)).toNat=x:=by
 rw[BitVec.toNat_ofInt];omega
theorem Ou {x:Nat} (h:x<4294967296):(BitVec.ofInt 32 (x:Int)).toNat=x:=by
 rw[BitVec.toNat_ofInt];omega
variable {f:Bool} {d:DV} {i j k m n o r t w y:Nat} {s s' st:St} {A D cs ds:ah} {l:aj} {T T' W:al}
theorem adq {x:Nat} (hx:x<18446744073709551616) (hy:y<18446744073709551616):bits .or .u64 (x:Int) (y:Int)=((x|||y:Nat):Int):=by
 show IntKind.wrap .u64 ((BitVec.ofInt 64 (x:Int)|||BitVec.ofInt 64 (y:Int)).toNat:Int)=_;rw[BitVec.toNat_or,GN hx,GN hy];exact rE (Nat.or_lt_two_pow (n:=64) hx hy)
theorem Ev {x:Nat} (hx:x<18446744073709551616) (hy:y<18446744073709551616):bits .and .u64 (x:Int) (y:Int)=((x&&& y:Nat):Int):=by
 show IntKind.wrap .u64 ((BitVec.ofInt 64 (x:Int)&&& BitVec.ofInt 64 (y:Int)).toNat:Int)=_;rw[LZ,GN hx,GN hy];exact rE (DI Nat.and_le_left hx)
theorem FK {x:Nat} (hx:x<4294967296) (hy:y<4294967296:=by omega):bits .xor .u32 (x:Int) (y:Int)=((x^^^y:Nat):Int):=by
 show IntKind.wrap .u32 ((BitVec.ofInt 32 (x:Int)^^^BitVec.ofInt 32 (y:Int)).toNat:Int)=_;rw[BitVec.toNat_xor,Ou hx,Ou hy];exact Ct (Ig (n:=32) hx hy)
theorem abt {x:Nat} (hx:x<4294967296) (hy:y<4294967296):bits .and .u32 (x:Int) (y:Int)=((x&&& y:Nat):Int):=by
 show IntKind.wrap .u32 ((BitVec.ofInt 32 (x:Int)&&& BitVec.ofInt 32 (y:Int)).toNat:Int)=_;rw[LZ,Ou hx,Ou hy];exact Ct (DI Nat.and_le_left hx)
theorem uh (x m:Nat):Int.fdiv (x:Int) (m:Int)=((x/m:Nat):Int):=by
 grind
def bI (l:aj):ah:=l.map λb=> .u b.toNat
theorem lH (l:aj):ZM l=bI l:=rfl
theorem Zs (l:aj):(bI l).length=l.length:=by simp[bI]
theorem VN {b:UInt8} (h:l[j]? =some b):(bI l)[j]? =some (.u b.toNat):=by grind[bI]
theorem Zxg (l:aj) (k:Nat):(bI l).drop k=bI (l.drop k):=by simp[bI]
theorem ZxN (l:aj) (k:Nat):(bI l).take k=bI (l.take k):=by simp[bI]
theorem Ca (l m:aj):bI (l++m)=bI l++bI m:=by simp[bI]
def c9 (s:St) (a:ai) (l:aj):Prop:=Sl s a (bI l)
theorem c9.mono {s s':St} (k:aA s s') {a:ai} {l:aj} (h:c9 s a l):c9 s' a l:=Sl.mono k h
theorem c9.get {s:St} {i o:Nat} {l:aj} (h:c9 s (some (i,o)) l) {j:Nat} {b:UInt8} (hb:l[j]? =some b) (K:DV->M β):bD i (j+o) K s=K (.u b.toNat) s:=Sl.get h (VN hb) K
theorem c9.dO (h:c9 s (some (i,o)) l) {b:UInt8} (hb:l[j]? =some b) (K:DV->M β):bD i (j*1+o) K s=K (.u b.toNat) s:=by rw[cS];exact h.get hb K
theorem c9.cF {s:St} {a:ai} {l:aj} (h:c9 s a l) (hn:0<l.length): ∃i o,a=some (i,o):=Sl.cF h (by rw[Zs];exact hn)
theorem Sl.sub (h:Sl s (some (i,o)) cs) (hk:k<=cs.length):Sl s (some (i,k+o)) (cs.drop k):=by
 have⟨f,all,h1,h2,h3⟩:=h;refine⟨f,all,h1,by rw[eH];omega,?_⟩;rw[eH,show k+o=o+k by omega,<-jG,<-BD,h3]
theorem Sl.cK {s:St} {a:ai} {cs:ah} (h:Sl s a cs) {k:Nat} (hk:k<=cs.length):Sl s (cK true a k) (cs.drop k):=by
 cases a with
 |none=>rw[show cs=[]from h];simp[Go.Gv.cK,Sl]
 |some p=>exact Sl.sub h hk
theorem Sl.lu {a:ai} (h:Sl s a cs) (k:Nat):Sl s a (cs.take k):=by
 cases a with
 |none=>rw[show cs=[]from h];simp[Sl]
 |some p=>
  have⟨f,all,h1,h2,h3⟩:=h;refine⟨f,all,h1,by rw[cR];omega,?_⟩;rw[cR,<-BH,h3]
theorem c9.cK {s:St} {a:ai} {l:aj} (h:c9 s a l) {k:Nat} (hk:k<=l.length):c9 s (cK true a k) (l.drop k):=by
 unfold c9;rw[<-Zxg];exact Sl.cK h (by rw[Zs];exact hk)
theorem c9.lu {s:St} {a:ai} {l:aj} (h:c9 s a l) (k:Nat):c9 s a (l.take k):=by
 unfold c9;rw[<-ZxN];exact Sl.lu h k
variable {Bd:Zh} [h:HA Bd]
theorem ZkR (n:Nat) (a:ai) (len at' k:Nat) (st:St) (hl:len<1000000) (hk:k<1000000:=by omega):
  run Bd (n+1) 261 [.slice 1 a len,.i at',.i k] st=some (.val [.bool (decide (at'+k<=len))],st):=by
 rw[Ze,h.ags];unfold SO yv az Lb;simp only[aV,av,au,aq,Za,aS (AC:(at':Int)>=0),aS (AC:(k:Int)>=0),ae];by_cases h1:k<=len
 .rw[aX]
  rw[Zc,Zd];by_cases h2:at'+k<=len
  .rw[aS h2,aS AC]
  grind
 .rw[aZ]
  rw[Zd,bM AC]
theorem ok_eq {x:Option (Out β×St)} {o:Out β×St} (h:Ok (λp=>p=o) x):x=some o:=by
 obtain⟨_,e,rfl⟩:=h;exact e
theorem Zyt (l:aj) (c:UInt8):eG (l++[c])=eG l+256^l.length*c.toNat:=by
 rw[Zvs];simp[eG]
theorem ZAY {x c:Nat} (hx:x<2^k):x|||(c*2^k)=x+c*2^k:=by
 rw[Nat.or_comm,DJ,<-Nat.two_pow_add_eq_or_of_lt hx,tX]
theorem Zxs (k:Nat):256^k=2^(8*k):=by rw[Nat.pow_mul]
theorem ya (n:Nat) (a:ai) (l:aj) (st:St) (ha:c9 st a l) (hl:l.length<=8:=by omega) (hn:12<=n:=by omega):
  run Bd n 285 [.slice 1 a l.length] st=some (.val [.w (eG l)],st):=by
 obtain _|n:=n;omega;rw[Ze,h.abS];unfold MQ bZ Co Ar mc lE ZA
 try dsimp only
 rw[aV,aq];have hif:(if (8:Int)<(l.length:Int)then(8:Int)else(l.length:Int))=(l.length:Int):=bq AC;rw[hif,Zb Do,Za];refine ok_eq ?_;refine Zj _ (λq y s=>∃k:Nat,y=[.w (eG (l.take k)),.i k]/\s=st/\k<=l.length/\l.length-k<=q) ?_ l.length n _ _ ⟨0,by simp[eG],rfl,cB _,AC⟩ AC;rintro q _ s ⟨k,rfl,rfl,hk,hq⟩ rec aL;simp only[av,aq,br];by_cases aw:k<l.length
 .rw[aX]
  obtain⟨i,o,rfl⟩:=ha.cF AC;have⟨c,hc⟩: ∃c,l[k]? =some c:=by simp_all
  rw[bc,Zb (Zi aw),ha.dO hc,bj,Zc,Zb (aS AC),Zc];have Ki:=c.toNat_lt;have e1:(8*(k:Int)).toNat=8*k:=AC
  have hp:c.toNat*2^(8*k)<18446744073709551616:=by
   have h1:c.toNat*2^(8*k)<2^8*2^(8*k):=Nat.mul_lt_mul_of_pos_right AC (Nat.two_pow_pos _);have h2:2^8*2^(8*k)<=2^64:=by rw[<-Nat.pow_add];exact oh EQ AC
   omega
  rw[e1,og AC,rE];have e2:((c.toNat:Int)*2^(8*k))=((c.toNat*2^(8*k):Nat):Int):=by push_cast;rfl
  rw[e2,rE hp];have KC:eG (l.take k)<2^(8*k):=by
   have:=GB (l.take k);rwa [cR,og AC,Zxs]at this
  have aiy:eG (l.take k)<18446744073709551616:=mo KC (by
   have:2^(8*k)<=2^64:=oh EQ AC;omega)
  rw[adq aiy hp,ZAY KC];refine aL (l.length-(k+1)) _ _ AC ⟨k+1,?_,rfl,AC,aM _⟩;have e3:l.take (k+1)=l.take k++[c]:=by
   rw[Mf,hc];rfl
  rw[e3,Zyt,cR,og AC,Zxs,DJ];simp
 .rw[aZ]
  rw[Zd,dF AC];exact .mk rfl
def rd (l:aj) (at' k:Nat):Nat:=eG ((l.drop at').take k)
theorem Qk (l:aj) (at' k:Nat):rd l at' k<256^k:=by
 have:=GB ((l.drop at').take k);refine mo this (oh EQ ?_);rw[cR];omega
def ZD (l:aj):Bool:=l.all (· ==0)
theorem DS (n:Nat) (a:ai) (l:aj) (at' k:Nat) (st:St) (ha:c9 st a l) (hl:l.length<1000000:=by omega) (hk:at'+k<=l.length:=by omega) (hn:k+5<=n:=by omega):
  run Bd n 238 [.slice 1 a l.length,.i at',.i k] st=some (.val [.bool (ZD ((l.drop at').take k))],st):=by
 obtain⟨n,rfl⟩: ∃m,n=m+2:=⟨n-2,AC⟩;rw[Ze,h.af6];unfold Rq yv bu Q_ cN mc Z7 Lb Li;simp only[aV,av,aq];rw[Zk (ZkR n a l.length at' k st hl),au,aq,aS hk,bw,af,Zc];have e1:((at':Int)+(k:Int)).toNat=at'+k:=AC
 rw[e1,Zb (by simp;omega),Zb (by simp;omega),Za];simp only[br,cS,show at'+k-at'=k by omega];refine ok_eq ?_;have hb:=ha.cK (k:=at') AC;generalize hm:l.drop at'=m at hb;have KG:k<=m.length:=by rw[<-hm,eH];omega
 refine Zj _ (λq y s=>∃j:Nat,y=[.i j]/\s=st/\j<=k/\k-j<=q/\ZD (m.take j)=true) ?_ k (n+1) _ _ ⟨0,rfl,rfl,cB _,AC,rfl⟩ AC;rintro q _ s ⟨j,rfl,rfl,hj,hq,hz⟩ rec aL;simp only[av,aq];by_cases aw:j<k
 .rw[aX]
  have⟨i,o,hio⟩:=hb.cF AC;rw[hio]at hb⊢;have⟨c,hc⟩: ∃c,m[j]? =some c:=⟨_,cu AC⟩;rw[bc,Zb (Zi aw),br,hb.get hc,bj];by_cases h0:c=0
  .subst h0
   rw[oz FS,Zc];refine aL (k-(j+1)) _ _ AC ⟨j+1,Do,rfl,AC,aM _,?_⟩;have e3:m.take (j+1)=m.take j++[0]:=by rw[Mf,hc];rfl
   rw[e3];simp[ZD]at hz⊢;exact hz
  .have OY:c.toNat≠0:=λe=>h0 (Ii.1 e)
   have e2:(!((c.toNat:Int)==0))=true:=by
    rw[lT];grind
   rw[e2,ae,Zd];refine .mk ?_;have:ZD (m.take k)=false:=by
    cases e:ZD (m.take k)with
    |false=>rfl
    |true=>
     unfold ZD at e;rw[wF]at e;have:=e c (sD (i:=j) (by rw[xR,bG aw];exact hc));grind
   rw[this]
 .rw[aZ]
  rw[Zd];have:j=k:=AC
  subst this;rw[hz];exact .mk rfl
theorem ZsK (n:Nat) (a:ai) (l:aj) (at' k:Nat) (st:St) (ha:c9 st a l) (hl:l.length<1000000) (h1:1<=k) (h8:k<=8) (hk:at'+k<=l.length) (hn:20<=n):
  run Bd n 312 [.slice 1 a l.length,.i at',.i k] st=some (.val [.w (rd l at' k),.bool true],st):=by
 obtain⟨n,rfl⟩: ∃m,n=m+2:=⟨n-2,AC⟩;rw[Ze,h.ag3];unfold Uw yv az vv bu ba Lb Z7;simp only[aV,av,aq,Za,bM (AC:¬(k:Int)<1),bM (AC:¬(k:Int)>8),af,au];rw[Zk (ZkR n a l.length at' k st hl),au,aq,aS hk,bw,af,Zc];have e1:((at':Int)+(k:Int)).toNat=at'+k:=AC
 rw[e1,Zb (by simp;omega),Zb (by simp;omega),br,cS,show at'+k-at'=k by omega];have hb:=(ha.cK (k:=at') AC).lu k;have hlen:((l.drop at').take k).length=k:=by rw[cR,eH];omega
 have hr:=ya (n+1) _ _ st hb;rw[hlen]at hr;rw[Zk hr];rfl
def zM (x:Nat):ah:=(List.range 16).map λi=> .y (if i<x then(ZQ 4 i:Nat)else 0)
def HY:ah:=zM 16
theorem ZyB: ∀x,x<16->cG (zM x) (x*1) [.y (ZQ 4 x:Nat)]=zM (x+1)
 |0,_=>rfl|1,_=>rfl|2,_=>rfl|3,_=>rfl|4,_=>rfl|5,_=>rfl|6,_=>rfl|7,_=>rfl
 |8,_=>rfl|9,_=>rfl|10,_=>rfl|11,_=>rfl|12,_=>rfl|13,_=>rfl|14,_=>rfl|15,_=>rfl
 |n+16,h=>by omega
theorem ZtI (h:j<16):HY[j]? =some (.y (ZQ 4 j:Nat)):=by
 grind[HY,zM]
theorem NM (x:Nat):(zM x).length=16:=by unfold zM;simp
theorem Zul (n:Nat) (x:Nat) (hx:x<4294967296) (st:St):run Bd (n+1) 320 [.y x] st=some (.val [.y (oR x)],st):=by
 rw[Ze,h.aha];unfold UI lD oR
 try dsimp only
 rw[av,aq];have ha:bits .and .u32 (x:Int) 1=((x%2:Nat):Int):=by
  have:=abt hx (EQ:2^1-1<4294967296);rw[QH]at this;exact this
 rw[ha,show((2:Int)^1)=((2:Nat):Int)from rfl,uh];have h2:x/2<4294967296:=AC
 rcases QI x with e|e
 .rw[e,oz FS,bq AC,Zd]
 .rw[e,oA FS,bG rfl]
  rw[show(2197175160:Int)=((2197175160:Nat):Int)from rfl,FK h2,Zd]
theorem MM: ∀(n x:Nat),ZQ (n+1) x=oR (ZQ n x)
 |0,_=>rfl
 |n+1,x=>by rw[ZQ,MM n,ZQ]
theorem Ztj (n:Nat) (hn:30<=n) (st:St):run Bd n 317 [] st=some (.val [.agg HY],st):=by
 obtain⟨n,rfl⟩: ∃m,n=m+2:=⟨n-2,AC⟩;rw[Ze,h.ag7];unfold Ue cW yA yk ta lD qz;simp only[aq,Za];refine ok_eq ?_;refine Zj _ (λq y s=>∃x:Nat,y=[.agg (zM x),.i x]/\s=st/\x<=16/\16-x<=q) ?_ 16 (n+1) _ _ ⟨0,rfl,rfl,AC,AC⟩ AC;rintro q _ s ⟨x,rfl,rfl,hx,hq⟩ rec aL;simp only[da,av,aq,bK (NM x)];by_cases aw:x<16
 .rw[aX]
  rw[Ct];refine Zj _ (λq y s'=>∃j:Nat,y=[.y (ZQ j x),.i j]/\s'=s/\j<=4/\4-j<=q) ?_ 4 (n+1) _ _ ⟨0,rfl,rfl,AC,AC⟩ AC;rintro q' _ s' ⟨j,rfl,rfl,hj,tC⟩ dC kf;simp only[av,aq];by_cases O8:j<4
  .rw[aX]
   rw[Zk (Zul n (ZQ j x) (I7 j AC) s'),av,aq,Zc];exact kf (4-(j+1)) _ _ AC ⟨j+1,by rw[MM];simp,rfl,AC,aM _⟩
  .rw[aZ]
   have:j=4:=AC
   subst this;rw[Zb (by rw[Zi aw]),br,Zb (by simp;omega),ZyB x aw,bK (NM (x+1)),Zc];exact aL (16-(x+1)) _ _ AC Fd
 .rw[aZ,Zd]
  have:x=16:=AC
  subst this;exact .mk rfl
theorem ZoM (n x ti:Nat) (a:ai) (l:aj) (st:St) (ht:Sl st (some (ti,0)) HY) (ha:c9 st a l) (hx:x<4294967296) (hl:l.length<1000000) (hn:l.length+3<=n):
  run Bd n 318 [.ptr (some (ti,0)),.y x,.slice 1 a l.length] st=some (.val [.y (l.foldl tL x:Nat)],st):=by
 obtain _|n:=n;omega;rw[Ze,h.ag8];unfold RZ bZ yA yk N_ mc lD qz
 try dsimp only
 rw[eO,av,aV,aq,Za];refine ok_eq ?_;refine Zj _ (λq y s=>∃k:Nat,y=[.y ((l.take k).foldl tL x:Nat),.i k]/\s=st/\k<=l.length/\l.length-k<=q) ?_ l.length n _ _ Fd AC;rintro q _ s ⟨k,rfl,rfl,hk,hq⟩ rec aL;simp only[av,aq];by_cases aw:k<l.length
 .rw[aX]
  obtain⟨i,o,rfl⟩:=ha.cF AC;have⟨c,hc⟩: ∃c,l[k]? =some c:=⟨_,cu aw⟩;rw[bc,Zb (Zi aw),br,ha.dO hc,bj];have Ki:=c.toNat_lt;have hy:(l.take k).foldl tL x<4294967296:=Jq _ hx;have e3:(l.take (k+1)).foldl tL x=tL ((l.take k).foldl tL x) c:=by
   have:l.take (k+1)=l.take k++[c]:=by rw[Mf,hc];rfl
   rw[this,xQ];rfl
  generalize (l.take k).foldl tL x=y at hy e3;have hz:y^^^c.toNat<4294967296:=Ig (n:=32) hy AC;rw[Ct,FK hy];rw[Zzc]at e3;generalize y^^^c.toNat=z at hz e3;have abr: ∀z:Nat,z<4294967296->bits .and .u32 (z:Int) 15=((z%16:Nat):Int):=λz hz=>by
   have:=abt hz (EQ:2^4-1<4294967296);rw[QH]at this;exact this
  have f16: ∀z:Nat,Int.fdiv (z:Int) (2^4)=((z/16:Nat):Int):=λz=>uh z 16
  have m16:z%16<16:=Nat.mod_lt _ EQ;have Bu:ZQ 4 (z%16)<4294967296:=I7 4 AC;rw[abr z hz,bc,Zb (Zi m16),br,ht.dO (ZtI m16),bj,f16,FK AC Bu];have hw:z/16^^^ZQ 4 (z%16)<4294967296:=Ig (n:=32) AC Bu;generalize z/16^^^ZQ 4 (z%16)=w at hw e3;have ade:w%16<16:=Nat.mod_lt _ EQ;rw[abr w hw,bc,Zb (Zi ade),br,ht.dO (ZtI ade),bj,f16,FK AC (I7 4 AC),Zc];exact aL (l.length-(k+1)) _ _ AC Fd
 .rw[aZ,Zd,dF AC]
  exact .mk rfl
theorem Zrp (hl:ds.length=cs.length) (K:M β):dG s.length 0 ds K (s++[some ⟨false,cs⟩])=K (s++[some ⟨false,ds⟩]):=by
 unfold dG St.gP;rw[kL (aM _),BK];simp only[lz];rw[gz AC,ae];have:cG cs 0 ds=ds:=by
  have key: ∀(cs ds:ah),ds.length=cs.length->ov cs ds=ds:=by
   intro cs;induction cs with
   |nil=>intro ds h;cases ds with|nil=>rfl|cons _ _=>simp at h
   |cons c cs ih=>intro ds h;cases ds with|nil=>simp at h|cons d ds=>rw[ov,ih ds (by simpa using h)]
  have e:cG cs 0 ds=ov cs ds:=by cases cs<;>rfl
  rw[e,key cs ds hl]
 rw[this];simp
theorem ZvE (n:Nat) (bs a:ai) (l:aj) (st:St) (vM:Sl st bs [.slice 1 a l.length]) (ha:c9 st a l) (hl:l.length<1000000) (hn:l.length+40<=n):
  Ok (λo=>∃s',o=(.val [.y (pN l)],s')/\aA st s') (run Bd n 306 [.slice 1 bs 1] st):=by
 obtain _|n:=n;omega;rw[Ze,h.agX];unfold U8 bZ yA yk N_ ta lD qz
 try dsimp only
 rw[aV,aq,Zk (Ztj n AC st)];simp only[da,aq,bK (NM 16),HY];rw[Zz,Zrp (by rw[NM];rfl),Za];have hp:=aA.new st (some ⟨false,zM 16⟩);have ht:Sl (st++[some ⟨false,zM 16⟩]) (some (st.length,0)) HY:=Oe st _;have XW:=vM.mono hp;have uC:=ha.mono hp;generalize (st++[some ⟨false,zM 16⟩])=s1 at hp ht XW uC;obtain⟨i,o,rfl⟩:=XW.cF Do;obtain⟨m,rfl⟩: ∃m,n=m+2:=⟨n-2,AC⟩;rw[B2];simp only[av,aq];rw[oA FS,bc,Zb FS,show(0:Int).toNat=0 from rfl,XW.dO (j:=0) rfl,kA];have hr:=ZoM (m+2) 4294967295 st.length a l s1 ht uC EQ hl AC;rw[show(4294967295:Int)=((4294967295:Nat):Int)from rfl,Zk hr,av,aq,B2];simp only[av,aq];rw[oz FS,FK (Jq l EQ) EQ,ZAf (Jq l EQ),Zd];exact .mk ⟨s1,rfl,hp⟩
theorem ZuT (n x:Nat) (bs a:ai) (l:aj) (st:St) (vM:Sl st bs [.slice 1 a l.length]) (ha:c9 st a l) (hl:l.length<1000000) (hn:l.length+41<=n):
  Ok (λo=>∃s',o=(.val [.bool (decide (pN l=x))],s')/\aA st s') (run Bd n 286 [.y x,.slice 1 bs 1] st):=by
 obtain _|n:=n;omega;rw[Ze,h.agI];unfold U2 bZ ta ba Lb
 try dsimp only
 rw[av,aV,aq];refine Ok.call (ZvE n bs a l st vM ha hl AC) ?_;rintro _ ⟨s',rfl,hp⟩;refine⟨_,s',rfl,?_⟩;rw[av,aq,Zd];refine .mk ⟨s',?_,hp⟩;congr 3;by_cases e:pN l=x
 .rw[aS e,e];simp
 .rw[bM e];exact congrArg _ Fd
def lC (s:St) (a:ai) (l:aj):Prop:=Fz s a (bI l)
theorem lC.rM {a:ai} (h:lC s a l):c9 s a l:=h.1
theorem lC.kp {s s':St} {a:ai} {l:aj} (h:lC s a l) (k:Kp s s'):lC s' a l:=Fz.kp h k
theorem lC.pre {a:ai} (h:lC s a l) (k:aA s s'):lC s' a l:=Fz.kp h k.kp
theorem lC.cK {s:St} {a:ai} {l:aj} (h:lC s a l) {k:Nat} (hk:k<=l.length):lC s (cK true a k) (l.drop k):=by
 refine⟨h.rM.cK hk,λi o e=>?_⟩;cases a with
 |none=>cases e
 |some p=>cases e;exact h.2 _ _ rfl
def uo (l:aj):Bool:=decide (l.length=64)&&(!(l.getD 4 0==0)&&(ZD ((l.drop 6).take 2)&&decide (pN (l.drop 4)=eG (l.take 4))))
def fU (l:aj):Option (Nat×Nat×aj):=bif uo l then some ((l.getD 4 0).toNat,(l.getD 5 0).toNat,l.drop 8)else none
theorem getD_some {c:UInt8} (h:l[j]? =some c):l.getD j 0=c:=by rw[ef,h];rfl
theorem ake (c:UInt8):(!((c.toNat:Int)==0))= !(c==0):=by
 by_cases h:c=0
 .subst h;rfl
 .rw[eN.2 h,eN.2]
  intro e;exact h (Ii.1 (by simpa using e))
theorem Zp1 (n:Nat) (a:ai) (l:aj) (st:St) (ha:c9 st a l) (hl:l.length<1000000) (hn:150<=n):
  Ok (λo=>∃s',o=(.val [.bool (uo l)],s')/\aA st s') (run Bd n 259 [.slice 1 a l.length] st):=by
 obtain _|n:=n;omega;rw[Ze,h.agq];unfold S7 bZ az Ed bu mc Lb ba Z7 uo;simp only[aV,aq,Za];by_cases rU:l.length=64
 .rw[show((l.length:Int)==64)=true by rw[rU];rfl,ae,aS rU,dL]
  obtain⟨i,o,rfl⟩:=ha.cF AC;have⟨c,hc⟩: ∃c,l[4]? =some c:=by simp_all
  rw[bc,Zb (show aP 4 l.length=true from Zi (i:=4)),ha.get hc,getD_some hc,bj,au,aq,ake];cases hz: !(c==0)with
  |false=>rw[af];simp only[af,Zd,gu];exact .mk ⟨st,rfl,.refl st⟩
  |true=>
   rw[ae,dL];have cD:=DS n _ l 6 2 st ha hl;rw[show(6:Int)=((6:Nat):Int)from rfl,show(2:Int)=((2:Nat):Int)from rfl,Zk cD];simp only[au,aq];cases ZD ((l.drop 6).take 2)with
   |false=>rw[af,Zd,gu];exact .mk ⟨st,rfl,.refl st⟩
   |true=>
    rw[ae,dL,Zb (aS AC)];have Fh:(l.take 4).length=4:=by rw[cR];omega
    have hr:=ya n _ (l.take 4) st (ha.lu 4);rw[Fh]at hr;rw[rj hr (.refl st),av,aq,Zb (aS AC),Zz];have hp:=aA.new st (some ⟨false,[DV.slice 1 (cK true (some (i,o)) 4) (l.length-4)]⟩);have hs:=Oe st [DV.slice 1 (cK true (some (i,o)) 4) (l.length-4)];generalize (st++[some ⟨false,[DV.slice 1 (cK true (some (i,o)) 4) (l.length-4)]⟩])=s1 at hp hs;have aw:eG (l.take 4)<4294967296:=by have:=GB (l.take 4);rw[Fh]at this;exact this
    rw[Ct aw];have XY:(l.drop 4).length=l.length-4:=eH;rw[<-XY]at hs;refine Ok.cv (ZuT n (eG (l.take 4)) _ _ (l.drop 4) s1 hs ((ha.mono hp).cK AC) AC AC) λs2 aU=>?_
    rw[au,aq,Zd];exact .mk ⟨s2,rfl,hp.trans aU⟩
 .rw[show((l.length:Int)==64)=false from eN.2 AC,af,bM rU]
  simp only[au,aq,af,Zd,gu];exact .mk ⟨st,rfl,.refl st⟩
theorem Zqe (n:Nat) (a:ai) (l:aj) (st:St) (ha:c9 st a l) (h0:0<l.length) (hl:l.length<1000000):
  Ok (λo=>∃p s',o=(.val [.slice 1 p l.length],s')/\aA st s'/\lC s' p l) (run Bd (n+1) 260 [.slice 1 a l.length] st):=by
 rw[Ze,h.agr];unfold SQ bZ ba
 try dsimp only
 rw[aV,aq,ZJ];obtain⟨i,o,rfl⟩:=ha.cF h0;rw[show((some (i,o):ai).isNone)=false from rfl,af,Zz];have hp:=aA.new st (some ⟨false,[]⟩);have ho:bg st (st++[some ⟨false,[]⟩]) (some (st.length,0)) []:=⟨hp,Do⟩;have uC:=ha.mono hp;generalize (st++[some ⟨false,[]⟩])=s1 at hp ho uC;rw[cS,<-Zs l,iC uC];have⟨p,s2,dj,he⟩:=ho.app (β:=ah) (sz:=1) (n:=0) (m:=l.length) (lim:=70368744177664) (ds:=bI l) AC Do h0 AC;rw[Zs,he,Zp];rw[iG]at dj;exact .mk ⟨p,_,by rw[eJ],Zq dj.1,dj.fz⟩
theorem DU (n:Nat) (a:ai) (l:aj) (st:St) (ha:c9 st a l) (hl:l.length<1000000) (hn:152<=n:=by omega):
  Ok (λo=>∃s',aA st s'/\match fU l with
   |none=>o=(.val [.i 0,.i 0,.slice 0 none 0,.bool false],s')
   |some (k,t,b)=>∃p,o=(.val [.i (k:Nat),.i (t:Nat),.slice 1 p 56,.bool true],s')/\lC s' p b/\b.length=56/\k<256/\t<256) (run Bd n 237 [.slice 1 a l.length] st):=by
 obtain⟨n,rfl⟩: ∃m,n=m+2:=⟨n-2,AC⟩;rw[Ze,h.af5];unfold Tn bZ bu mc ba fU
 try dsimp only
 rw[aV,aq,ZJ];refine Ok.cv (Zp1 (n+1) a l st ha hl AC) λs1 hp=>?_
 rw[au,aq];cases hr:uo l with
 |false=>
  rw[bp,ae,Zp,af];exact .mk ⟨_,Zq hp,rfl⟩
 |true=>
  have rU:l.length=64:=by
   grind[uo]
  rw[bw,af,ae];have uC:=ha.mono hp;obtain⟨i,o,rfl⟩:=uC.cF AC;have⟨c4,hc4⟩: ∃c,l[4]? =some c:=by simp_all
  have⟨c5,hc5⟩: ∃c,l[5]? =some c:=Fd
  rw[bc,Zb (show aP 4 l.length=true from Zi (i:=4)),uC.get hc4,bj,bc,Zb (show aP 5 l.length=true from Zi (i:=5)),uC.get hc5,bj,Zb (aS AC)];have hb:=uC.cK (k:=8) AC;have hd:(l.drop 8).length=l.length-8:=eH;have cO:=Zqe n _ (l.drop 8) s1 hb AC AC;rw[hd]at cO;obtain⟨_,e,p,s2,rfl,aU,hf⟩:=cO;rw[rj e aU,aV,aq,Zp];have h4:=c4.toNat_lt;have h5:=c5.toNat_lt;rw[getD_some hc4,getD_some hc5,Zc,Zc];refine .mk ⟨_,Zq (hp.trans aU),p,?_,hf.kp (ZAA _ _),AC,h4,h5⟩;rw[rU]
structure jV where
 bL:bm
 kids:ak
def oP (x:jV) (z:Nat) (p:ai):ah:=fk x.bL++[.slice z p x.kids.length]
def bR (l:aj) (at' k:Nat):Int:=ar (rd l at' k:Int)
def Fs (k:Int):Bool:=decide (k<2)||decide (k>=3072)
def pH (x:jV):Bool:= !(decide (x.bL.slot<0)||(decide (x.bL.slot>=1792)||(decide (x.bL.gen<1)||(decide (x.bL.gen>4294967295)||decide ((x.kids.length:Int)>12)))))&& !x.kids.any Fs
def pI (b:aj) (t:Nat):ak:=(List.range t).map λj=>bR b (24+2*j) 2
theorem DW (b:aj) (t:Nat):(pI b t).length=t:=by unfold pI;simp
theorem ZnW (b:aj) (t:Nat):pI b (t+1)=pI b t++[bR b (24+2*t) 2]:=by simp[pI,qW,fB]
def mA (b:aj) (t:Nat):jV:=⟨⟨bR b 16 4,bR b 20 4,bR b 0 8,bR b 8 8⟩,pI b t⟩
def jf (l:aj):Option jV:=match fU l with
 |none=>none
 |some (k,t,b)=>bif decide (k=1)&&decide (t<=12)then(bif pH (mA b t)&&ZD (b.drop (24+2*t))then some (mA b t)else none)else none
theorem Iy (n:Nat) (a:ai) (l:aj) (at' k:Nat) (I K:Int) (hI:I=at') (hK:K=k) (st:St) (ha:c9 st a l) (hl:l.length<1000000:=by omega) (h1:1<=k:=by omega) (h8:k<=8:=by omega) (hk:at'+k<=l.length:=by omega) (hn:21<=n:=by omega):
  run Bd n 295 [.slice 1 a l.length,.i I,.i K] st=some (.val [.i (bR l at' k)],st):=by
 subst hI hK;obtain _|n:=n;omega;rw[Ze,h.agR];unfold Sx yv js Z7 Li;simp only[aV,av,aq];rw[Zk (ZsK n a l at' k st ha hl h1 h8 hk AC)];rfl
theorem Zo3 (n:Nat) (k:Int) (st:St):run Bd (n+1) 313 [.i k] st=some (.val [.bool (Fs k)],st):=by
 rw[Ze,h.ag4];unfold Sd cW az Lb Fs;simp only[av,aq,Za,au];cases decide (k<2)<;>simp only[ae,af,Zd,Bool.true_or,wD]
theorem Zr7 (n:Nat) (x:jV) (p:ai) (st:St) (hs:Sl st p (ints x.kids)) (hl:x.kids.length<1000000) (hn:x.kids.length+20<=n):
  run Bd n 296 [.agg (oP x 1 p)] st=some (.val [.bool (pH x)],st):=by
 obtain _|n:=n;omega;rw[Ze,h.agS];have OZ:=Zp0 n 1 313 [] [] x.kids p st Fs (.inl rfl) hs AC hl (λv _=>by
  have⟨m,hm⟩: ∃m,n-2=m+1:=⟨n-3,AC⟩;rw[hm];exact Zo3 m v st)
 unfold Te Gf az bu Lb oP fk pH;simp only[od,iG,da,av,aV,aq,Za];cases decide (x.bL.slot<0)with
 |true=>rfl
 |false=>
 cases decide (x.bL.slot>=1792)with
 |true=>rfl
 |false=>
 cases decide (x.bL.gen<1)with
 |true=>rfl
 |false=>
 cases decide (x.bL.gen>4294967295)with
 |true=>rfl
 |false=>
 cases decide ((x.kids.length:Int)>12)with
 |true=>rfl
 |false=>
  simp only[af,au,aq,wD,bp,dL];rw[Zk OZ];rfl
theorem M6 {x:jV} (h:jf l=some x):pH x=true/\x.kids.length<=12:=by
 unfold jf at h;split at h
 .cases h
 .rename_i k t b _
  cases e:(decide (k=1)&&decide (t<=12))with
  |false=>rw[e]at h;cases h
  |true=>
   rw[e]at h;cases e2:(pH (mA b t)&&ZD (b.drop (24+2*t)))with
   |false=>rw[e2]at h;cases h
   |true=>
    rw[e2]at h;cases h;rw[aY]at e e2;refine⟨e2.1,?_⟩;show(pI b t).length<=12;rw[DW];grind
theorem ZuN (n:Nat) (a:ai) (l:aj) (st:St) (ha:c9 st a l) (hl:l.length<1000000) (hn:160<=n):
  Ok (λo=>∃s',aA st s'/\match jf l with
   |none=>o=(.val [.agg [.i 0,.i 0,.i 0,.i 0,.slice 0 none 0],.bool false],s')
   |some x=>∃p,o=(.val [.agg (oP x 1 p),.bool true],s')/\Fz s' p (ints x.kids)) (run Bd n 272 [.slice 1 a l.length] st):=by
 obtain _|n:=n;omega;rw[Ze,h.agD];unfold UZ bZ sR az cA Gc bu Gh mq ba BX Z7 yj F5 Lb Li Gd Gi jf;simp only[aV,aq,Za];rw[ZJ];refine Ok.call (DU n a l st ha hl) ?_;rintro _ ⟨s1,aD,ho⟩;cases dX:fU l with
 |none=>
  rw[dX]at ho;subst ho;refine⟨_,s1,rfl,?_⟩;simp only[av,au,aq,Zf 1 0 none _ (.inr rfl)];rw[bp,ae];simp only[ae];rw[Zp];exact .mk ⟨_,Zq aD,rfl⟩
 |some q=>
  have⟨k,t,b⟩:=q;rw[dX]at ho;obtain⟨p1,rfl,hf,hb,hk,ht⟩:=ho;refine⟨_,s1,rfl,?_⟩;simp only[av,au,aV,aq];rw[bw,af];have e1:((k:Int)==1)=decide (k=1):=by
   by_cases kE:k=1
   .subst kE;rfl
   grind
  rw[e1];cases kE:decide (k=1)with
  |false=>
   rw[bp];simp only[ae,gu,af];rw[Zp];exact .mk ⟨_,Zq aD,rfl⟩
  |true=>
  rw[bw,af,dL];by_cases lg:t<=12
  .rw[bM (AC:¬(t:Int)>12),aS lg]
   simp only[af,ae];have dV:=hf.rM;rw[show(56:Nat)=b.length from hb.symm,Zk (Iy n p1 b 16 4 16 4 rfl rfl s1 dV),av,aq,Zk (Iy n p1 b 20 4 20 4 rfl rfl s1 dV),av,aq,Zk (Iy n p1 b 0 8 0 8 rfl rfl s1 dV),av,aq,Zk (Iy n p1 b 8 8 8 8 rfl rfl s1 dV),av,aq];refine Zj _ (λq y s=>∃(i z:Nat) (p:ai),y=[.agg [.i (bR b 16 4),.i (bR b 20 4),.i (bR b 0 8),.i (bR b 8 8),.slice z p i],.i i]/\(z=1\/p=none)/\i<=t/\t-i<=q/\bg st s p (ints (pI b i))/\lC s p1 b) ?_ t n _ _ ⟨0,0,none,rfl,.inr rfl,cB _,AC,bg.nil aD,hf⟩ AC;rintro q _ s ⟨i,z,p,rfl,hz,hi,hq,ho,Hi⟩ rec aL;simp only[da,av,Zf 1 z p _ hz,aq];by_cases aw:i<t
   .rw[aX,Zc (x:=2*(i:Int)),Zc,show(24+2*(i:Int))=((24+2*i:Nat):Int) by omega]
    rw[wS (Iy n p1 b (24+2*i) 2 _ 2 rfl rfl s Hi.rM),av,aq];have⟨p2,s2,dj,rZ,he⟩:=ho.Dt (β:=ah) (sz:=1) (n:=i) (lim:=8796093022208) [.i (bR b (24+2*i) 2)] (xU 0) (by simp[ints,DW]) rfl AC;rw[he,Zc];refine aL (t-(i+1)) _ _ AC ⟨i+1,1,p2,Do,.inl rfl,AC,aM _,?_,Hi.kp rZ⟩;rw[ZnW];show bg st s2 p2 (List.map _ _);rw[fB];exact dj
   .rw[aZ]
    have Ba:i=t:=AC
    subst Ba;have hr:=Zr7 n (mA b i) p s ho.sl (by show(pI b i).length<_;rw[DW];omega) (by show(pI b i).length+_<=_;rw[DW];omega);have hc:oP (mA b i) 1 p=[.i (bR b 16 4),.i (bR b 20 4),.i (bR b 0 8),.i (bR b 8 8),.slice 1 p i]:=by
     show fk _++[DV.slice 1 p (pI b i).length]=_;rw[DW];rfl
    rw[aV,aq,<-hc,Zk hr,au,aq];cases hrn:pH (mA b i)with
    |false=>
     rw[bp,ae,gu,af,Zp];exact .mk ⟨_,Zq ho.1,rfl⟩
    |true=>
     rw[bw,af,Zc (x:=2*(i:Int)),Zc (x:=24+2*(i:Int)),Zc,show(24+2*(i:Int))=((24+2*i:Nat):Int) by omega,show(b.length:Int)-((24+2*i:Nat):Int)=((b.length-(24+2*i):Nat):Int) by omega,Zk (DS n p1 b (24+2*i) (b.length-(24+2*i)) s Hi.rM),dF (by rw[eH];exact aM _),au,aq,dL];cases ZD (b.drop (24+2*i))with
     |false=>
      rw[bp,ae,af,Zp];exact .mk ⟨_,Zq ho.1,rfl⟩
     |true=>
      rw[bw,ae,af,Zp];exact .mk ⟨_,Zq ho.1,p,rfl,ho.fz⟩
  .rw[aS (AC:(t:Int)>12),bM lg]
   rw[af,ae,Zp];exact .mk ⟨_,Zq aD,rfl⟩
theorem Zud: ∀(B D C:ah),B.length=D.length->ov (B++C) D=D++C
 |[],[],C,_=>by simp[ZxB]
 |b::B,d::D,C,h=>by show d::ov (B++C) D=_;rw[Zud B D C (by simpa using h)];rfl
 |[],_::_,_,h=>by cases h
 |_::_,[],_,h=>by cases h
theorem sV: ∀(A B C D:ah),B.length=D.length->cG (A++(B++C)) A.length D=A++(D++C)
 |[],B,C,D,h=>by
  show cG (B++C) 0 D=D++C;rw[<-Zud B D C h];cases B++C<;>rfl
 |a::A,B,C,D,h=>by show a::cG (A++(B++C)) A.length D=_;rw[sV A B C D h];rfl
def eI (t j:Nat):Bool:=decide (t/2^j%2=1)
theorem ZwS (ht:t<9223372036854775808) (hj:j<=63):bits .and .i64 ((t:Int).fdiv (2^(min j 64))) 1=((t/2^j%2:Nat):Int):=by
 rw[og AC,show((2:Int)^j)=((2^j:Nat):Int) by push_cast;rfl,uh];have h1:t/2^j<9223372036854775808:=DI (FR _ _) ht;show IntKind.wrap .i64 ((BitVec.ofInt 64 ((t/2^j:Nat):Int)&&& BitVec.ofInt 64 (1:Int)).toNat:Int)=_;rw[LZ,GN,show(BitVec.ofInt 64 (1:Int)).toNat=1 from rfl,Nat.and_one_is_mod];exact Zc
theorem Zva (ht:t<9223372036854775808:=by omega) (hj:j<=63:=by omega):(bits .and .i64 ((t:Int).fdiv (2^(min j 64))) 1==1)=eI t j:=by
 rw[ZwS ht hj];grind[eI]
theorem Zyj (ht:t<9223372036854775808) (hj:j<=63):(bits .and .i64 ((t:Int).fdiv (2^(min j 64))) 1==0)= !eI t j:=by
 rw[ZwS ht hj];grind[eI]
structure bB where
 live:Bool
 gen:Int
 block:Int
def eV (x:bB):ah:=[.bool x.live,.i x.gen,.i x.block]
def ca (l:List bB):ah:=(l.map eV).flatten
theorem ZB (l:List bB):(ca l).length=l.length*3:=by
 unfold ca;induction l with
 |nil=>rfl
 |cons e l ih=>rw[oe,BE,bz,ih,cQ];show 3+_=_;omega
theorem Jc (l m:List bB):ca (l++m)=ca l++ca m:=by simp[ca]
def gZ:bB:=⟨false,0,0⟩
def nS:List bB:=List.replicate 7 gZ
def lF (v f t:Int):Bool:=bif decide (v>=f)then decide (v<=t)else false
def ZN (x:bB):Bool:=bif x.live then lF x.gen 1 4294967295&&lF x.block 2 3071 else lF x.gen 0 4294967295&&(lF x.block 0 1792&&(decide (x.gen>0)||x.block==0))
def wU (b:aj) (t j:Nat):bB:=⟨eI t j,bR b (8*j) 4,bR b (8*j+4) 4⟩
def ZU (b:aj) (t n:Nat):List bB:=(List.range n).map (wU b t)
theorem B5 (b:aj) (t n:Nat):(ZU b t n).length=n:=by unfold ZU;simp
theorem IK (b:aj) (t n:Nat):ZU b t (n+1)=ZU b t n++[wU b t n]:=by simp[ZU,qW,fB]
def ZO (l:aj):Option (List bB):=match fU l with
 |none=>none
 |some (k,t,b)=>bif decide (k=2)&&decide (t<128)then(bif (ZU b t 7).all ZN then some (ZU b t 7)else none)else none
theorem Iu (n:Nat) (v f t:Int) (st:St):run Bd (n+1) 314 [.i v,.i f,.i t] st=some (.val [.bool (lF v f t)],st):=by
 rw[Ze,h.ag5];unfold Ta En az Lb lF;simp only[av,aq,Za,au];cases decide (v>=f)<;>rfl
theorem Zny (n:Nat) (x:bB) (st:St):run Bd (n+2) 297 [.agg (eV x)] st=some (.val [.bool (ZN x)],st):=by
 rw[Ze,h.agT];unfold RG rr bu az Ae Lb eV ZN;simp only[da,av,au,aq,Za];cases x.live with
 |true=>
  rw[ae,ae,Zk (Iu n _ _ _ st),au,aq];cases lF x.gen 1 4294967295 with
  |false=>rfl
  |true=>
   rw[ae,Zk (Iu n _ _ _ st)];rfl
 |false=>
  rw[af,af,Zk (Iu n _ _ _ st),au,aq];cases lF x.gen 0 4294967295 with
  |false=>rfl
  |true=>
   rw[ae,Zk (Iu n _ _ _ st),au,aq,dL];cases lF x.block 0 1792 with
   |false=>rfl
   |true=>
    cases decide (x.gen>0)<;>rfl
theorem nE (k c:Nat) (C:Int) (hC:C=c:=by omega):((k:Int)==C)=decide (k=c):=by
 grind
theorem Zpl (n:Nat) (a:ai) (l:aj) (st:St) (ha:c9 st a l) (hl:l.length<1000000) (hn:160<=n):
  Ok (λo=>∃s',aA st s'/\match ZO l with
   |none=>o=(.val [.agg (ca nS),.bool false],s')
   |some x=>o=(.val [.agg (ca x),.bool true],s')) (run Bd n 273 [.slice 1 a l.length] st):=by
 obtain _|n:=n;omega;rw[Ze,h.agE];unfold Sc bZ sR az cW Ed bu ba ZK sI DT Lb ZO;simp only[aV,aq,Za];refine Ok.call (DU n a l st ha hl) ?_;rintro _ ⟨s1,aD,ho⟩;cases dX:fU l with
 |none=>
  rw[dX]at ho;subst ho;refine⟨_,s1,rfl,?_⟩;simp only[av,au,aq,Zf 1 0 none _ (.inr rfl)];rw[bp,ae];simp only[ae,Zd];exact .mk ⟨_,aD,rfl⟩
 |some q=>
  have⟨k,t,b⟩:=q;rw[dX]at ho;obtain⟨p1,rfl,hf,hb,hk,ht⟩:=ho;refine⟨_,s1,rfl,?_⟩;simp only[av,au,aV,aq];rw[bw,af,nE k 2 2 rfl];cases kE:decide (k=2)with
  |false=>
   rw[bp];simp only[ae,gu,af,Zd];exact .mk ⟨_,aD,rfl⟩
  |true=>
  rw[bw,af,dL];by_cases lg:t<128
  .rw[bM (AC:¬(t:Int)>=128),aS lg]
   rw[af,ae];have dV:=hf.rM;refine Zj _ (λq y s=>∃i:Nat,y=[.agg (ca nS),.agg (ca (ZU b t i)++ca (List.replicate (7-i) gZ)),.i i]/\i<=7/\7-i<=q/\s=s1/\(ZU b t i).all ZN=true) ?_ 7 n _ _ ⟨0,rfl,AC,AC,rfl,rfl⟩ AC;rintro q _ s ⟨i,rfl,hi,hq,rfl,dt⟩ rec aL;have hlen:(ca (ZU b t i)++ca (List.replicate (7-i) gZ)).length=21:=by
    rw[bz,ZB,ZB,B5,oV];omega
   simp only[da,av,aq];rw[bK (cs:=ca nS) (n:=21) rfl,bK hlen];by_cases aw:i<7
   .have cM:ar ((i:Int)+1)=((i+1:Nat):Int):=Zc
    have fY:ar (8*((i+1:Nat):Int))=((8*(i+1):Nat):Int):=Zc;have jO:ar (8*(i:Int))=((8*i:Nat):Int):=Zc;simp only[cM,fY,jO,br,cS];rw[aX,Zb (by rw[aY,bn,bn];omega),Zb (by rw[aY,bn,bn];omega),Zb (aS AC),Zb (aS AC)];have jg:=dV.cK (k:=8*i) AC;have uH:(b.drop (8*i)).length=56-8*i:=by rw[eH,hb]
    have K6:((b.drop (8*i)).take 4).length=4:=by rw[cR];omega
    have ke:=ya n _ ((b.drop (8*i)).take 4) s (jg.lu 4);rw[K6]at ke;rw[rj ke (.refl s),av,aq,Zb (aS AC),show 8*(i+1)-8*i-4=4 by omega];have kU:=jg.cK (k:=4) AC;have ht3:(((b.drop (8*i)).drop 4).take 4).length=4:=by rw[cR,eH];omega
    have iB:=ya n _ (((b.drop (8*i)).drop 4).take 4) s (kU.lu 4);rw[ht3]at iB;rw[rj iB (.refl s),av,aq,jG,Zva];obtain⟨n,rfl⟩: ∃m,n=m+2:=⟨n-2,AC⟩;have HD:=Zny n (wU b t i) s;have Fc:eV (wU b t i)=[.bool (eI t i),.i (ar ((eG ((b.drop (8*i)).take 4):Nat):Int)),.i (ar ((eG ((b.drop (8*i+4)).take 4):Nat):Int))]:=rfl;rw[<-Fc,Zk HD,au,aq];cases Fb:ZN (wU b t i)with
    |false=>
     rw[bp,ae];have:(ZU b t 7).all ZN=false:=List.all_eq_false.2 ⟨wU b t i,oW.2 Fd,by rw[Fb];decide⟩;rw[this,af,Zd];exact .mk ⟨s,aD,rfl⟩
    |true=>
     rw[bw,af,Zb (show aP (i:Int) 7=true from Zi aw),Zb (gz AC)];refine aL (7-(i+1)) _ _ AC ⟨i+1,?_,AC,aM _,rfl,?_⟩
     .congr 3
      rw[IK,Jc,show List.replicate (7-i) gZ=gZ::List.replicate (7-(i+1)) gZ by rw[show 7-i=(7-(i+1))+1 by omega];rfl];show cG (ca (ZU b t i)++(eV gZ++ca (List.replicate (7-(i+1)) gZ))) (i*3) (eV (wU b t i))=_;have e3:i*3=(ca (ZU b t i)).length:=by rw[ZB,B5]
      rw[e3,sV (ca (ZU b t i)) (eV gZ) (ca (List.replicate (7-(i+1)) gZ)) (eV (wU b t i)) rfl,fR];rfl
     .rw[IK,tT,dt]
      simp[Fb]
   .rw[aZ]
    have qH:i=7:=AC
    subst qH;rw[bK (cs:=ca nS) (n:=21) rfl,bK hlen,bK hlen,dt,ae,Zd];refine .mk ⟨s,aD,?_⟩;show _=(Out.val [DV.agg (ca (ZU b t 7)),_],s);rw[show ca (List.replicate (7-7) gZ)=[]from rfl,gM]
  .rw[aS (AC:(t:Int)>=128),bM lg]
   rw[af,ae,Zd];exact .mk ⟨_,aD,rfl⟩
def Cc (l:ak):Bool:=l.all λv=>v==0||lF v 2 3071
def dZ (b:aj) (n:Nat):ak:=(List.range n).map λj=>bR b (2*j) 2
theorem om (b:aj) (n:Nat):(dZ b n).length=n:=by unfold dZ;simp
theorem MU (b:aj) (n:Nat):dZ b (n+1)=dZ b n++[bR b (2*n) 2]:=by simp[dZ,qW,fB]
def iU (l:aj):Option (ak):=match fU l with
 |none=>none
 |some (k,t,b)=>bif decide (k=3)&&(decide (t=0)&&ZD (b.drop 32))then(bif Cc (dZ b 16)then some (dZ b 16)else none)else none
theorem ZC {l:ak} (h:j<l.length:=by omega):(ints l)[j]? =some (.i l[j]):=by simp[ints,h]
theorem iu (h:cs[i]? =some d) (K:DV->M β):eS cs i K=K d:=by unfold eS;rw[h]
theorem Zog (n:Nat) (l:ak) (st:St) (hl:l.length=16) (hn:22<=n):run Bd n 298 [.agg (ints l)] st=some (.val [.bool (Cc l)],st):=by
 obtain⟨n,rfl⟩: ∃m,n=m+2:=⟨n-2,AC⟩;rw[Ze,h.agU];unfold Rx Q_ cN az bu Lb Li Ae Cc
 try dsimp only
 have hlen:(ints l).length=16:=by simp[ints,hl]
 simp only[da,aq,Za];rw[bK hlen,bK hlen];refine ok_eq ?_;refine Zj _ (λq y s=>∃i:Nat,y=[.i i]/\i<=16/\16-i<=q/\s=st/\(l.take i).all (λv=>v==0||lF v 2 3071)=true) ?_ 16 (n+1) _ _ Fd AC;rintro q _ s ⟨i,rfl,hi,hq,rfl,dt⟩ rec aL;rw[av,aq];by_cases aw:i<16
 .rw[aX,Zb (show aP (i:Int) 16=true from Zi aw),br,cS,iu (ZC)]
  rw[bj];have hw:ar ((i:Int)+1)=((i+1:Nat):Int):=Zc;have aO:(l[i]==0||lF l[i] 2 3071)=true->Ok (λp=>p=(Out.val [DV.bool (l.all λv=>v==0||lF v 2 3071)],s)) (rec [.i (ar ((i:Int)+1))] s):=λe=>by
   rw[hw];refine aL (16-(i+1)) _ _ AC ⟨i+1,rfl,AC,aM _,rfl,?_⟩;rw[lV AC,tT,dt];simpa using e
  have cD:(l[i]==0||lF l[i] 2 3071)=false->(l.all λv=>v==0||lF v 2 3071)=false:=Fd
  cases h0:(l[i]==0)with
  |true=>
   rw[bw,af];simp_all
  |false=>
   rw[bp,ae,Zk (Iu n _ _ _ s)];simp only[au,aq];cases fY:lF l[i] 2 3071 with
   |true=>
    rw[bw,af];grind
   |false=>
    rw[bp,ae,Zd,cD (by rw[h0,fY];rfl)];exact .mk rfl
 .rw[aZ,Zd]
  rw[dF AC]at dt;rw[dt];exact .mk rfl
theorem Zqp (n:Nat) (a:ai) (l:aj) (st:St) (ha:c9 st a l) (hl:l.length<1000000) (hn:160<=n):
  Ok (λo=>∃s',aA st s'/\match iU l with
   |none=>o=(.val [.agg (ints (List.replicate 16 0)),.bool false],s')
   |some x=>o=(.val [.agg (ints x),.bool true],s')/\x.length=16) (run Bd n 274 [.slice 1 a l.length] st):=by
 obtain _|n:=n;omega;rw[Ze,h.agF];unfold SI bZ sR az bu cW vv ba Li Lb Z7 iU;simp only[aV,aq,Za];refine Ok.call (DU n a l st ha hl) ?_;rintro _ ⟨s1,aD,ho⟩;cases dX:fU l with
 |none=>
  rw[dX]at ho;subst ho;refine⟨_,s1,rfl,?_⟩;simp only[av,au,aq,Zf 1 0 none _ (.inr rfl)];rw[bp,ae];simp only[ae,Zd];exact .mk ⟨_,aD,rfl⟩
 |some q=>
  have⟨k,t,b⟩:=q;rw[dX]at ho;obtain⟨p1,rfl,hf,hb,hk,ht⟩:=ho;refine⟨_,s1,rfl,?_⟩;simp only[av,au,aV,aq];rw[bw,af,nE k 3 3 rfl,nE t 0 0 rfl];cases kE:decide (k=3)with
  |false=>
   rw[bp];simp only[ae,gu,af,Zd];exact .mk ⟨_,aD,rfl⟩
  |true=>
  rw[bw,af,dL];cases K6:decide (t=0)with
  |false=>
   rw[bp];simp only[ae,gu,af,Zd];exact .mk ⟨_,aD,rfl⟩
  |true=>
  rw[bw,af,dL];have dV:=hf.rM;have cD:=DS n p1 b 32 24 s1 dV;rw[hb,dF (by rw[eH];omega)]at cD;rw[show ar (((56:Nat):Int)-32)=((24:Nat):Int) by decide,show(32:Int)=((32:Nat):Int)from rfl,Zk cD,au,aq];cases ZD (b.drop 32)with
  |false=>
   rw[bp,ae,af,Zd];exact .mk ⟨_,aD,rfl⟩
  |true=>
   rw[bw,ae,af];refine Zj _ (λq y s=>∃i:Nat,y=[.agg (ints (dZ b i)++ints (List.replicate (16-i) 0)),.i i]/\i<=16/\16-i<=q/\s=s1) ?_ 16 n _ _ ⟨0,rfl,AC,AC,rfl⟩ AC;rintro q _ s ⟨i,rfl,hi,hq,rfl⟩ rec aL;have hlen:(ints (dZ b i)++ints (List.replicate (16-i) 0)).length=16:=by
    simp[ints,om];omega
   simp only[da,av,aq];rw[bK hlen];by_cases aw:i<16
   .have cM:ar ((i:Int)+1)=((i+1:Nat):Int):=Zc
    have fY:ar (2*((i+1:Nat):Int))=((2*(i+1):Nat):Int):=Zc;have jO:ar (2*(i:Int))=((2*i:Nat):Int):=Zc;simp only[cM,fY,jO,br,cS];rw[aX,Zb (by rw[aY,bn,bn];omega),Zb (by rw[aY,bn,bn];omega)];have jg:=dV.cK (k:=2*i) AC;have uH:((b.drop (2*i)).take 2).length=2:=by rw[cR,eH];omega
    have ke:=ya n _ ((b.drop (2*i)).take 2) s (jg.lu 2);rw[uH]at ke;rw[show 2*(i+1)-2*i=2 by omega,Zk ke,av,aq,Zb (show aP (i:Int) 16=true from Zi aw),Zb (gz AC)];refine aL (16-(i+1)) _ _ AC ⟨i+1,?_,AC,aM _,rfl⟩;congr 2;rw[MU,show List.replicate (16-i) (0:Int)=0::List.replicate (16-(i+1)) 0 by rw[show 16-i=(16-(i+1))+1 by omega];rfl];have e3:i=(ints (dZ b i)).length:=by simp[ints,om]
    have e4:=sV (ints (dZ b i)) [.i 0] (ints (List.replicate (16-(i+1)) 0)) [.i (bR b (2*i) 2)] rfl;rw[<-e3]at e4;show cG (ints (dZ b i)++([.i 0]++ints (List.replicate (16-(i+1)) 0))) i [.i (bR b (2*i) 2)]=ints (dZ b i++[bR b (2*i) 2])++_;rw[e4,show ints (dZ b i++[bR b (2*i) 2])=ints (dZ b i)++[.i (bR b (2*i) 2)] by unfold ints;rw[fB];rfl,fR]
   .rw[aZ]
    have qH:i=16:=AC
    subst qH;rw[bK hlen];rw[show ints (dZ b 16)++ints (List.replicate (16-16) 0)=ints (dZ b 16)from gM _]at hlen⊢;rw[Zk (Zog n (dZ b 16) s (om b 16) AC),au,aq];cases Cc (dZ b 16)with
    |false=>
     rw[bp,ae,Zd];exact .mk ⟨_,aD,rfl⟩
    |true=>
     rw[bw,af,bK hlen,Zd];exact .mk ⟨_,aD,rfl,om b 16⟩
theorem Zs6 (n:Nat) (l:ak) (v:Int) (p:ai) (st:St) (hs:Sl st p (ints l)) (hl:l.length<1000000) (hn:l.length+3<=n):
  Ok (λo=>∃y:Int,o=(.val [.i y],st)/\decide (y>=0)=decide (v∈l)) (run Bd n 254 [.slice 1 p l.length,.i v] st):=by
 obtain _|n:=n;omega;rw[Ze,h.agn];unfold Q5 oq Q_ cN Zn Li
 try dsimp only
 rw[aV,av,aq,Za];refine Zj _ (λq y s=>∃i:Nat,y=[.i i]/\i<=l.length/\l.length-i<=q/\s=st/\v∉l.take i) ?_ l.length n _ _ Fd AC;rintro q _ s ⟨i,rfl,hi,hq,rfl,cD⟩ rec aL;simp only[av,aq];by_cases aw:i<l.length
 .obtain⟨i1,o1,rfl⟩:=hs.cF (by simp[ints];omega)
  rw[aX,bc,Zb (Zi aw),br,hs.dO (ZC aw),bj];by_cases hv:v=l[i]
  .rw[show(v==l[i])=true by rw[hv];simp,ae,Zd]
   refine .mk ⟨_,rfl,?_⟩;rw[aS AC,aS (by rw[hv];simp)]
  .rw[eN.2 hv,af,Zc]
   refine aL (l.length-(i+1)) _ _ AC ⟨i+1,rfl,AC,aM _,rfl,?_⟩;rw[lV aw];grind
 .rw[aZ,Zd]
  rw[dF AC]at cD;exact .mk Fd
theorem ZjR (n:Nat) (l:ak) (v:Int) (p:ai) (st:St) (hs:Sl st p (ints l)) (hl:l.length<1000000) (hn:l.length+4<=n):
  run Bd n 222 [.slice 1 p l.length,.i v] st=some (.val [.bool (decide (v∈l))],st):=by
 obtain _|n:=n;omega;rw[Ze,h.afS];unfold QY oq cA ep Lb
 try dsimp only
 rw[aV,av,aq];refine ok_eq ?_;refine Ok.call (Zs6 n l v p st hs hl AC) ?_;rintro _ ⟨y,rfl,e⟩;refine⟨_,st,rfl,?_⟩;rw[av,aq,Zd,e];exact .mk rfl
def sU (v:Int):Bool:=bif decide (v>=2)then decide (v<3072)else false
theorem Zf2 (n:Nat) (v:Int) (st:St):run Bd (n+1) 315 [.i v] st=some (.val [.bool (sU v)],st):=by
 rw[Ze,h.ag6];unfold Rk cW az Lb sU;simp only[av,aq,Za,au];cases decide (v>=2)<;>rfl
structure ZH where
 name:aj
 mask:Nat
 dH:ak
def Z1 (x:ZH):ah:= .str x.name:: .i x.mask::ints x.dH
def rW (m i:Nat) (v:Int):Bool:=bif eI m i then sU v else v==0
def na (x:ZH):Bool:=rF x.name&&(decide (x.mask<4096)&&(List.range 12).all λi=>rW x.mask i (x.dH.getD i 0))
def ZY (b:aj) (n:Nat):ak:=(List.range n).map λj=>bR b (4+2*j) 2
theorem DY (b:aj) (n:Nat):(ZY b n).length=n:=by unfold ZY;simp
theorem Zne (b:aj) (n:Nat):ZY b (n+1)=ZY b n++[bR b (4+2*n) 2]:=by simp[ZY,qW,fB]
def jY (b:aj) (t:Nat):ZH:=⟨(b.drop 28).take t,rd b 0 4,ZY b 12⟩
def ZL (l:aj):Option ZH:=match fU l with
 |none=>none
 |some (k,t,b)=>bif decide (k=5)&&(decide (t<=24)&&ZD (b.drop (28+t)))then(bif na (jY b t)then some (jY b t)else none)else none
def Em:ZH:=⟨[],0,List.replicate 12 0⟩
theorem Zl8 (n:Nat) (x:ZH) (st:St) (hl:x.dH.length=12) (hs:x.name.length<1000) (hm:x.mask<4294967296) (hn:22+x.name.length<=n):run Bd n 299 [.agg (Z1 x)] st=some (.val [.bool (na x)],st):=by
 obtain⟨n,rfl⟩: ∃m,n=m+2:=⟨n-2,AC⟩;rw[Ze,h.agV];unfold Rf bu az Q_ cN Ls Lb Li na Z1
 try dsimp only
 have hlen:(ints x.dH).length=12:=by simp[ints,hl]
 simp only[da,bT,av,aq,Za];rw[bK hlen,bK (by simp[hlen]),Zk (ok_eq (Zr9 (n+1) x.name AC AC st))];simp only[au,aq];cases rF x.name with
 |false=>rw[bp,ae];rfl
 |true=>
 rw[bw,af,bM (AC:¬(x.mask:Int)<0)];simp only[af,dL];by_cases fE:x.mask<4096;rotate_left
 .rw[aX,bM fE,Zd,gu]
 rw[aZ,aS fE,dL,show(ints x.dH).take 12=ints x.dH from dF AC];refine ok_eq ?_;refine Zj _ (λq y s=>∃i:Nat,y=[.i i]/\i<=12/\12-i<=q/\s=st/\((List.range i).all λi=>rW x.mask i (x.dH.getD i 0))=true) ?_ 12 (n+1) _ _ Fd AC;rintro q _ s ⟨i,rfl,hi,hq,rfl,dt⟩ rec aL;rw[av,aq];by_cases aw:i<12
 .rw[aX,Zb (show aP (i:Int) 12=true from Zi aw),br,cS,iu (ZC)]
  rw[bj,Zb (aS AC),Zva,Zyj AC AC];have hw:ar ((i:Int)+1)=((i+1:Nat):Int):=Zc;have yW:x.dH.getD i 0=x.dH[i]' AC:=by rw[ef,cu AC];rfl
  have aO:rW x.mask i (x.dH[i]' AC)=true->Ok (λp=>p=(Out.val [DV.bool ((List.range 12).all λi=>rW x.mask i (x.dH.getD i 0))],s)) (rec [.i (ar ((i:Int)+1))] s):=λe=>by
   rw[hw];refine aL (12-(i+1)) _ _ AC ⟨i+1,rfl,AC,aM _,rfl,?_⟩;rw[qW,tT,dt,wE,List.all_nil,yW,e];rfl
  have cD:rW x.mask i (x.dH[i]' AC)=false->((List.range 12).all λi=>rW x.mask i (x.dH.getD i 0))=false:=Fd
  cases hb:eI x.mask i with
  |true=>
   rw[bw,af,Zb (aS AC),ae,Zk (Zf2 n _ s),au,aq];cases hbn:sU (x.dH[i]' AC)with
   |true=>
    rw[bw,af];exact aO (by grind[rW])
   |false=>
    rw[bp,ae,Zd,cD (by grind[rW])];exact .mk rfl
  |false=>
   rw[bp,ae];cases h0:(x.dH[i]' AC==0)with
   |false=>
    rw[bp,ae,ae,Zd,cD (by grind[rW])];exact .mk rfl
   |true=>
    rw[bw,af,Zb (aS AC),af];exact aO (by grind[rW])
 .rw[aZ,Zd]
  rw[show i=12 by omega]at dt;rw[dt];exact .mk rfl
theorem Znz (n:Nat) (a:ai) (l:aj) (st:St) (ha:c9 st a l) (hl:l.length<1000000) (hn:160<=n):
  Ok (λo=>∃s',aA st s'/\match ZL l with
   |none=>o=(.val [.agg (Z1 Em),.bool false],s')
   |some x=>o=(.val [.agg (Z1 x),.bool true],s')/\x.dH.length=12) (run Bd n 275 [.slice 1 a l.length] st):=by
 obtain _|n:=n;omega;rw[Ze,h.agG];unfold RD bZ sR az Ed bu cW vv ba F0 Li F4 Lb Z7 ZL;simp only[aV,aq,Za];refine Ok.call (DU n a l st ha hl) ?_;rintro _ ⟨s1,aD,ho⟩;cases dX:fU l with
 |none=>
  rw[dX]at ho;subst ho;refine⟨_,s1,rfl,?_⟩;simp only[av,au,aq,Zf 1 0 none _ (.inr rfl)];rw[bp,ae];simp only[ae,Zd];exact .mk ⟨_,aD,rfl⟩
 |some q=>
  have⟨k,t,b⟩:=q;rw[dX]at ho;obtain⟨p1,rfl,hf,hb,hk,ht⟩:=ho;refine⟨_,s1,rfl,?_⟩;simp only[av,au,aV,aq];rw[bw,af,nE k 5 5 rfl];cases kE:decide (k=5)with
  |false=>
   rw[bp];simp only[ae,gu,af,Zd];exact .mk ⟨_,aD,rfl⟩
  |true=>
  rw[bw,af,dL];by_cases lg:t<=24;rotate_left
  .rw[aS (AC:(t:Int)>24),bM lg]
   simp only[ae,gu,af,Zd];exact .mk ⟨_,aD,rfl⟩
  rw[bM (AC:¬(t:Int)>24),aS lg,af,dL];have dV:=hf.rM;have hw:ar (28+(t:Int))=((28+t:Nat):Int):=Zc;have cD:=DS n p1 b (28+t) (28-t) s1 dV;rw[hb,dF (by rw[eH];omega)]at cD;have fY:ar (ar (((56:Nat):Int)-28)-(t:Int))=((28-t:Nat):Int):=by
   rw[show ar (((56:Nat):Int)-28)=28 by decide,Zc];omega
  rw[hw,fY,Zk cD,au,aq,br];cases ZD (b.drop (28+t))with
  |false=>
   rw[bp,ae,af,Zd];exact .mk ⟨_,aD,rfl⟩
  |true=>
   rw[bw,ae,af,Zb (by rw[aY,bn,bn];omega),Zb (aS AC)];have xm:=(dV.cK (k:=28) AC).lu t;have Pk:(bI ((b.drop 28).take t)).length=28+t-28:=by rw[Zs,cR,eH];omega
   have nP:=iC (β:=ah) xm;rw[Pk]at nP;rw[nP,<-lH,rf,Zb (aS AC)];have Fh:(b.take 4).length=4:=by rw[cR];omega
   have ke:=ya n _ (b.take 4) s1 (dV.lu 4);rw[Fh]at ke;rw[rj ke (.refl s1),av,aq];have aiB:eG (b.take 4)<4294967296:=by have:=GB (b.take 4);rw[Fh]at this;exact this
   rw[Zc (x:=((eG (b.take 4):Nat):Int))];have sa:((b.drop 28).take t).length<=24:=by rw[cR];omega
   refine Zj _ (λq y s=>∃i:Nat,y=[.agg (.str ((b.drop 28).take t):: .i (eG (b.take 4):Nat)::(ints (ZY b i)++ints (List.replicate (12-i) 0))),.i i]/\i<=12/\12-i<=q/\s=s1) ?_ 12 n _ _ ⟨0,rfl,AC,AC,rfl⟩ AC;rintro q _ s ⟨i,rfl,hi,hq,rfl⟩ rec aL;have hlen:(ints (ZY b i)++ints (List.replicate (12-i) 0)).length=12:=by
    simp[ints,DY];omega
   simp only[da,bT,av,aq];rw[bK hlen];by_cases aw:i<12
   .have cM:ar ((i:Int)+1)=((i+1:Nat):Int):=Zc
    have jO:ar (2*(i:Int))=((2*i:Nat):Int):=Zc;have kh:ar (4+((2*i:Nat):Int))=((4+2*i:Nat):Int):=Zc;have p7:ar (((4+2*i:Nat):Int)+2)=((4+2*i+2:Nat):Int):=Zc;simp only[cM,jO,kh,p7,br,cS];rw[aX,Zb (by rw[aY,bn,bn];omega),Zb (by rw[aY,bn,bn];omega)];have jg:=dV.cK (k:=4+2*i) AC;have uH:((b.drop (4+2*i)).take 2).length=2:=by rw[cR,eH];omega
    have ke:=ya n _ ((b.drop (4+2*i)).take 2) s (jg.lu 2);rw[uH]at ke;rw[show 4+2*i+2-(4+2*i)=2 by omega,Zk ke,av,aq,Zb (show aP (i:Int) 12=true from Zi aw),Zb (gz AC)];refine aL (12-(i+1)) _ _ AC ⟨i+1,?_,AC,aM _,rfl⟩;congr 4;rw[Zne,show List.replicate (12-i) (0:Int)=0::List.replicate (12-(i+1)) 0 by rw[show 12-i=(12-(i+1))+1 by omega];rfl];have e3:i=(ints (ZY b i)).length:=by simp[ints,DY]
    have e4:=sV (ints (ZY b i)) [.i 0] (ints (List.replicate (12-(i+1)) 0)) [.i (bR b (4+2*i) 2)] rfl;rw[<-e3]at e4;show cG (ints (ZY b i)++([.i 0]++ints (List.replicate (12-(i+1)) 0))) i [.i (bR b (4+2*i) 2)]=ints (ZY b i++[bR b (4+2*i) 2])++_;rw[e4,show ints (ZY b i++[bR b (4+2*i) 2])=ints (ZY b i)++[.i (bR b (4+2*i) 2)] by unfold ints;rw[fB];rfl,fR]
   .rw[aZ]
    have qH:i=12:=AC
    subst qH;rw[show ints (ZY b 12)++ints (List.replicate (12-12) 0)=ints (ZY b 12)from gM _]at hlen⊢;rw[bK hlen];have hrq:=Zl8 n (jY b t) s (DY b 12) (by show((b.drop 28).take t).length<_;omega) aiB (by show _+((b.drop 28).take t).length<=_;omega);have hqc:Z1 (jY b t)= .str ((b.drop 28).take t):: .i (eG (b.take 4):Nat)::ints (ZY b 12):=rfl;rw[<-hqc,Zk hrq,au,aq];cases na (jY b t)with
    |false=>
     rw[bp,ae,Zd];exact .mk ⟨_,aD,rfl⟩
    |true=>
     rw[bw,af,bK (by rw[hqc];simp[hlen]),Zd];exact .mk ⟨_,aD,rfl,DY b 12⟩
def D8 (l:ak):Bool:=decide (1<=l.length)&&(decide (l.length<=16)&&(List.range l.length).all λi=>sU (l.getD i 0)&& !decide (l.getD i 0∈l.take i))
def lG (l:aj):Option (ak):=match fU l with
 |none=>none
 |some (k,t,b)=>bif decide (k=6)&&(decide (t<=16)&&ZD (b.drop (2*t)))then(bif D8 (dZ b t)then some (dZ b t)else none)else none
theorem Znx (n:Nat) (l:ak) (p:ai) (st:St) (hs:Sl st p (ints l)) (hl:l.length<1000) (hn:l.length+10<=n):run Bd n 300 [.agg [.slice 1 p l.length]] st=some (.val [.bool (D8 l)],st):=by
 obtain⟨n,rfl⟩: ∃m,n=m+2:=⟨n-2,AC⟩;rw[Ze,h.agW];unfold RE bZ az Q_ cN Zn bu Lb Li ep D8;simp only[da,aV,aq,Za];by_cases h1:1<=l.length;rotate_left
 .rw[aS (AC:(l.length:Int)<1),bM h1]
  rfl
 rw[bM (AC:¬(l.length:Int)<1),aS h1];simp only[au,aq,af,dL];by_cases h2:l.length<=16;rotate_left
 .rw[aS (AC:(l.length:Int)>16),bM h2]
  rfl
 rw[bM (AC:¬(l.length:Int)>16),aS h2,af,dL];refine ok_eq ?_;refine Zj _ (λq y s=>∃i:Nat,y=[.i i]/\i<=l.length/\l.length-i<=q/\s=st/\((List.range i).all λi=>sU (l.getD i 0)&& !decide (l.getD i 0∈l.take i))=true) ?_ l.length (n+1) _ _ Fd AC;rintro q _ s ⟨i,rfl,hi,hq,rfl,dt⟩ rec aL;rw[av,aq];by_cases aw:i<l.length
 .obtain⟨i1,o1,rfl⟩:=hs.cF (by simp[ints];omega)
  rw[aX,bc,Zb (Zi aw),br,hs.dO (ZC aw),bj];have hw:ar ((i:Int)+1)=((i+1:Nat):Int):=Zc;have yW:l.getD i 0=l[i]:=by rw[ef,cu aw];rfl
  have cD:(sU l[i]&& !decide (l[i]∈l.take i))=false->((List.range l.length).all λi=>sU (l.getD i 0)&& !decide (l.getD i 0∈l.take i))=false:=Fd
  rw[Zk (Zf2 n _ s),au,aq];cases hb:sU l[i]with
  |false=>
   rw[bp,ae,ae,Zd,cD (by rw[hb];rfl)];exact .mk rfl
  |true=>
   rw[bw,af,Zb (by rw[aY,bn,bn];omega)];have Y3:(l.take i).length=i:=by rw[cR];omega
   have cd:Sl s (some (i1,o1)) (ints (l.take i)):=by
    have:=Sl.lu hs i;rwa [show(ints l).take i=ints (l.take i) by simp[ints]]at this
   have hc:=ZjR (n+1) (l.take i) l[i] _ s cd AC AC;rw[Y3]at hc;rw[Zk hc,au,aq];cases hm:decide (l[i]∈l.take i)with
   |true=>
    rw[ae,Zd,cD (by rw[hb,hm];rfl)];exact .mk rfl
   |false=>
    rw[af,hw];refine aL (l.length-(i+1)) _ _ AC ⟨i+1,rfl,AC,aM _,rfl,?_⟩;rw[qW,tT,dt,wE,List.all_nil,yW,hb,hm];rfl
 .rw[aZ,Zd]
  rw[show i=l.length by omega]at dt;rw[dt];exact .mk rfl
theorem ZoK (n:Nat) (a:ai) (l:aj) (st:St) (ha:c9 st a l) (hl:l.length<1000000) (hn:160<=n):
  Ok (λo=>∃s',aA st s'/\match lG l with
   |none=>o=(.val [.agg [.slice 0 none 0],.bool false],s')
   |some x=>∃p,o=(.val [.agg [.slice 1 p x.length],.bool true],s')/\Fz s' p (ints x)/\x.length<=16) (run Bd n 276 [.slice 1 a l.length] st):=by
 obtain _|n:=n;omega;rw[Ze,h.agH];unfold R8 bZ sR az bu cW ba Li Lb Z7 lG;simp only[aV,aq,Za];rw[ZJ];refine Ok.call (DU n a l st ha hl) ?_;rintro _ ⟨s1,aD,ho⟩;cases dX:fU l with
 |none=>
  rw[dX]at ho;subst ho;refine⟨_,s1,rfl,?_⟩;simp only[av,au,aq,Zf 1 0 none _ (.inr rfl)];rw[bp,ae];simp only[ae];rw[Zp];exact .mk ⟨_,Zq aD,rfl⟩
 |some q=>
  have⟨k,t,b⟩:=q;rw[dX]at ho;obtain⟨p1,rfl,hf,hb,hk,ht⟩:=ho;refine⟨_,s1,rfl,?_⟩;simp only[av,au,aV,aq];rw[bw,af,nE k 6 6 rfl];cases kE:decide (k=6)with
  |false=>
   rw[bp];simp only[ae,gu,af];rw[Zp];exact .mk ⟨_,Zq aD,rfl⟩
  |true=>
  rw[bw,af,dL];by_cases lg:t<=16;rotate_left
  .rw[aS (AC:(t:Int)>16),bM lg]
   simp only[ae,gu,af];rw[Zp];exact .mk ⟨_,Zq aD,rfl⟩
  rw[bM (AC:¬(t:Int)>16),aS lg,af,dL];have dV:=hf.rM;have hw:ar (2*(t:Int))=((2*t:Nat):Int):=Zc;have cD:=DS n p1 b (2*t) (56-2*t) s1 dV;rw[hb,dF (by rw[eH];omega)]at cD;have fY:ar (((56:Nat):Int)-((2*t:Nat):Int))=((56-2*t:Nat):Int):=by
   rw[Zc];omega
  rw[hw,fY,Zk cD,au,aq];cases ZD (b.drop (2*t))with
  |false=>
   rw[bp,ae,af,Zp];exact .mk ⟨_,Zq aD,rfl⟩
  |true=>
   rw[bw,ae,af];refine Zj _ (λq y s=>∃(i z:Nat) (p:ai),y=[.agg [.slice z p i],.i i]/\(z=1\/p=none)/\i<=t/\t-i<=q/\bg st s p (ints (dZ b i))/\lC s p1 b) ?_ t n _ _ ⟨0,0,none,rfl,.inr rfl,cB _,AC,bg.nil aD,hf⟩ AC;rintro q _ s ⟨i,z,p,rfl,hz,hi,hq,ho,Hi⟩ rec aL;simp only[da,av,Zf 1 z p _ hz,aq];by_cases aw:i<t
   .have cM:ar ((i:Int)+1)=((i+1:Nat):Int):=Zc
    have fY:ar (2*((i+1:Nat):Int))=((2*(i+1):Nat):Int):=Zc;have jO:ar (2*(i:Int))=((2*i:Nat):Int):=Zc;simp only[cM,fY,jO,br,cS];rw[aX,Zb (by rw[aY,bn,bn];omega),Zb (by rw[aY,bn,bn];omega)];have jg:=Hi.rM.cK (k:=2*i) AC;have uH:((b.drop (2*i)).take 2).length=2:=by rw[cR,eH];omega
    have ke:=ya n _ ((b.drop (2*i)).take 2) s (jg.lu 2);rw[uH]at ke;rw[show 2*(i+1)-2*i=2 by omega,wS ke,av,aq];have⟨p2,s2,dj,rZ,he⟩:=ho.Dt (β:=ah) (sz:=1) (n:=i) (lim:=8796093022208) [.i (bR b (2*i) 2)] (xU 0) (by simp[ints,om]) rfl AC;refine Eq.mpr (congrArg (Ok _) (he _)) ?_;refine aL (t-(i+1)) _ _ AC ⟨i+1,1,p2,rfl,.inl rfl,AC,aM _,?_,Hi.kp rZ⟩;rw[MU];show bg st s2 p2 (List.map _ _);rw[fB];exact dj
   .rw[aZ]
    have Ba:i=t:=AC
    subst Ba;have hr:=Znx n (dZ b i) p s ho.sl (by rw[om];omega) (by rw[om];omega);rw[om]at hr;rw[aV,aq,Zk hr,au,aq];cases D8 (dZ b i)with
    |false=>
     rw[bp,ae,af,Zp];exact .mk ⟨_,Zq ho.1,rfl⟩
    |true=>
     rw[bw,af,ae,Zp];refine .mk ⟨_,Zq ho.1,p,?_,ho.fz,?_⟩
     .rw[om]
     .rw[om];omega
def qS (n k:Int):Int:=ar ((ar (ar (n+k)-1)).tdiv k)
def Av (b s g:Int):Int:=bif pS b s g then qS b 384 else 0
def Cj (n:Int):Int:=bif (decide (n>=0)&&decide (n<=1792))then qS n 7 else 0
theorem Zpt (n:Nat) (v k:Int) (hk:k≠0) (st:St):run Bd (n+1) 253 [.i v,.i k] st=some (.val [.i (qS v k)],st):=by
 rw[Ze,h.agm];unfold U9 je Li qS;simp only[av,aq];rw[Zb (by rw[eN.2 hk];rfl)];rfl
theorem Zso (n:Nat) (v:Int) (st:St):run Bd (n+1) 255 [.i v] st=some (.val [.bool (decide (v>=0)&&decide (v<=1792))],st):=by
 rw[Ze,h.ago];unfold TY cW az Lb
 try dsimp only
 rw[av,aq,Za];cases decide (v>=0)<;>rfl
theorem Zql (n:Nat) (v:Int) (st:St):run Bd (n+2) 227 [.i v] st=some (.val [.i (Cj v)],st):=by
 rw[Ze,h.afW];unfold Td cW bu cA Li gA Cj
 try dsimp only
 rw[av,aq,Zk (Zso n v st),au,aq];cases(decide (v>=0)&&decide (v<=1792))with
 |false=>rfl
 |true=>
  rw[bw,af,Zk (Zpt n v 7 EQ st)];rfl
theorem ZqS (n:Nat) (b s g:Int) (st:St):run Bd (n+2) 223 [.agg [.i b,.i s,.i g]] st=some (.val [.i (Av b s g)],st):=by
 rw[Ze,h.afT];unfold S9 D9 bu cA vw Li gA Av;simp only[da,av,aq];rw[Zk (Zl4 n b s g st),au,aq];cases pS b s g with
 |false=>rfl
 |true=>
  rw[bw,af,Zk (Zpt n b 384 EQ st)];rfl
structure ZS where
 no:Nat
 dR:aj
def Z0 (x:ZS):ah:= .i x.no::bI x.dR
def Oh:ZS:=⟨0,List.replicate 48 0⟩
def yr (l:aj):Option ZS:=match fU l with
 |none=>none
 |some (k,t,b)=>bif decide (k=4)&&(decide (t<8)&&ZD (b.drop 48))then some ⟨t,b.take 48⟩else none
def yQ (x:ZS) (a:Nat):Bool:=decide (a/384=x.no)&&eI (x.dR.getD (a%384/8) 0).toNat (a%8)
def ft (x:ZS) (n:Nat):ak:=((List.range n).filter λi=>yQ x (x.no*384+i)).map λi=>((x.no*384+i:Nat):Int)
theorem M4 (x:ZS) (n:Nat):ft x (n+1)=ft x n++(bif yQ x (x.no*384+n)then[((x.no*384+n:Nat):Int)]else[]):=by
 unfold ft;rw[qW,FL,fB];grind
theorem Zrf (x:ZS) (n:Nat):(ft x n).length<=n:=by
 grind[ft]
theorem aek {x:Nat} (hx:x<256) (hr:r<8):((bits .and .u8 (x:Int) ((2^r:Nat):Int))==0)= !eI x r:=by
 have key: ∀x:Fin 256,∀r:Fin 8,((x.val&&& 2^r.val)==0)= !decide (x.val/2^r.val%2=1):=by decide+kernel
 have hp:2^r<256:=Mh (a:=2) (m:=r) (n:=8) EQ hr;have e:bits .and .u8 (x:Int) ((2^r:Nat):Int)=((x&&& 2^r:Nat):Int):=by
  generalize 2^r=w at hp;show IntKind.wrap .u8 ((BitVec.ofInt 8 (x:Int)&&& BitVec.ofInt 8 (w:Int)).toNat:Int)=_;rw[LZ,BitVec.toNat_ofInt,BitVec.toNat_ofInt];have e1:((x:Int)%((2^8:Nat):Int)).toNat=x:=AC
  have e2:((w:Int)%((2^8:Nat):Int)).toNat=w:=AC
  rw[e1,e2];have:x&&& w<256:=DI Nat.and_le_left hx;show((x&&& w:Nat):Int)%(2^8)=_;omega
 rw[e];have:=key ⟨x,hx⟩ ⟨r,hr⟩;grind[eI]
theorem ZqE (n:Nat) (x:ZS) (hl:x.dR.length=48) (st:St):run Bd (n+1) 307 [.agg (Z0 x)] st=some (.val [.bool (decide (x.no<8))],st):=by
 rw[Ze,h.agY];unfold TE az Lb Z0
 try dsimp only
 have hlen:(bI x.dR).length=48:=by rw[Zs,hl]
 rw[da,av,aq,Za,bK hlen,bK (by simp[hlen]),aX];simp only[au,aq];rw[Zd];by_cases h8:x.no<8
 .rw[aS h8,aS AC]
 grind
theorem Zti (n:Nat) (x:ZS) (a:Nat) (ha:a<1000000) (hl:x.dR.length=48) (h8:x.no<8) (st:St):
  run Bd (n+2) 287 [.agg (Z0 x),.i a] st=some (.val (bif decide (a/384=x.no)then[.i (a%384/8:Nat),.u (2^(a%8):Nat),.bool true]else[.i 0,.u 0,.bool false]),st):=by
 rw[Ze,h.agJ];have hr:=ZqE n x hl st;unfold TJ cW bu az Lb
 try dsimp only
 have hlen:(bI x.dR).length=48:=by rw[Zs,hl]
 unfold Z0 at hr⊢;simp only[da,av,aq,Za];rw[bK hlen,bK (by simp[hlen]),Zk hr];simp only[au,aq];rw[aS h8,bw,af,bM (AC:¬(a:Int)<0),af,show((a:Int).tdiv 384)=((a/384:Nat):Int)from rfl,Zc,nE (a/384) x.no _ rfl];cases hd:decide (a/384=x.no)with
 |false=>rfl
 |true=>
  rw[bw,af,ae,show((a:Int).tmod 384)=((a%384:Nat):Int)from rfl,show(((a%384:Nat):Int).tmod 8)=((a%384%8:Nat):Int)from rfl,show(((a%384:Nat):Int).tdiv 8)=((a%384/8:Nat):Int)from rfl,Zb (aS AC),Zc,br,og AC,show a%384%8=a%8 by omega,Zd];have hp:2^(a%8)<256:=Mh (a:=2) (m:=a%8) (n:=8) EQ AC;have e:IntKind.wrap .u8 (1*2^(a%8))=((2^(a%8):Nat):Int):=by
   rw[Int.one_mul,show((2:Int)^(a%8))=((2^(a%8):Nat):Int) by push_cast;rfl];generalize 2^(a%8)=w at hp;show(w:Int)%(2^8)=_;omega
  rw[e]
theorem ZsS (n:Nat) (x:ZS) (a:Nat) (ha:a<1000000) (hl:x.dR.length=48) (h8:x.no<8) (st:St):
  run Bd (n+3) 262 [.agg (Z0 x),.i a] st=some (.val [.bool (yQ x a)],st):=by
 rw[Ze,h.agt];have hr:=Zti n x a ha hl h8 st;unfold Ub cW Zu3 az Lb yQ
 try dsimp only
 have hlen:(bI x.dR).length=48:=by rw[Zs,hl]
 unfold Z0 at hr⊢;simp only[da,av,aq,Za];rw[bK hlen,bK (by simp[hlen]),Zk hr];cases decide (a/384=x.no)with
 |false=>rfl
 |true=>
  simp only[ae,av,au,aq,br,cS,dL];rw[Zb (show aP ((a%384/8:Nat):Int) 48=true from Zi)];have⟨c,hc⟩: ∃c,x.dR[a%384/8]? =some c:=⟨_,cu AC⟩;rw[iu (VN hc),getD_some hc,bj,aek c.toNat_lt AC,Bool.not_not];rfl
theorem Zsi (n:Nat) (x:ZS) (hl:x.dR.length=48) (h8:x.no<8) (st:St) (hn:400<=n):
  Ok (λo=>∃p s',o=(.val [.slice 1 p (ft x 384).length],s')/\aA st s'/\Fz s' p (ints (ft x 384))) (run Bd n 239 [.agg (Z0 x)] st):=by
 obtain⟨n,rfl⟩: ∃m,n=m+4:=⟨n-4,AC⟩;rw[Ze,h.af7];have hr:=λa ha s=>ZsS n x a ha hl h8 s
 unfold TG fJ kB bu ba ep Li iH
 try dsimp only
 have hlen:(bI x.dR).length=48:=by rw[Zs,hl]
 unfold Z0 at hr⊢;simp only[da,av,aq,Za];rw[bK hlen,ZJ,bK (by simp[hlen])];refine Zj _ (λq y s=>∃(i z:Nat) (p:ai),y=[.slice z p (ft x i).length,.i i]/\(z=1\/p=none)/\i<=384/\384-i<=q/\bg st s p (ints (ft x i))) ?_ 384 (n+3) _ _ ⟨0,0,none,rfl,.inr rfl,cB _,AC,bg.nil (.refl st)⟩ AC;rintro q _ s ⟨i,z,p,rfl,hz,hi,hq,ho⟩ rec aL;simp only[av,Zf 1 z p _ hz,aq];by_cases aw:i<384
 .have cM:ar ((i:Int)+1)=((i+1:Nat):Int):=Zc
  have fY:ar ((x.no:Int)*384)=((x.no*384:Nat):Int):=by rw[Zc];omega
  have jO:ar (((x.no*384:Nat):Int)+(i:Int))=((x.no*384+i:Nat):Int):=Zc;rw[cM,fY,jO,aX,Zk (hr (x.no*384+i) AC s),au,aq];have gD:=Zrf x i;cases hh:yQ x (x.no*384+i)with
  |true=>
   rw[ae];have⟨p2,s2,dj,rZ,he⟩:=ho.Dt (β:=ah) (sz:=1) (n:=(ft x i).length) (lim:=8796093022208) [.i ((x.no*384+i:Nat):Int)] (xU 0) (by simp[ints]) rfl AC;refine Eq.mpr (congrArg (Ok _) (he _)) ?_;rw[aV,aq];refine aL (384-(i+1)) _ _ AC ⟨i+1,1,p2,?_,.inl rfl,AC,aM _,?_⟩
   .rw[M4,hh];simp
   .rw[M4,hh]
    show bg st s2 p2 (List.map _ _);rw[fB];exact dj
  |false=>
   rw[af,aV,aq];refine aL (384-(i+1)) _ _ AC ⟨i+1,1,p,?_,.inl rfl,AC,aM _,?_⟩
   .rw[M4,hh];simp
   .rw[M4,hh,af,gM];exact ho
 .rw[aZ]
  rw[aV,aq,Zp];have qH:i=384:=AC
  subst qH;exact .mk ⟨p,_,rfl,Zq ho.1,ho.fz⟩
theorem Zzb {B:ah} (hl:B.length=D.length) (K:M β):dG s.length A.length D K (s++[some ⟨false,A++B⟩])=K (s++[some ⟨false,A++D⟩]):=by
 unfold dG St.gP;rw[kL (aM _),BK];simp only[lz];rw[gz (by rw[bz];omega),ae];have e:=sV A B [] D hl;rw[gM,gM]at e;rw[e];simp
theorem Ztb (n:Nat) (a:ai) (l:aj) (st:St) (ha:c9 st a l) (hl:l.length<1000000) (hn:160<=n):
  Ok (λo=>∃s',aA st s'/\match yr l with
   |none=>o=(.val [.agg (Z0 Oh),.bool false],s')
   |some x=>o=(.val [.agg (Z0 x),.bool true],s')/\x.dR.length=48/\x.no<8) (run Bd n 204 [.slice 1 a l.length] st):=by
 obtain _|n:=n;omega;rw[Ze,h.afB];unfold UB bZ sR az bu ba Lb Z7 yr;simp only[aV,aq,Za];refine Ok.call (DU n a l st ha hl) ?_;rintro _ ⟨s1,aD,ho⟩;cases dX:fU l with
 |none=>
  rw[dX]at ho;subst ho;refine⟨_,s1,rfl,?_⟩;simp only[av,au,aq,Zf 1 0 none _ (.inr rfl)];rw[bp,ae];simp only[ae,Zd];exact .mk ⟨_,aD,rfl⟩
 |some q=>
  have⟨k,t,b⟩:=q;rw[dX]at ho;obtain⟨p1,rfl,hf,hb,hk,ht⟩:=ho;refine⟨_,s1,rfl,?_⟩;simp only[av,au,aV,aq];rw[bw,af,nE k 4 4 rfl];cases kE:decide (k=4)with
  |false=>
   rw[bp];simp only[ae,gu,af,Zd];exact .mk ⟨_,aD,rfl⟩
  |true=>
  rw[bw,af,dL];by_cases lg:t<8;rotate_left
  .rw[aS (AC:(t:Int)>=8),bM lg]
   simp only[ae,gu,af,Zd];exact .mk ⟨_,aD,rfl⟩
  rw[bM (AC:¬(t:Int)>=8),aS lg,af,dL];have dV:=hf.rM;have cD:=DS n p1 b 48 8 s1 dV;rw[hb,dF (by rw[eH];omega)]at cD;rw[show ar (((56:Nat):Int)-48)=((8:Nat):Int) by decide,show(48:Int)=((48:Nat):Int)from rfl,Zk cD,au,aq];cases ZD (b.drop 48)with
  |false=>
   rw[bp,ae,af,Zd];exact .mk ⟨_,aD,rfl⟩
  |true=>
   rw[bw,ae,af];have K7:(b.take 48).length=48:=by rw[cR];omega
   have iz:(bI (b.take 48)).length=min 56 48*1:=by rw[Zs,K7];rfl
   refine Eq.mpr (congrArg (Ok _) (show _=(ck (Z0 Oh) λc1=>dG c1 0 (Z0 ⟨t,List.replicate 48 0⟩)<|bX c1 1 48 λ_=>dx p1 (min 56 48*1) λcs=>dG c1 1 cs<|bX c1 0 49 λbQ=>aC .i64 bQ λx4 r1=>bC r1 48<|bC ((.i x4)::r1) 49<|ax [.agg ((.i x4)::r1),.bool true]) s1 from rfl)) ?_;rw[Zz,Zrp FS,Z9 (i:=s1.length) (o:=1) (n:=48) (f:=false) (all:=Z0 ⟨t,List.replicate 48 0⟩) Do (by simp[Z0,Zs])];have dh:=(dV.mono (aA.new s1 (some ⟨false,Z0 ⟨t,List.replicate 48 0⟩⟩))).lu 48;rw[<-iz,iC dh];have cd:=Zzb (β:=ah) (s:=s1) (A:=[.i t]) (B:=bI (List.replicate 48 0)) (D:=bI (b.take 48)) (by rw[Zs,Zs,K7];rfl);refine Eq.mpr (congrArg (Ok _) (cd _)) ?_;have hco:([.i t]++bI (b.take 48):ah).length=49:=by rw[bz,Zs,K7];rfl
   rw[Z9 (i:=s1.length) (o:=0) (n:=49) (f:=false) (all:=[.i t]++bI (b.take 48)) Do (by rw[hco];omega),dE,dF (l:=[DV.int .i64 t]++bI (b.take 48)) (i:=49) (by rw[hco];omega)];show Ok _ (aC .i64 (.i t::bI (b.take 48)) _ _);rw[av];have acG:(bI (b.take 48)).length=48:=by rw[Zs,K7]
   rw[bK acG,bK (by rw[cQ,acG]),Zd];exact .mk ⟨_,aD.trans (.new _ _),rfl,K7,lg⟩
def Fx (T:al) (s s':St):Prop:=s.length<=s'.length/\∀(b:Nat) (x:Option bO),b∉T->s[b]? =some x->s'[b]? =some x
theorem Fx.refl (T:al) (s:St):Fx T s s:=⟨aM _,λ_ _ _ h=>h⟩
theorem Fx.pre (T:al) (h:aA s s'):Fx T s s':=⟨h.len,λ_ _ _ e=>h.get e⟩
theorem Fx.trans {a b c:St} (h:Fx T a b) (k:Fx T b c):Fx T a c:=⟨hU h.1 k.1,λi x n e=>k.2 i x n (h.2 i x n e)⟩
theorem Fx.step {a b c:St} (h:Fx T a b) (k:Fx T' b c) (hT: ∀x∈T',x∈T\/a.length<=x):Fx T a c:=
 ⟨hU h.1 k.1,λi x n e=>k.2 i x (λhm=>by
  grind) (h.2 i x n e)⟩
theorem Fx.mono {a b:St} (h:Fx T a b) (k: ∀x∈T,x∈T'):Fx T' a b:=⟨h.1,λi x n e=>h.2 i x (λm=>n (k i m)) e⟩
theorem Fx.set (s:St) (j:Nat) (b:Option bO):Fx [j] s (s.set j b):=⟨Do,Fd⟩
def lW (T:al) (a:ai):Prop:=∀b o,a=some (b,o)->b∉T
theorem Sl.fx {a:ai} (h:Sl s a cs) (k:Fx T s s') (n:lW T a):Sl s' a cs:=by
 cases a with
 |none=>exact h
 |some p=>
  have⟨i,o⟩:=p;have⟨f,all,h1,h2⟩:=h;exact⟨f,all,k.2 i _ (n i o rfl) h1,h2⟩
theorem Sl.lt (h:Sl s (some (i,o)) cs):i<s.length:=by
 have⟨f,all,h1,_⟩:=h;grind
theorem lW.new {a:ai} (h:lW T a) (k:Sl s a cs) (hT: ∀x∈T',x∈T\/s.length<=x):lW T' a:=by
 intro b o e hm;subst e;rcases hT b hm with h1|h1
 .exact h b o rfl h1
 .have:=Sl.lt k;omega
def Zv (W:al):ah:=W.map λ(w:Nat)=> .w w
theorem UE (W:al):(Zv W).length=W.length:=by simp[Zv]
structure gJ (s:St) (f:Bool) (i j n:Nat) (W:List Nat):Prop where
 hd:s[i]? =some (some ⟨f,[.i n,.slice 1 (some (j,0)) W.length]⟩)
 wd:s[j]? =some (some ⟨f,Zv W⟩)
 len:W.length=(n+63)/64
 lt: ∀w∈W,w<18446744073709551616
 le:n<=3072
theorem gJ.fx (h:gJ s f i j n W) (k:Fx T s s') (hi:i∉T) (hj:j∉T):gJ s' f i j n W:=
 ⟨k.2 i _ hi h.hd,k.2 j _ hj h.wd,h.len,h.lt,h.le⟩
theorem gJ.pre (h:gJ s f i j n W) (k:aA s s'):gJ s' f i j n W:=
 ⟨k.get h.hd,k.get h.wd,h.len,h.lt,h.le⟩
def fN (n:Nat) (a:Int):Bool:=decide (0<=a)&&decide (a<n)
def du (W:al) (a:Nat):Bool:=eI (W.getD (a/64) 0) (a%64)
def bN (n:Nat) (W:al) (a:Int):al:=bif fN n a then W.set (a.toNat/64) (W.getD (a.toNat/64) 0|||2^(a.toNat%64))else W
theorem pC (n:Nat) (W:al) (a:Int):(bN n W a).length=W.length:=by
 grind[bN]
theorem WL {a:Int} (h: ∀w∈W,w<18446744073709551616): ∀w∈bN n W a,w<18446744073709551616:=by
 unfold bN;cases fN n a with
 |false=>exact h
 |true=>
  intro w hw;rw[ae]at hw;rcases List.mem_or_eq_of_mem_set hw with h1|h1
  .exact h w h1
  .rw[h1]
   refine Nat.or_lt_two_pow (n:=64) ?_ (Mh EQ AC);rw[ef];cases e:W[a.toNat/64]? with
   |none=>decide
   |some v=>exact h v (sD e)
theorem rD {a:Int} {b:Nat} (hl:W.length=(n+63)/64):du (bN n W a) b=(du W b||(fN n a&&decide (b=a.toNat))):=by
 unfold bN;cases hm:fN n a with
 |false=>simp[du]
 |true=>
  rw[ae,dL];unfold fN at hm;rw[aY,bn,bn]at hm;unfold du;have hk:a.toNat/64<W.length:=AC
  by_cases hq:b/64=a.toNat/64
  .rw[hq,ef,lA hk]
   show eI (W.getD (a.toNat/64) 0|||2^(a.toNat%64)) (b%64)=_;have key: ∀w:Nat,eI (w|||2^(a.toNat%64)) (b%64)=(eI w (b%64)||decide (b=a.toNat)):=by
    intro w;unfold eI;rw[<-Nat.testBit_eq_decide_div_mod_eq,<-Nat.testBit_eq_decide_div_mod_eq,Nat.testBit_or,Nat.testBit_two_pow];grind
   rw[key,ef]
  grind
theorem ZnK (n:Nat) (a:Int) (st:St) (hs:gJ st f i j m W):
  run Bd (n+1) 209 [.ptr (some (i,0)),.i a] st=some (.val [.bool (fN m a)],st):=by
 rw[Ze,h.afG];unfold Sn ql az Zm Lb fN
 try dsimp only
 rw[eO,av,aq,Za,bc];by_cases h0:a>=0
 .rw[aS h0,ae,Zo hs.hd rfl]
  rfl
 .rw[bM h0,af]
  rfl
theorem WY {a:Int} (h:0<=a):a.tdiv 64=((a.toNat/64:Nat):Int):=by
 grind
theorem Zxw {a:Int} (h:0<=a):a.tmod 64=((a.toNat%64:Nat):Int):=by
 grind
theorem ZzF (hw:w<18446744073709551616) (hj:j<64):(bits .and .u64 ((w:Int).fdiv (2^(min j 64))) 1==1)=eI w j:=by
 rw[og AC,show((2:Int)^j)=((2^j:Nat):Int) by push_cast;rfl,uh];have h1:w/2^j<18446744073709551616:=DI (FR _ _) hw;rw[show(1:Int)=((1:Nat):Int)from rfl,Ev h1 EQ,Nat.and_one_is_mod];grind[eI]
theorem ZnE (n:Nat) (a:Int) (st:St) (hs:gJ st f i j m W):
  run Bd (n+2) 184 [.ptr (some (i,0)),.i a] st=some (.val [.bool (fN m a&&du W a.toNat)],st):=by
 rw[Ze,h.afn];unfold RT ql bu az iI Lb;simp only[eO,av,aq,Za,bc];rw[Zk (ZnK n a st hs),au,aq];cases hm:fN m a with
 |false=>rfl
 |true=>
  have qJ:=hm;unfold fN at qJ;rw[aY,bn,bn]at qJ;have hle:=hs.le;have hlen:=hs.len;have hk:a.toNat/64<W.length:=AC
  rw[ae,Zo hs.hd rfl,kA,bc,WY qJ.1,Zxw qJ.1,Zc,Zb (Zi hk),br,br,Zo (d:= .w (W[a.toNat/64]'hk:Nat)) hs.wd (by rw[cS,gQ];simp[Zv,hk]),bj];have aw:=hs.lt _ (ku hk);rw[Zb (aS AC),ZzF aw AC,dL];unfold du;rw[ef,cu hk];rfl
theorem rk (h:st[j]? =some (some ⟨false,cs⟩)) (hk:k<cs.length) (K:M β):dG j k [d] K st=K (st.set j (some ⟨false,cs.set k d⟩)):=by
 unfold dG St.gP;rw[h];simp only[iS,gz (AC:k+1<=cs.length),ae,Ce d cs k hk]
theorem gJ.add (hs:gJ st false i j m W) (mI:i≠j) (W':al) (hl:W'.length=W.length) (aw: ∀w∈W',w<18446744073709551616):gJ (st.set j (some ⟨false,Zv W'⟩)) false i j m W':=by
 have hj:j<st.length:=(eB.1 hs.wd).1;refine⟨?_,?_,by rw[hl];exact hs.len,aw,hs.le⟩
 .rw[jH AC,hl];exact hs.hd
 grind
theorem IQ (n:Nat) (l:ak) (p:ai) (st:St) (hs:gJ st false i j m W) (mI:i≠j) (hl:Sl st p (ints l)) (hp:lW [j] p) (gD:l.length<1000000:=by omega) (hn:l.length+3<=n:=by omega):
  run Bd n 206 [.ptr (some (i,0)),.slice 1 p l.length] st=some (.val [],st.set j (some ⟨false,Zv (l.foldl (bN m) W)⟩)):=by
 obtain⟨n,rfl⟩: ∃k,n=k+2:=⟨n-2,AC⟩;rw[Ze,h.afD];unfold RX bZ Q_ cN Zn bu iI Li lE;simp only[eO,aV,aq,Za];refine ok_eq ?_;have e0:st=st.set j (some ⟨false,Zv W⟩):=by
  refine tU λk=>?_
  by_cases e:j=k
  .grind[hs.wd]
  grind
 refine Zj _ (λq y s=>∃k:Nat,y=[.i k]/\k<=l.length/\l.length-k<=q/\s=st.set j (some ⟨false,Zv ((l.take k).foldl (bN m) W)⟩)/\gJ s false i j m ((l.take k).foldl (bN m) W)) ?_ l.length (n+1) _ _ Fd AC;rintro q _ s ⟨k,rfl,hk,hq,cd,lf⟩ rec aL;rw[av,aq];by_cases aw:k<l.length
 .have ES:Sl s p (ints l):=by rw[cd];exact Sl.fx hl (Fx.set st j _) hp
  obtain⟨i1,o1,rfl⟩:=ES.cF (by simp[ints];omega);rw[aX,bc,Zb (Zi aw),br,ES.dO (ZC aw),bj,Zk (ZnK n l[k] s lf),au,aq];have hw:ar ((k:Int)+1)=((k+1:Nat):Int):=Zc;have fM:(l.take (k+1)).foldl (bN m) W=bN m ((l.take k).foldl (bN m) W) l[k]:=by
   rw[lV aw,xQ];rfl
  generalize hV:(l.take k).foldl (bN m) W=V at cd lf fM;cases hm:fN m l[k]with
  |false=>
   rw[af,hw];have CQ:bN m V l[k]=V:=by unfold bN;rw[hm];rfl
   exact aL (l.length-(k+1)) _ _ AC Fd
  |true=>
   have qJ:=hm;unfold fN at qJ;rw[aY,bn,bn]at qJ;have hle:=hs.le;have hlen:=lf.len;have Bc:l[k].toNat/64<V.length:=AC
   rw[ae,bc,Zo lf.hd rfl];simp only[kA,bc];rw[WY qJ.1,Zxw qJ.1,Zc,Zb (Zi Bc),br,br,Zo (d:= .w (V[l[k].toNat/64]'Bc:Nat)) lf.wd (by rw[cS,gQ];simp[Zv,Bc]),bj];have aw:=lf.lt _ (ku Bc);have aU:2^(l[k].toNat%64)<18446744073709551616:=Mh (a:=2) (n:=64) EQ AC;rw[Zb (aS AC),Zb (Zi Bc),og AC,Int.one_mul,show((2:Int)^(l[k].toNat%64))=((2^(l[k].toNat%64):Nat):Int) by push_cast;rfl,rE aU,adq aw aU,rk lf.wd (by rw[UE,cS,gQ];exact Bc),hw,cS];have CQ:bN m V l[k]=V.set (l[k].toNat/64) (V[l[k].toNat/64]'Bc|||2^(l[k].toNat%64)):=by
    unfold bN;rw[hm,ae,ef,cu Bc];rfl
   have CU:(Zv V).set (l[k].toNat/64+0) (.w ((V[l[k].toNat/64]'Bc|||2^(l[k].toNat%64):Nat):Int))=Zv (bN m V l[k]):=by
    rw[CQ,gQ];unfold Zv;rw[List.map_set]
   rw[CU];refine aL (l.length-(k+1)) _ _ AC ⟨k+1,rfl,AC,aM _,?_,?_⟩
   .rw[fM,cd,List.set_set]
   .rw[fM];exact lf.add mI _ (pC _ _ _) (WL lf.lt)
 .rw[aZ]
  rw[Zd,cd,dF AC];exact .mk rfl
def jl (n:Nat) (l:ak):al:=l.foldl (bN n) (List.replicate ((n+63)/64) 0)
theorem ZE (n:Nat): ∀(l:ak) (W:al),(l.foldl (bN n) W).length=W.length/\((∀w∈W,w<18446744073709551616)->∀w∈l.foldl (bN n) W,w<18446744073709551616)
 |[],_=>⟨rfl,id⟩
 |a::l,W=>⟨by rw[BF,(ZE n l _).1,pC],λh=>(ZE n l _).2 (WL h)⟩
theorem UQ (n m:Nat) (l:ak) (p:ai) (st:St) (hm:m<=3072) (hl:Sl st p (ints l)) (gD:l.length<1000000) (hn:l.length+4<=n):
  ∃s',run Bd n 177 [.i m,.slice 1 p l.length] st=some (.val [.ptr (some (st.length+1,0))],s')/\aA st s'/\s'.length=st.length+2/\gJ s' false (st.length+1) st.length m (jl m l):=by
 obtain _|n:=n;omega;rw[Ze,h.abQ];unfold VI bZ C_ lE vh Lp
 try dsimp only
 rw[av,aV,aq];have h0:(if (m:Int)<0 then(0:Int)else m)=m:=bq AC;have h1:(if (3072:Int)<(m:Int)then(3072:Int)else m)=m:=bq AC;have h2:ar ((ar ((ar ((m:Int)+64))-1)).tdiv 64)=(((m+63)/64:Nat):Int):=by
  rw[Zc (x:=(m:Int)+64),show((m:Int)+64-1)=((m+63:Nat):Int) by omega,Zc (x:=((m+63:Nat):Int)),show(((m+63:Nat):Int).tdiv 64)=(((m+63)/64:Nat):Int)from rfl];exact Zc
 rw[h0,h1,h2,br,Zb (by rw[aY,aY,bn,bn,bn];omega),Zz,Zz];have hw:iD ((m+63)/64) [DV.int .u64 0]=Zv (List.replicate ((m+63)/64) 0):=by rw[Ec];simp[Zv]
 rw[hw];have Pf:(st++[some (⟨false,Zv (List.replicate ((m+63)/64) 0)⟩:bO)]).length=st.length+1:=Do
 rw[Pf];have hp:aA st (st++[some (⟨false,Zv (List.replicate ((m+63)/64) 0)⟩:bO)]++[some (⟨false,[.i m,.slice 1 (some (st.length,0)) ((m+63)/64)]⟩:bO)]):=(aA.new _ _).trans (.new _ _);have lf:gJ (st++[some (⟨false,Zv (List.replicate ((m+63)/64) 0)⟩:bO)]++[some (⟨false,[.i m,.slice 1 (some (st.length,0)) ((m+63)/64)]⟩:bO)]) false (st.length+1) st.length m (List.replicate ((m+63)/64) 0):=by
  refine⟨?_,?_,Do,Do,hm⟩
  .rw[kL Do];simp
  simp
 have Hq:(st++[some (⟨false,Zv (List.replicate ((m+63)/64) 0)⟩:bO)]++[some (⟨false,[.i m,.slice 1 (some (st.length,0)) ((m+63)/64)]⟩:bO)]).length=st.length+2:=Do
 generalize st++[some (⟨false,Zv (List.replicate ((m+63)/64) 0)⟩:bO)]++[some (⟨false,[.i m,.slice 1 (some (st.length,0)) ((m+63)/64)]⟩:bO)]=s2 at hp lf Hq;have EX:lW [st.length] p:=by
  intro b o e hb;subst e;have:=Sl.lt hl;rw[cE.1 hb]at this;omega
 rw[Zk (IQ n l p s2 lf AC (hl.mono hp) EX gD),aq,Zd];exact⟨_,rfl,rB hp (aM _) _,by simp[Hq],lf.add AC _ (ZE m l _).1 ((ZE m l _).2 lf.lt)⟩
end Go.Gv.F
