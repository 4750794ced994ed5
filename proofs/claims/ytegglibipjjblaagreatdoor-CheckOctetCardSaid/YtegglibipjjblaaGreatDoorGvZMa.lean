/- Numbers as octets, the least one first. -/
import Derived.Test.YtegglibipjjblaaGreatDoorGvZPg
set_option linter.all false
namespace Go.Gv.F
open Go.Gv
def ef:aj->Nat
 |[]=>0
 |c::l=>c.toNat+256*ef l
def bB:Nat->Nat->aj
 |_,0=>[]
 |v,n+1=>UInt8.ofNat v::bB (v/256) n
theorem Zr: ∀(v n:Nat),(bB v n).length=n
 |_,0=>rfl
 |v,n+1=>by rw[bB,cQ,Zr]
theorem GD: ∀(l:aj),ef l<256^l.length
 |[]=>by decide
 |c::l=>by
  have h1:=c.toNat_lt;have h2:=GD l;rw[ef,cQ,tn];omega
theorem V0: ∀(v n:Nat),ef (bB v n)=v%256^n
 |v,0=>by simp[bB,ef,Nat.mod_one]
 |v,n+1=>by
  rw[bB,ef,V0,tn,BG (256^n),Nat.mod_mul];have:(UInt8.ofNat v).toNat=v%256:=rfl;rw[this]
theorem Gq: ∀(l:aj),bB (ef l) l.length=l
 |[]=>rfl
 |c::l=>by
  have h1:=c.toNat_lt;rw[ef,cQ,bB,show(c.toNat+256*ef l)/256=ef l by omega,Gq l];simp
theorem Zvx: ∀(l m:aj),ef (l++m)=ef l+256^l.length*ef m
 |[],m=>by simp[ef]
 |c::l,m=>by
  rw[oo,ef,ef,Zvx l m,cQ,tn,Nat.mul_add,<-Nat.mul_assoc,BG 256 (256^l.length)];omega
theorem Wc: ∀(v m n:Nat),bB v (m+n)=bB v m++bB (v/256^m) n
 |v,0,n=>by simp[bB]
 |v,m+1,n=>by
  rw[show m+1+n=(m+n)+1 by omega,bB,bB,Wc (v/256) m n,oo,tn,BG (256^m),H3]
variable {f:Bool} {d:DV} {i j k m n o r t w y:Nat} {s s' st:St} {A D cs ds:ah} {l:aj} {T T' W:al}
theorem ZAl {m:aj} (h:l.length=m.length) (e:ef l=ef m):l=m:=by
 rw[<-Gq l,<-Gq m,e,h]
def nK (x:Nat):Nat:=if x%2=1 then(x/2)^^^2197175160 else x/2
def ZO:Nat->Nat->Nat
 |0,x=>x
 |n+1,x=>ZO n (nK x)
def oV (x:Nat) (c:UInt8):Nat:=ZO 8 (x^^^c.toNat)
def tO (l:aj):Nat:=4294967295-l.foldl oV 4294967295
theorem ZAh (a b:Nat):(a^^^b)%2=(a+b)%2:=by
 have h:=Nat.testBit_xor a b 0;grind
theorem Zzk (a b:Nat):(a^^^b)/2=(a/2)^^^(b/2):=by
 have:=Nat.shiftRight_xor_distrib (a:=a) (b:=b) (i:=1);grind[Nat.shiftRight_succ]
theorem ZxR (a b:Nat):nK (a^^^b)=nK a^^^nK b:=by
 unfold nK;rw[ZAh,Zzk];rcases Nat.mod_two_eq_zero_or_one a with ha|ha<;>rcases Nat.mod_two_eq_zero_or_one b with hb|hb
 .rw[aY AC,aY AC,aY AC]
 .rw[bx AC,aY AC,bx AC,H7]
 .rw[bx AC,bx AC,aY AC,H7,Nat.xor_comm (b/2),<-H7]
 grind
theorem ZpG: ∀(n a b:Nat),ZO n (a^^^b)=ZO n a^^^ZO n b
 |0,_,_=>rfl
 |n+1,a,b=>by rw[ZO,ZO,ZO,ZxR,ZpG n]
theorem ZpI: ∀(m n x:Nat),ZO (m+n) x=ZO n (ZO m x)
 |0,n,x=>by rw[fq];rfl
 |m+1,n,x=>by rw[show m+1+n=(m+n)+1 by omega,ZO,ZO,ZpI m n]
theorem Nh (z:Nat):nK (2*z)=z:=by simp[nK]
theorem Zz5 (x:Nat):x=(16*(x/16))^^^(x%16):=by
 refine H4 λi=>?_
 rw[Nat.testBit_xor];have e1:(16*(x/16)).testBit i=(decide (4<=i)&&x.testBit i):=by
  rw[show 16*(x/16)=2^4*(x/2^4)from rfl,Nat.testBit_two_pow_mul];by_cases h:4<=i
  .rw[aQ h,Nat.testBit_div_two_pow,show i-4+4=i by omega]
  grind
 have e2:(x%16).testBit i=(decide (i<4)&&x.testBit i):=by
  rw[show x%16=x%2^4 from rfl,Nat.testBit_mod_two_pow]
 rw[e1,e2];by_cases h:4<=i
 .rw[aQ h,bP AC];simp
 grind
theorem nib (x:Nat):ZO 4 x=(x/16)^^^ZO 4 (x%16):=by
 have h:ZO 4 (16*(x/16))=x/16:=by
  generalize x/16=y;show nK (nK (nK (nK (16*y))))=y;rw[show 16*y=2*(2*(2*(2*y))) by omega,Nh,Nh,Nh,Nh]
 have h2:=ZpG 4 (16*(x/16)) (x%16);rw[<-Zz5,h]at h2;exact h2
theorem NQ {x:Nat} (h:x<4294967296):nK x<4294967296:=by
 unfold nK;split
 .exact FL (n:=32) AC AC
 .omega
theorem IU: ∀(n:Nat) {x:Nat},x<4294967296->ZO n x<4294967296
 |0,_,h=>h
 |n+1,_,h=>IU n (NQ h)
theorem Jk {x:Nat} (h:x<4294967296) (c:UInt8):oV x c<4294967296:=
 IU 8 (FL (n:=32) h (by have:=c.toNat_lt;omega))
theorem Cd: ∀(l:aj) {x:Nat},x<4294967296->l.foldl oV x<4294967296
 |[],_,h=>h
 |c::l,_,h=>Cd l (Jk h c)
theorem WM (l:aj):tO l<4294967296:=by unfold tO;omega
theorem Zy3 (x:Nat) (c:UInt8):oV x c=((((x^^^c.toNat)/16)^^^ZO 4 ((x^^^c.toNat)%16))/16)^^^ZO 4 ((((x^^^c.toNat)/16)^^^ZO 4 ((x^^^c.toNat)%16))%16):=by
 unfold oV;generalize x^^^c.toNat=y;rw[show ZO 8 y=ZO 4 (ZO 4 y)from ZpI 4 4 y,nib y];exact nib _
theorem ZAB {x:Nat} (h:x<4294967296):x^^^4294967295=4294967295-x:=by
 refine H4 λi=>?_
 rw[show(4294967295:Nat)=2^32-1 from rfl,Nat.testBit_xor,Nat.testBit_two_pow_sub_one,show 2^32-1-x=2^32-(x+1) by omega,Nat.testBit_two_pow_sub_succ AC];by_cases hi:i<32
 .rw[aQ hi];simp
 .rw[bP hi]
  have:x.testBit i=false:=FK (mE (AC:x<2^32) (pB EQ AC));simp[this]
variable {Y:Type}
theorem AD {x:Nat} (h:x<18446744073709551616:=by omega):IntKind.wrap .u64 (x:Int)=x:=IntWalk.u64_in _ AC
theorem Ce {x:Nat} (h:x<4294967296:=by omega):IntKind.wrap .u32 (x:Int)=x:=by
 show(x:Int)%_=x;have:((2:Int)^32)=4294967296:=EQ
 show(x:Int)%(2^32)=x;omega
theorem ZzY (x:Nat):IntKind.wrap .u64 (x:Int)=((x%18446744073709551616:Nat):Int):=by
 rfl
theorem JE {x:Nat} (h:x<18446744073709551616):(BitVec.ofInt 64 (x:Int)).toNat=x:=by
 rw[BitVec.toNat_ofInt];omega
theorem OC {x:Nat} (h:x<4294967296):(BitVec.ofInt 32 (x:Int)).toNat=x:=by
 rw[BitVec.toNat_ofInt];omega
theorem aej {x:Nat} (hx:x<18446744073709551616) (hy:y<18446744073709551616):bits .or .u64 (x:Int) (y:Int)=((x|||y:Nat):Int):=by
 show IntKind.wrap .u64 ((BitVec.ofInt 64 (x:Int)|||BitVec.ofInt 64 (y:Int)).toNat:Int)=_;rw[BitVec.toNat_or,JE hx,JE hy];exact AD (Nat.or_lt_two_pow (n:=64) hx hy)
theorem acd {x:Nat} (hx:x<18446744073709551616) (hy:y<18446744073709551616):bits .and .u64 (x:Int) (y:Int)=((x&&& y:Nat):Int):=by
 show IntKind.wrap .u64 ((BitVec.ofInt 64 (x:Int)&&& BitVec.ofInt 64 (y:Int)).toNat:Int)=_;rw[BitVec.toNat_and,JE hx,JE hy];exact AD (H5 Nat.and_le_left hx)
theorem Fs {x:Nat} (hx:x<4294967296) (hy:y<4294967296:=by omega):bits .xor .u32 (x:Int) (y:Int)=((x^^^y:Nat):Int):=by
 show IntKind.wrap .u32 ((BitVec.ofInt 32 (x:Int)^^^BitVec.ofInt 32 (y:Int)).toNat:Int)=_;rw[BitVec.toNat_xor,OC hx,OC hy];exact Ce (FL (n:=32) hx hy)
theorem acb {x:Nat} (hx:x<4294967296) (hy:y<4294967296):bits .and .u32 (x:Int) (y:Int)=((x&&& y:Nat):Int):=by
 show IntKind.wrap .u32 ((BitVec.ofInt 32 (x:Int)&&& BitVec.ofInt 32 (y:Int)).toNat:Int)=_;rw[BitVec.toNat_and,OC hx,OC hy];exact Ce (H5 Nat.and_le_left hx)
theorem Ea (x m:Nat):Int.fdiv (x:Int) (m:Int)=((x/m:Nat):Int):=by
 grind
def bT (l:aj):ah:=l.map λb=> .u b.toNat
theorem qi (l:aj):Z6 l=bT l:=rfl
theorem Zw (l:aj):(bT l).length=l.length:=by simp[bT]
theorem VX {b:UInt8} (h:l[j]? =some b):(bT l)[j]? =some (.u b.toNat):=by grind[bT]
theorem ZxV (l:aj) (k:Nat):(bT l).drop k=bT (l.drop k):=by simp[bT]
theorem Zyi (l:aj) (k:Nat):(bT l).take k=bT (l.take k):=by simp[bT]
theorem B2 (l m:aj):bT (l++m)=bT l++bT m:=by simp[bT]
def dD (s:St) (a:ai) (l:aj):Prop:=Sl s a (bT l)
theorem dD.mono {s s':St} (k:aB s s') {a:ai} {l:aj} (h:dD s a l):dD s' a l:=Sl.mono k h
theorem dD.get {s:St} {i o:Nat} {l:aj} (h:dD s (some (i,o)) l) {j:Nat} {b:UInt8} (hb:l[j]? =some b) (K:DV->M Y):bH i (j+o) K s=K (.u b.toNat) s:=Sl.get h (VX hb) K
theorem dD.dX (h:dD s (some (i,o)) l) {b:UInt8} (hb:l[j]? =some b) (K:DV->M Y):bH i (j*1+o) K s=K (.u b.toNat) s:=by rw[cR];exact h.get hb K
theorem dD.cS {s:St} {a:ai} {l:aj} (h:dD s a l) (hn:0<l.length): ∃i o,a=some (i,o):=Sl.cS h (by rw[Zw];exact hn)
theorem Sl.sub (h:Sl s (some (i,o)) cs) (hk:k<=cs.length):Sl s (some (i,k+o)) (cs.drop k):=by
 have⟨f,all,h1,h2,h3⟩:=h;refine⟨f,all,h1,by rw[dY];omega,?_⟩;rw[dY,show k+o=o+k by omega,<-kd,<-BC,h3]
theorem Sl.cY {s:St} {a:ai} {cs:ah} (h:Sl s a cs) {k:Nat} (hk:k<=cs.length):Sl s (cY true a k) (cs.drop k):=by
 cases a with
 |none=>rw[show cs=[]from h];simp[Go.Gv.cY,Sl]
 |some p=>exact Sl.sub h hk
theorem Sl.mu {a:ai} (h:Sl s a cs) (k:Nat):Sl s a (cs.take k):=by
 cases a with
 |none=>rw[show cs=[]from h];simp[Sl]
 |some p=>
  have⟨f,all,h1,h2,h3⟩:=h;refine⟨f,all,h1,by rw[cB];omega,?_⟩;rw[cB,<-H2,h3]
theorem dD.cY {s:St} {a:ai} {l:aj} (h:dD s a l) {k:Nat} (hk:k<=l.length):dD s (cY true a k) (l.drop k):=by
 unfold dD;rw[<-ZxV];exact Sl.cY h (by rw[Zw];exact hk)
theorem dD.mu {s:St} {a:ai} {l:aj} (h:dD s a l) (k:Nat):dD s a (l.take k):=by
 unfold dD;rw[<-Zyi];exact Sl.mu h k
variable {Bd:Zg} [h:HA Bd]
theorem Zkv (n:Nat) (a:ai) (len at' k:Nat) (st:St) (hl:len<1000000) (hk:k<1000000:=by omega):
  run Bd (n+1) 261 [.slice 1 a len,.i at',.i k] st=some (.val [.bool (decide (at'+k<=len))],st):=by
 rw[Ze,h.ag8];unfold Sz yA az Lb;simp only[aZ,au,ar,ao,Za,aQ (AC:(at':Int)>=0),aQ (AC:(k:Int)>=0),ae];by_cases h1:k<=len
 .rw[aR]
  rw[Zb,Zd];by_cases h2:at'+k<=len
  .rw[aQ h2,aQ AC]
  grind
 .rw[aU]
  rw[Zd,bP AC]
theorem ok_eq {x:Option (Out Y×St)} {o:Out Y×St} (h:Ok (λp=>p=o) x):x=some o:=by
 obtain⟨_,e,rfl⟩:=h;exact e
theorem ZyL (l:aj) (c:UInt8):ef (l++[c])=ef l+256^l.length*c.toNat:=by
 rw[Zvx];simp[ef]
theorem ZAY {x c:Nat} (hx:x<2^k):x|||(c*2^k)=x+c*2^k:=by
 rw[Nat.or_comm,BG,<-Nat.two_pow_add_eq_or_of_lt hx,tm]
theorem Zxx (k:Nat):256^k=2^(8*k):=by rw[Nat.pow_mul]
theorem yu (n:Nat) (a:ai) (l:aj) (st:St) (ha:dD st a l) (hl:l.length<=8:=by omega) (hn:12<=n:=by omega):
  run Bd n 285 [.slice 1 a l.length] st=some (.val [.w (ef l)],st):=by
 obtain _|n:=n;omega;rw[Ze,h.acE];unfold MK ck Cj Aw mN lX ZF
 try dsimp only
 rw[aZ,ao];have hif:(if (8:Int)<(l.length:Int)then(8:Int)else(l.length:Int))=(l.length:Int):=aY AC;rw[hif,Zc Do,Za];refine ok_eq ?_;refine Zj _ (λq y s=>∃k:Nat,y=[.w (ef (l.take k)),.i k]/\s=st/\k<=l.length/\l.length-k<=q) ?_ l.length n _ _ ⟨0,by simp[ef],rfl,cN _,AC⟩ AC;rintro q _ s ⟨k,rfl,rfl,hk,hq⟩ rec aN;simp only[au,ao,bn];by_cases av:k<l.length
 .rw[aR]
  obtain⟨i,o,rfl⟩:=ha.cS AC;have⟨c,hc⟩: ∃c,l[k]? =some c:=by simp_all
  rw[bh,Zc (Zi av),ha.dX hc,bg,Zb,Zc (aQ AC),Zb];have J4:=c.toNat_lt;have e1:(8*(k:Int)).toNat=8*k:=AC
  have hp:c.toNat*2^(8*k)<18446744073709551616:=by
   have h1:c.toNat*2^(8*k)<2^8*2^(8*k):=Nat.mul_lt_mul_of_pos_right AC (Ab _);have h2:2^8*2^(8*k)<=2^64:=by rw[<-Nat.pow_add];exact pB EQ AC
   omega
  rw[e1,pA AC,AD];have e2:((c.toNat:Int)*2^(8*k))=((c.toNat*2^(8*k):Nat):Int):=by push_cast;rfl
  rw[e2,AD hp];have Kt:ef (l.take k)<2^(8*k):=by
   have:=GD (l.take k);rwa [cB,pA AC,Zxx]at this
  have ai7:ef (l.take k)<18446744073709551616:=mE Kt (by
   have:2^(8*k)<=2^64:=pB EQ AC;omega)
  rw[aej ai7 hp,ZAY Kt];refine aN (l.length-(k+1)) _ _ AC ⟨k+1,?_,rfl,AC,aJ _⟩;have e3:l.take (k+1)=l.take k++[c]:=by
   rw[Mi,hc];rfl
  rw[e3,ZyL,cB,pA AC,Zxx,BG];simp
 .rw[aU]
  rw[Zd,dG AC];exact .mk rfl
def rd (l:aj) (at' k:Nat):Nat:=ef ((l.drop at').take k)
theorem Ql (l:aj) (at' k:Nat):rd l at' k<256^k:=by
 have:=GD ((l.drop at').take k);refine mE this (pB EQ ?_);rw[cB];omega
def ZB (l:aj):Bool:=l.all (· ==0)
theorem DM (n:Nat) (a:ai) (l:aj) (at' k:Nat) (st:St) (ha:dD st a l) (hl:l.length<1000000:=by omega) (hk:at'+k<=l.length:=by omega) (hn:k+5<=n:=by omega):
  run Bd n 238 [.slice 1 a l.length,.i at',.i k] st=some (.val [.bool (ZB ((l.drop at').take k))],st):=by
 obtain⟨n,rfl⟩: ∃m,n=m+2:=⟨n-2,AC⟩;rw[Ze,h.agN];unfold Ry yA bF Q_ dj mN jA Lb Li;simp only[aZ,au,ao];rw[Zk (Zkv n a l.length at' k st hl),ar,ao,aQ hk,bI,af,Zb];have e1:((at':Int)+(k:Int)).toNat=at'+k:=AC
 rw[e1,Zc (by simp;omega),Zc (by simp;omega),Za];simp only[bn,cR,show at'+k-at'=k by omega];refine ok_eq ?_;have hb:=ha.cY (k:=at') AC;generalize hm:l.drop at'=m at hb;have Ky:k<=m.length:=by rw[<-hm,dY];omega
 refine Zj _ (λq y s=>∃j:Nat,y=[.i j]/\s=st/\j<=k/\k-j<=q/\ZB (m.take j)=true) ?_ k (n+1) _ _ ⟨0,rfl,rfl,cN _,AC,rfl⟩ AC;rintro q _ s ⟨j,rfl,rfl,hj,hq,hz⟩ rec aN;simp only[au,ao];by_cases av:j<k
 .rw[aR]
  have⟨i,o,hio⟩:=hb.cS AC;rw[hio]at hb⊢;have⟨c,hc⟩: ∃c,m[j]? =some c:=⟨_,cc AC⟩;rw[bh,Zc (Zi av),bn,hb.get hc,bg];by_cases h0:c=0
  .subst h0
   rw[pL FS,Zb];refine aN (k-(j+1)) _ _ AC ⟨j+1,Do,rfl,AC,aJ _,?_⟩;have e3:m.take (j+1)=m.take j++[0]:=by rw[Mi,hc];rfl
   rw[e3];simp[ZB]at hz⊢;exact hz
  .have J3:c.toNat≠0:=λe=>h0 (DC.1 e)
   have e2:(!((c.toNat:Int)==0))=true:=by
    rw[kN];grind
   rw[e2,ae,Zd];refine .mk ?_;have:ZB (m.take k)=false:=by
    cases e:ZB (m.take k)
    .rfl
    .unfold ZB at e;rw[qP]at e;have:=e c (qc (i:=j) (by rw[uE,bx av];exact hc));grind
   rw[this]
 .rw[aU]
  rw[Zd];have:j=k:=AC
  subst this;rw[hz];exact .mk rfl
theorem ZsD (n:Nat) (a:ai) (l:aj) (at' k:Nat) (st:St) (ha:dD st a l) (hl:l.length<1000000) (h1:1<=k) (h8:k<=8) (hk:at'+k<=l.length) (hn:20<=n):
  run Bd n 312 [.slice 1 a l.length,.i at',.i k] st=some (.val [.w (rd l at' k),.bool true],st):=by
 obtain⟨n,rfl⟩: ∃m,n=m+2:=⟨n-2,AC⟩;rw[Ze,h.ahJ];unfold TS yA az vW bF bj Lb jA;simp only[aZ,au,ao,Za,bP (AC:¬(k:Int)<1),bP (AC:¬(k:Int)>8),af,ar];rw[Zk (Zkv n a l.length at' k st hl),ar,ao,aQ hk,bI,af,Zb];have e1:((at':Int)+(k:Int)).toNat=at'+k:=AC
 rw[e1,Zc (by simp;omega),Zc (by simp;omega),bn,cR,show at'+k-at'=k by omega];have hb:=(ha.cY (k:=at') AC).mu k;have hlen:((l.drop at').take k).length=k:=by rw[cB,dY];omega
 have hr:=yu (n+1) _ _ st hb;rw[hlen]at hr;rw[Zk hr];rfl
def zU (x:Nat):ah:=(List.range 16).map λi=> .y (if i<x then(ZO 4 i:Nat)else 0)
def HS:ah:=zU 16
theorem ZzH: ∀x,x<16->cG (zU x) (x*1) [.y (ZO 4 x:Nat)]=zU (x+1)
 |0,_=>rfl|1,_=>rfl|2,_=>rfl|3,_=>rfl|4,_=>rfl|5,_=>rfl|6,_=>rfl|7,_=>rfl
 |8,_=>rfl|9,_=>rfl|10,_=>rfl|11,_=>rfl|12,_=>rfl|13,_=>rfl|14,_=>rfl|15,_=>rfl
 |n+16,h=>by omega
theorem ZtE (h:j<16):HS[j]? =some (.y (ZO 4 j:Nat)):=by
 grind[HS,zU]
theorem NL (x:Nat):(zU x).length=16:=by unfold zU;simp
theorem Zu1 (n:Nat) (x:Nat) (hx:x<4294967296) (st:St):run Bd (n+1) 320 [.y x] st=some (.val [.y (nK x)],st):=by
 rw[Ze,h.ahQ];unfold UX lW nK
 try dsimp only
 rw[au,ao];have ha:bits .and .u32 (x:Int) 1=((x%2:Nat):Int):=by
  have:=acb hx (EQ:2^1-1<4294967296);rw[Nat.and_two_pow_sub_one_eq_mod]at this;exact this
 rw[ha,show((2:Int)^1)=((2:Nat):Int)from rfl,Ea];have h2:x/2<4294967296:=AC
 rcases Nat.mod_two_eq_zero_or_one x with e|e
 .rw[e,pL FS,aY AC,Zd]
 .rw[e,kT FS,bx rfl]
  rw[show(2197175160:Int)=((2197175160:Nat):Int)from rfl,Fs h2,Zd]
theorem MM: ∀(n x:Nat),ZO (n+1) x=nK (ZO n x)
 |0,_=>rfl
 |n+1,x=>by rw[ZO,MM n,ZO]
theorem Zs8 (n:Nat) (hn:30<=n) (st:St):run Bd n 317 [] st=some (.val [.agg HS],st):=by
 obtain⟨n,rfl⟩: ∃m,n=m+2:=⟨n-2,AC⟩;rw[Ze,h.ahN];unfold Uf cT yE yH vZ lW q8;simp only[ao,Za];refine ok_eq ?_;refine Zj _ (λq y s=>∃x:Nat,y=[.agg (zU x),.i x]/\s=st/\x<=16/\16-x<=q) ?_ 16 (n+1) _ _ ⟨0,rfl,rfl,AC,AC⟩ AC;rintro q _ s ⟨x,rfl,rfl,hx,hq⟩ rec aN;simp only[cX,au,ao,bN (NL x)];by_cases av:x<16
 .rw[aR]
  rw[Ce];refine Zj _ (λq y s'=>∃j:Nat,y=[.y (ZO j x),.i j]/\s'=s/\j<=4/\4-j<=q) ?_ 4 (n+1) _ _ ⟨0,rfl,rfl,AC,AC⟩ AC;rintro q' _ s' ⟨j,rfl,rfl,hj,ug⟩ dP mW;simp only[au,ao];by_cases Pn:j<4
  .rw[aR]
   rw[Zk (Zu1 n (ZO j x) (IU j AC) s'),au,ao,Zb];exact mW (4-(j+1)) _ _ AC ⟨j+1,by rw[MM];simp,rfl,AC,aJ _⟩
  .rw[aU]
   have:j=4:=AC
   subst this;rw[Zc (by rw[Zi av]),bn,Zc (by simp;omega),ZzH x av,bN (NL (x+1)),Zb];exact aN (16-(x+1)) _ _ AC Fd
 .rw[aU,Zd]
  have:x=16:=AC
  subst this;exact .mk rfl
theorem Zo0 (n x ti:Nat) (a:ai) (l:aj) (st:St) (ht:Sl st (some (ti,0)) HS) (ha:dD st a l) (hx:x<4294967296) (hl:l.length<1000000) (hn:l.length+3<=n):
  run Bd n 318 [.ptr (some (ti,0)),.y x,.slice 1 a l.length] st=some (.val [.y (l.foldl oV x:Nat)],st):=by
 obtain _|n:=n;omega;rw[Ze,h.ahO];unfold R9 ck yE yH N_ mN lW q8
 try dsimp only
 rw[fw,au,aZ,ao,Za];refine ok_eq ?_;refine Zj _ (λq y s=>∃k:Nat,y=[.y ((l.take k).foldl oV x:Nat),.i k]/\s=st/\k<=l.length/\l.length-k<=q) ?_ l.length n _ _ Fd AC;rintro q _ s ⟨k,rfl,rfl,hk,hq⟩ rec aN;simp only[au,ao];by_cases av:k<l.length
 .rw[aR]
  obtain⟨i,o,rfl⟩:=ha.cS AC;have⟨c,hc⟩: ∃c,l[k]? =some c:=⟨_,cc av⟩;rw[bh,Zc (Zi av),bn,ha.dX hc,bg];have J4:=c.toNat_lt;have hy:(l.take k).foldl oV x<4294967296:=Cd _ hx;have e3:(l.take (k+1)).foldl oV x=oV ((l.take k).foldl oV x) c:=by
   have:l.take (k+1)=l.take k++[c]:=by rw[Mi,hc];rfl
   rw[this,wZ];rfl
  generalize (l.take k).foldl oV x=y at hy e3;have hz:y^^^c.toNat<4294967296:=FL (n:=32) hy AC;rw[Ce,Fs hy];rw[Zy3]at e3;generalize y^^^c.toNat=z at hz e3;have aca: ∀z:Nat,z<4294967296->bits .and .u32 (z:Int) 15=((z%16:Nat):Int):=λz hz=>by
   have:=acb hz (EQ:2^4-1<4294967296);rw[Nat.and_two_pow_sub_one_eq_mod]at this;exact this
  have f16: ∀z:Nat,Int.fdiv (z:Int) (2^4)=((z/16:Nat):Int):=λz=>Ea z 16
  have m16:z%16<16:=Nat.mod_lt _ EQ;have HP:ZO 4 (z%16)<4294967296:=IU 4 AC;rw[aca z hz,bh,Zc (Zi m16),bn,ht.dX (ZtE m16),bg,f16,Fs AC HP];have hw:z/16^^^ZO 4 (z%16)<4294967296:=FL (n:=32) AC HP;generalize z/16^^^ZO 4 (z%16)=w at hw e3;have ad8:w%16<16:=Nat.mod_lt _ EQ;rw[aca w hw,bh,Zc (Zi ad8),bn,ht.dX (ZtE ad8),bg,f16,Fs AC (IU 4 AC),Zb];exact aN (l.length-(k+1)) _ _ AC Fd
 .rw[aU,Zd,dG AC]
  exact .mk rfl
theorem Zrv (hl:ds.length=cs.length) (K:M Y):dE s.length 0 ds K (s++[some ⟨false,cs⟩])=K (s++[some ⟨false,ds⟩]):=by
 unfold dE St.iB;rw[kO (aJ _),yg];simp only[ly];rw[gO AC,ae];have:cG cs 0 ds=ds:=by
  have key: ∀(cs ds:ah),ds.length=cs.length->ov cs ds=ds:=by
   intro cs;induction cs with
   |nil=>intro ds h;cases ds with|nil=>rfl|cons _ _=>simp at h
   |cons c cs ih=>intro ds h;cases ds with|nil=>simp at h|cons d ds=>rw[ov,ih ds (by simpa using h)]
  have e:cG cs 0 ds=ov cs ds:=by cases cs<;>rfl
  rw[e,key cs ds hl]
 rw[this];simp
theorem Zwz (n:Nat) (bs a:ai) (l:aj) (st:St) (y7:Sl st bs [.slice 1 a l.length]) (ha:dD st a l) (hl:l.length<1000000) (hn:l.length+40<=n):
  Ok (λo=>∃s',o=(.val [.y (tO l)],s')/\aB st s') (run Bd n 306 [.slice 1 bs 1] st):=by
 obtain _|n:=n;omega;rw[Ze,h.ahD];unfold Vt ck yE yH N_ vZ lW q8
 try dsimp only
 rw[aZ,ao,Zk (Zs8 n AC st)];simp only[cX,ao,bN (NL 16),HS];rw[ZD,Zrv (by rw[NL];rfl),Za];have hp:=aB.new st (some ⟨false,zU 16⟩);have ht:Sl (st++[some ⟨false,zU 16⟩]) (some (st.length,0)) HS:=Om st _;have Yk:=y7.mono hp;have vk:=ha.mono hp;generalize (st++[some ⟨false,zU 16⟩])=s1 at hp ht Yk vk;obtain⟨i,o,rfl⟩:=Yk.cS Do;obtain⟨m,rfl⟩: ∃m,n=m+2:=⟨n-2,AC⟩;rw[BW];simp only[au,ao];rw[kT FS,bh,Zc FS,show(0:Int).toNat=0 from rfl,Yk.dX (j:=0) rfl,kP];have hr:=Zo0 (m+2) 4294967295 st.length a l s1 ht vk EQ hl AC;rw[show(4294967295:Int)=((4294967295:Nat):Int)from rfl,Zk hr,au,ao,BW];simp only[au,ao];rw[pL FS,Fs (Cd l EQ) EQ,ZAB (Cd l EQ),Zd];exact .mk ⟨s1,rfl,hp⟩
theorem ZuQ (n x:Nat) (bs a:ai) (l:aj) (st:St) (y7:Sl st bs [.slice 1 a l.length]) (ha:dD st a l) (hl:l.length<1000000) (hn:l.length+41<=n):
  Ok (λo=>∃s',o=(.val [.bool (decide (tO l=x))],s')/\aB st s') (run Bd n 286 [.y x,.slice 1 bs 1] st):=by
 obtain _|n:=n;omega;rw[Ze,h.aho];unfold U6 ck vZ bj Lb
 try dsimp only
 rw[au,aZ,ao];refine Ok.call (Zwz n bs a l st y7 ha hl AC) ?_;rintro _ ⟨s',rfl,hp⟩;refine⟨_,s',rfl,?_⟩;rw[au,ao,Zd];refine .mk ⟨s',?_,hp⟩;congr 3;by_cases e:tO l=x
 .rw[aQ e,e];simp
 .rw[bP e];exact congrArg _ Fd
def nN (s:St) (a:ai) (l:aj):Prop:=Fz s a (bT l)
theorem nN.tM {a:ai} (h:nN s a l):dD s a l:=h.1
theorem nN.kp {s s':St} {a:ai} {l:aj} (h:nN s a l) (k:Kp s s'):nN s' a l:=Fz.kp h k
theorem nN.pre {a:ai} (h:nN s a l) (k:aB s s'):nN s' a l:=Fz.kp h k.kp
theorem nN.cY {s:St} {a:ai} {l:aj} (h:nN s a l) {k:Nat} (hk:k<=l.length):nN s (cY true a k) (l.drop k):=by
 refine⟨h.tM.cY hk,λi o e=>?_⟩;cases a with
 |none=>cases e
 |some p=>cases e;exact h.2 _ _ rfl
def nU (l:aj):Bool:=decide (l.length=64)&&(!(l.getD 4 0==0)&&(ZB ((l.drop 6).take 2)&&decide (tO (l.drop 4)=ef (l.take 4))))
def eK (l:aj):Option (Nat×Nat×aj):=bif nU l then some ((l.getD 4 0).toNat,(l.getD 5 0).toNat,l.drop 8)else none
theorem getD_some {c:UInt8} (h:l[j]? =some c):l.getD j 0=c:=by rw[cz,h];rfl
theorem akL (c:UInt8):(!((c.toNat:Int)==0))= !(c==0):=by
 by_cases h:c=0
 .subst h;rfl
 .rw[dM.2 h,dM.2]
  intro e;exact h (DC.1 (by simpa using e))
theorem Zqc (n:Nat) (a:ai) (l:aj) (st:St) (ha:dD st a l) (hl:l.length<1000000) (hn:150<=n):
  Ok (λo=>∃s',o=(.val [.bool (nU l)],s')/\aB st s') (run Bd n 259 [.slice 1 a l.length] st):=by
 obtain _|n:=n;omega;rw[Ze,h.ag6];unfold SJ ck az D3 bF mN Lb bj jA nU;simp only[aZ,ao,Za];by_cases lI:l.length=64
 .rw[show((l.length:Int)==64)=true by rw[lI];rfl,ae,aQ lI,dt]
  obtain⟨i,o,rfl⟩:=ha.cS AC;have⟨c,hc⟩: ∃c,l[4]? =some c:=by simp_all
  rw[bh,Zc (show aO 4 l.length=true from Zi (i:=4)),ha.get hc,getD_some hc,bg,ar,ao,akL];cases hz: !(c==0)
  .rw[af];simp only[af,Zd,gF];exact .mk ⟨st,rfl,.refl st⟩
  .rw[ae,dt];have cC:=DM n _ l 6 2 st ha hl;rw[show(6:Int)=((6:Nat):Int)from rfl,show(2:Int)=((2:Nat):Int)from rfl,Zk cC];simp only[ar,ao];cases ZB ((l.drop 6).take 2)
   .rw[af,Zd,gF];exact .mk ⟨st,rfl,.refl st⟩
   .rw[ae,dt,Zc (aQ AC)];have EV:(l.take 4).length=4:=by rw[cB];omega
    have hr:=yu n _ (l.take 4) st (ha.mu 4);rw[EV]at hr;rw[qY hr (.refl st),au,ao,Zc (aQ AC),ZD];have hp:=aB.new st (some ⟨false,[DV.slice 1 (cY true (some (i,o)) 4) (l.length-4)]⟩);have hs:=Om st [DV.slice 1 (cY true (some (i,o)) 4) (l.length-4)];generalize (st++[some ⟨false,[DV.slice 1 (cY true (some (i,o)) 4) (l.length-4)]⟩])=s1 at hp hs;have av:ef (l.take 4)<4294967296:=by have:=GD (l.take 4);rw[EV]at this;exact this
    rw[Ce av];have Yp:(l.drop 4).length=l.length-4:=dY;rw[<-Yp]at hs;refine Ok.cv (ZuQ n (ef (l.take 4)) _ _ (l.drop 4) s1 hs ((ha.mono hp).cY AC) AC AC) λs2 bd=>?_
    rw[ar,ao,Zd];exact .mk ⟨s2,rfl,hp.trans bd⟩
 .rw[show((l.length:Int)==64)=false from dM.2 AC,af,bP lI]
  simp only[ar,ao,af,Zd,gF];exact .mk ⟨st,rfl,.refl st⟩
theorem Zqs (n:Nat) (a:ai) (l:aj) (st:St) (ha:dD st a l) (h0:0<l.length) (hl:l.length<1000000):
  Ok (λo=>∃p s',o=(.val [.slice 1 p l.length],s')/\aB st s'/\nN s' p l) (run Bd (n+1) 260 [.slice 1 a l.length] st):=by
 rw[Ze,h.ag7];unfold SU ck bj
 try dsimp only
 rw[aZ,ao,Z8];obtain⟨i,o,rfl⟩:=ha.cS h0;rw[show((some (i,o):ai).isNone)=false from rfl,af,ZD];have hp:=aB.new st (some ⟨false,[]⟩);have ho:bc st (st++[some ⟨false,[]⟩]) (some (st.length,0)) []:=⟨hp,Do⟩;have vk:=ha.mono hp;generalize (st++[some ⟨false,[]⟩])=s1 at hp ho vk;rw[cR,<-Zw l,j9 vk];have⟨p,s2,du,he⟩:=ho.app (Y:=ah) (sz:=1) (n:=0) (m:=l.length) (lim:=70368744177664) (ds:=bT l) AC Do h0 AC;rw[Zw,he,Zs];rw[gR]at du;exact .mk ⟨p,_,by rw[fq],Zx du.1,du.fz⟩
theorem DO (n:Nat) (a:ai) (l:aj) (st:St) (ha:dD st a l) (hl:l.length<1000000) (hn:152<=n:=by omega):
  Ok (λo=>∃s',aB st s'/\match eK l with
   |none=>o=(.val [.i 0,.i 0,.slice 0 none 0,.bool false],s')
   |some (k,t,b)=>∃p,o=(.val [.i (k:Nat),.i (t:Nat),.slice 1 p 56,.bool true],s')/\nN s' p b/\b.length=56/\k<256/\t<256) (run Bd n 237 [.slice 1 a l.length] st):=by
 obtain⟨n,rfl⟩: ∃m,n=m+2:=⟨n-2,AC⟩;rw[Ze,h.agM];unfold Td ck bF mN bj eK
 try dsimp only
 rw[aZ,ao,Z8];refine Ok.cv (Zqc (n+1) a l st ha hl AC) λs1 hp=>?_
 rw[ar,ao];cases hr:nU l
 .rw[bD,ae,Zs,af];exact .mk ⟨_,Zx hp,rfl⟩
 .have lI:l.length=64:=by
   grind[nU]
  rw[bI,af,ae];have vk:=ha.mono hp;obtain⟨i,o,rfl⟩:=vk.cS AC;have⟨c4,hc4⟩: ∃c,l[4]? =some c:=by simp_all
  have⟨c5,hc5⟩: ∃c,l[5]? =some c:=Fd
  rw[bh,Zc (show aO 4 l.length=true from Zi (i:=4)),vk.get hc4,bg,bh,Zc (show aO 5 l.length=true from Zi (i:=5)),vk.get hc5,bg,Zc (aQ AC)];have hb:=vk.cY (k:=8) AC;have hd:(l.drop 8).length=l.length-8:=dY;have cU:=Zqs n _ (l.drop 8) s1 hb AC AC;rw[hd]at cU;obtain⟨_,e,p,s2,rfl,bd,hf⟩:=cU;rw[qY e bd,aZ,ao,Zs];have h4:=c4.toNat_lt;have h5:=c5.toNat_lt;rw[getD_some hc4,getD_some hc5,Zb,Zb];refine .mk ⟨_,Zx (hp.trans bd),p,?_,hf.kp (ZBi _ _),AC,h4,h5⟩;rw[lI]
structure jz where
 br:aP
 kids:ak
def pY (x:jz) (z:Nat) (p:ai):ah:=fJ x.br++[.slice z p x.kids.length]
def bL (l:aj) (at' k:Nat):Int:=aq (rd l at' k:Int)
def wM (k:Int):Bool:=decide (k<2)||decide (k>=3072)
def mb (x:jz):Bool:= !(decide (x.br.slot<0)||(decide (x.br.slot>=1792)||(decide (x.br.gen<1)||(decide (x.br.gen>4294967295)||decide ((x.kids.length:Int)>12)))))&& !x.kids.any wM
def pK (b:aj) (t:Nat):ak:=(List.range t).map λj=>bL b (24+2*j) 2
theorem DQ (b:aj) (t:Nat):(pK b t).length=t:=by unfold pK;simp
theorem ZnO (b:aj) (t:Nat):pK b (t+1)=pK b t++[bL b (24+2*t) 2]:=by simp[pK,tl,eV]
def mc (b:aj) (t:Nat):jz:=⟨⟨bL b 16 4,bL b 20 4,bL b 0 8,bL b 8 8⟩,pK b t⟩
def iy (l:aj):Option jz:=match eK l with
 |none=>none
 |some (k,t,b)=>bif decide (k=1)&&decide (t<=12)then(bif mb (mc b t)&&ZB (b.drop (24+2*t))then some (mc b t)else none)else none
theorem Il (n:Nat) (a:ai) (l:aj) (at' k:Nat) (I K:Int) (hI:I=at') (hK:K=k) (st:St) (ha:dD st a l) (hl:l.length<1000000:=by omega) (h1:1<=k:=by omega) (h8:k<=8:=by omega) (hk:at'+k<=l.length:=by omega) (hn:21<=n:=by omega):
  run Bd n 295 [.slice 1 a l.length,.i I,.i K] st=some (.val [.i (bL l at' k)],st):=by
 subst hI hK;obtain _|n:=n;omega;rw[Ze,h.ahx];unfold Sy yA jN jA Li;simp only[aZ,au,ao];rw[Zk (ZsD n a l at' k st ha hl h1 h8 hk AC)];rfl
theorem Zpl (n:Nat) (k:Int) (st:St):run Bd (n+1) 313 [.i k] st=some (.val [.bool (wM k)],st):=by
 rw[Ze,h.ahK];unfold RY cT az Lb wM;simp only[au,ao,Za,ar];cases decide (k<2)<;>simp only[ae,af,Zd,Bool.true_or,wX]
theorem Zsg (n:Nat) (x:jz) (p:ai) (st:St) (hs:Sl st p (ints x.kids)) (hl:x.kids.length<1000000) (hn:x.kids.length+20<=n):
  run Bd n 296 [.agg (pY x 1 p)] st=some (.val [.bool (mb x)],st):=by
 obtain _|n:=n;omega;rw[Ze,h.ahy];have O8:=ZqE n 1 313 [] [] x.kids p st wM (.inl rfl) hs AC hl (λv _=>by
  have⟨m,hm⟩: ∃m,n-2=m+1:=⟨n-3,AC⟩;rw[hm];exact Zpl m v st)
 unfold Zip F4 az bF Lb pY fJ mb;simp only[oo,gR,cX,au,aZ,ao,Za];cases decide (x.br.slot<0)with
 |true=>rfl
 |false=>
 cases decide (x.br.slot>=1792)with
 |true=>rfl
 |false=>
 cases decide (x.br.gen<1)with
 |true=>rfl
 |false=>
 cases decide (x.br.gen>4294967295)with
 |true=>rfl
 |false=>
 cases decide ((x.kids.length:Int)>12)
 .simp only[af,ar,ao,wX,bD,dt];rw[Zk O8];rfl
 .rfl
theorem Nn {x:jz} (h:iy l=some x):mb x=true/\x.kids.length<=12:=by
 unfold iy at h;split at h
 .cases h
 .rename_i k t b _
  cases e:(decide (k=1)&&decide (t<=12))
  .rw[e]at h;cases h
  .rw[e]at h;cases e2:(mb (mc b t)&&ZB (b.drop (24+2*t)))
   .rw[e2]at h;cases h
   .rw[e2]at h;cases h;rw[aS]at e e2;refine⟨e2.1,?_⟩;show(pK b t).length<=12;rw[DQ];grind
theorem ZuI (n:Nat) (a:ai) (l:aj) (st:St) (ha:dD st a l) (hl:l.length<1000000) (hn:160<=n):
  Ok (λo=>∃s',aB st s'/\match iy l with
   |none=>o=(.val [.agg [.i 0,.i 0,.i 0,.i 0,.slice 0 none 0],.bool false],s')
   |some x=>∃p,o=(.val [.agg (pY x 1 p),.bool true],s')/\Fz s' p (ints x.kids)) (run Bd n 272 [.slice 1 a l.length] st):=by
 obtain _|n:=n;omega;rw[Ze,h.ahj];unfold U4 ck tE az cK Gb bF F0 nh bj BR jA yy FZ Lb Li Ge F5 iy;simp only[aZ,ao,Za];rw[Z8];refine Ok.call (DO n a l st ha hl) ?_;rintro _ ⟨s1,aH,ho⟩;cases eD:eK l
 .rw[eD]at ho;subst ho;refine⟨_,s1,rfl,?_⟩;simp only[au,ar,ao,Zh 1 0 none _ (.inr rfl)];rw[bD,ae];simp only[ae];rw[Zs];exact .mk ⟨_,Zx aH,rfl⟩
 .rename_i q;have⟨k,t,b⟩:=q;rw[eD]at ho;obtain⟨p1,rfl,hf,hb,hk,ht⟩:=ho;refine⟨_,s1,rfl,?_⟩;simp only[au,ar,aZ,ao];rw[bI,af];have e1:((k:Int)==1)=decide (k=1):=by
   by_cases kW:k=1
   .subst kW;rfl
   grind
  rw[e1];cases kW:decide (k=1)with
  |false=>
   rw[bD];simp only[ae,gF,af];rw[Zs];exact .mk ⟨_,Zx aH,rfl⟩
  |true=>
  rw[bI,af,dt];by_cases j6:t<=12
  .rw[bP (AC:¬(t:Int)>12),aQ j6]
   simp only[af,ae];have dq:=hf.tM;rw[show(56:Nat)=b.length from hb.symm,Zk (Il n p1 b 16 4 16 4 rfl rfl s1 dq),au,ao,Zk (Il n p1 b 20 4 20 4 rfl rfl s1 dq),au,ao,Zk (Il n p1 b 0 8 0 8 rfl rfl s1 dq),au,ao,Zk (Il n p1 b 8 8 8 8 rfl rfl s1 dq),au,ao];refine Zj _ (λq y s=>∃(i z:Nat) (p:ai),y=[.agg [.i (bL b 16 4),.i (bL b 20 4),.i (bL b 0 8),.i (bL b 8 8),.slice z p i],.i i]/\(z=1\/p=none)/\i<=t/\t-i<=q/\bc st s p (ints (pK b i))/\nN s p1 b) ?_ t n _ _ ⟨0,0,none,rfl,.inr rfl,cN _,AC,bc.nil aH,hf⟩ AC;rintro q _ s ⟨i,z,p,rfl,hz,hi,hq,ho,Hi⟩ rec aN;simp only[cX,au,Zh 1 z p _ hz,ao];by_cases av:i<t
   .rw[aR,Zb (x:=2*(i:Int)),Zb,show(24+2*(i:Int))=((24+2*i:Nat):Int) by omega]
    rw[xr (Il n p1 b (24+2*i) 2 _ 2 rfl rfl s Hi.tM),au,ao];have⟨p2,s2,du,sD,he⟩:=ho.Dq (Y:=ah) (sz:=1) (n:=i) (lim:=8796093022208) [.i (bL b (24+2*i) 2)] (yh 0) (by simp[ints,DQ]) rfl AC;rw[he,Zb];refine aN (t-(i+1)) _ _ AC ⟨i+1,1,p2,Do,.inl rfl,AC,aJ _,?_,Hi.kp sD⟩;rw[ZnO];show bc st s2 p2 (List.map _ _);rw[eV];exact du
   .rw[aU]
    have ED:i=t:=AC
    subst ED;have hr:=Zsg n (mc b i) p s ho.sl (by show(pK b i).length<_;rw[DQ];omega) (by show(pK b i).length+_<=_;rw[DQ];omega);have hc:pY (mc b i) 1 p=[.i (bL b 16 4),.i (bL b 20 4),.i (bL b 0 8),.i (bL b 8 8),.slice 1 p i]:=by
     show fJ _++[DV.slice 1 p (pK b i).length]=_;rw[DQ];rfl
    rw[aZ,ao,<-hc,Zk hr,ar,ao];cases hrn:mb (mc b i)
    .rw[bD,ae,gF,af,Zs];exact .mk ⟨_,Zx ho.1,rfl⟩
    .rw[bI,af,Zb (x:=2*(i:Int)),Zb (x:=24+2*(i:Int)),Zb,show(24+2*(i:Int))=((24+2*i:Nat):Int) by omega,show(b.length:Int)-((24+2*i:Nat):Int)=((b.length-(24+2*i):Nat):Int) by omega,Zk (DM n p1 b (24+2*i) (b.length-(24+2*i)) s Hi.tM),dG (by rw[dY];exact aJ _),ar,ao,dt];cases ZB (b.drop (24+2*i))
     .rw[bD,ae,af,Zs];exact .mk ⟨_,Zx ho.1,rfl⟩
     .rw[bI,ae,af,Zs];exact .mk ⟨_,Zx ho.1,p,rfl,ho.fz⟩
  .rw[aQ (AC:(t:Int)>12),bP j6]
   rw[af,ae,Zs];exact .mk ⟨_,Zx aH,rfl⟩
theorem Zsz: ∀(B D C:ah),B.length=D.length->ov (B++C) D=D++C
 |[],[],C,_=>by simp[Zym]
 |b::B,d::D,C,h=>by show d::ov (B++C) D=_;rw[Zsz B D C (by simpa using h)];rfl
 |[],_::_,_,h=>by cases h
 |_::_,[],_,h=>by cases h
theorem tC: ∀(A B C D:ah),B.length=D.length->cG (A++(B++C)) A.length D=A++(D++C)
 |[],B,C,D,h=>by
  show cG (B++C) 0 D=D++C;rw[<-Zsz B D C h];cases B++C<;>rfl
 |a::A,B,C,D,h=>by show a::cG (A++(B++C)) A.length D=_;rw[tC A B C D h];rfl
def eN (t j:Nat):Bool:=decide (t/2^j%2=1)
theorem ZxK (ht:t<9223372036854775808) (hj:j<=63):bits .and .i64 ((t:Int).fdiv (2^(min j 64))) 1=((t/2^j%2:Nat):Int):=by
 rw[pA AC,show((2:Int)^j)=((2^j:Nat):Int) by push_cast;rfl,Ea];have h1:t/2^j<9223372036854775808:=H5 (FH _ _) ht;show IntKind.wrap .i64 ((BitVec.ofInt 64 ((t/2^j:Nat):Int)&&& BitVec.ofInt 64 (1:Int)).toNat:Int)=_;rw[BitVec.toNat_and,JE AC,show(BitVec.ofInt 64 (1:Int)).toNat=1 from rfl,Nat.and_one_is_mod];exact Zb
theorem Zvs (ht:t<9223372036854775808:=by omega) (hj:j<=63:=by omega):(bits .and .i64 ((t:Int).fdiv (2^(min j 64))) 1==1)=eN t j:=by
 rw[ZxK ht hj];grind[eN]
theorem ZyR (ht:t<9223372036854775808) (hj:j<=63):(bits .and .i64 ((t:Int).fdiv (2^(min j 64))) 1==0)= !eN t j:=by
 rw[ZxK ht hj];grind[eN]
structure aX where
 live:Bool
 gen:Int
 block:Int
def eZ (x:aX):ah:=[.bool x.live,.i x.gen,.i x.block]
def bX (l:List aX):ah:=(l.map eZ).flatten
theorem ZE (l:List aX):(bX l).length=l.length*3:=by
 unfold bX;induction l with
 |nil=>rfl
 |cons e l ih=>rw[kf,vH,ba,ih,cQ];show 3+_=_;omega
theorem IV (l m:List aX):bX (l++m)=bX l++bX m:=by simp[bX]
def gQ:aX:=⟨false,0,0⟩
def oQ:List aX:=List.replicate 7 gQ
def kR (v f t:Int):Bool:=bif decide (v>=f)then decide (v<=t)else false
def ZK (x:aX):Bool:=bif x.live then kR x.gen 1 4294967295&&kR x.block 2 3071 else kR x.gen 0 4294967295&&(kR x.block 0 1792&&(decide (x.gen>0)||x.block==0))
def wa (b:aj) (t j:Nat):aX:=⟨eN t j,bL b (8*j) 4,bL b (8*j+4) 4⟩
def ZQ (b:aj) (t n:Nat):List aX:=(List.range n).map (wa b t)
theorem BZ (b:aj) (t n:Nat):(ZQ b t n).length=n:=by unfold ZQ;simp
theorem It (b:aj) (t n:Nat):ZQ b t (n+1)=ZQ b t n++[wa b t n]:=by simp[ZQ,tl,eV]
def ZI (l:aj):Option (List aX):=match eK l with
 |none=>none
 |some (k,t,b)=>bif decide (k=2)&&decide (t<128)then(bif (ZQ b t 7).all ZK then some (ZQ b t 7)else none)else none
theorem Ik (n:Nat) (v f t:Int) (st:St):run Bd (n+1) 314 [.i v,.i f,.i t] st=some (.val [.bool (kR v f t)],st):=by
 rw[Ze,h.ahL];unfold Si Ei az Lb kR;simp only[au,ao,Za,ar];cases decide (v>=f)<;>rfl
theorem Znh (n:Nat) (x:aX) (st:St):run Bd (n+2) 297 [.agg (eZ x)] st=some (.val [.bool (ZK x)],st):=by
 rw[Ze,h.ahz];unfold RI se bF az Ag Lb eZ ZK;simp only[cX,au,ar,ao,Za];cases x.live
 .rw[af,af,Zk (Ik n _ _ _ st),ar,ao];cases kR x.gen 0 4294967295
  .rfl
  .rw[ae,Zk (Ik n _ _ _ st),ar,ao,dt];cases kR x.block 0 1792
   .rfl
   .cases decide (x.gen>0)<;>rfl
 .rw[ae,ae,Zk (Ik n _ _ _ st),ar,ao];cases kR x.gen 1 4294967295
  .rfl
  .rw[ae,Zk (Ik n _ _ _ st)];rfl
theorem pJ (k c:Nat) (C:Int) (hC:C=c:=by omega):((k:Int)==C)=decide (k=c):=by
 grind
theorem ZoE (n:Nat) (a:ai) (l:aj) (st:St) (ha:dD st a l) (hl:l.length<1000000) (hn:160<=n):
  Ok (λo=>∃s',aB st s'/\match ZI l with
   |none=>o=(.val [.agg (bX oQ),.bool false],s')
   |some x=>o=(.val [.agg (bX x),.bool true],s')) (run Bd n 273 [.slice 1 a l.length] st):=by
 obtain _|n:=n;omega;rw[Ze,h.ahk];unfold Sb ck tE az cT D3 bF bj ZN tw DN Lb ZI;simp only[aZ,ao,Za];refine Ok.call (DO n a l st ha hl) ?_;rintro _ ⟨s1,aH,ho⟩;cases eD:eK l
 .rw[eD]at ho;subst ho;refine⟨_,s1,rfl,?_⟩;simp only[au,ar,ao,Zh 1 0 none _ (.inr rfl)];rw[bD,ae];simp only[ae,Zd];exact .mk ⟨_,aH,rfl⟩
 .rename_i q;have⟨k,t,b⟩:=q;rw[eD]at ho;obtain⟨p1,rfl,hf,hb,hk,ht⟩:=ho;refine⟨_,s1,rfl,?_⟩;simp only[au,ar,aZ,ao];rw[bI,af,pJ k 2 2 rfl];cases kW:decide (k=2)with
  |false=>
   rw[bD];simp only[ae,gF,af,Zd];exact .mk ⟨_,aH,rfl⟩
  |true=>
  rw[bI,af,dt];by_cases j6:t<128
  .rw[bP (AC:¬(t:Int)>=128),aQ j6]
   rw[af,ae];have dq:=hf.tM;refine Zj _ (λq y s=>∃i:Nat,y=[.agg (bX oQ),.agg (bX (ZQ b t i)++bX (List.replicate (7-i) gQ)),.i i]/\i<=7/\7-i<=q/\s=s1/\(ZQ b t i).all ZK=true) ?_ 7 n _ _ ⟨0,rfl,AC,AC,rfl,rfl⟩ AC;rintro q _ s ⟨i,rfl,hi,hq,rfl,dH⟩ rec aN;have hlen:(bX (ZQ b t i)++bX (List.replicate (7-i) gQ)).length=21:=by
    rw[ba,ZE,ZE,BZ,pw];omega
   simp only[cX,au,ao];rw[bN (cs:=bX oQ) (n:=21) rfl,bN hlen];by_cases av:i<7
   .have cL:aq ((i:Int)+1)=((i+1:Nat):Int):=Zb
    have gB:aq (8*((i+1:Nat):Int))=((8*(i+1):Nat):Int):=Zb;have kY:aq (8*(i:Int))=((8*i:Nat):Int):=Zb;simp only[cL,gB,kY,bn,cR];rw[aR,Zc (by rw[aS,bq,bq];omega),Zc (by rw[aS,bq,bq];omega),Zc (aQ AC),Zc (aQ AC)];have gV:=dq.cY (k:=8*i) AC;have vo:(b.drop (8*i)).length=56-8*i:=by rw[dY,hb]
    have K1:((b.drop (8*i)).take 4).length=4:=by rw[cB];omega
    have jG:=yu n _ ((b.drop (8*i)).take 4) s (gV.mu 4);rw[K1]at jG;rw[qY jG (.refl s),au,ao,Zc (aQ AC),show 8*(i+1)-8*i-4=4 by omega];have jC:=gV.cY (k:=4) AC;have ht3:(((b.drop (8*i)).drop 4).take 4).length=4:=by rw[cB,dY];omega
    have iH:=yu n _ (((b.drop (8*i)).drop 4).take 4) s (jC.mu 4);rw[ht3]at iH;rw[qY iH (.refl s),au,ao,kd,Zvs];obtain⟨n,rfl⟩: ∃m,n=m+2:=⟨n-2,AC⟩;have HD:=Znh n (wa b t i) s;have hsc:eZ (wa b t i)=[.bool (eN t i),.i (aq ((ef ((b.drop (8*i)).take 4):Nat):Int)),.i (aq ((ef ((b.drop (8*i+4)).take 4):Nat):Int))]:=rfl;rw[<-hsc,Zk HD,ar,ao];cases ET:ZK (wa b t i)
    .rw[bD,ae];have:(ZQ b t 7).all ZK=false:=List.all_eq_false.2 ⟨wa b t i,jK.2 Fd,by rw[ET];decide⟩;rw[this,af,Zd];exact .mk ⟨s,aH,rfl⟩
    .rw[bI,af,Zc (show aO (i:Int) 7=true from Zi av),Zc (gO AC)];refine aN (7-(i+1)) _ _ AC ⟨i+1,?_,AC,aJ _,rfl,?_⟩
     .congr 3
      rw[It,IV,show List.replicate (7-i) gQ=gQ::List.replicate (7-(i+1)) gQ by rw[show 7-i=(7-(i+1))+1 by omega];rfl];show cG (bX (ZQ b t i)++(eZ gQ++bX (List.replicate (7-(i+1)) gQ))) (i*3) (eZ (wa b t i))=_;have e3:i*3=(bX (ZQ b t i)).length:=by rw[ZE,BZ]
      rw[e3,tC (bX (ZQ b t i)) (eZ gQ) (bX (List.replicate (7-(i+1)) gQ)) (eZ (wa b t i)) rfl,dL];rfl
     .rw[It,uC,dH]
      simp[ET]
   .rw[aU]
    have ry:i=7:=AC
    subst ry;rw[bN (cs:=bX oQ) (n:=21) rfl,bN hlen,bN hlen,dH,ae,Zd];refine .mk ⟨s,aH,?_⟩;show _=(Out.val [DV.agg (bX (ZQ b t 7)),_],s);rw[show bX (List.replicate (7-7) gQ)=[]from rfl,fP]
  .rw[aQ (AC:(t:Int)>=128),bP j6]
   rw[af,ae,Zd];exact .mk ⟨_,aH,rfl⟩
def Am (l:ak):Bool:=l.all λv=>v==0||kR v 2 3071
def dO (b:aj) (n:Nat):ak:=(List.range n).map λj=>bL b (2*j) 2
theorem pG (b:aj) (n:Nat):(dO b n).length=n:=by unfold dO;simp
theorem MW (b:aj) (n:Nat):dO b (n+1)=dO b n++[bL b (2*n) 2]:=by simp[dO,tl,eV]
def ZY (l:aj):Option (ak):=match eK l with
 |none=>none
 |some (k,t,b)=>bif decide (k=3)&&(decide (t=0)&&ZB (b.drop 32))then(bif Am (dO b 16)then some (dO b 16)else none)else none
theorem ZJ {l:ak} (h:j<l.length:=by omega):(ints l)[j]? =some (.i l[j]):=by simp[ints,h]
theorem iI (h:cs[i]? =some d) (K:DV->M Y):eW cs i K=K d:=by unfold eW;rw[h]
theorem ZnY (n:Nat) (l:ak) (st:St) (hl:l.length=16) (hn:22<=n):run Bd n 298 [.agg (ints l)] st=some (.val [.bool (Am l)],st):=by
 obtain⟨n,rfl⟩: ∃m,n=m+2:=⟨n-2,AC⟩;rw[Ze,h.ahA];unfold RS Q_ dj az bF Lb Li Ag Am
 try dsimp only
 have hlen:(ints l).length=16:=by simp[ints,hl]
 simp only[cX,ao,Za];rw[bN hlen,bN hlen];refine ok_eq ?_;refine Zj _ (λq y s=>∃i:Nat,y=[.i i]/\i<=16/\16-i<=q/\s=st/\(l.take i).all (λv=>v==0||kR v 2 3071)=true) ?_ 16 (n+1) _ _ Fd AC;rintro q _ s ⟨i,rfl,hi,hq,rfl,dH⟩ rec aN;rw[au,ao];by_cases av:i<16
 .rw[aR,Zc (show aO (i:Int) 16=true from Zi av),bn,cR,iI (ZJ)]
  rw[bg];have hw:aq ((i:Int)+1)=((i+1:Nat):Int):=Zb;have aL:(l[i]==0||kR l[i] 2 3071)=true->Ok (λp=>p=(Out.val [DV.bool (l.all λv=>v==0||kR v 2 3071)],s)) (rec [.i (aq ((i:Int)+1))] s):=λe=>by
   rw[hw];refine aN (16-(i+1)) _ _ AC ⟨i+1,rfl,AC,aJ _,rfl,?_⟩;rw[oq AC,uC,dH];simpa using e
  have cC:(l[i]==0||kR l[i] 2 3071)=false->(l.all λv=>v==0||kR v 2 3071)=false:=Fd
  cases h0:(l[i]==0)
  .rw[bD,ae,Zk (Ik n _ _ _ s)];simp only[ar,ao];cases gB:kR l[i] 2 3071
   .rw[bD,ae,Zd,cC (by rw[h0,gB];rfl)];exact .mk rfl
   .rw[bI,af];grind
  .rw[bI,af];simp_all
 .rw[aU,Zd]
  rw[dG AC]at dH;rw[dH];exact .mk rfl
theorem ZqQ (n:Nat) (a:ai) (l:aj) (st:St) (ha:dD st a l) (hl:l.length<1000000) (hn:160<=n):
  Ok (λo=>∃s',aB st s'/\match ZY l with
   |none=>o=(.val [.agg (ints (List.replicate 16 0)),.bool false],s')
   |some x=>o=(.val [.agg (ints x),.bool true],s')/\x.length=16) (run Bd n 274 [.slice 1 a l.length] st):=by
 obtain _|n:=n;omega;rw[Ze,h.ahl];unfold Sg ck tE az bF cT vW bj Li Lb jA ZY;simp only[aZ,ao,Za];refine Ok.call (DO n a l st ha hl) ?_;rintro _ ⟨s1,aH,ho⟩;cases eD:eK l
 .rw[eD]at ho;subst ho;refine⟨_,s1,rfl,?_⟩;simp only[au,ar,ao,Zh 1 0 none _ (.inr rfl)];rw[bD,ae];simp only[ae,Zd];exact .mk ⟨_,aH,rfl⟩
 .rename_i q;have⟨k,t,b⟩:=q;rw[eD]at ho;obtain⟨p1,rfl,hf,hb,hk,ht⟩:=ho;refine⟨_,s1,rfl,?_⟩;simp only[au,ar,aZ,ao];rw[bI,af,pJ k 3 3 rfl,pJ t 0 0 rfl];cases kW:decide (k=3)with
  |false=>
   rw[bD];simp only[ae,gF,af,Zd];exact .mk ⟨_,aH,rfl⟩
  |true=>
  rw[bI,af,dt];cases K1:decide (t=0)with
  |false=>
   rw[bD];simp only[ae,gF,af,Zd];exact .mk ⟨_,aH,rfl⟩
  |true=>
  rw[bI,af,dt];have dq:=hf.tM;have cC:=DM n p1 b 32 24 s1 dq;rw[hb,dG (by rw[dY];omega)]at cC;rw[show aq (((56:Nat):Int)-32)=((24:Nat):Int) by decide,show(32:Int)=((32:Nat):Int)from rfl,Zk cC,ar,ao];cases ZB (b.drop 32)
  .rw[bD,ae,af,Zd];exact .mk ⟨_,aH,rfl⟩
  .rw[bI,ae,af];refine Zj _ (λq y s=>∃i:Nat,y=[.agg (ints (dO b i)++ints (List.replicate (16-i) 0)),.i i]/\i<=16/\16-i<=q/\s=s1) ?_ 16 n _ _ ⟨0,rfl,AC,AC,rfl⟩ AC;rintro q _ s ⟨i,rfl,hi,hq,rfl⟩ rec aN;have hlen:(ints (dO b i)++ints (List.replicate (16-i) 0)).length=16:=by
    simp[ints,pG];omega
   simp only[cX,au,ao];rw[bN hlen];by_cases av:i<16
   .have cL:aq ((i:Int)+1)=((i+1:Nat):Int):=Zb
    have gB:aq (2*((i+1:Nat):Int))=((2*(i+1):Nat):Int):=Zb;have kY:aq (2*(i:Int))=((2*i:Nat):Int):=Zb;simp only[cL,gB,kY,bn,cR];rw[aR,Zc (by rw[aS,bq,bq];omega),Zc (by rw[aS,bq,bq];omega)];have gV:=dq.cY (k:=2*i) AC;have vo:((b.drop (2*i)).take 2).length=2:=by rw[cB,dY];omega
    have jG:=yu n _ ((b.drop (2*i)).take 2) s (gV.mu 2);rw[vo]at jG;rw[show 2*(i+1)-2*i=2 by omega,Zk jG,au,ao,Zc (show aO (i:Int) 16=true from Zi av),Zc (gO AC)];refine aN (16-(i+1)) _ _ AC ⟨i+1,?_,AC,aJ _,rfl⟩;congr 2;rw[MW,show List.replicate (16-i) (0:Int)=0::List.replicate (16-(i+1)) 0 by rw[show 16-i=(16-(i+1))+1 by omega];rfl];have e3:i=(ints (dO b i)).length:=by simp[ints,pG]
    have e4:=tC (ints (dO b i)) [.i 0] (ints (List.replicate (16-(i+1)) 0)) [.i (bL b (2*i) 2)] rfl;rw[<-e3]at e4;show cG (ints (dO b i)++([.i 0]++ints (List.replicate (16-(i+1)) 0))) i [.i (bL b (2*i) 2)]=ints (dO b i++[bL b (2*i) 2])++_;rw[e4,show ints (dO b i++[bL b (2*i) 2])=ints (dO b i)++[.i (bL b (2*i) 2)] by unfold ints;rw[eV];rfl,dL]
   .rw[aU]
    have ry:i=16:=AC
    subst ry;rw[bN hlen];rw[show ints (dO b 16)++ints (List.replicate (16-16) 0)=ints (dO b 16)from fP _]at hlen⊢;rw[Zk (ZnY n (dO b 16) s (pG b 16) AC),ar,ao];cases Am (dO b 16)
    .rw[bD,ae,Zd];exact .mk ⟨_,aH,rfl⟩
    .rw[bI,af,bN hlen,Zd];exact .mk ⟨_,aH,rfl,pG b 16⟩
theorem Zuh (n:Nat) (l:ak) (v:Int) (p:ai) (st:St) (hs:Sl st p (ints l)) (hl:l.length<1000000) (hn:l.length+3<=n):
  Ok (λo=>∃y:Int,o=(.val [.i y],st)/\decide (y>=0)=decide (v∈l)) (run Bd n 254 [.slice 1 p l.length,.i v] st):=by
 obtain _|n:=n;omega;rw[Ze,h.ag3];unfold Q4 q9 Q_ dj Zo Li
 try dsimp only
 rw[aZ,au,ao,Za];refine Zj _ (λq y s=>∃i:Nat,y=[.i i]/\i<=l.length/\l.length-i<=q/\s=st/\v∉l.take i) ?_ l.length n _ _ Fd AC;rintro q _ s ⟨i,rfl,hi,hq,rfl,cC⟩ rec aN;simp only[au,ao];by_cases av:i<l.length
 .obtain⟨i1,o1,rfl⟩:=hs.cS (by simp[ints];omega)
  rw[aR,bh,Zc (Zi av),bn,hs.dX (ZJ av),bg];by_cases hv:v=l[i]
  .rw[show(v==l[i])=true by rw[hv];simp,ae,Zd]
   refine .mk ⟨_,rfl,?_⟩;rw[aQ AC,aQ (by rw[hv];simp)]
  .rw[dM.2 hv,af,Zb]
   refine aN (l.length-(i+1)) _ _ AC ⟨i+1,rfl,AC,aJ _,rfl,?_⟩;rw[oq av];grind
 .rw[aU,Zd]
  rw[dG AC]at cC;exact .mk Fd
theorem Zjv (n:Nat) (l:ak) (v:Int) (p:ai) (st:St) (hs:Sl st p (ints l)) (hl:l.length<1000000) (hn:l.length+4<=n):
  run Bd n 222 [.slice 1 p l.length,.i v] st=some (.val [.bool (decide (v∈l))],st):=by
 obtain _|n:=n;omega;rw[Ze,h.agz];unfold QV q9 cK fj Lb
 try dsimp only
 rw[aZ,au,ao];refine ok_eq ?_;refine Ok.call (Zuh n l v p st hs hl AC) ?_;rintro _ ⟨y,rfl,e⟩;refine⟨_,st,rfl,?_⟩;rw[au,ao,Zd,e];exact .mk rfl
def rh (v:Int):Bool:=bif decide (v>=2)then decide (v<3072)else false
theorem ZfW (n:Nat) (v:Int) (st:St):run Bd (n+1) 315 [.i v] st=some (.val [.bool (rh v)],st):=by
 rw[Ze,h.ahM];unfold Rh cT az Lb rh;simp only[au,ao,Za,ar];cases decide (v>=2)<;>rfl
structure ZL where
 name:aj
 mask:Nat
 cF:ak
def Z0 (x:ZL):ah:= .str x.name:: .i x.mask::ints x.cF
def qE (m i:Nat) (v:Int):Bool:=bif eN m i then rh v else v==0
def mL (x:ZL):Bool:=pH x.name&&(decide (x.mask<4096)&&(List.range 12).all λi=>qE x.mask i (x.cF.getD i 0))
def ZV (b:aj) (n:Nat):ak:=(List.range n).map λj=>bL b (4+2*j) 2
theorem DS (b:aj) (n:Nat):(ZV b n).length=n:=by unfold ZV;simp
theorem ZmG (b:aj) (n:Nat):ZV b (n+1)=ZV b n++[bL b (4+2*n) 2]:=by simp[ZV,tl,eV]
def Z1 (b:aj) (t:Nat):ZL:=⟨(b.drop 28).take t,rd b 0 4,ZV b 12⟩
def ZH (l:aj):Option ZL:=match eK l with
 |none=>none
 |some (k,t,b)=>bif decide (k=5)&&(decide (t<=24)&&ZB (b.drop (28+t)))then(bif mL (Z1 b t)then some (Z1 b t)else none)else none
def Eh:ZL:=⟨[],0,List.replicate 12 0⟩
theorem ZlM (n:Nat) (x:ZL) (st:St) (hl:x.cF.length=12) (hs:x.name.length<1000) (hm:x.mask<4294967296) (hn:22+x.name.length<=n):run Bd n 299 [.agg (Z0 x)] st=some (.val [.bool (mL x)],st):=by
 obtain⟨n,rfl⟩: ∃m,n=m+2:=⟨n-2,AC⟩;rw[Ze,h.ahB];unfold Rm bF az Q_ dj Ls Lb Li mL Z0
 try dsimp only
 have hlen:(ints x.cF).length=12:=by simp[ints,hl]
 simp only[cX,bZ,au,ao,Za];rw[bN hlen,bN (by simp[hlen]),Zk (ok_eq (Zr2 (n+1) x.name AC AC st))];simp only[ar,ao];cases pH x.name with
 |false=>rw[bD,ae];rfl
 |true=>
 rw[bI,af,bP (AC:¬(x.mask:Int)<0)];simp only[af,dt];by_cases eG:x.mask<4096;rotate_left
 .rw[aR,bP eG,Zd,gF]
 rw[aU,aQ eG,dt,show(ints x.cF).take 12=ints x.cF from dG AC];refine ok_eq ?_;refine Zj _ (λq y s=>∃i:Nat,y=[.i i]/\i<=12/\12-i<=q/\s=st/\((List.range i).all λi=>qE x.mask i (x.cF.getD i 0))=true) ?_ 12 (n+1) _ _ Fd AC;rintro q _ s ⟨i,rfl,hi,hq,rfl,dH⟩ rec aN;rw[au,ao];by_cases av:i<12
 .rw[aR,Zc (show aO (i:Int) 12=true from Zi av),bn,cR,iI (ZJ)]
  rw[bg,Zc (aQ AC),Zvs,ZyR AC AC];have hw:aq ((i:Int)+1)=((i+1:Nat):Int):=Zb;have zg:x.cF.getD i 0=x.cF[i]' AC:=by rw[cz,cc AC];rfl
  have aL:qE x.mask i (x.cF[i]' AC)=true->Ok (λp=>p=(Out.val [DV.bool ((List.range 12).all λi=>qE x.mask i (x.cF.getD i 0))],s)) (rec [.i (aq ((i:Int)+1))] s):=λe=>by
   rw[hw];refine aN (12-(i+1)) _ _ AC ⟨i+1,rfl,AC,aJ _,rfl,?_⟩;rw[tl,uC,dH,wY,List.all_nil,zg,e];rfl
  have cC:qE x.mask i (x.cF[i]' AC)=false->((List.range 12).all λi=>qE x.mask i (x.cF.getD i 0))=false:=Fd
  cases hb:eN x.mask i
  .rw[bD,ae];cases h0:(x.cF[i]' AC==0)
   .rw[bD,ae,ae,Zd,cC (by grind[qE])];exact .mk rfl
   .rw[bI,af,Zc (aQ AC),af];exact aL (by grind[qE])
  .rw[bI,af,Zc (aQ AC),ae,Zk (ZfW n _ s),ar,ao];cases hbn:rh (x.cF[i]' AC)
   .rw[bD,ae,Zd,cC (by grind[qE])];exact .mk rfl
   .rw[bI,af];exact aL (by grind[qE])
 .rw[aU,Zd]
  rw[show i=12 by omega]at dH;rw[dH];exact .mk rfl
theorem Zni (n:Nat) (a:ai) (l:aj) (st:St) (ha:dD st a l) (hl:l.length<1000000) (hn:160<=n):
  Ok (λo=>∃s',aB st s'/\match ZH l with
   |none=>o=(.val [.agg (Z0 Eh),.bool false],s')
   |some x=>o=(.val [.agg (Z0 x),.bool true],s')/\x.cF.length=12) (run Bd n 275 [.slice 1 a l.length] st):=by
 obtain _|n:=n;omega;rw[Ze,h.ahm];unfold RJ ck tE az D3 bF cT vW bj FX Li FV Lb jA ZH;simp only[aZ,ao,Za];refine Ok.call (DO n a l st ha hl) ?_;rintro _ ⟨s1,aH,ho⟩;cases eD:eK l
 .rw[eD]at ho;subst ho;refine⟨_,s1,rfl,?_⟩;simp only[au,ar,ao,Zh 1 0 none _ (.inr rfl)];rw[bD,ae];simp only[ae,Zd];exact .mk ⟨_,aH,rfl⟩
 .rename_i q;have⟨k,t,b⟩:=q;rw[eD]at ho;obtain⟨p1,rfl,hf,hb,hk,ht⟩:=ho;refine⟨_,s1,rfl,?_⟩;simp only[au,ar,aZ,ao];rw[bI,af,pJ k 5 5 rfl];cases kW:decide (k=5)with
  |false=>
   rw[bD];simp only[ae,gF,af,Zd];exact .mk ⟨_,aH,rfl⟩
  |true=>
  rw[bI,af,dt];by_cases j6:t<=24;rotate_left
  .rw[aQ (AC:(t:Int)>24),bP j6]
   simp only[ae,gF,af,Zd];exact .mk ⟨_,aH,rfl⟩
  rw[bP (AC:¬(t:Int)>24),aQ j6,af,dt];have dq:=hf.tM;have hw:aq (28+(t:Int))=((28+t:Nat):Int):=Zb;have cC:=DM n p1 b (28+t) (28-t) s1 dq;rw[hb,dG (by rw[dY];omega)]at cC;have gB:aq (aq (((56:Nat):Int)-28)-(t:Int))=((28-t:Nat):Int):=by
   rw[show aq (((56:Nat):Int)-28)=28 by decide,Zb];omega
  rw[hw,gB,Zk cC,ar,ao,bn];cases ZB (b.drop (28+t))
  .rw[bD,ae,af,Zd];exact .mk ⟨_,aH,rfl⟩
  .rw[bI,ae,af,Zc (by rw[aS,bq,bq];omega),Zc (aQ AC)];have C0:=(dq.cY (k:=28) AC).mu t;have Be:(bT ((b.drop 28).take t)).length=28+t-28:=by rw[Zw,cB,dY];omega
   have j5:=j9 (Y:=ah) C0;rw[Be]at j5;rw[j5,<-qi,uJ,Zc (aQ AC)];have EV:(b.take 4).length=4:=by rw[cB];omega
   have jG:=yu n _ (b.take 4) s1 (dq.mu 4);rw[EV]at jG;rw[qY jG (.refl s1),au,ao];have aja:ef (b.take 4)<4294967296:=by have:=GD (b.take 4);rw[EV]at this;exact this
   rw[Zb (x:=((ef (b.take 4):Nat):Int))];have sE:((b.drop 28).take t).length<=24:=by rw[cB];omega
   refine Zj _ (λq y s=>∃i:Nat,y=[.agg (.str ((b.drop 28).take t):: .i (ef (b.take 4):Nat)::(ints (ZV b i)++ints (List.replicate (12-i) 0))),.i i]/\i<=12/\12-i<=q/\s=s1) ?_ 12 n _ _ ⟨0,rfl,AC,AC,rfl⟩ AC;rintro q _ s ⟨i,rfl,hi,hq,rfl⟩ rec aN;have hlen:(ints (ZV b i)++ints (List.replicate (12-i) 0)).length=12:=by
    simp[ints,DS];omega
   simp only[cX,bZ,au,ao];rw[bN hlen];by_cases av:i<12
   .have cL:aq ((i:Int)+1)=((i+1:Nat):Int):=Zb
    have kY:aq (2*(i:Int))=((2*i:Nat):Int):=Zb;have lN:aq (4+((2*i:Nat):Int))=((4+2*i:Nat):Int):=Zb;have sP:aq (((4+2*i:Nat):Int)+2)=((4+2*i+2:Nat):Int):=Zb;simp only[cL,kY,lN,sP,bn,cR];rw[aR,Zc (by rw[aS,bq,bq];omega),Zc (by rw[aS,bq,bq];omega)];have gV:=dq.cY (k:=4+2*i) AC;have vo:((b.drop (4+2*i)).take 2).length=2:=by rw[cB,dY];omega
    have jG:=yu n _ ((b.drop (4+2*i)).take 2) s (gV.mu 2);rw[vo]at jG;rw[show 4+2*i+2-(4+2*i)=2 by omega,Zk jG,au,ao,Zc (show aO (i:Int) 12=true from Zi av),Zc (gO AC)];refine aN (12-(i+1)) _ _ AC ⟨i+1,?_,AC,aJ _,rfl⟩;congr 4;rw[ZmG,show List.replicate (12-i) (0:Int)=0::List.replicate (12-(i+1)) 0 by rw[show 12-i=(12-(i+1))+1 by omega];rfl];have e3:i=(ints (ZV b i)).length:=by simp[ints,DS]
    have e4:=tC (ints (ZV b i)) [.i 0] (ints (List.replicate (12-(i+1)) 0)) [.i (bL b (4+2*i) 2)] rfl;rw[<-e3]at e4;show cG (ints (ZV b i)++([.i 0]++ints (List.replicate (12-(i+1)) 0))) i [.i (bL b (4+2*i) 2)]=ints (ZV b i++[bL b (4+2*i) 2])++_;rw[e4,show ints (ZV b i++[bL b (4+2*i) 2])=ints (ZV b i)++[.i (bL b (4+2*i) 2)] by unfold ints;rw[eV];rfl,dL]
   .rw[aU]
    have ry:i=12:=AC
    subst ry;rw[show ints (ZV b 12)++ints (List.replicate (12-12) 0)=ints (ZV b 12)from fP _]at hlen⊢;rw[bN hlen];have hrq:=ZlM n (Z1 b t) s (DS b 12) (by show((b.drop 28).take t).length<_;omega) aja (by show _+((b.drop 28).take t).length<=_;omega);have hqc:Z0 (Z1 b t)= .str ((b.drop 28).take t):: .i (ef (b.take 4):Nat)::ints (ZV b 12):=rfl;rw[<-hqc,Zk hrq,ar,ao];cases mL (Z1 b t)
    .rw[bD,ae,Zd];exact .mk ⟨_,aH,rfl⟩
    .rw[bI,af,bN (by rw[hqc];simp[hlen]),Zd];exact .mk ⟨_,aH,rfl,DS b 12⟩
def Al (l:ak):Bool:=decide (1<=l.length)&&(decide (l.length<=16)&&(List.range l.length).all λi=>rh (l.getD i 0)&& !decide (l.getD i 0∈l.take i))
def kl (l:aj):Option (ak):=match eK l with
 |none=>none
 |some (k,t,b)=>bif decide (k=6)&&(decide (t<=16)&&ZB (b.drop (2*t)))then(bif Al (dO b t)then some (dO b t)else none)else none
theorem Znj (n:Nat) (l:ak) (p:ai) (st:St) (hs:Sl st p (ints l)) (hl:l.length<1000) (hn:l.length+10<=n):run Bd n 300 [.agg [.slice 1 p l.length]] st=some (.val [.bool (Al l)],st):=by
 obtain⟨n,rfl⟩: ∃m,n=m+2:=⟨n-2,AC⟩;rw[Ze,h.ahC];unfold RB ck az Q_ dj Zo bF Lb Li fj Al;simp only[cX,aZ,ao,Za];by_cases h1:1<=l.length;rotate_left
 .rw[aQ (AC:(l.length:Int)<1),bP h1]
  rfl
 rw[bP (AC:¬(l.length:Int)<1),aQ h1];simp only[ar,ao,af,dt];by_cases h2:l.length<=16;rotate_left
 .rw[aQ (AC:(l.length:Int)>16),bP h2]
  rfl
 rw[bP (AC:¬(l.length:Int)>16),aQ h2,af,dt];refine ok_eq ?_;refine Zj _ (λq y s=>∃i:Nat,y=[.i i]/\i<=l.length/\l.length-i<=q/\s=st/\((List.range i).all λi=>rh (l.getD i 0)&& !decide (l.getD i 0∈l.take i))=true) ?_ l.length (n+1) _ _ Fd AC;rintro q _ s ⟨i,rfl,hi,hq,rfl,dH⟩ rec aN;rw[au,ao];by_cases av:i<l.length
 .obtain⟨i1,o1,rfl⟩:=hs.cS (by simp[ints];omega)
  rw[aR,bh,Zc (Zi av),bn,hs.dX (ZJ av),bg];have hw:aq ((i:Int)+1)=((i+1:Nat):Int):=Zb;have zg:l.getD i 0=l[i]:=by rw[cz,cc av];rfl
  have cC:(rh l[i]&& !decide (l[i]∈l.take i))=false->((List.range l.length).all λi=>rh (l.getD i 0)&& !decide (l.getD i 0∈l.take i))=false:=Fd
  rw[Zk (ZfW n _ s),ar,ao];cases hb:rh l[i]
  .rw[bD,ae,ae,Zd,cC (by rw[hb];rfl)];exact .mk rfl
  .rw[bI,af,Zc (by rw[aS,bq,bq];omega)];have hti:(l.take i).length=i:=by rw[cB];omega
   have cq:Sl s (some (i1,o1)) (ints (l.take i)):=by
    have:=Sl.mu hs i;rwa [show(ints l).take i=ints (l.take i) by simp[ints]]at this
   have hc:=Zjv (n+1) (l.take i) l[i] _ s cq AC AC;rw[hti]at hc;rw[Zk hc,ar,ao];cases hm:decide (l[i]∈l.take i)
   .rw[af,hw];refine aN (l.length-(i+1)) _ _ AC ⟨i+1,rfl,AC,aJ _,rfl,?_⟩;rw[tl,uC,dH,wY,List.all_nil,zg,hb,hm];rfl
   .rw[ae,Zd,cC (by rw[hb,hm];rfl)];exact .mk rfl
 .rw[aU,Zd]
  rw[show i=l.length by omega]at dH;rw[dH];exact .mk rfl
theorem Zo4 (n:Nat) (a:ai) (l:aj) (st:St) (ha:dD st a l) (hl:l.length<1000000) (hn:160<=n):
  Ok (λo=>∃s',aB st s'/\match kl l with
   |none=>o=(.val [.agg [.slice 0 none 0],.bool false],s')
   |some x=>∃p,o=(.val [.agg [.slice 1 p x.length],.bool true],s')/\Fz s' p (ints x)/\x.length<=16) (run Bd n 276 [.slice 1 a l.length] st):=by
 obtain _|n:=n;omega;rw[Ze,h.ahn];unfold RM ck tE az bF cT bj Li Lb jA kl;simp only[aZ,ao,Za];rw[Z8];refine Ok.call (DO n a l st ha hl) ?_;rintro _ ⟨s1,aH,ho⟩;cases eD:eK l
 .rw[eD]at ho;subst ho;refine⟨_,s1,rfl,?_⟩;simp only[au,ar,ao,Zh 1 0 none _ (.inr rfl)];rw[bD,ae];simp only[ae];rw[Zs];exact .mk ⟨_,Zx aH,rfl⟩
 .rename_i q;have⟨k,t,b⟩:=q;rw[eD]at ho;obtain⟨p1,rfl,hf,hb,hk,ht⟩:=ho;refine⟨_,s1,rfl,?_⟩;simp only[au,ar,aZ,ao];rw[bI,af,pJ k 6 6 rfl];cases kW:decide (k=6)with
  |false=>
   rw[bD];simp only[ae,gF,af];rw[Zs];exact .mk ⟨_,Zx aH,rfl⟩
  |true=>
  rw[bI,af,dt];by_cases j6:t<=16;rotate_left
  .rw[aQ (AC:(t:Int)>16),bP j6]
   simp only[ae,gF,af];rw[Zs];exact .mk ⟨_,Zx aH,rfl⟩
  rw[bP (AC:¬(t:Int)>16),aQ j6,af,dt];have dq:=hf.tM;have hw:aq (2*(t:Int))=((2*t:Nat):Int):=Zb;have cC:=DM n p1 b (2*t) (56-2*t) s1 dq;rw[hb,dG (by rw[dY];omega)]at cC;have gB:aq (((56:Nat):Int)-((2*t:Nat):Int))=((56-2*t:Nat):Int):=by
   rw[Zb];omega
  rw[hw,gB,Zk cC,ar,ao];cases ZB (b.drop (2*t))
  .rw[bD,ae,af,Zs];exact .mk ⟨_,Zx aH,rfl⟩
  .rw[bI,ae,af];refine Zj _ (λq y s=>∃(i z:Nat) (p:ai),y=[.agg [.slice z p i],.i i]/\(z=1\/p=none)/\i<=t/\t-i<=q/\bc st s p (ints (dO b i))/\nN s p1 b) ?_ t n _ _ ⟨0,0,none,rfl,.inr rfl,cN _,AC,bc.nil aH,hf⟩ AC;rintro q _ s ⟨i,z,p,rfl,hz,hi,hq,ho,Hi⟩ rec aN;simp only[cX,au,Zh 1 z p _ hz,ao];by_cases av:i<t
   .have cL:aq ((i:Int)+1)=((i+1:Nat):Int):=Zb
    have gB:aq (2*((i+1:Nat):Int))=((2*(i+1):Nat):Int):=Zb;have kY:aq (2*(i:Int))=((2*i:Nat):Int):=Zb;simp only[cL,gB,kY,bn,cR];rw[aR,Zc (by rw[aS,bq,bq];omega),Zc (by rw[aS,bq,bq];omega)];have gV:=Hi.tM.cY (k:=2*i) AC;have vo:((b.drop (2*i)).take 2).length=2:=by rw[cB,dY];omega
    have jG:=yu n _ ((b.drop (2*i)).take 2) s (gV.mu 2);rw[vo]at jG;rw[show 2*(i+1)-2*i=2 by omega,xr jG,au,ao];have⟨p2,s2,du,sD,he⟩:=ho.Dq (Y:=ah) (sz:=1) (n:=i) (lim:=8796093022208) [.i (bL b (2*i) 2)] (yh 0) (by simp[ints,pG]) rfl AC;refine Eq.mpr (congrArg (Ok _) (he _)) ?_;refine aN (t-(i+1)) _ _ AC ⟨i+1,1,p2,rfl,.inl rfl,AC,aJ _,?_,Hi.kp sD⟩;rw[MW];show bc st s2 p2 (List.map _ _);rw[eV];exact du
   .rw[aU]
    have ED:i=t:=AC
    subst ED;have hr:=Znj n (dO b i) p s ho.sl (by rw[pG];omega) (by rw[pG];omega);rw[pG]at hr;rw[aZ,ao,Zk hr,ar,ao];cases Al (dO b i)
    .rw[bD,ae,af,Zs];exact .mk ⟨_,Zx ho.1,rfl⟩
    .rw[bI,af,ae,Zs];refine .mk ⟨_,Zx ho.1,p,?_,ho.fz,?_⟩
     .rw[pG]
     .rw[pG];omega
def p9 (n k:Int):Int:=aq ((aq (aq (n+k)-1)).tdiv k)
def Ax (b s g:Int):Int:=bif qA b s g then p9 b 384 else 0
def Cb (n:Int):Int:=bif (decide (n>=0)&&decide (n<=1792))then p9 n 7 else 0
theorem ZoD (n:Nat) (v k:Int) (hk:k≠0) (st:St):run Bd (n+1) 253 [.i v,.i k] st=some (.val [.i (p9 v k)],st):=by
 rw[Ze,h.ag2];unfold Vo jx Li p9;simp only[au,ao];rw[Zc (by rw[dM.2 hk];rfl)];rfl
theorem Zr3 (n:Nat) (v:Int) (st:St):run Bd (n+1) 255 [.i v] st=some (.val [.bool (decide (v>=0)&&decide (v<=1792))],st):=by
 rw[Ze,h.ag4];unfold TC cT az Lb
 try dsimp only
 rw[au,ao,Za];cases decide (v>=0)<;>rfl
theorem ZpS (n:Nat) (v:Int) (st:St):run Bd (n+2) 227 [.i v] st=some (.val [.i (Cb v)],st):=by
 rw[Ze,h.agD];unfold Sv cT bF cK Li gG Cb
 try dsimp only
 rw[au,ao,Zk (Zr3 n v st),ar,ao];cases(decide (v>=0)&&decide (v<=1792))with
 |false=>rfl
 |true=>
  rw[bI,af,Zk (ZoD n v 7 EQ st)];rfl
theorem ZqP (n:Nat) (b s g:Int) (st:St):run Bd (n+2) 223 [.agg [.i b,.i s,.i g]] st=some (.val [.i (Ax b s g)],st):=by
 rw[Ze,h.agA];unfold SZ D1 bF cK vX Li gG Ax;simp only[cX,au,ao];rw[Zk (ZlH n b s g st),ar,ao];cases qA b s g
 .rfl
 .rw[bI,af,Zk (ZoD n b 384 EQ st)];rfl
structure ZS where
 no:Nat
 fu:aj
def ZZ (x:ZS):ah:= .i x.no::bT x.fu
def Od:ZS:=⟨0,List.replicate 48 0⟩
def yC (l:aj):Option ZS:=match eK l with
 |none=>none
 |some (k,t,b)=>bif decide (k=4)&&(decide (t<8)&&ZB (b.drop 48))then some ⟨t,b.take 48⟩else none
def yW (x:ZS) (a:Nat):Bool:=decide (a/384=x.no)&&eN (x.fu.getD (a%384/8) 0).toNat (a%8)
def fC (x:ZS) (n:Nat):ak:=((List.range n).filter λi=>yW x (x.no*384+i)).map λi=>((x.no*384+i:Nat):Int)
theorem MX (x:ZS) (n:Nat):fC x (n+1)=fC x n++(bif yW x (x.no*384+n)then[((x.no*384+n:Nat):Int)]else[]):=by
 unfold fC;rw[tl,HY,eV];grind
theorem ZrM (x:ZS) (n:Nat):(fC x n).length<=n:=by
 grind[fC]
theorem ae4 {x:Nat} (hx:x<256) (hr:r<8):((bits .and .u8 (x:Int) ((2^r:Nat):Int))==0)= !eN x r:=by
 have key: ∀x:Fin 256,∀r:Fin 8,((x.val&&& 2^r.val)==0)= !decide (x.val/2^r.val%2=1):=by decide+kernel
 have hp:2^r<256:=Ml (a:=2) (m:=r) (n:=8) EQ hr;have e:bits .and .u8 (x:Int) ((2^r:Nat):Int)=((x&&& 2^r:Nat):Int):=by
  generalize 2^r=w at hp;show IntKind.wrap .u8 ((BitVec.ofInt 8 (x:Int)&&& BitVec.ofInt 8 (w:Int)).toNat:Int)=_;rw[BitVec.toNat_and,BitVec.toNat_ofInt,BitVec.toNat_ofInt];have e1:((x:Int)%((2^8:Nat):Int)).toNat=x:=AC
  have e2:((w:Int)%((2^8:Nat):Int)).toNat=w:=AC
  rw[e1,e2];have:x&&& w<256:=H5 Nat.and_le_left hx;show((x&&& w:Nat):Int)%(2^8)=_;omega
 rw[e];have:=key ⟨x,hx⟩ ⟨r,hr⟩;grind[eN]
theorem Zqt (n:Nat) (x:ZS) (hl:x.fu.length=48) (st:St):run Bd (n+1) 307 [.agg (ZZ x)] st=some (.val [.bool (decide (x.no<8))],st):=by
 rw[Ze,h.ahE];unfold SY az Lb ZZ
 try dsimp only
 have hlen:(bT x.fu).length=48:=by rw[Zw,hl]
 rw[cX,au,ao,Za,bN hlen,bN (by simp[hlen]),aR];simp only[ar,ao];rw[Zd];by_cases h8:x.no<8
 .rw[aQ h8,aQ AC]
 grind
theorem Zto (n:Nat) (x:ZS) (a:Nat) (ha:a<1000000) (hl:x.fu.length=48) (h8:x.no<8) (st:St):
  run Bd (n+2) 287 [.agg (ZZ x),.i a] st=some (.val (bif decide (a/384=x.no)then[.i (a%384/8:Nat),.u (2^(a%8):Nat),.bool true]else[.i 0,.u 0,.bool false]),st):=by
 rw[Ze,h.ahp];have hr:=Zqt n x hl st;unfold UD cT bF az Lb
 try dsimp only
 have hlen:(bT x.fu).length=48:=by rw[Zw,hl]
 unfold ZZ at hr⊢;simp only[cX,au,ao,Za];rw[bN hlen,bN (by simp[hlen]),Zk hr];simp only[ar,ao];rw[aQ h8,bI,af,bP (AC:¬(a:Int)<0),af,show((a:Int).tdiv 384)=((a/384:Nat):Int)from rfl,Zb,pJ (a/384) x.no _ rfl];cases hd:decide (a/384=x.no)
 .rfl
 .rw[bI,af,ae,show((a:Int).tmod 384)=((a%384:Nat):Int)from rfl,show(((a%384:Nat):Int).tmod 8)=((a%384%8:Nat):Int)from rfl,show(((a%384:Nat):Int).tdiv 8)=((a%384/8:Nat):Int)from rfl,Zc (aQ AC),Zb,bn,pA AC,show a%384%8=a%8 by omega,Zd];have hp:2^(a%8)<256:=Ml (a:=2) (m:=a%8) (n:=8) EQ AC;have e:IntKind.wrap .u8 (1*2^(a%8))=((2^(a%8):Nat):Int):=by
   rw[Int.one_mul,show((2:Int)^(a%8))=((2^(a%8):Nat):Int) by push_cast;rfl];generalize 2^(a%8)=w at hp;show(w:Int)%(2^8)=_;omega
  rw[e]
theorem ZtL (n:Nat) (x:ZS) (a:Nat) (ha:a<1000000) (hl:x.fu.length=48) (h8:x.no<8) (st:St):
  run Bd (n+3) 262 [.agg (ZZ x),.i a] st=some (.val [.bool (yW x a)],st):=by
 rw[Ze,h.ag9];have hr:=Zto n x a ha hl h8 st;unfold TJ cT Zvp az Lb yW
 try dsimp only
 have hlen:(bT x.fu).length=48:=by rw[Zw,hl]
 unfold ZZ at hr⊢;simp only[cX,au,ao,Za];rw[bN hlen,bN (by simp[hlen]),Zk hr];cases decide (a/384=x.no)
 .rfl
 .simp only[ae,au,ar,ao,bn,cR,dt];rw[Zc (show aO ((a%384/8:Nat):Int) 48=true from Zi)];have⟨c,hc⟩: ∃c,x.fu[a%384/8]? =some c:=⟨_,cc AC⟩;rw[iI (VX hc),getD_some hc,bg,ae4 c.toNat_lt AC,Bool.not_not];rfl
theorem Zsd (n:Nat) (x:ZS) (hl:x.fu.length=48) (h8:x.no<8) (st:St) (hn:400<=n):
  Ok (λo=>∃p s',o=(.val [.slice 1 p (fC x 384).length],s')/\aB st s'/\Fz s' p (ints (fC x 384))) (run Bd n 239 [.agg (ZZ x)] st):=by
 obtain⟨n,rfl⟩: ∃m,n=m+4:=⟨n-4,AC⟩;rw[Ze,h.agO];have hr:=λa ha s=>ZtL n x a ha hl h8 s
 unfold TD gj l9 bF bj fj Li jy
 try dsimp only
 have hlen:(bT x.fu).length=48:=by rw[Zw,hl]
 unfold ZZ at hr⊢;simp only[cX,au,ao,Za];rw[bN hlen,Z8,bN (by simp[hlen])];refine Zj _ (λq y s=>∃(i z:Nat) (p:ai),y=[.slice z p (fC x i).length,.i i]/\(z=1\/p=none)/\i<=384/\384-i<=q/\bc st s p (ints (fC x i))) ?_ 384 (n+3) _ _ ⟨0,0,none,rfl,.inr rfl,cN _,AC,bc.nil (.refl st)⟩ AC;rintro q _ s ⟨i,z,p,rfl,hz,hi,hq,ho⟩ rec aN;simp only[au,Zh 1 z p _ hz,ao];by_cases av:i<384
 .have cL:aq ((i:Int)+1)=((i+1:Nat):Int):=Zb
  have gB:aq ((x.no:Int)*384)=((x.no*384:Nat):Int):=by rw[Zb];omega
  have kY:aq (((x.no*384:Nat):Int)+(i:Int))=((x.no*384+i:Nat):Int):=Zb;rw[cL,gB,kY,aR,Zk (hr (x.no*384+i) AC s),ar,ao];have fV:=ZrM x i;cases hh:yW x (x.no*384+i)
  .rw[af,aZ,ao];refine aN (384-(i+1)) _ _ AC ⟨i+1,1,p,?_,.inl rfl,AC,aJ _,?_⟩
   .rw[MX,hh];simp
   .rw[MX,hh,af,fP];exact ho
  .rw[ae];have⟨p2,s2,du,sD,he⟩:=ho.Dq (Y:=ah) (sz:=1) (n:=(fC x i).length) (lim:=8796093022208) [.i ((x.no*384+i:Nat):Int)] (yh 0) (by simp[ints]) rfl AC;refine Eq.mpr (congrArg (Ok _) (he _)) ?_;rw[aZ,ao];refine aN (384-(i+1)) _ _ AC ⟨i+1,1,p2,?_,.inl rfl,AC,aJ _,?_⟩
   .rw[MX,hh];simp
   .rw[MX,hh]
    show bc st s2 p2 (List.map _ _);rw[eV];exact du
 .rw[aU]
  rw[aZ,ao,Zs];have ry:i=384:=AC
  subst ry;exact .mk ⟨p,_,rfl,Zx ho.1,ho.fz⟩
theorem Zzf {B:ah} (hl:B.length=D.length) (K:M Y):dE s.length A.length D K (s++[some ⟨false,A++B⟩])=K (s++[some ⟨false,A++D⟩]):=by
 unfold dE St.iB;rw[kO (aJ _),yg];simp only[ly];rw[gO (by rw[ba];omega),ae];have e:=tC A B [] D hl;rw[fP,fP]at e;rw[e];simp
theorem ZtS (n:Nat) (a:ai) (l:aj) (st:St) (ha:dD st a l) (hl:l.length<1000000) (hn:160<=n):
  Ok (λo=>∃s',aB st s'/\match yC l with
   |none=>o=(.val [.agg (ZZ Od),.bool false],s')
   |some x=>o=(.val [.agg (ZZ x),.bool true],s')/\x.fu.length=48/\x.no<8) (run Bd n 204 [.slice 1 a l.length] st):=by
 obtain _|n:=n;omega;rw[Ze,h.agj];unfold T1 ck tE az bF bj Lb jA yC;simp only[aZ,ao,Za];refine Ok.call (DO n a l st ha hl) ?_;rintro _ ⟨s1,aH,ho⟩;cases eD:eK l
 .rw[eD]at ho;subst ho;refine⟨_,s1,rfl,?_⟩;simp only[au,ar,ao,Zh 1 0 none _ (.inr rfl)];rw[bD,ae];simp only[ae,Zd];exact .mk ⟨_,aH,rfl⟩
 .rename_i q;have⟨k,t,b⟩:=q;rw[eD]at ho;obtain⟨p1,rfl,hf,hb,hk,ht⟩:=ho;refine⟨_,s1,rfl,?_⟩;simp only[au,ar,aZ,ao];rw[bI,af,pJ k 4 4 rfl];cases kW:decide (k=4)with
  |false=>
   rw[bD];simp only[ae,gF,af,Zd];exact .mk ⟨_,aH,rfl⟩
  |true=>
  rw[bI,af,dt];by_cases j6:t<8;rotate_left
  .rw[aQ (AC:(t:Int)>=8),bP j6]
   simp only[ae,gF,af,Zd];exact .mk ⟨_,aH,rfl⟩
  rw[bP (AC:¬(t:Int)>=8),aQ j6,af,dt];have dq:=hf.tM;have cC:=DM n p1 b 48 8 s1 dq;rw[hb,dG (by rw[dY];omega)]at cC;rw[show aq (((56:Nat):Int)-48)=((8:Nat):Int) by decide,show(48:Int)=((48:Nat):Int)from rfl,Zk cC,ar,ao];cases ZB (b.drop 48)
  .rw[bD,ae,af,Zd];exact .mk ⟨_,aH,rfl⟩
  .rw[bI,ae,af];have K3:(b.take 48).length=48:=by rw[cB];omega
   have iz:(bT (b.take 48)).length=min 56 48*1:=by rw[Zw,K3];rfl
   refine Eq.mpr (congrArg (Ok _) (show _=(cj (ZZ Od) λc1=>dE c1 0 (ZZ ⟨t,List.replicate 48 0⟩)<|bV c1 1 48 λ_=>dV p1 (min 56 48*1) λcs=>dE c1 1 cs<|bV c1 0 49 λbU=>aC .i64 bU λx4 r1=>bC r1 48<|bC ((.i x4)::r1) 49<|aw [.agg ((.i x4)::r1),.bool true]) s1 from rfl)) ?_;rw[ZD,Zrv FS,kq (i:=s1.length) (o:=1) (n:=48) (f:=false) (all:=ZZ ⟨t,List.replicate 48 0⟩) Do (by simp[ZZ,Zw])];have cZ:=(dq.mono (aB.new s1 (some ⟨false,ZZ ⟨t,List.replicate 48 0⟩⟩))).mu 48;rw[<-iz,j9 cZ];have cq:=Zzf (Y:=ah) (s:=s1) (A:=[.i t]) (B:=bT (List.replicate 48 0)) (D:=bT (b.take 48)) (by rw[Zw,Zw,K3];rfl);refine Eq.mpr (congrArg (Ok _) (cq _)) ?_;have hco:([.i t]++bT (b.take 48):ah).length=49:=by rw[ba,Zw,K3];rfl
   rw[kq (i:=s1.length) (o:=0) (n:=49) (f:=false) (all:=[.i t]++bT (b.take 48)) Do (by rw[hco];omega),dF,dG (l:=[DV.int .i64 t]++bT (b.take 48)) (i:=49) (by rw[hco];omega)];show Ok _ (aC .i64 (.i t::bT (b.take 48)) _ _);rw[au];have adz:(bT (b.take 48)).length=48:=by rw[Zw,K3]
   rw[bN adz,bN (by rw[cQ,adz]),Zd];exact .mk ⟨_,aH.trans (.new _ _),rfl,K3,j6⟩
def Fx (T:al) (s s':St):Prop:=s.length<=s'.length/\∀(b:Nat) (x:Option bQ),b∉T->s[b]? =some x->s'[b]? =some x
theorem Fx.refl (T:al) (s:St):Fx T s s:=⟨aJ _,λ_ _ _ h=>h⟩
theorem Fx.pre (T:al) (h:aB s s'):Fx T s s':=⟨h.len,λ_ _ _ e=>h.get e⟩
theorem Fx.trans {a b c:St} (h:Fx T a b) (k:Fx T b c):Fx T a c:=⟨ij h.1 k.1,λi x n e=>k.2 i x n (h.2 i x n e)⟩
theorem Fx.step {a b c:St} (h:Fx T a b) (k:Fx T' b c) (hT: ∀x∈T',x∈T\/a.length<=x):Fx T a c:=
 ⟨ij h.1 k.1,λi x n e=>k.2 i x (λhm=>by
  grind) (h.2 i x n e)⟩
theorem Fx.mono {a b:St} (h:Fx T a b) (k: ∀x∈T,x∈T'):Fx T' a b:=⟨h.1,λi x n e=>h.2 i x (λm=>n (k i m)) e⟩
theorem Fx.set (s:St) (j:Nat) (b:Option bQ):Fx [j] s (s.set j b):=⟨Do,Fd⟩
def mG (T:al) (a:ai):Prop:=∀b o,a=some (b,o)->b∉T
theorem Sl.fx {a:ai} (h:Sl s a cs) (k:Fx T s s') (n:mG T a):Sl s' a cs:=by
 cases a with
 |none=>exact h
 |some p=>
  have⟨i,o⟩:=p;have⟨f,all,h1,h2⟩:=h;exact⟨f,all,k.2 i _ (n i o rfl) h1,h2⟩
theorem Sl.lt (h:Sl s (some (i,o)) cs):i<s.length:=by
 have⟨f,all,h1,_⟩:=h;grind
theorem mG.new {a:ai} (h:mG T a) (k:Sl s a cs) (hT: ∀x∈T',x∈T\/s.length<=x):mG T' a:=by
 intro b o e hm;subst e;rcases hT b hm with h1|h1
 .exact h b o rfl h1
 .have:=Sl.lt k;omega
def Zu (W:al):ah:=W.map λ(w:Nat)=> .w w
theorem Uo (W:al):(Zu W).length=W.length:=by simp[Zu]
structure gP (s:St) (f:Bool) (i j n:Nat) (W:List Nat):Prop where
 hd:s[i]? =some (some ⟨f,[.i n,.slice 1 (some (j,0)) W.length]⟩)
 wd:s[j]? =some (some ⟨f,Zu W⟩)
 len:W.length=(n+63)/64
 lt: ∀w∈W,w<18446744073709551616
 le:n<=3072
theorem gP.fx (h:gP s f i j n W) (k:Fx T s s') (hi:i∉T) (hj:j∉T):gP s' f i j n W:=
 ⟨k.2 i _ hi h.hd,k.2 j _ hj h.wd,h.len,h.lt,h.le⟩
theorem gP.pre (h:gP s f i j n W) (k:aB s s'):gP s' f i j n W:=
 ⟨k.get h.hd,k.get h.wd,h.len,h.lt,h.le⟩
def fe (n:Nat) (a:Int):Bool:=decide (0<=a)&&decide (a<n)
def cD (W:al) (a:Nat):Bool:=eN (W.getD (a/64) 0) (a%64)
def bA (n:Nat) (W:al) (a:Int):al:=bif fe n a then W.set (a.toNat/64) (W.getD (a.toNat/64) 0|||2^(a.toNat%64))else W
theorem np (n:Nat) (W:al) (a:Int):(bA n W a).length=W.length:=by
 grind[bA]
theorem Gt {a:Int} (h: ∀w∈W,w<18446744073709551616): ∀w∈bA n W a,w<18446744073709551616:=by
 unfold bA;cases fe n a
 .exact h
 .intro w hw;rw[ae]at hw;rcases List.mem_or_eq_of_mem_set hw with h1|h1
  .exact h w h1
  .rw[h1]
   refine Nat.or_lt_two_pow (n:=64) ?_ (Ml EQ AC);rw[cz];cases e:W[a.toNat/64]?
   .decide
   .rename_i v;exact h v (qc e)
theorem oz {a:Int} {b:Nat} (hl:W.length=(n+63)/64):cD (bA n W a) b=(cD W b||(fe n a&&decide (b=a.toNat))):=by
 unfold bA;cases hm:fe n a
 .simp[cD]
 .rw[ae,dt];unfold fe at hm;rw[aS,bq,bq]at hm;unfold cD;have hk:a.toNat/64<W.length:=AC
  by_cases hq:b/64=a.toNat/64
  .rw[hq,cz,ke hk]
   show eN (W.getD (a.toNat/64) 0|||2^(a.toNat%64)) (b%64)=_;have key: ∀w:Nat,eN (w|||2^(a.toNat%64)) (b%64)=(eN w (b%64)||decide (b=a.toNat)):=by
    intro w;unfold eN;rw[<-Nat.testBit_eq_decide_div_mod_eq,<-Nat.testBit_eq_decide_div_mod_eq,Nat.testBit_or,Nat.testBit_two_pow];grind
   rw[key,cz]
  grind
theorem ZnF (n:Nat) (a:Int) (st:St) (hs:gP st f i j m W):
  run Bd (n+1) 209 [.ptr (some (i,0)),.i a] st=some (.val [.bool (fe m a)],st):=by
 rw[Ze,h.agn];unfold RR qU az Zm Lb fe
 try dsimp only
 rw[fw,au,ao,Za,bh];by_cases h0:a>=0
 .rw[aQ h0,ae,Zn hs.hd rfl]
  rfl
 .rw[bP h0,af]
  rfl
theorem W7 {a:Int} (h:0<=a):a.tdiv 64=((a.toNat/64:Nat):Int):=by
 grind
theorem Zyj {a:Int} (h:0<=a):a.tmod 64=((a.toNat%64:Nat):Int):=by
 grind
theorem Zz7 (hw:w<18446744073709551616) (hj:j<64):(bits .and .u64 ((w:Int).fdiv (2^(min j 64))) 1==1)=eN w j:=by
 rw[pA AC,show((2:Int)^j)=((2^j:Nat):Int) by push_cast;rfl,Ea];have h1:w/2^j<18446744073709551616:=H5 (FH _ _) hw;rw[show(1:Int)=((1:Nat):Int)from rfl,acd h1 EQ,Nat.and_one_is_mod];grind[eN]
theorem ZnJ (n:Nat) (a:Int) (st:St) (hs:gP st f i j m W):
  run Bd (n+2) 184 [.ptr (some (i,0)),.i a] st=some (.val [.bool (fe m a&&cD W a.toNat)],st):=by
 rw[Ze,h.af4];unfold RZ qU bF az iT Lb;simp only[fw,au,ao,Za,bh];rw[Zk (ZnF n a st hs),ar,ao];cases hm:fe m a
 .rfl
 .have rC:=hm;unfold fe at rC;rw[aS,bq,bq]at rC;have hle:=hs.le;have hlen:=hs.len;have hk:a.toNat/64<W.length:=AC
  rw[ae,Zn hs.hd rfl,kP,bh,W7 rC.1,Zyj rC.1,Zb,Zc (Zi hk),bn,bn,Zn (d:= .w (W[a.toNat/64]'hk:Nat)) hs.wd (by rw[cR,fE];simp[Zu,hk]),bg];have av:=hs.lt _ (jj hk);rw[Zc (aQ AC),Zz7 av AC,dt];unfold cD;rw[cz,cc hk];rfl
theorem sa (h:st[j]? =some (some ⟨false,cs⟩)) (hk:k<cs.length) (K:M Y):dE j k [d] K st=K (st.set j (some ⟨false,cs.set k d⟩)):=by
 unfold dE St.iB;rw[h];simp only[iS,gO (AC:k+1<=cs.length),ae,B6 d cs k hk]
theorem gP.add (hs:gP st false i j m W) (oI:i≠j) (W':al) (hl:W'.length=W.length) (av: ∀w∈W',w<18446744073709551616):gP (st.set j (some ⟨false,Zu W'⟩)) false i j m W':=by
 have hj:j<st.length:=(eE.1 hs.wd).1;refine⟨?_,?_,by rw[hl];exact hs.len,av,hs.le⟩
 .rw[ig AC,hl];exact hs.hd
 grind
theorem Iu (n:Nat) (l:ak) (p:ai) (st:St) (hs:gP st false i j m W) (oI:i≠j) (hl:Sl st p (ints l)) (hp:mG [j] p) (fV:l.length<1000000:=by omega) (hn:l.length+3<=n:=by omega):
  run Bd n 206 [.ptr (some (i,0)),.slice 1 p l.length] st=some (.val [],st.set j (some ⟨false,Zu (l.foldl (bA m) W)⟩)):=by
 obtain⟨n,rfl⟩: ∃k,n=k+2:=⟨n-2,AC⟩;rw[Ze,h.agl];unfold Sf ck Q_ dj Zo bF iT Li lX;simp only[fw,aZ,ao,Za];refine ok_eq ?_;have e0:st=st.set j (some ⟨false,Zu W⟩):=by
  refine th λk=>?_
  by_cases e:j=k
  .grind[hs.wd]
  grind
 refine Zj _ (λq y s=>∃k:Nat,y=[.i k]/\k<=l.length/\l.length-k<=q/\s=st.set j (some ⟨false,Zu ((l.take k).foldl (bA m) W)⟩)/\gP s false i j m ((l.take k).foldl (bA m) W)) ?_ l.length (n+1) _ _ Fd AC;rintro q _ s ⟨k,rfl,hk,hq,cq,nD⟩ rec aN;rw[au,ao];by_cases av:k<l.length
 .have EH:Sl s p (ints l):=by rw[cq];exact Sl.fx hl (Fx.set st j _) hp
  obtain⟨i1,o1,rfl⟩:=EH.cS (by simp[ints];omega);rw[aR,bh,Zc (Zi av),bn,EH.dX (ZJ av),bg,Zk (ZnF n l[k] s nD),ar,ao];have hw:aq ((k:Int)+1)=((k+1:Nat):Int):=Zb;have hY:(l.take (k+1)).foldl (bA m) W=bA m ((l.take k).foldl (bA m) W) l[k]:=by
   rw[oq av,wZ];rfl
  generalize hV:(l.take k).foldl (bA m) W=V at cq nD hY;cases hm:fe m l[k]
  .rw[af,hw];have CI:bA m V l[k]=V:=by unfold bA;rw[hm];rfl
   exact aN (l.length-(k+1)) _ _ AC Fd
  .have rC:=hm;unfold fe at rC;rw[aS,bq,bq]at rC;have hle:=hs.le;have hlen:=nD.len;have Bc:l[k].toNat/64<V.length:=AC
   rw[ae,bh,Zn nD.hd rfl];simp only[kP,bh];rw[W7 rC.1,Zyj rC.1,Zb,Zc (Zi Bc),bn,bn,Zn (d:= .w (V[l[k].toNat/64]'Bc:Nat)) nD.wd (by rw[cR,fE];simp[Zu,Bc]),bg];have av:=nD.lt _ (jj Bc);have bd:2^(l[k].toNat%64)<18446744073709551616:=Ml (a:=2) (n:=64) EQ AC;rw[Zc (aQ AC),Zc (Zi Bc),pA AC,Int.one_mul,show((2:Int)^(l[k].toNat%64))=((2^(l[k].toNat%64):Nat):Int) by push_cast;rfl,AD bd,aej av bd,sa nD.wd (by rw[Uo,cR,fE];exact Bc),hw,cR];have CI:bA m V l[k]=V.set (l[k].toNat/64) (V[l[k].toNat/64]'Bc|||2^(l[k].toNat%64)):=by
    unfold bA;rw[hm,ae,cz,cc Bc];rfl
   have CK:(Zu V).set (l[k].toNat/64+0) (.w ((V[l[k].toNat/64]'Bc|||2^(l[k].toNat%64):Nat):Int))=Zu (bA m V l[k]):=by
    rw[CI,fE];unfold Zu;rw[List.map_set]
   rw[CK];refine aN (l.length-(k+1)) _ _ AC ⟨k+1,rfl,AC,aJ _,?_,?_⟩
   .rw[hY,cq,List.set_set]
   .rw[hY];exact nD.add oI _ (np _ _ _) (Gt nD.lt)
 .rw[aU]
  rw[Zd,cq,dG AC];exact .mk rfl
def gD (n:Nat) (l:ak):al:=l.foldl (bA n) (List.replicate ((n+63)/64) 0)
theorem ZG (n:Nat): ∀(l:ak) (W:al),(l.foldl (bA n) W).length=W.length/\((∀w∈W,w<18446744073709551616)->∀w∈l.foldl (bA n) W,w<18446744073709551616)
 |[],_=>⟨rfl,id⟩
 |a::l,W=>⟨by rw[zZ,(ZG n l _).1,np],λh=>(ZG n l _).2 (Gt h)⟩
theorem U7 (n m:Nat) (l:ak) (p:ai) (st:St) (hm:m<=3072) (hl:Sl st p (ints l)) (fV:l.length<1000000) (hn:l.length+4<=n):
  ∃s',run Bd n 177 [.i m,.slice 1 p l.length] st=some (.val [.ptr (some (st.length+1,0))],s')/\aB st s'/\s'.length=st.length+2/\gP s' false (st.length+1) st.length m (gD m l):=by
 obtain _|n:=n;omega;rw[Ze,h.acC];unfold Vz ck C_ lX Lp
 try dsimp only
 rw[au,aZ,ao];have h0:(if (m:Int)<0 then(0:Int)else m)=m:=aY AC;have h1:(if (3072:Int)<(m:Int)then(3072:Int)else m)=m:=aY AC;have h2:aq ((aq ((aq ((m:Int)+64))-1)).tdiv 64)=(((m+63)/64:Nat):Int):=by
  rw[Zb (x:=(m:Int)+64),show((m:Int)+64-1)=((m+63:Nat):Int) by omega,Zb (x:=((m+63:Nat):Int)),show(((m+63:Nat):Int).tdiv 64)=(((m+63)/64:Nat):Int)from rfl];exact Zb
 rw[h0,h1,h2,bn,Zc (by rw[aS,aS,bq,bq,bq];omega),ZD,ZD];have hw:iO ((m+63)/64) [DV.int .u64 0]=Zu (List.replicate ((m+63)/64) 0):=by rw[D4];simp[Zu]
 rw[hw];have Pu:(st++[some (⟨false,Zu (List.replicate ((m+63)/64) 0)⟩:bQ)]).length=st.length+1:=Do
 rw[Pu];have hp:aB st (st++[some (⟨false,Zu (List.replicate ((m+63)/64) 0)⟩:bQ)]++[some (⟨false,[.i m,.slice 1 (some (st.length,0)) ((m+63)/64)]⟩:bQ)]):=(aB.new _ _).trans (.new _ _);have nD:gP (st++[some (⟨false,Zu (List.replicate ((m+63)/64) 0)⟩:bQ)]++[some (⟨false,[.i m,.slice 1 (some (st.length,0)) ((m+63)/64)]⟩:bQ)]) false (st.length+1) st.length m (List.replicate ((m+63)/64) 0):=by
  refine⟨?_,?_,Do,Do,hm⟩
  .rw[kO Do];simp
  simp
 have Hs:(st++[some (⟨false,Zu (List.replicate ((m+63)/64) 0)⟩:bQ)]++[some (⟨false,[.i m,.slice 1 (some (st.length,0)) ((m+63)/64)]⟩:bQ)]).length=st.length+2:=Do
 generalize st++[some (⟨false,Zu (List.replicate ((m+63)/64) 0)⟩:bQ)]++[some (⟨false,[.i m,.slice 1 (some (st.length,0)) ((m+63)/64)]⟩:bQ)]=s2 at hp nD Hs;have EM:mG [st.length] p:=by
  intro b o e hb;subst e;have:=Sl.lt hl;rw[cH.1 hb]at this;omega
 rw[Zk (Iu n l p s2 nD AC (hl.mono hp) EM fV),ao,Zd];exact⟨_,rfl,tH hp (aJ _) _,by simp[Hs],nD.add AC _ (ZG m l _).1 ((ZG m l _).2 nD.lt)⟩
