/- Numbers as octets, the least one first. -/
import Derived.Test.YtegglibipjjblaaGreatDoorGvZLib
import Derived.Test.YtegglibipjjblaaGreatDoorGvBMk
import Derived.Test.YtegglibipjjblaaGreatDoorGvZPg
import Derived.Test.YtegglibipjjblaaGreatDoorGvZPf
set_option linter.all false
namespace Go.Gv.F
open Go.Gv
def eZ:aj->Nat
 |[]=>0
 |c::l=>c.toNat+256*eZ l
def dG:Nat->Nat->aj
 |_,0=>[]
 |v,n+1=>UInt8.ofNat v::dG (v/256) n
theorem Zy: ∀(v n:Nat),(dG v n).length=n
 |_,0=>rfl
 |v,n+1=>by rw[dG,cO,Zy]
theorem Ef: ∀(l:aj),eZ l<256^l.length
 |[]=>by decide
 |c::l=>by
  have h1:=c.toNat_lt;have h2:=Ef l;rw[eZ,cO,zl];omega
theorem Zrl: ∀(v n:Nat),eZ (dG v n)=v%256^n
 |v,0=>by simp[dG,eZ,Nat.mod_one]
 |v,n+1=>by
  rw[dG,eZ,Zrl,zl,Bn (256^n),Nat.mod_mul];have:(UInt8.ofNat v).toNat=v%256:=rfl;rw[this]
theorem RN: ∀(l:aj),dG (eZ l) l.length=l
 |[]=>rfl
 |c::l=>by
  have h1:=c.toNat_lt;rw[eZ,cO,dG,show(c.toNat+256*eZ l)/256=eZ l by omega,RN l];simp
theorem Ztc: ∀(l m:aj),eZ (l++m)=eZ l+256^l.length*eZ m
 |[],m=>by simp[eZ]
 |c::l,m=>by
  rw[mU,eZ,eZ,Ztc l m,cO,zl,Nat.mul_add,<-Nat.mul_assoc,Bn 256 (256^l.length)];omega
theorem Zq5: ∀(v m n:Nat),dG v (m+n)=dG v m++dG (v/256^m) n
 |v,0,n=>by simp[dG]
 |v,m+1,n=>by
  rw[show m+1+n=(m+n)+1 by omega,dG,dG,Zq5 (v/256) m n,mU,zl,Bn (256^m),Nat.div_div_eq_div_mul]
def nD (x:Nat):Nat:=if x%2=1 then(x/2)^^^2197175160 else x/2
def ZK:Nat->Nat->Nat
 |0,x=>x
 |n+1,x=>ZK n (nD x)
def rO (x:Nat) (c:UInt8):Nat:=ZK 8 (x^^^c.toNat)
def va (l:aj):Nat:=4294967295-l.foldl rO 4294967295
theorem Zxw (a b:Nat):(a^^^b)%2=(a+b)%2:=by
 have h:=Nat.testBit_xor a b 0;grind
theorem Zwt (a b:Nat):(a^^^b)/2=(a/2)^^^(b/2):=by
 have:=Nat.shiftRight_xor_distrib (a:=a) (b:=b) (i:=1);grind[Nat.shiftRight_succ]
theorem Zuy (a b:Nat):nD (a^^^b)=nD a^^^nD b:=by
 unfold nD;rw[Zxw,Zwt];rcases Nat.mod_two_eq_zero_or_one a with ha|ha<;>rcases Nat.mod_two_eq_zero_or_one b with hb|hb
 .rw[ba (by omega),ba (by omega),ba (by omega)]
 .rw[bG (by omega),ba (by omega),bG (by omega),Nat.xor_assoc]
 .rw[bG (by omega),bG (by omega),ba (by omega),Nat.xor_assoc,Nat.xor_comm (b/2),<-Nat.xor_assoc]
 grind
theorem ZnV: ∀(n a b:Nat),ZK n (a^^^b)=ZK n a^^^ZK n b
 |0,_,_=>rfl
 |n+1,a,b=>by rw[ZK,ZK,ZK,Zuy,ZnV n]
theorem Zoc: ∀(m n x:Nat),ZK (m+n) x=ZK n (ZK m x)
 |0,n,x=>by rw[eW];rfl
 |m+1,n,x=>by rw[show m+1+n=(m+n)+1 by omega,ZK,ZK,Zoc m n]
theorem Kr (z:Nat):nD (2*z)=z:=by simp[nD]
theorem ZwS (x:Nat):x=(16*(x/16))^^^(x%16):=by
 refine FP λi=>?_
 rw[Nat.testBit_xor];have e1:(16*(x/16)).testBit i=(decide (4<=i)&&x.testBit i):=by
  rw[show 16*(x/16)=2^4*(x/2^4)from rfl,Nat.testBit_two_pow_mul];by_cases h:4<=i
  .rw[aw h,Nat.testBit_div_two_pow,show i-4+4=i by omega]
  grind
 have e2:(x%16).testBit i=(decide (i<4)&&x.testBit i):=by
  rw[show x%16=x%2^4 from rfl,Nat.testBit_mod_two_pow]
 rw[e1,e2];by_cases h:4<=i
 .rw[aw h,aD (by omega)];simp
 grind
theorem nib (x:Nat):ZK 4 x=(x/16)^^^ZK 4 (x%16):=by
 have h:ZK 4 (16*(x/16))=x/16:=by
  generalize x/16=y;show nD (nD (nD (nD (16*y))))=y;rw[show 16*y=2*(2*(2*(2*y))) by omega,Kr,Kr,Kr,Kr]
 have h2:=ZnV 4 (16*(x/16)) (x%16);rw[<-ZwS,h]at h2;exact h2
theorem ZqN {x:Nat} (h:x<4294967296):nD x<4294967296:=by
 unfold nD;split
 .exact FU (n:=32) (by omega) (by omega)
 .omega
theorem GG: ∀(n:Nat) {x:Nat},x<4294967296->ZK n x<4294967296
 |0,_,h=>h
 |n+1,_,h=>GG n (ZqN h)
theorem Zxu {x:Nat} (h:x<4294967296) (c:UInt8):rO x c<4294967296:=
 GG 8 (FU (n:=32) h (by have:=c.toNat_lt;omega))
theorem GY: ∀(l:aj) {x:Nat},x<4294967296->l.foldl rO x<4294967296
 |[],_,h=>h
 |c::l,_,h=>GY l (Zxu h c)
theorem SJ (l:aj):va l<4294967296:=by unfold va;omega
theorem Zv0 (x:Nat) (c:UInt8):rO x c=((((x^^^c.toNat)/16)^^^ZK 4 ((x^^^c.toNat)%16))/16)^^^ZK 4 ((((x^^^c.toNat)/16)^^^ZK 4 ((x^^^c.toNat)%16))%16):=by
 unfold rO;generalize x^^^c.toNat=y;rw[show ZK 8 y=ZK 4 (ZK 4 y)from Zoc 4 4 y,nib y];exact nib _
theorem Zxk {x:Nat} (h:x<4294967296):x^^^4294967295=4294967295-x:=by
 refine FP λi=>?_
 rw[show(4294967295:Nat)=2^32-1 from rfl,Nat.testBit_xor,Nat.testBit_two_pow_sub_one,show 2^32-1-x=2^32-(x+1) by omega,Nat.testBit_two_pow_sub_succ (by omega)];by_cases hi:i<32
 .rw[aw hi];simp
 .rw[aD hi]
  have:x.testBit i=false:=FT (lj (show x<2^32 by omega) (mX (by decide) (by omega)));simp[this]
variable {β:Type}
theorem yd {x:Nat} (h:x<18446744073709551616:=by omega):IntKind.wrap .u64 (x:Int)=x:=IntWalk.u64_in _ (by omega)
theorem zX {x:Nat} (h:x<4294967296:=by omega):IntKind.wrap .u32 (x:Int)=x:=by
 show(x:Int)%_=x;have:((2:Int)^32)=4294967296:=by decide
 show(x:Int)%(2^32)=x;omega
theorem Zw8 (x:Nat):IntKind.wrap .u64 (x:Int)=((x%18446744073709551616:Nat):Int):=by
 rfl
theorem Hl {x:Nat} (h:x<18446744073709551616):(BitVec.ofInt 64 (x:Int)).toNat=x:=by
 rw[BitVec.toNat_ofInt];omega
theorem Lz {x:Nat} (h:x<4294967296):(BitVec.ofInt 32 (x:Int)).toNat=x:=by
 rw[BitVec.toNat_ofInt];omega
variable {f:Bool} {d:DV} {i j k m n o r t w y:Nat} {s s' st:St} {A D cs ds:ah} {l:aj} {T T' W:al}
theorem YF {x:Nat} (hx:x<18446744073709551616) (hy:y<18446744073709551616):bits .or .u64 (x:Int) (y:Int)=((x|||y:Nat):Int):=by
 show IntKind.wrap .u64 ((BitVec.ofInt 64 (x:Int)|||BitVec.ofInt 64 (y:Int)).toNat:Int)=_;rw[BitVec.toNat_or,Hl hx,Hl hy];exact yd (Nat.or_lt_two_pow (n:=64) hx hy)
theorem WW {x:Nat} (hx:x<18446744073709551616) (hy:y<18446744073709551616):bits .and .u64 (x:Int) (y:Int)=((x&&& y:Nat):Int):=by
 show IntKind.wrap .u64 ((BitVec.ofInt 64 (x:Int)&&& BitVec.ofInt 64 (y:Int)).toNat:Int)=_;rw[BitVec.toNat_and,Hl hx,Hl hy];exact yd (FQ Nat.and_le_left hx)
theorem Da {x:Nat} (hx:x<4294967296) (hy:y<4294967296:=by omega):bits .xor .u32 (x:Int) (y:Int)=((x^^^y:Nat):Int):=by
 show IntKind.wrap .u32 ((BitVec.ofInt 32 (x:Int)^^^BitVec.ofInt 32 (y:Int)).toNat:Int)=_;rw[BitVec.toNat_xor,Lz hx,Lz hy];exact zX (FU (n:=32) hx hy)
theorem WV {x:Nat} (hx:x<4294967296) (hy:y<4294967296):bits .and .u32 (x:Int) (y:Int)=((x&&& y:Nat):Int):=by
 show IntKind.wrap .u32 ((BitVec.ofInt 32 (x:Int)&&& BitVec.ofInt 32 (y:Int)).toNat:Int)=_;rw[BitVec.toNat_and,Lz hx,Lz hy];exact zX (FQ Nat.and_le_left hx)
theorem Ea (x m:Nat):Int.fdiv (x:Int) (m:Int)=((x/m:Nat):Int):=by
 grind
def bZ (l:aj):ah:=l.map λb=> .int .u8 b.toNat
theorem ly (l:aj):ZW l=bZ l:=rfl
theorem Zt (l:aj):(bZ l).length=l.length:=by simp[bZ]
theorem Sa {b:UInt8} (h:l[j]? =some b):(bZ l)[j]? =some (.int .u8 b.toNat):=by grind[bZ]
theorem ZuW (l:aj) (k:Nat):(bZ l).drop k=bZ (l.drop k):=by simp[bZ]
theorem ZuT (l:aj) (k:Nat):(bZ l).take k=bZ (l.take k):=by simp[bZ]
theorem RV (l m:aj):bZ (l++m)=bZ l++bZ m:=by simp[bZ]
def dE (s:St) (a:ai) (l:aj):Prop:=Sl s a (bZ l)
theorem dE.mono {s s':St} (k:aC s s') {a:ai} {l:aj} (h:dE s a l):dE s' a l:=Sl.mono k h
theorem dE.get {s:St} {i o:Nat} {l:aj} (h:dE s (some (i,o)) l) {j:Nat} {b:UInt8} (hb:l[j]? =some b) (K:DV->M β):bF i (j+o) K s=K (.int .u8 b.toNat) s:=Sl.get h (Sa hb) K
theorem dE.dF (h:dE s (some (i,o)) l) {b:UInt8} (hb:l[j]? =some b) (K:DV->M β):bF i (j*1+o) K s=K (.int .u8 b.toNat) s:=by rw[cT];exact h.get hb K
theorem dE.cB {s:St} {a:ai} {l:aj} (h:dE s a l) (hn:0<l.length): ∃i o,a=some (i,o):=Sl.cB h (by rw[Zt];exact hn)
theorem Sl.sub (h:Sl s (some (i,o)) cs) (hk:k<=cs.length):Sl s (some (i,k+o)) (cs.drop k):=by
 obtain⟨f,all,h1,h2,h3⟩:=h;refine⟨f,all,h1,by rw[fb];omega,?_⟩;rw[fb,show k+o=o+k by omega,<-kd,<-Dd,h3]
theorem Sl.dj {s:St} {a:ai} {cs:ah} (h:Sl s a cs) {k:Nat} (hk:k<=cs.length):Sl s (dj true a k) (cs.drop k):=by
 cases a with
 |none=>rw[show cs=[]from h];simp[Go.Gv.dj,Sl]
 |some p=>exact Sl.sub h hk
theorem Sl.lK {a:ai} (h:Sl s a cs) (k:Nat):Sl s a (cs.take k):=by
 cases a with
 |none=>rw[show cs=[]from h];simp[Sl]
 |some p=>
  obtain⟨f,all,h1,h2,h3⟩:=h;refine⟨f,all,h1,by rw[cV];omega,?_⟩;rw[cV,<-Dk,h3]
theorem dE.dj {s:St} {a:ai} {l:aj} (h:dE s a l) {k:Nat} (hk:k<=l.length):dE s (dj true a k) (l.drop k):=by
 unfold dE;rw[<-ZuW];exact Sl.dj h (by rw[Zt];exact hk)
theorem dE.lK {s:St} {a:ai} {l:aj} (h:dE s a l) (k:Nat):dE s a (l.take k):=by
 unfold dE;rw[<-ZuT];exact Sl.lK h k
variable {Bd:Zh} [h:HA Bd]
theorem ZjI (n:Nat) (a:ai) (len at' k:Nat) (st:St) (hl:len<1000000) (hk:k<1000000:=by omega):
  run Bd (n+1) 261 [.slice 1 a len,.int .i64 at',.int .i64 k] st=some (.val [.bool (decide (at'+k<=len))],st):=by
 rw[Ze,h.acp];unfold O2 wE az Lb;simp only[bd,av,au,aq,Za,aw (show(at':Int)>=0 by omega),aw (show(k:Int)>=0 by omega),ae];by_cases h1:k<=len
 .rw[aw (show(k:Int)<=(len:Int) by omega),ae]
  rw[Zc,Zd];by_cases h2:at'+k<=len
  .rw[aw h2,aw (by omega)]
  grind
 .rw[aD (show ¬(k:Int)<=(len:Int) by omega),af]
  rw[Zd,aD (by omega)]
theorem ok_eq {x:Option (Out β×St)} {o:Out β×St} (h:Ok (λp=>p=o) x):x=some o:=by
 obtain⟨_,e,rfl⟩:=h;exact e
theorem Zv1 (l:aj) (c:UInt8):eZ (l++[c])=eZ l+256^l.length*c.toNat:=by
 rw[Ztc];simp[eZ]
theorem Zx2 {x c:Nat} (hx:x<2^k):x|||(c*2^k)=x+c*2^k:=by
 rw[Nat.or_comm,Bn,<-Nat.two_pow_add_eq_or_of_lt hx,tk]
theorem Zvr (k:Nat):256^k=2^(8*k):=by rw[Nat.pow_mul]
theorem zB (n:Nat) (a:ai) (l:aj) (st:St) (ha:dE st a l) (hl:l.length<=8:=by omega) (hn:12<=n:=by omega):
  run Bd n 285 [.slice 1 a l.length] st=some (.val [.int .u64 (eZ l)],st):=by
 obtain⟨n,rfl⟩: ∃m,n=m+1:=⟨n-1,by omega⟩;rw[Ze,h.acG];unfold Qj cm BZ D8 mq mY ZI;simp only[bd,aq];have hif:(if (8:Int)<(l.length:Int)then(8:Int)else(l.length:Int))=(l.length:Int):=ba (by omega);simp only[hif];rw[Zb (by simp),Za];refine ok_eq ?_;refine Zj _ (λq y s=>∃k:Nat,y=[.int .u64 (eZ (l.take k)),.int .i64 k]/\s=st/\k<=l.length/\l.length-k<=q) ?_ l.length n _ _ ⟨0,by simp[eZ],rfl,cE _,by omega⟩ (by omega);rintro q _ s ⟨k,rfl,rfl,hk,hq⟩ rec aQ;simp only[av,aq,br];by_cases ax:k<l.length
 .rw[aw (show(k:Int)<(l.length:Int) by omega),ae]
  obtain⟨i,o,rfl⟩:=ha.cB (by omega);obtain⟨c,hc⟩: ∃c,l[k]? =some c:=by simp_all
  rw[aZ,Zb (Zi ax),ha.dF hc];simp only[aX];rw[Zc,Zb (aw (by omega)),Zc];have LV:=c.toNat_lt;have e1:(8*(k:Int)).toNat=8*k:=by omega
  have hp:c.toNat*2^(8*k)<18446744073709551616:=by
   have h1:c.toNat*2^(8*k)<2^8*2^(8*k):=Nat.mul_lt_mul_of_pos_right (by omega) (Nat.two_pow_pos _);have h2:2^8*2^(8*k)<=2^64:=by rw[<-Nat.pow_add];exact mX (by decide) (by omega)
   omega
  rw[e1,mW (by omega),yd];have e2:((c.toNat:Int)*2^(8*k))=((c.toNat*2^(8*k):Nat):Int):=by push_cast;rfl
  rw[e2,yd hp];have HZ:eZ (l.take k)<2^(8*k):=by
   have:=Ef (l.take k);rwa [cV,mW (by omega),Zvr]at this
  have ad1:eZ (l.take k)<18446744073709551616:=lj HZ (by
   have:2^(8*k)<=2^64:=mX (by decide) (by omega);omega)
  rw[YF ad1 hp,Zx2 HZ];refine aQ (l.length-(k+1)) _ _ (by omega) ⟨k+1,?_,rfl,by omega,aO _⟩;have e3:l.take (k+1)=l.take k++[c]:=by
   rw[List.take_add_one,hc];rfl
  rw[e3,Zv1,cV,mW (by omega),Zvr,Bn];simp
 .rw[aD (show ¬(k:Int)<(l.length:Int) by omega),af]
  rw[Zd,dH (by omega)];exact .mk rfl
def rd (l:aj) (at' k:Nat):Nat:=eZ ((l.drop at').take k)
theorem M7 (l:aj) (at' k:Nat):rd l at' k<256^k:=by
 have:=Ef ((l.drop at').take k);refine lj this (mX (by decide) ?_);rw[cV];omega
def ZG (l:aj):Bool:=l.all (· ==0)
theorem Dx (n:Nat) (a:ai) (l:aj) (at' k:Nat) (st:St) (ha:dE st a l) (hl:l.length<1000000:=by omega) (hk:at'+k<=l.length:=by omega) (hn:k+5<=n:=by omega):
  run Bd n 238 [.slice 1 a l.length,.int .i64 at',.int .i64 k] st=some (.val [.bool (ZG ((l.drop at').take k))],st):=by
 obtain⟨n,rfl⟩: ∃m,n=m+2:=⟨n-2,by omega⟩;rw[Ze,h.ab2];unfold OS wE aY Q_ cH mq ja Lb Li;simp only[bd,av,aq];rw[Zk (ZjI n a l.length at' k st hl)];simp only[au,aq];rw[aw hk,bp,af,Zc];have e1:((at':Int)+(k:Int)).toNat=at'+k:=by omega
 simp only[e1];rw[Zb (by simp;omega),Zb (by simp;omega),Za];simp only[br,cT,show at'+k-at'=k by omega];refine ok_eq ?_;have hb:=ha.dj (k:=at') (by omega);generalize hm:l.drop at'=m at hb;have H4:k<=m.length:=by rw[<-hm,fb];omega
 refine Zj _ (λq y s=>∃j:Nat,y=[.int .i64 j]/\s=st/\j<=k/\k-j<=q/\ZG (m.take j)=true) ?_ k (n+1) _ _ ⟨0,rfl,rfl,cE _,by omega,rfl⟩ (by omega);rintro q _ s ⟨j,rfl,rfl,hj,hq,hz⟩ rec aQ;simp only[av,aq];by_cases ax:j<k
 .rw[aw (show(j:Int)<(k:Int) by omega),ae]
  obtain⟨i,o,hio⟩:=hb.cB (by omega);rw[hio]at hb⊢;obtain⟨c,hc⟩: ∃c,m[j]? =some c:=⟨_,cg (by omega)⟩;rw[aZ,Zb (Zi ax),br,hb.get hc];simp only[aX];by_cases h0:c=0
  .subst h0
   rw[show(!((((0:UInt8).toNat:Nat):Int)==0))=false from rfl,af,Zc];refine aQ (k-(j+1)) _ _ (by omega) ⟨j+1,by simp,rfl,by omega,aO _,?_⟩;have e3:m.take (j+1)=m.take j++[0]:=by rw[List.take_add_one,hc];rfl
   rw[e3];simp[ZG]at hz⊢;exact hz
  .have hc0:c.toNat≠0:=λe=>h0 (FV.1 e)
   have e2:(!((c.toNat:Int)==0))=true:=by
    rw[lL];grind
   rw[e2,ae,Zd];refine .mk ?_;have:ZG (m.take k)=false:=by
    cases e:ZG (m.take k)with
    |false=>rfl
    |true=>
     unfold ZG at e;rw[uF]at e;have:=e c (qJ (i:=j) (by rw[wa,bG ax];exact hc));grind
   rw[this]
 .rw[aD (show ¬(j:Int)<(k:Int) by omega),af]
  simp only[Zd];have:j=k:=by omega
  subst this;rw[hz];exact .mk rfl
theorem Zrn (n:Nat) (a:ai) (l:aj) (at' k:Nat) (st:St) (ha:dE st a l) (hl:l.length<1000000) (h1:1<=k) (h8:k<=8) (hk:at'+k<=l.length) (hn:20<=n):
  run Bd n 312 [.slice 1 a l.length,.int .i64 at',.int .i64 k] st=some (.val [.int .u64 (rd l at' k),.bool true],st):=by
 obtain⟨n,rfl⟩: ∃m,n=m+2:=⟨n-2,by omega⟩;rw[Ze,h.ac2];unfold QK wE az zV aY bE Lb ja;simp only[bd,av,aq,Za,aD (show ¬(k:Int)<1 by omega),aD (show ¬(k:Int)>8 by omega),af,au];rw[Zk (ZjI n a l.length at' k st hl)];simp only[au,aq];rw[aw hk,bp,af,Zc];have e1:((at':Int)+(k:Int)).toNat=at'+k:=by omega
 simp only[e1];rw[Zb (by simp;omega),Zb (by simp;omega)];simp only[br,cT,show at'+k-at'=k by omega];have hb:=(ha.dj (k:=at') (by omega)).lK k;have hlen:((l.drop at').take k).length=k:=by rw[cV,fb];omega
 have hr:=zB (n+1) _ _ st hb;rw[hlen]at hr;rw[Zk hr];rfl
def xJ (x:Nat):ah:=(List.range 16).map λi=> .int .u32 (if i<x then(ZK 4 i:Nat)else 0)
def FB:ah:=xJ 16
theorem ZwD: ∀x,x<16->cq (xJ x) (x*1) [.int .u32 (ZK 4 x:Nat)]=xJ (x+1)
 |0,_=>rfl|1,_=>rfl|2,_=>rfl|3,_=>rfl|4,_=>rfl|5,_=>rfl|6,_=>rfl|7,_=>rfl
 |8,_=>rfl|9,_=>rfl|10,_=>rfl|11,_=>rfl|12,_=>rfl|13,_=>rfl|14,_=>rfl|15,_=>rfl
 |n+16,h=>by omega
theorem ZqB (h:j<16):FB[j]? =some (.int .u32 (ZK 4 j:Nat)):=by
 grind[FB,xJ]
theorem KD (x:Nat):(xJ x).length=16:=by unfold xJ;simp
theorem Zsr (n:Nat) (x:Nat) (hx:x<4294967296) (st:St):run Bd (n+1) 320 [.int .u32 x] st=some (.val [.int .u32 (nD x)],st):=by
 rw[Ze,h.ac9];unfold Q5 kf nD;simp only[av,aq];have ha:bits .and .u32 (x:Int) 1=((x%2:Nat):Int):=by
  have:=WV hx (show 2^1-1<4294967296 by decide);rw[Nat.and_two_pow_sub_one_eq_mod]at this;exact this
 rw[ha,show((2:Int)^1)=((2:Nat):Int)from rfl,Ea];have h2:x/2<4294967296:=by omega
 rcases Nat.mod_two_eq_zero_or_one x with e|e
 .rw[e,show(((0:Nat):Int)==1)=false from rfl,af,ba (by omega),Zd]
 .rw[e,show(((1:Nat):Int)==1)=true from rfl,ae,bG rfl]
  rw[show(2197175160:Int)=((2197175160:Nat):Int)from rfl,Da h2,Zd]
theorem JN: ∀(n x:Nat),ZK (n+1) x=nD (ZK n x)
 |0,_=>rfl
 |n+1,x=>by rw[ZK,JN n,ZK]
theorem ZrY (n:Nat) (hn:30<=n) (st:St):run Bd n 317 [] st=some (.val [.agg FB],st):=by
 obtain⟨n,rfl⟩: ∃m,n=m+2:=⟨n-2,by omega⟩;rw[Ze,h.ac6];unfold PW cy wF wC tO kf oN;simp only[aq,Za];refine ok_eq ?_;refine Zj _ (λq y s=>∃x:Nat,y=[.agg (xJ x),.int .i64 x]/\s=st/\x<=16/\16-x<=q) ?_ 16 (n+1) _ _ ⟨0,rfl,rfl,by omega,by omega⟩ (by omega);rintro q _ s ⟨x,rfl,rfl,hx,hq⟩ rec aQ;simp only[cG,av,aq,bD (KD x)];by_cases ax:x<16
 .rw[aw (show(x:Int)<16 by omega),ae]
  rw[zX];refine Zj _ (λq y s'=>∃j:Nat,y=[.int .u32 (ZK j x),.int .i64 j]/\s'=s/\j<=4/\4-j<=q) ?_ 4 (n+1) _ _ ⟨0,rfl,rfl,by omega,by omega⟩ (by omega);rintro q' _ s' ⟨j,rfl,rfl,hj,yG⟩ dt j4;simp only[av,aq];by_cases Me:j<4
  .rw[aw (show(j:Int)<4 by omega),ae]
   rw[Zk (Zsr n (ZK j x) (GG j (by omega)) s')];simp only[av,aq];rw[Zc];exact j4 (4-(j+1)) _ _ (by omega) ⟨j+1,by rw[JN];simp,rfl,by omega,aO _⟩
  .rw[aD (show ¬(j:Int)<4 by omega),af]
   have:j=4:=by omega
   subst this;rw[Zb (by rw[Zi ax]),br,Zb (by simp;omega),ZwD x ax];simp only[bD (KD (x+1))];rw[Zc];exact aQ (16-(x+1)) _ _ (by omega) (by grind)
 .rw[aD (show ¬(x:Int)<16 by omega),af,Zd]
  have:x=16:=by omega
  subst this;exact .mk rfl
theorem ZnO (n x ti:Nat) (a:ai) (l:aj) (st:St) (ht:Sl st (some (ti,0)) FB) (ha:dE st a l) (hx:x<4294967296) (hl:l.length<1000000) (hn:l.length+3<=n):
  run Bd n 318 [.ptr (some (ti,0)),.int .u32 x,.slice 1 a l.length] st=some (.val [.int .u32 (l.foldl rO x:Nat)],st):=by
 obtain⟨n,rfl⟩: ∃m,n=m+1:=⟨n-1,by omega⟩;rw[Ze,h.ac7];unfold Oz cm wF wC N_ mq kf oN;simp only[fV,av,bd,aq,Za];refine ok_eq ?_;refine Zj _ (λq y s=>∃k:Nat,y=[.int .u32 ((l.take k).foldl rO x:Nat),.int .i64 k]/\s=st/\k<=l.length/\l.length-k<=q) ?_ l.length n _ _ (by grind) (by omega);rintro q _ s ⟨k,rfl,rfl,hk,hq⟩ rec aQ;simp only[av,aq];by_cases ax:k<l.length
 .rw[aw (show(k:Int)<(l.length:Int) by omega),ae]
  obtain⟨i,o,rfl⟩:=ha.cB (by omega);obtain⟨c,hc⟩: ∃c,l[k]? =some c:=⟨_,cg ax⟩;rw[aZ,Zb (Zi ax),br,ha.dF hc];simp only[aX];have LV:=c.toNat_lt;have hy:(l.take k).foldl rO x<4294967296:=GY _ hx;have e3:(l.take (k+1)).foldl rO x=rO ((l.take k).foldl rO x) c:=by
   have:l.take (k+1)=l.take k++[c]:=by rw[List.take_add_one,hc];rfl
   rw[this,Bk];rfl
  generalize (l.take k).foldl rO x=y at hy e3;have hz:y^^^c.toNat<4294967296:=FU (n:=32) hy (by omega);rw[zX,Da hy];rw[Zv0]at e3;generalize y^^^c.toNat=z at hz e3;have WU: ∀z:Nat,z<4294967296->bits .and .u32 (z:Int) 15=((z%16:Nat):Int):=λz hz=>by
   have:=WV hz (show 2^4-1<4294967296 by decide);rw[Nat.and_two_pow_sub_one_eq_mod]at this;exact this
  have f16: ∀z:Nat,Int.fdiv (z:Int) (2^4)=((z/16:Nat):Int):=λz=>Ea z 16
  have m16:z%16<16:=Nat.mod_lt _ (by decide);have Fy:ZK 4 (z%16)<4294967296:=GG 4 (by omega);rw[WU z hz,aZ,Zb (Zi m16),br,ht.dF (ZqB m16)];simp only[aX];rw[f16,Da (by omega) Fy];have hw:z/16^^^ZK 4 (z%16)<4294967296:=FU (n:=32) (by omega) Fy;generalize z/16^^^ZK 4 (z%16)=w at hw e3;have Yt:w%16<16:=Nat.mod_lt _ (by decide);rw[WU w hw,aZ,Zb (Zi Yt),br,ht.dF (ZqB Yt)];simp only[aX];rw[f16,Da (by omega) (GG 4 (by omega)),Zc];exact aQ (l.length-(k+1)) _ _ (by omega) (by grind)
 .rw[aD (show ¬(k:Int)<(l.length:Int) by omega),af,Zd,dH (by omega)]
  exact .mk rfl
theorem ZpJ (hl:ds.length=cs.length) (K:M β):eI s.length 0 ds K (s++[some ⟨false,cs⟩])=K (s++[some ⟨false,ds⟩]):=by
 unfold eI St.hY;rw[mb (aO _),Nat.sub_self];simp only[lh];rw[gr (by omega),ae];have:cq cs 0 ds=ds:=by
  have key: ∀(cs ds:ah),ds.length=cs.length->ov cs ds=ds:=by
   intro cs;induction cs with
   |nil=>intro ds h;cases ds with|nil=>rfl|cons _ _=>simp at h
   |cons c cs ih=>intro ds h;cases ds with|nil=>simp at h|cons d ds=>rw[ov,ih ds (by simpa using h)]
  have e:cq cs 0 ds=ov cs ds:=by cases cs<;>rfl
  rw[e,key cs ds hl]
 rw[this];simp
theorem Zud (n:Nat) (bs a:ai) (l:aj) (st:St) (w9:Sl st bs [.slice 1 a l.length]) (ha:dE st a l) (hl:l.length<1000000) (hn:l.length+40<=n):
  Ok (λo=>∃s',o=(.val [.int .u32 (va l)],s')/\aC st s') (run Bd n 306 [.slice 1 bs 1] st):=by
 obtain⟨n,rfl⟩: ∃m,n=m+1:=⟨n-1,by omega⟩;rw[Ze,h.acW];unfold RE cm wF wC N_ tO kf oN;simp only[bd,aq];rw[Zk (ZrY n (by omega) st)];simp only[cG,aq,bD (KD 16),FB];rw[Zz,ZpJ (by rw[KD];rfl),Za];have hp:=aC.new st (some ⟨false,xJ 16⟩);have ht:Sl (st++[some ⟨false,xJ 16⟩]) (some (st.length,0)) FB:=Lm st _;have Ui:=w9.mono hp;have sP:=ha.mono hp;generalize (st++[some ⟨false,xJ 16⟩])=s1 at hp ht Ui sP;obtain⟨i,o,rfl⟩:=Ui.cB (by simp);obtain⟨m,rfl⟩: ∃m,n=m+2:=⟨n-2,by omega⟩;rw[zO];simp only[av,aq];rw[show decide ((0:Int)<((1:Nat):Int))=true from rfl,ae,aZ,Zb (by rfl),show(0:Int).toNat=0 from rfl,Ui.dF (j:=0) rfl];simp only[lq];have hr:=ZnO (m+2) 4294967295 st.length a l s1 ht sP (by decide) hl (by omega);rw[show(4294967295:Int)=((4294967295:Nat):Int)from rfl,Zk hr];simp only[av,aq];rw[zO];simp only[av,aq];rw[show decide (ar (0+1)<((1:Nat):Int))=false from rfl,af];rw[Da (GY l (by decide)) (by decide),Zxk (GY l (by decide)),Zd];exact .mk ⟨s1,rfl,hp⟩
theorem ZsJ (n x:Nat) (bs a:ai) (l:aj) (st:St) (w9:Sl st bs [.slice 1 a l.length]) (ha:dE st a l) (hl:l.length<1000000) (hn:l.length+41<=n):
  Ok (λo=>∃s',o=(.val [.bool (decide (va l=x))],s')/\aC st s') (run Bd n 286 [.int .u32 x,.slice 1 bs 1] st):=by
 obtain⟨n,rfl⟩: ∃m,n=m+1:=⟨n-1,by omega⟩;rw[Ze,h.acH];unfold Qo cm tO bE Lb;simp only[av,bd,aq];refine Ok.call (Zud n bs a l st w9 ha hl (by omega)) ?_;rintro _ ⟨s',rfl,hp⟩;refine⟨_,s',rfl,?_⟩;simp only[av,aq,Zd];refine .mk ⟨s',?_,hp⟩;congr 3;by_cases e:va l=x
 .rw[aw e,e];simp
 .rw[aD e];exact congrArg _ (by grind)
def wi (s:St) (a:ai) (l:aj):Prop:=Fz s a (bZ l)
theorem wi.yi {a:ai} (h:wi s a l):dE s a l:=h.1
theorem wi.kp {s s':St} {a:ai} {l:aj} (h:wi s a l) (k:Kp s s'):wi s' a l:=Fz.kp h k
def sF (l:aj):Bool:=decide (l.length=64)&&(!(l.getD 4 0==0)&&(ZG ((l.drop 6).take 2)&&decide (va (l.drop 4)=eZ (l.take 4))))
def gf (l:aj):Option (Nat×Nat×aj):=bif sF l then some ((l.getD 4 0).toNat,(l.getD 5 0).toNat,l.drop 8)else none
theorem getD_some {c:UInt8} (h:l[j]? =some c):l.getD j 0=c:=by rw[dZ,h];rfl
theorem afB (c:UInt8):(!((c.toNat:Int)==0))= !(c==0):=by
 by_cases h:c=0
 .subst h;rfl
 .rw[dX.2 h,dX.2]
  intro e;exact h (FV.1 (by simpa using e))
theorem ZoC (n:Nat) (a:ai) (l:aj) (st:St) (ha:dE st a l) (hl:l.length<1000000) (hn:150<=n):
  Ok (λo=>∃s',o=(.val [.bool (sF l)],s')/\aC st s') (run Bd n 259 [.slice 1 a l.length] st):=by
 obtain⟨n,rfl⟩: ∃m,n=m+1:=⟨n-1,by omega⟩;rw[Ze,h.acn];unfold Pl cm az BU aY mq Lb bE ja sF;simp only[bd,aq,Za];by_cases p7:l.length=64
 .rw[show(((l.length:Nat):Int)==64)=true by rw[p7];rfl,ae,aw p7,dx]
  obtain⟨i,o,rfl⟩:=ha.cB (by omega);obtain⟨c,hc⟩: ∃c,l[4]? =some c:=by simp_all
  rw[aZ,Zb (show aP 4 l.length=true from Zi (i:=4)),ha.get hc,getD_some hc];simp only[aX,au,aq];rw[afB];cases hz: !(c==0)with
  |false=>rw[af];simp only[af,Zd,fP];exact .mk ⟨st,rfl,.refl st⟩
  |true=>
   rw[ae,dx];have cA:=Dx n _ l 6 2 st ha hl;rw[show(6:Int)=((6:Nat):Int)from rfl,show(2:Int)=((2:Nat):Int)from rfl,Zk cA];simp only[au,aq];cases ZG ((l.drop 6).take 2)with
   |false=>simp only[af,Zd,fP];exact .mk ⟨st,rfl,.refl st⟩
   |true=>
    rw[ae,dx,Zb (aw (by omega))];have CI:(l.take 4).length=4:=by rw[cV];omega
    have hr:=zB n _ (l.take 4) st (ha.lK 4);rw[CI]at hr;rw[qR hr (.refl st)];simp only[av,aq];rw[Zb (aw (by omega)),Zz];have hp:=aC.new st (some ⟨false,[DV.slice 1 (dj true (some (i,o)) 4) (l.length-4)]⟩);have hs:=Lm st [DV.slice 1 (dj true (some (i,o)) 4) (l.length-4)];generalize (st++[some ⟨false,[DV.slice 1 (dj true (some (i,o)) 4) (l.length-4)]⟩])=s1 at hp hs;have ax:eZ (l.take 4)<4294967296:=by have:=Ef (l.take 4);rw[CI]at this;exact this
    rw[zX ax];have Uk:(l.drop 4).length=l.length-4:=fb;rw[<-Uk]at hs;refine Ok.call (ZsJ n (eZ (l.take 4)) _ _ (l.drop 4) s1 hs ((ha.mono hp).dj (by omega)) (by omega) (by omega)) ?_;rintro _ ⟨s2,rfl,aV⟩;refine⟨_,s2,rfl,?_⟩;simp only[au,aq,Zd];exact .mk ⟨s2,rfl,hp.trans aV⟩
 .rw[show(((l.length:Nat):Int)==64)=false from dX.2 (by omega),af,aD p7]
  simp only[au,aq,af,Zd,fP];exact .mk ⟨st,rfl,.refl st⟩
theorem ZoK (n:Nat) (a:ai) (l:aj) (st:St) (ha:dE st a l) (h0:0<l.length) (hl:l.length<1000000):
  Ok (λo=>∃p s',o=(.val [.slice 1 p l.length],s')/\aC st s'/\wi s' p l) (run Bd (n+1) 260 [.slice 1 a l.length] st):=by
 rw[Ze,h.aco];unfold O8 cm bE;simp only[bd,aq];rw[kl];obtain⟨i,o,rfl⟩:=ha.cB h0;rw[show((some (i,o):ai).isNone)=false from rfl,af,Zz];have hp:=aC.new st (some ⟨false,[]⟩);have ho:bn st (st++[some ⟨false,[]⟩]) (some (st.length,0)) []:=⟨hp,(by simp)⟩;have sP:=ha.mono hp;generalize (st++[some ⟨false,[]⟩])=s1 at hp ho sP;rw[cT,<-Zt l,jf sP];obtain⟨p,s2,df,he⟩:=ho.app (β:=ah) (sz:=1) (n:=0) (m:=l.length) (lim:=70368744177664) (ds:=bZ l) (by omega) (by simp) h0 (by omega);rw[Zt,he,Zu];rw[iL]at df;exact .mk ⟨p,_,by rw[eW],Zv df.1,df.fz⟩
theorem DB (n:Nat) (a:ai) (l:aj) (st:St) (ha:dE st a l) (hl:l.length<1000000) (hn:152<=n:=by omega):
  Ok (λo=>∃s',aC st s'/\match gf l with
   |none=>o=(.val [.int .i64 0,.int .i64 0,.slice 0 none 0,.bool false],s')
   |some (k,t,b)=>∃p,o=(.val [.int .i64 (k:Nat),.int .i64 (t:Nat),.slice 1 p 56,.bool true],s')/\wi s' p b/\b.length=56/\k<256/\t<256) (run Bd n 237 [.slice 1 a l.length] st):=by
 obtain⟨n,rfl⟩: ∃m,n=m+2:=⟨n-2,by omega⟩;rw[Ze,h.ab1];unfold PL cm aY mq bE gf;simp only[bd,aq];rw[kl];refine Ok.call (ZoC (n+1) a l st ha hl (by omega)) ?_;rintro _ ⟨s1,rfl,hp⟩;refine⟨_,s1,rfl,?_⟩;simp only[au,aq];cases hr:sF l with
 |false=>
  rw[bm,ae,Zu];simp only[af];exact .mk ⟨_,Zv hp,rfl⟩
 |true=>
  have p7:l.length=64:=by
   grind[sF]
  rw[bp,af];simp only[ae];have sP:=ha.mono hp;obtain⟨i,o,rfl⟩:=sP.cB (by omega);obtain⟨c4,hc4⟩: ∃c,l[4]? =some c:=by simp_all
  obtain⟨c5,hc5⟩: ∃c,l[5]? =some c:=by grind
  rw[aZ,Zb (show aP 4 l.length=true from Zi (i:=4)),sP.get hc4];simp only[aX];rw[aZ,Zb (show aP 5 l.length=true from Zi (i:=5)),sP.get hc5];simp only[aX];rw[Zb (aw (by omega))];have hb:=sP.dj (k:=8) (by omega);have hd:(l.drop 8).length=l.length-8:=fb;have cL:=ZoK n _ (l.drop 8) s1 hb (by omega) (by omega);rw[hd]at cL;obtain⟨_,e,p,s2,rfl,aV,hf⟩:=cL;rw[qR e aV];simp only[bd,aq,Zu];have h4:=c4.toNat_lt;have h5:=c5.toNat_lt;rw[getD_some hc4,getD_some hc5,Zc,Zc];refine .mk ⟨_,Zv (hp.trans aV),p,?_,hf.kp (ZxR _ _),by omega,h4,h5⟩;rw[p7]
structure jj where
 bI:bc
 kids:ak
def nA (x:jj) (z:Nat) (p:ai):ah:=eN x.bI++[.slice z p x.kids.length]
def cR (l:aj) (at' k:Nat):Int:=ar ((rd l at' k:Nat):Int)
def CT (k:Int):Bool:=decide (k<2)||decide (k>=3072)
def nS (x:jj):Bool:= !(decide (x.bI.slot<0)||(decide (x.bI.slot>=1792)||(decide (x.bI.gen<1)||(decide (x.bI.gen>4294967295)||decide ((x.kids.length:Int)>12)))))&& !x.kids.any CT
def nO (b:aj) (t:Nat):ak:=(List.range t).map λj=>cR b (24+2*j) 2
theorem BH (b:aj) (t:Nat):(nO b t).length=t:=by unfold nO;simp
theorem Zmr (b:aj) (t:Nat):nO b (t+1)=nO b t++[cR b (24+2*t) 2]:=by simp[nO,uJ,fB]
def lx (b:aj) (t:Nat):jj:=⟨⟨cR b 16 4,cR b 20 4,cR b 0 8,cR b 8 8⟩,nO b t⟩
def iD (l:aj):Option jj:=match gf l with
 |none=>none
 |some (k,t,b)=>bif decide (k=1)&&decide (t<=12)then(bif nS (lx b t)&&ZG (b.drop (24+2*t))then some (lx b t)else none)else none
theorem Gd (n:Nat) (a:ai) (l:aj) (at' k:Nat) (I K:Int) (hI:I=at') (hK:K=k) (st:St) (ha:dE st a l) (hl:l.length<1000000:=by omega) (h1:1<=k:=by omega) (h8:k<=8:=by omega) (hk:at'+k<=l.length:=by omega) (hn:21<=n:=by omega):
  run Bd n 295 [.slice 1 a l.length,.int .i64 I,.int .i64 K] st=some (.val [.int .i64 (cR l at' k)],st):=by
 subst hI hK;obtain⟨n,rfl⟩: ∃m,n=m+1:=⟨n-1,by omega⟩;rw[Ze,h.acQ];unfold Pt wE iu ja Li;simp only[bd,av,aq];rw[Zk (Zrn n a l at' k st ha hl h1 h8 hk (by omega))];rfl
theorem Zni (n:Nat) (k:Int) (st:St):run Bd (n+1) 313 [.int .i64 k] st=some (.val [.bool (CT k)],st):=by
 rw[Ze,h.ac3];unfold OA cy az Lb CT;simp only[av,aq,Za,au];cases decide (k<2)<;>simp only[ae,af,Zd,Bool.true_or,zd]
theorem Zp3 (n:Nat) (x:jj) (p:ai) (st:St) (hs:Sl st p (ints x.kids)) (hl:x.kids.length<1000000) (hn:x.kids.length+20<=n):
  run Bd n 296 [.agg (nA x 1 p)] st=some (.val [.bool (nS x)],st):=by
 obtain⟨n,rfl⟩: ∃m,n=m+1:=⟨n-1,by omega⟩;rw[Ze,h.acR];have LW:=Zo2 n 1 313 [] [] x.kids p st CT (.inl rfl) hs (by omega) hl (λv _=>by
  obtain⟨m,hm⟩: ∃m,n-2=m+1:=⟨n-3,by omega⟩;rw[hm];exact Zni m v st)
 unfold Qg DK az aY Lb nA eN nS;simp only[mU,iL,cG,av,bd,aq,Za];cases decide (x.bI.slot<0)with
 |true=>rfl
 |false=>
 cases decide (x.bI.slot>=1792)with
 |true=>rfl
 |false=>
 cases decide (x.bI.gen<1)with
 |true=>rfl
 |false=>
 cases decide (x.bI.gen>4294967295)with
 |true=>rfl
 |false=>
 cases decide ((x.kids.length:Int)>12)with
 |true=>rfl
 |false=>
  simp only[af,au,aq,zd,bm,dx];rw[Zk LW];rfl
theorem Ke {x:jj} (h:iD l=some x):nS x=true/\x.kids.length<=12:=by
 unfold iD at h;split at h
 .cases h
 .rename_i k t b _
  cases e:(decide (k=1)&&decide (t<=12))with
  |false=>rw[e]at h;cases h
  |true=>
   rw[e]at h;cases e2:(nS (lx b t)&&ZG (b.drop (24+2*t)))with
   |false=>rw[e2]at h;cases h
   |true=>
    rw[e2]at h;cases h;rw[aW]at e e2;refine⟨e2.1,?_⟩;show(nO b t).length<=12;rw[BH];grind
theorem Zsq (n:Nat) (a:ai) (l:aj) (st:St) (ha:dE st a l) (hl:l.length<1000000) (hn:160<=n):
  Ok (λo=>∃s',aC st s'/\match iD l with
   |none=>o=(.val [.agg [.int .i64 0,.int .i64 0,.int .i64 0,.int .i64 0,.slice 0 none 0],.bool false],s')
   |some x=>∃p,o=(.val [.agg (nA x 1 p),.bool true],s')/\Fz s' p (ints x.kids)) (run Bd n 272 [.slice 1 a l.length] st):=by
 obtain⟨n,rfl⟩: ∃m,n=m+1:=⟨n-1,by omega⟩;rw[Ze,h.acB];unfold QZ cm tG az cM DX aY DF mh bE zD ja wA DL Lb Li DH DJ iD;simp only[bd,aq,Za];rw[kl];refine Ok.call (DB n a l st ha hl) ?_;rintro _ ⟨s1,aH,ho⟩;cases eC:gf l with
 |none=>
  rw[eC]at ho;subst ho;refine⟨_,s1,rfl,?_⟩;simp only[av,au,aq,Zf 1 0 none _ (.inr rfl)];rw[bm,ae];simp only[ae];rw[Zu];exact .mk ⟨_,Zv aH,rfl⟩
 |some q=>
  obtain⟨k,t,b⟩:=q;rw[eC]at ho;obtain⟨p1,rfl,hf,hb,hk,ht⟩:=ho;refine⟨_,s1,rfl,?_⟩;simp only[av,au,bd,aq];rw[bp,af];have e1:(((k:Nat):Int)==1)=decide (k=1):=by
   by_cases jG:k=1
   .subst jG;rfl
   grind
  rw[e1];cases jG:decide (k=1)with
  |false=>
   rw[bm];simp only[ae,fP,af];rw[Zu];exact .mk ⟨_,Zv aH,rfl⟩
  |true=>
  rw[bp];simp only[af,dx];by_cases j5:t<=12
  .rw[aD (show ¬((t:Nat):Int)>12 by omega),aw j5]
   simp only[af,ae];have ec:=hf.yi;rw[show(56:Nat)=b.length from hb.symm];rw[Zk (Gd n p1 b 16 4 16 4 rfl rfl s1 ec)];simp only[av,aq];rw[Zk (Gd n p1 b 20 4 20 4 rfl rfl s1 ec)];simp only[av,aq];rw[Zk (Gd n p1 b 0 8 0 8 rfl rfl s1 ec)];simp only[av,aq];rw[Zk (Gd n p1 b 8 8 8 8 rfl rfl s1 ec)];simp only[av,aq];refine Zj _ (λq y s=>∃(i z:Nat) (p:ai),y=[.agg [.int .i64 (cR b 16 4),.int .i64 (cR b 20 4),.int .i64 (cR b 0 8),.int .i64 (cR b 8 8),.slice z p i],.int .i64 i]/\(z=1\/p=none)/\i<=t/\t-i<=q/\bn st s p (ints (nO b i))/\wi s p1 b) ?_ t n _ _ ⟨0,0,none,rfl,.inr rfl,cE _,by omega,bn.nil aH,hf⟩ (by omega);rintro q _ s ⟨i,z,p,rfl,hz,hi,hq,ho,EO⟩ rec aQ;simp only[cG,av,Zf 1 z p _ hz,aq];by_cases ax:i<t
   .rw[aw (show(i:Int)<(t:Int) by omega),ae,Zc (x:=2*(i:Int)),Zc,show(24+2*(i:Int))=((24+2*i:Nat):Int) by omega]
    rw[wu (Gd n p1 b (24+2*i) 2 _ 2 rfl rfl s EO.yi)];simp only[av,aq];obtain⟨p2,s2,df,qf,he⟩:=ho.Bc (β:=ah) (sz:=1) (n:=i) (lim:=8796093022208) [.int .i64 (cR b (24+2*i) 2)] (we 0) (by simp[ints,BH]) rfl (by omega);rw[he,Zc];refine aQ (t-(i+1)) _ _ (by omega) ⟨i+1,1,p2,by simp,.inl rfl,by omega,aO _,?_,EO.kp qf⟩;rw[Zmr];show bn st s2 p2 (List.map _ _);rw[fB];exact df
   .rw[aD (show ¬(i:Int)<(t:Int) by omega),af]
    have Ct:i=t:=by omega
    subst Ct;have hr:=Zp3 n (lx b i) p s ho.sl (by show(nO b i).length<_;rw[BH];omega) (by show(nO b i).length+_<=_;rw[BH];omega);have hc:nA (lx b i) 1 p=[.int .i64 (cR b 16 4),.int .i64 (cR b 20 4),.int .i64 (cR b 0 8),.int .i64 (cR b 8 8),.slice 1 p i]:=by
     show eN _++[DV.slice 1 p (nO b i).length]=_;rw[BH];rfl
    simp only[bd,aq];rw[<-hc,Zk hr];simp only[au,aq];cases hrn:nS (lx b i)with
    |false=>
     rw[bm,ae];simp only[fP,af];rw[Zu];exact .mk ⟨_,Zv ho.1,rfl⟩
    |true=>
     rw[bp,af,Zc (x:=2*(i:Int)),Zc (x:=24+2*(i:Int)),Zc];rw[show(24+2*(i:Int))=((24+2*i:Nat):Int) by omega,show((b.length:Nat):Int)-((24+2*i:Nat):Int)=((b.length-(24+2*i):Nat):Int) by omega];rw[Zk (Dx n p1 b (24+2*i) (b.length-(24+2*i)) s EO.yi)];rw[dH (by rw[fb];exact aO _)];simp only[au,aq,dx];cases ZG (b.drop (24+2*i))with
     |false=>
      simp only[bm,ae,af];rw[Zu];exact .mk ⟨_,Zv ho.1,rfl⟩
     |true=>
      simp only[bp,ae,af];rw[Zu];exact .mk ⟨_,Zv ho.1,p,rfl,ho.fz⟩
  .rw[aw (show((t:Nat):Int)>12 by omega),aD j5]
   simp only[af,ae];rw[Zu];exact .mk ⟨_,Zv aH,rfl⟩
theorem Zrd: ∀(B D C:ah),B.length=D.length->ov (B++C) D=D++C
 |[],[],C,_=>by simp[ZuA]
 |b::B,d::D,C,h=>by show d::ov (B++C) D=_;rw[Zrd B D C (by simpa using h)];rfl
 |[],_::_,_,h=>by cases h
 |_::_,[],_,h=>by cases h
theorem sy: ∀(A B C D:ah),B.length=D.length->cq (A++(B++C)) A.length D=A++(D++C)
 |[],B,C,D,h=>by
  show cq (B++C) 0 D=D++C;rw[<-Zrd B D C h];cases B++C<;>rfl
 |a::A,B,C,D,h=>by show a::cq (A++(B++C)) A.length D=_;rw[sy A B C D h];rfl
def fC (t j:Nat):Bool:=decide (t/2^j%2=1)
theorem Zu7 (ht:t<9223372036854775808) (hj:j<=63):bits .and .i64 ((t:Int).fdiv (2^(min j 64))) 1=((t/2^j%2:Nat):Int):=by
 rw[mW (by omega),show((2:Int)^j)=((2^j:Nat):Int) by push_cast;rfl,Ea];have h1:t/2^j<9223372036854775808:=FQ (Dm _ _) ht;show IntKind.wrap .i64 ((BitVec.ofInt 64 ((t/2^j:Nat):Int)&&& BitVec.ofInt 64 (1:Int)).toNat:Int)=_;rw[BitVec.toNat_and,Hl (by omega),show(BitVec.ofInt 64 (1:Int)).toNat=1 from rfl,Nat.and_one_is_mod];exact Zc
theorem ZsW (ht:t<9223372036854775808:=by omega) (hj:j<=63:=by omega):(bits .and .i64 ((t:Int).fdiv (2^(min j 64))) 1==1)=fC t j:=by
 rw[Zu7 ht hj];grind[fC]
theorem ZvY (ht:t<9223372036854775808) (hj:j<=63):(bits .and .i64 ((t:Int).fdiv (2^(min j 64))) 1==0)= !fC t j:=by
 rw[Zu7 ht hj];grind[fC]
structure bw where
 live:Bool
 gen:Int
 block:Int
def ee (x:bw):ah:=[.bool x.live,.int .i64 x.gen,.int .i64 x.block]
def bP (l:List bw):ah:=(l.map ee).flatten
theorem Zx (l:List bw):(bP l).length=l.length*3:=by
 unfold bP;induction l with
 |nil=>rfl
 |cons e l ih=>rw[pF,De,bA,ih,cO];show 3+_=_;omega
theorem GD (l m:List bw):bP (l++m)=bP l++bP m:=by simp[bP]
def jg:bw:=⟨false,0,0⟩
def mJ:List bw:=List.replicate 7 jg
def kO (v f t:Int):Bool:=bif decide (v>=f)then decide (v<=t)else false
def ZM (x:bw):Bool:=bif x.live then kO x.gen 1 4294967295&&kO x.block 2 3071 else kO x.gen 0 4294967295&&(kO x.block 0 1792&&(decide (x.gen>0)||x.block==0))
def uU (b:aj) (t j:Nat):bw:=⟨fC t j,cR b (8*j) 4,cR b (8*j+4) 4⟩
def ZN (b:aj) (t n:Nat):List bw:=(List.range n).map (uU b t)
theorem zF (b:aj) (t n:Nat):(ZN b t n).length=n:=by unfold ZN;simp
theorem Gn (b:aj) (t n:Nat):ZN b t (n+1)=ZN b t n++[uU b t n]:=by simp[ZN,uJ,fB]
def ZJ (l:aj):Option (List bw):=match gf l with
 |none=>none
 |some (k,t,b)=>bif decide (k=2)&&decide (t<128)then(bif (ZN b t 7).all ZM then some (ZN b t 7)else none)else none
theorem Gf (n:Nat) (v f t:Int) (st:St):run Bd (n+1) 314 [.int .i64 v,.int .i64 f,.int .i64 t] st=some (.val [.bool (kO v f t)],st):=by
 rw[Ze,h.ac4];unfold Pp B0 az Lb kO;simp only[av,aq,Za,au];cases decide (v>=f)<;>rfl
theorem Zmc (n:Nat) (x:bw) (st:St):run Bd (n+2) 297 [.agg (ee x)] st=some (.val [.bool (ZM x)],st):=by
 rw[Ze,h.acS];unfold N9 pP aY az xQ Lb ee ZM;simp only[cG,av,au,aq,Za];cases x.live with
 |true=>
  rw[ae,ae,Zk (Gf n _ _ _ st)];simp only[au,aq];cases kO x.gen 1 4294967295 with
  |false=>rfl
  |true=>
   rw[ae,Zk (Gf n _ _ _ st)];rfl
 |false=>
  rw[af,af,Zk (Gf n _ _ _ st)];simp only[au,aq];cases kO x.gen 0 4294967295 with
  |false=>rfl
  |true=>
   rw[ae,Zk (Gf n _ _ _ st)];simp only[au,aq,dx];cases kO x.block 0 1792 with
   |false=>rfl
   |true=>
    cases decide (x.gen>0)<;>rfl
theorem nf (k c:Nat) (C:Int) (hC:C=c:=by omega):(((k:Nat):Int)==C)=decide (k=c):=by
 grind
theorem ZnJ (n:Nat) (a:ai) (l:aj) (st:St) (ha:dE st a l) (hl:l.length<1000000) (hn:160<=n):
  Ok (λo=>∃s',aC st s'/\match ZJ l with
   |none=>o=(.val [.agg (bP mJ),.bool false],s')
   |some x=>o=(.val [.agg (bP x),.bool true],s')) (run Bd n 273 [.slice 1 a l.length] st):=by
 obtain⟨n,rfl⟩: ∃m,n=m+1:=⟨n-1,by omega⟩;rw[Ze,h.acC];unfold On cm tG az cy BU aY bE ZE qN Z7 Lb ZJ;simp only[bd,aq,Za];refine Ok.call (DB n a l st ha hl) ?_;rintro _ ⟨s1,aH,ho⟩;cases eC:gf l with
 |none=>
  rw[eC]at ho;subst ho;refine⟨_,s1,rfl,?_⟩;simp only[av,au,aq,Zf 1 0 none _ (.inr rfl)];rw[bm,ae];simp only[ae,Zd];exact .mk ⟨_,aH,rfl⟩
 |some q=>
  obtain⟨k,t,b⟩:=q;rw[eC]at ho;obtain⟨p1,rfl,hf,hb,hk,ht⟩:=ho;refine⟨_,s1,rfl,?_⟩;simp only[av,au,bd,aq];rw[bp,af,nf k 2 2 rfl];cases jG:decide (k=2)with
  |false=>
   rw[bm];simp only[ae,fP,af,Zd];exact .mk ⟨_,aH,rfl⟩
  |true=>
  rw[bp];simp only[af,dx];by_cases j5:t<128
  .rw[aD (show ¬((t:Nat):Int)>=128 by omega),aw j5]
   simp only[af,ae];have ec:=hf.yi;refine Zj _ (λq y s=>∃i:Nat,y=[.agg (bP mJ),.agg (bP (ZN b t i)++bP (List.replicate (7-i) jg)),.int .i64 i]/\i<=7/\7-i<=q/\s=s1/\(ZN b t i).all ZM=true) ?_ 7 n _ _ ⟨0,rfl,by omega,by omega,rfl,rfl⟩ (by omega);rintro q _ s ⟨i,rfl,hi,hq,rfl,cQ⟩ rec aQ;have hlen:(bP (ZN b t i)++bP (List.replicate (7-i) jg)).length=21:=by
    rw[bA,Zx,Zx,zF,uH];omega
   simp only[cG,av,aq];rw[bD (cs:=bP mJ) (n:=21) rfl,bD hlen];by_cases ax:i<7
   .have cD:ar ((i:Int)+1)=((i+1:Nat):Int):=Zc
    have fM:ar (8*((i+1:Nat):Int))=((8*(i+1):Nat):Int):=Zc;have jI:ar (8*(i:Int))=((8*i:Nat):Int):=Zc;simp only[cD,fM,jI,br,cT];rw[aw (show(i:Int)<7 by omega),ae];rw[Zb (by rw[aW,bC,bC];omega),Zb (by rw[aW,bC,bC];omega),Zb (aw (by omega)),Zb (aw (by omega))];have gY:=ec.dj (k:=8*i) (by omega);have sS:(b.drop (8*i)).length=56-8*i:=by rw[fb,hb]
    have Iu:((b.drop (8*i)).take 4).length=4:=by rw[cV];omega
    have j3:=zB n _ ((b.drop (8*i)).take 4) s (gY.lK 4);rw[Iu]at j3;rw[qR j3 (.refl s)];simp only[av,aq];rw[Zb (aw (by omega)),show 8*(i+1)-8*i-4=4 by omega];have jt:=gY.dj (k:=4) (by omega);have ht3:(((b.drop (8*i)).drop 4).take 4).length=4:=by rw[cV,fb];omega
    have jH:=zB n _ (((b.drop (8*i)).drop 4).take 4) s (jt.lK 4);rw[ht3]at jH;rw[qR jH (.refl s)];simp only[av,aq];rw[kd,ZsW];obtain⟨n,rfl⟩: ∃m,n=m+2:=⟨n-2,by omega⟩;have Fj:=Zmc n (uU b t i) s;have Vi:ee (uU b t i)=[.bool (fC t i),.int .i64 (ar ((eZ ((b.drop (8*i)).take 4):Nat):Int)),.int .i64 (ar ((eZ ((b.drop (8*i+4)).take 4):Nat):Int))]:=rfl;rw[<-Vi,Zk Fj];simp only[au,aq];cases CH:ZM (uU b t i)with
    |false=>
     rw[bm,ae];have:(ZN b t 7).all ZM=false:=List.all_eq_false.2 ⟨uU b t i,xO.2 (by grind),by rw[CH];decide⟩;rw[this,af,Zd];exact .mk ⟨s,aH,rfl⟩
    |true=>
     rw[bp,af,Zb (show aP (i:Int) 7=true from Zi ax),Zb (gr (by omega))];refine aQ (7-(i+1)) _ _ (by omega) ⟨i+1,?_,by omega,aO _,rfl,?_⟩
     .congr 3
      rw[Gn,GD,show List.replicate (7-i) jg=jg::List.replicate (7-(i+1)) jg by rw[show 7-i=(7-(i+1))+1 by omega];rfl];show cq (bP (ZN b t i)++(ee jg++bP (List.replicate (7-(i+1)) jg))) (i*3) (ee (uU b t i))=_;have e3:i*3=(bP (ZN b t i)).length:=by rw[Zx,zF]
      rw[e3,sy (bP (ZN b t i)) (ee jg) (bP (List.replicate (7-(i+1)) jg)) (ee (uU b t i)) rfl,fA];rfl
     .rw[Gn,sa,cQ]
      simp[CH]
   .rw[aD (show ¬(i:Int)<7 by omega),af]
    have oT:i=7:=by omega
    subst oT;rw[bD (cs:=bP mJ) (n:=21) rfl,bD hlen,bD hlen,cQ,ae,Zd];refine .mk ⟨s,aH,?_⟩;show _=(Out.val [DV.agg (bP (ZN b t 7)),_],s);rw[show bP (List.replicate (7-7) jg)=[]from rfl,gA]
  .rw[aw (show((t:Nat):Int)>=128 by omega),aD j5]
   simp only[af,ae,Zd];exact .mk ⟨_,aH,rfl⟩
def zL (l:ak):Bool:=l.all λv=>v==0||kO v 2 3071
def dK (b:aj) (n:Nat):ak:=(List.range n).map λj=>cR b (2*j) 2
theorem nN (b:aj) (n:Nat):(dK b n).length=n:=by unfold dK;simp
theorem J0 (b:aj) (n:Nat):dK b (n+1)=dK b n++[cR b (2*n) 2]:=by simp[dK,uJ,fB]
def Z3 (l:aj):Option (ak):=match gf l with
 |none=>none
 |some (k,t,b)=>bif decide (k=3)&&(decide (t=0)&&ZG (b.drop 32))then(bif zL (dK b 16)then some (dK b 16)else none)else none
theorem ZA {l:ak} (h:j<l.length:=by omega):(ints l)[j]? =some (.int .i64 l[j]):=by simp[ints,h]
theorem gW (h:cs[i]? =some d) (K:DV->M β):ej cs i K=K d:=by unfold ej;rw[h]
theorem ZmC (n:Nat) (l:ak) (st:St) (hl:l.length=16) (hn:22<=n):run Bd n 298 [.agg (ints l)] st=some (.val [.bool (zL l)],st):=by
 obtain⟨n,rfl⟩: ∃m,n=m+2:=⟨n-2,by omega⟩;rw[Ze,h.acT];unfold OT Q_ cH az aY Lb Li xQ zL;have hlen:(ints l).length=16:=by simp[ints,hl]
 simp only[cG,aq,Za];rw[bD hlen,bD hlen];refine ok_eq ?_;refine Zj _ (λq y s=>∃i:Nat,y=[.int .i64 i]/\i<=16/\16-i<=q/\s=st/\(l.take i).all (λv=>v==0||kO v 2 3071)=true) ?_ 16 (n+1) _ _ (by grind) (by omega);rintro q _ s ⟨i,rfl,hi,hq,rfl,cQ⟩ rec aQ;simp only[av,aq];by_cases ax:i<16
 .rw[aw (show(i:Int)<16 by omega),ae,Zb (show aP (i:Int) 16=true from Zi ax),br,cT,gW (ZA)]
  simp only[aX];have hw:ar ((i:Int)+1)=((i+1:Nat):Int):=Zc;have aN:(l[i]==0||kO l[i] 2 3071)=true->Ok (λp=>p=(Out.val [DV.bool (l.all λv=>v==0||kO v 2 3071)],s)) (rec [.int .i64 (ar ((i:Int)+1))] s):=λe=>by
   rw[hw];refine aQ (16-(i+1)) _ _ (by omega) ⟨i+1,rfl,by omega,aO _,rfl,?_⟩;rw[mV (by omega),sa,cQ];simpa using e
  have cA:(l[i]==0||kO l[i] 2 3071)=false->(l.all λv=>v==0||kO v 2 3071)=false:=by grind
  cases h0:(l[i]==0)with
  |true=>
   rw[bp,af];simp_all
  |false=>
   rw[bm,ae,Zk (Gf n _ _ _ s)];simp only[au,aq];cases fM:kO l[i] 2 3071 with
   |true=>
    rw[bp,af];grind
   |false=>
    rw[bm,ae,Zd,cA (by rw[h0,fM];rfl)];exact .mk rfl
 .rw[aD (show ¬(i:Int)<16 by omega),af,Zd]
  rw[dH (by omega)]at cQ;rw[cQ];exact .mk rfl
theorem Zo9 (n:Nat) (a:ai) (l:aj) (st:St) (ha:dE st a l) (hl:l.length<1000000) (hn:160<=n):
  Ok (λo=>∃s',aC st s'/\match Z3 l with
   |none=>o=(.val [.agg (ints (List.replicate 16 0)),.bool false],s')
   |some x=>o=(.val [.agg (ints x),.bool true],s')/\x.length=16) (run Bd n 274 [.slice 1 a l.length] st):=by
 obtain⟨n,rfl⟩: ∃m,n=m+1:=⟨n-1,by omega⟩;rw[Ze,h.acD];unfold Pc cm tG az aY cy zV bE Li Lb ja Z3;simp only[bd,aq,Za];refine Ok.call (DB n a l st ha hl) ?_;rintro _ ⟨s1,aH,ho⟩;cases eC:gf l with
 |none=>
  rw[eC]at ho;subst ho;refine⟨_,s1,rfl,?_⟩;simp only[av,au,aq,Zf 1 0 none _ (.inr rfl)];rw[bm,ae];simp only[ae,Zd];exact .mk ⟨_,aH,rfl⟩
 |some q=>
  obtain⟨k,t,b⟩:=q;rw[eC]at ho;obtain⟨p1,rfl,hf,hb,hk,ht⟩:=ho;refine⟨_,s1,rfl,?_⟩;simp only[av,au,bd,aq];rw[bp,af,nf k 3 3 rfl,nf t 0 0 rfl];cases jG:decide (k=3)with
  |false=>
   rw[bm];simp only[ae,fP,af,Zd];exact .mk ⟨_,aH,rfl⟩
  |true=>
  rw[bp];simp only[af,dx];cases Iu:decide (t=0)with
  |false=>
   rw[bm];simp only[ae,fP,af,Zd];exact .mk ⟨_,aH,rfl⟩
  |true=>
  rw[bp];simp only[af,dx];have ec:=hf.yi;have cA:=Dx n p1 b 32 24 s1 ec;rw[hb,dH (by rw[fb];omega)]at cA;rw[show ar (((56:Nat):Int)-32)=((24:Nat):Int) by decide,show(32:Int)=((32:Nat):Int)from rfl,Zk cA];simp only[au,aq];cases ZG (b.drop 32)with
  |false=>
   simp only[bm,ae,af,Zd];exact .mk ⟨_,aH,rfl⟩
  |true=>
   rw[bp];simp only[ae,af];refine Zj _ (λq y s=>∃i:Nat,y=[.agg (ints (dK b i)++ints (List.replicate (16-i) 0)),.int .i64 i]/\i<=16/\16-i<=q/\s=s1) ?_ 16 n _ _ ⟨0,rfl,by omega,by omega,rfl⟩ (by omega);rintro q _ s ⟨i,rfl,hi,hq,rfl⟩ rec aQ;have hlen:(ints (dK b i)++ints (List.replicate (16-i) 0)).length=16:=by
    simp[ints,nN];omega
   simp only[cG,av,aq];rw[bD hlen];by_cases ax:i<16
   .have cD:ar ((i:Int)+1)=((i+1:Nat):Int):=Zc
    have fM:ar (2*((i+1:Nat):Int))=((2*(i+1):Nat):Int):=Zc;have jI:ar (2*(i:Int))=((2*i:Nat):Int):=Zc;simp only[cD,fM,jI,br,cT];rw[aw (show(i:Int)<16 by omega),ae];rw[Zb (by rw[aW,bC,bC];omega),Zb (by rw[aW,bC,bC];omega)];have gY:=ec.dj (k:=2*i) (by omega);have sS:((b.drop (2*i)).take 2).length=2:=by rw[cV,fb];omega
    have j3:=zB n _ ((b.drop (2*i)).take 2) s (gY.lK 2);rw[sS]at j3;rw[show 2*(i+1)-2*i=2 by omega,Zk j3];simp only[av,aq];rw[Zb (show aP (i:Int) 16=true from Zi ax),Zb (gr (by omega))];refine aQ (16-(i+1)) _ _ (by omega) ⟨i+1,?_,by omega,aO _,rfl⟩;congr 2;rw[J0,show List.replicate (16-i) (0:Int)=0::List.replicate (16-(i+1)) 0 by rw[show 16-i=(16-(i+1))+1 by omega];rfl];have e3:i=(ints (dK b i)).length:=by simp[ints,nN]
    have e4:=sy (ints (dK b i)) [.int .i64 0] (ints (List.replicate (16-(i+1)) 0)) [.int .i64 (cR b (2*i) 2)] rfl;rw[<-e3]at e4;show cq (ints (dK b i)++([.int .i64 0]++ints (List.replicate (16-(i+1)) 0))) i [.int .i64 (cR b (2*i) 2)]=ints (dK b i++[cR b (2*i) 2])++_;rw[e4,show ints (dK b i++[cR b (2*i) 2])=ints (dK b i)++[.int .i64 (cR b (2*i) 2)] by unfold ints;rw[fB];rfl,fA]
   .rw[aD (show ¬(i:Int)<16 by omega),af]
    have oT:i=16:=by omega
    subst oT;rw[bD hlen];rw[show ints (dK b 16)++ints (List.replicate (16-16) 0)=ints (dK b 16)from gA _]at hlen⊢;rw[Zk (ZmC n (dK b 16) s (nN b 16) (by omega))];simp only[au,aq];cases zL (dK b 16)with
    |false=>
     rw[bm,ae,Zd];exact .mk ⟨_,aH,rfl⟩
    |true=>
     rw[bp,af,bD hlen,Zd];exact .mk ⟨_,aH,rfl,nN b 16⟩
theorem Zr7 (n:Nat) (l:ak) (v:Int) (p:ai) (st:St) (hs:Sl st p (ints l)) (hl:l.length<1000000) (hn:l.length+3<=n):
  Ok (λo=>∃y:Int,o=(.val [.int .i64 y],st)/\decide (y>=0)=decide (v∈l)) (run Bd n 254 [.slice 1 p l.length,.int .i64 v] st):=by
 obtain⟨n,rfl⟩: ∃m,n=m+1:=⟨n-1,by omega⟩;rw[Ze,h.acj];unfold NN qV Q_ cH Zn Li;simp only[bd,av,aq,Za];refine Zj _ (λq y s=>∃i:Nat,y=[.int .i64 i]/\i<=l.length/\l.length-i<=q/\s=st/\v∉l.take i) ?_ l.length n _ _ (by grind) (by omega);rintro q _ s ⟨i,rfl,hi,hq,rfl,cA⟩ rec aQ;simp only[av,aq];by_cases ax:i<l.length
 .obtain⟨i1,o1,rfl⟩:=hs.cB (by simp[ints];omega)
  rw[aw (show(i:Int)<(l.length:Int) by omega),ae,aZ,Zb (Zi ax),br,hs.dF (ZA ax)];simp only[aX];by_cases hv:v=l[i]
  .rw[show(v==l[i])=true by rw[hv];simp,ae,Zd]
   refine .mk ⟨_,rfl,?_⟩;rw[aw (by omega),aw];rw[hv];simp
  .rw[dX.2 hv,af,Zc]
   refine aQ (l.length-(i+1)) _ _ (by omega) ⟨i+1,rfl,by omega,aO _,rfl,?_⟩;rw[mV ax];grind
 .rw[aD (show ¬(i:Int)<(l.length:Int) by omega),af,Zd]
  rw[dH (by omega)]at cA;exact .mk (by grind)
theorem ZiQ (n:Nat) (l:ak) (v:Int) (p:ai) (st:St) (hs:Sl st p (ints l)) (hl:l.length<1000000) (hn:l.length+4<=n):
  run Bd n 222 [.slice 1 p l.length,.int .i64 v] st=some (.val [.bool (decide (v∈l))],st):=by
 obtain⟨n,rfl⟩: ∃m,n=m+1:=⟨n-1,by omega⟩;rw[Ze,h.abM];unfold NO qV cM eU Lb;simp only[bd,av,aq];refine ok_eq ?_;refine Ok.call (Zr7 n l v p st hs hl (by omega)) ?_;rintro _ ⟨y,rfl,e⟩;refine⟨_,st,rfl,?_⟩;simp only[av,aq,Zd];rw[e];exact .mk rfl
def qY (v:Int):Bool:=bif decide (v>=2)then decide (v<3072)else false
theorem Zfd (n:Nat) (v:Int) (st:St):run Bd (n+1) 315 [.int .i64 v] st=some (.val [.bool (qY v)],st):=by
 rw[Ze,h.ac5];unfold NX cy az Lb qY;simp only[av,aq,Za,au];cases decide (v>=2)<;>rfl
structure ZC where
 name:aj
 mask:Nat
 c9:ak
def ZU (x:ZC):ah:= .str x.name:: .int .i64 x.mask::ints x.c9
def qa (m i:Nat) (v:Int):Bool:=bif fC m i then qY v else v==0
def mo (x:ZC):Bool:=qU x.name&&(decide (x.mask<4096)&&(List.range 12).all λi=>qa x.mask i (x.c9.getD i 0))
def ZT (b:aj) (n:Nat):ak:=(List.range n).map λj=>cR b (4+2*j) 2
theorem BB (b:aj) (n:Nat):(ZT b n).length=n:=by unfold ZT;simp
theorem Zlc (b:aj) (n:Nat):ZT b (n+1)=ZT b n++[cR b (4+2*n) 2]:=by simp[ZT,uJ,fB]
def Z1 (b:aj) (t:Nat):ZC:=⟨(b.drop 28).take t,rd b 0 4,ZT b 12⟩
def ZF (l:aj):Option ZC:=match gf l with
 |none=>none
 |some (k,t,b)=>bif decide (k=5)&&(decide (t<=24)&&ZG (b.drop (28+t)))then(bif mo (Z1 b t)then some (Z1 b t)else none)else none
def B5:ZC:=⟨[],0,List.replicate 12 0⟩
theorem ZkR (n:Nat) (x:ZC) (st:St) (hl:x.c9.length=12) (hs:x.name.length<1000) (hm:x.mask<4294967296) (hn:22+x.name.length<=n):run Bd n 299 [.agg (ZU x)] st=some (.val [.bool (mo x)],st):=by
 obtain⟨n,rfl⟩: ∃m,n=m+2:=⟨n-2,by omega⟩;rw[Ze,h.acU];unfold Oc aY az Q_ cH Ls Lb Li mo ZU;have hlen:(ints x.c9).length=12:=by simp[ints,hl]
 simp only[cG,bO,av,aq,Za];rw[bD hlen,bD (by simp[hlen])];rw[Zk (ok_eq (Zp8 (n+1) x.name (by omega) (by omega) st))];simp only[au,aq];cases qU x.name with
 |false=>rw[bm,ae];rfl
 |true=>
 rw[bp,af,aD (show ¬((x.mask:Nat):Int)<0 by omega)];simp only[af,dx];by_cases gF:x.mask<4096;rotate_left
 .rw[aw (show((x.mask:Nat):Int)>=4096 by omega),ae,aD gF,Zd,fP]
 rw[aD (show ¬((x.mask:Nat):Int)>=4096 by omega),af,aw gF,dx];rw[show(ints x.c9).take 12=ints x.c9 from dH (by omega)];refine ok_eq ?_;refine Zj _ (λq y s=>∃i:Nat,y=[.int .i64 i]/\i<=12/\12-i<=q/\s=st/\((List.range i).all λi=>qa x.mask i (x.c9.getD i 0))=true) ?_ 12 (n+1) _ _ (by grind) (by omega);rintro q _ s ⟨i,rfl,hi,hq,rfl,cQ⟩ rec aQ;simp only[av,aq];by_cases ax:i<12
 .rw[aw (show(i:Int)<12 by omega),ae,Zb (show aP (i:Int) 12=true from Zi ax),br,cT,gW (ZA)]
  simp only[aX];rw[Zb (aw (by omega)),ZsW,ZvY (by omega) (by omega)];have hw:ar ((i:Int)+1)=((i+1:Nat):Int):=Zc;have xc:x.c9.getD i 0=x.c9[i]'(by omega):=by rw[dZ,cg (by omega)];rfl
  have aN:qa x.mask i (x.c9[i]'(by omega))=true->Ok (λp=>p=(Out.val [DV.bool ((List.range 12).all λi=>qa x.mask i (x.c9.getD i 0))],s)) (rec [.int .i64 (ar ((i:Int)+1))] s):=λe=>by
   rw[hw];refine aQ (12-(i+1)) _ _ (by omega) ⟨i+1,rfl,by omega,aO _,rfl,?_⟩;rw[uJ,sa,cQ,uE,List.all_nil,xc,e];rfl
  have cA:qa x.mask i (x.c9[i]'(by omega))=false->((List.range 12).all λi=>qa x.mask i (x.c9.getD i 0))=false:=by grind
  cases hb:fC x.mask i with
  |true=>
   rw[bp,af];rw[Zb (aw (by omega)),ae,Zk (Zfd n _ s)];simp only[au,aq];cases hbn:qY (x.c9[i]'(by omega))with
   |true=>
    rw[bp,af];exact aN (by grind[qa])
   |false=>
    rw[bm,ae,Zd,cA (by grind[qa])];exact .mk rfl
  |false=>
   rw[bm,ae];cases h0:(x.c9[i]'(by omega)==0)with
   |false=>
    rw[bm,ae];simp only[ae];rw[Zd,cA (by grind[qa])];exact .mk rfl
   |true=>
    rw[bp,af];rw[Zb (aw (by omega)),af];exact aN (by grind[qa])
 .rw[aD (show ¬(i:Int)<12 by omega),af,Zd]
  rw[show i=12 by omega]at cQ;rw[cQ];exact .mk rfl
theorem Zmb (n:Nat) (a:ai) (l:aj) (st:St) (ha:dE st a l) (hl:l.length<1000000) (hn:160<=n):
  Ok (λo=>∃s',aC st s'/\match ZF l with
   |none=>o=(.val [.agg (ZU B5),.bool false],s')
   |some x=>o=(.val [.agg (ZU x),.bool true],s')/\x.c9.length=12) (run Bd n 275 [.slice 1 a l.length] st):=by
 obtain⟨n,rfl⟩: ∃m,n=m+1:=⟨n-1,by omega⟩;rw[Ze,h.acE];unfold N8 cm tG az BU aY cy zV bE Dy Li DD Lb ja ZF;simp only[bd,aq,Za];refine Ok.call (DB n a l st ha hl) ?_;rintro _ ⟨s1,aH,ho⟩;cases eC:gf l with
 |none=>
  rw[eC]at ho;subst ho;refine⟨_,s1,rfl,?_⟩;simp only[av,au,aq,Zf 1 0 none _ (.inr rfl)];rw[bm,ae];simp only[ae,Zd];exact .mk ⟨_,aH,rfl⟩
 |some q=>
  obtain⟨k,t,b⟩:=q;rw[eC]at ho;obtain⟨p1,rfl,hf,hb,hk,ht⟩:=ho;refine⟨_,s1,rfl,?_⟩;simp only[av,au,bd,aq];rw[bp,af,nf k 5 5 rfl];cases jG:decide (k=5)with
  |false=>
   rw[bm];simp only[ae,fP,af,Zd];exact .mk ⟨_,aH,rfl⟩
  |true=>
  rw[bp];simp only[af,dx];by_cases j5:t<=24;rotate_left
  .rw[aw (show((t:Nat):Int)>24 by omega),aD j5]
   simp only[ae,fP,af,Zd];exact .mk ⟨_,aH,rfl⟩
  rw[aD (show ¬((t:Nat):Int)>24 by omega),aw j5];simp only[af,dx];have ec:=hf.yi;have hw:ar (28+(t:Int))=((28+t:Nat):Int):=Zc;have cA:=Dx n p1 b (28+t) (28-t) s1 ec;rw[hb,dH (by rw[fb];omega)]at cA;have fM:ar (ar (((56:Nat):Int)-28)-(t:Int))=((28-t:Nat):Int):=by
   rw[show ar (((56:Nat):Int)-28)=28 by decide];rw[Zc];omega
  rw[hw,fM,Zk cA];simp only[au,aq,br];cases ZG (b.drop (28+t))with
  |false=>
   simp only[bm,ae,af,Zd];exact .mk ⟨_,aH,rfl⟩
  |true=>
   rw[bp];simp only[ae,af];rw[Zb (by rw[aW,bC,bC];omega),Zb (aw (by omega))];have rB:=(ec.dj (k:=28) (by omega)).lK t;have Mp:(bZ ((b.drop 28).take t)).length=28+t-28:=by rw[Zt,cV,fb];omega
   have oY:=jf (β:=ah) rB;rw[Mp]at oY;rw[oY,<-ly,nK,Zb (aw (by omega))];have CI:(b.take 4).length=4:=by rw[cV];omega
   have j3:=zB n _ (b.take 4) s1 (ec.lK 4);rw[CI]at j3;rw[qR j3 (.refl s1)];simp only[av,aq];have ad4:eZ (b.take 4)<4294967296:=by have:=Ef (b.take 4);rw[CI]at this;exact this
   rw[Zc (x:=((eZ (b.take 4):Nat):Int))];have qg:((b.drop 28).take t).length<=24:=by rw[cV];omega
   refine Zj _ (λq y s=>∃i:Nat,y=[.agg (.str ((b.drop 28).take t):: .int .i64 (eZ (b.take 4):Nat)::(ints (ZT b i)++ints (List.replicate (12-i) 0))),.int .i64 i]/\i<=12/\12-i<=q/\s=s1) ?_ 12 n _ _ ⟨0,rfl,by omega,by omega,rfl⟩ (by omega);rintro q _ s ⟨i,rfl,hi,hq,rfl⟩ rec aQ;have hlen:(ints (ZT b i)++ints (List.replicate (12-i) 0)).length=12:=by
    simp[ints,BB];omega
   simp only[cG,bO,av,aq];rw[bD hlen];by_cases ax:i<12
   .have cD:ar ((i:Int)+1)=((i+1:Nat):Int):=Zc
    have jI:ar (2*(i:Int))=((2*i:Nat):Int):=Zc;have j6:ar (4+((2*i:Nat):Int))=((4+2*i:Nat):Int):=Zc;have qm:ar (((4+2*i:Nat):Int)+2)=((4+2*i+2:Nat):Int):=Zc;simp only[cD,jI,j6,qm,br,cT];rw[aw (show(i:Int)<12 by omega),ae];rw[Zb (by rw[aW,bC,bC];omega),Zb (by rw[aW,bC,bC];omega)];have gY:=ec.dj (k:=4+2*i) (by omega);have sS:((b.drop (4+2*i)).take 2).length=2:=by rw[cV,fb];omega
    have j3:=zB n _ ((b.drop (4+2*i)).take 2) s (gY.lK 2);rw[sS]at j3;rw[show 4+2*i+2-(4+2*i)=2 by omega,Zk j3];simp only[av,aq];rw[Zb (show aP (i:Int) 12=true from Zi ax),Zb (gr (by omega))];refine aQ (12-(i+1)) _ _ (by omega) ⟨i+1,?_,by omega,aO _,rfl⟩;congr 4;rw[Zlc,show List.replicate (12-i) (0:Int)=0::List.replicate (12-(i+1)) 0 by rw[show 12-i=(12-(i+1))+1 by omega];rfl];have e3:i=(ints (ZT b i)).length:=by simp[ints,BB]
    have e4:=sy (ints (ZT b i)) [.int .i64 0] (ints (List.replicate (12-(i+1)) 0)) [.int .i64 (cR b (4+2*i) 2)] rfl;rw[<-e3]at e4;show cq (ints (ZT b i)++([.int .i64 0]++ints (List.replicate (12-(i+1)) 0))) i [.int .i64 (cR b (4+2*i) 2)]=ints (ZT b i++[cR b (4+2*i) 2])++_;rw[e4,show ints (ZT b i++[cR b (4+2*i) 2])=ints (ZT b i)++[.int .i64 (cR b (4+2*i) 2)] by unfold ints;rw[fB];rfl,fA]
   .rw[aD (show ¬(i:Int)<12 by omega),af]
    have oT:i=12:=by omega
    subst oT;rw[show ints (ZT b 12)++ints (List.replicate (12-12) 0)=ints (ZT b 12)from gA _]at hlen⊢;rw[bD hlen];have hrq:=ZkR n (Z1 b t) s (BB b 12) (by show((b.drop 28).take t).length<_;omega) ad4 (by show _+((b.drop 28).take t).length<=_;omega);have hqc:ZU (Z1 b t)= .str ((b.drop 28).take t):: .int .i64 (eZ (b.take 4):Nat)::ints (ZT b 12):=rfl;rw[<-hqc,Zk hrq];simp only[au,aq];cases mo (Z1 b t)with
    |false=>
     rw[bm,ae,Zd];exact .mk ⟨_,aH,rfl⟩
    |true=>
     rw[bp,af,bD (by rw[hqc];simp[hlen]),Zd];exact .mk ⟨_,aH,rfl,BB b 12⟩
def D0 (l:ak):Bool:=decide (1<=l.length)&&(decide (l.length<=16)&&(List.range l.length).all λi=>qY (l.getD i 0)&& !decide (l.getD i 0∈l.take i))
def kQ (l:aj):Option (ak):=match gf l with
 |none=>none
 |some (k,t,b)=>bif decide (k=6)&&(decide (t<=16)&&ZG (b.drop (2*t)))then(bif D0 (dK b t)then some (dK b t)else none)else none
theorem Zmd (n:Nat) (l:ak) (p:ai) (st:St) (hs:Sl st p (ints l)) (hl:l.length<1000) (hn:l.length+10<=n):run Bd n 300 [.agg [.slice 1 p l.length]] st=some (.val [.bool (D0 l)],st):=by
 obtain⟨n,rfl⟩: ∃m,n=m+2:=⟨n-2,by omega⟩;rw[Ze,h.acV];unfold N6 cm az Q_ cH Zn aY Lb Li eU D0;simp only[cG,bd,aq,Za];by_cases h1:1<=l.length;rotate_left
 .rw[aw (show((l.length:Nat):Int)<1 by omega),aD h1]
  rfl
 rw[aD (show ¬((l.length:Nat):Int)<1 by omega),aw h1];simp only[au,aq,af,dx];by_cases h2:l.length<=16;rotate_left
 .rw[aw (show((l.length:Nat):Int)>16 by omega),aD h2]
  rfl
 rw[aD (show ¬((l.length:Nat):Int)>16 by omega),aw h2];simp only[af,dx];refine ok_eq ?_;refine Zj _ (λq y s=>∃i:Nat,y=[.int .i64 i]/\i<=l.length/\l.length-i<=q/\s=st/\((List.range i).all λi=>qY (l.getD i 0)&& !decide (l.getD i 0∈l.take i))=true) ?_ l.length (n+1) _ _ (by grind) (by omega);rintro q _ s ⟨i,rfl,hi,hq,rfl,cQ⟩ rec aQ;simp only[av,aq];by_cases ax:i<l.length
 .obtain⟨i1,o1,rfl⟩:=hs.cB (by simp[ints];omega)
  rw[aw (show(i:Int)<(l.length:Int) by omega),ae,aZ,Zb (Zi ax),br,hs.dF (ZA ax)];simp only[aX];have hw:ar ((i:Int)+1)=((i+1:Nat):Int):=Zc;have xc:l.getD i 0=l[i]:=by rw[dZ,cg ax];rfl
  have cA:(qY l[i]&& !decide (l[i]∈l.take i))=false->((List.range l.length).all λi=>qY (l.getD i 0)&& !decide (l.getD i 0∈l.take i))=false:=by grind
  rw[Zk (Zfd n _ s)];simp only[au,aq];cases hb:qY l[i]with
  |false=>
   rw[bm,ae];simp only[ae];rw[Zd,cA (by rw[hb];rfl)];exact .mk rfl
  |true=>
   rw[bp,af,Zb (by rw[aW,bC,bC];omega)];have Vq:(l.take i).length=i:=by rw[cV];omega
   have cc:Sl s (some (i1,o1)) (ints (l.take i)):=by
    have:=Sl.lK hs i;rwa [show(ints l).take i=ints (l.take i) by simp[ints]]at this
   have hc:=ZiQ (n+1) (l.take i) l[i] _ s cc (by omega) (by omega);rw[Vq]at hc;rw[Zk hc];simp only[au,aq];cases hm:decide (l[i]∈l.take i)with
   |true=>
    rw[ae,Zd,cA (by rw[hb,hm];rfl)];exact .mk rfl
   |false=>
    rw[af,hw];refine aQ (l.length-(i+1)) _ _ (by omega) ⟨i+1,rfl,by omega,aO _,rfl,?_⟩;rw[uJ,sa,cQ,uE,List.all_nil,xc,hb,hm];rfl
 .rw[aD (show ¬(i:Int)<(l.length:Int) by omega),af,Zd]
  rw[show i=l.length by omega]at cQ;rw[cQ];exact .mk rfl
theorem Zn2 (n:Nat) (a:ai) (l:aj) (st:St) (ha:dE st a l) (hl:l.length<1000000) (hn:160<=n):
  Ok (λo=>∃s',aC st s'/\match kQ l with
   |none=>o=(.val [.agg [.slice 0 none 0],.bool false],s')
   |some x=>∃p,o=(.val [.agg [.slice 1 p x.length],.bool true],s')/\Fz s' p (ints x)/\x.length<=16) (run Bd n 276 [.slice 1 a l.length] st):=by
 obtain⟨n,rfl⟩: ∃m,n=m+1:=⟨n-1,by omega⟩;rw[Ze,h.acF];unfold Ox cm tG az aY cy bE Li Lb ja kQ;simp only[bd,aq,Za];rw[kl];refine Ok.call (DB n a l st ha hl) ?_;rintro _ ⟨s1,aH,ho⟩;cases eC:gf l with
 |none=>
  rw[eC]at ho;subst ho;refine⟨_,s1,rfl,?_⟩;simp only[av,au,aq,Zf 1 0 none _ (.inr rfl)];rw[bm,ae];simp only[ae];rw[Zu];exact .mk ⟨_,Zv aH,rfl⟩
 |some q=>
  obtain⟨k,t,b⟩:=q;rw[eC]at ho;obtain⟨p1,rfl,hf,hb,hk,ht⟩:=ho;refine⟨_,s1,rfl,?_⟩;simp only[av,au,bd,aq];rw[bp,af,nf k 6 6 rfl];cases jG:decide (k=6)with
  |false=>
   rw[bm];simp only[ae,fP,af];rw[Zu];exact .mk ⟨_,Zv aH,rfl⟩
  |true=>
  rw[bp];simp only[af,dx];by_cases j5:t<=16;rotate_left
  .rw[aw (show((t:Nat):Int)>16 by omega),aD j5]
   simp only[ae,fP,af];rw[Zu];exact .mk ⟨_,Zv aH,rfl⟩
  rw[aD (show ¬((t:Nat):Int)>16 by omega),aw j5];simp only[af,dx];have ec:=hf.yi;have hw:ar (2*(t:Int))=((2*t:Nat):Int):=Zc;have cA:=Dx n p1 b (2*t) (56-2*t) s1 ec;rw[hb,dH (by rw[fb];omega)]at cA;have fM:ar (((56:Nat):Int)-((2*t:Nat):Int))=((56-2*t:Nat):Int):=by
   rw[Zc];omega
  rw[hw,fM,Zk cA];simp only[au,aq];cases ZG (b.drop (2*t))with
  |false=>
   simp only[bm,ae,af];rw[Zu];exact .mk ⟨_,Zv aH,rfl⟩
  |true=>
   rw[bp];simp only[ae,af];refine Zj _ (λq y s=>∃(i z:Nat) (p:ai),y=[.agg [.slice z p i],.int .i64 i]/\(z=1\/p=none)/\i<=t/\t-i<=q/\bn st s p (ints (dK b i))/\wi s p1 b) ?_ t n _ _ ⟨0,0,none,rfl,.inr rfl,cE _,by omega,bn.nil aH,hf⟩ (by omega);rintro q _ s ⟨i,z,p,rfl,hz,hi,hq,ho,EO⟩ rec aQ;simp only[cG,av,Zf 1 z p _ hz,aq];by_cases ax:i<t
   .have cD:ar ((i:Int)+1)=((i+1:Nat):Int):=Zc
    have fM:ar (2*((i+1:Nat):Int))=((2*(i+1):Nat):Int):=Zc;have jI:ar (2*(i:Int))=((2*i:Nat):Int):=Zc;simp only[cD,fM,jI,br,cT];rw[aw (show(i:Int)<(t:Int) by omega),ae];rw[Zb (by rw[aW,bC,bC];omega),Zb (by rw[aW,bC,bC];omega)];have gY:=EO.yi.dj (k:=2*i) (by omega);have sS:((b.drop (2*i)).take 2).length=2:=by rw[cV,fb];omega
    have j3:=zB n _ ((b.drop (2*i)).take 2) s (gY.lK 2);rw[sS]at j3;rw[show 2*(i+1)-2*i=2 by omega,wu j3];simp only[av,aq];obtain⟨p2,s2,df,qf,he⟩:=ho.Bc (β:=ah) (sz:=1) (n:=i) (lim:=8796093022208) [.int .i64 (cR b (2*i) 2)] (we 0) (by simp[ints,nN]) rfl (by omega);refine Eq.mpr (congrArg (Ok _) (he _)) ?_;refine aQ (t-(i+1)) _ _ (by omega) ⟨i+1,1,p2,rfl,.inl rfl,by omega,aO _,?_,EO.kp qf⟩;rw[J0];show bn st s2 p2 (List.map _ _);rw[fB];exact df
   .rw[aD (show ¬(i:Int)<(t:Int) by omega),af]
    have Ct:i=t:=by omega
    subst Ct;have hr:=Zmd n (dK b i) p s ho.sl (by rw[nN];omega) (by rw[nN];omega);rw[nN]at hr;simp only[bd,aq];rw[Zk hr];simp only[au,aq];cases D0 (dK b i)with
    |false=>
     rw[bm,ae];simp only[af];rw[Zu];exact .mk ⟨_,Zv ho.1,rfl⟩
    |true=>
     rw[bp,af];simp only[ae];rw[Zu];refine .mk ⟨_,Zv ho.1,p,?_,ho.fz,?_⟩
     .rw[nN]
     .rw[nN];omega
def pD (n k:Int):Int:=ar ((ar (ar (n+k)-1)).tdiv k)
def yc (b s g:Int):Int:=bif oa b s g then pD b 384 else 0
def zT (n:Int):Int:=bif (decide (n>=0)&&decide (n<=1792))then pD n 7 else 0
theorem Zn6 (n:Nat) (v k:Int) (hk:k≠0) (st:St):run Bd (n+1) 253 [.int .i64 v,.int .i64 k] st=some (.val [.int .i64 (pD v k)],st):=by
 rw[Ze,h.aci];unfold QT gK Li pD;simp only[av,aq];rw[Zb (by rw[dX.2 hk];rfl)];rfl
theorem Zp5 (n:Nat) (v:Int) (st:St):run Bd (n+1) 255 [.int .i64 v] st=some (.val [.bool (decide (v>=0)&&decide (v<=1792))],st):=by
 rw[Ze,h.ack];unfold Qf cy az Lb;simp only[av,aq,Za];cases decide (v>=0)<;>rfl
theorem ZoU (n:Nat) (v:Int) (st:St):run Bd (n+2) 227 [.int .i64 v] st=some (.val [.int .i64 (zT v)],st):=by
 rw[Ze,h.abQ];unfold Pg cy aY cM Li fW zT;simp only[av,aq];rw[Zk (Zp5 n v st)];simp only[au,aq];cases(decide (v>=0)&&decide (v<=1792))with
 |false=>rfl
 |true=>
  rw[bp,af,Zk (Zn6 n v 7 (by decide) st)];rfl
theorem Zon (n:Nat) (b s g:Int) (st:St):run Bd (n+2) 223 [.agg [.int .i64 b,.int .i64 s,.int .i64 g]] st=some (.val [.int .i64 (yc b s g)],st):=by
 rw[Ze,h.abN];unfold Pk BK aY cM tP Li fW yc;simp only[cG,av,aq];rw[Zk (ZkC n b s g st)];simp only[au,aq];cases oa b s g with
 |false=>rfl
 |true=>
  rw[bp,af,Zk (Zn6 n b 384 (by decide) st)];rfl
structure ZL where
 no:Nat
 eF:aj
def ZS (x:ZL):ah:= .int .i64 x.no::bZ x.eF
def Le:ZL:=⟨0,List.replicate 48 0⟩
def wv (l:aj):Option ZL:=match gf l with
 |none=>none
 |some (k,t,b)=>bif decide (k=4)&&(decide (t<8)&&ZG (b.drop 48))then some ⟨t,b.take 48⟩else none
def w5 (x:ZL) (a:Nat):Bool:=decide (a/384=x.no)&&fC (x.eF.getD (a%384/8) 0).toNat (a%8)
def eE (x:ZL) (n:Nat):ak:=((List.range n).filter λi=>w5 x (x.no*384+i)).map λi=>((x.no*384+i:Nat):Int)
theorem J3 (x:ZL) (n:Nat):eE x (n+1)=eE x n++(bif w5 x (x.no*384+n)then[((x.no*384+n:Nat):Int)]else[]):=by
 unfold eE;rw[uJ,FM,fB];grind
theorem ZpD (x:ZL) (n:Nat):(eE x n).length<=n:=by
 grind[eE]
theorem aar {x:Nat} (hx:x<256) (hr:r<8):((bits .and .u8 (x:Int) ((2^r:Nat):Int))==0)= !fC x r:=by
 have key: ∀x:Fin 256,∀r:Fin 8,((x.val&&& 2^r.val)==0)= !decide (x.val/2^r.val%2=1):=by decide+kernel
 have hp:2^r<256:=Jp (a:=2) (m:=r) (n:=8) (by decide) hr;have e:bits .and .u8 (x:Int) ((2^r:Nat):Int)=((x&&& 2^r:Nat):Int):=by
  generalize 2^r=w at hp;show IntKind.wrap .u8 ((BitVec.ofInt 8 (x:Int)&&& BitVec.ofInt 8 ((w:Nat):Int)).toNat:Int)=_;rw[BitVec.toNat_and,BitVec.toNat_ofInt,BitVec.toNat_ofInt];have e1:((x:Int)%((2^8:Nat):Int)).toNat=x:=by omega
  have e2:(((w:Nat):Int)%((2^8:Nat):Int)).toNat=w:=by omega
  rw[e1,e2];have:x&&& w<256:=FQ Nat.and_le_left hx;show((x&&& w:Nat):Int)%(2^8)=_;omega
 rw[e];have:=key ⟨x,hx⟩ ⟨r,hr⟩;grind[fC]
theorem Zok (n:Nat) (x:ZL) (hl:x.eF.length=48) (st:St):run Bd (n+1) 307 [.agg (ZS x)] st=some (.val [.bool (decide (x.no<8))],st):=by
 rw[Ze,h.acX];unfold Pr az Lb ZS;have hlen:(bZ x.eF).length=48:=by rw[Zt,hl]
 simp only[cG,av,aq,Za];rw[bD hlen,bD (by simp[hlen]),aw (show((x.no:Nat):Int)>=0 by omega),ae];simp only[au,aq];rw[Zd];by_cases h8:x.no<8
 .rw[aw h8,aw (by omega)]
 grind
theorem ZrG (n:Nat) (x:ZL) (a:Nat) (ha:a<1000000) (hl:x.eF.length=48) (h8:x.no<8) (st:St):
  run Bd (n+2) 287 [.agg (ZS x),.int .i64 a] st=some (.val (bif decide (a/384=x.no)then[.int .i64 (a%384/8:Nat),.int .u8 (2^(a%8):Nat),.bool true]else[.int .i64 0,.int .u8 0,.bool false]),st):=by
 rw[Ze,h.acI];have hr:=Zok n x hl st;unfold P6 cy aY az Lb;have hlen:(bZ x.eF).length=48:=by rw[Zt,hl]
 unfold ZS at hr⊢;simp only[cG,av,aq,Za];rw[bD hlen,bD (by simp[hlen]),Zk hr];simp only[au,aq];rw[aw h8,bp,af,aD (show ¬(a:Int)<0 by omega)];simp only[af];rw[show((a:Int).tdiv 384)=((a/384:Nat):Int)from rfl,Zc,nf (a/384) x.no _ rfl];cases hd:decide (a/384=x.no)with
 |false=>rfl
 |true=>
  rw[bp,af,ae];rw[show((a:Int).tmod 384)=((a%384:Nat):Int)from rfl,show(((a%384:Nat):Int).tmod 8)=((a%384%8:Nat):Int)from rfl,show(((a%384:Nat):Int).tdiv 8)=((a%384/8:Nat):Int)from rfl];rw[Zb (aw (by omega)),Zc,br,mW (by omega),show a%384%8=a%8 by omega,Zd];have hp:2^(a%8)<256:=Jp (a:=2) (m:=a%8) (n:=8) (by decide) (by omega);have e:IntKind.wrap .u8 (1*2^(a%8))=((2^(a%8):Nat):Int):=by
   rw[Int.one_mul,show((2:Int)^(a%8))=((2^(a%8):Nat):Int) by push_cast;rfl];generalize 2^(a%8)=w at hp;show((w:Nat):Int)%(2^8)=_;omega
  rw[e]
theorem Zr9 (n:Nat) (x:ZL) (a:Nat) (ha:a<1000000) (hl:x.eF.length=48) (h8:x.no<8) (st:St):
  run Bd (n+3) 262 [.agg (ZS x),.int .i64 a] st=some (.val [.bool (w5 x a)],st):=by
 rw[Ze,h.acq];have hr:=ZrG n x a ha hl h8 st;unfold Qx cy Ztl az Lb w5;have hlen:(bZ x.eF).length=48:=by rw[Zt,hl]
 unfold ZS at hr⊢;simp only[cG,av,aq,Za];rw[bD hlen,bD (by simp[hlen]),Zk hr];cases decide (a/384=x.no)with
 |false=>rfl
 |true=>
  simp only[ae,av,au,aq,br,cT,dx];rw[Zb (show aP ((a%384/8:Nat):Int) 48=true from Zi)];obtain⟨c,hc⟩: ∃c,x.eF[a%384/8]? =some c:=⟨_,cg (by omega)⟩;rw[gW (Sa hc),getD_some hc];simp only[aX];rw[aar c.toNat_lt (by omega),Bool.not_not];rfl
theorem Zqe (n:Nat) (x:ZL) (hl:x.eF.length=48) (h8:x.no<8) (st:St) (hn:400<=n):
  Ok (λo=>∃p s',o=(.val [.slice 1 p (eE x 384).length],s')/\aC st s'/\Fz s' p (ints (eE x 384))) (run Bd n 239 [.agg (ZS x)] st):=by
 obtain⟨n,rfl⟩: ∃m,n=m+4:=⟨n-4,by omega⟩;rw[Ze,h.ab3];have hr:=λa ha s=>Zr9 n x a ha hl h8 s
 unfold Qk fX lu aY bE eU Li jQ;have hlen:(bZ x.eF).length=48:=by rw[Zt,hl]
 unfold ZS at hr⊢;simp only[cG,av,aq,Za];rw[bD hlen,kl,bD (by simp[hlen])];refine Zj _ (λq y s=>∃(i z:Nat) (p:ai),y=[.slice z p (eE x i).length,.int .i64 i]/\(z=1\/p=none)/\i<=384/\384-i<=q/\bn st s p (ints (eE x i))) ?_ 384 (n+3) _ _ ⟨0,0,none,rfl,.inr rfl,cE _,by omega,bn.nil (.refl st)⟩ (by omega);rintro q _ s ⟨i,z,p,rfl,hz,hi,hq,ho⟩ rec aQ;simp only[av,Zf 1 z p _ hz,aq];by_cases ax:i<384
 .have cD:ar ((i:Int)+1)=((i+1:Nat):Int):=Zc
  have fM:ar ((x.no:Int)*384)=((x.no*384:Nat):Int):=by rw[Zc];omega
  have jI:ar (((x.no*384:Nat):Int)+(i:Int))=((x.no*384+i:Nat):Int):=Zc;simp only[cD,fM,jI];rw[aw (show(i:Int)<384 by omega),ae,Zk (hr (x.no*384+i) (by omega) s)];simp only[au,aq];have gS:=ZpD x i;cases hh:w5 x (x.no*384+i)with
  |true=>
   rw[ae];obtain⟨p2,s2,df,qf,he⟩:=ho.Bc (β:=ah) (sz:=1) (n:=(eE x i).length) (lim:=8796093022208) [.int .i64 ((x.no*384+i:Nat):Int)] (we 0) (by simp[ints]) rfl (by omega);refine Eq.mpr (congrArg (Ok _) (he _)) ?_;simp only[bd,aq];refine aQ (384-(i+1)) _ _ (by omega) ⟨i+1,1,p2,?_,.inl rfl,by omega,aO _,?_⟩
   .rw[J3,hh];simp
   .rw[J3,hh]
    show bn st s2 p2 (List.map _ _);rw[fB];exact df
  |false=>
   rw[af];simp only[bd,aq];refine aQ (384-(i+1)) _ _ (by omega) ⟨i+1,1,p,?_,.inl rfl,by omega,aO _,?_⟩
   .rw[J3,hh];simp
   .rw[J3,hh,af,gA];exact ho
 .rw[aD (show ¬(i:Int)<384 by omega),af]
  simp only[bd,aq];rw[Zu];have oT:i=384:=by omega
  subst oT;exact .mk ⟨p,_,rfl,Zv ho.1,ho.fz⟩
theorem ZvO {B:ah} (hl:B.length=D.length) (K:M β):eI s.length A.length D K (s++[some ⟨false,A++B⟩])=K (s++[some ⟨false,A++D⟩]):=by
 unfold eI St.hY;rw[mb (aO _),Nat.sub_self];simp only[lh];rw[gr (by rw[bA];omega),ae];have e:=sy A B [] D hl;rw[gA,gA]at e;rw[e];simp
theorem Zq4 (n:Nat) (a:ai) (l:aj) (st:St) (ha:dE st a l) (hl:l.length<1000000) (hn:160<=n):
  Ok (λo=>∃s',aC st s'/\match wv l with
   |none=>o=(.val [.agg (ZS Le),.bool false],s')
   |some x=>o=(.val [.agg (ZS x),.bool true],s')/\x.eF.length=48/\x.no<8) (run Bd n 204 [.slice 1 a l.length] st):=by
 obtain⟨n,rfl⟩: ∃m,n=m+1:=⟨n-1,by omega⟩;rw[Ze,h.abv];unfold QA cm tG az aY bE Lb ja wv;simp only[bd,aq,Za];refine Ok.call (DB n a l st ha hl) ?_;rintro _ ⟨s1,aH,ho⟩;cases eC:gf l with
 |none=>
  rw[eC]at ho;subst ho;refine⟨_,s1,rfl,?_⟩;simp only[av,au,aq,Zf 1 0 none _ (.inr rfl)];rw[bm,ae];simp only[ae,Zd];exact .mk ⟨_,aH,rfl⟩
 |some q=>
  obtain⟨k,t,b⟩:=q;rw[eC]at ho;obtain⟨p1,rfl,hf,hb,hk,ht⟩:=ho;refine⟨_,s1,rfl,?_⟩;simp only[av,au,bd,aq];rw[bp,af,nf k 4 4 rfl];cases jG:decide (k=4)with
  |false=>
   rw[bm];simp only[ae,fP,af,Zd];exact .mk ⟨_,aH,rfl⟩
  |true=>
  rw[bp];simp only[af,dx];by_cases j5:t<8;rotate_left
  .rw[aw (show((t:Nat):Int)>=8 by omega),aD j5]
   simp only[ae,fP,af,Zd];exact .mk ⟨_,aH,rfl⟩
  rw[aD (show ¬((t:Nat):Int)>=8 by omega),aw j5];simp only[af,dx];have ec:=hf.yi;have cA:=Dx n p1 b 48 8 s1 ec;rw[hb,dH (by rw[fb];omega)]at cA;rw[show ar (((56:Nat):Int)-48)=((8:Nat):Int) by decide,show(48:Int)=((48:Nat):Int)from rfl,Zk cA];simp only[au,aq];cases ZG (b.drop 48)with
  |false=>
   simp only[bm,ae,af,Zd];exact .mk ⟨_,aH,rfl⟩
  |true=>
   rw[bp];simp only[ae,af];have Iw:(b.take 48).length=48:=by rw[cV];omega
   have iG:(bZ (b.take 48)).length=min 56 48*1:=by rw[Zt,Iw];rfl
   refine Eq.mpr (congrArg (Ok _) (show _=(cd (ZS Le) λc1=>eI c1 0 (ZS ⟨t,List.replicate 48 0⟩)<|bQ c1 1 48 λ_=>dw p1 (min 56 48*1) λcs=>eI c1 1 cs<|bQ c1 0 49 λbM=>aF .i64 bM λx4 r1=>bu r1 48<|bu ((.int .i64 x4)::r1) 49<|ay [.agg ((.int .i64 x4)::r1),.bool true]) s1 from rfl)) ?_;rw[Zz,ZpJ (by rfl)];rw[ko (i:=s1.length) (o:=1) (n:=48) (f:=false) (all:=ZS ⟨t,List.replicate 48 0⟩) (by simp) (by simp[ZS,Zt])];have cU:=(ec.mono (aC.new s1 (some ⟨false,ZS ⟨t,List.replicate 48 0⟩⟩))).lK 48;rw[<-iG,jf cU];have cc:=ZvO (β:=ah) (s:=s1) (A:=[.int .i64 t]) (B:=bZ (List.replicate 48 0)) (D:=bZ (b.take 48)) (by rw[Zt,Zt,Iw];rfl);refine Eq.mpr (congrArg (Ok _) (cc _)) ?_;have hco:([.int .i64 t]++bZ (b.take 48):ah).length=49:=by rw[bA,Zt,Iw];rfl
   rw[ko (i:=s1.length) (o:=0) (n:=49) (f:=false) (all:=[.int .i64 t]++bZ (b.take 48)) (by simp) (by rw[hco];omega)];rw[dA,dH (l:=[DV.int .i64 t]++bZ (b.take 48)) (i:=49) (by rw[hco];omega)];show Ok _ (aF .i64 (.int .i64 t::bZ (b.take 48)) _ _);simp only[av];have XY:(bZ (b.take 48)).length=48:=by rw[Zt,Iw]
   rw[bD XY,bD (by rw[cO,XY]),Zd];exact .mk ⟨_,aH.trans (.new _ _),rfl,Iw,j5⟩
def Fx (T:al) (s s':St):Prop:=s.length<=s'.length/\∀(b:Nat) (x:Option bT),b∉T->s[b]? =some x->s'[b]? =some x
theorem Fx.refl (T:al) (s:St):Fx T s s:=⟨aO _,λ_ _ _ h=>h⟩
theorem Fx.pre (T:al) (h:aC s s'):Fx T s s':=⟨h.len,λ_ _ _ e=>h.get e⟩
theorem Fx.trans {a b c:St} (h:Fx T a b) (k:Fx T b c):Fx T a c:=⟨gJ h.1 k.1,λi x n e=>k.2 i x n (h.2 i x n e)⟩
theorem Fx.step {a b c:St} (h:Fx T a b) (k:Fx T' b c) (hT: ∀x∈T',x∈T\/a.length<=x):Fx T a c:=
 ⟨gJ h.1 k.1,λi x n e=>k.2 i x (λhm=>by
  grind) (h.2 i x n e)⟩
theorem Fx.mono {a b:St} (h:Fx T a b) (k: ∀x∈T,x∈T'):Fx T' a b:=⟨h.1,λi x n e=>h.2 i x (λm=>n (k i m)) e⟩
theorem Fx.set (s:St) (j:Nat) (b:Option bT):Fx [j] s (s.set j b):=⟨by simp,by grind⟩
def lr (T:al) (a:ai):Prop:=∀b o,a=some (b,o)->b∉T
theorem Sl.fx {a:ai} (h:Sl s a cs) (k:Fx T s s') (n:lr T a):Sl s' a cs:=by
 cases a with
 |none=>exact h
 |some p=>
  obtain⟨i,o⟩:=p;obtain⟨f,all,h1,h2⟩:=h;exact⟨f,all,k.2 i _ (n i o rfl) h1,h2⟩
theorem Sl.lt (h:Sl s (some (i,o)) cs):i<s.length:=by
 obtain⟨f,all,h1,_⟩:=h;grind
theorem lr.new {a:ai} (h:lr T a) (k:Sl s a cs) (hT: ∀x∈T',x∈T\/s.length<=x):lr T' a:=by
 intro b o e hm;subst e;rcases hT b hm with h1|h1
 .exact h b o rfl h1
 .have:=Sl.lt k;omega
def ZV (W:al):ah:=W.map λ(w:Nat)=> .int .u64 w
theorem Q6 (W:al):(ZV W).length=W.length:=by simp[ZV]
structure fY (s:St) (f:Bool) (i j n:Nat) (W:List Nat):Prop where
 hd:s[i]? =some (some ⟨f,[.int .i64 n,.slice 1 (some (j,0)) W.length]⟩)
 wd:s[j]? =some (some ⟨f,ZV W⟩)
 len:W.length=(n+63)/64
 lt: ∀w∈W,w<18446744073709551616
 le:n<=3072
theorem fY.fx (h:fY s f i j n W) (k:Fx T s s') (hi:i∉T) (hj:j∉T):fY s' f i j n W:=
 ⟨k.2 i _ hi h.hd,k.2 j _ hj h.wd,h.len,h.lt,h.le⟩
theorem fY.pre (h:fY s f i j n W) (k:aC s s'):fY s' f i j n W:=
 ⟨k.get h.hd,k.get h.wd,h.len,h.lt,h.le⟩
def fT (n:Nat) (a:Int):Bool:=decide (0<=a)&&decide (a<n)
def dT (W:al) (a:Nat):Bool:=fC (W.getD (a/64) 0) (a%64)
def bU (n:Nat) (W:al) (a:Int):al:=bif fT n a then W.set (a.toNat/64) (W.getD (a.toNat/64) 0|||2^(a.toNat%64))else W
theorem tJ (n:Nat) (W:al) (a:Int):(bU n W a).length=W.length:=by
 grind[bU]
theorem Sj {a:Int} (h: ∀w∈W,w<18446744073709551616): ∀w∈bU n W a,w<18446744073709551616:=by
 unfold bU;cases fT n a with
 |false=>exact h
 |true=>
  intro w hw;rw[ae]at hw;rcases List.mem_or_eq_of_mem_set hw with h1|h1
  .exact h w h1
  .rw[h1]
   refine Nat.or_lt_two_pow (n:=64) ?_ (Jp (by decide) (by omega));rw[dZ];cases e:W[a.toNat/64]? with
   |none=>decide
   |some v=>exact h v (qJ e)
theorem ya {a:Int} {b:Nat} (hl:W.length=(n+63)/64):dT (bU n W a) b=(dT W b||(fT n a&&decide (b=a.toNat))):=by
 unfold bU;cases hm:fT n a with
 |false=>simp[dT]
 |true=>
  rw[ae,dx];unfold fT at hm;rw[aW,bC,bC]at hm;unfold dT;have hk:a.toNat/64<W.length:=by omega
  by_cases hq:b/64=a.toNat/64
  .rw[hq,dZ,mc hk]
   show fC (W.getD (a.toNat/64) 0|||2^(a.toNat%64)) (b%64)=_;have key: ∀w:Nat,fC (w|||2^(a.toNat%64)) (b%64)=(fC w (b%64)||decide (b=a.toNat)):=by
    intro w;unfold fC;rw[<-Nat.testBit_eq_decide_div_mod_eq,<-Nat.testBit_eq_decide_div_mod_eq,Nat.testBit_or,Nat.testBit_two_pow];grind
   rw[key,dZ]
  grind
theorem Zmp (n:Nat) (a:Int) (st:St) (hs:fY st f i j m W):
  run Bd (n+1) 209 [.ptr (some (i,0)),.int .i64 a] st=some (.val [.bool (fT m a)],st):=by
 rw[Ze,h.abz];unfold OD cy az Zm Lb fT;simp only[fV,av,aq,Za,aZ];by_cases h0:a>=0
 .rw[aw h0,ae,Zo hs.hd rfl]
  rfl
 .rw[aD h0,af]
  rfl
theorem S7 {a:Int} (h:0<=a):a.tdiv 64=((a.toNat/64:Nat):Int):=by
 grind
theorem ZuE {a:Int} (h:0<=a):a.tmod 64=((a.toNat%64:Nat):Int):=by
 grind
theorem Zxj (hw:w<18446744073709551616) (hj:j<64):(bits .and .u64 ((w:Int).fdiv (2^(min j 64))) 1==1)=fC w j:=by
 rw[mW (by omega),show((2:Int)^j)=((2^j:Nat):Int) by push_cast;rfl,Ea];have h1:w/2^j<18446744073709551616:=FQ (Dm _ _) hw;rw[show(1:Int)=((1:Nat):Int)from rfl,WW h1 (by decide),Nat.and_one_is_mod];grind[fC]
theorem Zml (n:Nat) (a:Int) (st:St) (hs:fY st f i j m W):
  run Bd (n+2) 184 [.ptr (some (i,0)),.int .i64 a] st=some (.val [.bool (fT m a&&dT W a.toNat)],st):=by
 rw[Ze,h.abb];unfold Ou cy aY az mZ Lb;simp only[fV,av,aq,Za,aZ];rw[Zk (Zmp n a st hs)];simp only[au,aq];cases hm:fT m a with
 |false=>rfl
 |true=>
  have oW:=hm;unfold fT at oW;rw[aW,bC,bC]at oW;have hle:=hs.le;have hlen:=hs.len;have hk:a.toNat/64<W.length:=by omega
  rw[ae,Zo hs.hd rfl];simp only[lq,aZ];rw[S7 oW.1,ZuE oW.1,Zc,Zb (Zi hk),br,br];rw[Zo (d:= .int .u64 (W[a.toNat/64]'hk:Nat)) hs.wd (by rw[cT,gV];simp[ZV,hk])];simp only[aX];have ax:=hs.lt _ (jP hk);rw[Zb (aw (by omega)),Zxj ax (by omega),dx];unfold dT;rw[dZ,cg hk];rfl
theorem uR (h:st[j]? =some (some ⟨false,cs⟩)) (hk:k<cs.length) (K:M β):eI j k [d] K st=K (st.set j (some ⟨false,cs.set k d⟩)):=by
 unfold eI St.hY;rw[h];simp only[iK,gr (show k+1<=cs.length by omega),ae,BV d cs k hk]
theorem fY.add (hs:fY st false i j m W) (oU:i≠j) (W':al) (hl:W'.length=W.length) (ax: ∀w∈W',w<18446744073709551616):fY (st.set j (some ⟨false,ZV W'⟩)) false i j m W':=by
 have hj:j<st.length:=(eK.1 hs.wd).1;refine⟨?_,?_,by rw[hl];exact hs.len,ax,hs.le⟩
 .rw[kJ (by omega),hl];exact hs.hd
 grind
theorem JQ (n:Nat) (l:ak) (p:ai) (st:St) (hs:fY st false i j m W) (oU:i≠j) (hl:Sl st p (ints l)) (hp:lr [j] p) (gS:l.length<1000000:=by omega) (hn:l.length+3<=n:=by omega):
  run Bd n 206 [.ptr (some (i,0)),.slice 1 p l.length] st=some (.val [],st.set j (some ⟨false,ZV (l.foldl (bU m) W)⟩)):=by
 obtain⟨n,rfl⟩: ∃k,n=k+2:=⟨n-2,by omega⟩;rw[Ze,h.abx];unfold OF cm Q_ cH Zn aY mZ Li mY;simp only[fV,bd,aq,Za];refine ok_eq ?_;have e0:st=st.set j (some ⟨false,ZV W⟩):=by
  refine qH λk=>?_
  by_cases e:j=k
  .grind[hs.wd]
  grind
 refine Zj _ (λq y s=>∃k:Nat,y=[.int .i64 k]/\k<=l.length/\l.length-k<=q/\s=st.set j (some ⟨false,ZV ((l.take k).foldl (bU m) W)⟩)/\fY s false i j m ((l.take k).foldl (bU m) W)) ?_ l.length (n+1) _ _ (by grind) (by omega);rintro q _ s ⟨k,rfl,hk,hq,cc,lG⟩ rec aQ;simp only[av,aq];by_cases ax:k<l.length
 .have Cx:Sl s p (ints l):=by rw[cc];exact Sl.fx hl (Fx.set st j _) hp
  obtain⟨i1,o1,rfl⟩:=Cx.cB (by simp[ints];omega);rw[aw (show(k:Int)<(l.length:Int) by omega),ae,aZ,Zb (Zi ax),br,Cx.dF (ZA ax)];simp only[aX];rw[Zk (Zmp n l[k] s lG)];simp only[au,aq];have hw:ar ((k:Int)+1)=((k+1:Nat):Int):=Zc;have fZ:(l.take (k+1)).foldl (bU m) W=bU m ((l.take k).foldl (bU m) W) l[k]:=by
   rw[mV ax,Bk];rfl
  generalize hV:(l.take k).foldl (bU m) W=V at cc lG fZ;cases hm:fT m l[k]with
  |false=>
   rw[af,hw];have As:bU m V l[k]=V:=by unfold bU;rw[hm];rfl
   exact aQ (l.length-(k+1)) _ _ (by omega) (by grind)
  |true=>
   have oW:=hm;unfold fT at oW;rw[aW,bC,bC]at oW;have hle:=hs.le;have hlen:=lG.len;have yD:l[k].toNat/64<V.length:=by omega
   rw[ae,aZ,Zo lG.hd rfl];simp only[lq,aZ];rw[S7 oW.1,ZuE oW.1,Zc,Zb (Zi yD),br,br];rw[Zo (d:= .int .u64 (V[l[k].toNat/64]'yD:Nat)) lG.wd (by rw[cT,gV];simp[ZV,yD])];simp only[aX];have ax:=lG.lt _ (jP yD);have aV:2^(l[k].toNat%64)<18446744073709551616:=Jp (a:=2) (n:=64) (by decide) (by omega);rw[Zb (aw (by omega)),Zb (Zi yD),mW (by omega),Int.one_mul,show((2:Int)^(l[k].toNat%64))=((2^(l[k].toNat%64):Nat):Int) by push_cast;rfl,yd aV,YF ax aV];rw[uR lG.wd (by rw[Q6,cT,gV];exact yD),hw,cT];have As:bU m V l[k]=V.set (l[k].toNat/64) (V[l[k].toNat/64]'yD|||2^(l[k].toNat%64)):=by
    unfold bU;rw[hm,ae,dZ,cg yD];rfl
   have Aw:(ZV V).set (l[k].toNat/64+0) (.int .u64 ((V[l[k].toNat/64]'yD|||2^(l[k].toNat%64):Nat):Int))=ZV (bU m V l[k]):=by
    rw[As,gV];unfold ZV;rw[List.map_set]
   rw[Aw];refine aQ (l.length-(k+1)) _ _ (by omega) ⟨k+1,rfl,by omega,aO _,?_,?_⟩
   .rw[fZ,cc,List.set_set]
   .rw[fZ];exact lG.add oU _ (tJ _ _ _) (Sj lG.lt)
 .rw[aD (show ¬(k:Int)<(l.length:Int) by omega),af]
  simp only[Zd];rw[cc,dH (by omega)];exact .mk rfl
def kE (n:Nat) (l:ak):al:=l.foldl (bU n) (List.replicate ((n+63)/64) 0)
theorem oL (n:Nat): ∀(l:ak) (W:al),(l.foldl (bU n) W).length=W.length/\((∀w∈W,w<18446744073709551616)->∀w∈l.foldl (bU n) W,w<18446744073709551616)
 |[],_=>⟨rfl,id⟩
 |a::l,W=>⟨by rw[Df,(oL n l _).1,tJ],λh=>(oL n l _).2 (Sj h)⟩
theorem Qm (n m:Nat) (l:ak) (p:ai) (st:St) (hm:m<=3072) (hl:Sl st p (ints l)) (gS:l.length<1000000) (hn:l.length+4<=n):
  ∃s',run Bd n 177 [.int .i64 m,.slice 1 p l.length] st=some (.val [.ptr (some (st.length+1,0))],s')/\aC st s'/\s'.length=st.length+2/\fY s' false (st.length+1) st.length m (kE m l):=by
 obtain⟨n,rfl⟩: ∃k,n=k+1:=⟨n-1,by omega⟩;rw[Ze,h.Xb];unfold QW cm C_ mY tr Lp;simp only[av,bd,aq];have h0:(if ((m:Nat):Int)<0 then(0:Int)else m)=m:=ba (by omega);have h1:(if (3072:Int)<((m:Nat):Int)then(3072:Int)else m)=m:=ba (by omega);have h2:ar ((ar ((ar (((m:Nat):Int)+64))-1)).tdiv 64)=(((m+63)/64:Nat):Int):=by
  rw[Zc (x:=((m:Nat):Int)+64),show(((m:Nat):Int)+64-1)=((m+63:Nat):Int) by omega,Zc (x:=((m+63:Nat):Int)),show(((m+63:Nat):Int).tdiv 64)=(((m+63)/64:Nat):Int)from rfl];exact Zc
 simp only[h0,h1,h2,br];rw[Zb (by rw[aW,aW,bC,bC,bC];omega),Zz,Zz];have hw:hZ ((m+63)/64) [DV.int .u64 0]=ZV (List.replicate ((m+63)/64) 0):=by rw[D9];simp[ZV]
 rw[hw];have Ml:(st++[some (⟨false,ZV (List.replicate ((m+63)/64) 0)⟩:bT)]).length=st.length+1:=by simp
 rw[Ml];have hp:aC st (st++[some (⟨false,ZV (List.replicate ((m+63)/64) 0)⟩:bT)]++[some (⟨false,[.int .i64 m,.slice 1 (some (st.length,0)) ((m+63)/64)]⟩:bT)]):=(aC.new _ _).trans (.new _ _);have lG:fY (st++[some (⟨false,ZV (List.replicate ((m+63)/64) 0)⟩:bT)]++[some (⟨false,[.int .i64 m,.slice 1 (some (st.length,0)) ((m+63)/64)]⟩:bT)]) false (st.length+1) st.length m (List.replicate ((m+63)/64) 0):=by
  refine⟨?_,?_,by simp,by simp,hm⟩
  .rw[mb (by simp)];simp
  simp
 have EX:(st++[some (⟨false,ZV (List.replicate ((m+63)/64) 0)⟩:bT)]++[some (⟨false,[.int .i64 m,.slice 1 (some (st.length,0)) ((m+63)/64)]⟩:bT)]).length=st.length+2:=by simp
 generalize st++[some (⟨false,ZV (List.replicate ((m+63)/64) 0)⟩:bT)]++[some (⟨false,[.int .i64 m,.slice 1 (some (st.length,0)) ((m+63)/64)]⟩:bT)]=s2 at hp lG EX;have Ie:lr [st.length] p:=by
  intro b o e hb;subst e;have:=Sl.lt hl;rw[cx.1 hb]at this;omega
 rw[Zk (JQ n l p s2 lG (by omega) (hl.mono hp) Ie gS)];simp only[aq,Zd];exact⟨_,rfl,zU hp (aO _) _,by simp[EX],lG.add (by omega) _ (oL m l _).1 ((oL m l _).2 lG.lt)⟩
end Go.Gv.F
