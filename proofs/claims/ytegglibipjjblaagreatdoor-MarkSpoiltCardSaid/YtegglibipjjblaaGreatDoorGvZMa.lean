/- Numbers as octets, the least one first. -/
import Derived.Test.YtegglibipjjblaaGreatDoorGvZLib
import Derived.Test.YtegglibipjjblaaGreatDoorGvBMk
import Derived.Test.YtegglibipjjblaaGreatDoorGvZPg
import Derived.Test.YtegglibipjjblaaGreatDoorGvZPf
namespace Go.Gv.F
open Go.Gv
def eY:aj->Nat
 |[]=>0
 |c::l=>c.toNat+256*eY l
def dF:Nat->Nat->aj
 |_,0=>[]
 |v,n+1=>UInt8.ofNat v::dF (v/256) n
theorem Zx: ∀(v n:Nat),(dF v n).length=n
 |_,0=>rfl
 |v,n+1=>by rw[dF,cH,Zx]
theorem EF: ∀(l:aj),eY l<256^l.length
 |[]=>by decide
 |c::l=>by
  have h1:=c.toNat_lt;have h2:=EF l;rw[eY,cH,vm];omega
theorem Zsr: ∀(v n:Nat),eY (dF v n)=v%256^n
 |v,0=>by simp[dF,eY,Nat.mod_one]
 |v,n+1=>by
  rw[dF,eY,Zsr,vm,BM (256^n),Nat.mod_mul];have:(UInt8.ofNat v).toNat=v%256:=rfl;rw[this]
theorem SD: ∀(l:aj),dF (eY l) l.length=l
 |[]=>rfl
 |c::l=>by
  have h1:=c.toNat_lt;rw[eY,cH,dF,show(c.toNat+256*eY l)/256=eY l by omega,SD l];congr 1;refine DS.1 ?_;show(c.toNat+256*eY l)%256=_;omega
theorem Ztx: ∀(l m:aj),eY (l++m)=eY l+256^l.length*eY m
 |[],m=>by simp[eY]
 |c::l,m=>by
  rw[nr,eY,eY,Ztx l m,cH,vm,Nat.mul_add,<-Nat.mul_assoc,BM 256 (256^l.length)];omega
theorem Zr2: ∀(v m n:Nat),dF v (m+n)=dF v m++dF (v/256^m) n
 |v,0,n=>by simp[dF]
 |v,m+1,n=>by
  rw[show m+1+n=(m+n)+1 by omega,dF,dF,Zr2 (v/256) m n,nr,vm,BM (256^m),Nat.div_div_eq_div_mul]
def nU (x:Nat):Nat:=if x%2=1 then(x/2)^^^2197175160 else x/2
def ZL:Nat->Nat->Nat
 |0,x=>x
 |n+1,x=>ZL n (nU x)
def sB (x:Nat) (c:UInt8):Nat:=ZL 8 (x^^^c.toNat)
def oA (l:aj):Nat:=4294967295-l.foldl sB 4294967295
theorem Zxh (a b:Nat):(a^^^b)%2=(a+b)%2:=by
 have h:=Nat.testBit_xor a b 0;simp only[Nat.testBit_zero]at h;have e: ∀p q r:Nat,decide (p%2=1)=(decide (q%2=1)^^decide (r%2=1))->p%2=(q+r)%2:=by
  intro p q r h;rcases Gg p with hp|hp<;>rcases Gg q with hq|hq<;>rcases Gg r with hr|hr<;>simp[hp,hq,hr]at h⊢ <;>omega
 exact e _ _ _ h
theorem ZwM (a b:Nat):(a^^^b)/2=(a/2)^^^(b/2):=by
 have:=Nat.shiftRight_xor_distrib (a:=a) (b:=b) (i:=1);simpa [Nat.shiftRight_succ]using this
theorem ZvL (a b:Nat):nU (a^^^b)=nU a^^^nU b:=by
 unfold nU;rw[Zxh,ZwM];rcases Gg a with ha|ha<;>rcases Gg b with hb|hb
 .rw[aW (by omega),aW (by omega),aW (by omega)]
 .rw[bw (by omega),aW (by omega),bw (by omega),Nat.xor_assoc]
 .rw[bw (by omega),bw (by omega),aW (by omega),Nat.xor_assoc,Nat.xor_comm (b/2),<-Nat.xor_assoc]
 .rw[aW (by omega),bw (by omega),bw (by omega)]
  rw[Nat.xor_assoc,Nat.xor_comm 2197175160 (b/2^^^2197175160),Nat.xor_assoc,Nat.xor_self,Nat.xor_zero]
theorem Zoc: ∀(n a b:Nat),ZL n (a^^^b)=ZL n a^^^ZL n b
 |0,_,_=>rfl
 |n+1,a,b=>by rw[ZL,ZL,ZL,ZvL,Zoc n]
theorem ZnJ: ∀(m n x:Nat),ZL (m+n) x=ZL n (ZL m x)
 |0,n,x=>by rw[ej];rfl
 |m+1,n,x=>by rw[show m+1+n=(m+n)+1 by omega,ZL,ZL,ZnJ m n]
theorem KN (z:Nat):nU (2*z)=z:=by unfold nU;rw[aW (by omega)];omega
theorem Zxv (x:Nat):x=(16*(x/16))^^^(x%16):=by
 refine Gf λi=>?_
 rw[Nat.testBit_xor];have e1:(16*(x/16)).testBit i=(decide (4<=i)&&x.testBit i):=by
  rw[show 16*(x/16)=2^4*(x/2^4)from rfl,Nat.testBit_two_pow_mul];by_cases h:4<=i
  .rw[aw h,Nat.testBit_div_two_pow,show i-4+4=i by omega]
  .rw[aB h];simp
 have e2:(x%16).testBit i=(decide (i<4)&&x.testBit i):=by
  rw[show x%16=x%2^4 from rfl,Nat.testBit_mod_two_pow]
 rw[e1,e2];by_cases h:4<=i
 .rw[aw h,aB (by omega)];simp
 .rw[aB h,aw (by omega)];simp
theorem nib (x:Nat):ZL 4 x=(x/16)^^^ZL 4 (x%16):=by
 have h:ZL 4 (16*(x/16))=x/16:=by
  generalize x/16=y;show nU (nU (nU (nU (16*y))))=y;rw[show 16*y=2*(2*(2*(2*y))) by omega,KN,KN,KN,KN]
 have h2:=Zoc 4 (16*(x/16)) (x%16);rw[<-Zxv,h]at h2;exact h2
theorem Zrz {x:Nat} (h:x<4294967296):nU x<4294967296:=by
 unfold nU;split
 .exact Gj (n:=32) (by omega) (by omega)
 .omega
theorem G7: ∀(n:Nat) {x:Nat},x<4294967296->ZL n x<4294967296
 |0,_,h=>h
 |n+1,_,h=>G7 n (Zrz h)
theorem ZxY {x:Nat} (h:x<4294967296) (c:UInt8):sB x c<4294967296:=
 G7 8 (Gj (n:=32) h (by have:=c.toNat_lt;omega))
theorem Hn: ∀(l:aj) {x:Nat},x<4294967296->l.foldl sB x<4294967296
 |[],_,h=>h
 |c::l,_,h=>Hn l (ZxY h c)
theorem LJ (l:aj):oA l<4294967296:=by unfold oA;omega
theorem Zwq (x:Nat) (c:UInt8):sB x c=((((x^^^c.toNat)/16)^^^ZL 4 ((x^^^c.toNat)%16))/16)^^^ZL 4 ((((x^^^c.toNat)/16)^^^ZL 4 ((x^^^c.toNat)%16))%16):=by
 unfold sB;generalize x^^^c.toNat=y;rw[show ZL 8 y=ZL 4 (ZL 4 y)from ZnJ 4 4 y,nib y];exact nib _
theorem Zxw {x:Nat} (h:x<4294967296):x^^^4294967295=4294967295-x:=by
 refine Gf λi=>?_
 rw[show(4294967295:Nat)=2^32-1 from rfl,Nat.testBit_xor,Nat.testBit_two_pow_sub_one,show 2^32-1-x=2^32-(x+1) by omega,Nat.testBit_two_pow_sub_succ (by omega)];by_cases hi:i<32
 .rw[aw hi];simp
 .rw[aB hi]
  have:x.testBit i=false:=Gi (lE (show x<2^32 by omega) (l9 (by decide) (show 32<=i by simpa using hi)));simp[this]
variable {β:Type}
theorem yF {x:Nat} (h:x<18446744073709551616:=by omega):IntKind.wrap .u64 (x:Int)=x:=IntWalk.u64_in _ (by omega)
theorem Ar {x:Nat} (h:x<4294967296:=by omega):IntKind.wrap .u32 (x:Int)=x:=by
 show(x:Int)%_=x;have:((2:Int)^32)=4294967296:=by decide
 show(x:Int)%(2^32)=x;omega
theorem Zxe (x:Nat):IntKind.wrap .u64 (x:Int)=((x%18446744073709551616:Nat):Int):=by
 show(x:Int)%(2^64)=_;have:((2:Int)^64)=18446744073709551616:=by decide
 omega
theorem HH {x:Nat} (h:x<18446744073709551616):(BitVec.ofInt 64 (x:Int)).toNat=x:=by
 rw[JI];omega
theorem Me {x:Nat} (h:x<4294967296):(BitVec.ofInt 32 (x:Int)).toNat=x:=by
 rw[JI];omega
variable {f:Bool} {d:DV} {i j k m n o r t w y:Nat} {s s' st:St} {A D cs ds:ah} {l:aj} {T T' W:al}
theorem aaf {x:Nat} (hx:x<18446744073709551616) (hy:y<18446744073709551616):bits .or .u64 (x:Int) (y:Int)=((x|||y:Nat):Int):=by
 show IntKind.wrap .u64 ((BitVec.ofInt 64 (x:Int)|||BitVec.ofInt 64 (y:Int)).toNat:Int)=_;rw[BitVec.toNat_or,HH hx,HH hy];exact yF (JQ (n:=64) hx hy)
theorem Xt {x:Nat} (hx:x<18446744073709551616) (hy:y<18446744073709551616):bits .and .u64 (x:Int) (y:Int)=((x&&& y:Nat):Int):=by
 show IntKind.wrap .u64 ((BitVec.ofInt 64 (x:Int)&&& BitVec.ofInt 64 (y:Int)).toNat:Int)=_;rw[BitVec.toNat_and,HH hx,HH hy];exact yF (DM Nat.and_le_left hx)
theorem DD {x:Nat} (hx:x<4294967296) (hy:y<4294967296:=by omega):bits .xor .u32 (x:Int) (y:Int)=((x^^^y:Nat):Int):=by
 show IntKind.wrap .u32 ((BitVec.ofInt 32 (x:Int)^^^BitVec.ofInt 32 (y:Int)).toNat:Int)=_;rw[BitVec.toNat_xor,Me hx,Me hy];exact Ar (Gj (n:=32) hx hy)
theorem Xs {x:Nat} (hx:x<4294967296) (hy:y<4294967296):bits .and .u32 (x:Int) (y:Int)=((x&&& y:Nat):Int):=by
 show IntKind.wrap .u32 ((BitVec.ofInt 32 (x:Int)&&& BitVec.ofInt 32 (y:Int)).toNat:Int)=_;rw[BitVec.toNat_and,Me hx,Me hy];exact Ar (DM Nat.and_le_left hx)
theorem EA (x m:Nat):Int.fdiv (x:Int) (m:Int)=((x/m:Nat):Int):=by
 cases m with
 |zero=>simp
 |succ m=>rw[Int.fdiv_eq_ediv_of_nonneg _ (by omega)];rfl
def bK (l:aj):ah:=l.map λb=> .int .u8 b.toNat
theorem lq (l:aj):ZU l=bK l:=rfl
theorem Zq (l:aj):(bK l).length=l.length:=by unfold bK;rw[nY]
theorem SS {b:UInt8} (h:l[j]? =some b):(bK l)[j]? =some (.int .u8 b.toNat):=by unfold bK;rw[oY,h];rfl
theorem Zu8 (l:aj) (k:Nat):(bK l).drop k=bK (l.drop k):=by unfold bK;rw[List.map_drop]
theorem Zvo (l:aj) (k:Nat):(bK l).take k=bK (l.take k):=by unfold bK;rw[List.map_take]
theorem Cg (l m:aj):bK (l++m)=bK l++bK m:=by unfold bK;rw[fg]
def dz (s:St) (a:ai) (l:aj):Prop:=Sl s a (bK l)
theorem dz.mono {s s':St} (k:aD s s') {a:ai} {l:aj} (h:dz s a l):dz s' a l:=Sl.mono k h
theorem dz.get {s:St} {i o:Nat} {l:aj} (h:dz s (some (i,o)) l) {j:Nat} {b:UInt8} (hb:l[j]? =some b) (K:DV->M β):bG i (j+o) K s=K (.int .u8 b.toNat) s:=Sl.get h (SS hb) K
theorem dz.dL (h:dz s (some (i,o)) l) {b:UInt8} (hb:l[j]? =some b) (K:DV->M β):bG i (j*1+o) K s=K (.int .u8 b.toNat) s:=by rw[cP];exact h.get hb K
theorem dz.cD {s:St} {a:ai} {l:aj} (h:dz s a l) (hn:0<l.length): ∃i o,a=some (i,o):=Sl.cD h (by rw[Zq];exact hn)
theorem Sl.sub (h:Sl s (some (i,o)) cs) (hk:k<=cs.length):Sl s (some (i,k+o)) (cs.drop k):=by
 obtain⟨f,all,h1,h2,h3⟩:=h;refine⟨f,all,h1,by rw[dT];omega,?_⟩;rw[dT,show k+o=o+k by omega,<-jX,<-BJ,h3]
theorem Sl.cU {s:St} {a:ai} {cs:ah} (h:Sl s a cs) {k:Nat} (hk:k<=cs.length):Sl s (cU true a k) (cs.drop k):=by
 cases a with
 |none=>rw[show cs=[]from h];simp[Go.Gv.cU,Sl]
 |some p=>exact Sl.sub h hk
theorem Sl.lY {a:ai} (h:Sl s a cs) (k:Nat):Sl s a (cs.take k):=by
 cases a with
 |none=>rw[show cs=[]from h];simp[Sl]
 |some p=>
  obtain⟨f,all,h1,h2,h3⟩:=h;refine⟨f,all,h1,by rw[cz];omega,?_⟩;rw[cz,<-DK,h3]
theorem dz.cU {s:St} {a:ai} {l:aj} (h:dz s a l) {k:Nat} (hk:k<=l.length):dz s (cU true a k) (l.drop k):=by
 unfold dz;rw[<-Zu8];exact Sl.cU h (by rw[Zq];exact hk)
theorem dz.lY {s:St} {a:ai} {l:aj} (h:dz s a l) (k:Nat):dz s a (l.take k):=by
 unfold dz;rw[<-Zvo];exact Sl.lY h k
variable {Bd:Zh} [h:HA Bd]
theorem Zj4 (n:Nat) (a:ai) (len at' k:Nat) (st:St) (hl:len<1000000) (hk:k<1000000:=by omega):
  run Bd (n+1) 261 [.slice 1 a len,.int .i64 at',.int .i64 k] st=some (.val [.bool (decide (at'+k<=len))],st):=by
 rw[Ze,h.ac3];unfold PI wU az Lb;simp only[bc,av,au,aq,Za,aw (show(at':Int)>=0 by omega),aw (show(k:Int)>=0 by omega),ae];by_cases h1:k<=len
 .rw[aw (show(k:Int)<=(len:Int) by omega),ae]
  rw[Zc,Zd];by_cases h2:at'+k<=len
  .rw[aw h2,aw (by omega)]
  .rw[aB h2,aB (by omega)]
 .rw[aB (show ¬(k:Int)<=(len:Int) by omega),af]
  rw[Zd,aB (by omega)]
theorem ok_eq {x:Option (Out β×St)} {o:Out β×St} (h:Ok (λp=>p=o) x):x=some o:=by
 obtain⟨_,e,rfl⟩:=h;exact e
theorem Zw3 (l:aj) (c:UInt8):eY (l++[c])=eY l+256^l.length*c.toNat:=by
 rw[Ztx];simp[eY]
theorem Zya {x c:Nat} (hx:x<2^k):x|||(c*2^k)=x+c*2^k:=by
 rw[Nat.or_comm,BM,<-Nat.two_pow_add_eq_or_of_lt hx,sN]
theorem Zvs (k:Nat):256^k=2^(8*k):=by rw[Nat.pow_mul]
theorem zV (n:Nat) (a:ai) (l:aj) (st:St) (ha:dz st a l) (hl:l.length<=8:=by omega) (hn:12<=n:=by omega):
  run Bd n 285 [.slice 1 a l.length] st=some (.val [.int .u64 (eY l)],st):=by
 obtain⟨n,rfl⟩: ∃m,n=m+1:=⟨n-1,by omega⟩;rw[Ze,h.adl];unfold QG ck CA EB lM nv ZE;simp only[bc,aq];have hif:(if (8:Int)<(l.length:Int)then(8:Int)else(l.length:Int))=(l.length:Int):=aW (by omega);simp only[hif];rw[Zb (by simp),Za];refine ok_eq ?_;refine Zj _ (λq y s=>∃k:Nat,y=[.int .u64 (eY (l.take k)),.int .i64 k]/\s=st/\k<=l.length/\l.length-k<=q) ?_ l.length n _ _ ⟨0,by simp[eY],rfl,cn _,by omega⟩ (by omega);rintro q _ s ⟨k,rfl,rfl,hk,hq⟩ rec aP;simp only[av,aq,bu];by_cases ax:k<l.length
 .rw[aw (show(k:Int)<(l.length:Int) by omega),ae]
  obtain⟨i,o,rfl⟩:=ha.cD (by omega);obtain⟨c,hc⟩: ∃c,l[k]? =some c:=⟨_,bU ax⟩;rw[aX,Zb (Zi ax),ha.dL hc];simp only[aY];rw[Zc,Zb (aw (by omega)),Zc];have MA:=c.toNat_lt;have e1:(8*(k:Int)).toNat=8*k:=by omega
  have hp:c.toNat*2^(8*k)<18446744073709551616:=by
   have h1:c.toNat*2^(8*k)<2^8*2^(8*k):=Nat.mul_lt_mul_of_pos_right (by omega) (BO _);have h2:2^8*2^(8*k)<=2^64:=by rw[<-Nat.pow_add];exact l9 (by decide) (by omega)
   omega
  rw[e1,kT (by omega),yF];have e2:((c.toNat:Int)*2^(8*k))=((c.toNat*2^(8*k):Nat):Int):=by push_cast;rfl
  rw[e2,yF hp];have Ip:eY (l.take k)<2^(8*k):=by
   have:=EF (l.take k);rwa [cz,kT (by omega),Zvs]at this
  have aeH:eY (l.take k)<18446744073709551616:=lE Ip (by
   have:2^(8*k)<=2^64:=l9 (by decide) (by omega);omega)
  rw[aaf aeH hp,Zya Ip];refine aP (l.length-(k+1)) _ _ (by omega) ⟨k+1,?_,rfl,by omega,aL _⟩;have e3:l.take (k+1)=l.take k++[c]:=by
   rw[List.take_add_one,hc];rfl
  rw[e3,Zw3,cz,kT (by omega),Zvs,BM];simp
 .rw[aB (show ¬(k:Int)<(l.length:Int) by omega),af]
  rw[Zd,dq (by omega)];exact .mk rfl
def rd (l:aj) (at' k:Nat):Nat:=eY ((l.drop at').take k)
theorem NL (l:aj) (at' k:Nat):rd l at' k<256^k:=by
 have:=EF ((l.drop at').take k);refine lE this (l9 (by decide) ?_);rw[cz];omega
def ZI (l:aj):Bool:=l.all (· ==0)
theorem DY (n:Nat) (a:ai) (l:aj) (at' k:Nat) (st:St) (ha:dz st a l) (hl:l.length<1000000:=by omega) (hk:at'+k<=l.length:=by omega) (hn:k+5<=n:=by omega):
  run Bd n 238 [.slice 1 a l.length,.int .i64 at',.int .i64 k] st=some (.val [.bool (ZI ((l.drop at').take k))],st):=by
 obtain⟨n,rfl⟩: ∃m,n=m+2:=⟨n-2,by omega⟩;rw[Ze,h.acI];unfold O2 wU bd Q_ cI lM jf Lb Li;simp only[bc,av,aq];rw[Zk (Zj4 n a l.length at' k st hl)];simp only[au,aq];rw[aw hk,bm,af,Zc];have e1:((at':Int)+(k:Int)).toNat=at'+k:=by omega
 simp only[e1];rw[Zb (by simp;omega),Zb (by simp;omega),Za];simp only[bu,cP,show at'+k-at'=k by omega];refine ok_eq ?_;have hb:=ha.cU (k:=at') (by omega);generalize hm:l.drop at'=m at hb;have It:k<=m.length:=by rw[<-hm,dT];omega
 refine Zj _ (λq y s=>∃j:Nat,y=[.int .i64 j]/\s=st/\j<=k/\k-j<=q/\ZI (m.take j)=true) ?_ k (n+1) _ _ ⟨0,rfl,rfl,cn _,by omega,rfl⟩ (by omega);rintro q _ s ⟨j,rfl,rfl,hj,hq,hz⟩ rec aP;simp only[av,aq];by_cases ax:j<k
 .rw[aw (show(j:Int)<(k:Int) by omega),ae]
  obtain⟨i,o,hio⟩:=hb.cD (by omega);rw[hio]at hb⊢;obtain⟨c,hc⟩: ∃c,m[j]? =some c:=⟨_,bU (by omega)⟩;rw[aX,Zb (Zi ax),bu,hb.get hc];simp only[aY];by_cases h0:c=0
  .subst h0
   rw[show(!((((0:UInt8).toNat:Nat):Int)==0))=false from rfl,af,Zc];refine aP (k-(j+1)) _ _ (by omega) ⟨j+1,by simp,rfl,by omega,aL _,?_⟩;have e3:m.take (j+1)=m.take j++[0]:=by rw[List.take_add_one,hc];rfl
   rw[e3];simp[ZI]at hz⊢;exact hz
  .have hc0:c.toNat≠0:=λe=>h0 (DS.1 e)
   have e2:(!((c.toNat:Int)==0))=true:=by
    rw[kR];exact dY.2 (by omega)
   rw[e2,ae,Zd];refine .mk ?_;have:ZI (m.take k)=false:=by
    cases e:ZI (m.take k)with
    |false=>rfl
    |true=>
     unfold ZI at e;rw[lA]at e;have:=e c (oZ (i:=j) (by rw[sL,bw ax];exact hc));exact absurd (by simpa using this) h0
   rw[this]
 .rw[aB (show ¬(j:Int)<(k:Int) by omega),af]
  simp only[Zd];have:j=k:=by omega
  subst this;rw[hz];exact .mk rfl
theorem ZrQ (n:Nat) (a:ai) (l:aj) (at' k:Nat) (st:St) (ha:dz st a l) (hl:l.length<1000000) (h1:1<=k) (h8:k<=8) (hk:at'+k<=l.length) (hn:20<=n):
  run Bd n 312 [.slice 1 a l.length,.int .i64 at',.int .i64 k] st=some (.val [.int .u64 (rd l at' k),.bool true],st):=by
 obtain⟨n,rfl⟩: ∃m,n=m+2:=⟨n-2,by omega⟩;rw[Ze,h.adH];unfold QV wU az As bd bD Lb jf;simp only[bc,av,aq,Za,aB (show ¬(k:Int)<1 by omega),aB (show ¬(k:Int)>8 by omega),af,au];rw[Zk (Zj4 n a l.length at' k st hl)];simp only[au,aq];rw[aw hk,bm,af,Zc];have e1:((at':Int)+(k:Int)).toNat=at'+k:=by omega
 simp only[e1];rw[Zb (by simp;omega),Zb (by simp;omega)];simp only[bu,cP,show at'+k-at'=k by omega];have hb:=(ha.cU (k:=at') (by omega)).lY k;have hlen:((l.drop at').take k).length=k:=by rw[cz,dT];omega
 have hr:=zV (n+1) _ _ st hb;rw[hlen]at hr;rw[Zk hr];simp only[av,aq,Zd];rfl
def yd (x:Nat):ah:=(List.range 16).map λi=> .int .u32 (if i<x then(ZL 4 i:Nat)else 0)
def FZ:ah:=yd 16
theorem ZwW: ∀x,x<16->cw (yd x) (x*1) [.int .u32 (ZL 4 x:Nat)]=yd (x+1)
 |0,_=>rfl|1,_=>rfl|2,_=>rfl|3,_=>rfl|4,_=>rfl|5,_=>rfl|6,_=>rfl|7,_=>rfl
 |8,_=>rfl|9,_=>rfl|10,_=>rfl|11,_=>rfl|12,_=>rfl|13,_=>rfl|14,_=>rfl|15,_=>rfl
 |n+16,h=>by omega
theorem Zq5 (h:j<16):FZ[j]? =some (.int .u32 (ZL 4 j:Nat)):=by
 unfold FZ yd;rw[oY,List.getElem?_range h];simp[h]
theorem Ln (x:Nat):(yd x).length=16:=by unfold yd;simp
theorem Zss (n:Nat) (x:Nat) (hx:x<4294967296) (st:St):run Bd (n+1) 320 [.int .u32 x] st=some (.val [.int .u32 (nU x)],st):=by
 rw[Ze,h.adO];unfold RH kA nU;simp only[av,aq];have ha:bits .and .u32 (x:Int) 1=((x%2:Nat):Int):=by
  have:=Xs hx (show 2^1-1<4294967296 by decide);rw[Nat.and_two_pow_sub_one_eq_mod]at this;exact this
 rw[ha,show((2:Int)^1)=((2:Nat):Int)from rfl,EA];have h2:x/2<4294967296:=by omega
 rcases Gg x with e|e
 .rw[e,show(((0:Nat):Int)==1)=false from rfl,af,aW (by omega),Zd]
 .rw[e,show(((1:Nat):Int)==1)=true from rfl,ae,bw rfl]
  rw[show(2197175160:Int)=((2197175160:Nat):Int)from rfl,DD h2,Zd]
theorem Kq: ∀(n x:Nat),ZL (n+1) x=nU (ZL n x)
 |0,_=>rfl
 |n+1,x=>by rw[ZL,Kq n,ZL]
theorem Zq7 (n:Nat) (hn:30<=n) (st:St):run Bd n 317 [] st=some (.val [.agg FZ],st):=by
 obtain⟨n,rfl⟩: ∃m,n=m+2:=⟨n-2,by omega⟩;rw[Ze,h.adL];unfold QW cA xe wS rJ kA pH;simp only[aq,Za];refine ok_eq ?_;refine Zj _ (λq y s=>∃x:Nat,y=[.agg (yd x),.int .i64 x]/\s=st/\x<=16/\16-x<=q) ?_ 16 (n+1) _ _ ⟨0,rfl,rfl,by omega,by omega⟩ (by omega);rintro q _ s ⟨x,rfl,rfl,hx,hq⟩ rec aP;simp only[cJ,av,aq,bF (Ln x)];by_cases ax:x<16
 .rw[aw (show(x:Int)<16 by omega),ae]
  rw[Ar];refine Zj _ (λq y s'=>∃j:Nat,y=[.int .u32 (ZL j x),.int .i64 j]/\s'=s/\j<=4/\4-j<=q) ?_ 4 (n+1) _ _ ⟨0,rfl,rfl,by omega,by omega⟩ (by omega);rintro q' _ s' ⟨j,rfl,rfl,hj,y7⟩ dA kh;simp only[av,aq];by_cases MK:j<4
  .rw[aw (show(j:Int)<4 by omega),ae]
   rw[Zk (Zss n (ZL j x) (G7 j (by omega)) s')];simp only[av,aq];rw[Zc];exact kh (4-(j+1)) _ _ (by omega) ⟨j+1,by rw[Kq];simp,rfl,by omega,aL _⟩
  .rw[aB (show ¬(j:Int)<4 by omega),af]
   have:j=4:=by omega
   subst this;rw[Zb (by rw[Zi ax]),bu,Zb (by simp;omega),ZwW x ax];simp only[bF (Ln (x+1))];rw[Zc];exact aP (16-(x+1)) _ _ (by omega) ⟨x+1,by simp,rfl,by omega,aL _⟩
 .rw[aB (show ¬(x:Int)<16 by omega),af,Zd]
  have:x=16:=by omega
  subst this;exact .mk rfl
theorem ZnH (n x ti:Nat) (a:ai) (l:aj) (st:St) (ht:Sl st (some (ti,0)) FZ) (ha:dz st a l) (hx:x<4294967296) (hl:l.length<1000000) (hn:l.length+3<=n):
  run Bd n 318 [.ptr (some (ti,0)),.int .u32 x,.slice 1 a l.length] st=some (.val [.int .u32 (l.foldl sB x:Nat)],st):=by
 obtain⟨n,rfl⟩: ∃m,n=m+1:=⟨n-1,by omega⟩;rw[Ze,h.adM];unfold O8 ck xe wS N_ lM kA pH;simp only[gj,av,bc,aq,Za];refine ok_eq ?_;refine Zj _ (λq y s=>∃k:Nat,y=[.int .u32 ((l.take k).foldl sB x:Nat),.int .i64 k]/\s=st/\k<=l.length/\l.length-k<=q) ?_ l.length n _ _ ⟨0,by simp,rfl,cn _,by omega⟩ (by omega);rintro q _ s ⟨k,rfl,rfl,hk,hq⟩ rec aP;simp only[av,aq];by_cases ax:k<l.length
 .rw[aw (show(k:Int)<(l.length:Int) by omega),ae]
  obtain⟨i,o,rfl⟩:=ha.cD (by omega);obtain⟨c,hc⟩: ∃c,l[k]? =some c:=⟨_,bU ax⟩;rw[aX,Zb (Zi ax),bu,ha.dL hc];simp only[aY];have MA:=c.toNat_lt;have hy:(l.take k).foldl sB x<4294967296:=Hn _ hx;have e3:(l.take (k+1)).foldl sB x=sB ((l.take k).foldl sB x) c:=by
   have:l.take (k+1)=l.take k++[c]:=by rw[List.take_add_one,hc];rfl
   rw[this,zM];rfl
  generalize (l.take k).foldl sB x=y at hy e3;have hz:y^^^c.toNat<4294967296:=Gj (n:=32) hy (by omega);rw[Ar,DD hy];rw[Zwq]at e3;generalize y^^^c.toNat=z at hz e3;have Xr: ∀z:Nat,z<4294967296->bits .and .u32 (z:Int) 15=((z%16:Nat):Int):=λz hz=>by
   have:=Xs hz (show 2^4-1<4294967296 by decide);rw[Nat.and_two_pow_sub_one_eq_mod]at this;exact this
  have f16: ∀z:Nat,Int.fdiv (z:Int) (2^4)=((z/16:Nat):Int):=λz=>EA z 16
  have m16:z%16<16:=Nat.mod_lt _ (by decide);have FY:ZL 4 (z%16)<4294967296:=G7 4 (by omega);rw[Xr z hz,aX,Zb (Zi m16),bu,ht.dL (Zq5 m16)];simp only[aY];rw[f16,DD (by omega) FY];have hw:z/16^^^ZL 4 (z%16)<4294967296:=Gj (n:=32) (by omega) FY;generalize z/16^^^ZL 4 (z%16)=w at hw e3;have Y0:w%16<16:=Nat.mod_lt _ (by decide);rw[Xr w hw,aX,Zb (Zi Y0),bu,ht.dL (Zq5 Y0)];simp only[aY];rw[f16,DD (by omega) (G7 4 (by omega)),Zc];exact aP (l.length-(k+1)) _ _ (by omega) ⟨k+1,by rw[e3];simp,rfl,by omega,aL _⟩
 .rw[aB (show ¬(k:Int)<(l.length:Int) by omega),af,Zd,dq (by omega)]
  exact .mk rfl
theorem ZpZ (hl:ds.length=cs.length) (K:M β):ee s.length 0 ds K (s++[some ⟨false,cs⟩])=K (s++[some ⟨false,ds⟩]):=by
 unfold ee St.gE;rw[jY (aL _),Nat.sub_self];simp only[lB];rw[gf (by omega),ae];have:cw cs 0 ds=ds:=by
  have key: ∀(cs ds:ah),ds.length=cs.length->ov cs ds=ds:=by
   intro cs;induction cs with
   |nil=>intro ds h;cases ds with|nil=>rfl|cons _ _=>simp at h
   |cons c cs ih=>intro ds h;cases ds with|nil=>simp at h|cons d ds=>rw[ov,ih ds (by simpa using h)]
  have e:cw cs 0 ds=ov cs ds:=by cases cs<;>rfl
  rw[e,key cs ds hl]
 rw[this];congr 1;rw[List.set_append_right _ _ (aL _),Nat.sub_self];rfl
theorem Zt2 (n:Nat) (bs a:ai) (l:aj) (st:St) (xC:Sl st bs [.slice 1 a l.length]) (ha:dz st a l) (hl:l.length<1000000) (hn:l.length+40<=n):
  Ok (λo=>∃s',o=(.val [.int .u32 (oA l)],s')/\aD st s') (run Bd n 306 [.slice 1 bs 1] st):=by
 obtain⟨n,rfl⟩: ∃m,n=m+1:=⟨n-1,by omega⟩;rw[Ze,h.adB];unfold RQ ck xe wS N_ rJ kA pH;simp only[bc,aq];rw[Zk (Zq7 n (by omega) st)];simp only[cJ,aq,bF (Ln 16),FZ];rw[Zy,ZpZ (by rw[Ln];rfl),Za];have hp:=aD.new st (some ⟨false,yd 16⟩);have ht:Sl (st++[some ⟨false,yd 16⟩]) (some (st.length,0)) FZ:=LL st _;have US:=xC.mono hp;have tr:=ha.mono hp;generalize (st++[some ⟨false,yd 16⟩])=s1 at hp ht US tr;obtain⟨i,o,rfl⟩:=US.cD (by simp);obtain⟨m,rfl⟩: ∃m,n=m+2:=⟨n-2,by omega⟩;rw[Af];simp only[av,aq];rw[show decide ((0:Int)<((1:Nat):Int))=true from rfl,ae,aX,Zb (by rfl),show(0:Int).toNat=0 from rfl,US.dL (j:=0) rfl];simp only[lG];have hr:=ZnH (m+2) 4294967295 st.length a l s1 ht tr (by decide) hl (by omega);rw[show(4294967295:Int)=((4294967295:Nat):Int)from rfl,Zk hr];simp only[av,aq];rw[Af];simp only[av,aq];rw[show decide (ar (0+1)<((1:Nat):Int))=false from rfl,af];rw[DD (Hn l (by decide)) (by decide),Zxw (Hn l (by decide)),Zd];exact .mk ⟨s1,rfl,hp⟩
theorem Zsw (n x:Nat) (bs a:ai) (l:aj) (st:St) (xC:Sl st bs [.slice 1 a l.length]) (ha:dz st a l) (hl:l.length<1000000) (hn:l.length+41<=n):
  Ok (λo=>∃s',o=(.val [.bool (decide (oA l=x))],s')/\aD st s') (run Bd n 286 [.int .u32 x,.slice 1 bs 1] st):=by
 obtain⟨n,rfl⟩: ∃m,n=m+1:=⟨n-1,by omega⟩;rw[Ze,h.adm];unfold RE ck rJ bD Lb;simp only[av,bc,aq];refine Ok.call (Zt2 n bs a l st xC ha hl (by omega)) ?_;rintro _ ⟨s',rfl,hp⟩;refine⟨_,s',rfl,?_⟩;simp only[av,aq,Zd];refine .mk ⟨s',?_,hp⟩;congr 3;by_cases e:oA l=x
 .rw[aw e,e];exact congrArg _ (rr _)
 .rw[aB e];exact congrArg _ (dY.2 (by omega))
def rB (s:St) (a:ai) (l:aj):Prop:=Fz s a (bK l)
theorem rB.xi {a:ai} (h:rB s a l):dz s a l:=h.1
theorem rB.kp {s s':St} {a:ai} {l:aj} (h:rB s a l) (k:Kp s s'):rB s' a l:=Fz.kp h k
def rK (l:aj):Bool:=decide (l.length=64)&&(!(l.getD 4 0==0)&&(ZI ((l.drop 6).take 2)&&decide (oA (l.drop 4)=eY (l.take 4))))
def fY (l:aj):Option (Nat×Nat×aj):=bif rK l then some ((l.getD 4 0).toNat,(l.getD 5 0).toNat,l.drop 8)else none
theorem getD_some {c:UInt8} (h:l[j]? =some c):l.getD j 0=c:=by rw[dX,h];rfl
theorem agf (c:UInt8):(!((c.toNat:Int)==0))= !(c==0):=by
 by_cases h:c=0
 .subst h;rfl
 .rw[dY.2 h,dY.2]
  intro e;exact h (DS.1 (by simpa using e))
theorem ZoJ (n:Nat) (a:ai) (l:aj) (st:St) (ha:dz st a l) (hl:l.length<1000000) (hn:150<=n):
  Ok (λo=>∃s',o=(.val [.bool (rK l)],s')/\aD st s') (run Bd n 259 [.slice 1 a l.length] st):=by
 obtain⟨n,rfl⟩: ∃m,n=m+1:=⟨n-1,by omega⟩;rw[Ze,h.ac1];unfold Px ck az Cu bd lM Lb bD jf rK;simp only[bc,aq,Za];by_cases pK:l.length=64
 .rw[show(((l.length:Nat):Int)==64)=true by rw[pK];rfl,ae,aw pK,de]
  obtain⟨i,o,rfl⟩:=ha.cD (by omega);obtain⟨c,hc⟩: ∃c,l[4]? =some c:=⟨_,bU (by omega)⟩;rw[aX,Zb (show aQ 4 l.length=true from Zi (i:=4)),ha.get hc,getD_some hc];simp only[aY,au,aq];rw[agf];cases hz: !(c==0)with
  |false=>rw[af];simp only[af,Zd,eG];exact .mk ⟨st,rfl,.refl st⟩
  |true=>
   rw[ae,de];have cx:=DY n _ l 6 2 st ha hl;rw[show(6:Int)=((6:Nat):Int)from rfl,show(2:Int)=((2:Nat):Int)from rfl,Zk cx];simp only[au,aq];cases ZI ((l.drop 6).take 2)with
   |false=>simp only[af,Zd,eG];exact .mk ⟨st,rfl,.refl st⟩
   |true=>
    rw[ae,de,Zb (aw (by omega))];have Dg:(l.take 4).length=4:=by rw[cz];omega
    have hr:=zV n _ (l.take 4) st (ha.lY 4);rw[Dg]at hr;rw[rH hr (.refl st)];simp only[av,aq];rw[Zb (aw (by omega)),Zy];have hp:=aD.new st (some ⟨false,[DV.slice 1 (cU true (some (i,o)) 4) (l.length-4)]⟩);have hs:=LL st [DV.slice 1 (cU true (some (i,o)) 4) (l.length-4)];generalize (st++[some ⟨false,[DV.slice 1 (cU true (some (i,o)) 4) (l.length-4)]⟩])=s1 at hp hs;have ax:eY (l.take 4)<4294967296:=by have:=EF (l.take 4);rw[Dg]at this;exact this
    rw[Ar ax];have UU:(l.drop 4).length=l.length-4:=dT;rw[<-UU]at hs;refine Ok.call (Zsw n (eY (l.take 4)) _ _ (l.drop 4) s1 hs ((ha.mono hp).cU (by omega)) (by omega) (by omega)) ?_;rintro _ ⟨s2,rfl,aZ⟩;refine⟨_,s2,rfl,?_⟩;simp only[au,aq,Zd];exact .mk ⟨s2,rfl,hp.trans aZ⟩
 .rw[show(((l.length:Nat):Int)==64)=false from dY.2 (by omega),af,aB pK]
  simp only[au,aq,af,Zd,eG];exact .mk ⟨st,rfl,.refl st⟩
theorem ZoK (n:Nat) (a:ai) (l:aj) (st:St) (ha:dz st a l) (h0:0<l.length) (hl:l.length<1000000):
  Ok (λo=>∃p s',o=(.val [.slice 1 p l.length],s')/\aD st s'/\rB s' p l) (run Bd (n+1) 260 [.slice 1 a l.length] st):=by
 rw[Ze,h.ac2];unfold Qh ck bD;simp only[bc,aq];rw[Z5];obtain⟨i,o,rfl⟩:=ha.cD h0;rw[show((some (i,o):ai).isNone)=false from rfl,af,Zy];have hp:=aD.new st (some ⟨false,[]⟩);have ho:ba st (st++[some ⟨false,[]⟩]) (some (st.length,0)) []:=⟨hp,.inr ⟨st.length,rfl,aL _,by simp⟩⟩;have tr:=ha.mono hp;generalize (st++[some ⟨false,[]⟩])=s1 at hp ho tr;rw[cP,<-Zq l,iD tr];obtain⟨p,s2,c8,he⟩:=ho.app (β:=ah) (sz:=1) (n:=0) (m:=l.length) (lim:=70368744177664) (ds:=bK l) (by omega) (by simp) h0 (by omega);rw[Zq,he,Zs];rw[gU]at c8;exact .mk ⟨p,_,by rw[ej],Zu c8.1,c8.fz⟩
theorem D1 (n:Nat) (a:ai) (l:aj) (st:St) (ha:dz st a l) (hl:l.length<1000000) (hn:152<=n:=by omega):
  Ok (λo=>∃s',aD st s'/\match fY l with
   |none=>o=(.val [.int .i64 0,.int .i64 0,.slice 0 none 0,.bool false],s')
   |some (k,t,b)=>∃p,o=(.val [.int .i64 (k:Nat),.int .i64 (t:Nat),.slice 1 p 56,.bool true],s')/\rB s' p b/\b.length=56/\k<256/\t<256) (run Bd n 237 [.slice 1 a l.length] st):=by
 obtain⟨n,rfl⟩: ∃m,n=m+2:=⟨n-2,by omega⟩;rw[Ze,h.acH];unfold QJ ck bd lM bD fY;simp only[bc,aq];rw[Z5];refine Ok.call (ZoJ (n+1) a l st ha hl (by omega)) ?_;rintro _ ⟨s1,rfl,hp⟩;refine⟨_,s1,rfl,?_⟩;simp only[au,aq];cases hr:rK l with
 |false=>
  rw[bp,ae,Zs];simp only[af];exact .mk ⟨_,Zu hp,rfl⟩
 |true=>
  have pK:l.length=64:=by
   unfold rK at hr;rw[aR]at hr;exact iR hr.1
  rw[bm,af];simp only[ae];have tr:=ha.mono hp;obtain⟨i,o,rfl⟩:=tr.cD (by omega);obtain⟨c4,hc4⟩: ∃c,l[4]? =some c:=⟨_,bU (by omega)⟩;obtain⟨c5,hc5⟩: ∃c,l[5]? =some c:=⟨_,bU (by omega)⟩;rw[aX,Zb (show aQ 4 l.length=true from Zi (i:=4)),tr.get hc4];simp only[aY];rw[aX,Zb (show aQ 5 l.length=true from Zi (i:=5)),tr.get hc5];simp only[aY];rw[Zb (aw (by omega))];have hb:=tr.cU (k:=8) (by omega);have hd:(l.drop 8).length=l.length-8:=dT;have cL:=ZoK n _ (l.drop 8) s1 hb (by omega) (by omega);rw[hd]at cL;obtain⟨_,e,p,s2,rfl,aZ,hf⟩:=cL;rw[rH e aZ];simp only[bc,aq,Zs];have h4:=c4.toNat_lt;have h5:=c5.toNat_lt;rw[getD_some hc4,getD_some hc5,Zc,Zc];refine .mk ⟨_,Zu (hp.trans aZ),p,?_,hf.kp (Zye _ _),by omega,h4,h5⟩;rw[pK]
structure jo where
 bH:bh
 kids:ak
def nR (x:jo) (z:Nat) (p:ai):ah:=eR x.bH++[.slice z p x.kids.length]
def cW (l:aj) (at' k:Nat):Int:=ar ((rd l at' k:Nat):Int)
def Dp (k:Int):Bool:=decide (k<2)||decide (k>=3072)
def ot (x:jo):Bool:= !(decide (x.bH.slot<0)||(decide (x.bH.slot>=1792)||(decide (x.bH.gen<1)||(decide (x.bH.gen>4294967295)||decide ((x.kids.length:Int)>12)))))&& !x.kids.any Dp
def oo (b:aj) (t:Nat):ak:=(List.range t).map λj=>cW b (24+2*j) 2
theorem Cc (b:aj) (t:Nat):(oo b t).length=t:=by unfold oo;simp
theorem Zmu (b:aj) (t:Nat):oo b (t+1)=oo b t++[cW b (24+2*t) 2]:=by unfold oo;rw[vj,fg];rfl
def lK (b:aj) (t:Nat):jo:=⟨⟨cW b 16 4,cW b 20 4,cW b 0 8,cW b 8 8⟩,oo b t⟩
def iz (l:aj):Option jo:=match fY l with
 |none=>none
 |some (k,t,b)=>bif decide (k=1)&&decide (t<=12)then(bif ot (lK b t)&&ZI (b.drop (24+2*t))then some (lK b t)else none)else none
theorem GG (n:Nat) (a:ai) (l:aj) (at' k:Nat) (I K:Int) (hI:I=at') (hK:K=k) (st:St) (ha:dz st a l) (hl:l.length<1000000:=by omega) (h1:1<=k:=by omega) (h8:k<=8:=by omega) (hk:at'+k<=l.length:=by omega) (hn:21<=n:=by omega):
  run Bd n 295 [.slice 1 a l.length,.int .i64 I,.int .i64 K] st=some (.val [.int .i64 (cW l at' k)],st):=by
 subst hI hK;obtain⟨n,rfl⟩: ∃m,n=m+1:=⟨n-1,by omega⟩;rw[Ze,h.adv];unfold Pu wU iy jf Li;simp only[bc,av,aq];rw[Zk (ZrQ n a l at' k st ha hl h1 h8 hk (by omega))];simp only[av,au,aq,Zd];rfl
theorem ZnG (n:Nat) (k:Int) (st:St):run Bd (n+1) 313 [.int .i64 k] st=some (.val [.bool (Dp k)],st):=by
 rw[Ze,h.adI];unfold P0 cA az Lb Dp;simp only[av,aq,Za,au];cases decide (k<2)<;>simp only[ae,af,Zd,zJ,sK]
theorem Zqm (n:Nat) (x:jo) (p:ai) (st:St) (hs:Sl st p (ints x.kids)) (hl:x.kids.length<1000000) (hn:x.kids.length+20<=n):
  run Bd n 296 [.agg (nR x 1 p)] st=some (.val [.bool (ot x)],st):=by
 obtain⟨n,rfl⟩: ∃m,n=m+1:=⟨n-1,by omega⟩;rw[Ze,h.adw];have MB:=Zo7 n 1 313 [] [] x.kids p st Dp (.inl rfl) hs (by omega) hl (λv _=>by
  obtain⟨m,hm⟩: ∃m,n-2=m+1:=⟨n-3,by omega⟩;rw[hm];exact ZnG m v st)
 unfold Qx D6 az bd Lb nR eR ot;simp only[nr,gU,cJ,av,bc,aq,Za];cases decide (x.bH.slot<0)with
 |true=>simp only[ae,au,aq,Zd,zJ,bm,eG]
 |false=>
 cases decide (x.bH.slot>=1792)with
 |true=>simp only[ae,af,au,aq,Zd,zJ,sK,bm,eG]
 |false=>
 cases decide (x.bH.gen<1)with
 |true=>simp only[ae,af,au,aq,Zd,zJ,sK,bm,eG]
 |false=>
 cases decide (x.bH.gen>4294967295)with
 |true=>simp only[ae,af,au,aq,Zd,zJ,sK,bm,eG]
 |false=>
 cases decide ((x.kids.length:Int)>12)with
 |true=>simp only[ae,af,au,aq,Zd,sK,bm,eG]
 |false=>
  simp only[af,au,aq,sK,bp,de];rw[Zk MB];simp only[au,aq,Zd]
theorem KQ {x:jo} (h:iz l=some x):ot x=true/\x.kids.length<=12:=by
 unfold iz at h;split at h
 .cases h
 .rename_i k t b _
  cases e:(decide (k=1)&&decide (t<=12))with
  |false=>rw[e]at h;cases h
  |true=>
   rw[e]at h;cases e2:(ot (lK b t)&&ZI (b.drop (24+2*t)))with
   |false=>rw[e2]at h;cases h
   |true=>
    rw[e2]at h;cases h;rw[aR]at e e2;refine⟨e2.1,?_⟩;show(oo b t).length<=12;rw[Cc];exact iR e.2
theorem ZsZ (n:Nat) (a:ai) (l:aj) (st:St) (ha:dz st a l) (hl:l.length<1000000) (hn:160<=n):
  Ok (λo=>∃s',aD st s'/\match iz l with
   |none=>o=(.val [.agg [.int .i64 0,.int .i64 0,.int .i64 0,.int .i64 0,.slice 0 none 0],.bool false],s')
   |some x=>∃p,o=(.val [.agg (nR x 1 p),.bool true],s')/\Fz s' p (ints x.kids)) (run Bd n 272 [.slice 1 a l.length] st):=by
 obtain⟨n,rfl⟩: ∃m,n=m+1:=⟨n-1,by omega⟩;rw[Ze,h.adg];unfold RC ck ug az cQ En bd D8 mK bD Ab jf wR D9 Lb Li Eb Ec iz;simp only[bc,aq,Za];rw[Z5];refine Ok.call (D1 n a l st ha hl) ?_;rintro _ ⟨s1,aG,ho⟩;cases ef:fY l with
 |none=>
  rw[ef]at ho;subst ho;refine⟨_,s1,rfl,?_⟩;simp only[av,au,aq,Zg 1 0 none _ (.inr rfl)];rw[bp,ae];simp only[ae];rw[Zs];exact .mk ⟨_,Zu aG,rfl⟩
 |some q=>
  obtain⟨k,t,b⟩:=q;rw[ef]at ho;obtain⟨p1,rfl,hf,hb,hk,ht⟩:=ho;refine⟨_,s1,rfl,?_⟩;simp only[av,au,bc,aq];rw[bm,af];have e1:(((k:Nat):Int)==1)=decide (k=1):=by
   by_cases jx:k=1
   .subst jx;rfl
   .rw[aB jx];exact dY.2 (by omega)
  rw[e1];cases jx:decide (k=1)with
  |false=>
   rw[bp];simp only[ae,eG,af];rw[Zs];exact .mk ⟨_,Zu aG,rfl⟩
  |true=>
  rw[bm];simp only[af,de];by_cases kl:t<=12
  .rw[aB (show ¬((t:Nat):Int)>12 by omega),aw kl]
   simp only[af,ae];have ep:=hf.xi;rw[show(56:Nat)=b.length from hb.symm];rw[Zk (GG n p1 b 16 4 16 4 rfl rfl s1 ep)];simp only[av,aq];rw[Zk (GG n p1 b 20 4 20 4 rfl rfl s1 ep)];simp only[av,aq];rw[Zk (GG n p1 b 0 8 0 8 rfl rfl s1 ep)];simp only[av,aq];rw[Zk (GG n p1 b 8 8 8 8 rfl rfl s1 ep)];simp only[av,aq];refine Zj _ (λq y s=>∃(i z:Nat) (p:ai),y=[.agg [.int .i64 (cW b 16 4),.int .i64 (cW b 20 4),.int .i64 (cW b 0 8),.int .i64 (cW b 8 8),.slice z p i],.int .i64 i]/\(z=1\/p=none)/\i<=t/\t-i<=q/\ba st s p (ints (oo b i))/\rB s p1 b) ?_ t n _ _ ⟨0,0,none,rfl,.inr rfl,cn _,by omega,ba.nil aG,hf⟩ (by omega);rintro q _ s ⟨i,z,p,rfl,hz,hi,hq,ho,Fp⟩ rec aP;simp only[cJ,av,Zg 1 z p _ hz,aq];by_cases ax:i<t
   .rw[aw (show(i:Int)<(t:Int) by omega),ae,Zc (x:=2*(i:Int)),Zc,show(24+2*(i:Int))=((24+2*i:Nat):Int) by omega]
    rw[wY (GG n p1 b (24+2*i) 2 _ 2 rfl rfl s Fp.xi)];simp only[av,aq];obtain⟨p2,s2,c8,qM,he⟩:=ho.BD (β:=ah) (sz:=1) (n:=i) (lim:=8796093022208) [.int .i64 (cW b (24+2*i) 2)] (wI 0) (by simp[ints,Cc]) rfl (by omega);rw[he,Zc];refine aP (t-(i+1)) _ _ (by omega) ⟨i+1,1,p2,by simp,.inl rfl,by omega,aL _,?_,Fp.kp qM⟩;rw[Zmu];show ba st s2 p2 (List.map _ _);rw[fg];exact c8
   .rw[aB (show ¬(i:Int)<(t:Int) by omega),af]
    have C0:i=t:=by omega
    subst C0;have hr:=Zqm n (lK b i) p s ho.sl (by show(oo b i).length<_;rw[Cc];omega) (by show(oo b i).length+_<=_;rw[Cc];omega);have hc:nR (lK b i) 1 p=[.int .i64 (cW b 16 4),.int .i64 (cW b 20 4),.int .i64 (cW b 0 8),.int .i64 (cW b 8 8),.slice 1 p i]:=by
     show eR _++[DV.slice 1 p (oo b i).length]=_;rw[Cc];rfl
    simp only[bc,aq];rw[<-hc,Zk hr];simp only[au,aq];cases hrn:ot (lK b i)with
    |false=>
     rw[bp,ae];simp only[eG,af];rw[Zs];exact .mk ⟨_,Zu ho.1,rfl⟩
    |true=>
     rw[bm,af,Zc (x:=2*(i:Int)),Zc (x:=24+2*(i:Int)),Zc];rw[show(24+2*(i:Int))=((24+2*i:Nat):Int) by omega,show((b.length:Nat):Int)-((24+2*i:Nat):Int)=((b.length-(24+2*i):Nat):Int) by omega];rw[Zk (DY n p1 b (24+2*i) (b.length-(24+2*i)) s Fp.xi)];rw[dq (by rw[dT];exact aL _)];simp only[au,aq,de];cases ZI (b.drop (24+2*i))with
     |false=>
      simp only[bp,ae,af];rw[Zs];exact .mk ⟨_,Zu ho.1,rfl⟩
     |true=>
      simp only[bm,ae,af];rw[Zs];exact .mk ⟨_,Zu ho.1,p,rfl,ho.fz⟩
  .rw[aw (show((t:Nat):Int)>12 by omega),aB kl]
   simp only[af,ae];rw[Zs];exact .mk ⟨_,Zu aG,rfl⟩
theorem ZqK: ∀(B D C:ah),B.length=D.length->ov (B++C) D=D++C
 |[],[],C,_=>by simp[ZuM]
 |b::B,d::D,C,h=>by show d::ov (B++C) D=_;rw[ZqK B D C (by simpa using h)];rfl
 |[],_::_,_,h=>by cases h
 |_::_,[],_,h=>by cases h
theorem rN: ∀(A B C D:ah),B.length=D.length->cw (A++(B++C)) A.length D=A++(D++C)
 |[],B,C,D,h=>by
  show cw (B++C) 0 D=D++C;rw[<-ZqK B D C h];cases B++C<;>rfl
 |a::A,B,C,D,h=>by show a::cw (A++(B++C)) A.length D=_;rw[rN A B C D h];rfl
def fF (t j:Nat):Bool:=decide (t/2^j%2=1)
theorem Zu4 (ht:t<9223372036854775808) (hj:j<=63):bits .and .i64 ((t:Int).fdiv (2^(min j 64))) 1=((t/2^j%2:Nat):Int):=by
 rw[kT (by omega),show((2:Int)^j)=((2^j:Nat):Int) by push_cast;rfl,EA];have h1:t/2^j<9223372036854775808:=DM (DL _ _) ht;show IntKind.wrap .i64 ((BitVec.ofInt 64 ((t/2^j:Nat):Int)&&& BitVec.ofInt 64 (1:Int)).toNat:Int)=_;rw[BitVec.toNat_and,HH (by omega),show(BitVec.ofInt 64 (1:Int)).toNat=1 from rfl,Nat.and_one_is_mod];exact Zc
theorem Ztb (ht:t<9223372036854775808:=by omega) (hj:j<=63:=by omega):(bits .and .i64 ((t:Int).fdiv (2^(min j 64))) 1==1)=fF t j:=by
 rw[Zu4 ht hj];grind[fF]
theorem ZwS (ht:t<9223372036854775808) (hj:j<=63):(bits .and .i64 ((t:Int).fdiv (2^(min j 64))) 1==0)= !fF t j:=by
 rw[Zu4 ht hj];grind[fF]
structure bA where
 live:Bool
 gen:Int
 block:Int
def ez (x:bA):ah:=[.bool x.live,.int .i64 x.gen,.int .i64 x.block]
def bR (l:List bA):ah:=(l.map ez).flatten
theorem Zz (l:List bA):(bR l).length=l.length*3:=by
 unfold bR;induction l with
 |nil=>rfl
 |cons e l ih=>rw[nZ,yh,bz,ih,cH];show 3+_=_;omega
theorem G3 (l m:List bA):bR (l++m)=bR l++bR m:=by simp[bR]
def jl:bA:=⟨false,0,0⟩
def nc:List bA:=List.replicate 7 jl
def lh (v f t:Int):Bool:=bif decide (v>=f)then decide (v<=t)else false
def ZJ (x:bA):Bool:=bif x.live then lh x.gen 1 4294967295&&lh x.block 2 3071 else lh x.gen 0 4294967295&&(lh x.block 0 1792&&(decide (x.gen>0)||x.block==0))
def vy (b:aj) (t j:Nat):bA:=⟨fF t j,cW b (8*j) 4,cW b (8*j+4) 4⟩
def ZM (b:aj) (t n:Nat):List bA:=(List.range n).map (vy b t)
theorem Aa (b:aj) (t n:Nat):(ZM b t n).length=n:=by unfold ZM;simp
theorem GI (b:aj) (t n:Nat):ZM b t (n+1)=ZM b t n++[vy b t n]:=by simp[ZM,vj,fg]
def ZH (l:aj):Option (List bA):=match fY l with
 |none=>none
 |some (k,t,b)=>bif decide (k=2)&&decide (t<128)then(bif (ZM b t 7).all ZJ then some (ZM b t 7)else none)else none
theorem GF (n:Nat) (v f t:Int) (st:St):run Bd (n+1) 314 [.int .i64 v,.int .i64 f,.int .i64 t] st=some (.val [.bool (lh v f t)],st):=by
 rw[Ze,h.adJ];unfold PC Cw az Lb lh;simp only[av,aq,Za,au];cases decide (v>=f)<;>rfl
theorem Zmo (n:Nat) (x:bA) (st:St):run Bd (n+2) 297 [.agg (ez x)] st=some (.val [.bool (ZJ x)],st):=by
 rw[Ze,h.adx];unfold OK qo bd az yo Lb ez ZJ;simp only[cJ,av,au,aq,Za];cases x.live with
 |true=>
  rw[ae,ae,Zk (GF n _ _ _ st)];simp only[au,aq];cases lh x.gen 1 4294967295 with
  |false=>rfl
  |true=>
   rw[ae,Zk (GF n _ _ _ st)];rfl
 |false=>
  rw[af,af,Zk (GF n _ _ _ st)];simp only[au,aq];cases lh x.gen 0 4294967295 with
  |false=>rfl
  |true=>
   rw[ae,Zk (GF n _ _ _ st)];simp only[au,aq,de];cases lh x.block 0 1792 with
   |false=>rfl
   |true=>
    cases decide (x.gen>0)<;>rfl
theorem nE (k c:Nat) (C:Int) (hC:C=c:=by omega):(((k:Nat):Int)==C)=decide (k=c):=by
 grind
theorem Zoe (n:Nat) (a:ai) (l:aj) (st:St) (ha:dz st a l) (hl:l.length<1000000) (hn:160<=n):
  Ok (λo=>∃s',aD st s'/\match ZH l with
   |none=>o=(.val [.agg (bR nc),.bool false],s')
   |some x=>o=(.val [.agg (bR x),.bool true],s')) (run Bd n 273 [.slice 1 a l.length] st):=by
 obtain⟨n,rfl⟩: ∃m,n=m+1:=⟨n-1,by omega⟩;rw[Ze,h.adh];unfold O0 ck ug az cA Cu bd bD ZG rC Z9 Lb ZH;simp only[bc,aq,Za];refine Ok.call (D1 n a l st ha hl) ?_;rintro _ ⟨s1,aG,ho⟩;cases ef:fY l with
 |none=>
  rw[ef]at ho;subst ho;refine⟨_,s1,rfl,?_⟩;simp only[av,au,aq,Zg 1 0 none _ (.inr rfl)];rw[bp,ae];simp only[ae,Zd];exact .mk ⟨_,aG,rfl⟩
 |some q=>
  obtain⟨k,t,b⟩:=q;rw[ef]at ho;obtain⟨p1,rfl,hf,hb,hk,ht⟩:=ho;refine⟨_,s1,rfl,?_⟩;simp only[av,au,bc,aq];rw[bm,af,nE k 2 2 rfl];cases jx:decide (k=2)with
  |false=>
   rw[bp];simp only[ae,eG,af,Zd];exact .mk ⟨_,aG,rfl⟩
  |true=>
  rw[bm];simp only[af,de];by_cases kl:t<128
  .rw[aB (show ¬((t:Nat):Int)>=128 by omega),aw kl]
   simp only[af,ae];have ep:=hf.xi;refine Zj _ (λq y s=>∃i:Nat,y=[.agg (bR nc),.agg (bR (ZM b t i)++bR (List.replicate (7-i) jl)),.int .i64 i]/\i<=7/\7-i<=q/\s=s1/\(ZM b t i).all ZJ=true) ?_ 7 n _ _ ⟨0,rfl,by omega,by omega,rfl,rfl⟩ (by omega);rintro q _ s ⟨i,rfl,hi,hq,rfl,cS⟩ rec aP;have hlen:(bR (ZM b t i)++bR (List.replicate (7-i) jl)).length=21:=by
    rw[bz,Zz,Zz,Aa,vh];omega
   simp only[cJ,av,aq];rw[bF (cs:=bR nc) (n:=21) rfl,bF hlen];by_cases ax:i<7
   .have cG:ar ((i:Int)+1)=((i+1:Nat):Int):=Zc
    have fP:ar (8*((i+1:Nat):Int))=((8*(i+1):Nat):Int):=Zc;have jO:ar (8*(i:Int))=((8*i:Nat):Int):=Zc;simp only[cG,fP,jO,bu,cP];rw[aw (show(i:Int)<7 by omega),ae];rw[Zb (by rw[aR,bq,bq];omega),Zb (by rw[aR,bq,bq];omega),Zb (aw (by omega)),Zb (aw (by omega))];have iJ:=ep.cU (k:=8*i) (by omega);have tz:(b.drop (8*i)).length=56-8*i:=by rw[dT,hb]
    have IQ:((b.drop (8*i)).take 4).length=4:=by rw[cz];omega
    have kf:=zV n _ ((b.drop (8*i)).take 4) s (iJ.lY 4);rw[IQ]at kf;rw[rH kf (.refl s)];simp only[av,aq];rw[Zb (aw (by omega)),show 8*(i+1)-8*i-4=4 by omega];have j7:=iJ.cU (k:=4) (by omega);have ht3:(((b.drop (8*i)).drop 4).take 4).length=4:=by rw[cz,dT];omega
    have jM:=zV n _ (((b.drop (8*i)).drop 4).take 4) s (j7.lY 4);rw[ht3]at jM;rw[rH jM (.refl s)];simp only[av,aq];rw[jX,Ztb];obtain⟨n,rfl⟩: ∃m,n=m+2:=⟨n-2,by omega⟩;have FN:=Zmo n (vy b t i) s;have VQ:ez (vy b t i)=[.bool (fF t i),.int .i64 (ar ((eY ((b.drop (8*i)).take 4):Nat):Int)),.int .i64 (ar ((eY ((b.drop (8*i+4)).take 4):Nat):Int))]:=rfl;rw[<-VQ,Zk FN];simp only[au,aq];cases Dd:ZJ (vy b t i)with
    |false=>
     rw[bp,ae];have:(ZM b t 7).all ZJ=false:=JJ.2 ⟨vy b t i,tN.2 (by grind),by rw[Dd];decide⟩;rw[this,af,Zd];exact .mk ⟨s,aG,rfl⟩
    |true=>
     rw[bm,af,Zb (show aQ (i:Int) 7=true from Zi ax),Zb (gf (by omega))];refine aP (7-(i+1)) _ _ (by omega) ⟨i+1,?_,by omega,aL _,rfl,?_⟩
     .congr 3
      rw[GI,G3,show List.replicate (7-i) jl=jl::List.replicate (7-(i+1)) jl by rw[show 7-i=(7-(i+1))+1 by omega];rfl];show cw (bR (ZM b t i)++(ez jl++bR (List.replicate (7-(i+1)) jl))) (i*3) (ez (vy b t i))=_;have e3:i*3=(bR (ZM b t i)).length:=by rw[Zz,Aa]
      rw[e3,rN (bR (ZM b t i)) (ez jl) (bR (List.replicate (7-(i+1)) jl)) (ez (vy b t i)) rfl,fD];rfl
     .rw[GI,rj,cS]
      simp[Dd]
   .rw[aB (show ¬(i:Int)<7 by omega),af]
    have pP:i=7:=by omega
    subst pP;rw[bF (cs:=bR nc) (n:=21) rfl,bF hlen,bF hlen,cS,ae,Zd];refine .mk ⟨s,aG,?_⟩;show _=(Out.val [DV.agg (bR (ZM b t 7)),_],s);rw[show bR (List.replicate (7-7) jl)=[]from rfl,gG]
  .rw[aw (show((t:Nat):Int)>=128 by omega),aB kl]
   simp only[af,ae,Zd];exact .mk ⟨_,aG,rfl⟩
def Am (l:ak):Bool:=l.all λv=>v==0||lh v 2 3071
def dP (b:aj) (n:Nat):ak:=(List.range n).map λj=>cW b (2*j) 2
theorem om (b:aj) (n:Nat):(dP b n).length=n:=by unfold dP;simp
theorem KE (b:aj) (n:Nat):dP b (n+1)=dP b n++[cW b (2*n) 2]:=by simp[dP,vj,fg]
def Z0 (l:aj):Option (ak):=match fY l with
 |none=>none
 |some (k,t,b)=>bif decide (k=3)&&(decide (t=0)&&ZI (b.drop 32))then(bif Am (dP b 16)then some (dP b 16)else none)else none
theorem ZA {l:ak} (h:j<l.length:=by omega):(ints l)[j]? =some (.int .i64 l[j]):=by simp[ints,h]
theorem hU (h:cs[i]? =some d) (K:DV->M β):eD cs i K=K d:=by unfold eD;rw[h]
theorem Zm6 (n:Nat) (l:ak) (st:St) (hl:l.length=16) (hn:22<=n):run Bd n 298 [.agg (ints l)] st=some (.val [.bool (Am l)],st):=by
 obtain⟨n,rfl⟩: ∃m,n=m+2:=⟨n-2,by omega⟩;rw[Ze,h.ady];unfold Pn Q_ cI az bd Lb Li yo Am;have hlen:(ints l).length=16:=by simp[ints,hl]
 simp only[cJ,aq,Za];rw[bF hlen,bF hlen];refine ok_eq ?_;refine Zj _ (λq y s=>∃i:Nat,y=[.int .i64 i]/\i<=16/\16-i<=q/\s=st/\(l.take i).all (λv=>v==0||lh v 2 3071)=true) ?_ 16 (n+1) _ _ (by grind) (by omega);rintro q _ s ⟨i,rfl,hi,hq,rfl,cS⟩ rec aP;simp only[av,aq];by_cases ax:i<16
 .rw[aw (show(i:Int)<16 by omega),ae,Zb (show aQ (i:Int) 16=true from Zi ax),bu,cP,hU (ZA)]
  simp only[aY];have hw:ar ((i:Int)+1)=((i+1:Nat):Int):=Zc;have aN:(l[i]==0||lh l[i] 2 3071)=true->Ok (λp=>p=(Out.val [DV.bool (l.all λv=>v==0||lh v 2 3071)],s)) (rec [.int .i64 (ar ((i:Int)+1))] s):=λe=>by
   rw[hw];refine aP (16-(i+1)) _ _ (by omega) ⟨i+1,rfl,by omega,aL _,rfl,?_⟩;rw[kS (by omega),rj,cS];simpa using e
  have cx:(l[i]==0||lh l[i] 2 3071)=false->(l.all λv=>v==0||lh v 2 3071)=false:=by grind
  cases h0:(l[i]==0)with
  |true=>
   rw[bm,af];simp_all
  |false=>
   rw[bp,ae,Zk (GF n _ _ _ s)];simp only[au,aq];cases fP:lh l[i] 2 3071 with
   |true=>
    rw[bm,af];grind
   |false=>
    rw[bp,ae,Zd,cx (by rw[h0,fP];rfl)];exact .mk rfl
 .rw[aB (show ¬(i:Int)<16 by omega),af,Zd]
  rw[dq (by omega)]at cS;rw[cS];exact .mk rfl
theorem ZoV (n:Nat) (a:ai) (l:aj) (st:St) (ha:dz st a l) (hl:l.length<1000000) (hn:160<=n):
  Ok (λo=>∃s',aD st s'/\match Z0 l with
   |none=>o=(.val [.agg (ints (List.replicate 16 0)),.bool false],s')
   |some x=>o=(.val [.agg (ints x),.bool true],s')/\x.length=16) (run Bd n 274 [.slice 1 a l.length] st):=by
 obtain⟨n,rfl⟩: ∃m,n=m+1:=⟨n-1,by omega⟩;rw[Ze,h.adi];unfold PS ck ug az bd cA As bD Li Lb jf Z0;simp only[bc,aq,Za];refine Ok.call (D1 n a l st ha hl) ?_;rintro _ ⟨s1,aG,ho⟩;cases ef:fY l with
 |none=>
  rw[ef]at ho;subst ho;refine⟨_,s1,rfl,?_⟩;simp only[av,au,aq,Zg 1 0 none _ (.inr rfl)];rw[bp,ae];simp only[ae,Zd];exact .mk ⟨_,aG,rfl⟩
 |some q=>
  obtain⟨k,t,b⟩:=q;rw[ef]at ho;obtain⟨p1,rfl,hf,hb,hk,ht⟩:=ho;refine⟨_,s1,rfl,?_⟩;simp only[av,au,bc,aq];rw[bm,af,nE k 3 3 rfl,nE t 0 0 rfl];cases jx:decide (k=3)with
  |false=>
   rw[bp];simp only[ae,eG,af,Zd];exact .mk ⟨_,aG,rfl⟩
  |true=>
  rw[bm];simp only[af,de];cases IQ:decide (t=0)with
  |false=>
   rw[bp];simp only[ae,eG,af,Zd];exact .mk ⟨_,aG,rfl⟩
  |true=>
  rw[bm];simp only[af,de];have ep:=hf.xi;have cx:=DY n p1 b 32 24 s1 ep;rw[hb,dq (by rw[dT];omega)]at cx;rw[show ar (((56:Nat):Int)-32)=((24:Nat):Int) by decide,show(32:Int)=((32:Nat):Int)from rfl,Zk cx];simp only[au,aq];cases ZI (b.drop 32)with
  |false=>
   simp only[bp,ae,af,Zd];exact .mk ⟨_,aG,rfl⟩
  |true=>
   rw[bm];simp only[ae,af];refine Zj _ (λq y s=>∃i:Nat,y=[.agg (ints (dP b i)++ints (List.replicate (16-i) 0)),.int .i64 i]/\i<=16/\16-i<=q/\s=s1) ?_ 16 n _ _ ⟨0,rfl,by omega,by omega,rfl⟩ (by omega);rintro q _ s ⟨i,rfl,hi,hq,rfl⟩ rec aP;have hlen:(ints (dP b i)++ints (List.replicate (16-i) 0)).length=16:=by
    simp[ints,om];omega
   simp only[cJ,av,aq];rw[bF hlen];by_cases ax:i<16
   .have cG:ar ((i:Int)+1)=((i+1:Nat):Int):=Zc
    have fP:ar (2*((i+1:Nat):Int))=((2*(i+1):Nat):Int):=Zc;have jO:ar (2*(i:Int))=((2*i:Nat):Int):=Zc;simp only[cG,fP,jO,bu,cP];rw[aw (show(i:Int)<16 by omega),ae];rw[Zb (by rw[aR,bq,bq];omega),Zb (by rw[aR,bq,bq];omega)];have iJ:=ep.cU (k:=2*i) (by omega);have tz:((b.drop (2*i)).take 2).length=2:=by rw[cz,dT];omega
    have kf:=zV n _ ((b.drop (2*i)).take 2) s (iJ.lY 2);rw[tz]at kf;rw[show 2*(i+1)-2*i=2 by omega,Zk kf];simp only[av,aq];rw[Zb (show aQ (i:Int) 16=true from Zi ax),Zb (gf (by omega))];refine aP (16-(i+1)) _ _ (by omega) ⟨i+1,?_,by omega,aL _,rfl⟩;congr 2;rw[KE,show List.replicate (16-i) (0:Int)=0::List.replicate (16-(i+1)) 0 by rw[show 16-i=(16-(i+1))+1 by omega];rfl];have e3:i=(ints (dP b i)).length:=by simp[ints,om]
    have e4:=rN (ints (dP b i)) [.int .i64 0] (ints (List.replicate (16-(i+1)) 0)) [.int .i64 (cW b (2*i) 2)] rfl;rw[<-e3]at e4;show cw (ints (dP b i)++([.int .i64 0]++ints (List.replicate (16-(i+1)) 0))) i [.int .i64 (cW b (2*i) 2)]=ints (dP b i++[cW b (2*i) 2])++_;rw[e4,show ints (dP b i++[cW b (2*i) 2])=ints (dP b i)++[.int .i64 (cW b (2*i) 2)] by unfold ints;rw[fg];rfl,fD]
   .rw[aB (show ¬(i:Int)<16 by omega),af]
    have pP:i=16:=by omega
    subst pP;rw[bF hlen];rw[show ints (dP b 16)++ints (List.replicate (16-16) 0)=ints (dP b 16)from gG _]at hlen⊢;rw[Zk (Zm6 n (dP b 16) s (om b 16) (by omega))];simp only[au,aq];cases Am (dP b 16)with
    |false=>
     rw[bp,ae,Zd];exact .mk ⟨_,aG,rfl⟩
    |true=>
     rw[bm,af,bF hlen,Zd];exact .mk ⟨_,aG,rfl,om b 16⟩
theorem ZrD (n:Nat) (l:ak) (v:Int) (p:ai) (st:St) (hs:Sl st p (ints l)) (hl:l.length<1000000) (hn:l.length+3<=n):
  Ok (λo=>∃y:Int,o=(.val [.int .i64 y],st)/\decide (y>=0)=decide (v∈l)) (run Bd n 254 [.slice 1 p l.length,.int .i64 v] st):=by
 obtain⟨n,rfl⟩: ∃m,n=m+1:=⟨n-1,by omega⟩;rw[Ze,h.acY];unfold OE rL Q_ cI Zn Li;simp only[bc,av,aq,Za];refine Zj _ (λq y s=>∃i:Nat,y=[.int .i64 i]/\i<=l.length/\l.length-i<=q/\s=st/\v∉l.take i) ?_ l.length n _ _ (by grind) (by omega);rintro q _ s ⟨i,rfl,hi,hq,rfl,cx⟩ rec aP;simp only[av,aq];by_cases ax:i<l.length
 .obtain⟨i1,o1,rfl⟩:=hs.cD (by simp[ints];omega)
  rw[aw (show(i:Int)<(l.length:Int) by omega),ae,aX,Zb (Zi ax),bu,hs.dL (ZA ax)];simp only[aY];by_cases hv:v=l[i]
  .rw[show(v==l[i])=true by rw[hv];simp,ae,Zd]
   refine .mk ⟨_,rfl,?_⟩;rw[aw (by omega),aw];rw[hv];simp
  .rw[dY.2 hv,af,Zc]
   refine aP (l.length-(i+1)) _ _ (by omega) ⟨i+1,rfl,by omega,aL _,rfl,?_⟩;rw[kS ax];grind
 .rw[aB (show ¬(i:Int)<(l.length:Int) by omega),af,Zd]
  rw[dq (by omega)]at cx;exact .mk (by grind)
theorem ZiH (n:Nat) (l:ak) (v:Int) (p:ai) (st:St) (hs:Sl st p (ints l)) (hl:l.length<1000000) (hn:l.length+4<=n):
  run Bd n 222 [.slice 1 p l.length,.int .i64 v] st=some (.val [.bool (decide (v∈l))],st):=by
 obtain⟨n,rfl⟩: ∃m,n=m+1:=⟨n-1,by omega⟩;rw[Ze,h.acs];unfold Oo rL cQ eW Lb;simp only[bc,av,aq];refine ok_eq ?_;refine Ok.call (ZrD n l v p st hs hl (by omega)) ?_;rintro _ ⟨y,rfl,e⟩;refine⟨_,st,rfl,?_⟩;simp only[av,aq,Zd];rw[e];exact .mk rfl
def rQ (v:Int):Bool:=bif decide (v>=2)then decide (v<3072)else false
theorem Zfn (n:Nat) (v:Int) (st:St):run Bd (n+1) 315 [.int .i64 v] st=some (.val [.bool (rQ v)],st):=by
 rw[Ze,h.adK];unfold OA cA az Lb rQ;simp only[av,aq,Za,au];cases decide (v>=2)<;>rfl
structure ZC where
 name:aj
 mask:Nat
 df:ak
def ZW (x:ZC):ah:= .str x.name:: .int .i64 x.mask::ints x.df
def qH (m i:Nat) (v:Int):Bool:=bif fF m i then rQ v else v==0
def mO (x:ZC):Bool:=rI x.name&&(decide (x.mask<4096)&&(List.range 12).all λi=>qH x.mask i (x.df.getD i 0))
def ZT (b:aj) (n:Nat):ak:=(List.range n).map λj=>cW b (4+2*j) 2
theorem Cb (b:aj) (n:Nat):(ZT b n).length=n:=by unfold ZT;simp
theorem Zlw (b:aj) (n:Nat):ZT b (n+1)=ZT b n++[cW b (4+2*n) 2]:=by simp[ZT,vj,fg]
def Z1 (b:aj) (t:Nat):ZC:=⟨(b.drop 28).take t,rd b 0 4,ZT b 12⟩
def ZD (l:aj):Option ZC:=match fY l with
 |none=>none
 |some (k,t,b)=>bif decide (k=5)&&(decide (t<=24)&&ZI (b.drop (28+t)))then(bif mO (Z1 b t)then some (Z1 b t)else none)else none
def CC:ZC:=⟨[],0,List.replicate 12 0⟩
theorem Zk1 (n:Nat) (x:ZC) (st:St) (hl:x.df.length=12) (hs:x.name.length<1000) (hm:x.mask<4294967296) (hn:22+x.name.length<=n):run Bd n 299 [.agg (ZW x)] st=some (.val [.bool (mO x)],st):=by
 obtain⟨n,rfl⟩: ∃m,n=m+2:=⟨n-2,by omega⟩;rw[Ze,h.adz];unfold OS bd az Q_ cI Ls Lb Li mO ZW;have hlen:(ints x.df).length=12:=by simp[ints,hl]
 simp only[cJ,bP,av,aq,Za];rw[bF hlen,bF (by simp[hlen])];rw[Zk (ok_eq (Zqs (n+1) x.name (by omega) (by omega) st))];simp only[au,aq];cases rI x.name with
 |false=>rw[bp,ae];rfl
 |true=>
 rw[bm,af,aB (show ¬((x.mask:Nat):Int)<0 by omega)];simp only[af,de];by_cases gK:x.mask<4096;rotate_left
 .rw[aw (show((x.mask:Nat):Int)>=4096 by omega),ae,aB gK,Zd,eG]
 rw[aB (show ¬((x.mask:Nat):Int)>=4096 by omega),af,aw gK,de];rw[show(ints x.df).take 12=ints x.df from dq (by omega)];refine ok_eq ?_;refine Zj _ (λq y s=>∃i:Nat,y=[.int .i64 i]/\i<=12/\12-i<=q/\s=st/\((List.range i).all λi=>qH x.mask i (x.df.getD i 0))=true) ?_ 12 (n+1) _ _ (by grind) (by omega);rintro q _ s ⟨i,rfl,hi,hq,rfl,cS⟩ rec aP;simp only[av,aq];by_cases ax:i<12
 .rw[aw (show(i:Int)<12 by omega),ae,Zb (show aQ (i:Int) 12=true from Zi ax),bu,cP,hU (ZA)]
  simp only[aY];rw[Zb (aw (by omega)),Ztb,ZwS (by omega) (by omega)];have hw:ar ((i:Int)+1)=((i+1:Nat):Int):=Zc;have xE:x.df.getD i 0=x.df[i]'(by omega):=by rw[dX,bU (by omega)];rfl
  have aN:qH x.mask i (x.df[i]'(by omega))=true->Ok (λp=>p=(Out.val [DV.bool ((List.range 12).all λi=>qH x.mask i (x.df.getD i 0))],s)) (rec [.int .i64 (ar ((i:Int)+1))] s):=λe=>by
   rw[hw];refine aP (12-(i+1)) _ _ (by omega) ⟨i+1,rfl,by omega,aL _,rfl,?_⟩;rw[vj,rj,cS,tL,List.all_nil,xE,e];rfl
  have cx:qH x.mask i (x.df[i]'(by omega))=false->((List.range 12).all λi=>qH x.mask i (x.df.getD i 0))=false:=by grind
  cases hb:fF x.mask i with
  |true=>
   rw[bm,af];rw[Zb (aw (by omega)),ae,Zk (Zfn n _ s)];simp only[au,aq];cases hbn:rQ (x.df[i]'(by omega))with
   |true=>
    rw[bm,af];exact aN (by grind[qH])
   |false=>
    rw[bp,ae,Zd,cx (by grind[qH])];exact .mk rfl
  |false=>
   rw[bp,ae];cases h0:(x.df[i]'(by omega)==0)with
   |false=>
    rw[bp,ae];simp only[ae];rw[Zd,cx (by grind[qH])];exact .mk rfl
   |true=>
    rw[bm,af];rw[Zb (aw (by omega)),af];exact aN (by grind[qH])
 .rw[aB (show ¬(i:Int)<12 by omega),af,Zd]
  rw[show i=12 by omega]at cS;rw[cS];exact .mk rfl
theorem Zmp (n:Nat) (a:ai) (l:aj) (st:St) (ha:dz st a l) (hl:l.length<1000000) (hn:160<=n):
  Ok (λo=>∃s',aD st s'/\match ZD l with
   |none=>o=(.val [.agg (ZW CC),.bool false],s')
   |some x=>o=(.val [.agg (ZW x),.bool true],s')/\x.df.length=12) (run Bd n 275 [.slice 1 a l.length] st):=by
 obtain⟨n,rfl⟩: ∃m,n=m+1:=⟨n-1,by omega⟩;rw[Ze,h.adj];unfold ON ck ug az Cu bd cA As bD DZ Li D3 Lb jf ZD;simp only[bc,aq,Za];refine Ok.call (D1 n a l st ha hl) ?_;rintro _ ⟨s1,aG,ho⟩;cases ef:fY l with
 |none=>
  rw[ef]at ho;subst ho;refine⟨_,s1,rfl,?_⟩;simp only[av,au,aq,Zg 1 0 none _ (.inr rfl)];rw[bp,ae];simp only[ae,Zd];exact .mk ⟨_,aG,rfl⟩
 |some q=>
  obtain⟨k,t,b⟩:=q;rw[ef]at ho;obtain⟨p1,rfl,hf,hb,hk,ht⟩:=ho;refine⟨_,s1,rfl,?_⟩;simp only[av,au,bc,aq];rw[bm,af,nE k 5 5 rfl];cases jx:decide (k=5)with
  |false=>
   rw[bp];simp only[ae,eG,af,Zd];exact .mk ⟨_,aG,rfl⟩
  |true=>
  rw[bm];simp only[af,de];by_cases kl:t<=24;rotate_left
  .rw[aw (show((t:Nat):Int)>24 by omega),aB kl]
   simp only[ae,eG,af,Zd];exact .mk ⟨_,aG,rfl⟩
  rw[aB (show ¬((t:Nat):Int)>24 by omega),aw kl];simp only[af,de];have ep:=hf.xi;have hw:ar (28+(t:Int))=((28+t:Nat):Int):=Zc;have cx:=DY n p1 b (28+t) (28-t) s1 ep;rw[hb,dq (by rw[dT];omega)]at cx;have fP:ar (ar (((56:Nat):Int)-28)-(t:Int))=((28-t:Nat):Int):=by
   rw[show ar (((56:Nat):Int)-28)=28 by decide];rw[Zc];omega
  rw[hw,fP,Zk cx];simp only[au,aq,bu];cases ZI (b.drop (28+t))with
  |false=>
   simp only[bp,ae,af,Zd];exact .mk ⟨_,aG,rfl⟩
  |true=>
   rw[bm];simp only[ae,af];rw[Zb (by rw[aR,bq,bq];omega),Zb (aw (by omega))];have mA:=(ep.cU (k:=28) (by omega)).lY t;have MW:(bK ((b.drop 28).take t)).length=28+t-28:=by rw[Zq,cz,dT];omega
   have pU:=iD (β:=ah) mA;rw[MW]at pU;rw[pU,<-lq,oh,Zb (aw (by omega))];have Dg:(b.take 4).length=4:=by rw[cz];omega
   have kf:=zV n _ (b.take 4) s1 (ep.lY 4);rw[Dg]at kf;rw[rH kf (.refl s1)];simp only[av,aq];have aeK:eY (b.take 4)<4294967296:=by have:=EF (b.take 4);rw[Dg]at this;exact this
   rw[Zc (x:=((eY (b.take 4):Nat):Int))];have qN:((b.drop 28).take t).length<=24:=by rw[cz];omega
   refine Zj _ (λq y s=>∃i:Nat,y=[.agg (.str ((b.drop 28).take t):: .int .i64 (eY (b.take 4):Nat)::(ints (ZT b i)++ints (List.replicate (12-i) 0))),.int .i64 i]/\i<=12/\12-i<=q/\s=s1) ?_ 12 n _ _ ⟨0,rfl,by omega,by omega,rfl⟩ (by omega);rintro q _ s ⟨i,rfl,hi,hq,rfl⟩ rec aP;have hlen:(ints (ZT b i)++ints (List.replicate (12-i) 0)).length=12:=by
    simp[ints,Cb];omega
   simp only[cJ,bP,av,aq];rw[bF hlen];by_cases ax:i<12
   .have cG:ar ((i:Int)+1)=((i+1:Nat):Int):=Zc
    have jO:ar (2*(i:Int))=((2*i:Nat):Int):=Zc;have ko:ar (4+((2*i:Nat):Int))=((4+2*i:Nat):Int):=Zc;have qS:ar (((4+2*i:Nat):Int)+2)=((4+2*i+2:Nat):Int):=Zc;simp only[cG,jO,ko,qS,bu,cP];rw[aw (show(i:Int)<12 by omega),ae];rw[Zb (by rw[aR,bq,bq];omega),Zb (by rw[aR,bq,bq];omega)];have iJ:=ep.cU (k:=4+2*i) (by omega);have tz:((b.drop (4+2*i)).take 2).length=2:=by rw[cz,dT];omega
    have kf:=zV n _ ((b.drop (4+2*i)).take 2) s (iJ.lY 2);rw[tz]at kf;rw[show 4+2*i+2-(4+2*i)=2 by omega,Zk kf];simp only[av,aq];rw[Zb (show aQ (i:Int) 12=true from Zi ax),Zb (gf (by omega))];refine aP (12-(i+1)) _ _ (by omega) ⟨i+1,?_,by omega,aL _,rfl⟩;congr 4;rw[Zlw,show List.replicate (12-i) (0:Int)=0::List.replicate (12-(i+1)) 0 by rw[show 12-i=(12-(i+1))+1 by omega];rfl];have e3:i=(ints (ZT b i)).length:=by simp[ints,Cb]
    have e4:=rN (ints (ZT b i)) [.int .i64 0] (ints (List.replicate (12-(i+1)) 0)) [.int .i64 (cW b (4+2*i) 2)] rfl;rw[<-e3]at e4;show cw (ints (ZT b i)++([.int .i64 0]++ints (List.replicate (12-(i+1)) 0))) i [.int .i64 (cW b (4+2*i) 2)]=ints (ZT b i++[cW b (4+2*i) 2])++_;rw[e4,show ints (ZT b i++[cW b (4+2*i) 2])=ints (ZT b i)++[.int .i64 (cW b (4+2*i) 2)] by unfold ints;rw[fg];rfl,fD]
   .rw[aB (show ¬(i:Int)<12 by omega),af]
    have pP:i=12:=by omega
    subst pP;rw[show ints (ZT b 12)++ints (List.replicate (12-12) 0)=ints (ZT b 12)from gG _]at hlen⊢;rw[bF hlen];have hrq:=Zk1 n (Z1 b t) s (Cb b 12) (by show((b.drop 28).take t).length<_;omega) aeK (by show _+((b.drop 28).take t).length<=_;omega);have hqc:ZW (Z1 b t)= .str ((b.drop 28).take t):: .int .i64 (eY (b.take 4):Nat)::ints (ZT b 12):=rfl;rw[<-hqc,Zk hrq];simp only[au,aq];cases mO (Z1 b t)with
    |false=>
     rw[bp,ae,Zd];exact .mk ⟨_,aG,rfl⟩
    |true=>
     rw[bm,af,bF (by rw[hqc];simp[hlen]),Zd];exact .mk ⟨_,aG,rfl,Cb b 12⟩
def Es (l:ak):Bool:=decide (1<=l.length)&&(decide (l.length<=16)&&(List.range l.length).all λi=>rQ (l.getD i 0)&& !decide (l.getD i 0∈l.take i))
def kD (l:aj):Option (ak):=match fY l with
 |none=>none
 |some (k,t,b)=>bif decide (k=6)&&(decide (t<=16)&&ZI (b.drop (2*t)))then(bif Es (dP b t)then some (dP b t)else none)else none
theorem Zmr (n:Nat) (l:ak) (p:ai) (st:St) (hs:Sl st p (ints l)) (hl:l.length<1000) (hn:l.length+10<=n):run Bd n 300 [.agg [.slice 1 p l.length]] st=some (.val [.bool (Es l)],st):=by
 obtain⟨n,rfl⟩: ∃m,n=m+2:=⟨n-2,by omega⟩;rw[Ze,h.adA];unfold OL ck az Q_ cI Zn bd Lb Li eW Es;simp only[cJ,bc,aq,Za];by_cases h1:1<=l.length;rotate_left
 .rw[aw (show((l.length:Nat):Int)<1 by omega),aB h1]
  rfl
 rw[aB (show ¬((l.length:Nat):Int)<1 by omega),aw h1];simp only[au,aq,af,de];by_cases h2:l.length<=16;rotate_left
 .rw[aw (show((l.length:Nat):Int)>16 by omega),aB h2]
  rfl
 rw[aB (show ¬((l.length:Nat):Int)>16 by omega),aw h2];simp only[af,de];refine ok_eq ?_;refine Zj _ (λq y s=>∃i:Nat,y=[.int .i64 i]/\i<=l.length/\l.length-i<=q/\s=st/\((List.range i).all λi=>rQ (l.getD i 0)&& !decide (l.getD i 0∈l.take i))=true) ?_ l.length (n+1) _ _ (by grind) (by omega);rintro q _ s ⟨i,rfl,hi,hq,rfl,cS⟩ rec aP;simp only[av,aq];by_cases ax:i<l.length
 .obtain⟨i1,o1,rfl⟩:=hs.cD (by simp[ints];omega)
  rw[aw (show(i:Int)<(l.length:Int) by omega),ae,aX,Zb (Zi ax),bu,hs.dL (ZA ax)];simp only[aY];have hw:ar ((i:Int)+1)=((i+1:Nat):Int):=Zc;have xE:l.getD i 0=l[i]:=by rw[dX,bU ax];rfl
  have cx:(rQ l[i]&& !decide (l[i]∈l.take i))=false->((List.range l.length).all λi=>rQ (l.getD i 0)&& !decide (l.getD i 0∈l.take i))=false:=by grind
  rw[Zk (Zfn n _ s)];simp only[au,aq];cases hb:rQ l[i]with
  |false=>
   rw[bp,ae];simp only[ae];rw[Zd,cx (by rw[hb];rfl)];exact .mk rfl
  |true=>
   rw[bm,af,Zb (by rw[aR,bq,bq];omega)];have VY:(l.take i).length=i:=by rw[cz];omega
   have ca:Sl s (some (i1,o1)) (ints (l.take i)):=by
    have:=Sl.lY hs i;rwa [show(ints l).take i=ints (l.take i) by simp[ints]]at this
   have hc:=ZiH (n+1) (l.take i) l[i] _ s ca (by omega) (by omega);rw[VY]at hc;rw[Zk hc];simp only[au,aq];cases hm:decide (l[i]∈l.take i)with
   |true=>
    rw[ae,Zd,cx (by rw[hb,hm];rfl)];exact .mk rfl
   |false=>
    rw[af,hw];refine aP (l.length-(i+1)) _ _ (by omega) ⟨i+1,rfl,by omega,aL _,rfl,?_⟩;rw[vj,rj,cS,tL,List.all_nil,xE,hb,hm];rfl
 .rw[aB (show ¬(i:Int)<(l.length:Int) by omega),af,Zd]
  rw[show i=l.length by omega]at cS;rw[cS];exact .mk rfl
theorem Zn4 (n:Nat) (a:ai) (l:aj) (st:St) (ha:dz st a l) (hl:l.length<1000000) (hn:160<=n):
  Ok (λo=>∃s',aD st s'/\match kD l with
   |none=>o=(.val [.agg [.slice 0 none 0],.bool false],s')
   |some x=>∃p,o=(.val [.agg [.slice 1 p x.length],.bool true],s')/\Fz s' p (ints x)/\x.length<=16) (run Bd n 276 [.slice 1 a l.length] st):=by
 obtain⟨n,rfl⟩: ∃m,n=m+1:=⟨n-1,by omega⟩;rw[Ze,h.adk];unfold OX ck ug az bd cA bD Li Lb jf kD;simp only[bc,aq,Za];rw[Z5];refine Ok.call (D1 n a l st ha hl) ?_;rintro _ ⟨s1,aG,ho⟩;cases ef:fY l with
 |none=>
  rw[ef]at ho;subst ho;refine⟨_,s1,rfl,?_⟩;simp only[av,au,aq,Zg 1 0 none _ (.inr rfl)];rw[bp,ae];simp only[ae];rw[Zs];exact .mk ⟨_,Zu aG,rfl⟩
 |some q=>
  obtain⟨k,t,b⟩:=q;rw[ef]at ho;obtain⟨p1,rfl,hf,hb,hk,ht⟩:=ho;refine⟨_,s1,rfl,?_⟩;simp only[av,au,bc,aq];rw[bm,af,nE k 6 6 rfl];cases jx:decide (k=6)with
  |false=>
   rw[bp];simp only[ae,eG,af];rw[Zs];exact .mk ⟨_,Zu aG,rfl⟩
  |true=>
  rw[bm];simp only[af,de];by_cases kl:t<=16;rotate_left
  .rw[aw (show((t:Nat):Int)>16 by omega),aB kl]
   simp only[ae,eG,af];rw[Zs];exact .mk ⟨_,Zu aG,rfl⟩
  rw[aB (show ¬((t:Nat):Int)>16 by omega),aw kl];simp only[af,de];have ep:=hf.xi;have hw:ar (2*(t:Int))=((2*t:Nat):Int):=Zc;have cx:=DY n p1 b (2*t) (56-2*t) s1 ep;rw[hb,dq (by rw[dT];omega)]at cx;have fP:ar (((56:Nat):Int)-((2*t:Nat):Int))=((56-2*t:Nat):Int):=by
   rw[Zc];omega
  rw[hw,fP,Zk cx];simp only[au,aq];cases ZI (b.drop (2*t))with
  |false=>
   simp only[bp,ae,af];rw[Zs];exact .mk ⟨_,Zu aG,rfl⟩
  |true=>
   rw[bm];simp only[ae,af];refine Zj _ (λq y s=>∃(i z:Nat) (p:ai),y=[.agg [.slice z p i],.int .i64 i]/\(z=1\/p=none)/\i<=t/\t-i<=q/\ba st s p (ints (dP b i))/\rB s p1 b) ?_ t n _ _ ⟨0,0,none,rfl,.inr rfl,cn _,by omega,ba.nil aG,hf⟩ (by omega);rintro q _ s ⟨i,z,p,rfl,hz,hi,hq,ho,Fp⟩ rec aP;simp only[cJ,av,Zg 1 z p _ hz,aq];by_cases ax:i<t
   .have cG:ar ((i:Int)+1)=((i+1:Nat):Int):=Zc
    have fP:ar (2*((i+1:Nat):Int))=((2*(i+1):Nat):Int):=Zc;have jO:ar (2*(i:Int))=((2*i:Nat):Int):=Zc;simp only[cG,fP,jO,bu,cP];rw[aw (show(i:Int)<(t:Int) by omega),ae];rw[Zb (by rw[aR,bq,bq];omega),Zb (by rw[aR,bq,bq];omega)];have iJ:=Fp.xi.cU (k:=2*i) (by omega);have tz:((b.drop (2*i)).take 2).length=2:=by rw[cz,dT];omega
    have kf:=zV n _ ((b.drop (2*i)).take 2) s (iJ.lY 2);rw[tz]at kf;rw[show 2*(i+1)-2*i=2 by omega,wY kf];simp only[av,aq];obtain⟨p2,s2,c8,qM,he⟩:=ho.BD (β:=ah) (sz:=1) (n:=i) (lim:=8796093022208) [.int .i64 (cW b (2*i) 2)] (wI 0) (by simp[ints,om]) rfl (by omega);refine Eq.mpr (congrArg (Ok _) (he _)) ?_;refine aP (t-(i+1)) _ _ (by omega) ⟨i+1,1,p2,rfl,.inl rfl,by omega,aL _,?_,Fp.kp qM⟩;rw[KE];show ba st s2 p2 (List.map _ _);rw[fg];exact c8
   .rw[aB (show ¬(i:Int)<(t:Int) by omega),af]
    have C0:i=t:=by omega
    subst C0;have hr:=Zmr n (dP b i) p s ho.sl (by rw[om];omega) (by rw[om];omega);rw[om]at hr;simp only[bc,aq];rw[Zk hr];simp only[au,aq];cases Es (dP b i)with
    |false=>
     rw[bp,ae];simp only[af];rw[Zs];exact .mk ⟨_,Zu ho.1,rfl⟩
    |true=>
     rw[bm,af];simp only[ae];rw[Zs];refine .mk ⟨_,Zu ho.1,p,?_,ho.fz,?_⟩
     .rw[om]
     .rw[om];omega
def qa (n k:Int):Int:=ar ((ar (ar (n+k)-1)).tdiv k)
def yy (b s g:Int):Int:=bif oG b s g then qa b 384 else 0
def Ah (n:Int):Int:=bif (decide (n>=0)&&decide (n<=1792))then qa n 7 else 0
theorem Zod (n:Nat) (v k:Int) (hk:k≠0) (st:St):run Bd (n+1) 253 [.int .i64 v,.int .i64 k] st=some (.val [.int .i64 (qa v k)],st):=by
 rw[Ze,h.acX];unfold RN gP Li qa;simp only[av,aq];rw[Zb (by rw[dY.2 hk];rfl)];rfl
theorem ZqG (n:Nat) (v:Int) (st:St):run Bd (n+1) 255 [.int .i64 v] st=some (.val [.bool (decide (v>=0)&&decide (v<=1792))],st):=by
 rw[Ze,h.acZ];unfold Qb cA az Lb;simp only[av,aq,Za];cases decide (v>=0)<;>rfl
theorem Zpk (n:Nat) (v:Int) (st:St):run Bd (n+2) 227 [.int .i64 v] st=some (.val [.int .i64 (Ah v)],st):=by
 rw[Ze,h.acx];unfold PR cA bd cQ Li fV Ah;simp only[av,aq];rw[Zk (ZqG n v st)];simp only[au,aq];cases(decide (v>=0)&&decide (v<=1792))with
 |false=>rfl
 |true=>
  rw[bm,af,Zk (Zod n v 7 (by decide) st)];rfl
theorem Zo9 (n:Nat) (b s g:Int) (st:St):run Bd (n+2) 223 [.agg [.int .i64 b,.int .i64 s,.int .i64 g]] st=some (.val [.int .i64 (yy b s g)],st):=by
 rw[Ze,h.acu];unfold Pv Ci bd cQ ur Li fV yy;simp only[cJ,av,aq];rw[Zk (ZkO n b s g st)];simp only[au,aq];cases oG b s g with
 |false=>rfl
 |true=>
  rw[bm,af,Zk (Zod n b 384 (by decide) st)];rfl
structure ZN where
 no:Nat
 dH:aj
def ZS (x:ZN):ah:= .int .i64 x.no::bK x.dH
def LW:ZN:=⟨0,List.replicate 48 0⟩
def wX (l:aj):Option ZN:=match fY l with
 |none=>none
 |some (k,t,b)=>bif decide (k=4)&&(decide (t<8)&&ZI (b.drop 48))then some ⟨t,b.take 48⟩else none
def xB (x:ZN) (a:Nat):Bool:=decide (a/384=x.no)&&fF (x.dH.getD (a%384/8) 0).toNat (a%8)
def eK (x:ZN) (n:Nat):ak:=((List.range n).filter λi=>xB x (x.no*384+i)).map λi=>((x.no*384+i:Nat):Int)
theorem KD (x:ZN) (n:Nat):eK x (n+1)=eK x n++(bif xB x (x.no*384+n)then[((x.no*384+n:Nat):Int)]else[]):=by
 unfold eK;rw[vj,Ga,fg];grind
theorem ZpR (x:ZN) (n:Nat):(eK x n).length<=n:=by
 grind[eK]
theorem aa2 {x:Nat} (hx:x<256) (hr:r<8):((bits .and .u8 (x:Int) ((2^r:Nat):Int))==0)= !fF x r:=by
 have key: ∀x:Fin 256,∀r:Fin 8,((x.val&&& 2^r.val)==0)= !decide (x.val/2^r.val%2=1):=by decide+kernel
 have hp:2^r<256:=JR (a:=2) (m:=r) (n:=8) (by decide) hr;have e:bits .and .u8 (x:Int) ((2^r:Nat):Int)=((x&&& 2^r:Nat):Int):=by
  generalize 2^r=w at hp;show IntKind.wrap .u8 ((BitVec.ofInt 8 (x:Int)&&& BitVec.ofInt 8 ((w:Nat):Int)).toNat:Int)=_;rw[BitVec.toNat_and,JI,JI];have e1:((x:Int)%((2^8:Nat):Int)).toNat=x:=by omega
  have e2:(((w:Nat):Int)%((2^8:Nat):Int)).toNat=w:=by omega
  rw[e1,e2];have:x&&& w<256:=DM Nat.and_le_left hx;show((x&&& w:Nat):Int)%(2^8)=_;omega
 rw[e];have:=key ⟨x,hx⟩ ⟨r,hr⟩;grind[fF]
theorem ZoT (n:Nat) (x:ZN) (hl:x.dH.length=48) (st:St):run Bd (n+1) 307 [.agg (ZS x)] st=some (.val [.bool (decide (x.no<8))],st):=by
 rw[Ze,h.adC];unfold Pr az Lb ZS;have hlen:(bK x.dH).length=48:=by rw[Zq,hl]
 simp only[cJ,av,aq,Za];rw[bF hlen,bF (by simp[hlen]),aw (show((x.no:Nat):Int)>=0 by omega),ae];simp only[au,aq];rw[Zd];by_cases h8:x.no<8
 .rw[aw h8,aw (by omega)]
 grind
theorem ZqP (n:Nat) (x:ZN) (a:Nat) (ha:a<1000000) (hl:x.dH.length=48) (h8:x.no<8) (st:St):
  run Bd (n+2) 287 [.agg (ZS x),.int .i64 a] st=some (.val (bif decide (a/384=x.no)then[.int .i64 (a%384/8:Nat),.int .u8 (2^(a%8):Nat),.bool true]else[.int .i64 0,.int .u8 0,.bool false]),st):=by
 rw[Ze,h.adn];have hr:=ZoT n x hl st;unfold Q4 cA bd az Lb;have hlen:(bK x.dH).length=48:=by rw[Zq,hl]
 unfold ZS at hr⊢;simp only[cJ,av,aq,Za];rw[bF hlen,bF (by simp[hlen]),Zk hr];simp only[au,aq];rw[aw h8,bm,af,aB (show ¬(a:Int)<0 by omega)];simp only[af];rw[show((a:Int).tdiv 384)=((a/384:Nat):Int)from rfl,Zc,nE (a/384) x.no _ rfl];cases hd:decide (a/384=x.no)with
 |false=>rfl
 |true=>
  rw[bm,af,ae];rw[show((a:Int).tmod 384)=((a%384:Nat):Int)from rfl,show(((a%384:Nat):Int).tmod 8)=((a%384%8:Nat):Int)from rfl,show(((a%384:Nat):Int).tdiv 8)=((a%384/8:Nat):Int)from rfl];rw[Zb (aw (by omega)),Zc,bu,kT (by omega),show a%384%8=a%8 by omega,Zd];have hp:2^(a%8)<256:=JR (a:=2) (m:=a%8) (n:=8) (by decide) (by omega);have e:IntKind.wrap .u8 (1*2^(a%8))=((2^(a%8):Nat):Int):=by
   rw[Int.one_mul,show((2:Int)^(a%8))=((2^(a%8):Nat):Int) by push_cast;rfl];generalize 2^(a%8)=w at hp;show((w:Nat):Int)%(2^8)=_;omega
  rw[e]
theorem ZqR (n:Nat) (x:ZN) (a:Nat) (ha:a<1000000) (hl:x.dH.length=48) (h8:x.no<8) (st:St):
  run Bd (n+3) 262 [.agg (ZS x),.int .i64 a] st=some (.val [.bool (xB x a)],st):=by
 rw[Ze,h.ac4];have hr:=ZqP n x a ha hl h8 st;unfold Q7 cA ZtG az Lb xB;have hlen:(bK x.dH).length=48:=by rw[Zq,hl]
 unfold ZS at hr⊢;simp only[cJ,av,aq,Za];rw[bF hlen,bF (by simp[hlen]),Zk hr];cases decide (a/384=x.no)with
 |false=>rfl
 |true=>
  simp only[ae,av,au,aq,bu,cP,de];rw[Zb (show aQ ((a%384/8:Nat):Int) 48=true from Zi)];obtain⟨c,hc⟩: ∃c,x.dH[a%384/8]? =some c:=⟨_,bU (by omega)⟩;rw[hU (SS hc),getD_some hc];simp only[aY];rw[aa2 c.toNat_lt (by omega),Bool.not_not];rfl
theorem ZqA (n:Nat) (x:ZN) (hl:x.dH.length=48) (h8:x.no<8) (st:St) (hn:400<=n):
  Ok (λo=>∃p s',o=(.val [.slice 1 p (eK x 384).length],s')/\aD st s'/\Fz s' p (ints (eK x 384))) (run Bd n 239 [.agg (ZS x)] st):=by
 obtain⟨n,rfl⟩: ∃m,n=m+4:=⟨n-4,by omega⟩;rw[Ze,h.acJ];have hr:=λa ha s=>ZqR n x a ha hl h8 s
 unfold QF gk lJ bd bD eW Li j1;have hlen:(bK x.dH).length=48:=by rw[Zq,hl]
 unfold ZS at hr⊢;simp only[cJ,av,aq,Za];rw[bF hlen,Z5,bF (by simp[hlen])];refine Zj _ (λq y s=>∃(i z:Nat) (p:ai),y=[.slice z p (eK x i).length,.int .i64 i]/\(z=1\/p=none)/\i<=384/\384-i<=q/\ba st s p (ints (eK x i))) ?_ 384 (n+3) _ _ ⟨0,0,none,rfl,.inr rfl,cn _,by omega,ba.nil (.refl st)⟩ (by omega);rintro q _ s ⟨i,z,p,rfl,hz,hi,hq,ho⟩ rec aP;simp only[av,Zg 1 z p _ hz,aq];by_cases ax:i<384
 .have cG:ar ((i:Int)+1)=((i+1:Nat):Int):=Zc
  have fP:ar ((x.no:Int)*384)=((x.no*384:Nat):Int):=by rw[Zc];omega
  have jO:ar (((x.no*384:Nat):Int)+(i:Int))=((x.no*384+i:Nat):Int):=Zc;simp only[cG,fP,jO];rw[aw (show(i:Int)<384 by omega),ae,Zk (hr (x.no*384+i) (by omega) s)];simp only[au,aq];have gZ:=ZpR x i;cases hh:xB x (x.no*384+i)with
  |true=>
   rw[ae];obtain⟨p2,s2,c8,qM,he⟩:=ho.BD (β:=ah) (sz:=1) (n:=(eK x i).length) (lim:=8796093022208) [.int .i64 ((x.no*384+i:Nat):Int)] (wI 0) (by simp[ints]) rfl (by omega);refine Eq.mpr (congrArg (Ok _) (he _)) ?_;simp only[bc,aq];refine aP (384-(i+1)) _ _ (by omega) ⟨i+1,1,p2,?_,.inl rfl,by omega,aL _,?_⟩
   .rw[KD,hh];simp
   .rw[KD,hh]
    show ba st s2 p2 (List.map _ _);rw[fg];exact c8
  |false=>
   rw[af];simp only[bc,aq];refine aP (384-(i+1)) _ _ (by omega) ⟨i+1,1,p,?_,.inl rfl,by omega,aL _,?_⟩
   .rw[KD,hh];simp
   .rw[KD,hh,af,gG];exact ho
 .rw[aB (show ¬(i:Int)<384 by omega),af]
  simp only[bc,aq];rw[Zs];have pP:i=384:=by omega
  subst pP;exact .mk ⟨p,_,rfl,Zu ho.1,ho.fz⟩
theorem Zwc {B:ah} (hl:B.length=D.length) (K:M β):ee s.length A.length D K (s++[some ⟨false,A++B⟩])=K (s++[some ⟨false,A++D⟩]):=by
 unfold ee St.gE;rw[jY (aL _),Nat.sub_self];simp only[lB];rw[gf (by rw[bz];omega),ae];have e:=rN A B [] D hl;rw[gG,gG]at e;rw[e];simp
theorem Zsm (n:Nat) (a:ai) (l:aj) (st:St) (ha:dz st a l) (hl:l.length<1000000) (hn:160<=n):
  Ok (λo=>∃s',aD st s'/\match wX l with
   |none=>o=(.val [.agg (ZS LW),.bool false],s')
   |some x=>o=(.val [.agg (ZS x),.bool true],s')/\x.dH.length=48/\x.no<8) (run Bd n 204 [.slice 1 a l.length] st):=by
 obtain⟨n,rfl⟩: ∃m,n=m+1:=⟨n-1,by omega⟩;rw[Ze,h.ab8];unfold QT ck ug az bd bD Lb jf wX;simp only[bc,aq,Za];refine Ok.call (D1 n a l st ha hl) ?_;rintro _ ⟨s1,aG,ho⟩;cases ef:fY l with
 |none=>
  rw[ef]at ho;subst ho;refine⟨_,s1,rfl,?_⟩;simp only[av,au,aq,Zg 1 0 none _ (.inr rfl)];rw[bp,ae];simp only[ae,Zd];exact .mk ⟨_,aG,rfl⟩
 |some q=>
  obtain⟨k,t,b⟩:=q;rw[ef]at ho;obtain⟨p1,rfl,hf,hb,hk,ht⟩:=ho;refine⟨_,s1,rfl,?_⟩;simp only[av,au,bc,aq];rw[bm,af,nE k 4 4 rfl];cases jx:decide (k=4)with
  |false=>
   rw[bp];simp only[ae,eG,af,Zd];exact .mk ⟨_,aG,rfl⟩
  |true=>
  rw[bm];simp only[af,de];by_cases kl:t<8;rotate_left
  .rw[aw (show((t:Nat):Int)>=8 by omega),aB kl]
   simp only[ae,eG,af,Zd];exact .mk ⟨_,aG,rfl⟩
  rw[aB (show ¬((t:Nat):Int)>=8 by omega),aw kl];simp only[af,de];have ep:=hf.xi;have cx:=DY n p1 b 48 8 s1 ep;rw[hb,dq (by rw[dT];omega)]at cx;rw[show ar (((56:Nat):Int)-48)=((8:Nat):Int) by decide,show(48:Int)=((48:Nat):Int)from rfl,Zk cx];simp only[au,aq];cases ZI (b.drop 48)with
  |false=>
   simp only[bp,ae,af,Zd];exact .mk ⟨_,aG,rfl⟩
  |true=>
   rw[bm];simp only[ae,af];have IT:(b.take 48).length=48:=by rw[cz];omega
   have iM:(bK (b.take 48)).length=min 56 48*1:=by rw[Zq,IT];rfl
   refine Eq.mpr (congrArg (Ok _) (show _=(cg (ZS LW) λc1=>ee c1 0 (ZS ⟨t,List.replicate 48 0⟩)<|bS c1 1 48 λ_=>da p1 (min 56 48*1) λcs=>ee c1 1 cs<|bS c1 0 49 λbN=>aF .i64 bN λx4 r1=>bx r1 48<|bx ((.int .i64 x4)::r1) 49<|ay [.agg ((.int .i64 x4)::r1),.bool true]) s1 from rfl)) ?_;rw[Zy,ZpZ (by rfl)];rw[kC (i:=s1.length) (o:=1) (n:=48) (f:=false) (all:=ZS ⟨t,List.replicate 48 0⟩) (by simp) (by simp[ZS,Zq])];have cV:=(ep.mono (aD.new s1 (some ⟨false,ZS ⟨t,List.replicate 48 0⟩⟩))).lY 48;rw[<-iM,iD cV];have ca:=Zwc (β:=ah) (s:=s1) (A:=[.int .i64 t]) (B:=bK (List.replicate 48 0)) (D:=bK (b.take 48)) (by rw[Zq,Zq,IT];rfl);refine Eq.mpr (congrArg (Ok _) (ca _)) ?_;have hco:([.int .i64 t]++bK (b.take 48):ah).length=49:=by rw[bz,Zq,IT];rfl
   rw[kC (i:=s1.length) (o:=0) (n:=49) (f:=false) (all:=[.int .i64 t]++bK (b.take 48)) (by simp) (by rw[hco];omega)];rw[dj,dq (l:=[DV.int .i64 t]++bK (b.take 48)) (i:=49) (by rw[hco];omega)];show Ok _ (aF .i64 (.int .i64 t::bK (b.take 48)) _ _);simp only[av];have Yu:(bK (b.take 48)).length=48:=by rw[Zq,IT]
   rw[bF Yu,bF (by rw[cH,Yu]),Zd];exact .mk ⟨_,aG.trans (.new _ _),rfl,IT,kl⟩
def Fx (T:al) (s s':St):Prop:=s.length<=s'.length/\∀(b:Nat) (x:Option bT),b∉T->s[b]? =some x->s'[b]? =some x
theorem Fx.refl (T:al) (s:St):Fx T s s:=⟨aL _,λ_ _ _ h=>h⟩
theorem Fx.pre (T:al) (h:aD s s'):Fx T s s':=⟨h.len,λ_ _ _ e=>h.get e⟩
theorem Fx.trans {a b c:St} (h:Fx T a b) (k:Fx T b c):Fx T a c:=⟨gH h.1 k.1,λi x n e=>k.2 i x n (h.2 i x n e)⟩
theorem Fx.step {a b c:St} (h:Fx T a b) (k:Fx T' b c) (hT: ∀x∈T',x∈T\/a.length<=x):Fx T a c:=
 ⟨gH h.1 k.1,λi x n e=>k.2 i x (λhm=>by
  grind) (h.2 i x n e)⟩
theorem Fx.mono {a b:St} (h:Fx T a b) (k: ∀x∈T,x∈T'):Fx T' a b:=⟨h.1,λi x n e=>h.2 i x (λm=>n (k i m)) e⟩
theorem Fx.set (s:St) (j:Nat) (b:Option bT):Fx [j] s (s.set j b):=⟨by simp,by grind⟩
def lI (T:al) (a:ai):Prop:=∀b o,a=some (b,o)->b∉T
theorem Sl.fx {a:ai} (h:Sl s a cs) (k:Fx T s s') (n:lI T a):Sl s' a cs:=by
 cases a with
 |none=>exact h
 |some p=>
  obtain⟨i,o⟩:=p;obtain⟨f,all,h1,h2⟩:=h;exact⟨f,all,k.2 i _ (n i o rfl) h1,h2⟩
theorem Sl.lt (h:Sl s (some (i,o)) cs):i<s.length:=by
 obtain⟨f,all,h1,_⟩:=h;grind
theorem lI.new {a:ai} (h:lI T a) (k:Sl s a cs) (hT: ∀x∈T',x∈T\/s.length<=x):lI T' a:=by
 intro b o e hm;subst e;rcases hT b hm with h1|h1
 .exact h b o rfl h1
 .have:=Sl.lt k;omega
def ZV (W:al):ah:=W.map λ(w:Nat)=> .int .u64 w
theorem RM (W:al):(ZV W).length=W.length:=by simp[ZV]
structure gm (s:St) (f:Bool) (i j n:Nat) (W:List Nat):Prop where
 hd:s[i]? =some (some ⟨f,[.int .i64 n,.slice 1 (some (j,0)) W.length]⟩)
 wd:s[j]? =some (some ⟨f,ZV W⟩)
 len:W.length=(n+63)/64
 lt: ∀w∈W,w<18446744073709551616
 le:n<=3072
theorem gm.fx (h:gm s f i j n W) (k:Fx T s s') (hi:i∉T) (hj:j∉T):gm s' f i j n W:=
 ⟨k.2 i _ hi h.hd,k.2 j _ hj h.wd,h.len,h.lt,h.le⟩
theorem gm.pre (h:gm s f i j n W) (k:aD s s'):gm s' f i j n W:=
 ⟨k.get h.hd,k.get h.wd,h.len,h.lt,h.le⟩
def fR (n:Nat) (a:Int):Bool:=decide (0<=a)&&decide (a<n)
def dM (W:al) (a:Nat):Bool:=fF (W.getD (a/64) 0) (a%64)
def bX (n:Nat) (W:al) (a:Int):al:=bif fR n a then W.set (a.toNat/64) (W.getD (a.toNat/64) 0|||2^(a.toNat%64))else W
theorem uj (n:Nat) (W:al) (a:Int):(bX n W a).length=W.length:=by
 grind[bX]
theorem Tf {a:Int} (h: ∀w∈W,w<18446744073709551616): ∀w∈bX n W a,w<18446744073709551616:=by
 unfold bX;cases fR n a with
 |false=>exact h
 |true=>
  intro w hw;rw[ae]at hw;rcases List.mem_or_eq_of_mem_set hw with h1|h1
  .exact h w h1
  .rw[h1]
   refine JQ (n:=64) ?_ (JR (by decide) (by omega));rw[dX];cases e:W[a.toNat/64]? with
   |none=>decide
   |some v=>exact h v (oZ e)
theorem yB {a:Int} {b:Nat} (hl:W.length=(n+63)/64):dM (bX n W a) b=(dM W b||(fR n a&&decide (b=a.toNat))):=by
 unfold bX;cases hm:fR n a with
 |false=>simp[dM]
 |true=>
  rw[ae,de];unfold fR at hm;rw[aR,bq,bq]at hm;unfold dM;have hk:a.toNat/64<W.length:=by omega
  by_cases hq:b/64=a.toNat/64
  .rw[hq,dX,lC hk]
   show fF (W.getD (a.toNat/64) 0|||2^(a.toNat%64)) (b%64)=_;have key: ∀w:Nat,fF (w|||2^(a.toNat%64)) (b%64)=(fF w (b%64)||decide (b=a.toNat)):=by
    intro w;unfold fF;rw[<-Nat.testBit_eq_decide_div_mod_eq,<-Nat.testBit_eq_decide_div_mod_eq,Nat.testBit_or,Nat.testBit_two_pow];grind
   rw[key,dX]
  grind
theorem ZmH (n:Nat) (a:Int) (st:St) (hs:gm st f i j m W):
  run Bd (n+1) 209 [.ptr (some (i,0)),.int .i64 a] st=some (.val [.bool (fR m a)],st):=by
 rw[Ze,h.ace];unfold PU cA az Zm Lb fR;simp only[gj,av,aq,Za,aX];by_cases h0:a>=0
 .rw[aw h0,ae,Zo hs.hd rfl]
  rfl
 .rw[aB h0,af]
  rfl
theorem TQ {a:Int} (h:0<=a):a.tdiv 64=((a.toNat/64:Nat):Int):=by
 grind
theorem Zu6 {a:Int} (h:0<=a):a.tmod 64=((a.toNat%64:Nat):Int):=by
 grind
theorem Zx6 (hw:w<18446744073709551616) (hj:j<64):(bits .and .u64 ((w:Int).fdiv (2^(min j 64))) 1==1)=fF w j:=by
 rw[kT (by omega),show((2:Int)^j)=((2^j:Nat):Int) by push_cast;rfl,EA];have h1:w/2^j<18446744073709551616:=DM (DL _ _) hw;rw[show(1:Int)=((1:Nat):Int)from rfl,Xt h1 (by decide),Nat.and_one_is_mod];grind[fF]
theorem Zmz (n:Nat) (a:Int) (st:St) (hs:gm st f i j m W):
  run Bd (n+2) 184 [.ptr (some (i,0)),.int .i64 a] st=some (.val [.bool (fR m a&&dM W a.toNat)],st):=by
 rw[Ze,h.abO];unfold PZ cA bd az nx Lb;simp only[gj,av,aq,Za,aX];rw[Zk (ZmH n a st hs)];simp only[au,aq];cases hm:fR m a with
 |false=>rfl
 |true=>
  have pR:=hm;unfold fR at pR;rw[aR,bq,bq]at pR;have hle:=hs.le;have hlen:=hs.len;have hk:a.toNat/64<W.length:=by omega
  rw[ae,Zo hs.hd rfl];simp only[lG,aX];rw[TQ pR.1,Zu6 pR.1,Zc,Zb (Zi hk),bu,bu];rw[Zo (d:= .int .u64 (W[a.toNat/64]'hk:Nat)) hs.wd (by rw[cP,fT];simp[ZV,hk])];simp only[aY];have ax:=hs.lt _ (jG hk);rw[Zb (aw (by omega)),Zx6 ax (by omega),de];unfold dM;rw[dX,bU hk];rfl
theorem vu (h:st[j]? =some (some ⟨false,cs⟩)) (hk:k<cs.length) (K:M β):ee j k [d] K st=K (st.set j (some ⟨false,cs.set k d⟩)):=by
 unfold ee St.gE;rw[h];simp only[iw,gf (show k+1<=cs.length by omega),ae,Cq d cs k hk]
theorem gm.add (hs:gm st false i j m W) (pQ:i≠j) (W':al) (hl:W'.length=W.length) (ax: ∀w∈W',w<18446744073709551616):gm (st.set j (some ⟨false,ZV W'⟩)) false i j m W':=by
 have hj:j<st.length:=(dB.1 hs.wd).1;refine⟨?_,?_,by rw[hl];exact hs.len,ax,hs.le⟩
 .rw[jZ (by omega),hl];exact hs.hd
 grind
theorem Ki (n:Nat) (l:ak) (p:ai) (st:St) (hs:gm st false i j m W) (pQ:i≠j) (hl:Sl st p (ints l)) (hp:lI [j] p) (gZ:l.length<1000000:=by omega) (hn:l.length+3<=n:=by omega):
  run Bd n 206 [.ptr (some (i,0)),.slice 1 p l.length] st=some (.val [],st.set j (some ⟨false,ZV (l.foldl (bX m) W)⟩)):=by
 obtain⟨n,rfl⟩: ∃k,n=k+2:=⟨n-2,by omega⟩;rw[Ze,h.aca];unfold Pa ck Q_ cI Zn bd nx Li nv;simp only[gj,bc,aq,Za];refine ok_eq ?_;have e0:st=st.set j (some ⟨false,ZV W⟩):=by
  refine rk λk=>?_
  by_cases e:j=k
  .grind[hs.wd]
  grind
 refine Zj _ (λq y s=>∃k:Nat,y=[.int .i64 k]/\k<=l.length/\l.length-k<=q/\s=st.set j (some ⟨false,ZV ((l.take k).foldl (bX m) W)⟩)/\gm s false i j m ((l.take k).foldl (bX m) W)) ?_ l.length (n+1) _ _ (by grind) (by omega);rintro q _ s ⟨k,rfl,hk,hq,ca,lU⟩ rec aP;simp only[av,aq];by_cases ax:k<l.length
 .have C5:Sl s p (ints l):=by rw[ca];exact Sl.fx hl (Fx.set st j _) hp
  obtain⟨i1,o1,rfl⟩:=C5.cD (by simp[ints];omega);rw[aw (show(k:Int)<(l.length:Int) by omega),ae,aX,Zb (Zi ax),bu,C5.dL (ZA ax)];simp only[aY];rw[Zk (ZmH n l[k] s lU)];simp only[au,aq];have hw:ar ((k:Int)+1)=((k+1:Nat):Int):=Zc;have fJ:(l.take (k+1)).foldl (bX m) W=bX m ((l.take k).foldl (bX m) W) l[k]:=by
   rw[kS ax,zM];rfl
  generalize hV:(l.take k).foldl (bX m) W=V at ca lU fJ;cases hm:fR m l[k]with
  |false=>
   rw[af,hw];have AQ:bX m V l[k]=V:=by unfold bX;rw[hm];rfl
   exact aP (l.length-(k+1)) _ _ (by omega) (by grind)
  |true=>
   have pR:=hm;unfold fR at pR;rw[aR,bq,bq]at pR;have hle:=hs.le;have hlen:=lU.len;have yY:l[k].toNat/64<V.length:=by omega
   rw[ae,aX,Zo lU.hd rfl];simp only[lG,aX];rw[TQ pR.1,Zu6 pR.1,Zc,Zb (Zi yY),bu,bu];rw[Zo (d:= .int .u64 (V[l[k].toNat/64]'yY:Nat)) lU.wd (by rw[cP,fT];simp[ZV,yY])];simp only[aY];have ax:=lU.lt _ (jG yY);have aZ:2^(l[k].toNat%64)<18446744073709551616:=JR (a:=2) (n:=64) (by decide) (by omega);rw[Zb (aw (by omega)),Zb (Zi yY),kT (by omega),Int.one_mul,show((2:Int)^(l[k].toNat%64))=((2^(l[k].toNat%64):Nat):Int) by push_cast;rfl,yF aZ,aaf ax aZ];rw[vu lU.wd (by rw[RM,cP,fT];exact yY),hw,cP];have AQ:bX m V l[k]=V.set (l[k].toNat/64) (V[l[k].toNat/64]'yY|||2^(l[k].toNat%64)):=by
    unfold bX;rw[hm,ae,dX,bU yY];rfl
   have AT:(ZV V).set (l[k].toNat/64+0) (.int .u64 ((V[l[k].toNat/64]'yY|||2^(l[k].toNat%64):Nat):Int))=ZV (bX m V l[k]):=by
    rw[AQ,fT];unfold ZV;rw[DJ]
   rw[AT];refine aP (l.length-(k+1)) _ _ (by omega) ⟨k+1,rfl,by omega,aL _,?_,?_⟩
   .rw[fJ,ca,List.set_set]
   .rw[fJ];exact lU.add pQ _ (uj _ _ _) (Tf lU.lt)
 .rw[aB (show ¬(k:Int)<(l.length:Int) by omega),af]
  simp only[Zd];rw[ca,dq (by omega)];exact .mk rfl
def kM (n:Nat) (l:ak):al:=l.foldl (bX n) (List.replicate ((n+63)/64) 0)
theorem pF (n:Nat): ∀(l:ak) (W:al),(l.foldl (bX n) W).length=W.length/\((∀w∈W,w<18446744073709551616)->∀w∈l.foldl (bX n) W,w<18446744073709551616)
 |[],_=>⟨rfl,id⟩
 |a::l,W=>⟨by rw[DH,(pF n l _).1,uj],λh=>(pF n l _).2 (Tf h)⟩
theorem Ru (n m:Nat) (l:ak) (p:ai) (st:St) (hm:m<=3072) (hl:Sl st p (ints l)) (gZ:l.length<1000000) (hn:l.length+4<=n):
  ∃s',run Bd n 177 [.int .i64 m,.slice 1 p l.length] st=some (.val [.ptr (some (st.length+1,0))],s')/\aD st s'/\s'.length=st.length+2/\gm s' false (st.length+1) st.length m (kM m l):=by
 obtain⟨n,rfl⟩: ∃k,n=k+1:=⟨n-1,by omega⟩;rw[Ze,h.XG];unfold Sw ck C_ nv tS Lp;simp only[av,bc,aq];have h0:(if ((m:Nat):Int)<0 then(0:Int)else m)=m:=aW (by omega);have h1:(if (3072:Int)<((m:Nat):Int)then(3072:Int)else m)=m:=aW (by omega);have h2:ar ((ar ((ar (((m:Nat):Int)+64))-1)).tdiv 64)=(((m+63)/64:Nat):Int):=by
  rw[Zc (x:=((m:Nat):Int)+64),show(((m:Nat):Int)+64-1)=((m+63:Nat):Int) by omega,Zc (x:=((m+63:Nat):Int)),show(((m+63:Nat):Int).tdiv 64)=(((m+63)/64:Nat):Int)from rfl];exact Zc
 simp only[h0,h1,h2,bu];rw[Zb (by rw[aR,aR,bq,bq,bq];omega),Zy,Zy];have hw:ig ((m+63)/64) [DV.int .u64 0]=ZV (List.replicate ((m+63)/64) 0):=by rw[Ey];simp[ZV]
 rw[hw];have MR:(st++[some (⟨false,ZV (List.replicate ((m+63)/64) 0)⟩:bT)]).length=st.length+1:=by simp
 rw[MR];have hp:aD st (st++[some (⟨false,ZV (List.replicate ((m+63)/64) 0)⟩:bT)]++[some (⟨false,[.int .i64 m,.slice 1 (some (st.length,0)) ((m+63)/64)]⟩:bT)]):=(aD.new _ _).trans (.new _ _);have lU:gm (st++[some (⟨false,ZV (List.replicate ((m+63)/64) 0)⟩:bT)]++[some (⟨false,[.int .i64 m,.slice 1 (some (st.length,0)) ((m+63)/64)]⟩:bT)]) false (st.length+1) st.length m (List.replicate ((m+63)/64) 0):=by
  refine⟨?_,?_,by simp,by simp,hm⟩
  .rw[jY (by simp)];simp
  simp
 have Fy:(st++[some (⟨false,ZV (List.replicate ((m+63)/64) 0)⟩:bT)]++[some (⟨false,[.int .i64 m,.slice 1 (some (st.length,0)) ((m+63)/64)]⟩:bT)]).length=st.length+2:=by simp
 generalize st++[some (⟨false,ZV (List.replicate ((m+63)/64) 0)⟩:bT)]++[some (⟨false,[.int .i64 m,.slice 1 (some (st.length,0)) ((m+63)/64)]⟩:bT)]=s2 at hp lU Fy;have IC:lI [st.length] p:=by
  intro b o e hb;subst e;have:=Sl.lt hl;rw[cj.1 hb]at this;omega
 rw[Zk (Ki n l p s2 lU (by omega) (hl.mono hp) IC gZ)];simp only[aq,Zd];exact⟨_,rfl,wV hp (aL _) _,by simp[Fy],lU.add (by omega) _ (pF m l _).1 ((pF m l _).2 lU.lt)⟩
end Go.Gv.F
