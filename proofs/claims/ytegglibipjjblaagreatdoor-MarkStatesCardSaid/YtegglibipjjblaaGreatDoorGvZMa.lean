/- Numbers as octets, the least one first. -/
import Derived.Test.YtegglibipjjblaaGreatDoorGvZLib
import Derived.Test.YtegglibipjjblaaGreatDoorGvBMk
import Derived.Test.YtegglibipjjblaaGreatDoorGvZPg
import Derived.Test.YtegglibipjjblaaGreatDoorGvZPf
namespace Go.Gv.F
open Go.Gv
def ga:List UInt8->Nat
 |[]=>0
 |c::l=>c.toNat+256*ga l
def bS:Nat->Nat->List UInt8
 |_,0=>[]
 |v,n+1=>UInt8.ofNat v::bS (v/256) n
theorem Zq: ∀(v n:Nat),(bS v n).length=n
 |_,0=>rfl
 |v,n+1=>by rw[bS,ee,Zq]
theorem IC: ∀(l:List UInt8),ga l<256^l.length
 |[]=>by decide
 |c::l=>by
  have h1:=c.toNat_lt;have h2:=IC l;rw[ga,ee,mS];omega
theorem NV: ∀(v n:Nat),ga (bS v n)=v%256^n
 |v,0=>by simp[bS,ga,Nat.mod_one]
 |v,n+1=>by
  rw[bS,ga,NV,mS,qU (256^n),Nat.mod_mul];have:(UInt8.ofNat v).toNat=v%256:=rfl;rw[this]
theorem Zv6: ∀(l m:List UInt8),ga (l++m)=ga l+256^l.length*ga m
 |[],m=>by simp[ga]
 |c::l,m=>by
  rw[j3,ga,ga,Zv6 l m,ee,mS,Nat.mul_add,<-Nat.mul_assoc,qU 256 (256^l.length)];omega
theorem Zta: ∀(v m n:Nat),bS v (m+n)=bS v m++bS (v/256^m) n
 |v,0,n=>by simp[bS]
 |v,m+1,n=>by
  rw[show m+1+n=(m+n)+1 by omega,bS,bS,Zta (v/256) m n,j3,mS,qU (256^m),KA]
end Go.Gv.F
namespace Go.Gv.F
open Go.Gv
def lu (x:Nat):Nat:=if x%2=1 then(x/2)^^^2197175160 else x/2
def Zv:Nat->Nat->Nat
 |0,x=>x
 |n+1,x=>Zv n (lu x)
def oG (x:Nat) (c:UInt8):Nat:=Zv 8 (x^^^c.toNat)
def qb (l:List UInt8):Nat:=4294967295-l.foldl oG 4294967295
theorem ZzA (a b:Nat):(a^^^b)%2=(a+b)%2:=by
 have h:=Nat.testBit_xor a b 0;simp only[Nat.testBit_zero]at h;have e: ∀p q r:Nat,decide (p%2=1)=(decide (q%2=1)^^decide (r%2=1))->p%2=(q+r)%2:=by
  intro p q r h;rcases zf p with hp|hp<;>rcases zf q with hq|hq<;>rcases zf r with hr|hr<;>simp[hp,hq,hr]at h⊢ <;>omega
 exact e _ _ _ h
theorem Zy0 (a b:Nat):(a^^^b)/2=(a/2)^^^(b/2):=by
 have:=Nat.shiftRight_xor_distrib (a:=a) (b:=b) (i:=1);simpa [Nat.shiftRight_succ]using this
theorem Zx6 (a b:Nat):lu (a^^^b)=lu a^^^lu b:=by
 unfold lu;rw[ZzA,Zy0];rcases zf a with ha|ha<;>rcases zf b with hb|hb
 ·rw[ay (by omega),ay (by omega),ay (by omega)]
 ·rw[aF (by omega),ay (by omega),aF (by omega),Nat.xor_assoc]
 ·rw[aF (by omega),aF (by omega),ay (by omega),Nat.xor_assoc,Nat.xor_comm (b/2),<-Nat.xor_assoc]
 ·rw[ay (by omega),aF (by omega),aF (by omega)]
  rw[Nat.xor_assoc,Nat.xor_comm 2197175160 (b/2^^^2197175160),Nat.xor_assoc,Nat.xor_self,Nat.xor_zero]
theorem ZoG: ∀(n a b:Nat),Zv n (a^^^b)=Zv n a^^^Zv n b
 |0,_,_=>rfl
 |n+1,a,b=>by rw[Zv,Zv,Zv,Zx6,ZoG n]
theorem Zoo: ∀(m n x:Nat),Zv (m+n) x=Zv n (Zv m x)
 |0,n,x=>by rw[dy];rfl
 |m+1,n,x=>by rw[show m+1+n=(m+n)+1 by omega,Zv,Zv,Zoo m n]
theorem HX (z:Nat):lu (2*z)=z:=by unfold lu;rw[ay (by omega)];omega
theorem ZzK (x:Nat):x=(16*(x/16))^^^(x%16):=by
 refine Ew fun i=>?_
 rw[Nat.testBit_xor];have e1:(16*(x/16)).testBit i=(decide (4<=i)&&x.testBit i):=by
  rw[show 16*(x/16)=2^4*(x/2^4)from rfl,Nat.testBit_two_pow_mul];by_cases h:4<=i
  ·rw[ah h,Nat.testBit_div_two_pow,show i-4+4=i by omega]
  ·rw[ao h];simp
 have e2:(x%16).testBit i=(decide (i<4)&&x.testBit i):=by
  rw[show x%16=x%2^4 from rfl,Nat.testBit_mod_two_pow]
 rw[e1,e2];by_cases h:4<=i
 ·rw[ah h,ao (by omega)];simp
 ·rw[ao h,ah (by omega)];simp
theorem nib (x:Nat):Zv 4 x=(x/16)^^^Zv 4 (x%16):=by
 have h:Zv 4 (16*(x/16))=x/16:=by
  generalize x/16=y;show lu (lu (lu (lu (16*y))))=y;rw[show 16*y=2*(2*(2*(2*y))) by omega,HX,HX,HX,HX]
 have h2:=ZoG 4 (16*(x/16)) (x%16);rw[<-ZzK,h]at h2;exact h2
theorem Zt6 {x:Nat} (h:x<4294967296):lu x<4294967296:=by
 unfold lu;split
 ·exact By (n:=32) (by omega) (by omega)
 ·omega
theorem B3: ∀(n:Nat) {x:Nat},x<4294967296->Zv n x<4294967296
 |0,_,h=>h
 |n+1,_,h=>B3 n (Zt6 h)
theorem Zz5 {x:Nat} (h:x<4294967296) (c:UInt8):oG x c<4294967296:=
 B3 8 (By (n:=32) h (by have:=c.toNat_lt;omega))
theorem Cm: ∀(l:List UInt8) {x:Nat},x<4294967296->l.foldl oG x<4294967296
 |[],_,h=>h
 |c::l,_,h=>Cm l (Zz5 h c)
theorem OR (l:List UInt8):qb l<4294967296:=by unfold qb;omega
theorem Zzc (x:Nat) (c:UInt8):oG x c=((((x^^^c.toNat)/16)^^^Zv 4 ((x^^^c.toNat)%16))/16)^^^Zv 4 ((((x^^^c.toNat)/16)^^^Zv 4 ((x^^^c.toNat)%16))%16):=by
 unfold oG;generalize x^^^c.toNat=y;rw[show Zv 8 y=Zv 4 (Zv 4 y)from Zoo 4 4 y,nib y];exact nib _
theorem ZzI {x:Nat} (h:x<4294967296):x^^^4294967295=4294967295-x:=by
 refine Ew fun i=>?_
 rw[show(4294967295:Nat)=2^32-1 from rfl,Nat.testBit_xor,Nat.testBit_two_pow_sub_one,show 2^32-1-x=2^32-(x+1) by omega,Nat.testBit_two_pow_sub_succ (by omega)];by_cases hi:i<32
 ·rw[ah hi];simp
 ·rw[ao hi]
  have:x.testBit i=false:=KB (j5 (show x<2^32 by omega) (pU (by decide) (show 32<=i by simpa using hi)));simp[this]
end Go.Gv.F
namespace Go.Gv.F
open Go.Gv
variable {β:Type}
theorem tY {x:Nat} (h:x<18446744073709551616):IntKind.wrap .u64 (x:Int)=x:=IntWalk.u64_in _ (by omega)
theorem vK {x:Nat} (h:x<4294967296):IntKind.wrap .u32 (x:Int)=x:=by
 show(x:Int)%_=x;have:((2:Int)^32)=4294967296:=by decide
 show(x:Int)%(2^32)=x;omega
theorem ZzP (x:Nat):IntKind.wrap .u64 (x:Int)=((x%18446744073709551616:Nat):Int):=by
 show(x:Int)%(2^64)=_;have:((2:Int)^64)=18446744073709551616:=by decide
 omega
theorem Cz {x:Nat} (h:x<18446744073709551616):(BitVec.ofInt 64 (x:Int)).toNat=x:=by
 rw[Es];omega
theorem IT {x:Nat} (h:x<4294967296):(BitVec.ofInt 32 (x:Int)).toNat=x:=by
 rw[Es];omega
theorem Uw {x y:Nat} (hx:x<18446744073709551616) (hy:y<18446744073709551616):bits .or .u64 (x:Int) (y:Int)=((x|||y:Nat):Int):=by
 show IntKind.wrap .u64 ((BitVec.ofInt 64 (x:Int)|||BitVec.ofInt 64 (y:Int)).toNat:Int)=_;rw[BitVec.toNat_or,Cz hx,Cz hy];exact tY (Ey (n:=64) hx hy)
theorem SK {x y:Nat} (hx:x<18446744073709551616) (hy:y<18446744073709551616):bits .and .u64 (x:Int) (y:Int)=((x&&& y:Nat):Int):=by
 show IntKind.wrap .u64 ((BitVec.ofInt 64 (x:Int)&&& BitVec.ofInt 64 (y:Int)).toNat:Int)=_;rw[BitVec.toNat_and,Cz hx,Cz hy];exact tY (xe Nat.and_le_left hx)
theorem yV {x y:Nat} (hx:x<4294967296) (hy:y<4294967296):bits .xor .u32 (x:Int) (y:Int)=((x^^^y:Nat):Int):=by
 show IntKind.wrap .u32 ((BitVec.ofInt 32 (x:Int)^^^BitVec.ofInt 32 (y:Int)).toNat:Int)=_;rw[BitVec.toNat_xor,IT hx,IT hy];exact vK (By (n:=32) hx hy)
theorem SJ {x y:Nat} (hx:x<4294967296) (hy:y<4294967296):bits .and .u32 (x:Int) (y:Int)=((x&&& y:Nat):Int):=by
 show IntKind.wrap .u32 ((BitVec.ofInt 32 (x:Int)&&& BitVec.ofInt 32 (y:Int)).toNat:Int)=_;rw[BitVec.toNat_and,IT hx,IT hy];exact vK (xe Nat.and_le_left hx)
theorem zX (x m:Nat):Int.fdiv (x:Int) (m:Int)=((x/m:Nat):Int):=by
 cases m with
 |zero=>simp
 |succ m=>rw[Int.fdiv_eq_ediv_of_nonneg _ (by omega)];rfl
def bQ (l:List UInt8):List DV:=l.map fun b=> .int .u8 b.toNat
theorem vC (l:List UInt8):ZH l=bQ l:=rfl
theorem Zt (l:List UInt8):(bQ l).length=l.length:=by unfold bQ;rw[lV]
theorem N8 {l:List UInt8} {j:Nat} {b:UInt8} (h:l[j]? =some b):(bQ l)[j]? =some (.int .u8 b.toNat):=by unfold bQ;rw[gB,h];rfl
theorem Zxl (l:List UInt8) (k:Nat):(bQ l).drop k=bQ (l.drop k):=by unfold bQ;rw[List.map_drop]
theorem Zw9 (l:List UInt8) (k:Nat):(bQ l).take k=bQ (l.take k):=by unfold bQ;rw[List.map_take]
theorem Ik (l m:List UInt8):bQ (l++m)=bQ l++bQ m:=by unfold bQ;rw[dD]
def dF (s:St) (a:Option (Nat×Nat)) (l:List UInt8):Prop:=Sl s a (bQ l)
theorem dF.mono {s s':St} (k:aw s s') {a:Option (Nat×Nat)} {l:List UInt8} (h:dF s a l):dF s' a l:=Sl.mono k h
theorem dF.get {s:St} {i o:Nat} {l:List UInt8} (h:dF s (some (i,o)) l) {j:Nat} {b:UInt8} (hb:l[j]? =some b) (K:DV->M β):M.ar i (j+o) K s=K (.int .u8 b.toNat) s:=Sl.get h (N8 hb) K
theorem dF.dj {s:St} {i o:Nat} {l:List UInt8} (h:dF s (some (i,o)) l) {j:Nat} {b:UInt8} (hb:l[j]? =some b) (K:DV->M β):M.ar i (j*1+o) K s=K (.int .u8 b.toNat) s:=by rw[dx];exact h.get hb K
theorem dF.cm {s:St} {a:Option (Nat×Nat)} {l:List UInt8} (h:dF s a l) (hn:0<l.length): ∃i o,a=some (i,o):=Sl.cm h (by rw[Zt];exact hn)
theorem Sl.sub {s:St} {i o:Nat} {cs:List DV} (h:Sl s (some (i,o)) cs) {k:Nat} (hk:k<=cs.length):Sl s (some (i,k+o)) (cs.drop k):=by
 obtain⟨f,all,h1,h2,h3⟩:=h;refine⟨f,all,h1,by rw[ej];omega,?_⟩;rw[ej,show k+o=o+k by omega,<-iM,<-List.drop_take,h3]
theorem Sl.cY {s:St} {a:Option (Nat×Nat)} {cs:List DV} (h:Sl s a cs) {k:Nat} (hk:k<=cs.length):Sl s (cY true a k) (cs.drop k):=by
 cases a with
 |none=>rw[show cs=[]from h];simp[Go.Gv.cY,Sl]
 |some p=>exact Sl.sub h hk
theorem Sl.lx {s:St} {a:Option (Nat×Nat)} {cs:List DV} (h:Sl s a cs) (k:Nat):Sl s a (cs.take k):=by
 cases a with
 |none=>rw[show cs=[]from h];simp[Sl]
 |some p=>
  obtain⟨f,all,h1,h2,h3⟩:=h;refine⟨f,all,h1,by rw[cn];omega,?_⟩;rw[cn,<-Bu,h3]
theorem dF.cY {s:St} {a:Option (Nat×Nat)} {l:List UInt8} (h:dF s a l) {k:Nat} (hk:k<=l.length):dF s (cY true a k) (l.drop k):=by
 unfold dF;rw[<-Zxl];exact Sl.cY h (by rw[Zt];exact hk)
theorem dF.lx {s:St} {a:Option (Nat×Nat)} {l:List UInt8} (h:dF s a l) (k:Nat):dF s a (l.take k):=by
 unfold dF;rw[<-Zw9];exact Sl.lx h k
theorem Zkp {Bd:Za} (h:F4 Bd) (n:Nat) (a:Option (Nat×Nat)) (len at' k:Nat) (st:St) (hl:len<1000000) (hk:k<1000000):
  run Bd (n+1) 261 [.slice 1 a len,.int .i64 at',.int .i64 k] st=some (.val [.bool (decide (at'+k<=len))],st):=by
 rw[Zf,h.eq];unfold Gc;simp only[br,al,ai,ae,Zb,ah (show(at':Int)>=0 by omega),ah (show(k:Int)>=0 by omega),cond_true];by_cases h1:k<=len
 ·rw[ah (show(k:Int)<=(len:Int) by omega),cond_true]
  rw[Zd (by omega) (by omega),Zc];by_cases h2:at'+k<=len
  ·rw[ah h2,ah (by omega)]
  ·rw[ao h2,ao (by omega)]
 ·rw[ao (show ¬(k:Int)<=(len:Int) by omega),cond_false]
  rw[Zc,ao (by omega)]
theorem ok_eq {x:Option (Out β×St)} {o:Out β×St} (h:Ok (fun p=>p=o) x):x=some o:=by
 obtain⟨_,e,rfl⟩:=h;exact e
theorem Zy7 (l:List UInt8) (c:UInt8):ga (l++[c])=ga l+256^l.length*c.toNat:=by
 rw[Zv6];simp[ga]
theorem ZAj {x c k:Nat} (hx:x<2^k):x|||(c*2^k)=x+c*2^k:=by
 rw[Nat.or_comm,qU,<-Nat.two_pow_add_eq_or_of_lt hx,qT]
theorem Zys (k:Nat):256^k=2^(8*k):=by rw[Nat.pow_mul]
theorem vt {Bd:Za} (h:vv Bd) (n:Nat) (a:Option (Nat×Nat)) (l:List UInt8) (st:St) (ha:dF st a l) (hl:l.length<=8) (hn:12<=n):
  run Bd n 285 [.slice 1 a l.length] st=some (.val [.int .u64 (ga l)],st):=by
 obtain⟨n,rfl⟩: ∃m,n=m+1:=⟨n-1,by omega⟩;rw[Zf,h.eq];unfold GQ;simp only[br,ae];have hif:(if (8:Int)<(l.length:Int)then(8:Int)else(l.length:Int))=(l.length:Int):=ay (by omega);simp only[hif];rw[Ze (by simp),Zb];refine ok_eq ?_;refine Zl _ (fun q y s=>∃k:Nat,y=[.int .u64 (ga (l.take k)),.int .i64 k]/\s=st/\k<=l.length/\l.length-k<=q) ?_ l.length n _ _ ⟨0,by simp[ga],rfl,bH _,by omega⟩ (by omega);rintro q _ s ⟨k,rfl,rfl,hk,hq⟩ rec aD;simp only[al,ae,aY];by_cases aj:k<l.length
 ·rw[ah (show(k:Int)<(l.length:Int) by omega),cond_true]
  obtain⟨i,o,rfl⟩:=ha.cm (by omega);obtain⟨c,hc⟩: ∃c,l[k]? =some c:=⟨_,ba aj⟩;rw[aW,Ze (Zk aj),ha.dj hc];simp only[aS];rw[Zd (by omega) (by omega),Ze (ah (by omega)),Zd (by omega) (by omega)];have Jn:=c.toNat_lt;have e1:(8*(k:Int)).toNat=8*k:=by omega
  have hp:c.toNat*2^(8*k)<18446744073709551616:=by
   have h1:c.toNat*2^(8*k)<2^8*2^(8*k):=Nat.mul_lt_mul_of_pos_right (by omega) (mT _);have h2:2^8*2^(8*k)<=2^64:=by rw[<-Nat.pow_add];exact pU (by decide) (by omega)
   omega
  rw[e1,jK (by omega),tY (by omega)];have e2:((c.toNat:Int)*2^(8*k))=((c.toNat*2^(8*k):Nat):Int):=by push_cast;rfl
  rw[e2,tY hp];have TE:ga (l.take k)<2^(8*k):=by
   have:=IC (l.take k)
   rwa [cn,jK (by omega),Zys]at this
  have V6:ga (l.take k)<18446744073709551616:=j5 TE (by
   have:2^(8*k)<=2^64:=pU (by decide) (by omega);omega)
  rw[Uw V6 hp,ZAj TE];refine aD (l.length-(k+1)) _ _ (by omega) ⟨k+1,?_,rfl,by omega,aA _⟩;have e3:l.take (k+1)=l.take k++[c]:=by
   rw[List.take_add_one,hc];rfl
  rw[e3,Zy7,cn,jK (by omega),Zys,qU];simp
 ·rw[ao (show ¬(k:Int)<(l.length:Int) by omega),cond_false]
  rw[Zc,cF (by omega)];exact .mk rfl
end Go.Gv.F
namespace Go.Gv.F
open Go.Gv
variable {β:Type}
def rd (l:List UInt8) (at' k:Nat):Nat:=ga ((l.drop at').take k)
def ZC (l:List UInt8):Bool:=l.all (· ==0)
theorem zs {Bd:Za} (h:vw Bd) (n:Nat) (a:Option (Nat×Nat)) (l:List UInt8) (at' k:Nat) (st:St) (ha:dF st a l) (hl:l.length<1000000) (hk:at'+k<=l.length) (hn:k+5<=n):
  run Bd n 238 [.slice 1 a l.length,.int .i64 at',.int .i64 k] st=some (.val [.bool (ZC ((l.drop at').take k))],st):=by
 obtain⟨n,rfl⟩: ∃m,n=m+2:=⟨n-2,by omega⟩;rw[Zf,h.eq];unfold FE;simp only[br,al,ae];rw[Zj (Zkp h.RS n a l.length at' k st hl (by omega))];simp only[ai,ae];rw[ah hk,bg,cond_false,Zd (by omega) (by omega)];have e1:((at':Int)+(k:Int)).toNat=at'+k:=by omega
 simp only[e1];rw[Ze (by simp;omega),Ze (by simp;omega),Zb];simp only[aY,dx,show at'+k-at'=k by omega];refine ok_eq ?_;have hb:=ha.cY (k:=at') (by omega);generalize hm:l.drop at'=m at hb;have QE:k<=m.length:=by rw[<-hm,ej];omega
 refine Zl _ (fun q y s=>∃j:Nat,y=[.int .i64 j]/\s=st/\j<=k/\k-j<=q/\ZC (m.take j)=true) ?_ k (n+1) _ _ ⟨0,rfl,rfl,bH _,by omega,rfl⟩ (by omega);rintro q _ s ⟨j,rfl,rfl,hj,hq,hz⟩ rec aD;simp only[al,ae];by_cases aj:j<k
 ·rw[ah (show(j:Int)<(k:Int) by omega),cond_true]
  obtain⟨i,o,hio⟩:=hb.cm (by omega);rw[hio]at hb⊢;obtain⟨c,hc⟩: ∃c,m[j]? =some c:=⟨_,ba (by omega)⟩;rw[aW,Ze (Zk aj),aY,hb.get hc];simp only[aS];by_cases h0:c=0
  ·subst h0
   rw[show(!((((0:UInt8).toNat:Nat):Int)==0))=false from rfl,cond_false,Zd (by omega) (by omega)];refine aD (k-(j+1)) _ _ (by omega) ⟨j+1,by simp,rfl,by omega,aA _,?_⟩;have e3:m.take (j+1)=m.take j++[0]:=by rw[List.take_add_one,hc];rfl
   rw[e3];simp[ZC]at hz⊢;exact hz
  ·have hc0:c.toNat≠0:=fun e=>h0 (UInt8.toNat_inj.1 e)
   have e2:(!((c.toNat:Int)==0))=true:=by
    rw[gZ];exact cg.2 (by omega)
   rw[e2,cond_true,Zc];refine .mk ?_;have:ZC (m.take k)=false:=by
    cases e:ZC (m.take k)with
    |false=>rfl
    |true=>
     unfold ZC at e;rw[gm]at e;have:=e c (kK (i:=j) (by rw[mR,aF aj];exact hc));exact absurd (by simpa using this) h0
   rw[this]
 ·rw[ao (show ¬(j:Int)<(k:Int) by omega),cond_false]
  simp only[Zc];have:j=k:=by omega
  subst this;rw[hz];exact .mk rfl
theorem Zuv {Bd:Za} (h:MK Bd) (n:Nat) (a:Option (Nat×Nat)) (l:List UInt8) (at' k:Nat) (st:St) (ha:dF st a l) (hl:l.length<1000000) (h1:1<=k) (h8:k<=8) (hk:at'+k<=l.length) (hn:20<=n):
  run Bd n 312 [.slice 1 a l.length,.int .i64 at',.int .i64 k] st=some (.val [.int .u64 (rd l at' k),.bool true],st):=by
 obtain⟨n,rfl⟩: ∃m,n=m+2:=⟨n-2,by omega⟩;rw[Zf,h.eq];unfold Hd;simp only[br,al,ae,Zb,ao (show ¬(k:Int)<1 by omega),ao (show ¬(k:Int)>8 by omega),cond_false,ai];rw[Zj (Zkp h.RS n a l.length at' k st hl (by omega))];simp only[ai,ae];rw[ah hk,bg,cond_false,Zd (by omega) (by omega)];have e1:((at':Int)+(k:Int)).toNat=at'+k:=by omega
 simp only[e1];rw[Ze (by simp;omega),Ze (by simp;omega)];simp only[aY,dx,show at'+k-at'=k by omega];have hb:=(ha.cY (k:=at') (by omega)).lx k;have hlen:((l.drop at').take k).length=k:=by rw[cn,ej];omega
 have hr:=vt h.pK (n+1) _ _ st hb (by omega) (by omega);rw[hlen]at hr;rw[Zj hr];simp only[al,ae,Zc];rfl
def tw (x:Nat):List DV:=(List.range 16).map fun i=> .int .u32 (if i<x then(Zv 4 i:Nat)else 0)
def Bl:List DV:=tw 16
theorem ZyE: ∀x,x<16->bN (tw x) (x*1) [.int .u32 (Zv 4 x:Nat)]=tw (x+1)
 |0,_=>rfl|1,_=>rfl|2,_=>rfl|3,_=>rfl|4,_=>rfl|5,_=>rfl|6,_=>rfl|7,_=>rfl
 |8,_=>rfl|9,_=>rfl|10,_=>rfl|11,_=>rfl|12,_=>rfl|13,_=>rfl|14,_=>rfl|15,_=>rfl
 |n+16,h=>by omega
theorem ZtO {j:Nat} (h:j<16):Bl[j]? =some (.int .u32 (Zv 4 j:Nat)):=by
 unfold Bl tw;rw[gB,nS h];simp[h]
theorem Io (x:Nat):(tw x).length=16:=by unfold tw;simp
theorem ZvF {Bd:Za} (h:M2 Bd) (n:Nat) (x:Nat) (hx:x<4294967296) (st:St):run Bd (n+1) 320 [.int .u32 x] st=some (.val [.int .u32 (lu x)],st):=by
 rw[Zf,h.eq];unfold HD lu;simp only[al,ae];have ha:bits .and .u32 (x:Int) 1=((x%2:Nat):Int):=by
  have:=SJ hx (show 2^1-1<4294967296 by decide);rw[Nat.and_two_pow_sub_one_eq_mod]at this;exact this
 rw[ha,show((2:Int)^1)=((2:Nat):Int)from rfl,zX];have h2:x/2<4294967296:=by omega
 rcases zf x with e|e
 ·rw[e,show(((0:Nat):Int)==1)=false from rfl,cond_false,ay (by omega),Zc]
 ·rw[e,show(((1:Nat):Int)==1)=true from rfl,cond_true,aF rfl]
  rw[show(2197175160:Int)=((2197175160:Nat):Int)from rfl,yV h2 (by omega),Zc]
theorem GV: ∀(n x:Nat),Zv (n+1) x=lu (Zv n x)
 |0,_=>rfl
 |n+1,x=>by rw[Zv,GV n,Zv]
theorem ZtI {Bd:Za} (h:MI Bd) (n:Nat) (hn:30<=n) (st:St):run Bd n 317 [] st=some (.val [.agg Bl],st):=by
 obtain⟨n,rfl⟩: ∃m,n=m+2:=⟨n-2,by omega⟩;rw[Zf,h.eq];unfold Hs;simp only[ae,Zb];refine ok_eq ?_;refine Zl _ (fun q y s=>∃x:Nat,y=[.agg (tw x),.int .i64 x]/\s=st/\x<=16/\16-x<=q) ?_ 16 (n+1) _ _ ⟨0,rfl,rfl,by omega,by omega⟩ (by omega);rintro q _ s ⟨x,rfl,rfl,hx,hq⟩ rec aD;simp only[bU,al,ae,bB (Io x)];by_cases aj:x<16
 ·rw[ah (show(x:Int)<16 by omega),cond_true]
  rw[vK (by omega)];refine Zl _ (fun q y s'=>∃j:Nat,y=[.int .u32 (Zv j x),.int .i64 j]/\s'=s/\j<=4/\4-j<=q) ?_ 4 (n+1) _ _ ⟨0,rfl,rfl,by omega,by omega⟩ (by omega);rintro q' _ s' ⟨j,rfl,rfl,hj,wD⟩ dW pE;simp only[al,ae];by_cases Jt:j<4
  ·rw[ah (show(j:Int)<4 by omega),cond_true]
   rw[Zj (ZvF h.XB n (Zv j x) (B3 j (by omega)) s')];simp only[al,ae];rw[Zd (by omega) (by omega)];exact pE (4-(j+1)) _ _ (by omega) ⟨j+1,by rw[GV];simp,rfl,by omega,aA _⟩
  ·rw[ao (show ¬(j:Int)<4 by omega),cond_false]
   have:j=4:=by omega
   subst this;rw[Ze (by rw[Zk aj]),aY,Ze (by simp;omega),ZyE x aj];simp only[bB (Io (x+1))];rw[Zd (by omega) (by omega)];exact aD (16-(x+1)) _ _ (by omega) ⟨x+1,by simp,rfl,by omega,aA _⟩
 ·rw[ao (show ¬(x:Int)<16 by omega),cond_false,Zc]
  have:x=16:=by omega
  subst this;exact .mk rfl
end Go.Gv.F
namespace Go.Gv.F
open Go.Gv
variable {β:Type}
theorem Zoj {Bd:Za} (h:Ls Bd) (n x ti:Nat) (a:Option (Nat×Nat)) (l:List UInt8) (st:St) (ht:Sl st (some (ti,0)) Bl) (ha:dF st a l) (hx:x<4294967296) (hl:l.length<1000000) (hn:l.length+3<=n):
  run Bd n 318 [.ptr (some (ti,0)),.int .u32 x,.slice 1 a l.length] st=some (.val [.int .u32 (l.foldl oG x:Nat)],st):=by
 obtain⟨n,rfl⟩: ∃m,n=m+1:=⟨n-1,by omega⟩;rw[Zf,h.eq];unfold Gq;simp only[fa,al,br,ae,Zb];refine ok_eq ?_;refine Zl _ (fun q y s=>∃k:Nat,y=[.int .u32 ((l.take k).foldl oG x:Nat),.int .i64 k]/\s=st/\k<=l.length/\l.length-k<=q) ?_ l.length n _ _ ⟨0,by simp,rfl,bH _,by omega⟩ (by omega);rintro q _ s ⟨k,rfl,rfl,hk,hq⟩ rec aD;simp only[al,ae];by_cases aj:k<l.length
 ·rw[ah (show(k:Int)<(l.length:Int) by omega),cond_true]
  obtain⟨i,o,rfl⟩:=ha.cm (by omega);obtain⟨c,hc⟩: ∃c,l[k]? =some c:=⟨_,ba aj⟩;rw[aW,Ze (Zk aj),aY,ha.dj hc];simp only[aS];have Jn:=c.toNat_lt;have hy:(l.take k).foldl oG x<4294967296:=Cm _ hx;have e3:(l.take (k+1)).foldl oG x=oG ((l.take k).foldl oG x) c:=by
   have:l.take (k+1)=l.take k++[c]:=by rw[List.take_add_one,hc];rfl
   rw[this,List.foldl_append];rfl
  generalize (l.take k).foldl oG x=y at hy e3;have hz:y^^^c.toNat<4294967296:=By (n:=32) hy (by omega);rw[vK (by omega),yV hy (by omega)];rw[Zzc]at e3;generalize y^^^c.toNat=z at hz e3;have SI: ∀z:Nat,z<4294967296->bits .and .u32 (z:Int) 15=((z%16:Nat):Int):=fun z hz=>by
   have:=SJ hz (show 2^4-1<4294967296 by decide);rw[Nat.and_two_pow_sub_one_eq_mod]at this;exact this
  have f16: ∀z:Nat,Int.fdiv (z:Int) (2^4)=((z/16:Nat):Int):=fun z=>zX z 16
  have m16:z%16<16:=Nat.mod_lt _ (by decide);have Bk:Zv 4 (z%16)<4294967296:=B3 4 (by omega);rw[SI z hz,aW,Ze (Zk m16),aY,ht.dj (ZtO m16)];simp only[aS];rw[f16,yV (by omega) Bk];have hw:z/16^^^Zv 4 (z%16)<4294967296:=By (n:=32) (by omega) Bk;generalize z/16^^^Zv 4 (z%16)=w at hw e3;have Uh:w%16<16:=Nat.mod_lt _ (by decide);rw[SI w hw,aW,Ze (Zk Uh),aY,ht.dj (ZtO Uh)];simp only[aS];rw[f16,yV (by omega) (B3 4 (by omega)),Zd (by omega) (by omega)];exact aD (l.length-(k+1)) _ _ (by omega) ⟨k+1,by rw[e3];simp,rfl,by omega,aA _⟩
 ·rw[ao (show ¬(k:Int)<(l.length:Int) by omega),cond_false,Zc,cF (by omega)]
  exact .mk rfl
theorem Zq6 {s:St} {cs ds:List DV} (hl:ds.length=cs.length) (K:M β):M.store s.length 0 ds K (s++[some ⟨false,cs⟩])=K (s++[some ⟨false,ds⟩]):=by
 unfold M.store St.gy;rw[gN (aA _),pV];simp only[gJ];rw[gD (by omega),cond_true];have:bN cs 0 ds=ds:=by
  have key: ∀(cs ds:List DV),ds.length=cs.length->ov cs ds=ds:=by
   intro cs;induction cs with
   |nil=>intro ds h;cases ds with|nil=>rfl|cons _ _=>simp at h
   |cons c cs ih=>intro ds h;cases ds with|nil=>simp at h|cons d ds=>rw[ov,ih ds (by simpa using h)]
  have e:bN cs 0 ds=ov cs ds:=by cases cs<;>rfl
  rw[e,key cs ds hl]
 rw[this];congr 1;rw[List.set_append_right _ _ (aA _),pV];rfl
theorem ZwE {Bd:Za} (h:NB Bd) (n:Nat) (bs a:Option (Nat×Nat)) (l:List UInt8) (st:St) (wa:Sl st bs [.slice 1 a l.length]) (ha:dF st a l) (hl:l.length<1000000) (hn:l.length+40<=n):
  Ok (fun o=>∃s',o=(.val [.int .u32 (qb l)],s')/\aw st s') (run Bd n 306 [.slice 1 bs 1] st):=by
 obtain⟨n,rfl⟩: ∃m,n=m+1:=⟨n-1,by omega⟩;rw[Zf,h.eq];unfold H2;simp only[br,ae];rw[Zj (ZtI h.Xq n (by omega) st)];simp only[bU,ae,bB (Io 16),Bl];rw[Zy,Zq6 (by rw[Io];rfl),Zb];have hp:=aw.new st (some ⟨false,tw 16⟩);have ht:Sl (st++[some ⟨false,tw 16⟩]) (some (st.length,0)) Bl:=Cv st _;have P2:=wa.mono hp;have pq:=ha.mono hp;generalize (st++[some ⟨false,tw 16⟩])=s1 at hp ht P2 pq;obtain⟨i,o,rfl⟩:=P2.cm (by simp);obtain⟨m,rfl⟩: ∃m,n=m+2:=⟨n-2,by omega⟩;rw[vA];simp only[al,ae];rw[show decide ((0:Int)<((1:Nat):Int))=true from rfl,cond_true,aW,Ze (by rfl),show(0:Int).toNat=0 from rfl,P2.dj (j:=0) rfl];simp only[jw];have hr:=Zoj h.q48 (m+2) 4294967295 st.length a l s1 ht pq (by decide) hl (by omega);rw[show(4294967295:Int)=((4294967295:Nat):Int)from rfl,Zj hr];simp only[al,ae];rw[vA];simp only[al,ae];rw[show decide (af (0+1)<((1:Nat):Int))=false from rfl,cond_false];rw[yV (Cm l (by decide)) (by decide),ZzI (Cm l (by decide)),Zc];exact .mk ⟨s1,rfl,hp⟩
theorem Zvg {Bd:Za} (h:Nu Bd) (n x:Nat) (bs a:Option (Nat×Nat)) (l:List UInt8) (st:St) (wa:Sl st bs [.slice 1 a l.length]) (ha:dF st a l) (hl:l.length<1000000) (hn:l.length+41<=n):
  Ok (fun o=>∃s',o=(.val [.bool (decide (qb l=x))],s')/\aw st s') (run Bd n 286 [.int .u32 x,.slice 1 bs 1] st):=by
 obtain⟨n,rfl⟩: ∃m,n=m+1:=⟨n-1,by omega⟩;rw[Zf,h.eq];unfold Hz;simp only[al,br,ae];refine Ok.call (ZwE h.XE n bs a l st wa ha hl (by omega)) ?_;rintro _ ⟨s',rfl,hp⟩;refine⟨_,s',rfl,?_⟩;simp only[al,ae,Zc];refine .mk ⟨s',?_,hp⟩;congr 3;by_cases e:qb l=x
 ·rw[ah e,e];exact congrArg _ (fH _)
 ·rw[ao e];exact congrArg _ (cg.2 (by omega))
end Go.Gv.F
namespace Go.Gv.F
open Go.Gv
variable {β:Type}
def tJ (s:St) (a:Option (Nat×Nat)) (l:List UInt8):Prop:=Fz s a (bQ l)
theorem tJ.ua {s:St} {a:Option (Nat×Nat)} {l:List UInt8} (h:tJ s a l):dF s a l:=h.1
theorem tJ.kp {s s':St} {a:Option (Nat×Nat)} {l:List UInt8} (h:tJ s a l) (k:Kp s s'):tJ s' a l:=Fz.kp h k
def xI (l:List UInt8):Bool:=decide (l.length=64)&&(!(l.getD 4 0==0)&&(ZC ((l.drop 6).take 2)&&decide (qb (l.drop 4)=ga (l.take 4))))
def gH (l:List UInt8):Option (Nat×Nat×List UInt8):=bif xI l then some ((l.getD 4 0).toNat,(l.getD 5 0).toNat,l.drop 8)else none
theorem getD_some {l:List UInt8} {j:Nat} {c:UInt8} (h:l[j]? =some c):l.getD j 0=c:=by rw[bM,h];rfl
theorem Xa (c:UInt8):(!((c.toNat:Int)==0))= !(c==0):=by
 by_cases h:c=0
 ·subst h;rfl
 ·rw[cg.2 h,cg.2]
  intro e;exact h (UInt8.toNat_inj.1 (by simpa using e))
theorem ZpS {Bd:Za} (h:LC Bd) (n:Nat) (a:Option (Nat×Nat)) (l:List UInt8) (st:St) (ha:dF st a l) (hl:l.length<1000000) (hn:150<=n):
  Ok (fun o=>∃s',o=(.val [.bool (xI l)],s')/\aw st s') (run Bd n 259 [.slice 1 a l.length] st):=by
 obtain⟨n,rfl⟩: ∃m,n=m+1:=⟨n-1,by omega⟩;rw[Zf,h.eq];unfold F8 xI;simp only[br,ae,Zb];by_cases np:l.length=64
 ·rw[show(((l.length:Nat):Int)==64)=true by rw[np];rfl,cond_true,ah np,cI]
  obtain⟨i,o,rfl⟩:=ha.cm (by omega);obtain⟨c,hc⟩: ∃c,l[4]? =some c:=⟨_,ba (by omega)⟩;rw[aW,Ze (show au 4 l.length=true from Zk (i:=4) (by omega)),ha.get hc,getD_some hc];simp only[aS,ai,ae];rw[Xa];cases hz: !(c==0)with
  |false=>rw[cond_false];simp only[cond_false,Zc,eE];exact .mk ⟨st,rfl,.refl st⟩
  |true=>
   rw[cond_true,cI];have bA:=zs h.rQ n _ l 6 2 st ha hl (by omega) (by omega);rw[show(6:Int)=((6:Nat):Int)from rfl,show(2:Int)=((2:Nat):Int)from rfl,Zj bA];simp only[ai,ae];cases ZC ((l.drop 6).take 2)with
   |false=>simp only[cond_false,Zc,eE];exact .mk ⟨st,rfl,.refl st⟩
   |true=>
    rw[cond_true,cI,Ze (ah (by omega))];have yw:(l.take 4).length=4:=by rw[cn];omega
    have hr:=vt h.pK n _ (l.take 4) st (ha.lx 4) (by omega) (by omega);rw[yw]at hr;rw[tQ hr (.refl st)];simp only[al,ae];rw[Ze (ah (by omega)),Zy];have hp:=aw.new st (some ⟨false,[DV.slice 1 (cY true (some (i,o)) 4) (l.length-4)]⟩);have hs:=Cv st [DV.slice 1 (cY true (some (i,o)) 4) (l.length-4)];generalize (st++[some ⟨false,[DV.slice 1 (cY true (some (i,o)) 4) (l.length-4)]⟩])=s1 at hp hs;have aj:ga (l.take 4)<4294967296:=by have:=IC (l.take 4);rw[yw]at this;exact this
    rw[vK aj];have AM:(l.drop 4).length=l.length-4:=ej;rw[<-AM]at hs;refine Ok.call (Zvg h.XA n (ga (l.take 4)) _ _ (l.drop 4) s1 hs ((ha.mono hp).cY (by omega)) (by omega) (by omega)) ?_;rintro _ ⟨s2,rfl,bj⟩;refine⟨_,s2,rfl,?_⟩;simp only[ai,ae,Zc];exact .mk ⟨s2,rfl,hp.trans bj⟩
 ·rw[show(((l.length:Nat):Int)==64)=false from cg.2 (by omega),cond_false,ao np]
  simp only[ai,ae,cond_false,Zc,eE];exact .mk ⟨st,rfl,.refl st⟩
theorem ZqS {Bd:Za} (h:LM Bd) (n:Nat) (a:Option (Nat×Nat)) (l:List UInt8) (st:St) (ha:dF st a l) (h0:0<l.length) (hl:l.length<1000000):
  Ok (fun o=>∃p s',o=(.val [.slice 1 p l.length],s')/\aw st s'/\tJ s' p l) (run Bd (n+1) 260 [.slice 1 a l.length] st):=by
 rw[Zf,h.eq];unfold FY;simp only[br,ae];rw[sD];obtain⟨i,o,rfl⟩:=ha.cm h0;rw[show((some (i,o):Option (Nat×Nat)).isNone)=false from rfl,cond_false,Zy];have hp:=aw.new st (some ⟨false,[]⟩);have ho:bh st (st++[some ⟨false,[]⟩]) (some (st.length,0)) []:=⟨hp,.inr ⟨st.length,rfl,aA _,by simp⟩⟩;have pq:=ha.mono hp;generalize (st++[some ⟨false,[]⟩])=s1 at hp ho pq;rw[dx,<-Zt l,Bj pq];obtain⟨p,s2,dq,he⟩:=ho.app (β:=List DV) (sz:=1) (n:=0) (m:=l.length) (lim:=70368744177664) (ds:=bQ l) (by omega) (by simp) h0 (by omega);rw[Zt,he,ZY];rw[fu]at dq;exact .mk ⟨p,_,by rw[dy],Z1 dq.1,dq.fz⟩
theorem zB {Bd:Za} (h:vu Bd) (n:Nat) (a:Option (Nat×Nat)) (l:List UInt8) (st:St) (ha:dF st a l) (hl:l.length<1000000) (hn:152<=n):
  Ok (fun o=>∃s',aw st s'/\match gH l with
   |none=>o=(.val [.int .i64 0,.int .i64 0,.slice 0 none 0,.bool false],s')
   |some (k,t,b)=>∃p,o=(.val [.int .i64 (k:Nat),.int .i64 (t:Nat),.slice 1 p 56,.bool true],s')/\tJ s' p b/\b.length=56/\k<256/\t<256) (run Bd n 237 [.slice 1 a l.length] st):=by
 obtain⟨n,rfl⟩: ∃m,n=m+2:=⟨n-2,by omega⟩;rw[Zf,h.eq];unfold GF gH;simp only[br,ae];rw[sD];refine Ok.call (ZpS h.q57 (n+1) a l st ha hl (by omega)) ?_;rintro _ ⟨s1,rfl,hp⟩;refine⟨_,s1,rfl,?_⟩;simp only[ai,ae];cases hr:xI l with
 |false=>
  rw[bu,cond_true,ZY];simp only[cond_false];exact .mk ⟨_,Z1 hp,rfl⟩
 |true=>
  have np:l.length=64:=by
   unfold xI at hr;rw[aH]at hr;exact mU hr.1
  rw[bg,cond_false];simp only[cond_true];have pq:=ha.mono hp;obtain⟨i,o,rfl⟩:=pq.cm (by omega);obtain⟨c4,hc4⟩: ∃c,l[4]? =some c:=⟨_,ba (by omega)⟩;obtain⟨c5,hc5⟩: ∃c,l[5]? =some c:=⟨_,ba (by omega)⟩;rw[aW,Ze (show au 4 l.length=true from Zk (i:=4) (by omega)),pq.get hc4];simp only[aS];rw[aW,Ze (show au 5 l.length=true from Zk (i:=5) (by omega)),pq.get hc5];simp only[aS];rw[Ze (ah (by omega))];have hb:=pq.cY (k:=8) (by omega);have hd:(l.drop 8).length=l.length-8:=ej;have dz:=ZqS h.q58 n _ (l.drop 8) s1 hb (by omega) (by omega);rw[hd]at dz;obtain⟨_,e,p,s2,rfl,bj,hf⟩:=dz;rw[tQ e bj];simp only[br,ae,ZY];have h4:=c4.toNat_lt;have h5:=c5.toNat_lt;rw[getD_some hc4,getD_some hc5,Zd (by omega) (by omega),Zd (by omega) (by omega)];refine .mk ⟨_,Z1 (hp.trans bj),p,?_,hf.kp (ZAk _ _),by omega,h4,h5⟩;rw[np]
end Go.Gv.F
namespace Go.Gv.F
open Go.Gv
variable {β:Type}
structure jy where
 bD:bc
 kids:List Int
def uS (x:jy) (z:Nat) (p:Option (Nat×Nat)):List DV:=fA x.bD++[.slice z p x.kids.length]
def dO (l:List UInt8) (at' k:Nat):Int:=af ((rd l at' k:Nat):Int)
def uP (k:Int):Bool:=decide (k<2)||decide (k>=3072)
def me (x:jy):Bool:= !(decide (x.bD.slot<0)||(decide (x.bD.slot>=1792)||(decide (x.bD.gen<1)||(decide (x.bD.gen>4294967295)||decide ((x.kids.length:Int)>12)))))&& !x.kids.any uP
def p9 (b:List UInt8) (t:Nat):List Int:=(List.range t).map fun j=>dO b (24+2*j) 2
theorem BR (b:List UInt8) (t:Nat):(p9 b t).length=t:=by unfold p9;simp
theorem ZuY (b:List UInt8) (t:Nat):p9 b (t+1)=p9 b t++[dO b (24+2*t) 2]:=by unfold p9;rw[tF,dD];rfl
def vL (b:List UInt8) (t:Nat):jy:=⟨⟨dO b 16 4,dO b 20 4,dO b 0 8,dO b 8 8⟩,p9 b t⟩
def sP (l:List UInt8):Option jy:=match gH l with
 |none=>none
 |some (k,t,b)=>bif decide (k=1)&&decide (t<=12)then(bif me (vL b t)&&ZC (b.drop (24+2*t))then some (vL b t)else none)else none
theorem BE {Bd:Za} (h:LA Bd) (n:Nat) (a:Option (Nat×Nat)) (l:List UInt8) (at' k:Nat) (I K:Int) (hI:I=at') (hK:K=k) (st:St) (ha:dF st a l) (hl:l.length<1000000) (h1:1<=k) (h8:k<=8) (hk:at'+k<=l.length) (hn:21<=n):
  run Bd n 295 [.slice 1 a l.length,.int .i64 I,.int .i64 K] st=some (.val [.int .i64 (dO l at' k)],st):=by
 subst hI hK;obtain⟨n,rfl⟩: ∃m,n=m+1:=⟨n-1,by omega⟩;rw[Zf,h.eq];unfold Gw;simp only[br,al,ae];rw[Zj (Zuv h.Xs n a l at' k st ha hl h1 h8 hk (by omega))];simp only[al,ai,ae,Zc];rfl
theorem Zpi {Bd:Za} (h:Lp Bd) (n:Nat) (k:Int) (st:St):run Bd (n+1) 313 [.int .i64 k] st=some (.val [.bool (uP k)],st):=by
 rw[Zf,h.eq];unfold Fu uP;simp only[al,ae,Zb,ai];cases decide (k<2)<;>simp only[cond_true,cond_false,Zc,tC,pQ]
theorem ZsG {Bd:Za} (h:Ma Bd) (n:Nat) (x:jy) (p:Option (Nat×Nat)) (st:St) (hs:Sl st p (ints x.kids)) (hl:x.kids.length<1000000) (hn:x.kids.length+20<=n):
  run Bd n 296 [.agg (uS x 1 p)] st=some (.val [.bool (me x)],st):=by
 obtain⟨n,rfl⟩: ∃m,n=m+1:=⟨n-1,by omega⟩;rw[Zf,h.eq];have hci:=ZpI h.q3 n 1 313 [] [] x.kids p st uP (.inl rfl) hs (by omega) hl (fun v _=>by
  obtain⟨m,hm⟩: ∃m,n-2=m+1:=⟨n-3,by omega⟩;rw[hm];exact Zpi h.q53 m v st)
 unfold GP uS fA me;simp only[j3,fu,bU,al,br,ae,Zb];cases decide (x.bD.slot<0)with
 |true=>simp only[cond_true,ai,ae,Zc,tC,bg,eE]
 |false=>
 cases decide (x.bD.slot>=1792)with
 |true=>simp only[cond_true,cond_false,ai,ae,Zc,tC,pQ,bg,eE]
 |false=>
 cases decide (x.bD.gen<1)with
 |true=>simp only[cond_true,cond_false,ai,ae,Zc,tC,pQ,bg,eE]
 |false=>
 cases decide (x.bD.gen>4294967295)with
 |true=>simp only[cond_true,cond_false,ai,ae,Zc,tC,pQ,bg,eE]
 |false=>
 cases decide ((x.kids.length:Int)>12)with
 |true=>simp only[cond_true,cond_false,ai,ae,Zc,pQ,bg,eE]
 |false=>
  simp only[cond_false,ai,ae,pQ,bu,cI];rw[Zj hci];simp only[ai,ae,Zc]
theorem NG {l:List UInt8} {x:jy} (h:sP l=some x):me x=true/\x.kids.length<=12:=by
 unfold sP at h;split at h
 ·cases h
 ·rename_i k t b _
  cases e:(decide (k=1)&&decide (t<=12))with
  |false=>rw[e]at h;cases h
  |true=>
   rw[e]at h;cases e2:(me (vL b t)&&ZC (b.drop (24+2*t)))with
   |false=>rw[e2]at h;cases h
   |true=>
    rw[e2]at h;cases h;rw[aH]at e e2;refine⟨e2.1,?_⟩;show(p9 b t).length<=12;rw[BR];exact mU e.2
theorem ZvE {Bd:Za} (h:Ns Bd) (n:Nat) (a:Option (Nat×Nat)) (l:List UInt8) (st:St) (ha:dF st a l) (hl:l.length<1000000) (hn:160<=n):
  Ok (fun o=>∃s',aw st s'/\match sP l with
   |none=>o=(.val [.agg [.int .i64 0,.int .i64 0,.int .i64 0,.int .i64 0,.slice 0 none 0],.bool false],s')
   |some x=>∃p,o=(.val [.agg (uS x 1 p),.bool true],s')/\Fz s' p (ints x.kids)) (run Bd n 272 [.slice 1 a l.length] st):=by
 obtain⟨n,rfl⟩: ∃m,n=m+1:=⟨n-1,by omega⟩;rw[Zf,h.eq];unfold HL sP;simp only[br,ae,Zb];rw[sD];refine Ok.call (zB h.rR n a l st ha hl (by omega)) ?_;rintro _ ⟨s1,aJ,ho⟩;cases dr:gH l with
 |none=>
  rw[dr]at ho;subst ho;refine⟨_,s1,rfl,?_⟩;simp only[al,ai,ae,Zm 1 0 none _ (.inr rfl)];rw[bu,cond_true];simp only[cond_true];rw[ZY];exact .mk ⟨_,Z1 aJ,rfl⟩
 |some q=>
  obtain⟨k,t,b⟩:=q;rw[dr]at ho;obtain⟨p1,rfl,hf,hb,hk,ht⟩:=ho;refine⟨_,s1,rfl,?_⟩;simp only[al,ai,br,ae];rw[bg,cond_false];have e1:(((k:Nat):Int)==1)=decide (k=1):=by
   by_cases jE:k=1
   ·subst jE;rfl
   ·rw[ao jE];exact cg.2 (by omega)
  rw[e1];cases jE:decide (k=1)with
  |false=>
   rw[bu];simp only[cond_true,eE,cond_false];rw[ZY];exact .mk ⟨_,Z1 aJ,rfl⟩
  |true=>
  rw[bg];simp only[cond_false,cI];by_cases fZ:t<=12
  ·rw[ao (show ¬((t:Nat):Int)>12 by omega),ah fZ]
   simp only[cond_false,cond_true];have cq:=hf.ua;rw[show(56:Nat)=b.length from hb.symm];rw[Zj (BE h.D5 n p1 b 16 4 16 4 rfl rfl s1 cq (by omega) (by omega) (by omega) (by omega) (by omega))];simp only[al,ae];rw[Zj (BE h.D5 n p1 b 20 4 20 4 rfl rfl s1 cq (by omega) (by omega) (by omega) (by omega) (by omega))];simp only[al,ae];rw[Zj (BE h.D5 n p1 b 0 8 0 8 rfl rfl s1 cq (by omega) (by omega) (by omega) (by omega) (by omega))];simp only[al,ae];rw[Zj (BE h.D5 n p1 b 8 8 8 8 rfl rfl s1 cq (by omega) (by omega) (by omega) (by omega) (by omega))];simp only[al,ae];refine Zl _ (fun q y s=>∃(i z:Nat) (p:Option (Nat×Nat)),y=[.agg [.int .i64 (dO b 16 4),.int .i64 (dO b 20 4),.int .i64 (dO b 0 8),.int .i64 (dO b 8 8),.slice z p i],.int .i64 i]/\(z=1\/p=none)/\i<=t/\t-i<=q/\bh st s p (ints (p9 b i))/\tJ s p1 b) ?_ t n _ _ ⟨0,0,none,rfl,.inr rfl,bH _,by omega,bh.nil aJ,hf⟩ (by omega);rintro q _ s ⟨i,z,p,rfl,hz,hi,hq,ho,AP⟩ rec aD;simp only[bU,al,Zm 1 z p _ hz,ae];by_cases aj:i<t
   ·rw[ah (show(i:Int)<(t:Int) by omega),cond_true,Zd (x:=2*(i:Int)) (by omega) (by omega),Zd (by omega) (by omega),show(24+2*(i:Int))=((24+2*i:Nat):Int) by omega]
    rw[If (BE h.D5 n p1 b (24+2*i) 2 _ 2 rfl rfl s AP.ua (by omega) (by omega) (by omega) (by omega) (by omega))];simp only[al,ae];obtain⟨p2,s2,dq,nA,he⟩:=ho.wT (β:=List DV) (sz:=1) (n:=i) (lim:=8796093022208) [.int .i64 (dO b (24+2*i) 2)] (sf 0) (by simp[ints,BR]) rfl (by omega);rw[he,Zd (by omega) (by omega)];refine aD (t-(i+1)) _ _ (by omega) ⟨i+1,1,p2,by simp,.inl rfl,by omega,aA _,?_,AP.kp nA⟩;rw[ZuY];show bh st s2 p2 (List.map _ _);rw[dD];exact dq
   ·rw[ao (show ¬(i:Int)<(t:Int) by omega),cond_false]
    have Qr:i=t:=by omega
    subst Qr;have hr:=ZsG h.q90 n (vL b i) p s ho.sl (by show(p9 b i).length<_;rw[BR];omega) (by show(p9 b i).length+_<=_;rw[BR];omega);have hc:uS (vL b i) 1 p=[.int .i64 (dO b 16 4),.int .i64 (dO b 20 4),.int .i64 (dO b 0 8),.int .i64 (dO b 8 8),.slice 1 p i]:=by
     show fA _++[DV.slice 1 p (p9 b i).length]=_;rw[BR];rfl
    simp only[br,ae];rw[<-hc,Zj hr];simp only[ai,ae];cases QV:me (vL b i)with
    |false=>
     rw[bu,cond_true];simp only[eE,cond_false];rw[ZY];exact .mk ⟨_,Z1 ho.1,rfl⟩
    |true=>
     rw[bg,cond_false,Zd (x:=2*(i:Int)) (by omega) (by omega),Zd (x:=24+2*(i:Int)) (by omega) (by omega),Zd (by omega) (by omega)];rw[show(24+2*(i:Int))=((24+2*i:Nat):Int) by omega,show((b.length:Nat):Int)-((24+2*i:Nat):Int)=((b.length-(24+2*i):Nat):Int) by omega];rw[Zj (zs h.rQ n p1 b (24+2*i) (b.length-(24+2*i)) s AP.ua (by omega) (by omega) (by omega))];rw[cF (by rw[ej];exact aA _)];simp only[ai,ae,cI];cases ZC (b.drop (24+2*i))with
     |false=>
      simp only[bu,cond_true,cond_false];rw[ZY];exact .mk ⟨_,Z1 ho.1,rfl⟩
     |true=>
      simp only[bg,cond_true,cond_false];rw[ZY];exact .mk ⟨_,Z1 ho.1,p,rfl,ho.fz⟩
  ·rw[ah (show((t:Nat):Int)>12 by omega),ao fZ]
   simp only[cond_false,cond_true];rw[ZY];exact .mk ⟨_,Z1 aJ,rfl⟩
end Go.Gv.F
namespace Go.Gv.F
open Go.Gv
variable {β:Type}
theorem Zs1: ∀(B D C:List DV),B.length=D.length->ov (B++C) D=D++C
 |[],[],C,_=>by simp[Zxc]
 |b::B,d::D,C,h=>by show d::ov (B++C) D=_;rw[Zs1 B D C (by simpa using h)];rfl
 |[],_::_,_,h=>by cases h
 |_::_,[],_,h=>by cases h
theorem rb: ∀(A B C D:List DV),B.length=D.length->bN (A++(B++C)) A.length D=A++(D++C)
 |[],B,C,D,h=>by
  show bN (B++C) 0 D=D++C;rw[<-Zs1 B D C h];cases B++C<;>rfl
 |a::A,B,C,D,h=>by show a::bN (A++(B++C)) A.length D=_;rw[rb A B C D h];rfl
def dG (t j:Nat):Bool:=decide (t/2^j%2=1)
theorem Zyq {t j:Nat} (ht:t<9223372036854775808) (hj:j<=63):bits .and .i64 ((t:Int).fdiv (2^(min j 64))) 1=((t/2^j%2:Nat):Int):=by
 rw[jK (by omega),show((2:Int)^j)=((2^j:Nat):Int) by push_cast;rfl,zX];have h1:t/2^j<9223372036854775808:=xe (Bw _ _) ht;show IntKind.wrap .i64 ((BitVec.ofInt 64 ((t/2^j:Nat):Int)&&& BitVec.ofInt 64 (1:Int)).toNat:Int)=_;rw[BitVec.toNat_and,Cz (by omega),show(BitVec.ofInt 64 (1:Int)).toNat=1 from rfl,Nat.and_one_is_mod];exact Zd (by omega) (by omega)
theorem ZvY {t j:Nat} (ht:t<9223372036854775808) (hj:j<=63):(bits .and .i64 ((t:Int).fdiv (2^(min j 64))) 1==1)=dG t j:=by
 rw[Zyq ht hj];unfold dG;by_cases h:t/2^j%2=1
 ·rw[h];rfl
 ·rw[ao h];exact cg.2 (by omega)
theorem Zy1 {t j:Nat} (ht:t<9223372036854775808) (hj:j<=63):(bits .and .i64 ((t:Int).fdiv (2^(min j 64))) 1==0)= !dG t j:=by
 rw[Zyq ht hj];unfold dG;by_cases h:t/2^j%2=1
 ·rw[h];rfl
 ·rw[ao h,show t/2^j%2=0 by omega];rfl
structure bF where
 live:Bool
 gen:Int
 block:Int
def fQ (x:bF):List DV:=[.bool x.live,.int .i64 x.gen,.int .i64 x.block]
def bR (l:List bF):List DV:=(l.map fQ).flatten
theorem ZP (l:List bF):(bR l).length=l.length*3:=by
 unfold bR;induction l with
 |nil=>rfl
 |cons e l ih=>rw[gK,mQ,aZ,ih,ee];show 3+_=_;omega
theorem Zq4 (l m:List bF):bR (l++m)=bR l++bR m:=by unfold bR;rw[dD,vb]
def lr:bF:=⟨false,0,0⟩
def uQ:List bF:=List.replicate 7 lr
def ke (v f t:Int):Bool:=bif decide (v>=f)then decide (v<=t)else false
def ZL (x:bF):Bool:=bif x.live then ke x.gen 1 4294967295&&ke x.block 2 3071 else ke x.gen 0 4294967295&&(ke x.block 0 1792&&(decide (x.gen>0)||x.block==0))
def tX (b:List UInt8) (t j:Nat):bF:=⟨dG t j,dO b (8*j) 4,dO b (8*j+4) 4⟩
def kd (b:List UInt8) (t n:Nat):List bF:=(List.range n).map (tX b t)
theorem M8 (b:List UInt8) (t n:Nat):(kd b t n).length=n:=by unfold kd;simp
theorem Zna (b:List UInt8) (t n:Nat):kd b t (n+1)=kd b t n++[tX b t n]:=by unfold kd;rw[tF,dD];rfl
def pY (l:List UInt8):Option (List bF):=match gH l with
 |none=>none
 |some (k,t,b)=>bif decide (k=2)&&decide (t<128)then(bif (kd b t 7).all ZL then some (kd b t 7)else none)else none
theorem BF {Bd:Za} (h:Gs Bd) (n:Nat) (v f t:Int) (st:St):run Bd (n+1) 314 [.int .i64 v,.int .i64 f,.int .i64 t] st=some (.val [.bool (ke v f t)],st):=by
 rw[Zf,h.eq];unfold F7 ke;simp only[al,ae,Zb,ai];cases decide (v>=f)<;>rfl
theorem Zm5 {Bd:Za} (h:Lb Bd) (n:Nat) (x:bF) (st:St):run Bd (n+2) 297 [.agg (fQ x)] st=some (.val [.bool (ZL x)],st):=by
 rw[Zf,h.eq];unfold FM fQ ZL;simp only[bU,al,ai,ae,Zb];cases x.live with
 |true=>
  rw[cond_true,cond_true,Zj (BF h.Bi n _ _ _ st)];simp only[ai,ae];cases ke x.gen 1 4294967295 with
  |false=>rfl
  |true=>
   rw[cond_true,Zj (BF h.Bi n _ _ _ st)];rfl
 |false=>
  rw[cond_false,cond_false,Zj (BF h.Bi n _ _ _ st)];simp only[ai,ae];cases ke x.gen 0 4294967295 with
  |false=>rfl
  |true=>
   rw[cond_true,Zj (BF h.Bi n _ _ _ st)];simp only[ai,ae,cI];cases ke x.block 0 1792 with
   |false=>rfl
   |true=>
    cases decide (x.gen>0)<;>rfl
theorem vI (k c:Nat) (C:Int) (hC:C=c):(((k:Nat):Int)==C)=decide (k=c):=by
 subst hC;by_cases h:k=c
 ·subst h;rw[ah rfl];exact fH _
 ·rw[ao h];exact cg.2 (by omega)
theorem Zo1 {Bd:Za} (h:Lt Bd) (n:Nat) (a:Option (Nat×Nat)) (l:List UInt8) (st:St) (ha:dF st a l) (hl:l.length<1000000) (hn:160<=n):
  Ok (fun o=>∃s',aw st s'/\match pY l with
   |none=>o=(.val [.agg (bR uQ),.bool false],s')
   |some x=>o=(.val [.agg (bR x),.bool true],s')) (run Bd n 273 [.slice 1 a l.length] st):=by
 obtain⟨n,rfl⟩: ∃m,n=m+1:=⟨n-1,by omega⟩;rw[Zf,h.eq];unfold Fv pY;simp only[br,ae,Zb];refine Ok.call (zB h.rR n a l st ha hl (by omega)) ?_;rintro _ ⟨s1,aJ,ho⟩;cases dr:gH l with
 |none=>
  rw[dr]at ho;subst ho;refine⟨_,s1,rfl,?_⟩;simp only[al,ai,ae,Zm 1 0 none _ (.inr rfl)];rw[bu,cond_true];simp only[cond_true,Zc];exact .mk ⟨_,aJ,rfl⟩
 |some q=>
  obtain⟨k,t,b⟩:=q;rw[dr]at ho;obtain⟨p1,rfl,hf,hb,hk,ht⟩:=ho;refine⟨_,s1,rfl,?_⟩;simp only[al,ai,br,ae];rw[bg,cond_false,vI k 2 2 rfl];cases jE:decide (k=2)with
  |false=>
   rw[bu];simp only[cond_true,eE,cond_false,Zc];exact .mk ⟨_,aJ,rfl⟩
  |true=>
  rw[bg];simp only[cond_false,cI];by_cases fZ:t<128
  ·rw[ao (show ¬((t:Nat):Int)>=128 by omega),ah fZ]
   simp only[cond_false,cond_true];have cq:=hf.ua;refine Zl _ (fun q y s=>∃i:Nat,y=[.agg (bR uQ),.agg (bR (kd b t i)++bR (List.replicate (7-i) lr)),.int .i64 i]/\i<=7/\7-i<=q/\s=s1/\(kd b t i).all ZL=true) ?_ 7 n _ _ ⟨0,rfl,by omega,by omega,rfl,rfl⟩ (by omega);rintro q _ s ⟨i,rfl,hi,hq,rfl,bW⟩ rec aD;have hlen:(bR (kd b t i)++bR (List.replicate (7-i) lr)).length=21:=by
    rw[aZ,ZP,ZP,M8,oO];omega
   simp only[bU,al,ae];rw[bB (cs:=bR uQ) (n:=21) rfl,bB hlen];by_cases aj:i<7
   ·have cc:af ((i:Int)+1)=((i+1:Nat):Int):=Zd (by omega) (by omega)
    have fE:af (8*((i+1:Nat):Int))=((8*(i+1):Nat):Int):=Zd (by omega) (by omega);have nE:af (8*(i:Int))=((8*i:Nat):Int):=Zd (by omega) (by omega);simp only[cc,fE,nE,aY,dx];rw[ah (show(i:Int)<7 by omega),cond_true];rw[Ze (by rw[aH,bx,bx];omega),Ze (by rw[aH,bx,bx];omega),Ze (ah (by omega)),Ze (ah (by omega))];have fL:=cq.cY (k:=8*i) (by omega);have sT:(b.drop (8*i)).length=56-8*i:=by rw[ej,hb]
    have DC:((b.drop (8*i)).take 4).length=4:=by rw[cn];omega
    have iH:=vt h.pK n _ ((b.drop (8*i)).take 4) s (fL.lx 4) (by omega) (by omega);rw[DC]at iH;rw[tQ iH (.refl s)];simp only[al,ae];rw[Ze (ah (by omega)),show 8*(i+1)-8*i-4=4 by omega];have jC:=fL.cY (k:=4) (by omega);have Q6:(((b.drop (8*i)).drop 4).take 4).length=4:=by rw[cn,ej];omega
    have mB:=vt h.pK n _ (((b.drop (8*i)).drop 4).take 4) s (jC.lx 4) (by omega) (by omega);rw[Q6]at mB;rw[tQ mB (.refl s)];simp only[al,ae];rw[iM,ZvY (by omega) (by omega)];obtain⟨n,rfl⟩: ∃m,n=m+2:=⟨n-2,by omega⟩;have hrs:=Zm5 h.q33 n (tX b t i) s;have hsc:fQ (tX b t i)=[.bool (dG t i),.int .i64 (af ((ga ((b.drop (8*i)).take 4):Nat):Int)),.int .i64 (af ((ga ((b.drop (8*i+4)).take 4):Nat):Int))]:=rfl;rw[<-hsc,Zj hrs];simp only[ai,ae];cases JN:ZL (tX b t i)with
    |false=>
     rw[bu,cond_true];have:(kd b t 7).all ZL=false:=y6.2 ⟨tX b t i,dE.2 ⟨i,jd.2 aj,rfl⟩,by rw[JN];decide⟩;rw[this,cond_false,Zc];exact .mk ⟨s,aJ,rfl⟩
    |true=>
     rw[bg,cond_false,Ze (show au (i:Int) 7=true from Zk aj),Ze (gD (by omega))];refine aD (7-(i+1)) _ _ (by omega) ⟨i+1,?_,by omega,aA _,rfl,?_⟩
     ·congr 3
      rw[Zna,Zq4,show List.replicate (7-i) lr=lr::List.replicate (7-(i+1)) lr by rw[show 7-i=(7-(i+1))+1 by omega];rfl];show bN (bR (kd b t i)++(fQ lr++bR (List.replicate (7-(i+1)) lr))) (i*3) (fQ (tX b t i))=_;have e3:i*3=(bR (kd b t i)).length:=by rw[ZP,M8]
      rw[e3,rb (bR (kd b t i)) (fQ lr) (bR (List.replicate (7-(i+1)) lr)) (fQ (tX b t i)) rfl,dB];rfl
     ·rw[Zna,qR,bW]
      simp[JN]
   ·rw[ao (show ¬(i:Int)<7 by omega),cond_false]
    have sY:i=7:=by omega
    subst sY;rw[bB (cs:=bR uQ) (n:=21) rfl,bB hlen,bB hlen,bW,cond_true,Zc];refine .mk ⟨s,aJ,?_⟩;show _=(Out.val [DV.agg (bR (kd b t 7)),_],s);rw[show bR (List.replicate (7-7) lr)=[]from rfl,dZ]
  ·rw[ah (show((t:Nat):Int)>=128 by omega),ao fZ]
   simp only[cond_false,cond_true,Zc];exact .mk ⟨_,aJ,rfl⟩
def zT (l:List Int):Bool:=l.all fun v=>v==0||ke v 2 3071
def gp (b:List UInt8) (n:Nat):List Int:=(List.range n).map fun j=>dO b (2*j) 2
theorem qW (b:List UInt8) (n:Nat):(gp b n).length=n:=by unfold gp;simp
theorem Zo7 (b:List UInt8) (n:Nat):gp b (n+1)=gp b n++[dO b (2*n) 2]:=by unfold gp;rw[tF,dD];rfl
def sE (l:List UInt8):Option (List Int):=match gH l with
 |none=>none
 |some (k,t,b)=>bif decide (k=3)&&(decide (t=0)&&ZC (b.drop 32))then(bif zT (gp b 16)then some (gp b 16)else none)else none
theorem Zw {l:List Int} {j:Nat} (h:j<l.length):(ints l)[j]? =some (.int .i64 l[j]):=by simp[ints,h]
theorem j7 {cs:List DV} {i:Nat} {d:DV} (h:cs[i]? =some d) (K:DV->M β):D.nth cs i K=K d:=by unfold D.nth;rw[h]
theorem ZnT {Bd:Za} (h:Lm Bd) (n:Nat) (l:List Int) (st:St) (hl:l.length=16) (hn:22<=n):run Bd n 298 [.agg (ints l)] st=some (.val [.bool (zT l)],st):=by
 obtain⟨n,rfl⟩: ∃m,n=m+2:=⟨n-2,by omega⟩;rw[Zf,h.eq];unfold FI zT;have hlen:(ints l).length=16:=by simp[ints,hl]
 simp only[bU,ae,Zb];rw[bB hlen,bB hlen];refine ok_eq ?_;refine Zl _ (fun q y s=>∃i:Nat,y=[.int .i64 i]/\i<=16/\16-i<=q/\s=st/\(l.take i).all (fun v=>v==0||ke v 2 3071)=true) ?_ 16 (n+1) _ _ ⟨0,rfl,by omega,by omega,rfl,rfl⟩ (by omega);rintro q _ s ⟨i,rfl,hi,hq,rfl,bW⟩ rec aD;simp only[al,ae];by_cases aj:i<16
 ·rw[ah (show(i:Int)<16 by omega),cond_true,Ze (show au (i:Int) 16=true from Zk aj),aY,dx,j7 (Zw (by omega))]
  simp only[aS];have hw:af ((i:Int)+1)=((i+1:Nat):Int):=Zd (by omega) (by omega);have az:(l[i]==0||ke l[i] 2 3071)=true->Ok (fun p=>p=(Out.val [DV.bool (l.all fun v=>v==0||ke v 2 3071)],s)) (rec [.int .i64 (af ((i:Int)+1))] s):=fun e=>by
   rw[hw];refine aD (16-(i+1)) _ _ (by omega) ⟨i+1,rfl,by omega,aA _,rfl,?_⟩;rw[kL (by omega),qR,bW];simpa using e
  have bA:(l[i]==0||ke l[i] 2 3071)=false->(l.all fun v=>v==0||ke v 2 3071)=false:=fun e=>y6.2 ⟨l[i],gC _,by rw[e];decide⟩
  cases h0:(l[i]==0)with
  |true=>
   rw[bg,cond_false];simp only[ai,ae,cond_false];exact az (by rw[h0];rfl)
  |false=>
   rw[bu,cond_true,Zj (BF h.Bi n _ _ _ s)];simp only[ai,ae];cases fE:ke l[i] 2 3071 with
   |true=>
    rw[bg,cond_false];exact az (by rw[h0,fE];rfl)
   |false=>
    rw[bu,cond_true,Zc,bA (by rw[h0,fE];rfl)];exact .mk rfl
 ·rw[ao (show ¬(i:Int)<16 by omega),cond_false,Zc]
  rw[cF (by omega)]at bW;rw[bW];exact .mk rfl
theorem ZpK {Bd:Za} (h:LD Bd) (n:Nat) (a:Option (Nat×Nat)) (l:List UInt8) (st:St) (ha:dF st a l) (hl:l.length<1000000) (hn:160<=n):
  Ok (fun o=>∃s',aw st s'/\match sE l with
   |none=>o=(.val [.agg (ints (List.replicate 16 0)),.bool false],s')
   |some x=>o=(.val [.agg (ints x),.bool true],s')/\x.length=16) (run Bd n 274 [.slice 1 a l.length] st):=by
 obtain⟨n,rfl⟩: ∃m,n=m+1:=⟨n-1,by omega⟩;rw[Zf,h.eq];unfold F0 sE;simp only[br,ae,Zb];refine Ok.call (zB h.rR n a l st ha hl (by omega)) ?_;rintro _ ⟨s1,aJ,ho⟩;cases dr:gH l with
 |none=>
  rw[dr]at ho;subst ho;refine⟨_,s1,rfl,?_⟩;simp only[al,ai,ae,Zm 1 0 none _ (.inr rfl)];rw[bu,cond_true];simp only[cond_true,Zc];exact .mk ⟨_,aJ,rfl⟩
 |some q=>
  obtain⟨k,t,b⟩:=q;rw[dr]at ho;obtain⟨p1,rfl,hf,hb,hk,ht⟩:=ho;refine⟨_,s1,rfl,?_⟩;simp only[al,ai,br,ae];rw[bg,cond_false,vI k 3 3 rfl,vI t 0 0 rfl];cases jE:decide (k=3)with
  |false=>
   rw[bu];simp only[cond_true,eE,cond_false,Zc];exact .mk ⟨_,aJ,rfl⟩
  |true=>
  rw[bg];simp only[cond_false,cI];cases DC:decide (t=0)with
  |false=>
   rw[bu];simp only[cond_true,eE,cond_false,Zc];exact .mk ⟨_,aJ,rfl⟩
  |true=>
  rw[bg];simp only[cond_false,cI];have cq:=hf.ua;have bA:=zs h.rQ n p1 b 32 24 s1 cq (by omega) (by omega) (by omega);rw[hb,cF (by rw[ej];omega)]at bA;rw[show af (((56:Nat):Int)-32)=((24:Nat):Int) by decide,show(32:Int)=((32:Nat):Int)from rfl,Zj bA];simp only[ai,ae];cases ZC (b.drop 32)with
  |false=>
   simp only[bu,cond_true,cond_false,Zc];exact .mk ⟨_,aJ,rfl⟩
  |true=>
   rw[bg];simp only[cond_true,cond_false];refine Zl _ (fun q y s=>∃i:Nat,y=[.agg (ints (gp b i)++ints (List.replicate (16-i) 0)),.int .i64 i]/\i<=16/\16-i<=q/\s=s1) ?_ 16 n _ _ ⟨0,rfl,by omega,by omega,rfl⟩ (by omega);rintro q _ s ⟨i,rfl,hi,hq,rfl⟩ rec aD;have hlen:(ints (gp b i)++ints (List.replicate (16-i) 0)).length=16:=by
    simp[ints,qW];omega
   simp only[bU,al,ae];rw[bB hlen];by_cases aj:i<16
   ·have cc:af ((i:Int)+1)=((i+1:Nat):Int):=Zd (by omega) (by omega)
    have fE:af (2*((i+1:Nat):Int))=((2*(i+1):Nat):Int):=Zd (by omega) (by omega);have nE:af (2*(i:Int))=((2*i:Nat):Int):=Zd (by omega) (by omega);simp only[cc,fE,nE,aY,dx];rw[ah (show(i:Int)<16 by omega),cond_true];rw[Ze (by rw[aH,bx,bx];omega),Ze (by rw[aH,bx,bx];omega)];have fL:=cq.cY (k:=2*i) (by omega);have sT:((b.drop (2*i)).take 2).length=2:=by rw[cn,ej];omega
    have iH:=vt h.pK n _ ((b.drop (2*i)).take 2) s (fL.lx 2) (by omega) (by omega);rw[sT]at iH;rw[show 2*(i+1)-2*i=2 by omega,Zj iH];simp only[al,ae];rw[Ze (show au (i:Int) 16=true from Zk aj),Ze (gD (by omega))];refine aD (16-(i+1)) _ _ (by omega) ⟨i+1,?_,by omega,aA _,rfl⟩;congr 2;rw[Zo7,show List.replicate (16-i) (0:Int)=0::List.replicate (16-(i+1)) 0 by rw[show 16-i=(16-(i+1))+1 by omega];rfl];have e3:i=(ints (gp b i)).length:=by simp[ints,qW]
    have e4:=rb (ints (gp b i)) [.int .i64 0] (ints (List.replicate (16-(i+1)) 0)) [.int .i64 (dO b (2*i) 2)] rfl;rw[<-e3]at e4;show bN (ints (gp b i)++([.int .i64 0]++ints (List.replicate (16-(i+1)) 0))) i [.int .i64 (dO b (2*i) 2)]=ints (gp b i++[dO b (2*i) 2])++_;rw[e4,show ints (gp b i++[dO b (2*i) 2])=ints (gp b i)++[.int .i64 (dO b (2*i) 2)] by unfold ints;rw[dD];rfl,dB]
   ·rw[ao (show ¬(i:Int)<16 by omega),cond_false]
    have sY:i=16:=by omega
    subst sY;rw[bB hlen];rw[show ints (gp b 16)++ints (List.replicate (16-16) 0)=ints (gp b 16)from dZ _]at hlen⊢;rw[Zj (ZnT h.q39 n (gp b 16) s (qW b 16) (by omega))];simp only[ai,ae];cases zT (gp b 16)with
    |false=>
     rw[bu,cond_true,Zc];exact .mk ⟨_,aJ,rfl⟩
    |true=>
     rw[bg,cond_false,bB hlen,Zc];exact .mk ⟨_,aJ,rfl,qW b 16⟩
end Go.Gv.F
namespace Go.Gv.F
open Go.Gv
variable {β:Type}
theorem Zuk {Bd:Za} (h:KU Bd) (n:Nat) (l:List Int) (v:Int) (p:Option (Nat×Nat)) (st:St) (hs:Sl st p (ints l)) (hl:l.length<1000000) (hn:l.length+3<=n):
  Ok (fun o=>∃y:Int,o=(.val [.int .i64 y],st)/\decide (y>=0)=decide (v∈l)) (run Bd n 254 [.slice 1 p l.length,.int .i64 v] st):=by
 obtain⟨n,rfl⟩: ∃m,n=m+1:=⟨n-1,by omega⟩;rw[Zf,h.eq];unfold EJ;simp only[br,al,ae,Zb];refine Zl _ (fun q y s=>∃i:Nat,y=[.int .i64 i]/\i<=l.length/\l.length-i<=q/\s=st/\v∉l.take i) ?_ l.length n _ _ ⟨0,rfl,bH _,by omega,rfl,by simp⟩ (by omega);rintro q _ s ⟨i,rfl,hi,hq,rfl,bA⟩ rec aD;simp only[al,ae];by_cases aj:i<l.length
 ·obtain⟨i1,o1,rfl⟩:=hs.cm (by simp[ints];omega)
  rw[ah (show(i:Int)<(l.length:Int) by omega),cond_true,aW,Ze (Zk aj),aY,hs.dj (Zw aj)];simp only[aS];by_cases hv:v=l[i]
  ·rw[show(v==l[i])=true by rw[hv];exact fH _,cond_true,Zc]
   refine .mk ⟨_,rfl,?_⟩;rw[ah (by omega),ah];rw[hv];exact gC aj
  ·rw[cg.2 hv,cond_false,Zd (by omega) (by omega)]
   refine aD (l.length-(i+1)) _ _ (by omega) ⟨i+1,rfl,by omega,aA _,rfl,?_⟩;rw[kL aj];intro hm;rcases de.1 hm with h|h
   ·exact bA h
   ·exact hv (bP.1 h)
 ·rw[ao (show ¬(i:Int)<(l.length:Int) by omega),cond_false,Zc]
  rw[cF (by omega)]at bA;exact .mk ⟨_,rfl,by rw[ao bA];rfl⟩
theorem Zjl {Bd:Za} (h:EN Bd) (n:Nat) (l:List Int) (v:Int) (p:Option (Nat×Nat)) (st:St) (hs:Sl st p (ints l)) (hl:l.length<1000000) (hn:l.length+4<=n):
  run Bd n 222 [.slice 1 p l.length,.int .i64 v] st=some (.val [.bool (decide (v∈l))],st):=by
 obtain⟨n,rfl⟩: ∃m,n=m+1:=⟨n-1,by omega⟩;rw[Zf,h.eq];unfold EO;simp only[br,al,ae];refine ok_eq ?_;refine Ok.call (Zuk h.q11 n l v p st hs hl (by omega)) ?_;rintro _ ⟨y,rfl,e⟩;refine⟨_,st,rfl,?_⟩;simp only[al,ae,Zc];rw[e];exact .mk rfl
def ra (v:Int):Bool:=bif decide (v>=2)then decide (v<3072)else false
theorem Zfq {Bd:Za} (h:Fh Bd) (n:Nat) (v:Int) (st:St):run Bd (n+1) 315 [.int .i64 v] st=some (.val [.bool (ra v)],st):=by
 rw[Zf,h.eq];unfold Fl ra;simp only[al,ae,Zb,ai];cases decide (v>=2)<;>rfl
structure oV where
 name:List UInt8
 mask:Nat
 cS:List Int
def ri (x:oV):List DV:= .str x.name:: .int .i64 x.mask::ints x.cS
def qu (m i:Nat) (v:Int):Bool:=bif dG m i then ra v else v==0
def vJ (x:oV):Bool:=mg x.name&&(decide (x.mask<4096)&&(List.range 12).all fun i=>qu x.mask i (x.cS.getD i 0))
def kR (b:List UInt8) (n:Nat):List Int:=(List.range n).map fun j=>dO b (4+2*j) 2
theorem He (b:List UInt8) (n:Nat):(kR b n).length=n:=by unfold kR;simp
theorem ZtR (b:List UInt8) (n:Nat):kR b (n+1)=kR b n++[dO b (4+2*n) 2]:=by unfold kR;rw[tF,dD];rfl
def vE (b:List UInt8) (t:Nat):oV:=⟨(b.drop 28).take t,rd b 0 4,kR b 12⟩
def rf (l:List UInt8):Option oV:=match gH l with
 |none=>none
 |some (k,t,b)=>bif decide (k=5)&&(decide (t<=24)&&ZC (b.drop (28+t)))then(bif vJ (vE b t)then some (vE b t)else none)else none
def Zxn:oV:=⟨[],0,List.replicate 12 0⟩
theorem Zlr {Bd:Za} (h:KX Bd) (n:Nat) (x:oV) (st:St) (hl:x.cS.length=12) (hs:x.name.length<1000) (hm:x.mask<4294967296) (hn:22+x.name.length<=n):run Bd n 299 [.agg (ri x)] st=some (.val [.bool (vJ x)],st):=by
 obtain⟨n,rfl⟩: ∃m,n=m+2:=⟨n-2,by omega⟩;rw[Zf,h.eq];unfold EW vJ ri;have hlen:(ints x.cS).length=12:=by simp[ints,hl]
 simp only[bU,bV,al,ae,Zb];rw[bB hlen,bB (by simp[hlen])];rw[Zj (ok_eq (ZsF h.q87 (n+1) x.name (by omega) (by omega) st))];simp only[ai,ae];cases mg x.name with
 |false=>rw[bu,cond_true];simp only[cond_true,Zc,eE]
 |true=>
 rw[bg,cond_false,ao (show ¬((x.mask:Nat):Int)<0 by omega)];simp only[cond_false,cI];by_cases dH:x.mask<4096;rotate_left
 ·rw[ah (show((x.mask:Nat):Int)>=4096 by omega),cond_true,ao dH,Zc,eE]
 rw[ao (show ¬((x.mask:Nat):Int)>=4096 by omega),cond_false,ah dH,cI];rw[show(ints x.cS).take 12=ints x.cS from cF (by omega)];refine ok_eq ?_;refine Zl _ (fun q y s=>∃i:Nat,y=[.int .i64 i]/\i<=12/\12-i<=q/\s=st/\((List.range i).all fun i=>qu x.mask i (x.cS.getD i 0))=true) ?_ 12 (n+1) _ _ ⟨0,rfl,by omega,by omega,rfl,rfl⟩ (by omega);rintro q _ s ⟨i,rfl,hi,hq,rfl,bW⟩ rec aD;simp only[al,ae];by_cases aj:i<12
 ·rw[ah (show(i:Int)<12 by omega),cond_true,Ze (show au (i:Int) 12=true from Zk aj),aY,dx,j7 (Zw (by omega))]
  simp only[aS];rw[Ze (ah (by omega)),ZvY (by omega) (by omega),Zy1 (by omega) (by omega)];have hw:af ((i:Int)+1)=((i+1:Nat):Int):=Zd (by omega) (by omega);have qB:x.cS.getD i 0=x.cS[i]'(by omega):=by rw[bM,ba (by omega)];rfl
  have az:qu x.mask i (x.cS[i]'(by omega))=true->Ok (fun p=>p=(Out.val [DV.bool ((List.range 12).all fun i=>qu x.mask i (x.cS.getD i 0))],s)) (rec [.int .i64 (af ((i:Int)+1))] s):=fun e=>by
   rw[hw];refine aD (12-(i+1)) _ _ (by omega) ⟨i+1,rfl,by omega,aA _,rfl,?_⟩;rw[tF,qR,bW,rZ,List.all_nil,qB,e];rfl
  have bA:qu x.mask i (x.cS[i]'(by omega))=false->((List.range 12).all fun i=>qu x.mask i (x.cS.getD i 0))=false:=fun e=>y6.2 ⟨i,jd.2 aj,by rw[qB,e];decide⟩
  cases hb:dG x.mask i with
  |true=>
   rw[bg,cond_false];rw[Ze (ah (by omega)),cond_true,Zj (Zfq h.RK n _ s)];simp only[ai,ae];cases hbn:ra (x.cS[i]'(by omega))with
   |true=>
    rw[bg,cond_false];exact az (by unfold qu;rw[hb,cond_true,hbn])
   |false=>
    rw[bu,cond_true,Zc,bA (by unfold qu;rw[hb,cond_true,hbn])];exact .mk rfl
  |false=>
   rw[bu,cond_true];cases h0:(x.cS[i]'(by omega)==0)with
   |false=>
    rw[bu,cond_true];simp only[cond_true];rw[Zc,bA (by unfold qu;rw[hb,cond_false,h0])];exact .mk rfl
   |true=>
    rw[bg,cond_false];rw[Ze (ah (by omega)),cond_false];exact az (by unfold qu;rw[hb,cond_false,h0])
 ·rw[ao (show ¬(i:Int)<12 by omega),cond_false,Zc]
  rw[show i=12 by omega]at bW;rw[bW];exact .mk rfl
theorem ZmT {Bd:Za} (h:La Bd) (n:Nat) (a:Option (Nat×Nat)) (l:List UInt8) (st:St) (ha:dF st a l) (hl:l.length<1000000) (hn:160<=n):
  Ok (fun o=>∃s',aw st s'/\match rf l with
   |none=>o=(.val [.agg (ri Zxn),.bool false],s')
   |some x=>o=(.val [.agg (ri x),.bool true],s')/\x.cS.length=12) (run Bd n 275 [.slice 1 a l.length] st):=by
 obtain⟨n,rfl⟩: ∃m,n=m+1:=⟨n-1,by omega⟩;rw[Zf,h.eq];unfold FL rf;simp only[br,ae,Zb];refine Ok.call (zB h.rR n a l st ha hl (by omega)) ?_;rintro _ ⟨s1,aJ,ho⟩;cases dr:gH l with
 |none=>
  rw[dr]at ho;subst ho;refine⟨_,s1,rfl,?_⟩;simp only[al,ai,ae,Zm 1 0 none _ (.inr rfl)];rw[bu,cond_true];simp only[cond_true,Zc];exact .mk ⟨_,aJ,rfl⟩
 |some q=>
  obtain⟨k,t,b⟩:=q;rw[dr]at ho;obtain⟨p1,rfl,hf,hb,hk,ht⟩:=ho;refine⟨_,s1,rfl,?_⟩;simp only[al,ai,br,ae];rw[bg,cond_false,vI k 5 5 rfl];cases jE:decide (k=5)with
  |false=>
   rw[bu];simp only[cond_true,eE,cond_false,Zc];exact .mk ⟨_,aJ,rfl⟩
  |true=>
  rw[bg];simp only[cond_false,cI];by_cases fZ:t<=24;rotate_left
  ·rw[ah (show((t:Nat):Int)>24 by omega),ao fZ]
   simp only[cond_true,eE,cond_false,Zc];exact .mk ⟨_,aJ,rfl⟩
  rw[ao (show ¬((t:Nat):Int)>24 by omega),ah fZ];simp only[cond_false,cI];have cq:=hf.ua;have hw:af (28+(t:Int))=((28+t:Nat):Int):=Zd (by omega) (by omega);have bA:=zs h.rQ n p1 b (28+t) (28-t) s1 cq (by omega) (by omega) (by omega);rw[hb,cF (by rw[ej];omega)]at bA;have fE:af (af (((56:Nat):Int)-28)-(t:Int))=((28-t:Nat):Int):=by
   rw[show af (((56:Nat):Int)-28)=28 by decide];rw[Zd (by omega) (by omega)];omega
  rw[hw,fE,Zj bA];simp only[ai,ae,aY];cases ZC (b.drop (28+t))with
  |false=>
   simp only[bu,cond_true,cond_false,Zc];exact .mk ⟨_,aJ,rfl⟩
  |true=>
   rw[bg];simp only[cond_true,cond_false];rw[Ze (by rw[aH,bx,bx];omega),Ze (ah (by omega))];have nC:=(cq.cY (k:=28) (by omega)).lx t;have wA:(bQ ((b.drop 28).take t)).length=28+t-28:=by rw[Zt,cn,ej];omega
   have kZ:=Bj (β:=List DV) nC;rw[wA]at kZ;rw[kZ,<-vC,EB,Ze (ah (by omega))];have yw:(b.take 4).length=4:=by rw[cn];omega
   have iH:=vt h.pK n _ (b.take 4) s1 (cq.lx 4) (by omega) (by omega);rw[yw]at iH;rw[tQ iH (.refl s1)];simp only[al,ae];have V9:ga (b.take 4)<4294967296:=by have:=IC (b.take 4);rw[yw]at this;exact this
   rw[Zd (x:=((ga (b.take 4):Nat):Int)) (by omega) (by omega)];have nB:((b.drop 28).take t).length<=24:=by rw[cn];omega
   refine Zl _ (fun q y s=>∃i:Nat,y=[.agg (.str ((b.drop 28).take t):: .int .i64 (ga (b.take 4):Nat)::(ints (kR b i)++ints (List.replicate (12-i) 0))),.int .i64 i]/\i<=12/\12-i<=q/\s=s1) ?_ 12 n _ _ ⟨0,rfl,by omega,by omega,rfl⟩ (by omega);rintro q _ s ⟨i,rfl,hi,hq,rfl⟩ rec aD;have hlen:(ints (kR b i)++ints (List.replicate (12-i) 0)).length=12:=by
    simp[ints,He];omega
   simp only[bU,bV,al,ae];rw[bB hlen];by_cases aj:i<12
   ·have cc:af ((i:Int)+1)=((i+1:Nat):Int):=Zd (by omega) (by omega)
    have nE:af (2*(i:Int))=((2*i:Nat):Int):=Zd (by omega) (by omega);have oB:af (4+((2*i:Nat):Int))=((4+2*i:Nat):Int):=Zd (by omega) (by omega);have uK:af (((4+2*i:Nat):Int)+2)=((4+2*i+2:Nat):Int):=Zd (by omega) (by omega);simp only[cc,nE,oB,uK,aY,dx];rw[ah (show(i:Int)<12 by omega),cond_true];rw[Ze (by rw[aH,bx,bx];omega),Ze (by rw[aH,bx,bx];omega)];have fL:=cq.cY (k:=4+2*i) (by omega);have sT:((b.drop (4+2*i)).take 2).length=2:=by rw[cn,ej];omega
    have iH:=vt h.pK n _ ((b.drop (4+2*i)).take 2) s (fL.lx 2) (by omega) (by omega);rw[sT]at iH;rw[show 4+2*i+2-(4+2*i)=2 by omega,Zj iH];simp only[al,ae];rw[Ze (show au (i:Int) 12=true from Zk aj),Ze (gD (by omega))];refine aD (12-(i+1)) _ _ (by omega) ⟨i+1,?_,by omega,aA _,rfl⟩;congr 4;rw[ZtR,show List.replicate (12-i) (0:Int)=0::List.replicate (12-(i+1)) 0 by rw[show 12-i=(12-(i+1))+1 by omega];rfl];have e3:i=(ints (kR b i)).length:=by simp[ints,He]
    have e4:=rb (ints (kR b i)) [.int .i64 0] (ints (List.replicate (12-(i+1)) 0)) [.int .i64 (dO b (4+2*i) 2)] rfl;rw[<-e3]at e4;show bN (ints (kR b i)++([.int .i64 0]++ints (List.replicate (12-(i+1)) 0))) i [.int .i64 (dO b (4+2*i) 2)]=ints (kR b i++[dO b (4+2*i) 2])++_;rw[e4,show ints (kR b i++[dO b (4+2*i) 2])=ints (kR b i)++[.int .i64 (dO b (4+2*i) 2)] by unfold ints;rw[dD];rfl,dB]
   ·rw[ao (show ¬(i:Int)<12 by omega),cond_false]
    have sY:i=12:=by omega
    subst sY;rw[show ints (kR b 12)++ints (List.replicate (12-12) 0)=ints (kR b 12)from dZ _]at hlen⊢;rw[bB hlen];have JM:=Zlr h.q18 n (vE b t) s (He b 12) (by show((b.drop 28).take t).length<_;omega) V9 (by show _+((b.drop 28).take t).length<=_;omega);have hqc:ri (vE b t)= .str ((b.drop 28).take t):: .int .i64 (ga (b.take 4):Nat)::ints (kR b 12):=rfl;rw[<-hqc,Zj JM];simp only[ai,ae];cases vJ (vE b t)with
    |false=>
     rw[bu,cond_true,Zc];exact .mk ⟨_,aJ,rfl⟩
    |true=>
     rw[bg,cond_false,bB (by rw[hqc];simp[hlen]),Zc];exact .mk ⟨_,aJ,rfl,He b 12⟩
def zQ (l:List Int):Bool:=decide (1<=l.length)&&(decide (l.length<=16)&&(List.range l.length).all fun i=>ra (l.getD i 0)&& !decide (l.getD i 0∈l.take i))
def Ag (l:List UInt8):Option (List Int):=match gH l with
 |none=>none
 |some (k,t,b)=>bif decide (k=6)&&(decide (t<=16)&&ZC (b.drop (2*t)))then(bif zQ (gp b t)then some (gp b t)else none)else none
theorem ZmZ {Bd:Za} (h:K7 Bd) (n:Nat) (l:List Int) (p:Option (Nat×Nat)) (st:St) (hs:Sl st p (ints l)) (hl:l.length<1000) (hn:l.length+10<=n):run Bd n 300 [.agg [.slice 1 p l.length]] st=some (.val [.bool (zQ l)],st):=by
 obtain⟨n,rfl⟩: ∃m,n=m+2:=⟨n-2,by omega⟩;rw[Zf,h.eq];unfold FN zQ;simp only[bU,br,ae,Zb];by_cases h1:1<=l.length;rotate_left
 ·rw[ah (show((l.length:Nat):Int)<1 by omega),ao h1]
  simp only[ai,ae,cond_true,Zc,eE]
 rw[ao (show ¬((l.length:Nat):Int)<1 by omega),ah h1];simp only[ai,ae,cond_false,cI];by_cases h2:l.length<=16;rotate_left
 ·rw[ah (show((l.length:Nat):Int)>16 by omega),ao h2]
  simp only[cond_true,Zc,eE]
 rw[ao (show ¬((l.length:Nat):Int)>16 by omega),ah h2];simp only[cond_false,cI];refine ok_eq ?_;refine Zl _ (fun q y s=>∃i:Nat,y=[.int .i64 i]/\i<=l.length/\l.length-i<=q/\s=st/\((List.range i).all fun i=>ra (l.getD i 0)&& !decide (l.getD i 0∈l.take i))=true) ?_ l.length (n+1) _ _ ⟨0,rfl,by omega,by omega,rfl,rfl⟩ (by omega);rintro q _ s ⟨i,rfl,hi,hq,rfl,bW⟩ rec aD;simp only[al,ae];by_cases aj:i<l.length
 ·obtain⟨i1,o1,rfl⟩:=hs.cm (by simp[ints];omega)
  rw[ah (show(i:Int)<(l.length:Int) by omega),cond_true,aW,Ze (Zk aj),aY,hs.dj (Zw aj)];simp only[aS];have hw:af ((i:Int)+1)=((i+1:Nat):Int):=Zd (by omega) (by omega);have qB:l.getD i 0=l[i]:=by rw[bM,ba aj];rfl
  have bA:(ra l[i]&& !decide (l[i]∈l.take i))=false->((List.range l.length).all fun i=>ra (l.getD i 0)&& !decide (l.getD i 0∈l.take i))=false:=fun e=>y6.2 ⟨i,jd.2 aj,by rw[qB,e];decide⟩
  rw[Zj (Zfq h.RK n _ s)];simp only[ai,ae];cases hb:ra l[i]with
  |false=>
   rw[bu,cond_true];simp only[cond_true];rw[Zc,bA (by rw[hb];rfl)];exact .mk rfl
  |true=>
   rw[bg,cond_false,Ze (by rw[aH,bx,bx];omega)];have Q8:(l.take i).length=i:=by rw[cn];omega
   have bE:Sl s (some (i1,o1)) (ints (l.take i)):=by
    have:=Sl.lx hs i
    rwa [show(ints l).take i=ints (l.take i) by unfold ints;rw[List.map_take]]at this
   have hc:=Zjl h.q8 (n+1) (l.take i) l[i] _ s bE (by omega) (by omega);rw[Q8]at hc;rw[Zj hc];simp only[ai,ae];cases hm:decide (l[i]∈l.take i)with
   |true=>
    rw[cond_true,Zc,bA (by rw[hb,hm];rfl)];exact .mk rfl
   |false=>
    rw[cond_false,hw];refine aD (l.length-(i+1)) _ _ (by omega) ⟨i+1,rfl,by omega,aA _,rfl,?_⟩;rw[tF,qR,bW,rZ,List.all_nil,qB,hb,hm];rfl
 ·rw[ao (show ¬(i:Int)<(l.length:Int) by omega),cond_false,Zc]
  rw[show i=l.length by omega]at bW;rw[bW];exact .mk rfl
theorem Zo2 {Bd:Za} (h:Lq Bd) (n:Nat) (a:Option (Nat×Nat)) (l:List UInt8) (st:St) (ha:dF st a l) (hl:l.length<1000000) (hn:160<=n):
  Ok (fun o=>∃s',aw st s'/\match Ag l with
   |none=>o=(.val [.agg [.slice 0 none 0],.bool false],s')
   |some x=>∃p,o=(.val [.agg [.slice 1 p x.length],.bool true],s')/\Fz s' p (ints x)/\x.length<=16) (run Bd n 276 [.slice 1 a l.length] st):=by
 obtain⟨n,rfl⟩: ∃m,n=m+1:=⟨n-1,by omega⟩;rw[Zf,h.eq];unfold Fm Ag;simp only[br,ae,Zb];rw[sD];refine Ok.call (zB h.rR n a l st ha hl (by omega)) ?_;rintro _ ⟨s1,aJ,ho⟩;cases dr:gH l with
 |none=>
  rw[dr]at ho;subst ho;refine⟨_,s1,rfl,?_⟩;simp only[al,ai,ae,Zm 1 0 none _ (.inr rfl)];rw[bu,cond_true];simp only[cond_true];rw[ZY];exact .mk ⟨_,Z1 aJ,rfl⟩
 |some q=>
  obtain⟨k,t,b⟩:=q;rw[dr]at ho;obtain⟨p1,rfl,hf,hb,hk,ht⟩:=ho;refine⟨_,s1,rfl,?_⟩;simp only[al,ai,br,ae];rw[bg,cond_false,vI k 6 6 rfl];cases jE:decide (k=6)with
  |false=>
   rw[bu];simp only[cond_true,eE,cond_false];rw[ZY];exact .mk ⟨_,Z1 aJ,rfl⟩
  |true=>
  rw[bg];simp only[cond_false,cI];by_cases fZ:t<=16;rotate_left
  ·rw[ah (show((t:Nat):Int)>16 by omega),ao fZ]
   simp only[cond_true,eE,cond_false];rw[ZY];exact .mk ⟨_,Z1 aJ,rfl⟩
  rw[ao (show ¬((t:Nat):Int)>16 by omega),ah fZ];simp only[cond_false,cI];have cq:=hf.ua;have hw:af (2*(t:Int))=((2*t:Nat):Int):=Zd (by omega) (by omega);have bA:=zs h.rQ n p1 b (2*t) (56-2*t) s1 cq (by omega) (by omega) (by omega);rw[hb,cF (by rw[ej];omega)]at bA;have fE:af (((56:Nat):Int)-((2*t:Nat):Int))=((56-2*t:Nat):Int):=by
   rw[Zd (by omega) (by omega)];omega
  rw[hw,fE,Zj bA];simp only[ai,ae];cases ZC (b.drop (2*t))with
  |false=>
   simp only[bu,cond_true,cond_false];rw[ZY];exact .mk ⟨_,Z1 aJ,rfl⟩
  |true=>
   rw[bg];simp only[cond_true,cond_false];refine Zl _ (fun q y s=>∃(i z:Nat) (p:Option (Nat×Nat)),y=[.agg [.slice z p i],.int .i64 i]/\(z=1\/p=none)/\i<=t/\t-i<=q/\bh st s p (ints (gp b i))/\tJ s p1 b) ?_ t n _ _ ⟨0,0,none,rfl,.inr rfl,bH _,by omega,bh.nil aJ,hf⟩ (by omega);rintro q _ s ⟨i,z,p,rfl,hz,hi,hq,ho,AP⟩ rec aD;simp only[bU,al,Zm 1 z p _ hz,ae];by_cases aj:i<t
   ·have cc:af ((i:Int)+1)=((i+1:Nat):Int):=Zd (by omega) (by omega)
    have fE:af (2*((i+1:Nat):Int))=((2*(i+1):Nat):Int):=Zd (by omega) (by omega);have nE:af (2*(i:Int))=((2*i:Nat):Int):=Zd (by omega) (by omega);simp only[cc,fE,nE,aY,dx];rw[ah (show(i:Int)<(t:Int) by omega),cond_true];rw[Ze (by rw[aH,bx,bx];omega),Ze (by rw[aH,bx,bx];omega)];have fL:=AP.ua.cY (k:=2*i) (by omega);have sT:((b.drop (2*i)).take 2).length=2:=by rw[cn,ej];omega
    have iH:=vt h.pK n _ ((b.drop (2*i)).take 2) s (fL.lx 2) (by omega) (by omega);rw[sT]at iH;rw[show 2*(i+1)-2*i=2 by omega,If iH];simp only[al,ae];obtain⟨p2,s2,dq,nA,he⟩:=ho.wT (β:=List DV) (sz:=1) (n:=i) (lim:=8796093022208) [.int .i64 (dO b (2*i) 2)] (sf 0) (by simp[ints,qW]) rfl (by omega);refine Eq.mpr (congrArg (Ok _) (he _)) ?_;refine aD (t-(i+1)) _ _ (by omega) ⟨i+1,1,p2,rfl,.inl rfl,by omega,aA _,?_,AP.kp nA⟩;rw[Zo7];show bh st s2 p2 (List.map _ _);rw[dD];exact dq
   ·rw[ao (show ¬(i:Int)<(t:Int) by omega),cond_false]
    have Qr:i=t:=by omega
    subst Qr;have hr:=ZmZ h.q32 n (gp b i) p s ho.sl (by rw[qW];omega) (by rw[qW];omega);rw[qW]at hr;simp only[br,ae];rw[Zj hr];simp only[ai,ae];cases zQ (gp b i)with
    |false=>
     rw[bu,cond_true];simp only[cond_false];rw[ZY];exact .mk ⟨_,Z1 ho.1,rfl⟩
    |true=>
     rw[bg,cond_false];simp only[cond_true];rw[ZY];refine .mk ⟨_,Z1 ho.1,p,?_,ho.fz,?_⟩
     ·rw[qW]
     ·rw[qW];omega
end Go.Gv.F
namespace Go.Gv.F
open Go.Gv
variable {β:Type}
def nM (n k:Int):Int:=af ((af (af (n+k)-1)).tdiv k)
def tS (b s g:Int):Int:=bif lL b s g then nM b 384 else 0
def vB (n:Int):Int:=bif (decide (n>=0)&&decide (n<=1792))then nM n 7 else 0
theorem Zor {Bd:Za} (h:H9 Bd) (n:Nat) (v k:Int) (hk:k≠0) (st:St):run Bd (n+1) 253 [.int .i64 v,.int .i64 k] st=some (.val [.int .i64 (nM v k)],st):=by
 rw[Zf,h.eq];unfold Ic nM;simp only[al,ae];rw[Ze (by rw[cg.2 hk];rfl)];rfl
theorem ZrD {Bd:Za} (h:L8 Bd) (n:Nat) (v:Int) (st:St):run Bd (n+1) 255 [.int .i64 v] st=some (.val [.bool (decide (v>=0)&&decide (v<=1792))],st):=by
 rw[Zf,h.eq];unfold GA;simp only[al,ae,Zb];cases decide (v>=0)<;>rfl
theorem ZqA {Bd:Za} (h:LJ Bd) (n:Nat) (v:Int) (st:St):run Bd (n+2) 227 [.int .i64 v] st=some (.val [.int .i64 (vB v)],st):=by
 rw[Zf,h.eq];unfold Gd vB;simp only[al,ae];rw[Zj (ZrD h.q85 n v st)];simp only[ai,ae];cases(decide (v>=0)&&decide (v<=1792))with
 |false=>rfl
 |true=>
  rw[bg,cond_false,Zj (Zor h.RJ n v 7 (by decide) st)];rfl
theorem Zqk {Bd:Za} (h:LU Bd) (n:Nat) (b s g:Int) (st:St):run Bd (n+2) 223 [.agg [.int .i64 b,.int .i64 s,.int .i64 g]] st=some (.val [.int .i64 (tS b s g)],st):=by
 rw[Zf,h.eq];unfold Gt tS;simp only[bU,al,ae];rw[Zj (Zln h.RV n b s g st)];simp only[ai,ae];cases lL b s g with
 |false=>rfl
 |true=>
  rw[bg,cond_false,Zj (Zor h.RJ n b 384 (by decide) st)];rfl
structure ZJ where
 no:Nat
 cO:List UInt8
def Zz (x:ZJ):List DV:= .int .i64 x.no::bQ x.cO
def Ae:ZJ:=⟨0,List.replicate 48 0⟩
def zS (l:List UInt8):Option ZJ:=match gH l with
 |none=>none
 |some (k,t,b)=>bif decide (k=4)&&(decide (t<8)&&ZC (b.drop 48))then some ⟨t,b.take 48⟩else none
def sS (x:ZJ) (a:Nat):Bool:=decide (a/384=x.no)&&dG (x.cO.getD (a%384/8) 0).toNat (a%8)
def fO (x:ZJ) (n:Nat):List Int:=((List.range n).filter fun i=>sS x (x.no*384+i)).map fun i=>((x.no*384+i:Nat):Int)
theorem HE (x:ZJ) (n:Nat):fO x (n+1)=fO x n++(bif sS x (x.no*384+n)then[((x.no*384+n:Nat):Int)]else[]):=by
 unfold fO;rw[tF,w8,dD];congr 1;cases h:sS x (x.no*384+n)<;>simp[h]
theorem ZrA (x:ZJ) (n:Nat):(fO x n).length<=n:=by
 unfold fO;rw[lV];exact eZ (List.length_filter_le _ _) (by simp)
theorem U0 {x r:Nat} (hx:x<256) (hr:r<8):((bits .and .u8 (x:Int) ((2^r:Nat):Int))==0)= !dG x r:=by
 have key: ∀x:Fin 256,∀r:Fin 8,((x.val&&& 2^r.val)==0)= !decide (x.val/2^r.val%2=1):=by decide+kernel
 have hp:2^r<256:=Ez (a:=2) (m:=r) (n:=8) (by decide) hr;have e:bits .and .u8 (x:Int) ((2^r:Nat):Int)=((x&&& 2^r:Nat):Int):=by
  generalize 2^r=w at hp;show IntKind.wrap .u8 ((BitVec.ofInt 8 (x:Int)&&& BitVec.ofInt 8 ((w:Nat):Int)).toNat:Int)=_;rw[BitVec.toNat_and,Es,Es];have e1:((x:Int)%((2^8:Nat):Int)).toNat=x:=by omega
  have e2:(((w:Nat):Int)%((2^8:Nat):Int)).toNat=w:=by omega
  rw[e1,e2];have:x&&& w<256:=xe Nat.and_le_left hx;show((x&&& w:Nat):Int)%(2^8)=_;have:((2:Int)^8)=256:=by decide
  omega
 rw[e];have:=key ⟨x,hx⟩ ⟨r,hr⟩;simp only at this;unfold dG;rw[<-this];by_cases h0:x&&& 2^r=0
 ·rw[h0];rfl
 ·rw[cg.2 h0];exact cg.2 (by omega)
theorem Zqf {Bd:Za} (h:LR Bd) (n:Nat) (x:ZJ) (hl:x.cO.length=48) (st:St):run Bd (n+1) 307 [.agg (Zz x)] st=some (.val [.bool (decide (x.no<8))],st):=by
 rw[Zf,h.eq];unfold Gj Zz;have hlen:(bQ x.cO).length=48:=by rw[Zt,hl]
 simp only[bU,al,ae,Zb];rw[bB hlen,bB (by simp[hlen]),ah (show((x.no:Nat):Int)>=0 by omega),cond_true];simp only[ai,ae];rw[Zc];by_cases h8:x.no<8
 ·rw[ah h8,ah (by omega)]
 ·rw[ao h8,ao (by omega)]
theorem Zt7 {Bd:Za} (h:Mt Bd) (n:Nat) (x:ZJ) (a:Nat) (ha:a<1000000) (hl:x.cO.length=48) (h8:x.no<8) (st:St):
  run Bd (n+2) 287 [.agg (Zz x),.int .i64 a] st=some (.val (bif decide (a/384=x.no)then[.int .i64 (a%384/8:Nat),.int .u8 (2^(a%8):Nat),.bool true]else[.int .i64 0,.int .u8 0,.bool false]),st):=by
 rw[Zf,h.eq];have hr:=Zqf h.q59 n x hl st;unfold Hm;have hlen:(bQ x.cO).length=48:=by rw[Zt,hl]
 unfold Zz at hr⊢;simp only[bU,al,ae,Zb];rw[bB hlen,bB (by simp[hlen]),Zj hr];simp only[ai,ae];rw[ah h8,bg,cond_false,ao (show ¬(a:Int)<0 by omega)];simp only[cond_false];rw[show((a:Int).tdiv 384)=((a/384:Nat):Int)from rfl,Zd (by omega) (by omega),vI (a/384) x.no _ rfl];cases hd:decide (a/384=x.no)with
 |false=>rfl
 |true=>
  rw[bg,cond_false,cond_true];rw[show((a:Int).tmod 384)=((a%384:Nat):Int)from rfl,show(((a%384:Nat):Int).tmod 8)=((a%384%8:Nat):Int)from rfl,show(((a%384:Nat):Int).tdiv 8)=((a%384/8:Nat):Int)from rfl];rw[Ze (ah (by omega)),Zd (by omega) (by omega),aY,jK (by omega),show a%384%8=a%8 by omega,Zc];have hp:2^(a%8)<256:=Ez (a:=2) (m:=a%8) (n:=8) (by decide) (by omega);have e:IntKind.wrap .u8 (1*2^(a%8))=((2^(a%8):Nat):Int):=by
   rw[Int.one_mul,show((2:Int)^(a%8))=((2^(a%8):Nat):Int) by push_cast;rfl];generalize 2^(a%8)=w at hp;show((w:Nat):Int)%(2^8)=_;have:((2:Int)^8)=256:=by decide
   omega
  rw[e]
theorem Zth {Bd:Za} (h:MM Bd) (n:Nat) (x:ZJ) (a:Nat) (ha:a<1000000) (hl:x.cO.length=48) (h8:x.no<8) (st:St):
  run Bd (n+3) 262 [.agg (Zz x),.int .i64 a] st=some (.val [.bool (sS x a)],st):=by
 rw[Zf,h.eq];have hr:=Zt7 h.Xp n x a ha hl h8 st;unfold G8 sS;have hlen:(bQ x.cO).length=48:=by rw[Zt,hl]
 unfold Zz at hr⊢;simp only[bU,al,ae,Zb];rw[bB hlen,bB (by simp[hlen]),Zj hr];cases decide (a/384=x.no)with
 |false=>rfl
 |true=>
  simp only[cond_true,al,ai,ae,aY,dx,cI];rw[Ze (show au ((a%384/8:Nat):Int) 48=true from Zk (by omega))];obtain⟨c,hc⟩: ∃c,x.cO[a%384/8]? =some c:=⟨_,ba (by omega)⟩;rw[j7 (N8 hc),getD_some hc];simp only[aS];rw[U0 c.toNat_lt (by omega),Bool.not_not];rfl
theorem Zr1 {Bd:Za} (h:Mm Bd) (n:Nat) (x:ZJ) (hl:x.cO.length=48) (h8:x.no<8) (st:St) (hn:400<=n):
  Ok (fun o=>∃p s',o=(.val [.slice 1 p (fO x 384).length],s')/\aw st s'/\Fz s' p (ints (fO x 384))) (run Bd n 239 [.agg (Zz x)] st):=by
 obtain⟨n,rfl⟩: ∃m,n=m+4:=⟨n-4,by omega⟩;rw[Zf,h.eq];have hr:=fun a ha s=>Zth h.Xo n x a ha hl h8 s
 unfold GH;have hlen:(bQ x.cO).length=48:=by rw[Zt,hl]
 unfold Zz at hr⊢;simp only[bU,al,ae,Zb];rw[bB hlen,sD,bB (by simp[hlen])];refine Zl _ (fun q y s=>∃(i z:Nat) (p:Option (Nat×Nat)),y=[.slice z p (fO x i).length,.int .i64 i]/\(z=1\/p=none)/\i<=384/\384-i<=q/\bh st s p (ints (fO x i))) ?_ 384 (n+3) _ _ ⟨0,0,none,rfl,.inr rfl,bH _,by omega,bh.nil (.refl st)⟩ (by omega);rintro q _ s ⟨i,z,p,rfl,hz,hi,hq,ho⟩ rec aD;simp only[al,Zm 1 z p _ hz,ae];by_cases aj:i<384
 ·have cc:af ((i:Int)+1)=((i+1:Nat):Int):=Zd (by omega) (by omega)
  have fE:af ((x.no:Int)*384)=((x.no*384:Nat):Int):=by rw[Zd (by omega) (by omega)];omega
  have nE:af (((x.no*384:Nat):Int)+(i:Int))=((x.no*384+i:Nat):Int):=Zd (by omega) (by omega);simp only[cc,fE,nE];rw[ah (show(i:Int)<384 by omega),cond_true,Zj (hr (x.no*384+i) (by omega) s)];simp only[ai,ae];have il:=ZrA x i;cases hh:sS x (x.no*384+i)with
  |true=>
   rw[cond_true];obtain⟨p2,s2,dq,nA,he⟩:=ho.wT (β:=List DV) (sz:=1) (n:=(fO x i).length) (lim:=8796093022208) [.int .i64 ((x.no*384+i:Nat):Int)] (sf 0) (by simp[ints]) rfl (by omega);refine Eq.mpr (congrArg (Ok _) (he _)) ?_;simp only[br,ae];refine aD (384-(i+1)) _ _ (by omega) ⟨i+1,1,p2,?_,.inl rfl,by omega,aA _,?_⟩
   ·rw[HE,hh];simp
   ·rw[HE,hh]
    show bh st s2 p2 (List.map _ _);rw[dD];exact dq
  |false=>
   rw[cond_false];simp only[br,ae];refine aD (384-(i+1)) _ _ (by omega) ⟨i+1,1,p,?_,.inl rfl,by omega,aA _,?_⟩
   ·rw[HE,hh];simp
   ·rw[HE,hh,cond_false,dZ];exact ho
 ·rw[ao (show ¬(i:Int)<384 by omega),cond_false]
  simp only[br,ae];rw[ZY];have sY:i=384:=by omega
  subst sY;exact .mk ⟨p,_,rfl,Z1 ho.1,ho.fz⟩
theorem ZyV {s:St} {A B D:List DV} (hl:B.length=D.length) (K:M β):M.store s.length A.length D K (s++[some ⟨false,A++B⟩])=K (s++[some ⟨false,A++D⟩]):=by
 unfold M.store St.gy;rw[gN (aA _),pV];simp only[gJ];rw[gD (by rw[aZ];omega),cond_true];have e:=rb A B [] D hl;rw[dZ,dZ]at e;rw[e];simp
theorem ZtA {Bd:Za} (h:Mv Bd) (n:Nat) (a:Option (Nat×Nat)) (l:List UInt8) (st:St) (ha:dF st a l) (hl:l.length<1000000) (hn:160<=n):
  Ok (fun o=>∃s',aw st s'/\match zS l with
   |none=>o=(.val [.agg (Zz Ae),.bool false],s')
   |some x=>o=(.val [.agg (Zz x),.bool true],s')/\x.cO.length=48/\x.no<8) (run Bd n 204 [.slice 1 a l.length] st):=by
 obtain⟨n,rfl⟩: ∃m,n=m+1:=⟨n-1,by omega⟩;rw[Zf,h.eq];unfold Hh zS;simp only[br,ae,Zb];refine Ok.call (zB h.rR n a l st ha hl (by omega)) ?_;rintro _ ⟨s1,aJ,ho⟩;cases dr:gH l with
 |none=>
  rw[dr]at ho;subst ho;refine⟨_,s1,rfl,?_⟩;simp only[al,ai,ae,Zm 1 0 none _ (.inr rfl)];rw[bu,cond_true];simp only[cond_true,Zc];exact .mk ⟨_,aJ,rfl⟩
 |some q=>
  obtain⟨k,t,b⟩:=q;rw[dr]at ho;obtain⟨p1,rfl,hf,hb,hk,ht⟩:=ho;refine⟨_,s1,rfl,?_⟩;simp only[al,ai,br,ae];rw[bg,cond_false,vI k 4 4 rfl];cases jE:decide (k=4)with
  |false=>
   rw[bu];simp only[cond_true,eE,cond_false,Zc];exact .mk ⟨_,aJ,rfl⟩
  |true=>
  rw[bg];simp only[cond_false,cI];by_cases fZ:t<8;rotate_left
  ·rw[ah (show((t:Nat):Int)>=8 by omega),ao fZ]
   simp only[cond_true,eE,cond_false,Zc];exact .mk ⟨_,aJ,rfl⟩
  rw[ao (show ¬((t:Nat):Int)>=8 by omega),ah fZ];simp only[cond_false,cI];have cq:=hf.ua;have bA:=zs h.rQ n p1 b 48 8 s1 cq (by omega) (by omega) (by omega);rw[hb,cF (by rw[ej];omega)]at bA;rw[show af (((56:Nat):Int)-48)=((8:Nat):Int) by decide,show(48:Int)=((48:Nat):Int)from rfl,Zj bA];simp only[ai,ae];cases ZC (b.drop 48)with
  |false=>
   simp only[bu,cond_true,cond_false,Zc];exact .mk ⟨_,aJ,rfl⟩
  |true=>
   rw[bg];simp only[cond_true,cond_false];have hz:Zz Ae=[.int .i64 0]++bQ (List.replicate 48 0):=rfl;have DD:(b.take 48).length=48:=by rw[cn];omega
   have gR:(bQ (b.take 48)).length=min 56 48*1:=by rw[Zt,DD];rfl
   refine Eq.mpr (congrArg (Ok _) (show _=(M.new (Zz Ae) fun c1=>M.store c1 0 (Zz ⟨t,List.replicate 48 0⟩)<|M.load c1 1 48 fun _=>M.rd p1 (min 56 48*1) fun cs=>M.store c1 1 cs<|M.load c1 0 49 fun bw=>J.i .i64 bw fun x4 r1=>D.len r1 48<|D.len ((.int .i64 x4)::r1) 49<|M.ret [.agg ((.int .i64 x4)::r1),.bool true]) s1 from rfl)) ?_;rw[Zy,Zq6 (by simp[Zz,Zt,Ae])];have jG:=Cv s1 (Zz ⟨t,List.replicate 48 0⟩);rw[kQ (i:=s1.length) (o:=1) (n:=48) (f:=false) (all:=Zz ⟨t,List.replicate 48 0⟩) (by simp) (by simp[Zz,Zt])];have eH:=(cq.mono (aw.new s1 (some ⟨false,Zz ⟨t,List.replicate 48 0⟩⟩))).lx 48;rw[<-gR,Bj eH];have bE:=ZyV (β:=List DV) (s:=s1) (A:=[.int .i64 t]) (B:=bQ (List.replicate 48 0)) (D:=bQ (b.take 48)) (by rw[Zt,Zt,DD];rfl);refine Eq.mpr (congrArg (Ok _) (bE _)) ?_;have hco:([.int .i64 t]++bQ (b.take 48):List DV).length=49:=by rw[aZ,Zt,DD];rfl
   rw[kQ (i:=s1.length) (o:=0) (n:=49) (f:=false) (all:=[.int .i64 t]++bQ (b.take 48)) (by simp) (by rw[hco];omega)];rw[dw,cF (l:=[DV.int .i64 t]++bQ (b.take 48)) (i:=49) (by rw[hco];omega)];show Ok _ (J.i .i64 (.int .i64 t::bQ (b.take 48)) _ _);simp only[al];have TP:(bQ (b.take 48)).length=48:=by rw[Zt,DD]
   rw[bB TP,bB (by rw[ee,TP]),Zc];exact .mk ⟨_,aJ.trans (.new _ _),rfl,DD,fZ⟩
end Go.Gv.F
namespace Go.Gv.F
open Go.Gv
variable {β:Type}
def Fx (T:List Nat) (s s':St):Prop:=s.length<=s'.length/\∀(b:Nat) (x:Option bn),b∉T->s[b]? =some x->s'[b]? =some x
theorem Fx.refl (T:List Nat) (s:St):Fx T s s:=⟨aA _,fun _ _ _ h=>h⟩
theorem Fx.pre {s s':St} (T:List Nat) (h:aw s s'):Fx T s s':=⟨h.len,fun _ _ _ e=>h.get e⟩
theorem Fx.trans {T:List Nat} {a b c:St} (h:Fx T a b) (k:Fx T b c):Fx T a c:=⟨eZ h.1 k.1,fun i x n e=>k.2 i x n (h.2 i x n e)⟩
theorem Fx.step {T T':List Nat} {a b c:St} (h:Fx T a b) (k:Fx T' b c) (hT: ∀x∈T',x∈T\/a.length<=x):Fx T a c:=
 ⟨eZ h.1 k.1,fun i x n e=>k.2 i x (fun hm=>by
  rcases hT i hm with h1|h1
  ·exact n h1
  ·have:=(cw.1 e).1;omega) (h.2 i x n e)⟩
theorem Fx.mono {T T':List Nat} {a b:St} (h:Fx T a b) (k: ∀x∈T,x∈T'):Fx T' a b:=⟨h.1,fun i x n e=>h.2 i x (fun m=>n (k i m)) e⟩
theorem Fx.set (s:St) (j:Nat) (b:Option bn):Fx [j] s (s.set j b):=⟨by simp,fun i x n e=>by
 rw[ec (by simp at n;omega)];exact e⟩
def jN (T:List Nat) (a:Option (Nat×Nat)):Prop:=∀b o,a=some (b,o)->b∉T
theorem Sl.fx {T:List Nat} {s s':St} {a:Option (Nat×Nat)} {cs:List DV} (h:Sl s a cs) (k:Fx T s s') (n:jN T a):Sl s' a cs:=by
 cases a with
 |none=>exact h
 |some p=>
  obtain⟨i,o⟩:=p;obtain⟨f,all,h1,h2⟩:=h;exact⟨f,all,k.2 i _ (n i o rfl) h1,h2⟩
theorem Sl.lt {s:St} {i o:Nat} {cs:List DV} (h:Sl s (some (i,o)) cs):i<s.length:=by
 obtain⟨f,all,h1,_⟩:=h;exact(cw.1 h1).1
theorem jN.new {s:St} {T T':List Nat} {a:Option (Nat×Nat)} {cs:List DV} (h:jN T a) (k:Sl s a cs) (hT: ∀x∈T',x∈T\/s.length<=x):jN T' a:=by
 intro b o e hm;subst e;rcases hT b hm with h1|h1
 ·exact h b o rfl h1
 ·have:=Sl.lt k;omega
def ZD (W:List Nat):List DV:=W.map fun(w:Nat)=> .int .u64 w
theorem M4 (W:List Nat):(ZD W).length=W.length:=by simp[ZD]
structure eU (s:St) (f:Bool) (i j n:Nat) (W:List Nat):Prop where
 hd:s[i]? =some (some ⟨f,[.int .i64 n,.slice 1 (some (j,0)) W.length]⟩)
 wd:s[j]? =some (some ⟨f,ZD W⟩)
 len:W.length=(n+63)/64
 lt: ∀w∈W,w<18446744073709551616
 le:n<=3072
theorem eU.fx {T:List Nat} {s s':St} {f:Bool} {i j n:Nat} {W:List Nat} (h:eU s f i j n W) (k:Fx T s s') (hi:i∉T) (hj:j∉T):eU s' f i j n W:=
 ⟨k.2 i _ hi h.hd,k.2 j _ hj h.wd,h.len,h.lt,h.le⟩
theorem eU.pre {s s':St} {f:Bool} {i j n:Nat} {W:List Nat} (h:eU s f i j n W) (k:aw s s'):eU s' f i j n W:=
 ⟨k.get h.hd,k.get h.wd,h.len,h.lt,h.le⟩
def gV (n:Nat) (a:Int):Bool:=decide (0<=a)&&decide (a<n)
def dI (W:List Nat) (a:Nat):Bool:=dG (W.getD (a/64) 0) (a%64)
def c9 (n:Nat) (W:List Nat) (a:Int):List Nat:=bif gV n a then W.set (a.toNat/64) (W.getD (a.toNat/64) 0|||2^(a.toNat%64))else W
theorem sv (n:Nat) (W:List Nat) (a:Int):(c9 n W a).length=W.length:=by
 unfold c9;cases gV n a<;>simp
theorem zW {n:Nat} {W:List Nat} {a:Int} (h: ∀w∈W,w<18446744073709551616): ∀w∈c9 n W a,w<18446744073709551616:=by
 unfold c9;cases gV n a with
 |false=>exact h
 |true=>
  intro w hw;rw[cond_true]at hw;rcases List.mem_or_eq_of_mem_set hw with h1|h1
  ·exact h w h1
  ·rw[h1]
   refine Ey (n:=64) ?_ (Ez (by decide) (by omega));rw[bM];cases e:W[a.toNat/64]? with
   |none=>decide
   |some v=>exact h v (kK e)
theorem vD {n:Nat} {W:List Nat} {a:Int} {b:Nat} (hl:W.length=(n+63)/64):dI (c9 n W a) b=(dI W b||(gV n a&&decide (b=a.toNat))):=by
 unfold c9;cases hm:gV n a with
 |false=>simp[dI]
 |true=>
  rw[cond_true,cI];unfold gV at hm;rw[aH,bx,bx]at hm;unfold dI;have hk:a.toNat/64<W.length:=by omega
  by_cases hq:b/64=a.toNat/64
  ·rw[hq,bM,fV hk]
   show dG (W.getD (a.toNat/64) 0|||2^(a.toNat%64)) (b%64)=_;have key: ∀w:Nat,dG (w|||2^(a.toNat%64)) (b%64)=(dG w (b%64)||decide (b=a.toNat)):=by
    intro w;unfold dG;rw[<-Nat.testBit_eq_decide_div_mod_eq,<-Nat.testBit_eq_decide_div_mod_eq,vh,Nat.testBit_two_pow];congr 1;exact decide_eq_decide.2 (by omega)
   rw[key,bM]
  ·rw[bM,ec (by omega),ao (show ¬b=a.toNat by omega),yY,bM]
theorem Zny {Bd:Za} (h:FJ Bd) (n:Nat) {f:Bool} {i j m:Nat} {W:List Nat} (a:Int) (st:St) (hs:eU st f i j m W):
  run Bd (n+1) 209 [.ptr (some (i,0)),.int .i64 a] st=some (.val [.bool (gV m a)],st):=by
 rw[Zf,h.eq];unfold Fq gV;simp only[fa,al,ae,Zb,aW];by_cases h0:a>=0
 ·rw[ah h0,cond_true,Zn hs.hd rfl]
  simp only[aS,ai,ae,Zc,cI]
 ·rw[ao h0,cond_false]
  simp only[ai,ae,Zc,eE]
theorem OT {a:Int} (h:0<=a):a.tdiv 64=((a.toNat/64:Nat):Int):=by
 obtain⟨k,rfl⟩: ∃k:Nat,a=k:=⟨a.toNat,by omega⟩;rfl
theorem Zx1 {a:Int} (h:0<=a):a.tmod 64=((a.toNat%64:Nat):Int):=by
 obtain⟨k,rfl⟩: ∃k:Nat,a=k:=⟨a.toNat,by omega⟩;rfl
theorem ZzM {w j:Nat} (hw:w<18446744073709551616) (hj:j<64):(bits .and .u64 ((w:Int).fdiv (2^(min j 64))) 1==1)=dG w j:=by
 rw[jK (by omega),show((2:Int)^j)=((2^j:Nat):Int) by push_cast;rfl,zX];have h1:w/2^j<18446744073709551616:=xe (Bw _ _) hw;rw[show(1:Int)=((1:Nat):Int)from rfl,SK h1 (by decide),Nat.and_one_is_mod];unfold dG;rw[vI _ 1 _ rfl]
theorem Znq {Bd:Za} (h:Gl Bd) (n:Nat) {f:Bool} {i j m:Nat} {W:List Nat} (a:Int) (st:St) (hs:eU st f i j m W):
  run Bd (n+2) 184 [.ptr (some (i,0)),.int .i64 a] st=some (.val [.bool (gV m a&&dI W a.toNat)],st):=by
 rw[Zf,h.eq];unfold Fs;simp only[fa,al,ae,Zb,aW];rw[Zj (Zny h.RP n a st hs)];simp only[ai,ae];cases hm:gV m a with
 |false=>rfl
 |true=>
  have mq:=hm;unfold gV at mq;rw[aH,bx,bx]at mq;have hle:=hs.le;have hlen:=hs.len;have hk:a.toNat/64<W.length:=by omega
  rw[cond_true,Zn hs.hd rfl];simp only[jw,aW];rw[OT mq.1,Zx1 mq.1,Zd (by omega) (by omega),Ze (Zk hk),aY,aY];rw[Zn (d:= .int .u64 (W[a.toNat/64]'hk:Nat)) hs.wd (by rw[dx,dC];simp[ZD,hk])];simp only[aS];have aj:=hs.lt _ (gC hk);rw[Ze (ah (by omega)),ZzM aj (by omega),cI];unfold dI;rw[bM,ba hk];rfl
theorem qY {st:St} {j k:Nat} {cs:List DV} {d:DV} (h:st[j]? =some (some ⟨false,cs⟩)) (hk:k<cs.length) (K:M β):M.store j k [d] K st=K (st.set j (some ⟨false,cs.set k d⟩)):=by
 unfold M.store St.gy;rw[h];simp only[tE,gD (show k+1<=cs.length by omega),cond_true,xC d cs k hk]
theorem eU.add {st:St} {i j m:Nat} {W:List Nat} (hs:eU st false i j m W) (pC:i≠j) (W':List Nat) (hl:W'.length=W.length) (aj: ∀w∈W',w<18446744073709551616):eU (st.set j (some ⟨false,ZD W'⟩)) false i j m W':=by
 have hj:j<st.length:=(cw.1 hs.wd).1;refine⟨?_,?_,by rw[hl];exact hs.len,aj,hs.le⟩
 ·rw[ec (by omega),hl];exact hs.hd
 ·rw[fV hj]
theorem Hn {Bd:Za} (h:zA Bd) (n:Nat) {i j m:Nat} {W:List Nat} (l:List Int) (p:Option (Nat×Nat)) (st:St) (hs:eU st false i j m W) (pC:i≠j) (hl:Sl st p (ints l)) (hp:jN [j] p) (il:l.length<1000000) (hn:l.length+3<=n):
  run Bd n 206 [.ptr (some (i,0)),.slice 1 p l.length] st=some (.val [],st.set j (some ⟨false,ZD (l.foldl (c9 m) W)⟩)):=by
 obtain⟨n,rfl⟩: ∃k,n=k+2:=⟨n-2,by omega⟩;rw[Zf,h.eq];unfold Fo;simp only[fa,br,ae,Zb];refine ok_eq ?_;have e0:st=st.set j (some ⟨false,ZD W⟩):=by
  have hj:j<st.length:=(cw.1 hs.wd).1;refine mP fun k=>?_
  by_cases e:j=k
  ·subst e;rw[fV hj,hs.wd]
  ·rw[ec e]
 refine Zl _ (fun q y s=>∃k:Nat,y=[.int .i64 k]/\k<=l.length/\l.length-k<=q/\s=st.set j (some ⟨false,ZD ((l.take k).foldl (c9 m) W)⟩)/\eU s false i j m ((l.take k).foldl (c9 m) W)) ?_ l.length (n+1) _ _ ⟨0,rfl,bH _,by omega,by rw[Bv];exact e0,by rw[Bv];exact hs⟩ (by omega);rintro q _ s ⟨k,rfl,hk,hq,bE,ko⟩ rec aD;simp only[al,ae];by_cases aj:k<l.length
 ·have hls:Sl s p (ints l):=by rw[bE];exact Sl.fx hl (Fx.set st j _) hp
  obtain⟨i1,o1,rfl⟩:=hls.cm (by simp[ints];omega);rw[ah (show(k:Int)<(l.length:Int) by omega),cond_true,aW,Ze (Zk aj),aY,hls.dj (Zw aj)];simp only[aS];rw[Zj (Zny h.RP n l[k] s ko)];simp only[ai,ae];have hw:af ((k:Int)+1)=((k+1:Nat):Int):=Zd (by omega) (by omega);have gS:(l.take (k+1)).foldl (c9 m) W=c9 m ((l.take k).foldl (c9 m) W) l[k]:=by
   rw[kL aj,List.foldl_append];rfl
  generalize hV:(l.take k).foldl (c9 m) W=V at bE ko gS;cases hm:gV m l[k]with
  |false=>
   rw[cond_false,hw];have Jm:c9 m V l[k]=V:=by unfold c9;rw[hm];rfl
   exact aD (l.length-(k+1)) _ _ (by omega) ⟨k+1,rfl,by omega,aA _,by rw[gS,Jm];exact bE,by rw[gS,Jm];exact ko⟩
  |true=>
   have mq:=hm;unfold gV at mq;rw[aH,bx,bx]at mq;have hle:=hs.le;have hlen:=ko.len;have uD:l[k].toNat/64<V.length:=by omega
   rw[cond_true,aW,Zn ko.hd rfl];simp only[jw,aW];rw[OT mq.1,Zx1 mq.1,Zd (by omega) (by omega),Ze (Zk uD),aY,aY];rw[Zn (d:= .int .u64 (V[l[k].toNat/64]'uD:Nat)) ko.wd (by rw[dx,dC];simp[ZD,uD])];simp only[aS];have aj:=ko.lt _ (gC uD);have bj:2^(l[k].toNat%64)<18446744073709551616:=Ez (a:=2) (n:=64) (by decide) (by omega);rw[Ze (ah (by omega)),Ze (Zk uD),jK (by omega),Int.one_mul,show((2:Int)^(l[k].toNat%64))=((2^(l[k].toNat%64):Nat):Int) by push_cast;rfl,tY bj,Uw aj bj];rw[qY ko.wd (by rw[M4,dx,dC];exact uD),hw,dx];have Jm:c9 m V l[k]=V.set (l[k].toNat/64) (V[l[k].toNat/64]'uD|||2^(l[k].toNat%64)):=by
    unfold c9;rw[hm,cond_true,bM,ba uD];rfl
   have wb:(ZD V).set (l[k].toNat/64+0) (.int .u64 ((V[l[k].toNat/64]'uD|||2^(l[k].toNat%64):Nat):Int))=ZD (c9 m V l[k]):=by
    rw[Jm,dC];unfold ZD;rw[zc]
   rw[wb];refine aD (l.length-(k+1)) _ _ (by omega) ⟨k+1,rfl,by omega,aA _,?_,?_⟩
   ·rw[gS,bE,List.set_set]
   ·rw[gS];exact ko.add pC _ (sv _ _ _) (zW ko.lt)
 ·rw[ao (show ¬(k:Int)<(l.length:Int) by omega),cond_false]
  simp only[Zc];rw[bE,cF (by omega)];exact .mk rfl
def oJ (n:Nat) (l:List Int):List Nat:=l.foldl (c9 n) (List.replicate ((n+63)/64) 0)
theorem sq (n:Nat): ∀(l:List Int) (W:List Nat),(l.foldl (c9 n) W).length=W.length/\((∀w∈W,w<18446744073709551616)->∀w∈l.foldl (c9 n) W,w<18446744073709551616)
 |[],_=>⟨rfl,id⟩
 |a::l,W=>⟨by rw[y8,(sq n l _).1,sv],fun h=>(sq n l _).2 (zW h)⟩
theorem Nt {Bd:Za} (h:B2 Bd) (n m:Nat) (l:List Int) (p:Option (Nat×Nat)) (st:St) (hm:m<=3072) (hl:Sl st p (ints l)) (il:l.length<1000000) (hn:l.length+4<=n):
  ∃s',run Bd n 177 [.int .i64 m,.slice 1 p l.length] st=some (.val [.ptr (some (st.length+1,0))],s')/\aw st s'/\s'.length=st.length+2/\eU s' false (st.length+1) st.length m (oJ m l):=by
 obtain⟨n,rfl⟩: ∃k,n=k+1:=⟨n-1,by omega⟩;rw[Zf,h.eq];unfold Ia;simp only[al,br,ae];have h0:(if ((m:Nat):Int)<0 then(0:Int)else m)=m:=ay (by omega);have h1:(if (3072:Int)<((m:Nat):Int)then(3072:Int)else m)=m:=ay (by omega);have h2:af ((af ((af (((m:Nat):Int)+64))-1)).tdiv 64)=(((m+63)/64:Nat):Int):=by
  rw[Zd (x:=((m:Nat):Int)+64) (by omega) (by omega),show(((m:Nat):Int)+64-1)=((m+63:Nat):Int) by omega,Zd (x:=((m+63:Nat):Int)) (by omega) (by omega),show(((m+63:Nat):Int).tdiv 64)=(((m+63)/64:Nat):Int)from rfl];exact Zd (by omega) (by omega)
 simp only[h0,h1,h2,aY];rw[Ze (by rw[aH,aH,bx,bx,bx];omega),Zy,Zy];have hw:fj ((m+63)/64) [DV.int .u64 0]=ZD (List.replicate ((m+63)/64) 0):=by rw[z7];simp[ZD]
 rw[hw];have Jy:(st++[some (⟨false,ZD (List.replicate ((m+63)/64) 0)⟩:bn)]).length=st.length+1:=by simp
 rw[Jy];have hp:aw st (st++[some (⟨false,ZD (List.replicate ((m+63)/64) 0)⟩:bn)]++[some (⟨false,[.int .i64 m,.slice 1 (some (st.length,0)) ((m+63)/64)]⟩:bn)]):=(aw.new _ _).trans (.new _ _);have ko:eU (st++[some (⟨false,ZD (List.replicate ((m+63)/64) 0)⟩:bn)]++[some (⟨false,[.int .i64 m,.slice 1 (some (st.length,0)) ((m+63)/64)]⟩:bn)]) false (st.length+1) st.length m (List.replicate ((m+63)/64) 0):=by
  refine⟨?_,?_,by simp,fun w hw=>by rw[List.eq_of_mem_replicate hw];decide,hm⟩
  ·rw[gN (by simp)];simp
  ·rw[iN (by simp),gN (aA _),pV];rfl
 have AT:(st++[some (⟨false,ZD (List.replicate ((m+63)/64) 0)⟩:bn)]++[some (⟨false,[.int .i64 m,.slice 1 (some (st.length,0)) ((m+63)/64)]⟩:bn)]).length=st.length+2:=by simp
 generalize st++[some (⟨false,ZD (List.replicate ((m+63)/64) 0)⟩:bn)]++[some (⟨false,[.int .i64 m,.slice 1 (some (st.length,0)) ((m+63)/64)]⟩:bn)]=s2 at hp ko AT;have Ds:jN [st.length] p:=by
  intro b o e hb;subst e;have:=Sl.lt hl;rw[bP.1 hb]at this;omega
 rw[Zj (Hn h.yK n l p s2 ko (by omega) (hl.mono hp) Ds il (by omega))];simp only[ae,Zc];exact⟨_,rfl,xE hp (aA _) _,by simp[AT],ko.add (by omega) _ (sq m l _).1 ((sq m l _).2 ko.lt)⟩
end Go.Gv.F
