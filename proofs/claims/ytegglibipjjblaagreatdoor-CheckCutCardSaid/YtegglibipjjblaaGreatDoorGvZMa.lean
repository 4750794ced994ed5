/- Numbers as octets, the least one first. -/
import Derived.Test.YtegglibipjjblaaGreatDoorGvZLib
import Derived.Test.YtegglibipjjblaaGreatDoorGvBMk
import Derived.Test.YtegglibipjjblaaGreatDoorGvZPg
import Derived.Test.YtegglibipjjblaaGreatDoorGvZPf
namespace Go.Gv.F
open Go.Gv
def leN:List UInt8→Nat
 |[]=>0
 |c::l=>c.toNat+256*leN l
def layN:Nat→Nat→List UInt8
 |_,0=>[]
 |v,n+1=>UInt8.ofNat v::layN (v/256) n
theorem Zq: ∀(v n:Nat),(layN v n).length=n
 |_,0=>rfl
 |v,n+1=>by rw[layN,List.length_cons,Zq]
theorem Zod: ∀(l:List UInt8),leN l<256^l.length
 |[]=>by decide
 |c::l=>by
  have h1:=c.toNat_lt;have h2:=Zod l;rw[leN,List.length_cons,Nat.pow_succ];omega
theorem Znw: ∀(v n:Nat),leN (layN v n)=v%256^n
 |v,0=>by simp[layN,leN,Nat.mod_one]
 |v,n+1=>by
  rw[layN,leN,Znw,Nat.pow_succ,Nat.mul_comm (256^n),Nat.mod_mul];have:(UInt8.ofNat v).toNat=v%256:=rfl;rw[this]
theorem Zur: ∀(l:List UInt8),layN (leN l) l.length=l
 |[]=>rfl
 |c::l=>by
  have h1:=c.toNat_lt;rw[leN,List.length_cons,layN,show(c.toNat+256*leN l)/256=leN l by omega,Zur l];congr 1;refine UInt8.toNat_inj.1 ?_;show(c.toNat+256*leN l)%256=_;omega
theorem Zvy: ∀(l m:List UInt8),leN (l++m)=leN l+256^l.length*leN m
 |[],m=>by simp[leN]
 |c::l,m=>by
  rw[List.cons_append,leN,leN,Zvy l m,List.length_cons,Nat.pow_succ,Nat.mul_add,←Nat.mul_assoc,Nat.mul_comm 256 (256^l.length)];omega
theorem Znz: ∀(v m n:Nat),layN v (m+n)=layN v m++layN (v/256^m) n
 |v,0,n=>by simp[layN]
 |v,m+1,n=>by
  rw[show m+1+n=(m+n)+1 by omega,layN,layN,Znz (v/256) m n,List.cons_append,Nat.pow_succ,Nat.mul_comm (256^m),Nat.div_div_eq_div_mul]
end Go.Gv.F
namespace Go.Gv.F
open Go.Gv
def stepC (x:Nat):Nat:=if x%2=1 then(x/2)^^^2197175160 else x/2
def Zv:Nat→Nat→Nat
 |0,x=>x
 |n+1,x=>Zv n (stepC x)
def regC (x:Nat) (c:UInt8):Nat:=Zv 8 (x^^^c.toNat)
def crcF (l:List UInt8):Nat:=4294967295-l.foldl regC 4294967295
theorem Zzh (a b:Nat):(a^^^b)%2=(a+b)%2:=by
 have h:=Nat.testBit_xor a b 0;simp only[Nat.testBit_zero]at h;have e: ∀p q r:Nat,decide (p%2=1)=(decide (q%2=1)^^decide (r%2=1))→p%2=(q+r)%2:=by
  intro p q r h;rcases Nat.mod_two_eq_zero_or_one p with hp|hp<;>rcases Nat.mod_two_eq_zero_or_one q with hq|hq<;>rcases Nat.mod_two_eq_zero_or_one r with hr|hr<;>simp[hp,hq,hr]at h⊢ <;>omega
 exact e _ _ _ h
theorem Zyw (a b:Nat):(a^^^b)/2=(a/2)^^^(b/2):=by
 have:=Nat.shiftRight_xor_distrib (a:=a) (b:=b) (i:=1);simpa [Nat.shiftRight_succ]using this
theorem ZxP (a b:Nat):stepC (a^^^b)=stepC a^^^stepC b:=by
 unfold stepC;rw[Zzh,Zyw];rcases Nat.mod_two_eq_zero_or_one a with ha|ha<;>rcases Nat.mod_two_eq_zero_or_one b with hb|hb
 ·rw[if_neg (by omega),if_neg (by omega),if_neg (by omega)]
 ·rw[if_pos (by omega),if_neg (by omega),if_pos (by omega),Nat.xor_assoc]
 ·rw[if_pos (by omega),if_pos (by omega),if_neg (by omega),Nat.xor_assoc,Nat.xor_comm (b/2),←Nat.xor_assoc]
 ·rw[if_neg (by omega),if_pos (by omega),if_pos (by omega)]
  rw[Nat.xor_assoc,Nat.xor_comm 2197175160 (b/2^^^2197175160),Nat.xor_assoc,Nat.xor_self,Nat.xor_zero]
theorem Zoz: ∀(n a b:Nat),Zv n (a^^^b)=Zv n a^^^Zv n b
 |0,_,_=>rfl
 |n+1,a,b=>by rw[Zv,Zv,Zv,ZxP,Zoz n]
theorem ZoT: ∀(m n x:Nat),Zv (m+n) x=Zv n (Zv m x)
 |0,n,x=>by rw[Nat.zero_add];rfl
 |m+1,n,x=>by rw[show m+1+n=(m+n)+1 by omega,Zv,Zv,ZoT m n]
theorem ZiP (z:Nat):stepC (2*z)=z:=by unfold stepC;rw[if_neg (by omega)];omega
theorem ZzH (x:Nat):x=(16*(x/16))^^^(x%16):=by
 refine Nat.eq_of_testBit_eq fun i=>?_
 rw[Nat.testBit_xor];have e1:(16*(x/16)).testBit i=(decide (4≤i)&&x.testBit i):=by
  rw[show 16*(x/16)=2^4*(x/2^4)from rfl,Nat.testBit_two_pow_mul];by_cases h:4≤i
  ·rw[decide_eq_true h,Nat.testBit_div_two_pow,show i-4+4=i by omega]
  ·rw[decide_eq_false h];simp
 have e2:(x%16).testBit i=(decide (i<4)&&x.testBit i):=by
  rw[show x%16=x%2^4 from rfl,Nat.testBit_mod_two_pow]
 rw[e1,e2];by_cases h:4≤i
 ·rw[decide_eq_true h,decide_eq_false (by omega)];simp
 ·rw[decide_eq_false h,decide_eq_true (by omega)];simp
theorem nib (x:Nat):Zv 4 x=(x/16)^^^Zv 4 (x%16):=by
 have h:Zv 4 (16*(x/16))=x/16:=by
  generalize x/16=y;show stepC (stepC (stepC (stepC (16*y))))=y;rw[show 16*y=2*(2*(2*(2*y))) by omega,ZiP,ZiP,ZiP,ZiP]
 have h2:=Zoz 4 (16*(x/16)) (x%16);rw[←ZzH,h]at h2;exact h2
theorem Zun {x:Nat} (h:x<4294967296):stepC x<4294967296:=by
 unfold stepC;split
 ·exact Nat.xor_lt_two_pow (n:=32) (by omega) (by omega)
 ·omega
theorem ZgU: ∀(n:Nat) {x:Nat},x<4294967296→Zv n x<4294967296
 |0,_,h=>h
 |n+1,_,h=>ZgU n (Zun h)
theorem Zzr {x:Nat} (h:x<4294967296) (c:UInt8):regC x c<4294967296:=
 ZgU 8 (Nat.xor_lt_two_pow (n:=32) h (by have:=c.toNat_lt;omega))
theorem Zkh: ∀(l:List UInt8) {x:Nat},x<4294967296→l.foldl regC x<4294967296
 |[],_,h=>h
 |c::l,_,h=>Zkh l (Zzr h c)
theorem ZpX (l:List UInt8):crcF l<4294967296:=by unfold crcF;omega
theorem Zys (x:Nat) (c:UInt8):regC x c=((((x^^^c.toNat)/16)^^^Zv 4 ((x^^^c.toNat)%16))/16)^^^Zv 4 ((((x^^^c.toNat)/16)^^^Zv 4 ((x^^^c.toNat)%16))%16):=by
 unfold regC;generalize x^^^c.toNat=y;rw[show Zv 8 y=Zv 4 (Zv 4 y)from ZoT 4 4 y,nib y];exact nib _
theorem Zzw {x:Nat} (h:x<4294967296):x^^^4294967295=4294967295-x:=by
 refine Nat.eq_of_testBit_eq fun i=>?_
 rw[show(4294967295:Nat)=2^32-1 from rfl,Nat.testBit_xor,Nat.testBit_two_pow_sub_one,show 2^32-1-x=2^32-(x+1) by omega,Nat.testBit_two_pow_sub_succ (by omega)];by_cases hi:i<32
 ·rw[decide_eq_true hi];simp
 ·rw[decide_eq_false hi]
  have:x.testBit i=false:=Nat.testBit_lt_two_pow (Nat.lt_of_lt_of_le (show x<2^32 by omega) (Nat.pow_le_pow_right (by decide) (show 32≤i by simpa using hi)));simp[this]
end Go.Gv.F
namespace Go.Gv.F
open Go.Gv
variable {β:Type}
theorem Zfu {x:Nat} (h:x<18446744073709551616):IntKind.wrap .u64 (x:Int)=x:=IntWalk.u64_in _ (by omega)
theorem ZgX {x:Nat} (h:x<4294967296):IntKind.wrap .u32 (x:Int)=x:=by
 show(x:Int)%_=x;have:((2:Int)^32)=4294967296:=by decide
 show(x:Int)%(2^32)=x;omega
theorem Zy4 (x:Nat):IntKind.wrap .u64 (x:Int)=((x%18446744073709551616:Nat):Int):=by
 show(x:Int)%(2^64)=_;have:((2:Int)^64)=18446744073709551616:=by decide
 omega
theorem bv64 {x:Nat} (h:x<18446744073709551616):(BitVec.ofInt 64 (x:Int)).toNat=x:=by
 rw[BitVec.toNat_ofInt];omega
theorem bv32 {x:Nat} (h:x<4294967296):(BitVec.ofInt 32 (x:Int)).toNat=x:=by
 rw[BitVec.toNat_ofInt];omega
theorem or64 {x y:Nat} (hx:x<18446744073709551616) (hy:y<18446744073709551616):bits .or .u64 (x:Int) (y:Int)=((x|||y:Nat):Int):=by
 show IntKind.wrap .u64 ((BitVec.ofInt 64 (x:Int)|||BitVec.ofInt 64 (y:Int)).toNat:Int)=_;rw[BitVec.toNat_or,bv64 hx,bv64 hy];exact Zfu (Nat.or_lt_two_pow (n:=64) hx hy)
theorem and64 {x y:Nat} (hx:x<18446744073709551616) (hy:y<18446744073709551616):bits .and .u64 (x:Int) (y:Int)=((x&&& y:Nat):Int):=by
 show IntKind.wrap .u64 ((BitVec.ofInt 64 (x:Int)&&& BitVec.ofInt 64 (y:Int)).toNat:Int)=_;rw[BitVec.toNat_and,bv64 hx,bv64 hy];exact Zfu (Nat.lt_of_le_of_lt Nat.and_le_left hx)
theorem xor32 {x y:Nat} (hx:x<4294967296) (hy:y<4294967296):bits .xor .u32 (x:Int) (y:Int)=((x^^^y:Nat):Int):=by
 show IntKind.wrap .u32 ((BitVec.ofInt 32 (x:Int)^^^BitVec.ofInt 32 (y:Int)).toNat:Int)=_;rw[BitVec.toNat_xor,bv32 hx,bv32 hy];exact ZgX (Nat.xor_lt_two_pow (n:=32) hx hy)
theorem and32 {x y:Nat} (hx:x<4294967296) (hy:y<4294967296):bits .and .u32 (x:Int) (y:Int)=((x&&& y:Nat):Int):=by
 show IntKind.wrap .u32 ((BitVec.ofInt 32 (x:Int)&&& BitVec.ofInt 32 (y:Int)).toNat:Int)=_;rw[BitVec.toNat_and,bv32 hx,bv32 hy];exact ZgX (Nat.lt_of_le_of_lt Nat.and_le_left hx)
theorem Zf0 (x m:Nat):Int.fdiv (x:Int) (m:Int)=((x/m:Nat):Int):=by
 cases m with
 |zero=>simp
 |succ m=>rw[Int.fdiv_eq_ediv_of_nonneg _ (by omega)];rfl
def octs (l:List UInt8):List DV:=l.map fun b=> .int .u8 b.toNat
theorem ZeZ (l:List UInt8):ZF l=octs l:=rfl
theorem Zt (l:List UInt8):(octs l).length=l.length:=by unfold octs;rw[List.length_map]
theorem ZnW {l:List UInt8} {j:Nat} {b:UInt8} (h:l[j]? =some b):(octs l)[j]? =some (.int .u8 b.toNat):=by unfold octs;rw[List.getElem?_map,h];rfl
theorem Zw3 (l:List UInt8) (k:Nat):(octs l).drop k=octs (l.drop k):=by unfold octs;rw[List.map_drop]
theorem ZxX (l:List UInt8) (k:Nat):(octs l).take k=octs (l.take k):=by unfold octs;rw[List.map_take]
theorem Zga (l m:List UInt8):octs (l++m)=octs l++octs m:=by unfold octs;rw[List.map_append]
def Byt (s:St) (a:Option (Nat×Nat)) (l:List UInt8):Prop:=Sl s a (octs l)
theorem Byt.mono {s s':St} (k:Pre s s') {a:Option (Nat×Nat)} {l:List UInt8} (h:Byt s a l):Byt s' a l:=Sl.mono k h
theorem Byt.get {s:St} {i o:Nat} {l:List UInt8} (h:Byt s (some (i,o)) l) {j:Nat} {b:UInt8} (hb:l[j]? =some b) (K:DV→M β):M.load1 i (j+o) K s=K (.int .u8 b.toNat) s:=Sl.get h (ZnW hb) K
theorem Byt.get1 {s:St} {i o:Nat} {l:List UInt8} (h:Byt s (some (i,o)) l) {j:Nat} {b:UInt8} (hb:l[j]? =some b) (K:DV→M β):M.load1 i (j*1+o) K s=K (.int .u8 b.toNat) s:=by rw[Nat.mul_one];exact h.get hb K
theorem Byt.some_of {s:St} {a:Option (Nat×Nat)} {l:List UInt8} (h:Byt s a l) (hn:0<l.length): ∃i o,a=some (i,o):=Sl.some_of h (by rw[Zt];exact hn)
theorem Sl.sub {s:St} {i o:Nat} {cs:List DV} (h:Sl s (some (i,o)) cs) {k:Nat} (hk:k≤cs.length):Sl s (some (i,k+o)) (cs.drop k):=by
 obtain⟨f,all,h1,h2,h3⟩:=h;refine⟨f,all,h1,by rw[List.length_drop];omega,?_⟩;rw[List.length_drop,show k+o=o+k by omega,←List.drop_drop,←List.drop_take,h3]
theorem Sl.cutA {s:St} {a:Option (Nat×Nat)} {cs:List DV} (h:Sl s a cs) {k:Nat} (hk:k≤cs.length):Sl s (cutA true a k) (cs.drop k):=by
 cases a with
 |none=>rw[show cs=[]from h];simp[Go.Gv.cutA,Sl]
 |some p=>exact Sl.sub h hk
theorem Sl.takes {s:St} {a:Option (Nat×Nat)} {cs:List DV} (h:Sl s a cs) (k:Nat):Sl s a (cs.take k):=by
 cases a with
 |none=>rw[show cs=[]from h];simp[Sl]
 |some p=>
  obtain⟨f,all,h1,h2,h3⟩:=h;refine⟨f,all,h1,by rw[List.length_take];omega,?_⟩;rw[List.length_take,←List.take_take,h3]
theorem Byt.cutA {s:St} {a:Option (Nat×Nat)} {l:List UInt8} (h:Byt s a l) {k:Nat} (hk:k≤l.length):Byt s (cutA true a k) (l.drop k):=by
 unfold Byt;rw[←Zw3];exact Sl.cutA h (by rw[Zt];exact hk)
theorem Byt.takes {s:St} {a:Option (Nat×Nat)} {l:List UInt8} (h:Byt s a l) (k:Nat):Byt s a (l.take k):=by
 unfold Byt;rw[←ZxX];exact Sl.takes h k
theorem Zj5 {Bd:Za} (h:Zeq Bd) (n:Nat) (a:Option (Nat×Nat)) (len at' k:Nat) (st:St) (hl:len<1000000) (hk:k<1000000):
  run Bd (n+1) 261 [.slice 1 a len,.int .i64 at',.int .i64 k] st=some (.val [.bool (decide (at'+k≤len))],st):=by
 rw[Zf,h.eq];unfold Zez;simp only[J_l,J_i,J_b,D_nil,Zc,decide_eq_true (show(at':Int)≥0 by omega),decide_eq_true (show(k:Int)≥0 by omega),cond_true];by_cases h1:k≤len
 ·rw[decide_eq_true (show(k:Int)≤(len:Int) by omega),cond_true]
  rw[Zd (by omega) (by omega),Zb];by_cases h2:at'+k≤len
  ·rw[decide_eq_true h2,decide_eq_true (by omega)]
  ·rw[decide_eq_false h2,decide_eq_false (by omega)]
 ·rw[decide_eq_false (show ¬(k:Int)≤(len:Int) by omega),cond_false]
  rw[Zb,decide_eq_false (by omega)]
theorem ok_eq {x:Option (Out β×St)} {o:Out β×St} (h:Ok (fun p=>p=o) x):x=some o:=by
 obtain⟨_,e,rfl⟩:=h;exact e
theorem ZyJ (l:List UInt8) (c:UInt8):leN (l++[c])=leN l+256^l.length*c.toNat:=by
 rw[Zvy];simp[leN]
theorem ZzN {x c k:Nat} (hx:x<2^k):x|||(c*2^k)=x+c*2^k:=by
 rw[Nat.or_comm,Nat.mul_comm,←Nat.two_pow_add_eq_or_of_lt hx,Nat.add_comm]
theorem Zxn (k:Nat):256^k=2^(8*k):=by rw[Nat.pow_mul]
theorem Z6 {Bd:Za} (h:Z5 Bd) (n:Nat) (a:Option (Nat×Nat)) (l:List UInt8) (st:St) (ha:Byt st a l) (hl:l.length≤8) (hn:12≤n):
  run Bd n 285 [.slice 1 a l.length] st=some (.val [.int .u64 (leN l)],st):=by
 obtain⟨n,rfl⟩: ∃m,n=m+1:=⟨n-1,by omega⟩;rw[Zf,h.eq];unfold ZdK;simp only[J_l,D_nil];have hif:(if (8:Int)<(l.length:Int)then(8:Int)else(l.length:Int))=(l.length:Int):=if_neg (by omega);simp only[hif];rw[Ze (by simp),Zc];refine ok_eq ?_;refine Zk _ (fun q y s=>∃k:Nat,y=[.int .u64 (leN (l.take k)),.int .i64 k]∧s=st∧k≤l.length∧l.length-k≤q) ?_ l.length n _ _ ⟨0,by simp[leN],rfl,Nat.zero_le _,by omega⟩ (by omega);rintro q _ s ⟨k,rfl,rfl,hk,hq⟩ rec hrec;simp only[J_i,D_nil,Int.toNat_natCast];by_cases hlt:k<l.length
 ·rw[decide_eq_true (show(k:Int)<(l.length:Int) by omega),cond_true]
  obtain⟨i,o,rfl⟩:=ha.some_of (by omega);obtain⟨c,hc⟩: ∃c,l[k]? =some c:=⟨_,List.getElem?_eq_getElem hlt⟩;rw[nn_some',Ze (Zl hlt),ha.get1 hc];simp only[D_int];rw[Zd (by omega) (by omega),Ze (decide_eq_true (by omega)),Zd (by omega) (by omega)];have hc8:=c.toNat_lt;have e1:(8*(k:Int)).toNat=8*k:=by omega
  have hp:c.toNat*2^(8*k)<18446744073709551616:=by
   have h1:c.toNat*2^(8*k)<2^8*2^(8*k):=Nat.mul_lt_mul_of_pos_right (by omega) (Nat.two_pow_pos _);have h2:2^8*2^(8*k)≤2^64:=by rw[←Nat.pow_add];exact Nat.pow_le_pow_right (by decide) (by omega)
   omega
  rw[e1,Nat.min_eq_left (by omega),Zfu (by omega)];have e2:((c.toNat:Int)*2^(8*k))=((c.toNat*2^(8*k):Nat):Int):=by push_cast;rfl
  rw[e2,Zfu hp];have hlow:leN (l.take k)<2^(8*k):=by
   have:=Zod (l.take k)
   rwa [List.length_take,Nat.min_eq_left (by omega),Zxn]at this
  have hlow':leN (l.take k)<18446744073709551616:=Nat.lt_of_lt_of_le hlow (by
   have:2^(8*k)≤2^64:=Nat.pow_le_pow_right (by decide) (by omega);omega)
  rw[or64 hlow' hp,ZzN hlow];refine hrec (l.length-(k+1)) _ _ (by omega) ⟨k+1,?_,rfl,by omega,Nat.le_refl _⟩;have e3:l.take (k+1)=l.take k++[c]:=by
   rw[List.take_add_one,hc];rfl
  rw[e3,ZyJ,List.length_take,Nat.min_eq_left (by omega),Zxn,Nat.mul_comm];simp
 ·rw[decide_eq_false (show ¬(k:Int)<(l.length:Int) by omega),cond_false]
  rw[Zb,List.take_of_length_le (by omega)];exact .mk rfl
end Go.Gv.F
namespace Go.Gv.F
open Go.Gv
variable {β:Type}
def rd (l:List UInt8) (at' k:Nat):Nat:=leN ((l.drop at').take k)
def Zz (l:List UInt8):Bool:=l.all (· ==0)
theorem Zbf {Bd:Za} (h:ZY Bd) (n:Nat) (a:Option (Nat×Nat)) (l:List UInt8) (at' k:Nat) (st:St) (ha:Byt st a l) (hl:l.length<1000000) (hk:at'+k≤l.length) (hn:k+5≤n):
  run Bd n 238 [.slice 1 a l.length,.int .i64 at',.int .i64 k] st=some (.val [.bool (Zz ((l.drop at').take k))],st):=by
 obtain⟨n,rfl⟩: ∃m,n=m+2:=⟨n-2,by omega⟩;rw[Zf,h.eq];unfold Zds;simp only[J_l,J_i,D_nil];rw[Zi (Zj5 h.q69 n a l.length at' k st hl (by omega))];simp only[J_b,D_nil];rw[decide_eq_true hk,Bool.not_true,cond_false,Zd (by omega) (by omega)];have e1:((at':Int)+(k:Int)).toNat=at'+k:=by omega
 simp only[e1];rw[Ze (by simp;omega),Ze (by simp;omega),Zc];simp only[Int.toNat_natCast,Nat.mul_one,show at'+k-at'=k by omega];refine ok_eq ?_;have hb:=ha.cutA (k:=at') (by omega);generalize hm:l.drop at'=m at hb;have hml:k≤m.length:=by rw[←hm,List.length_drop];omega
 refine Zk _ (fun q y s=>∃j:Nat,y=[.int .i64 j]∧s=st∧j≤k∧k-j≤q∧Zz (m.take j)=true) ?_ k (n+1) _ _ ⟨0,rfl,rfl,Nat.zero_le _,by omega,rfl⟩ (by omega);rintro q _ s ⟨j,rfl,rfl,hj,hq,hz⟩ rec hrec;simp only[J_i,D_nil];by_cases hlt:j<k
 ·rw[decide_eq_true (show(j:Int)<(k:Int) by omega),cond_true]
  obtain⟨i,o,hio⟩:=hb.some_of (by omega);rw[hio]at hb⊢;obtain⟨c,hc⟩: ∃c,m[j]? =some c:=⟨_,List.getElem?_eq_getElem (by omega)⟩;rw[nn_some',Ze (Zl hlt),Int.toNat_natCast,hb.get hc];simp only[D_int];by_cases h0:c=0
  ·subst h0
   rw[show(!((((0:UInt8).toNat:Nat):Int)==0))=false from rfl,cond_false,Zd (by omega) (by omega)];refine hrec (k-(j+1)) _ _ (by omega) ⟨j+1,by simp,rfl,by omega,Nat.le_refl _,?_⟩;have e3:m.take (j+1)=m.take j++[0]:=by rw[List.take_add_one,hc];rfl
   rw[e3];simp[Zz]at hz⊢;exact hz
  ·have hc0:c.toNat≠0:=fun e=>h0 (UInt8.toNat_inj.1 e)
   have e2:(!((c.toNat:Int)==0))=true:=by
    rw[Bool.not_eq_true'];exact beq_eq_false_iff_ne.2 (by omega)
   rw[e2,cond_true,Zb];refine .mk ?_;have:Zz (m.take k)=false:=by
    cases e:Zz (m.take k)with
    |false=>rfl
    |true=>
     unfold Zz at e;rw[List.all_eq_true]at e;have:=e c (List.mem_of_getElem? (i:=j) (by rw[List.getElem?_take,if_pos hlt];exact hc));exact absurd (by simpa using this) h0
   rw[this]
 ·rw[decide_eq_false (show ¬(j:Int)<(k:Int) by omega),cond_false]
  simp only[Zb];have:j=k:=by omega
  subst this;rw[hz];exact .mk rfl
theorem Zue {Bd:Za} (h:Zji Bd) (n:Nat) (a:Option (Nat×Nat)) (l:List UInt8) (at' k:Nat) (st:St) (ha:Byt st a l) (hl:l.length<1000000) (h1:1≤k) (h8:k≤8) (hk:at'+k≤l.length) (hn:20≤n):
  run Bd n 312 [.slice 1 a l.length,.int .i64 at',.int .i64 k] st=some (.val [.int .u64 (rd l at' k),.bool true],st):=by
 obtain⟨n,rfl⟩: ∃m,n=m+2:=⟨n-2,by omega⟩;rw[Zf,h.eq];unfold ZgD;simp only[J_l,J_i,D_nil,Zc,decide_eq_false (show ¬(k:Int)<1 by omega),decide_eq_false (show ¬(k:Int)>8 by omega),cond_false,J_b];rw[Zi (Zj5 h.q69 n a l.length at' k st hl (by omega))];simp only[J_b,D_nil];rw[decide_eq_true hk,Bool.not_true,cond_false,Zd (by omega) (by omega)];have e1:((at':Int)+(k:Int)).toNat=at'+k:=by omega
 simp only[e1];rw[Ze (by simp;omega),Ze (by simp;omega)];simp only[Int.toNat_natCast,Nat.mul_one,show at'+k-at'=k by omega];have hb:=(ha.cutA (k:=at') (by omega)).takes k;have hlen:((l.drop at').take k).length=k:=by rw[List.length_take,List.length_drop];omega
 have hr:=Z6 h.q94 (n+1) _ _ st hb (by omega) (by omega);rw[hlen]at hr;rw[Zi hr];simp only[J_i,D_nil,Zb];rfl
def tabL (x:Nat):List DV:=(List.range 16).map fun i=> .int .u32 (if i<x then(Zv 4 i:Nat)else 0)
def tabC:List DV:=tabL 16
theorem ZyT: ∀x,x<16→spl (tabL x) (x*1) [.int .u32 (Zv 4 x:Nat)]=tabL (x+1)
 |0,_=>rfl|1,_=>rfl|2,_=>rfl|3,_=>rfl|4,_=>rfl|5,_=>rfl|6,_=>rfl|7,_=>rfl
 |8,_=>rfl|9,_=>rfl|10,_=>rfl|11,_=>rfl|12,_=>rfl|13,_=>rfl|14,_=>rfl|15,_=>rfl
 |n+16,h=>by omega
theorem Ztc {j:Nat} (h:j<16):tabC[j]? =some (.int .u32 (Zv 4 j:Nat)):=by
 unfold tabC tabL;rw[List.getElem?_map,List.getElem?_range h];simp[h]
theorem ZkJ (x:Nat):(tabL x).length=16:=by unfold tabL;simp
theorem Zvf {Bd:Za} (h:Zkx Bd) (n:Nat) (x:Nat) (hx:x<4294967296) (st:St):run Bd (n+1) 320 [.int .u32 x] st=some (.val [.int .u32 (stepC x)],st):=by
 rw[Zf,h.eq];unfold ZhC stepC;simp only[J_i,D_nil];have ha:bits .and .u32 (x:Int) 1=((x%2:Nat):Int):=by
  have:=and32 hx (show 2^1-1<4294967296 by decide);rw[Nat.and_two_pow_sub_one_eq_mod]at this;exact this
 rw[ha,show((2:Int)^1)=((2:Nat):Int)from rfl,Zf0];have h2:x/2<4294967296:=by omega
 rcases Nat.mod_two_eq_zero_or_one x with e|e
 ·rw[e,show(((0:Nat):Int)==1)=false from rfl,cond_false,if_neg (by omega),Zb]
 ·rw[e,show(((1:Nat):Int)==1)=true from rfl,cond_true,if_pos rfl]
  rw[show(2197175160:Int)=((2197175160:Nat):Int)from rfl,xor32 h2 (by omega),Zb]
theorem Zgw: ∀(n x:Nat),Zv (n+1) x=stepC (Zv n x)
 |0,_=>rfl
 |n+1,x=>by rw[Zv,Zgw n,Zv]
theorem ZsO {Bd:Za} (h:ZjE Bd) (n:Nat) (hn:30≤n) (st:St):run Bd n 317 [] st=some (.val [.agg tabC],st):=by
 obtain⟨n,rfl⟩: ∃m,n=m+2:=⟨n-2,by omega⟩;rw[Zf,h.eq];unfold Zgu;simp only[D_nil,Zc];refine ok_eq ?_;refine Zk _ (fun q y s=>∃x:Nat,y=[.agg (tabL x),.int .i64 x]∧s=st∧x≤16∧16-x≤q) ?_ 16 (n+1) _ _ ⟨0,rfl,rfl,by omega,by omega⟩ (by omega);rintro q _ s ⟨x,rfl,rfl,hx,hq⟩ rec hrec;simp only[J_a,J_i,D_nil,D_len (ZkJ x)];by_cases hlt:x<16
 ·rw[decide_eq_true (show(x:Int)<16 by omega),cond_true]
  rw[ZgX (by omega)];refine Zk _ (fun q y s'=>∃j:Nat,y=[.int .u32 (Zv j x),.int .i64 j]∧s'=s∧j≤4∧4-j≤q) ?_ 4 (n+1) _ _ ⟨0,rfl,rfl,by omega,by omega⟩ (by omega);rintro q' _ s' ⟨j,rfl,rfl,hj,hq'⟩ rec2 hrec2;simp only[J_i,D_nil];by_cases hj4:j<4
  ·rw[decide_eq_true (show(j:Int)<4 by omega),cond_true]
   rw[Zi (Zvf h.q130 n (Zv j x) (ZgU j (by omega)) s')];simp only[J_i,D_nil];rw[Zd (by omega) (by omega)];exact hrec2 (4-(j+1)) _ _ (by omega) ⟨j+1,by rw[Zgw];simp,rfl,by omega,Nat.le_refl _⟩
  ·rw[decide_eq_false (show ¬(j:Int)<4 by omega),cond_false]
   have:j=4:=by omega
   subst this;rw[Ze (by rw[Zl hlt]),Int.toNat_natCast,Ze (by simp;omega),ZyT x hlt];simp only[D_len (ZkJ (x+1))];rw[Zd (by omega) (by omega)];exact hrec (16-(x+1)) _ _ (by omega) ⟨x+1,by simp,rfl,by omega,Nat.le_refl _⟩
 ·rw[decide_eq_false (show ¬(x:Int)<16 by omega),cond_false,Zb]
  have:x=16:=by omega
  subst this;exact .mk rfl
end Go.Gv.F
namespace Go.Gv.F
open Go.Gv
variable {β:Type}
theorem ZnZ {Bd:Za} (h:Zgf Bd) (n x ti:Nat) (a:Option (Nat×Nat)) (l:List UInt8) (st:St) (ht:Sl st (some (ti,0)) tabC) (ha:Byt st a l) (hx:x<4294967296) (hl:l.length<1000000) (hn:l.length+3≤n):
  run Bd n 318 [.ptr (some (ti,0)),.int .u32 x,.slice 1 a l.length] st=some (.val [.int .u32 (l.foldl regC x:Nat)],st):=by
 obtain⟨n,rfl⟩: ∃m,n=m+1:=⟨n-1,by omega⟩;rw[Zf,h.eq];unfold ZdP;simp only[J_p,J_i,J_l,D_nil,Zc];refine ok_eq ?_;refine Zk _ (fun q y s=>∃k:Nat,y=[.int .u32 ((l.take k).foldl regC x:Nat),.int .i64 k]∧s=st∧k≤l.length∧l.length-k≤q) ?_ l.length n _ _ ⟨0,by simp,rfl,Nat.zero_le _,by omega⟩ (by omega);rintro q _ s ⟨k,rfl,rfl,hk,hq⟩ rec hrec;simp only[J_i,D_nil];by_cases hlt:k<l.length
 ·rw[decide_eq_true (show(k:Int)<(l.length:Int) by omega),cond_true]
  obtain⟨i,o,rfl⟩:=ha.some_of (by omega);obtain⟨c,hc⟩: ∃c,l[k]? =some c:=⟨_,List.getElem?_eq_getElem hlt⟩;rw[nn_some',Ze (Zl hlt),Int.toNat_natCast,ha.get1 hc];simp only[D_int];have hc8:=c.toNat_lt;have hy:(l.take k).foldl regC x<4294967296:=Zkh _ hx;have e3:(l.take (k+1)).foldl regC x=regC ((l.take k).foldl regC x) c:=by
   have:l.take (k+1)=l.take k++[c]:=by rw[List.take_add_one,hc];rfl
   rw[this,List.foldl_append];rfl
  generalize (l.take k).foldl regC x=y at hy e3;have hz:y^^^c.toNat<4294967296:=Nat.xor_lt_two_pow (n:=32) hy (by omega);rw[ZgX (by omega),xor32 hy (by omega)];rw[Zys]at e3;generalize y^^^c.toNat=z at hz e3;have and15': ∀z:Nat,z<4294967296→bits .and .u32 (z:Int) 15=((z%16:Nat):Int):=fun z hz=>by
   have:=and32 hz (show 2^4-1<4294967296 by decide);rw[Nat.and_two_pow_sub_one_eq_mod]at this;exact this
  have f16: ∀z:Nat,Int.fdiv (z:Int) (2^4)=((z/16:Nat):Int):=fun z=>Zf0 z 16
  have m16:z%16<16:=Nat.mod_lt _ (by decide);have s16:Zv 4 (z%16)<4294967296:=ZgU 4 (by omega);rw[and15' z hz,nn_some',Ze (Zl m16),Int.toNat_natCast,ht.get1 (Ztc m16)];simp only[D_int];rw[f16,xor32 (by omega) s16];have hw:z/16^^^Zv 4 (z%16)<4294967296:=Nat.xor_lt_two_pow (n:=32) (by omega) s16;generalize z/16^^^Zv 4 (z%16)=w at hw e3;have m16':w%16<16:=Nat.mod_lt _ (by decide);rw[and15' w hw,nn_some',Ze (Zl m16'),Int.toNat_natCast,ht.get1 (Ztc m16')];simp only[D_int];rw[f16,xor32 (by omega) (ZgU 4 (by omega)),Zd (by omega) (by omega)];exact hrec (l.length-(k+1)) _ _ (by omega) ⟨k+1,by rw[e3];simp,rfl,by omega,Nat.le_refl _⟩
 ·rw[decide_eq_false (show ¬(k:Int)<(l.length:Int) by omega),cond_false,Zb,List.take_of_length_le (by omega)]
  exact .mk rfl
theorem ZqQ {s:St} {cs ds:List DV} (hl:ds.length=cs.length) (K:M β):M.store s.length 0 ds K (s++[some ⟨false,cs⟩])=K (s++[some ⟨false,ds⟩]):=by
 unfold M.store St.open?;rw[List.getElem?_append_right (Nat.le_refl _),Nat.sub_self];simp only[List.getElem?_cons_zero];rw[Nat.ble_eq_true_of_le (by omega),cond_true];have:spl cs 0 ds=ds:=by
  have key: ∀(cs ds:List DV),ds.length=cs.length→ov cs ds=ds:=by
   intro cs;induction cs with
   |nil=>intro ds h;cases ds with|nil=>rfl|cons _ _=>simp at h
   |cons c cs ih=>intro ds h;cases ds with|nil=>simp at h|cons d ds=>rw[ov,ih ds (by simpa using h)]
  have e:spl cs 0 ds=ov cs ds:=by cases cs<;>rfl
  rw[e,key cs ds hl]
 rw[this];congr 1;rw[List.set_append_right _ _ (Nat.le_refl _),Nat.sub_self];rfl
theorem Zws {Bd:Za} (h:Zmn Bd) (n:Nat) (bs a:Option (Nat×Nat)) (l:List UInt8) (st:St) (hbs:Sl st bs [.slice 1 a l.length]) (ha:Byt st a l) (hl:l.length<1000000) (hn:l.length+40≤n):
  Ok (fun o=>∃s',o=(.val [.int .u32 (crcF l)],s')∧Pre st s') (run Bd n 306 [.slice 1 bs 1] st):=by
 obtain⟨n,rfl⟩: ∃m,n=m+1:=⟨n-1,by omega⟩;rw[Zf,h.eq];unfold ZiQ;simp only[J_l,D_nil];rw[Zi (ZsO h.q108 n (by omega) st)];simp only[J_a,D_nil,D_len (ZkJ 16),tabC];rw[Zu,ZqQ (by rw[ZkJ];rfl),Zc];have hp:=Pre.new st (some ⟨false,tabL 16⟩);have ht:Sl (st++[some ⟨false,tabL 16⟩]) (some (st.length,0)) tabC:=ZlU st _;have hbs1:=hbs.mono hp;have ha1:=ha.mono hp;generalize (st++[some ⟨false,tabL 16⟩])=s1 at hp ht hbs1 ha1;obtain⟨i,o,rfl⟩:=hbs1.some_of (by simp);obtain⟨m,rfl⟩: ∃m,n=m+2:=⟨n-2,by omega⟩;rw[ZcS];simp only[J_i,D_nil];rw[show decide ((0:Int)<((1:Nat):Int))=true from rfl,cond_true,nn_some',Ze (by rfl),show(0:Int).toNat=0 from rfl,hbs1.get1 (j:=0) rfl];simp only[D_slice];have hr:=ZnZ h.q48 (m+2) 4294967295 st.length a l s1 ht ha1 (by decide) hl (by omega);rw[show(4294967295:Int)=((4294967295:Nat):Int)from rfl,Zi hr];simp only[J_i,D_nil];rw[ZcS];simp only[J_i,D_nil];rw[show decide (wr64 (0+1)<((1:Nat):Int))=false from rfl,cond_false];rw[xor32 (Zkh l (by decide)) (by decide),Zzw (Zkh l (by decide)),Zb];exact .mk ⟨s1,rfl,hp⟩
theorem Zvb {Bd:Za} (h:ZkO Bd) (n x:Nat) (bs a:Option (Nat×Nat)) (l:List UInt8) (st:St) (hbs:Sl st bs [.slice 1 a l.length]) (ha:Byt st a l) (hl:l.length<1000000) (hn:l.length+41≤n):
  Ok (fun o=>∃s',o=(.val [.bool (decide (crcF l=x))],s')∧Pre st s') (run Bd n 286 [.int .u32 x,.slice 1 bs 1] st):=by
 obtain⟨n,rfl⟩: ∃m,n=m+1:=⟨n-1,by omega⟩;rw[Zf,h.eq];unfold ZhJ;simp only[J_i,J_l,D_nil];refine Ok.call (Zws h.q134 n bs a l st hbs ha hl (by omega)) ?_;rintro _ ⟨s',rfl,hp⟩;refine⟨_,s',rfl,?_⟩;simp only[J_i,D_nil,Zb];refine .mk ⟨s',?_,hp⟩;congr 3;by_cases e:crcF l=x
 ·rw[decide_eq_true e,e];exact congrArg _ (beq_self_eq_true _)
 ·rw[decide_eq_false e];exact congrArg _ (beq_eq_false_iff_ne.2 (by omega))
end Go.Gv.F
namespace Go.Gv.F
open Go.Gv
variable {β:Type}
def FByt (s:St) (a:Option (Nat×Nat)) (l:List UInt8):Prop:=Fz s a (octs l)
theorem FByt.byt {s:St} {a:Option (Nat×Nat)} {l:List UInt8} (h:FByt s a l):Byt s a l:=h.1
theorem FByt.kp {s s':St} {a:Option (Nat×Nat)} {l:List UInt8} (h:FByt s a l) (k:Kp s s'):FByt s' a l:=Fz.kp h k
theorem FByt.pre {s s':St} {a:Option (Nat×Nat)} {l:List UInt8} (h:FByt s a l) (k:Pre s s'):FByt s' a l:=Fz.kp h k.kp
theorem FByt.cutA {s:St} {a:Option (Nat×Nat)} {l:List UInt8} (h:FByt s a l) {k:Nat} (hk:k≤l.length):FByt s (cutA true a k) (l.drop k):=by
 refine⟨h.byt.cutA hk,fun i o e=>?_⟩;cases a with
 |none=>cases e
 |some p=>cases e;exact h.2 _ _ rfl
def ZfB (l:List UInt8):Bool:=decide (l.length=64)&&(!(l.getD 4 0==0)&&(Zz ((l.drop 6).take 2)&&decide (crcF (l.drop 4)=leN (l.take 4))))
def openB (l:List UInt8):Option (Nat×Nat×List UInt8):=bif ZfB l then some ((l.getD 4 0).toNat,(l.getD 5 0).toNat,l.drop 8)else none
theorem getD_some {l:List UInt8} {j:Nat} {c:UInt8} (h:l[j]? =some c):l.getD j 0=c:=by rw[List.getD_eq_getElem?_getD,h];rfl
theorem oct0 (c:UInt8):(!((c.toNat:Int)==0))= !(c==0):=by
 by_cases h:c=0
 ·subst h;rfl
 ·rw[beq_eq_false_iff_ne.2 h,beq_eq_false_iff_ne.2]
  intro e;exact h (UInt8.toNat_inj.1 (by simpa using e))
theorem Zp8 {Bd:Za} (h:Zg5 Bd) (n:Nat) (a:Option (Nat×Nat)) (l:List UInt8) (st:St) (ha:Byt st a l) (hl:l.length<1000000) (hn:150≤n):
  Ok (fun o=>∃s',o=(.val [.bool (ZfB l)],s')∧Pre st s') (run Bd n 259 [.slice 1 a l.length] st):=by
 obtain⟨n,rfl⟩: ∃m,n=m+1:=⟨n-1,by omega⟩;rw[Zf,h.eq];unfold ZeO ZfB;simp only[J_l,D_nil,Zc];by_cases h64:l.length=64
 ·rw[show(((l.length:Nat):Int)==64)=true by rw[h64];rfl,cond_true,decide_eq_true h64,Bool.true_and]
  obtain⟨i,o,rfl⟩:=ha.some_of (by omega);obtain⟨c,hc⟩: ∃c,l[4]? =some c:=⟨_,List.getElem?_eq_getElem (by omega)⟩;rw[nn_some',Ze (show inB 4 l.length=true from Zl (i:=4) (by omega)),ha.get hc,getD_some hc];simp only[D_int,J_b,D_nil];rw[oct0];cases hz: !(c==0)with
  |false=>rw[cond_false];simp only[cond_false,Zb,Bool.false_and];exact .mk ⟨st,rfl,.refl st⟩
  |true=>
   rw[cond_true,Bool.true_and];have hno:=Zbf h.q39 n _ l 6 2 st ha hl (by omega) (by omega);rw[show(6:Int)=((6:Nat):Int)from rfl,show(2:Int)=((2:Nat):Int)from rfl,Zi hno];simp only[J_b,D_nil];cases Zz ((l.drop 6).take 2)with
   |false=>simp only[cond_false,Zb,Bool.false_and];exact .mk ⟨st,rfl,.refl st⟩
   |true=>
    rw[cond_true,Bool.true_and,Ze (decide_eq_true (by omega))];have ht4:(l.take 4).length=4:=by rw[List.length_take];omega
    have hr:=Z6 h.q94 n _ (l.take 4) st (ha.takes 4) (by omega) (by omega);rw[ht4]at hr;rw[ZcD hr (.refl st)];simp only[J_i,D_nil];rw[Ze (decide_eq_true (by omega)),Zu];have hp:=Pre.new st (some ⟨false,[DV.slice 1 (cutA true (some (i,o)) 4) (l.length-4)]⟩);have hs:=ZlU st [DV.slice 1 (cutA true (some (i,o)) 4) (l.length-4)];generalize (st++[some ⟨false,[DV.slice 1 (cutA true (some (i,o)) 4) (l.length-4)]⟩])=s1 at hp hs;have hlt:leN (l.take 4)<4294967296:=by have:=Zod (l.take 4);rw[ht4]at this;exact this
    rw[ZgX hlt];have hd4:(l.drop 4).length=l.length-4:=List.length_drop;rw[←hd4]at hs;refine Ok.call (Zvb h.q129 n (leN (l.take 4)) _ _ (l.drop 4) s1 hs ((ha.mono hp).cutA (by omega)) (by omega) (by omega)) ?_;rintro _ ⟨s2,rfl,hp2⟩;refine⟨_,s2,rfl,?_⟩;simp only[J_b,D_nil,Zb];exact .mk ⟨s2,rfl,hp.trans hp2⟩
 ·rw[show(((l.length:Nat):Int)==64)=false from beq_eq_false_iff_ne.2 (by omega),cond_false,decide_eq_false h64]
  simp only[J_b,D_nil,cond_false,Zb,Bool.false_and];exact .mk ⟨st,rfl,.refl st⟩
theorem ZpV {Bd:Za} (h:Zhr Bd) (n:Nat) (a:Option (Nat×Nat)) (l:List UInt8) (st:St) (ha:Byt st a l) (h0:0<l.length) (hl:l.length<1000000):
  Ok (fun o=>∃p s',o=(.val [.slice 1 p l.length],s')∧Pre st s'∧FByt s' p l) (run Bd (n+1) 260 [.slice 1 a l.length] st):=by
 rw[Zf,h.eq];unfold Zek;simp only[J_l,D_nil];rw[Zb6];obtain⟨i,o,rfl⟩:=ha.some_of h0;rw[show((some (i,o):Option (Nat×Nat)).isNone)=false from rfl,cond_false,Zu];have hp:=Pre.new st (some ⟨false,[]⟩);have ho:Own st (st++[some ⟨false,[]⟩]) (some (st.length,0)) []:=⟨hp,.inr ⟨st.length,rfl,Nat.le_refl _,by simp⟩⟩;have ha1:=ha.mono hp;generalize (st++[some ⟨false,[]⟩])=s1 at hp ho ha1;rw[Nat.mul_one,←Zt l,rd_eq ha1];obtain⟨p,s2,ho2,he⟩:=ho.app (β:=List DV) (sz:=1) (n:=0) (m:=l.length) (lim:=70368744177664) (ds:=octs l) (by omega) (by simp) h0 (by omega);rw[Zt,he,ZE];rw[List.nil_append]at ho2;exact .mk ⟨p,_,by rw[Nat.zero_add],ZL ho2.1,ho2.fz⟩
theorem ZbQ {Bd:Za} (h:Zbs Bd) (n:Nat) (a:Option (Nat×Nat)) (l:List UInt8) (st:St) (ha:Byt st a l) (hl:l.length<1000000) (hn:152≤n):
  Ok (fun o=>∃s',Pre st s'∧match openB l with
   |none=>o=(.val [.int .i64 0,.int .i64 0,.slice 0 none 0,.bool false],s')
   |some (k,t,b)=>∃p,o=(.val [.int .i64 (k:Nat),.int .i64 (t:Nat),.slice 1 p 56,.bool true],s')∧FByt s' p b∧b.length=56∧k<256∧t<256) (run Bd n 237 [.slice 1 a l.length] st):=by
 obtain⟨n,rfl⟩: ∃m,n=m+2:=⟨n-2,by omega⟩;rw[Zf,h.eq];unfold ZfC openB;simp only[J_l,D_nil];rw[Zb6];refine Ok.call (Zp8 h.q58 (n+1) a l st ha hl (by omega)) ?_;rintro _ ⟨s1,rfl,hp⟩;refine⟨_,s1,rfl,?_⟩;simp only[J_b,D_nil];cases hr:ZfB l with
 |false=>
  rw[Bool.not_false,cond_true,ZE];simp only[cond_false];exact .mk ⟨_,ZL hp,rfl⟩
 |true=>
  have h64:l.length=64:=by
   unfold ZfB at hr;rw[Bool.and_eq_true]at hr;exact of_decide_eq_true hr.1
  rw[Bool.not_true,cond_false];simp only[cond_true];have ha1:=ha.mono hp;obtain⟨i,o,rfl⟩:=ha1.some_of (by omega);obtain⟨c4,hc4⟩: ∃c,l[4]? =some c:=⟨_,List.getElem?_eq_getElem (by omega)⟩;obtain⟨c5,hc5⟩: ∃c,l[5]? =some c:=⟨_,List.getElem?_eq_getElem (by omega)⟩;rw[nn_some',Ze (show inB 4 l.length=true from Zl (i:=4) (by omega)),ha1.get hc4];simp only[D_int];rw[nn_some',Ze (show inB 5 l.length=true from Zl (i:=5) (by omega)),ha1.get hc5];simp only[D_int];rw[Ze (decide_eq_true (by omega))];have hb:=ha1.cutA (k:=8) (by omega);have hd:(l.drop 8).length=l.length-8:=List.length_drop;have hcl:=ZpV h.q59 n _ (l.drop 8) s1 hb (by omega) (by omega);rw[hd]at hcl;obtain⟨_,e,p,s2,rfl,hp2,hf⟩:=hcl;rw[ZcD e hp2];simp only[J_l,D_nil,ZE];have h4:=c4.toNat_lt;have h5:=c5.toNat_lt;rw[getD_some hc4,getD_some hc5,Zd (by omega) (by omega),Zd (by omega) (by omega)];refine .mk ⟨_,ZL (hp.trans hp2),p,?_,hf.kp (ZzY _ _),by omega,h4,h5⟩;rw[h64]
end Go.Gv.F
namespace Go.Gv.F
open Go.Gv
variable {β:Type}
structure NodeV where
 ent:EntV
 kids:List Int
def nodeC (x:NodeV) (z:Nat) (p:Option (Nat×Nat)):List DV:=entC x.ent++[.slice z p x.kids.length]
def numI (l:List UInt8) (at' k:Nat):Int:=wr64 ((rd l at' k:Nat):Int)
def kidF (k:Int):Bool:=decide (k<2)||decide (k≥3072)
def Zej (x:NodeV):Bool:= !(decide (x.ent.slot<0)||(decide (x.ent.slot≥1792)||(decide (x.ent.gen<1)||(decide (x.ent.gen>4294967295)||decide ((x.kids.length:Int)>12)))))&& !x.kids.any kidF
def ZdC (b:List UInt8) (t:Nat):List Int:=(List.range t).map fun j=>numI b (24+2*j) 2
theorem Zfb (b:List UInt8) (t:Nat):(ZdC b t).length=t:=by unfold ZdC;simp
theorem ZuI (b:List UInt8) (t:Nat):ZdC b (t+1)=ZdC b t++[numI b (24+2*t) 2]:=by unfold ZdC;rw[List.range_succ,List.map_append];rfl
def ZjO (b:List UInt8) (t:Nat):NodeV:=⟨⟨numI b 16 4,numI b 20 4,numI b 0 8,numI b 8 8⟩,ZdC b t⟩
def getN (l:List UInt8):Option NodeV:=match openB l with
 |none=>none
 |some (k,t,b)=>bif decide (k=1)&&decide (t≤12)then(bif Zej (ZjO b t)&&Zz (b.drop (24+2*t))then some (ZjO b t)else none)else none
theorem ZcO {Bd:Za} (h:Zg4 Bd) (n:Nat) (a:Option (Nat×Nat)) (l:List UInt8) (at' k:Nat) (I K:Int) (hI:I=at') (hK:K=k) (st:St) (ha:Byt st a l) (hl:l.length<1000000) (h1:1≤k) (h8:k≤8) (hk:at'+k≤l.length) (hn:21≤n):
  run Bd n 295 [.slice 1 a l.length,.int .i64 I,.int .i64 K] st=some (.val [.int .i64 (numI l at' k)],st):=by
 subst hI hK;obtain⟨n,rfl⟩: ∃m,n=m+1:=⟨n-1,by omega⟩;rw[Zf,h.eq];unfold Zex;simp only[J_l,J_i,D_nil];rw[Zi (Zue h.q112 n a l at' k st ha hl h1 h8 hk (by omega))];simp only[J_i,J_b,D_nil,Zb];rfl
theorem Zpq {Bd:Za} (h:Zf6 Bd) (n:Nat) (k:Int) (st:St):run Bd (n+1) 313 [.int .i64 k] st=some (.val [.bool (kidF k)],st):=by
 rw[Zf,h.eq];unfold Zd6 kidF;simp only[J_i,D_nil,Zc,J_b];cases decide (k<2)<;>simp only[cond_true,cond_false,Zb,Bool.true_or,Bool.false_or]
theorem Zry {Bd:Za} (h:ZiG Bd) (n:Nat) (x:NodeV) (p:Option (Nat×Nat)) (st:St) (hs:Sl st p (ints x.kids)) (hl:x.kids.length<1000000) (hn:x.kids.length+20≤n):
  run Bd n 296 [.agg (nodeC x 1 p)] st=some (.val [.bool (Zej x)],st):=by
 obtain⟨n,rfl⟩: ∃m,n=m+1:=⟨n-1,by omega⟩;rw[Zf,h.eq];have hci:=Zql h.q1 n 1 313 [] [] x.kids p st kidF (.inl rfl) hs (by omega) hl (fun v _=>by
  obtain⟨m,hm⟩: ∃m,n-2=m+1:=⟨n-3,by omega⟩;rw[hm];exact Zpq h.q53 m v st)
 unfold Zfz nodeC entC Zej;simp only[List.cons_append,List.nil_append,J_a,J_i,J_l,D_nil,Zc];cases decide (x.ent.slot<0)with
 |true=>simp only[cond_true,J_b,D_nil,Zb,Bool.true_or,Bool.not_true,Bool.false_and]
 |false=>
 cases decide (x.ent.slot≥1792)with
 |true=>simp only[cond_true,cond_false,J_b,D_nil,Zb,Bool.true_or,Bool.false_or,Bool.not_true,Bool.false_and]
 |false=>
 cases decide (x.ent.gen<1)with
 |true=>simp only[cond_true,cond_false,J_b,D_nil,Zb,Bool.true_or,Bool.false_or,Bool.not_true,Bool.false_and]
 |false=>
 cases decide (x.ent.gen>4294967295)with
 |true=>simp only[cond_true,cond_false,J_b,D_nil,Zb,Bool.true_or,Bool.false_or,Bool.not_true,Bool.false_and]
 |false=>
 cases decide ((x.kids.length:Int)>12)with
 |true=>simp only[cond_true,cond_false,J_b,D_nil,Zb,Bool.false_or,Bool.not_true,Bool.false_and]
 |false=>
  simp only[cond_false,J_b,D_nil,Bool.false_or,Bool.not_false,Bool.true_and];rw[Zi hci];simp only[J_b,D_nil,Zb]
theorem Zlq {l:List UInt8} {x:NodeV} (h:getN l=some x):Zej x=true∧x.kids.length≤12:=by
 unfold getN at h;split at h
 ·cases h
 ·rename_i k t b _
  cases e:(decide (k=1)&&decide (t≤12))with
  |false=>rw[e]at h;cases h
  |true=>
   rw[e]at h;cases e2:(Zej (ZjO b t)&&Zz (b.drop (24+2*t)))with
   |false=>rw[e2]at h;cases h
   |true=>
    rw[e2]at h;cases h;rw[Bool.and_eq_true]at e e2;refine⟨e2.1,?_⟩;show(ZdC b t).length≤12;rw[Zfb];exact of_decide_eq_true e.2
theorem Zve {Bd:Za} (h:Zkl Bd) (n:Nat) (a:Option (Nat×Nat)) (l:List UInt8) (st:St) (ha:Byt st a l) (hl:l.length<1000000) (hn:160≤n):
  Ok (fun o=>∃s',Pre st s'∧match getN l with
   |none=>o=(.val [.agg [.int .i64 0,.int .i64 0,.int .i64 0,.int .i64 0,.slice 0 none 0],.bool false],s')
   |some x=>∃p,o=(.val [.agg (nodeC x 1 p),.bool true],s')∧Fz s' p (ints x.kids)) (run Bd n 272 [.slice 1 a l.length] st):=by
 obtain⟨n,rfl⟩: ∃m,n=m+1:=⟨n-1,by omega⟩;rw[Zf,h.eq];unfold ZhE getN;simp only[J_l,D_nil,Zc];rw[Zb6];refine Ok.call (ZbQ h.q84 n a l st ha hl (by omega)) ?_;rintro _ ⟨s1,hp1,ho⟩;cases hop:openB l with
 |none=>
  rw[hop]at ho;subst ho;refine⟨_,s1,rfl,?_⟩;simp only[J_i,J_b,D_nil,Zm 1 0 none _ (.inr rfl)];rw[Bool.not_false,cond_true];simp only[cond_true];rw[ZE];exact .mk ⟨_,ZL hp1,rfl⟩
 |some q=>
  obtain⟨k,t,b⟩:=q;rw[hop]at ho;obtain⟨p1,rfl,hf,hb,hk,ht⟩:=ho;refine⟨_,s1,rfl,?_⟩;simp only[J_i,J_b,J_l,D_nil];rw[Bool.not_true,cond_false];have e1:(((k:Nat):Int)==1)=decide (k=1):=by
   by_cases hk1:k=1
   ·subst hk1;rfl
   ·rw[decide_eq_false hk1];exact beq_eq_false_iff_ne.2 (by omega)
  rw[e1];cases hk1:decide (k=1)with
  |false=>
   rw[Bool.not_false];simp only[cond_true,Bool.false_and,cond_false];rw[ZE];exact .mk ⟨_,ZL hp1,rfl⟩
  |true=>
  rw[Bool.not_true];simp only[cond_false,Bool.true_and];by_cases ht2:t≤12
  ·rw[decide_eq_false (show ¬((t:Nat):Int)>12 by omega),decide_eq_true ht2]
   simp only[cond_false,cond_true];have hb':=hf.byt;rw[show(56:Nat)=b.length from hb.symm];rw[Zi (ZcO h.q67 n p1 b 16 4 16 4 rfl rfl s1 hb' (by omega) (by omega) (by omega) (by omega) (by omega))];simp only[J_i,D_nil];rw[Zi (ZcO h.q67 n p1 b 20 4 20 4 rfl rfl s1 hb' (by omega) (by omega) (by omega) (by omega) (by omega))];simp only[J_i,D_nil];rw[Zi (ZcO h.q67 n p1 b 0 8 0 8 rfl rfl s1 hb' (by omega) (by omega) (by omega) (by omega) (by omega))];simp only[J_i,D_nil];rw[Zi (ZcO h.q67 n p1 b 8 8 8 8 rfl rfl s1 hb' (by omega) (by omega) (by omega) (by omega) (by omega))];simp only[J_i,D_nil];refine Zk _ (fun q y s=>∃(i z:Nat) (p:Option (Nat×Nat)),y=[.agg [.int .i64 (numI b 16 4),.int .i64 (numI b 20 4),.int .i64 (numI b 0 8),.int .i64 (numI b 8 8),.slice z p i],.int .i64 i]∧(z=1∨p=none)∧i≤t∧t-i≤q∧Own st s p (ints (ZdC b i))∧FByt s p1 b) ?_ t n _ _ ⟨0,0,none,rfl,.inr rfl,Nat.zero_le _,by omega,Own.nil hp1,hf⟩ (by omega);rintro q _ s ⟨i,z,p,rfl,hz,hi,hq,ho,hfb⟩ rec hrec;simp only[J_a,J_i,Zm 1 z p _ hz,D_nil];by_cases hlt:i<t
   ·rw[decide_eq_true (show(i:Int)<(t:Int) by omega),cond_true,Zd (x:=2*(i:Int)) (by omega) (by omega),Zd (by omega) (by omega),show(24+2*(i:Int))=((24+2*i:Nat):Int) by omega]
    rw[ZiE (ZcO h.q67 n p1 b (24+2*i) 2 _ 2 rfl rfl s hfb.byt (by omega) (by omega) (by omega) (by omega) (by omega))];simp only[J_i,D_nil];obtain⟨p2,s2,ho2,hkp,he⟩:=ho.push2 (β:=List DV) (sz:=1) (n:=i) (lim:=8796093022208) [.int .i64 (numI b (24+2*i) 2)] (Nat.succ_pos 0) (by simp[ints,Zfb]) rfl (by omega);rw[he,Zd (by omega) (by omega)];refine hrec (t-(i+1)) _ _ (by omega) ⟨i+1,1,p2,by simp,.inl rfl,by omega,Nat.le_refl _,?_,hfb.kp hkp⟩;rw[ZuI];show Own st s2 p2 (List.map _ _);rw[List.map_append];exact ho2
   ·rw[decide_eq_false (show ¬(i:Int)<(t:Int) by omega),cond_false]
    have hit:i=t:=by omega
    subst hit;have hr:=Zry h.q93 n (ZjO b i) p s ho.sl (by show(ZdC b i).length<_;rw[Zfb];omega) (by show(ZdC b i).length+_≤_;rw[Zfb];omega);have hc:nodeC (ZjO b i) 1 p=[.int .i64 (numI b 16 4),.int .i64 (numI b 20 4),.int .i64 (numI b 0 8),.int .i64 (numI b 8 8),.slice 1 p i]:=by
     show entC _++[DV.slice 1 p (ZdC b i).length]=_;rw[Zfb];rfl
    simp only[J_l,D_nil];rw[←hc,Zi hr];simp only[J_b,D_nil];cases hrn:Zej (ZjO b i)with
    |false=>
     rw[Bool.not_false,cond_true];simp only[Bool.false_and,cond_false];rw[ZE];exact .mk ⟨_,ZL ho.1,rfl⟩
    |true=>
     rw[Bool.not_true,cond_false,Zd (x:=2*(i:Int)) (by omega) (by omega),Zd (x:=24+2*(i:Int)) (by omega) (by omega),Zd (by omega) (by omega)];rw[show(24+2*(i:Int))=((24+2*i:Nat):Int) by omega,show((b.length:Nat):Int)-((24+2*i:Nat):Int)=((b.length-(24+2*i):Nat):Int) by omega];rw[Zi (Zbf h.q39 n p1 b (24+2*i) (b.length-(24+2*i)) s hfb.byt (by omega) (by omega) (by omega))];rw[List.take_of_length_le (by rw[List.length_drop];exact Nat.le_refl _)];simp only[J_b,D_nil,Bool.true_and];cases Zz (b.drop (24+2*i))with
     |false=>
      simp only[Bool.not_false,cond_true,cond_false];rw[ZE];exact .mk ⟨_,ZL ho.1,rfl⟩
     |true=>
      simp only[Bool.not_true,cond_true,cond_false];rw[ZE];exact .mk ⟨_,ZL ho.1,p,rfl,ho.fz⟩
  ·rw[decide_eq_true (show((t:Nat):Int)>12 by omega),decide_eq_false ht2]
   simp only[cond_false,cond_true];rw[ZE];exact .mk ⟨_,ZL hp1,rfl⟩
end Go.Gv.F
namespace Go.Gv.F
open Go.Gv
variable {β:Type}
theorem Zuo: ∀(B D C:List DV),B.length=D.length→ov (B++C) D=D++C
 |[],[],C,_=>by simp[ZxI]
 |b::B,d::D,C,h=>by show d::ov (B++C) D=_;rw[Zuo B D C (by simpa using h)];rfl
 |[],_::_,_,h=>by cases h
 |_::_,[],_,h=>by cases h
theorem ZcN: ∀(A B C D:List DV),B.length=D.length→spl (A++(B++C)) A.length D=A++(D++C)
 |[],B,C,D,h=>by
  show spl (B++C) 0 D=D++C;rw[←Zuo B D C h];cases B++C<;>rfl
 |a::A,B,C,D,h=>by show a::spl (A++(B++C)) A.length D=_;rw[ZcN A B C D h];rfl
def bitF (t j:Nat):Bool:=decide (t/2^j%2=1)
theorem Zxd {t j:Nat} (ht:t<9223372036854775808) (hj:j≤63):bits .and .i64 ((t:Int).fdiv (2^(min j 64))) 1=((t/2^j%2:Nat):Int):=by
 rw[Nat.min_eq_left (by omega),show((2:Int)^j)=((2^j:Nat):Int) by push_cast;rfl,Zf0];have h1:t/2^j<9223372036854775808:=Nat.lt_of_le_of_lt (Nat.div_le_self _ _) ht;show IntKind.wrap .i64 ((BitVec.ofInt 64 ((t/2^j:Nat):Int)&&& BitVec.ofInt 64 (1:Int)).toNat:Int)=_;rw[BitVec.toNat_and,bv64 (by omega),show(BitVec.ofInt 64 (1:Int)).toNat=1 from rfl,Nat.and_one_is_mod];exact Zd (by omega) (by omega)
theorem Zvz {t j:Nat} (ht:t<9223372036854775808) (hj:j≤63):(bits .and .i64 ((t:Int).fdiv (2^(min j 64))) 1==1)=bitF t j:=by
 rw[Zxd ht hj];unfold bitF;by_cases h:t/2^j%2=1
 ·rw[h];rfl
 ·rw[decide_eq_false h];exact beq_eq_false_iff_ne.2 (by omega)
theorem Zya {t j:Nat} (ht:t<9223372036854775808) (hj:j≤63):(bits .and .i64 ((t:Int).fdiv (2^(min j 64))) 1==0)= !bitF t j:=by
 rw[Zxd ht hj];unfold bitF;by_cases h:t/2^j%2=1
 ·rw[h];rfl
 ·rw[decide_eq_false h,show t/2^j%2=0 by omega];rfl
structure SeatV where
 live:Bool
 gen:Int
 block:Int
def seatC (x:SeatV):List DV:=[.bool x.live,.int .i64 x.gen,.int .i64 x.block]
def leafC (l:List SeatV):List DV:=(l.map seatC).flatten
theorem ZN (l:List SeatV):(leafC l).length=l.length*3:=by
 unfold leafC;induction l with
 |nil=>rfl
 |cons e l ih=>rw[List.map_cons,List.flatten_cons,List.length_append,ih,List.length_cons];show 3+_=_;omega
theorem Zrh (l m:List SeatV):leafC (l++m)=leafC l++leafC m:=by unfold leafC;rw[List.map_append,List.flatten_append]
def seat0:SeatV:=⟨false,0,0⟩
def leaf0:List SeatV:=List.replicate 7 seat0
def ZbG (v f t:Int):Bool:=bif decide (v≥f)then decide (v≤t)else false
def ZW (x:SeatV):Bool:=bif x.live then ZbG x.gen 1 4294967295&&ZbG x.block 2 3071 else ZbG x.gen 0 4294967295&&(ZbG x.block 0 1792&&(decide (x.gen>0)||x.block==0))
def ZgW (b:List UInt8) (t j:Nat):SeatV:=⟨bitF t j,numI b (8*j) 4,numI b (8*j+4) 4⟩
def ZbI (b:List UInt8) (t n:Nat):List SeatV:=(List.range n).map (ZgW b t)
theorem Zky (b:List UInt8) (t n:Nat):(ZbI b t n).length=n:=by unfold ZbI;simp
theorem Zne (b:List UInt8) (t n:Nat):ZbI b t (n+1)=ZbI b t n++[ZgW b t n]:=by unfold ZbI;rw[List.range_succ,List.map_append];rfl
def Ze5 (l:List UInt8):Option (List SeatV):=match openB l with
 |none=>none
 |some (k,t,b)=>bif decide (k=2)&&decide (t<128)then(bif (ZbI b t 7).all ZW then some (ZbI b t 7)else none)else none
theorem ZcL {Bd:Za} (h:ZeE Bd) (n:Nat) (v f t:Int) (st:St):run Bd (n+1) 314 [.int .i64 v,.int .i64 f,.int .i64 t] st=some (.val [.bool (ZbG v f t)],st):=by
 rw[Zf,h.eq];unfold ZeJ ZbG;simp only[J_i,D_nil,Zc,J_b];cases decide (v≥f)<;>rfl
theorem ZmN {Bd:Za} (h:ZeW Bd) (n:Nat) (x:SeatV) (st:St):run Bd (n+2) 297 [.agg (seatC x)] st=some (.val [.bool (ZW x)],st):=by
 rw[Zf,h.eq];unfold Zc4 seatC ZW;simp only[J_a,J_i,J_b,D_nil,Zc];cases x.live with
 |true=>
  rw[cond_true,cond_true,Zi (ZcL h.q71 n _ _ _ st)];simp only[J_b,D_nil];cases ZbG x.gen 1 4294967295 with
  |false=>rfl
  |true=>
   rw[cond_true,Zi (ZcL h.q71 n _ _ _ st)];rfl
 |false=>
  rw[cond_false,cond_false,Zi (ZcL h.q71 n _ _ _ st)];simp only[J_b,D_nil];cases ZbG x.gen 0 4294967295 with
  |false=>rfl
  |true=>
   rw[cond_true,Zi (ZcL h.q71 n _ _ _ st)];simp only[J_b,D_nil,Bool.true_and];cases ZbG x.block 0 1792 with
   |false=>rfl
   |true=>
    cases decide (x.gen>0)<;>rfl
theorem ZgT (k c:Nat) (C:Int) (hC:C=c):(((k:Nat):Int)==C)=decide (k=c):=by
 subst hC;by_cases h:k=c
 ·subst h;rw[decide_eq_true rfl];exact beq_self_eq_true _
 ·rw[decide_eq_false h];exact beq_eq_false_iff_ne.2 (by omega)
theorem Zpa {Bd:Za} (h:Zgc Bd) (n:Nat) (a:Option (Nat×Nat)) (l:List UInt8) (st:St) (ha:Byt st a l) (hl:l.length<1000000) (hn:160≤n):
  Ok (fun o=>∃s',Pre st s'∧match Ze5 l with
   |none=>o=(.val [.agg (leafC leaf0),.bool false],s')
   |some x=>o=(.val [.agg (leafC x),.bool true],s')) (run Bd n 273 [.slice 1 a l.length] st):=by
 obtain⟨n,rfl⟩: ∃m,n=m+1:=⟨n-1,by omega⟩;rw[Zf,h.eq];unfold ZdX Ze5;simp only[J_l,D_nil,Zc];refine Ok.call (ZbQ h.q84 n a l st ha hl (by omega)) ?_;rintro _ ⟨s1,hp1,ho⟩;cases hop:openB l with
 |none=>
  rw[hop]at ho;subst ho;refine⟨_,s1,rfl,?_⟩;simp only[J_i,J_b,D_nil,Zm 1 0 none _ (.inr rfl)];rw[Bool.not_false,cond_true];simp only[cond_true,Zb];exact .mk ⟨_,hp1,rfl⟩
 |some q=>
  obtain⟨k,t,b⟩:=q;rw[hop]at ho;obtain⟨p1,rfl,hf,hb,hk,ht⟩:=ho;refine⟨_,s1,rfl,?_⟩;simp only[J_i,J_b,J_l,D_nil];rw[Bool.not_true,cond_false,ZgT k 2 2 rfl];cases hk1:decide (k=2)with
  |false=>
   rw[Bool.not_false];simp only[cond_true,Bool.false_and,cond_false,Zb];exact .mk ⟨_,hp1,rfl⟩
  |true=>
  rw[Bool.not_true];simp only[cond_false,Bool.true_and];by_cases ht2:t<128
  ·rw[decide_eq_false (show ¬((t:Nat):Int)≥128 by omega),decide_eq_true ht2]
   simp only[cond_false,cond_true];have hb':=hf.byt;refine Zk _ (fun q y s=>∃i:Nat,y=[.agg (leafC leaf0),.agg (leafC (ZbI b t i)++leafC (List.replicate (7-i) seat0)),.int .i64 i]∧i≤7∧7-i≤q∧s=s1∧(ZbI b t i).all ZW=true) ?_ 7 n _ _ ⟨0,rfl,by omega,by omega,rfl,rfl⟩ (by omega);rintro q _ s ⟨i,rfl,hi,hq,rfl,hall⟩ rec hrec;have hlen:(leafC (ZbI b t i)++leafC (List.replicate (7-i) seat0)).length=21:=by
    rw[List.length_append,ZN,ZN,Zky,List.length_replicate];omega
   simp only[J_a,J_i,D_nil];rw[D_len (cs:=leafC leaf0) (n:=21) rfl,D_len hlen];by_cases hlt:i<7
   ·have hw1:wr64 ((i:Int)+1)=((i+1:Nat):Int):=Zd (by omega) (by omega)
    have hw2:wr64 (8*((i+1:Nat):Int))=((8*(i+1):Nat):Int):=Zd (by omega) (by omega);have hw3:wr64 (8*(i:Int))=((8*i:Nat):Int):=Zd (by omega) (by omega);simp only[hw1,hw2,hw3,Int.toNat_natCast,Nat.mul_one];rw[decide_eq_true (show(i:Int)<7 by omega),cond_true];rw[Ze (by rw[Bool.and_eq_true,decide_eq_true_iff,decide_eq_true_iff];omega),Ze (by rw[Bool.and_eq_true,decide_eq_true_iff,decide_eq_true_iff];omega),Ze (decide_eq_true (by omega)),Ze (decide_eq_true (by omega))];have hc1:=hb'.cutA (k:=8*i) (by omega);have hd1:(b.drop (8*i)).length=56-8*i:=by rw[List.length_drop,hb]
    have ht1:((b.drop (8*i)).take 4).length=4:=by rw[List.length_take];omega
    have hr1:=Z6 h.q94 n _ ((b.drop (8*i)).take 4) s (hc1.takes 4) (by omega) (by omega);rw[ht1]at hr1;rw[ZcD hr1 (.refl s)];simp only[J_i,D_nil];rw[Ze (decide_eq_true (by omega)),show 8*(i+1)-8*i-4=4 by omega];have hc2:=hc1.cutA (k:=4) (by omega);have ht3:(((b.drop (8*i)).drop 4).take 4).length=4:=by rw[List.length_take,List.length_drop];omega
    have hr2:=Z6 h.q94 n _ (((b.drop (8*i)).drop 4).take 4) s (hc2.takes 4) (by omega) (by omega);rw[ht3]at hr2;rw[ZcD hr2 (.refl s)];simp only[J_i,D_nil];rw[List.drop_drop,Zvz (by omega) (by omega)];obtain⟨n,rfl⟩: ∃m,n=m+2:=⟨n-2,by omega⟩;have hrs:=ZmN h.q34 n (ZgW b t i) s;have hsc:seatC (ZgW b t i)=[.bool (bitF t i),.int .i64 (wr64 ((leN ((b.drop (8*i)).take 4):Nat):Int)),.int .i64 (wr64 ((leN ((b.drop (8*i+4)).take 4):Nat):Int))]:=rfl;rw[←hsc,Zi hrs];simp only[J_b,D_nil];cases hrt:ZW (ZgW b t i)with
    |false=>
     rw[Bool.not_false,cond_true];have:(ZbI b t 7).all ZW=false:=List.all_eq_false.2 ⟨ZgW b t i,List.mem_map.2 ⟨i,List.mem_range.2 hlt,rfl⟩,by rw[hrt];decide⟩;rw[this,cond_false,Zb];exact .mk ⟨s,hp1,rfl⟩
    |true=>
     rw[Bool.not_true,cond_false,Ze (show inB (i:Int) 7=true from Zl hlt),Ze (Nat.ble_eq_true_of_le (by omega))];refine hrec (7-(i+1)) _ _ (by omega) ⟨i+1,?_,by omega,Nat.le_refl _,rfl,?_⟩
     ·congr 3
      rw[Zne,Zrh,show List.replicate (7-i) seat0=seat0::List.replicate (7-(i+1)) seat0 by rw[show 7-i=(7-(i+1))+1 by omega];rfl];show spl (leafC (ZbI b t i)++(seatC seat0++leafC (List.replicate (7-(i+1)) seat0))) (i*3) (seatC (ZgW b t i))=_;have e3:i*3=(leafC (ZbI b t i)).length:=by rw[ZN,Zky]
      rw[e3,ZcN (leafC (ZbI b t i)) (seatC seat0) (leafC (List.replicate (7-(i+1)) seat0)) (seatC (ZgW b t i)) rfl,List.append_assoc];rfl
     ·rw[Zne,List.all_append,hall]
      simp[hrt]
   ·rw[decide_eq_false (show ¬(i:Int)<7 by omega),cond_false]
    have hi7:i=7:=by omega
    subst hi7;rw[D_len (cs:=leafC leaf0) (n:=21) rfl,D_len hlen,D_len hlen,hall,cond_true,Zb];refine .mk ⟨s,hp1,?_⟩;show _=(Out.val [DV.agg (leafC (ZbI b t 7)),_],s);rw[show leafC (List.replicate (7-7) seat0)=[]from rfl,List.append_nil]
  ·rw[decide_eq_true (show((t:Nat):Int)≥128 by omega),decide_eq_false ht2]
   simp only[cond_false,cond_true,Zb];exact .mk ⟨_,hp1,rfl⟩
def Zib (l:List Int):Bool:=l.all fun v=>v==0||ZbG v 2 3071
def fanOf (b:List UInt8) (n:Nat):List Int:=(List.range n).map fun j=>numI b (2*j) 2
theorem ZbH (b:List UInt8) (n:Nat):(fanOf b n).length=n:=by unfold fanOf;simp
theorem Zou (b:List UInt8) (n:Nat):fanOf b (n+1)=fanOf b n++[numI b (2*n) 2]:=by unfold fanOf;rw[List.range_succ,List.map_append];rfl
def ZjR (l:List UInt8):Option (List Int):=match openB l with
 |none=>none
 |some (k,t,b)=>bif decide (k=3)&&(decide (t=0)&&Zz (b.drop 32))then(bif Zib (fanOf b 16)then some (fanOf b 16)else none)else none
theorem Zw {l:List Int} {j:Nat} (h:j<l.length):(ints l)[j]? =some (.int .i64 l[j]):=by simp[ints,h]
theorem D_nth {cs:List DV} {i:Nat} {d:DV} (h:cs[i]? =some d) (K:DV→M β):D.nth cs i K=K d:=by unfold D.nth;rw[h]
theorem Zno {Bd:Za} (h:Zfc Bd) (n:Nat) (l:List Int) (st:St) (hl:l.length=16) (hn:22≤n):run Bd n 298 [.agg (ints l)] st=some (.val [.bool (Zib l)],st):=by
 obtain⟨n,rfl⟩: ∃m,n=m+2:=⟨n-2,by omega⟩;rw[Zf,h.eq];unfold Zdt Zib;have hlen:(ints l).length=16:=by simp[ints,hl]
 simp only[J_a,D_nil,Zc];rw[D_len hlen,D_len hlen];refine ok_eq ?_;refine Zk _ (fun q y s=>∃i:Nat,y=[.int .i64 i]∧i≤16∧16-i≤q∧s=st∧(l.take i).all (fun v=>v==0||ZbG v 2 3071)=true) ?_ 16 (n+1) _ _ ⟨0,rfl,by omega,by omega,rfl,rfl⟩ (by omega);rintro q _ s ⟨i,rfl,hi,hq,rfl,hall⟩ rec hrec;simp only[J_i,D_nil];by_cases hlt:i<16
 ·rw[decide_eq_true (show(i:Int)<16 by omega),cond_true,Ze (show inB (i:Int) 16=true from Zl hlt),Int.toNat_natCast,Nat.mul_one,D_nth (Zw (by omega))]
  simp only[D_int];have hw:wr64 ((i:Int)+1)=((i+1:Nat):Int):=Zd (by omega) (by omega);have hgo:(l[i]==0||ZbG l[i] 2 3071)=true→Ok (fun p=>p=(Out.val [DV.bool (l.all fun v=>v==0||ZbG v 2 3071)],s)) (rec [.int .i64 (wr64 ((i:Int)+1))] s):=fun e=>by
   rw[hw];refine hrec (16-(i+1)) _ _ (by omega) ⟨i+1,rfl,by omega,Nat.le_refl _,rfl,?_⟩;rw[List.take_succ_eq_append_getElem (by omega),List.all_append,hall];simpa using e
  have hno:(l[i]==0||ZbG l[i] 2 3071)=false→(l.all fun v=>v==0||ZbG v 2 3071)=false:=fun e=>List.all_eq_false.2 ⟨l[i],List.getElem_mem _,by rw[e];decide⟩
  cases h0:(l[i]==0)with
  |true=>
   rw[Bool.not_true,cond_false];simp only[J_b,D_nil,cond_false];exact hgo (by rw[h0];rfl)
  |false=>
   rw[Bool.not_false,cond_true,Zi (ZcL h.q71 n _ _ _ s)];simp only[J_b,D_nil];cases hw2:ZbG l[i] 2 3071 with
   |true=>
    rw[Bool.not_true,cond_false];exact hgo (by rw[h0,hw2];rfl)
   |false=>
    rw[Bool.not_false,cond_true,Zb,hno (by rw[h0,hw2];rfl)];exact .mk rfl
 ·rw[decide_eq_false (show ¬(i:Int)<16 by omega),cond_false,Zb]
  rw[List.take_of_length_le (by omega)]at hall;rw[hall];exact .mk rfl
theorem ZpP {Bd:Za} (h:Zhm Bd) (n:Nat) (a:Option (Nat×Nat)) (l:List UInt8) (st:St) (ha:Byt st a l) (hl:l.length<1000000) (hn:160≤n):
  Ok (fun o=>∃s',Pre st s'∧match ZjR l with
   |none=>o=(.val [.agg (ints (List.replicate 16 0)),.bool false],s')
   |some x=>o=(.val [.agg (ints x),.bool true],s')∧x.length=16) (run Bd n 274 [.slice 1 a l.length] st):=by
 obtain⟨n,rfl⟩: ∃m,n=m+1:=⟨n-1,by omega⟩;rw[Zf,h.eq];unfold ZeN ZjR;simp only[J_l,D_nil,Zc];refine Ok.call (ZbQ h.q84 n a l st ha hl (by omega)) ?_;rintro _ ⟨s1,hp1,ho⟩;cases hop:openB l with
 |none=>
  rw[hop]at ho;subst ho;refine⟨_,s1,rfl,?_⟩;simp only[J_i,J_b,D_nil,Zm 1 0 none _ (.inr rfl)];rw[Bool.not_false,cond_true];simp only[cond_true,Zb];exact .mk ⟨_,hp1,rfl⟩
 |some q=>
  obtain⟨k,t,b⟩:=q;rw[hop]at ho;obtain⟨p1,rfl,hf,hb,hk,ht⟩:=ho;refine⟨_,s1,rfl,?_⟩;simp only[J_i,J_b,J_l,D_nil];rw[Bool.not_true,cond_false,ZgT k 3 3 rfl,ZgT t 0 0 rfl];cases hk1:decide (k=3)with
  |false=>
   rw[Bool.not_false];simp only[cond_true,Bool.false_and,cond_false,Zb];exact .mk ⟨_,hp1,rfl⟩
  |true=>
  rw[Bool.not_true];simp only[cond_false,Bool.true_and];cases ht1:decide (t=0)with
  |false=>
   rw[Bool.not_false];simp only[cond_true,Bool.false_and,cond_false,Zb];exact .mk ⟨_,hp1,rfl⟩
  |true=>
  rw[Bool.not_true];simp only[cond_false,Bool.true_and];have hb':=hf.byt;have hno:=Zbf h.q39 n p1 b 32 24 s1 hb' (by omega) (by omega) (by omega);rw[hb,List.take_of_length_le (by rw[List.length_drop];omega)]at hno;rw[show wr64 (((56:Nat):Int)-32)=((24:Nat):Int) by decide,show(32:Int)=((32:Nat):Int)from rfl,Zi hno];simp only[J_b,D_nil];cases Zz (b.drop 32)with
  |false=>
   simp only[Bool.not_false,cond_true,cond_false,Zb];exact .mk ⟨_,hp1,rfl⟩
  |true=>
   rw[Bool.not_true];simp only[cond_true,cond_false];refine Zk _ (fun q y s=>∃i:Nat,y=[.agg (ints (fanOf b i)++ints (List.replicate (16-i) 0)),.int .i64 i]∧i≤16∧16-i≤q∧s=s1) ?_ 16 n _ _ ⟨0,rfl,by omega,by omega,rfl⟩ (by omega);rintro q _ s ⟨i,rfl,hi,hq,rfl⟩ rec hrec;have hlen:(ints (fanOf b i)++ints (List.replicate (16-i) 0)).length=16:=by
    simp[ints,ZbH];omega
   simp only[J_a,J_i,D_nil];rw[D_len hlen];by_cases hlt:i<16
   ·have hw1:wr64 ((i:Int)+1)=((i+1:Nat):Int):=Zd (by omega) (by omega)
    have hw2:wr64 (2*((i+1:Nat):Int))=((2*(i+1):Nat):Int):=Zd (by omega) (by omega);have hw3:wr64 (2*(i:Int))=((2*i:Nat):Int):=Zd (by omega) (by omega);simp only[hw1,hw2,hw3,Int.toNat_natCast,Nat.mul_one];rw[decide_eq_true (show(i:Int)<16 by omega),cond_true];rw[Ze (by rw[Bool.and_eq_true,decide_eq_true_iff,decide_eq_true_iff];omega),Ze (by rw[Bool.and_eq_true,decide_eq_true_iff,decide_eq_true_iff];omega)];have hc1:=hb'.cutA (k:=2*i) (by omega);have hd1:((b.drop (2*i)).take 2).length=2:=by rw[List.length_take,List.length_drop];omega
    have hr1:=Z6 h.q94 n _ ((b.drop (2*i)).take 2) s (hc1.takes 2) (by omega) (by omega);rw[hd1]at hr1;rw[show 2*(i+1)-2*i=2 by omega,Zi hr1];simp only[J_i,D_nil];rw[Ze (show inB (i:Int) 16=true from Zl hlt),Ze (Nat.ble_eq_true_of_le (by omega))];refine hrec (16-(i+1)) _ _ (by omega) ⟨i+1,?_,by omega,Nat.le_refl _,rfl⟩;congr 2;rw[Zou,show List.replicate (16-i) (0:Int)=0::List.replicate (16-(i+1)) 0 by rw[show 16-i=(16-(i+1))+1 by omega];rfl];have e3:i=(ints (fanOf b i)).length:=by simp[ints,ZbH]
    have e4:=ZcN (ints (fanOf b i)) [.int .i64 0] (ints (List.replicate (16-(i+1)) 0)) [.int .i64 (numI b (2*i) 2)] rfl;rw[←e3]at e4;show spl (ints (fanOf b i)++([.int .i64 0]++ints (List.replicate (16-(i+1)) 0))) i [.int .i64 (numI b (2*i) 2)]=ints (fanOf b i++[numI b (2*i) 2])++_;rw[e4,show ints (fanOf b i++[numI b (2*i) 2])=ints (fanOf b i)++[.int .i64 (numI b (2*i) 2)] by unfold ints;rw[List.map_append];rfl,List.append_assoc]
   ·rw[decide_eq_false (show ¬(i:Int)<16 by omega),cond_false]
    have hi7:i=16:=by omega
    subst hi7;rw[D_len hlen];rw[show ints (fanOf b 16)++ints (List.replicate (16-16) 0)=ints (fanOf b 16)from List.append_nil _]at hlen⊢;rw[Zi (Zno h.q40 n (fanOf b 16) s (ZbH b 16) (by omega))];simp only[J_b,D_nil];cases Zib (fanOf b 16)with
    |false=>
     rw[Bool.not_false,cond_true,Zb];exact .mk ⟨_,hp1,rfl⟩
    |true=>
     rw[Bool.not_true,cond_false,D_len hlen,Zb];exact .mk ⟨_,hp1,rfl,ZbH b 16⟩
end Go.Gv.F
namespace Go.Gv.F
open Go.Gv
variable {β:Type}
theorem Zut {Bd:Za} (h:ZcF Bd) (n:Nat) (l:List Int) (v:Int) (p:Option (Nat×Nat)) (st:St) (hs:Sl st p (ints l)) (hl:l.length<1000000) (hn:l.length+3≤n):
  Ok (fun o=>∃y:Int,o=(.val [.int .i64 y],st)∧decide (y≥0)=decide (v∈l)) (run Bd n 254 [.slice 1 p l.length,.int .i64 v] st):=by
 obtain⟨n,rfl⟩: ∃m,n=m+1:=⟨n-1,by omega⟩;rw[Zf,h.eq];unfold ZbF;simp only[J_l,J_i,D_nil,Zc];refine Zk _ (fun q y s=>∃i:Nat,y=[.int .i64 i]∧i≤l.length∧l.length-i≤q∧s=st∧v∉l.take i) ?_ l.length n _ _ ⟨0,rfl,Nat.zero_le _,by omega,rfl,by simp⟩ (by omega);rintro q _ s ⟨i,rfl,hi,hq,rfl,hno⟩ rec hrec;simp only[J_i,D_nil];by_cases hlt:i<l.length
 ·obtain⟨i1,o1,rfl⟩:=hs.some_of (by simp[ints];omega)
  rw[decide_eq_true (show(i:Int)<(l.length:Int) by omega),cond_true,nn_some',Ze (Zl hlt),Int.toNat_natCast,hs.get1 (Zw hlt)];simp only[D_int];by_cases hv:v=l[i]
  ·rw[show(v==l[i])=true by rw[hv];exact beq_self_eq_true _,cond_true,Zb]
   refine .mk ⟨_,rfl,?_⟩;rw[decide_eq_true (by omega),decide_eq_true];rw[hv];exact List.getElem_mem hlt
  ·rw[beq_eq_false_iff_ne.2 hv,cond_false,Zd (by omega) (by omega)]
   refine hrec (l.length-(i+1)) _ _ (by omega) ⟨i+1,rfl,by omega,Nat.le_refl _,rfl,?_⟩;rw[List.take_succ_eq_append_getElem hlt];intro hm;rcases List.mem_append.1 hm with h|h
   ·exact hno h
   ·exact hv (List.mem_singleton.1 h)
 ·rw[decide_eq_false (show ¬(i:Int)<(l.length:Int) by omega),cond_false,Zb]
  rw[List.take_of_length_le (by omega)]at hno;exact .mk ⟨_,rfl,by rw[decide_eq_false hno];rfl⟩
theorem ZiM {Bd:Za} (h:Zbm Bd) (n:Nat) (l:List Int) (v:Int) (p:Option (Nat×Nat)) (st:St) (hs:Sl st p (ints l)) (hl:l.length<1000000) (hn:l.length+4≤n):
  run Bd n 222 [.slice 1 p l.length,.int .i64 v] st=some (.val [.bool (decide (v∈l))],st):=by
 obtain⟨n,rfl⟩: ∃m,n=m+1:=⟨n-1,by omega⟩;rw[Zf,h.eq];unfold Zbn;simp only[J_l,J_i,D_nil];refine ok_eq ?_;refine Ok.call (Zut h.q8 n l v p st hs hl (by omega)) ?_;rintro _ ⟨y,rfl,e⟩;refine⟨_,st,rfl,?_⟩;simp only[J_i,D_nil,Zb];rw[e];exact .mk rfl
def ZdN (v:Int):Bool:=bif decide (v≥2)then decide (v<3072)else false
theorem ZfK {Bd:Za} (h:Zcf Bd) (n:Nat) (v:Int) (st:St):run Bd (n+1) 315 [.int .i64 v] st=some (.val [.bool (ZdN v)],st):=by
 rw[Zf,h.eq];unfold Zci ZdN;simp only[J_i,D_nil,Zc,J_b];cases decide (v≥2)<;>rfl
structure Zdb where
 name:List UInt8
 mask:Nat
 heads:List Int
def ZdE (x:Zdb):List DV:= .str x.name:: .int .i64 x.mask::ints x.heads
def headF (m i:Nat) (v:Int):Bool:=bif bitF m i then ZdN v else v==0
def Zj3 (x:Zdb):Bool:=Zdx x.name&&(decide (x.mask<4096)&&(List.range 12).all fun i=>headF x.mask i (x.heads.getD i 0))
def Zbl (b:List UInt8) (n:Nat):List Int:=(List.range n).map fun j=>numI b (4+2*j) 2
theorem Zgo (b:List UInt8) (n:Nat):(Zbl b n).length=n:=by unfold Zbl;simp
theorem Zs2 (b:List UInt8) (n:Nat):Zbl b (n+1)=Zbl b n++[numI b (4+2*n) 2]:=by unfold Zbl;rw[List.range_succ,List.map_append];rfl
def ZhK (b:List UInt8) (t:Nat):Zdb:=⟨(b.drop 28).take t,rd b 0 4,Zbl b 12⟩
def ZeR (l:List UInt8):Option Zdb:=match openB l with
 |none=>none
 |some (k,t,b)=>bif decide (k=5)&&(decide (t≤24)&&Zz (b.drop (28+t)))then(bif Zj3 (ZhK b t)then some (ZhK b t)else none)else none
def ZxJ:Zdb:=⟨[],0,List.replicate 12 0⟩
theorem Zlp {Bd:Za} (h:ZdG Bd) (n:Nat) (x:Zdb) (st:St) (hl:x.heads.length=12) (hs:x.name.length<1000) (hm:x.mask<4294967296) (hn:22+x.name.length≤n):run Bd n 299 [.agg (ZdE x)] st=some (.val [.bool (Zj3 x)],st):=by
 obtain⟨n,rfl⟩: ∃m,n=m+2:=⟨n-2,by omega⟩;rw[Zf,h.eq];unfold Zcs Zj3 ZdE;have hlen:(ints x.heads).length=12:=by simp[ints,hl]
 simp only[J_a,J_s,J_i,D_nil,Zc];rw[D_len hlen,D_len (by simp[hlen])];rw[Zi (ok_eq (ZrL h.q90 (n+1) x.name (by omega) (by omega) st))];simp only[J_b,D_nil];cases Zdx x.name with
 |false=>rw[Bool.not_false,cond_true];simp only[cond_true,Zb,Bool.false_and]
 |true=>
 rw[Bool.not_true,cond_false,decide_eq_false (show ¬((x.mask:Nat):Int)<0 by omega)];simp only[cond_false,Bool.true_and];by_cases hm2:x.mask<4096;rotate_left
 ·rw[decide_eq_true (show((x.mask:Nat):Int)≥4096 by omega),cond_true,decide_eq_false hm2,Zb,Bool.false_and]
 rw[decide_eq_false (show ¬((x.mask:Nat):Int)≥4096 by omega),cond_false,decide_eq_true hm2,Bool.true_and];rw[show(ints x.heads).take 12=ints x.heads from List.take_of_length_le (by omega)];refine ok_eq ?_;refine Zk _ (fun q y s=>∃i:Nat,y=[.int .i64 i]∧i≤12∧12-i≤q∧s=st∧((List.range i).all fun i=>headF x.mask i (x.heads.getD i 0))=true) ?_ 12 (n+1) _ _ ⟨0,rfl,by omega,by omega,rfl,rfl⟩ (by omega);rintro q _ s ⟨i,rfl,hi,hq,rfl,hall⟩ rec hrec;simp only[J_i,D_nil];by_cases hlt:i<12
 ·rw[decide_eq_true (show(i:Int)<12 by omega),cond_true,Ze (show inB (i:Int) 12=true from Zl hlt),Int.toNat_natCast,Nat.mul_one,D_nth (Zw (by omega))]
  simp only[D_int];rw[Ze (decide_eq_true (by omega)),Zvz (by omega) (by omega),Zya (by omega) (by omega)];have hw:wr64 ((i:Int)+1)=((i+1:Nat):Int):=Zd (by omega) (by omega);have hgd:x.heads.getD i 0=x.heads[i]'(by omega):=by rw[List.getD_eq_getElem?_getD,List.getElem?_eq_getElem (by omega)];rfl
  have hgo:headF x.mask i (x.heads[i]'(by omega))=true→Ok (fun p=>p=(Out.val [DV.bool ((List.range 12).all fun i=>headF x.mask i (x.heads.getD i 0))],s)) (rec [.int .i64 (wr64 ((i:Int)+1))] s):=fun e=>by
   rw[hw];refine hrec (12-(i+1)) _ _ (by omega) ⟨i+1,rfl,by omega,Nat.le_refl _,rfl,?_⟩;rw[List.range_succ,List.all_append,hall,List.all_cons,List.all_nil,hgd,e];rfl
  have hno:headF x.mask i (x.heads[i]'(by omega))=false→((List.range 12).all fun i=>headF x.mask i (x.heads.getD i 0))=false:=fun e=>List.all_eq_false.2 ⟨i,List.mem_range.2 hlt,by rw[hgd,e];decide⟩
  cases hb:bitF x.mask i with
  |true=>
   rw[Bool.not_true,cond_false];rw[Ze (decide_eq_true (by omega)),cond_true,Zi (ZfK h.q10 n _ s)];simp only[J_b,D_nil];cases hbn:ZdN (x.heads[i]'(by omega))with
   |true=>
    rw[Bool.not_true,cond_false];exact hgo (by unfold headF;rw[hb,cond_true,hbn])
   |false=>
    rw[Bool.not_false,cond_true,Zb,hno (by unfold headF;rw[hb,cond_true,hbn])];exact .mk rfl
  |false=>
   rw[Bool.not_false,cond_true];cases h0:(x.heads[i]'(by omega)==0)with
   |false=>
    rw[Bool.not_false,cond_true];simp only[cond_true];rw[Zb,hno (by unfold headF;rw[hb,cond_false,h0])];exact .mk rfl
   |true=>
    rw[Bool.not_true,cond_false];rw[Ze (decide_eq_true (by omega)),cond_false];exact hgo (by unfold headF;rw[hb,cond_false,h0])
 ·rw[decide_eq_false (show ¬(i:Int)<12 by omega),cond_false,Zb]
  rw[show i=12 by omega]at hall;rw[hall];exact .mk rfl
theorem ZmG {Bd:Za} (h:ZeU Bd) (n:Nat) (a:Option (Nat×Nat)) (l:List UInt8) (st:St) (ha:Byt st a l) (hl:l.length<1000000) (hn:160≤n):
  Ok (fun o=>∃s',Pre st s'∧match ZeR l with
   |none=>o=(.val [.agg (ZdE ZxJ),.bool false],s')
   |some x=>o=(.val [.agg (ZdE x),.bool true],s')∧x.heads.length=12) (run Bd n 275 [.slice 1 a l.length] st):=by
 obtain⟨n,rfl⟩: ∃m,n=m+1:=⟨n-1,by omega⟩;rw[Zf,h.eq];unfold ZcW ZeR;simp only[J_l,D_nil,Zc];refine Ok.call (ZbQ h.q84 n a l st ha hl (by omega)) ?_;rintro _ ⟨s1,hp1,ho⟩;cases hop:openB l with
 |none=>
  rw[hop]at ho;subst ho;refine⟨_,s1,rfl,?_⟩;simp only[J_i,J_b,D_nil,Zm 1 0 none _ (.inr rfl)];rw[Bool.not_false,cond_true];simp only[cond_true,Zb];exact .mk ⟨_,hp1,rfl⟩
 |some q=>
  obtain⟨k,t,b⟩:=q;rw[hop]at ho;obtain⟨p1,rfl,hf,hb,hk,ht⟩:=ho;refine⟨_,s1,rfl,?_⟩;simp only[J_i,J_b,J_l,D_nil];rw[Bool.not_true,cond_false,ZgT k 5 5 rfl];cases hk1:decide (k=5)with
  |false=>
   rw[Bool.not_false];simp only[cond_true,Bool.false_and,cond_false,Zb];exact .mk ⟨_,hp1,rfl⟩
  |true=>
  rw[Bool.not_true];simp only[cond_false,Bool.true_and];by_cases ht2:t≤24;rotate_left
  ·rw[decide_eq_true (show((t:Nat):Int)>24 by omega),decide_eq_false ht2]
   simp only[cond_true,Bool.false_and,cond_false,Zb];exact .mk ⟨_,hp1,rfl⟩
  rw[decide_eq_false (show ¬((t:Nat):Int)>24 by omega),decide_eq_true ht2];simp only[cond_false,Bool.true_and];have hb':=hf.byt;have hw:wr64 (28+(t:Int))=((28+t:Nat):Int):=Zd (by omega) (by omega);have hno:=Zbf h.q39 n p1 b (28+t) (28-t) s1 hb' (by omega) (by omega) (by omega);rw[hb,List.take_of_length_le (by rw[List.length_drop];omega)]at hno;have hw2:wr64 (wr64 (((56:Nat):Int)-28)-(t:Int))=((28-t:Nat):Int):=by
   rw[show wr64 (((56:Nat):Int)-28)=28 by decide];rw[Zd (by omega) (by omega)];omega
  rw[hw,hw2,Zi hno];simp only[J_b,D_nil,Int.toNat_natCast];cases Zz (b.drop (28+t))with
  |false=>
   simp only[Bool.not_false,cond_true,cond_false,Zb];exact .mk ⟨_,hp1,rfl⟩
  |true=>
   rw[Bool.not_true];simp only[cond_true,cond_false];rw[Ze (by rw[Bool.and_eq_true,decide_eq_true_iff,decide_eq_true_iff];omega),Ze (decide_eq_true (by omega))];have hnm:=(hb'.cutA (k:=28) (by omega)).takes t;have hnl:(octs ((b.drop 28).take t)).length=28+t-28:=by rw[Zt,List.length_take,List.length_drop];omega
   have hrd:=rd_eq (β:=List DV) hnm;rw[hnl]at hrd;rw[hrd,←ZeZ,D_oct,Ze (decide_eq_true (by omega))];have ht4:(b.take 4).length=4:=by rw[List.length_take];omega
   have hr1:=Z6 h.q94 n _ (b.take 4) s1 (hb'.takes 4) (by omega) (by omega);rw[ht4]at hr1;rw[ZcD hr1 (.refl s1)];simp only[J_i,D_nil];have hm32:leN (b.take 4)<4294967296:=by have:=Zod (b.take 4);rw[ht4]at this;exact this
   rw[Zd (x:=((leN (b.take 4):Nat):Int)) (by omega) (by omega)];have hname:((b.drop 28).take t).length≤24:=by rw[List.length_take];omega
   refine Zk _ (fun q y s=>∃i:Nat,y=[.agg (.str ((b.drop 28).take t):: .int .i64 (leN (b.take 4):Nat)::(ints (Zbl b i)++ints (List.replicate (12-i) 0))),.int .i64 i]∧i≤12∧12-i≤q∧s=s1) ?_ 12 n _ _ ⟨0,rfl,by omega,by omega,rfl⟩ (by omega);rintro q _ s ⟨i,rfl,hi,hq,rfl⟩ rec hrec;have hlen:(ints (Zbl b i)++ints (List.replicate (12-i) 0)).length=12:=by
    simp[ints,Zgo];omega
   simp only[J_a,J_s,J_i,D_nil];rw[D_len hlen];by_cases hlt:i<12
   ·have hw1:wr64 ((i:Int)+1)=((i+1:Nat):Int):=Zd (by omega) (by omega)
    have hw3:wr64 (2*(i:Int))=((2*i:Nat):Int):=Zd (by omega) (by omega);have hw4:wr64 (4+((2*i:Nat):Int))=((4+2*i:Nat):Int):=Zd (by omega) (by omega);have hw5:wr64 (((4+2*i:Nat):Int)+2)=((4+2*i+2:Nat):Int):=Zd (by omega) (by omega);simp only[hw1,hw3,hw4,hw5,Int.toNat_natCast,Nat.mul_one];rw[decide_eq_true (show(i:Int)<12 by omega),cond_true];rw[Ze (by rw[Bool.and_eq_true,decide_eq_true_iff,decide_eq_true_iff];omega),Ze (by rw[Bool.and_eq_true,decide_eq_true_iff,decide_eq_true_iff];omega)];have hc1:=hb'.cutA (k:=4+2*i) (by omega);have hd1:((b.drop (4+2*i)).take 2).length=2:=by rw[List.length_take,List.length_drop];omega
    have hr1:=Z6 h.q94 n _ ((b.drop (4+2*i)).take 2) s (hc1.takes 2) (by omega) (by omega);rw[hd1]at hr1;rw[show 4+2*i+2-(4+2*i)=2 by omega,Zi hr1];simp only[J_i,D_nil];rw[Ze (show inB (i:Int) 12=true from Zl hlt),Ze (Nat.ble_eq_true_of_le (by omega))];refine hrec (12-(i+1)) _ _ (by omega) ⟨i+1,?_,by omega,Nat.le_refl _,rfl⟩;congr 4;rw[Zs2,show List.replicate (12-i) (0:Int)=0::List.replicate (12-(i+1)) 0 by rw[show 12-i=(12-(i+1))+1 by omega];rfl];have e3:i=(ints (Zbl b i)).length:=by simp[ints,Zgo]
    have e4:=ZcN (ints (Zbl b i)) [.int .i64 0] (ints (List.replicate (12-(i+1)) 0)) [.int .i64 (numI b (4+2*i) 2)] rfl;rw[←e3]at e4;show spl (ints (Zbl b i)++([.int .i64 0]++ints (List.replicate (12-(i+1)) 0))) i [.int .i64 (numI b (4+2*i) 2)]=ints (Zbl b i++[numI b (4+2*i) 2])++_;rw[e4,show ints (Zbl b i++[numI b (4+2*i) 2])=ints (Zbl b i)++[.int .i64 (numI b (4+2*i) 2)] by unfold ints;rw[List.map_append];rfl,List.append_assoc]
   ·rw[decide_eq_false (show ¬(i:Int)<12 by omega),cond_false]
    have hi7:i=12:=by omega
    subst hi7;rw[show ints (Zbl b 12)++ints (List.replicate (12-12) 0)=ints (Zbl b 12)from List.append_nil _]at hlen⊢;rw[D_len hlen];have hrq:=Zlp h.q17 n (ZhK b t) s (Zgo b 12) (by show((b.drop 28).take t).length<_;omega) hm32 (by show _+((b.drop 28).take t).length≤_;omega);have hqc:ZdE (ZhK b t)= .str ((b.drop 28).take t):: .int .i64 (leN (b.take 4):Nat)::ints (Zbl b 12):=rfl;rw[←hqc,Zi hrq];simp only[J_b,D_nil];cases Zj3 (ZhK b t)with
    |false=>
     rw[Bool.not_false,cond_true,Zb];exact .mk ⟨_,hp1,rfl⟩
    |true=>
     rw[Bool.not_true,cond_false,D_len (by rw[hqc];simp[hlen]),Zb];exact .mk ⟨_,hp1,rfl,Zgo b 12⟩
def ZkQ (l:List Int):Bool:=decide (1≤l.length)&&(decide (l.length≤16)&&(List.range l.length).all fun i=>ZdN (l.getD i 0)&& !decide (l.getD i 0∈l.take i))
def Zpg (l:List UInt8):Option (List Int):=match openB l with
 |none=>none
 |some (k,t,b)=>bif decide (k=6)&&(decide (t≤16)&&Zz (b.drop (2*t)))then(bif ZkQ (fanOf b t)then some (fanOf b t)else none)else none
theorem ZmI {Bd:Za} (h:ZeQ Bd) (n:Nat) (l:List Int) (p:Option (Nat×Nat)) (st:St) (hs:Sl st p (ints l)) (hl:l.length<1000) (hn:l.length+10≤n):run Bd n 300 [.agg [.slice 1 p l.length]] st=some (.val [.bool (ZkQ l)],st):=by
 obtain⟨n,rfl⟩: ∃m,n=m+2:=⟨n-2,by omega⟩;rw[Zf,h.eq];unfold ZcZ ZkQ;simp only[J_a,J_l,D_nil,Zc];by_cases h1:1≤l.length;rotate_left
 ·rw[decide_eq_true (show((l.length:Nat):Int)<1 by omega),decide_eq_false h1]
  simp only[J_b,D_nil,cond_true,Zb,Bool.false_and]
 rw[decide_eq_false (show ¬((l.length:Nat):Int)<1 by omega),decide_eq_true h1];simp only[J_b,D_nil,cond_false,Bool.true_and];by_cases h2:l.length≤16;rotate_left
 ·rw[decide_eq_true (show((l.length:Nat):Int)>16 by omega),decide_eq_false h2]
  simp only[cond_true,Zb,Bool.false_and]
 rw[decide_eq_false (show ¬((l.length:Nat):Int)>16 by omega),decide_eq_true h2];simp only[cond_false,Bool.true_and];refine ok_eq ?_;refine Zk _ (fun q y s=>∃i:Nat,y=[.int .i64 i]∧i≤l.length∧l.length-i≤q∧s=st∧((List.range i).all fun i=>ZdN (l.getD i 0)&& !decide (l.getD i 0∈l.take i))=true) ?_ l.length (n+1) _ _ ⟨0,rfl,by omega,by omega,rfl,rfl⟩ (by omega);rintro q _ s ⟨i,rfl,hi,hq,rfl,hall⟩ rec hrec;simp only[J_i,D_nil];by_cases hlt:i<l.length
 ·obtain⟨i1,o1,rfl⟩:=hs.some_of (by simp[ints];omega)
  rw[decide_eq_true (show(i:Int)<(l.length:Int) by omega),cond_true,nn_some',Ze (Zl hlt),Int.toNat_natCast,hs.get1 (Zw hlt)];simp only[D_int];have hw:wr64 ((i:Int)+1)=((i+1:Nat):Int):=Zd (by omega) (by omega);have hgd:l.getD i 0=l[i]:=by rw[List.getD_eq_getElem?_getD,List.getElem?_eq_getElem hlt];rfl
  have hno:(ZdN l[i]&& !decide (l[i]∈l.take i))=false→((List.range l.length).all fun i=>ZdN (l.getD i 0)&& !decide (l.getD i 0∈l.take i))=false:=fun e=>List.all_eq_false.2 ⟨i,List.mem_range.2 hlt,by rw[hgd,e];decide⟩
  rw[Zi (ZfK h.q10 n _ s)];simp only[J_b,D_nil];cases hb:ZdN l[i]with
  |false=>
   rw[Bool.not_false,cond_true];simp only[cond_true];rw[Zb,hno (by rw[hb];rfl)];exact .mk rfl
  |true=>
   rw[Bool.not_true,cond_false,Ze (by rw[Bool.and_eq_true,decide_eq_true_iff,decide_eq_true_iff];omega)];have hti:(l.take i).length=i:=by rw[List.length_take];omega
   have hst:Sl s (some (i1,o1)) (ints (l.take i)):=by
    have:=Sl.takes hs i
    rwa [show(ints l).take i=ints (l.take i) by unfold ints;rw[List.map_take]]at this
   have hc:=ZiM h.q6 (n+1) (l.take i) l[i] _ s hst (by omega) (by omega);rw[hti]at hc;rw[Zi hc];simp only[J_b,D_nil];cases hm:decide (l[i]∈l.take i)with
   |true=>
    rw[cond_true,Zb,hno (by rw[hb,hm];rfl)];exact .mk rfl
   |false=>
    rw[cond_false,hw];refine hrec (l.length-(i+1)) _ _ (by omega) ⟨i+1,rfl,by omega,Nat.le_refl _,rfl,?_⟩;rw[List.range_succ,List.all_append,hall,List.all_cons,List.all_nil,hgd,hb,hm];rfl
 ·rw[decide_eq_false (show ¬(i:Int)<(l.length:Int) by omega),cond_false,Zb]
  rw[show i=l.length by omega]at hall;rw[hall];exact .mk rfl
theorem ZoD {Bd:Za} (h:Zf5 Bd) (n:Nat) (a:Option (Nat×Nat)) (l:List UInt8) (st:St) (ha:Byt st a l) (hl:l.length<1000000) (hn:160≤n):
  Ok (fun o=>∃s',Pre st s'∧match Zpg l with
   |none=>o=(.val [.agg [.slice 0 none 0],.bool false],s')
   |some x=>∃p,o=(.val [.agg [.slice 1 p x.length],.bool true],s')∧Fz s' p (ints x)∧x.length≤16) (run Bd n 276 [.slice 1 a l.length] st):=by
 obtain⟨n,rfl⟩: ∃m,n=m+1:=⟨n-1,by omega⟩;rw[Zf,h.eq];unfold Zd7 Zpg;simp only[J_l,D_nil,Zc];rw[Zb6];refine Ok.call (ZbQ h.q84 n a l st ha hl (by omega)) ?_;rintro _ ⟨s1,hp1,ho⟩;cases hop:openB l with
 |none=>
  rw[hop]at ho;subst ho;refine⟨_,s1,rfl,?_⟩;simp only[J_i,J_b,D_nil,Zm 1 0 none _ (.inr rfl)];rw[Bool.not_false,cond_true];simp only[cond_true];rw[ZE];exact .mk ⟨_,ZL hp1,rfl⟩
 |some q=>
  obtain⟨k,t,b⟩:=q;rw[hop]at ho;obtain⟨p1,rfl,hf,hb,hk,ht⟩:=ho;refine⟨_,s1,rfl,?_⟩;simp only[J_i,J_b,J_l,D_nil];rw[Bool.not_true,cond_false,ZgT k 6 6 rfl];cases hk1:decide (k=6)with
  |false=>
   rw[Bool.not_false];simp only[cond_true,Bool.false_and,cond_false];rw[ZE];exact .mk ⟨_,ZL hp1,rfl⟩
  |true=>
  rw[Bool.not_true];simp only[cond_false,Bool.true_and];by_cases ht2:t≤16;rotate_left
  ·rw[decide_eq_true (show((t:Nat):Int)>16 by omega),decide_eq_false ht2]
   simp only[cond_true,Bool.false_and,cond_false];rw[ZE];exact .mk ⟨_,ZL hp1,rfl⟩
  rw[decide_eq_false (show ¬((t:Nat):Int)>16 by omega),decide_eq_true ht2];simp only[cond_false,Bool.true_and];have hb':=hf.byt;have hw:wr64 (2*(t:Int))=((2*t:Nat):Int):=Zd (by omega) (by omega);have hno:=Zbf h.q39 n p1 b (2*t) (56-2*t) s1 hb' (by omega) (by omega) (by omega);rw[hb,List.take_of_length_le (by rw[List.length_drop];omega)]at hno;have hw2:wr64 (((56:Nat):Int)-((2*t:Nat):Int))=((56-2*t:Nat):Int):=by
   rw[Zd (by omega) (by omega)];omega
  rw[hw,hw2,Zi hno];simp only[J_b,D_nil];cases Zz (b.drop (2*t))with
  |false=>
   simp only[Bool.not_false,cond_true,cond_false];rw[ZE];exact .mk ⟨_,ZL hp1,rfl⟩
  |true=>
   rw[Bool.not_true];simp only[cond_true,cond_false];refine Zk _ (fun q y s=>∃(i z:Nat) (p:Option (Nat×Nat)),y=[.agg [.slice z p i],.int .i64 i]∧(z=1∨p=none)∧i≤t∧t-i≤q∧Own st s p (ints (fanOf b i))∧FByt s p1 b) ?_ t n _ _ ⟨0,0,none,rfl,.inr rfl,Nat.zero_le _,by omega,Own.nil hp1,hf⟩ (by omega);rintro q _ s ⟨i,z,p,rfl,hz,hi,hq,ho,hfb⟩ rec hrec;simp only[J_a,J_i,Zm 1 z p _ hz,D_nil];by_cases hlt:i<t
   ·have hw1:wr64 ((i:Int)+1)=((i+1:Nat):Int):=Zd (by omega) (by omega)
    have hw2:wr64 (2*((i+1:Nat):Int))=((2*(i+1):Nat):Int):=Zd (by omega) (by omega);have hw3:wr64 (2*(i:Int))=((2*i:Nat):Int):=Zd (by omega) (by omega);simp only[hw1,hw2,hw3,Int.toNat_natCast,Nat.mul_one];rw[decide_eq_true (show(i:Int)<(t:Int) by omega),cond_true];rw[Ze (by rw[Bool.and_eq_true,decide_eq_true_iff,decide_eq_true_iff];omega),Ze (by rw[Bool.and_eq_true,decide_eq_true_iff,decide_eq_true_iff];omega)];have hc1:=hfb.byt.cutA (k:=2*i) (by omega);have hd1:((b.drop (2*i)).take 2).length=2:=by rw[List.length_take,List.length_drop];omega
    have hr1:=Z6 h.q94 n _ ((b.drop (2*i)).take 2) s (hc1.takes 2) (by omega) (by omega);rw[hd1]at hr1;rw[show 2*(i+1)-2*i=2 by omega,ZiE hr1];simp only[J_i,D_nil];obtain⟨p2,s2,ho2,hkp,he⟩:=ho.push2 (β:=List DV) (sz:=1) (n:=i) (lim:=8796093022208) [.int .i64 (numI b (2*i) 2)] (Nat.succ_pos 0) (by simp[ints,ZbH]) rfl (by omega);refine Eq.mpr (congrArg (Ok _) (he _)) ?_;refine hrec (t-(i+1)) _ _ (by omega) ⟨i+1,1,p2,rfl,.inl rfl,by omega,Nat.le_refl _,?_,hfb.kp hkp⟩;rw[Zou];show Own st s2 p2 (List.map _ _);rw[List.map_append];exact ho2
   ·rw[decide_eq_false (show ¬(i:Int)<(t:Int) by omega),cond_false]
    have hit:i=t:=by omega
    subst hit;have hr:=ZmI h.q33 n (fanOf b i) p s ho.sl (by rw[ZbH];omega) (by rw[ZbH];omega);rw[ZbH]at hr;simp only[J_l,D_nil];rw[Zi hr];simp only[J_b,D_nil];cases ZkQ (fanOf b i)with
    |false=>
     rw[Bool.not_false,cond_true];simp only[cond_false];rw[ZE];exact .mk ⟨_,ZL ho.1,rfl⟩
    |true=>
     rw[Bool.not_true,cond_false];simp only[cond_true];rw[ZE];refine .mk ⟨_,ZL ho.1,p,?_,ho.fz,?_⟩
     ·rw[ZbH]
     ·rw[ZbH];omega
end Go.Gv.F
namespace Go.Gv.F
open Go.Gv
variable {β:Type}
def upF (n k:Int):Int:=wr64 ((wr64 (wr64 (n+k)-1)).tdiv k)
def Zd3 (b s g:Int):Int:=bif geomF b s g then upF b 384 else 0
def ZhN (n:Int):Int:=bif (decide (n≥0)&&decide (n≤1792))then upF n 7 else 0
theorem Zo7 {Bd:Za} (h:ZiH Bd) (n:Nat) (v k:Int) (hk:k≠0) (st:St):run Bd (n+1) 253 [.int .i64 v,.int .i64 k] st=some (.val [.int .i64 (upF v k)],st):=by
 rw[Zf,h.eq];unfold ZiS upF;simp only[J_i,D_nil];rw[Ze (by rw[beq_eq_false_iff_ne.2 hk];rfl)];rfl
theorem Zr4 {Bd:Za} (h:ZhX Bd) (n:Nat) (v:Int) (st:St):run Bd (n+1) 255 [.int .i64 v] st=some (.val [.bool (decide (v≥0)&&decide (v≤1792))],st):=by
 rw[Zf,h.eq];unfold Zfo;simp only[J_i,D_nil,Zc];cases decide (v≥0)<;>rfl
theorem ZpJ {Bd:Za} (h:Zhq Bd) (n:Nat) (v:Int) (st:St):run Bd (n+2) 227 [.int .i64 v] st=some (.val [.int .i64 (ZhN v)],st):=by
 rw[Zf,h.eq];unfold ZeL ZhN;simp only[J_i,D_nil];rw[Zi (Zr4 h.q88 n v st)];simp only[J_b,D_nil];cases(decide (v≥0)&&decide (v≤1792))with
 |false=>rfl
 |true=>
  rw[Bool.not_true,cond_false,Zi (Zo7 h.q135 n v 7 (by decide) st)];rfl
theorem Zqu {Bd:Za} (h:Zg7 Bd) (n:Nat) (b s g:Int) (st:St):run Bd (n+2) 223 [.agg [.int .i64 b,.int .i64 s,.int .i64 g]] st=some (.val [.int .i64 (Zd3 b s g)],st):=by
 rw[Zf,h.eq];unfold ZeH Zd3;simp only[J_a,J_i,D_nil];rw[Zi (Zlc h.q87 n b s g st)];simp only[J_b,D_nil];cases geomF b s g with
 |false=>rfl
 |true=>
  rw[Bool.not_true,cond_false,Zi (Zo7 h.q135 n b 384 (by decide) st)];rfl
structure ZQ where
 no:Nat
 oct:List UInt8
def Zx (x:ZQ):List DV:= .int .i64 x.no::octs x.oct
def ZjX:ZQ:=⟨0,List.replicate 48 0⟩
def ZkM (l:List UInt8):Option ZQ:=match openB l with
 |none=>none
 |some (k,t,b)=>bif decide (k=4)&&(decide (t<8)&&Zz (b.drop 48))then some ⟨t,b.take 48⟩else none
def hasF (x:ZQ) (a:Nat):Bool:=decide (a/384=x.no)&&bitF (x.oct.getD (a%384/8) 0).toNat (a%8)
def listF (x:ZQ) (n:Nat):List Int:=((List.range n).filter fun i=>hasF x (x.no*384+i)).map fun i=>((x.no*384+i:Nat):Int)
theorem Zhv (x:ZQ) (n:Nat):listF x (n+1)=listF x n++(bif hasF x (x.no*384+n)then[((x.no*384+n:Nat):Int)]else[]):=by
 unfold listF;rw[List.range_succ,List.filter_append,List.map_append];congr 1;cases h:hasF x (x.no*384+n)<;>simp[h]
theorem Zrn (x:ZQ) (n:Nat):(listF x n).length≤n:=by
 unfold listF;rw[List.length_map];exact Nat.le_trans (List.length_filter_le _ _) (by simp)
theorem and8 {x r:Nat} (hx:x<256) (hr:r<8):((bits .and .u8 (x:Int) ((2^r:Nat):Int))==0)= !bitF x r:=by
 have key: ∀x:Fin 256,∀r:Fin 8,((x.val&&& 2^r.val)==0)= !decide (x.val/2^r.val%2=1):=by decide+kernel
 have hp:2^r<256:=Nat.pow_lt_pow_right (a:=2) (m:=r) (n:=8) (by decide) hr;have e:bits .and .u8 (x:Int) ((2^r:Nat):Int)=((x&&& 2^r:Nat):Int):=by
  generalize 2^r=w at hp;show IntKind.wrap .u8 ((BitVec.ofInt 8 (x:Int)&&& BitVec.ofInt 8 ((w:Nat):Int)).toNat:Int)=_;rw[BitVec.toNat_and,BitVec.toNat_ofInt,BitVec.toNat_ofInt];have e1:((x:Int)%((2^8:Nat):Int)).toNat=x:=by omega
  have e2:(((w:Nat):Int)%((2^8:Nat):Int)).toNat=w:=by omega
  rw[e1,e2];have:x&&& w<256:=Nat.lt_of_le_of_lt Nat.and_le_left hx;show((x&&& w:Nat):Int)%(2^8)=_;have:((2:Int)^8)=256:=by decide
  omega
 rw[e];have:=key ⟨x,hx⟩ ⟨r,hr⟩;simp only at this;unfold bitF;rw[←this];by_cases h0:x&&& 2^r=0
 ·rw[h0];rfl
 ·rw[beq_eq_false_iff_ne.2 h0];exact beq_eq_false_iff_ne.2 (by omega)
theorem Zqh {Bd:Za} (h:Zhg Bd) (n:Nat) (x:ZQ) (hl:x.oct.length=48) (st:St):run Bd (n+1) 307 [.agg (Zx x)] st=some (.val [.bool (decide (x.no<8))],st):=by
 rw[Zf,h.eq];unfold Zet Zx;have hlen:(octs x.oct).length=48:=by rw[Zt,hl]
 simp only[J_a,J_i,D_nil,Zc];rw[D_len hlen,D_len (by simp[hlen]),decide_eq_true (show((x.no:Nat):Int)≥0 by omega),cond_true];simp only[J_b,D_nil];rw[Zb];by_cases h8:x.no<8
 ·rw[decide_eq_true h8,decide_eq_true (by omega)]
 ·rw[decide_eq_false h8,decide_eq_false (by omega)]
theorem ZtQ {Bd:Za} (h:ZjB Bd) (n:Nat) (x:ZQ) (a:Nat) (ha:a<1000000) (hl:x.oct.length=48) (h8:x.no<8) (st:St):
  run Bd (n+2) 287 [.agg (Zx x),.int .i64 a] st=some (.val (bif decide (a/384=x.no)then[.int .i64 (a%384/8:Nat),.int .u8 (2^(a%8):Nat),.bool true]else[.int .i64 0,.int .u8 0,.bool false]),st):=by
 rw[Zf,h.eq];have hr:=Zqh h.q60 n x hl st;unfold ZgE;have hlen:(octs x.oct).length=48:=by rw[Zt,hl]
 unfold Zx at hr⊢;simp only[J_a,J_i,D_nil,Zc];rw[D_len hlen,D_len (by simp[hlen]),Zi hr];simp only[J_b,D_nil];rw[decide_eq_true h8,Bool.not_true,cond_false,decide_eq_false (show ¬(a:Int)<0 by omega)];simp only[cond_false];rw[show((a:Int).tdiv 384)=((a/384:Nat):Int)from rfl,Zd (by omega) (by omega),ZgT (a/384) x.no _ rfl];cases hd:decide (a/384=x.no)with
 |false=>rfl
 |true=>
  rw[Bool.not_true,cond_false,cond_true];rw[show((a:Int).tmod 384)=((a%384:Nat):Int)from rfl,show(((a%384:Nat):Int).tmod 8)=((a%384%8:Nat):Int)from rfl,show(((a%384:Nat):Int).tdiv 8)=((a%384/8:Nat):Int)from rfl];rw[Ze (decide_eq_true (by omega)),Zd (by omega) (by omega),Int.toNat_natCast,Nat.min_eq_left (by omega),show a%384%8=a%8 by omega,Zb];have hp:2^(a%8)<256:=Nat.pow_lt_pow_right (a:=2) (m:=a%8) (n:=8) (by decide) (by omega);have e:IntKind.wrap .u8 (1*2^(a%8))=((2^(a%8):Nat):Int):=by
   rw[Int.one_mul,show((2:Int)^(a%8))=((2^(a%8):Nat):Int) by push_cast;rfl];generalize 2^(a%8)=w at hp;show((w:Nat):Int)%(2^8)=_;have:((2:Int)^8)=256:=by decide
   omega
  rw[e]
theorem Zs3 {Bd:Za} (h:Zjh Bd) (n:Nat) (x:ZQ) (a:Nat) (ha:a<1000000) (hl:x.oct.length=48) (h8:x.no<8) (st:St):
  run Bd (n+3) 262 [.agg (Zx x),.int .i64 a] st=some (.val [.bool (hasF x a)],st):=by
 rw[Zf,h.eq];have hr:=ZtQ h.q107 n x a ha hl h8 st;unfold ZgA hasF;have hlen:(octs x.oct).length=48:=by rw[Zt,hl]
 unfold Zx at hr⊢;simp only[J_a,J_i,D_nil,Zc];rw[D_len hlen,D_len (by simp[hlen]),Zi hr];cases decide (a/384=x.no)with
 |false=>rfl
 |true=>
  simp only[cond_true,J_i,J_b,D_nil,Int.toNat_natCast,Nat.mul_one,Bool.true_and];rw[Ze (show inB ((a%384/8:Nat):Int) 48=true from Zl (by omega))];obtain⟨c,hc⟩: ∃c,x.oct[a%384/8]? =some c:=⟨_,List.getElem?_eq_getElem (by omega)⟩;rw[D_nth (ZnW hc),getD_some hc];simp only[D_int];rw[and8 c.toNat_lt (by omega),Bool.not_not];rfl
theorem ZsA {Bd:Za} (h:Zir Bd) (n:Nat) (x:ZQ) (hl:x.oct.length=48) (h8:x.no<8) (st:St) (hn:400≤n):
  Ok (fun o=>∃p s',o=(.val [.slice 1 p (listF x 384).length],s')∧Pre st s'∧Fz s' p (ints (listF x 384))) (run Bd n 239 [.agg (Zx x)] st):=by
 obtain⟨n,rfl⟩: ∃m,n=m+4:=⟨n-4,by omega⟩;rw[Zf,h.eq];have hr:=fun a ha s=>Zs3 h.q106 n x a ha hl h8 s
 unfold ZfP;have hlen:(octs x.oct).length=48:=by rw[Zt,hl]
 unfold Zx at hr⊢;simp only[J_a,J_i,D_nil,Zc];rw[D_len hlen,Zb6,D_len (by simp[hlen])];refine Zk _ (fun q y s=>∃(i z:Nat) (p:Option (Nat×Nat)),y=[.slice z p (listF x i).length,.int .i64 i]∧(z=1∨p=none)∧i≤384∧384-i≤q∧Own st s p (ints (listF x i))) ?_ 384 (n+3) _ _ ⟨0,0,none,rfl,.inr rfl,Nat.zero_le _,by omega,Own.nil (.refl st)⟩ (by omega);rintro q _ s ⟨i,z,p,rfl,hz,hi,hq,ho⟩ rec hrec;simp only[J_i,Zm 1 z p _ hz,D_nil];by_cases hlt:i<384
 ·have hw1:wr64 ((i:Int)+1)=((i+1:Nat):Int):=Zd (by omega) (by omega)
  have hw2:wr64 ((x.no:Int)*384)=((x.no*384:Nat):Int):=by rw[Zd (by omega) (by omega)];omega
  have hw3:wr64 (((x.no*384:Nat):Int)+(i:Int))=((x.no*384+i:Nat):Int):=Zd (by omega) (by omega);simp only[hw1,hw2,hw3];rw[decide_eq_true (show(i:Int)<384 by omega),cond_true,Zi (hr (x.no*384+i) (by omega) s)];simp only[J_b,D_nil];have hll:=Zrn x i;cases hh:hasF x (x.no*384+i)with
  |true=>
   rw[cond_true];obtain⟨p2,s2,ho2,hkp,he⟩:=ho.push2 (β:=List DV) (sz:=1) (n:=(listF x i).length) (lim:=8796093022208) [.int .i64 ((x.no*384+i:Nat):Int)] (Nat.succ_pos 0) (by simp[ints]) rfl (by omega);refine Eq.mpr (congrArg (Ok _) (he _)) ?_;simp only[J_l,D_nil];refine hrec (384-(i+1)) _ _ (by omega) ⟨i+1,1,p2,?_,.inl rfl,by omega,Nat.le_refl _,?_⟩
   ·rw[Zhv,hh];simp
   ·rw[Zhv,hh]
    show Own st s2 p2 (List.map _ _);rw[List.map_append];exact ho2
  |false=>
   rw[cond_false];simp only[J_l,D_nil];refine hrec (384-(i+1)) _ _ (by omega) ⟨i+1,1,p,?_,.inl rfl,by omega,Nat.le_refl _,?_⟩
   ·rw[Zhv,hh];simp
   ·rw[Zhv,hh,cond_false,List.append_nil];exact ho
 ·rw[decide_eq_false (show ¬(i:Int)<384 by omega),cond_false]
  simp only[J_l,D_nil];rw[ZE];have hi7:i=384:=by omega
  subst hi7;exact .mk ⟨p,_,rfl,ZL ho.1,ho.fz⟩
theorem Zyb {s:St} {A B D:List DV} (hl:B.length=D.length) (K:M β):M.store s.length A.length D K (s++[some ⟨false,A++B⟩])=K (s++[some ⟨false,A++D⟩]):=by
 unfold M.store St.open?;rw[List.getElem?_append_right (Nat.le_refl _),Nat.sub_self];simp only[List.getElem?_cons_zero];rw[Nat.ble_eq_true_of_le (by rw[List.length_append];omega),cond_true];have e:=ZcN A B [] D hl;rw[List.append_nil,List.append_nil]at e;rw[e];simp
theorem ZtH {Bd:Za} (h:ZjD Bd) (n:Nat) (a:Option (Nat×Nat)) (l:List UInt8) (st:St) (ha:Byt st a l) (hl:l.length<1000000) (hn:160≤n):
  Ok (fun o=>∃s',Pre st s'∧match ZkM l with
   |none=>o=(.val [.agg (Zx ZjX),.bool false],s')
   |some x=>o=(.val [.agg (Zx x),.bool true],s')∧x.oct.length=48∧x.no<8) (run Bd n 204 [.slice 1 a l.length] st):=by
 obtain⟨n,rfl⟩: ∃m,n=m+1:=⟨n-1,by omega⟩;rw[Zf,h.eq];unfold ZgL ZkM;simp only[J_l,D_nil,Zc];refine Ok.call (ZbQ h.q84 n a l st ha hl (by omega)) ?_;rintro _ ⟨s1,hp1,ho⟩;cases hop:openB l with
 |none=>
  rw[hop]at ho;subst ho;refine⟨_,s1,rfl,?_⟩;simp only[J_i,J_b,D_nil,Zm 1 0 none _ (.inr rfl)];rw[Bool.not_false,cond_true];simp only[cond_true,Zb];exact .mk ⟨_,hp1,rfl⟩
 |some q=>
  obtain⟨k,t,b⟩:=q;rw[hop]at ho;obtain⟨p1,rfl,hf,hb,hk,ht⟩:=ho;refine⟨_,s1,rfl,?_⟩;simp only[J_i,J_b,J_l,D_nil];rw[Bool.not_true,cond_false,ZgT k 4 4 rfl];cases hk1:decide (k=4)with
  |false=>
   rw[Bool.not_false];simp only[cond_true,Bool.false_and,cond_false,Zb];exact .mk ⟨_,hp1,rfl⟩
  |true=>
  rw[Bool.not_true];simp only[cond_false,Bool.true_and];by_cases ht2:t<8;rotate_left
  ·rw[decide_eq_true (show((t:Nat):Int)≥8 by omega),decide_eq_false ht2]
   simp only[cond_true,Bool.false_and,cond_false,Zb];exact .mk ⟨_,hp1,rfl⟩
  rw[decide_eq_false (show ¬((t:Nat):Int)≥8 by omega),decide_eq_true ht2];simp only[cond_false,Bool.true_and];have hb':=hf.byt;have hno:=Zbf h.q39 n p1 b 48 8 s1 hb' (by omega) (by omega) (by omega);rw[hb,List.take_of_length_le (by rw[List.length_drop];omega)]at hno;rw[show wr64 (((56:Nat):Int)-48)=((8:Nat):Int) by decide,show(48:Int)=((48:Nat):Int)from rfl,Zi hno];simp only[J_b,D_nil];cases Zz (b.drop 48)with
  |false=>
   simp only[Bool.not_false,cond_true,cond_false,Zb];exact .mk ⟨_,hp1,rfl⟩
  |true=>
   rw[Bool.not_true];simp only[cond_true,cond_false];have hz:Zx ZjX=[.int .i64 0]++octs (List.replicate 48 0):=rfl;have ht48:(b.take 48).length=48:=by rw[List.length_take];omega
   have hol:(octs (b.take 48)).length=min 56 48*1:=by rw[Zt,ht48];rfl
   refine Eq.mpr (congrArg (Ok _) (show _=(M.new (Zx ZjX) fun c1=>M.store c1 0 (Zx ⟨t,List.replicate 48 0⟩)<|M.load c1 1 48 fun _=>M.rd p1 (min 56 48*1) fun cs=>M.store c1 1 cs<|M.load c1 0 49 fun cs1=>J.i .i64 cs1 fun x4 r1=>D.len r1 48<|D.len ((.int .i64 x4)::r1) 49<|M.ret [.agg ((.int .i64 x4)::r1),.bool true]) s1 from rfl)) ?_;rw[Zu,ZqQ (by simp[Zx,Zt,ZjX])];have hs2:=ZlU s1 (Zx ⟨t,List.replicate 48 0⟩);rw[ZT (i:=s1.length) (o:=1) (n:=48) (f:=false) (all:=Zx ⟨t,List.replicate 48 0⟩) (by simp) (by simp[Zx,Zt])];have hb2:=(hb'.mono (Pre.new s1 (some ⟨false,Zx ⟨t,List.replicate 48 0⟩⟩))).takes 48;rw[←hol,rd_eq hb2];have hst:=Zyb (β:=List DV) (s:=s1) (A:=[.int .i64 t]) (B:=octs (List.replicate 48 0)) (D:=octs (b.take 48)) (by rw[Zt,Zt,ht48];rfl);refine Eq.mpr (congrArg (Ok _) (hst _)) ?_;have hco:([.int .i64 t]++octs (b.take 48):List DV).length=49:=by rw[List.length_append,Zt,ht48];rfl
   rw[ZT (i:=s1.length) (o:=0) (n:=49) (f:=false) (all:=[.int .i64 t]++octs (b.take 48)) (by simp) (by rw[hco];omega)];rw[List.drop_zero,List.take_of_length_le (l:=[DV.int .i64 t]++octs (b.take 48)) (i:=49) (by rw[hco];omega)];show Ok _ (J.i .i64 (.int .i64 t::octs (b.take 48)) _ _);simp only[J_i];have ho48:(octs (b.take 48)).length=48:=by rw[Zt,ht48]
   rw[D_len ho48,D_len (by rw[List.length_cons,ho48]),Zb];exact .mk ⟨_,hp1.trans (.new _ _),rfl,ht48,ht2⟩
end Go.Gv.F
namespace Go.Gv.F
open Go.Gv
variable {β:Type}
def Fx (T:List Nat) (s s':St):Prop:=s.length≤s'.length∧∀(b:Nat) (x:Option Blk),b∉T→s[b]? =some x→s'[b]? =some x
theorem Fx.refl (T:List Nat) (s:St):Fx T s s:=⟨Nat.le_refl _,fun _ _ _ h=>h⟩
theorem Fx.pre {s s':St} (T:List Nat) (h:Pre s s'):Fx T s s':=⟨h.len,fun _ _ _ e=>h.get e⟩
theorem Fx.trans {T:List Nat} {a b c:St} (h:Fx T a b) (k:Fx T b c):Fx T a c:=⟨Nat.le_trans h.1 k.1,fun i x n e=>k.2 i x n (h.2 i x n e)⟩
theorem Fx.step {T T':List Nat} {a b c:St} (h:Fx T a b) (k:Fx T' b c) (hT: ∀x∈T',x∈T∨a.length≤x):Fx T a c:=
 ⟨Nat.le_trans h.1 k.1,fun i x n e=>k.2 i x (fun hm=>by
  rcases hT i hm with h1|h1
  ·exact n h1
  ·have:=(List.getElem?_eq_some_iff.1 e).1;omega) (h.2 i x n e)⟩
theorem Fx.mono {T T':List Nat} {a b:St} (h:Fx T a b) (k: ∀x∈T,x∈T'):Fx T' a b:=⟨h.1,fun i x n e=>h.2 i x (fun m=>n (k i m)) e⟩
theorem Fx.set (s:St) (j:Nat) (b:Option Blk):Fx [j] s (s.set j b):=⟨by simp,fun i x n e=>by
 rw[List.getElem?_set_ne (by simp at n;omega)];exact e⟩
def Off (T:List Nat) (a:Option (Nat×Nat)):Prop:=∀b o,a=some (b,o)→b∉T
theorem Sl.fx {T:List Nat} {s s':St} {a:Option (Nat×Nat)} {cs:List DV} (h:Sl s a cs) (k:Fx T s s') (n:Off T a):Sl s' a cs:=by
 cases a with
 |none=>exact h
 |some p=>
  obtain⟨i,o⟩:=p;obtain⟨f,all,h1,h2⟩:=h;exact⟨f,all,k.2 i _ (n i o rfl) h1,h2⟩
theorem Sl.lt {s:St} {i o:Nat} {cs:List DV} (h:Sl s (some (i,o)) cs):i<s.length:=by
 obtain⟨f,all,h1,_⟩:=h;exact(List.getElem?_eq_some_iff.1 h1).1
theorem Off.new {s:St} {T T':List Nat} {a:Option (Nat×Nat)} {cs:List DV} (h:Off T a) (k:Sl s a cs) (hT: ∀x∈T',x∈T∨s.length≤x):Off T' a:=by
 intro b o e hm;subst e;rcases hT b hm with h1|h1
 ·exact h b o rfl h1
 ·have:=Sl.lt k;omega
def Zp (W:List Nat):List DV:=W.map fun(w:Nat)=> .int .u64 w
theorem Zkr (W:List Nat):(Zp W).length=W.length:=by simp[Zp]
structure SetM (s:St) (f:Bool) (i j n:Nat) (W:List Nat):Prop where
 hd:s[i]? =some (some ⟨f,[.int .i64 n,.slice 1 (some (j,0)) W.length]⟩)
 wd:s[j]? =some (some ⟨f,Zp W⟩)
 len:W.length=(n+63)/64
 lt: ∀w∈W,w<18446744073709551616
 le:n≤3072
theorem SetM.fx {T:List Nat} {s s':St} {f:Bool} {i j n:Nat} {W:List Nat} (h:SetM s f i j n W) (k:Fx T s s') (hi:i∉T) (hj:j∉T):SetM s' f i j n W:=
 ⟨k.2 i _ hi h.hd,k.2 j _ hj h.wd,h.len,h.lt,h.le⟩
theorem SetM.pre {s s':St} {f:Bool} {i j n:Nat} {W:List Nat} (h:SetM s f i j n W) (k:Pre s s'):SetM s' f i j n W:=
 ⟨k.get h.hd,k.get h.wd,h.len,h.lt,h.le⟩
def mayF (n:Nat) (a:Int):Bool:=decide (0≤a)&&decide (a<n)
def inW (W:List Nat) (a:Nat):Bool:=bitF (W.getD (a/64) 0) (a%64)
def addW (n:Nat) (W:List Nat) (a:Int):List Nat:=bif mayF n a then W.set (a.toNat/64) (W.getD (a.toNat/64) 0|||2^(a.toNat%64))else W
theorem Zf8 (n:Nat) (W:List Nat) (a:Int):(addW n W a).length=W.length:=by
 unfold addW;cases mayF n a<;>simp
theorem Zqy {n:Nat} {W:List Nat} {a:Int} (h: ∀w∈W,w<18446744073709551616): ∀w∈addW n W a,w<18446744073709551616:=by
 unfold addW;cases mayF n a with
 |false=>exact h
 |true=>
  intro w hw;rw[cond_true]at hw;rcases List.mem_or_eq_of_mem_set hw with h1|h1
  ·exact h w h1
  ·rw[h1]
   refine Nat.or_lt_two_pow (n:=64) ?_ (Nat.pow_lt_pow_right (by decide) (by omega));rw[List.getD_eq_getElem?_getD];cases e:W[a.toNat/64]? with
   |none=>decide
   |some v=>exact h v (List.mem_of_getElem? e)
theorem ZmB {n:Nat} {W:List Nat} {a:Int} {b:Nat} (hl:W.length=(n+63)/64):inW (addW n W a) b=(inW W b||(mayF n a&&decide (b=a.toNat))):=by
 unfold addW;cases hm:mayF n a with
 |false=>simp[inW]
 |true=>
  rw[cond_true,Bool.true_and];unfold mayF at hm;rw[Bool.and_eq_true,decide_eq_true_iff,decide_eq_true_iff]at hm;unfold inW;have hk:a.toNat/64<W.length:=by omega
  by_cases hq:b/64=a.toNat/64
  ·rw[hq,List.getD_eq_getElem?_getD,List.getElem?_set_self hk]
   show bitF (W.getD (a.toNat/64) 0|||2^(a.toNat%64)) (b%64)=_;have key: ∀w:Nat,bitF (w|||2^(a.toNat%64)) (b%64)=(bitF w (b%64)||decide (b=a.toNat)):=by
    intro w;unfold bitF;rw[←Nat.testBit_eq_decide_div_mod_eq,←Nat.testBit_eq_decide_div_mod_eq,Nat.testBit_or,Nat.testBit_two_pow];congr 1;exact decide_eq_decide.2 (by omega)
   rw[key,List.getD_eq_getElem?_getD]
  ·rw[List.getD_eq_getElem?_getD,List.getElem?_set_ne (by omega),decide_eq_false (show ¬b=a.toNat by omega),Bool.or_false,List.getD_eq_getElem?_getD]
theorem Znj {Bd:Za} (h:ZdT Bd) (n:Nat) {f:Bool} {i j m:Nat} {W:List Nat} (a:Int) (st:St) (hs:SetM st f i j m W):
  run Bd (n+1) 209 [.ptr (some (i,0)),.int .i64 a] st=some (.val [.bool (mayF m a)],st):=by
 rw[Zf,h.eq];unfold Zd4 mayF;simp only[J_p,J_i,D_nil,Zc,nn_some'];by_cases h0:a≥0
 ·rw[decide_eq_true h0,cond_true,Zn hs.hd rfl]
  simp only[D_int,J_b,D_nil,Zb,Bool.true_and]
 ·rw[decide_eq_false h0,cond_false]
  simp only[J_b,D_nil,Zb,Bool.false_and]
theorem Ztp {a:Int} (h:0≤a):a.tdiv 64=((a.toNat/64:Nat):Int):=by
 obtain⟨k,rfl⟩: ∃k:Nat,a=k:=⟨a.toNat,by omega⟩;rfl
theorem Zxf {a:Int} (h:0≤a):a.tmod 64=((a.toNat%64:Nat):Int):=by
 obtain⟨k,rfl⟩: ∃k:Nat,a=k:=⟨a.toNat,by omega⟩;rfl
theorem ZzD {w j:Nat} (hw:w<18446744073709551616) (hj:j<64):(bits .and .u64 ((w:Int).fdiv (2^(min j 64))) 1==1)=bitF w j:=by
 rw[Nat.min_eq_left (by omega),show((2:Int)^j)=((2^j:Nat):Int) by push_cast;rfl,Zf0];have h1:w/2^j<18446744073709551616:=Nat.lt_of_le_of_lt (Nat.div_le_self _ _) hw;rw[show(1:Int)=((1:Nat):Int)from rfl,and64 h1 (by decide),Nat.and_one_is_mod];unfold bitF;rw[ZgT _ 1 _ rfl]
theorem Znc {Bd:Za} (h:ZdR Bd) (n:Nat) {f:Bool} {i j m:Nat} {W:List Nat} (a:Int) (st:St) (hs:SetM st f i j m W):
  run Bd (n+2) 184 [.ptr (some (i,0)),.int .i64 a] st=some (.val [.bool (mayF m a&&inW W a.toNat)],st):=by
 rw[Zf,h.eq];unfold Zeb;simp only[J_p,J_i,D_nil,Zc,nn_some'];rw[Zi (Znj h.q47 n a st hs)];simp only[J_b,D_nil];cases hm:mayF m a with
 |false=>rfl
 |true=>
  have hm':=hm;unfold mayF at hm';rw[Bool.and_eq_true,decide_eq_true_iff,decide_eq_true_iff]at hm';have hle:=hs.le;have hlen:=hs.len;have hk:a.toNat/64<W.length:=by omega
  rw[cond_true,Zn hs.hd rfl];simp only[D_slice,nn_some'];rw[Ztp hm'.1,Zxf hm'.1,Zd (by omega) (by omega),Ze (Zl hk),Int.toNat_natCast,Int.toNat_natCast];rw[Zn (d:= .int .u64 (W[a.toNat/64]'hk:Nat)) hs.wd (by rw[Nat.mul_one,Nat.add_zero];simp[Zp,hk])];simp only[D_int];have hlt:=hs.lt _ (List.getElem_mem hk);rw[Ze (decide_eq_true (by omega)),ZzD hlt (by omega),Bool.true_and];unfold inW;rw[List.getD_eq_getElem?_getD,List.getElem?_eq_getElem hk];rfl
theorem Z1 {st:St} {j k:Nat} {cs:List DV} {d:DV} (h:st[j]? =some (some ⟨false,cs⟩)) (hk:k<cs.length) (K:M β):M.store j k [d] K st=K (st.set j (some ⟨false,cs.set k d⟩)):=by
 unfold M.store St.open?;rw[h];simp only[List.length_singleton,Nat.ble_eq_true_of_le (show k+1≤cs.length by omega),cond_true,Ze6 d cs k hk]
theorem SetM.add {st:St} {i j m:Nat} {W:List Nat} (hs:SetM st false i j m W) (hij:i≠j) (W':List Nat) (hl:W'.length=W.length) (hlt: ∀w∈W',w<18446744073709551616):SetM (st.set j (some ⟨false,Zp W'⟩)) false i j m W':=by
 have hj:j<st.length:=(List.getElem?_eq_some_iff.1 hs.wd).1;refine⟨?_,?_,by rw[hl];exact hs.len,hlt,hs.le⟩
 ·rw[List.getElem?_set_ne (by omega),hl];exact hs.hd
 ·rw[List.getElem?_set_self hj]
theorem Zeg {Bd:Za} (h:Zbw Bd) (n:Nat) {i j m:Nat} {W:List Nat} (l:List Int) (p:Option (Nat×Nat)) (st:St) (hs:SetM st false i j m W) (hij:i≠j) (hl:Sl st p (ints l)) (hp:Off [j] p) (hll:l.length<1000000) (hn:l.length+3≤n):
  run Bd n 206 [.ptr (some (i,0)),.slice 1 p l.length] st=some (.val [],st.set j (some ⟨false,Zp (l.foldl (addW m) W)⟩)):=by
 obtain⟨n,rfl⟩: ∃k,n=k+2:=⟨n-2,by omega⟩;rw[Zf,h.eq];unfold ZdV;simp only[J_p,J_l,D_nil,Zc];refine ok_eq ?_;have e0:st=st.set j (some ⟨false,Zp W⟩):=by
  have hj:j<st.length:=(List.getElem?_eq_some_iff.1 hs.wd).1;refine List.ext_getElem? fun k=>?_
  by_cases e:j=k
  ·subst e;rw[List.getElem?_set_self hj,hs.wd]
  ·rw[List.getElem?_set_ne e]
 refine Zk _ (fun q y s=>∃k:Nat,y=[.int .i64 k]∧k≤l.length∧l.length-k≤q∧s=st.set j (some ⟨false,Zp ((l.take k).foldl (addW m) W)⟩)∧SetM s false i j m ((l.take k).foldl (addW m) W)) ?_ l.length (n+1) _ _ ⟨0,rfl,Nat.zero_le _,by omega,by rw[List.take_zero];exact e0,by rw[List.take_zero];exact hs⟩ (by omega);rintro q _ s ⟨k,rfl,hk,hq,hst,hsm⟩ rec hrec;simp only[J_i,D_nil];by_cases hlt:k<l.length
 ·have hls:Sl s p (ints l):=by rw[hst];exact Sl.fx hl (Fx.set st j _) hp
  obtain⟨i1,o1,rfl⟩:=hls.some_of (by simp[ints];omega);rw[decide_eq_true (show(k:Int)<(l.length:Int) by omega),cond_true,nn_some',Ze (Zl hlt),Int.toNat_natCast,hls.get1 (Zw hlt)];simp only[D_int];rw[Zi (Znj h.q47 n l[k] s hsm)];simp only[J_b,D_nil];have hw:wr64 ((k:Int)+1)=((k+1:Nat):Int):=Zd (by omega) (by omega);have hts:(l.take (k+1)).foldl (addW m) W=addW m ((l.take k).foldl (addW m) W) l[k]:=by
   rw[List.take_succ_eq_append_getElem hlt,List.foldl_append];rfl
  generalize hV:(l.take k).foldl (addW m) W=V at hst hsm hts;cases hm:mayF m l[k]with
  |false=>
   rw[cond_false,hw];have hav:addW m V l[k]=V:=by unfold addW;rw[hm];rfl
   exact hrec (l.length-(k+1)) _ _ (by omega) ⟨k+1,rfl,by omega,Nat.le_refl _,by rw[hts,hav];exact hst,by rw[hts,hav];exact hsm⟩
  |true=>
   have hm':=hm;unfold mayF at hm';rw[Bool.and_eq_true,decide_eq_true_iff,decide_eq_true_iff]at hm';have hle:=hs.le;have hlen:=hsm.len;have hkV:l[k].toNat/64<V.length:=by omega
   rw[cond_true,nn_some',Zn hsm.hd rfl];simp only[D_slice,nn_some'];rw[Ztp hm'.1,Zxf hm'.1,Zd (by omega) (by omega),Ze (Zl hkV),Int.toNat_natCast,Int.toNat_natCast];rw[Zn (d:= .int .u64 (V[l[k].toNat/64]'hkV:Nat)) hsm.wd (by rw[Nat.mul_one,Nat.add_zero];simp[Zp,hkV])];simp only[D_int];have hlt:=hsm.lt _ (List.getElem_mem hkV);have hp2:2^(l[k].toNat%64)<18446744073709551616:=Nat.pow_lt_pow_right (a:=2) (n:=64) (by decide) (by omega);rw[Ze (decide_eq_true (by omega)),Ze (Zl hkV),Nat.min_eq_left (by omega),Int.one_mul,show((2:Int)^(l[k].toNat%64))=((2^(l[k].toNat%64):Nat):Int) by push_cast;rfl,Zfu hp2,or64 hlt hp2];rw[Z1 hsm.wd (by rw[Zkr,Nat.mul_one,Nat.add_zero];exact hkV),hw,Nat.mul_one];have hav:addW m V l[k]=V.set (l[k].toNat/64) (V[l[k].toNat/64]'hkV|||2^(l[k].toNat%64)):=by
    unfold addW;rw[hm,cond_true,List.getD_eq_getElem?_getD,List.getElem?_eq_getElem hkV];rfl
   have hcells:(Zp V).set (l[k].toNat/64+0) (.int .u64 ((V[l[k].toNat/64]'hkV|||2^(l[k].toNat%64):Nat):Int))=Zp (addW m V l[k]):=by
    rw[hav,Nat.add_zero];unfold Zp;rw[List.map_set]
   rw[hcells];refine hrec (l.length-(k+1)) _ _ (by omega) ⟨k+1,rfl,by omega,Nat.le_refl _,?_,?_⟩
   ·rw[hts,hst,List.set_set]
   ·rw[hts];exact hsm.add hij _ (Zf8 _ _ _) (Zqy hsm.lt)
 ·rw[decide_eq_false (show ¬(k:Int)<(l.length:Int) by omega),cond_false]
  simp only[Zb];rw[hst,List.take_of_length_le (by omega)];exact .mk rfl
def setOf (n:Nat) (l:List Int):List Nat:=l.foldl (addW n) (List.replicate ((n+63)/64) 0)
theorem ZbZ (n:Nat): ∀(l:List Int) (W:List Nat),(l.foldl (addW n) W).length=W.length∧((∀w∈W,w<18446744073709551616)→∀w∈l.foldl (addW n) W,w<18446744073709551616)
 |[],_=>⟨rfl,id⟩
 |a::l,W=>⟨by rw[List.foldl_cons,(ZbZ n l _).1,Zf8],fun h=>(ZbZ n l _).2 (Zqy h)⟩
theorem ZkG {Bd:Za} (h:Zg3 Bd) (n m:Nat) (l:List Int) (p:Option (Nat×Nat)) (st:St) (hm:m≤3072) (hl:Sl st p (ints l)) (hll:l.length<1000000) (hn:l.length+4≤n):
  ∃s',run Bd n 177 [.int .i64 m,.slice 1 p l.length] st=some (.val [.ptr (some (st.length+1,0))],s')∧Pre st s'∧s'.length=st.length+2∧SetM s' false (st.length+1) st.length m (setOf m l):=by
 obtain⟨n,rfl⟩: ∃k,n=k+1:=⟨n-1,by omega⟩;rw[Zf,h.eq];unfold ZiX;simp only[J_i,J_l,D_nil];have h0:(if ((m:Nat):Int)<0 then(0:Int)else m)=m:=if_neg (by omega);have h1:(if (3072:Int)<((m:Nat):Int)then(3072:Int)else m)=m:=if_neg (by omega);have h2:wr64 ((wr64 ((wr64 (((m:Nat):Int)+64))-1)).tdiv 64)=(((m+63)/64:Nat):Int):=by
  rw[Zd (x:=((m:Nat):Int)+64) (by omega) (by omega),show(((m:Nat):Int)+64-1)=((m+63:Nat):Int) by omega,Zd (x:=((m+63:Nat):Int)) (by omega) (by omega),show(((m+63:Nat):Int).tdiv 64)=(((m+63)/64:Nat):Int)from rfl];exact Zd (by omega) (by omega)
 simp only[h0,h1,h2,Int.toNat_natCast];rw[Ze (by rw[Bool.and_eq_true,Bool.and_eq_true,decide_eq_true_iff,decide_eq_true_iff,decide_eq_true_iff];omega),Zu,Zu];have hw:rep ((m+63)/64) [DV.int .u64 0]=Zp (List.replicate ((m+63)/64) 0):=by rw[ZhU];simp[Zp]
 rw[hw];have hlen1:(st++[some (⟨false,Zp (List.replicate ((m+63)/64) 0)⟩:Blk)]).length=st.length+1:=by simp
 rw[hlen1];have hp:Pre st (st++[some (⟨false,Zp (List.replicate ((m+63)/64) 0)⟩:Blk)]++[some (⟨false,[.int .i64 m,.slice 1 (some (st.length,0)) ((m+63)/64)]⟩:Blk)]):=(Pre.new _ _).trans (.new _ _);have hsm:SetM (st++[some (⟨false,Zp (List.replicate ((m+63)/64) 0)⟩:Blk)]++[some (⟨false,[.int .i64 m,.slice 1 (some (st.length,0)) ((m+63)/64)]⟩:Blk)]) false (st.length+1) st.length m (List.replicate ((m+63)/64) 0):=by
  refine⟨?_,?_,by simp,fun w hw=>by rw[List.eq_of_mem_replicate hw];decide,hm⟩
  ·rw[List.getElem?_append_right (by simp)];simp
  ·rw[List.getElem?_append_left (by simp),List.getElem?_append_right (Nat.le_refl _),Nat.sub_self];rfl
 have hlen2:(st++[some (⟨false,Zp (List.replicate ((m+63)/64) 0)⟩:Blk)]++[some (⟨false,[.int .i64 m,.slice 1 (some (st.length,0)) ((m+63)/64)]⟩:Blk)]).length=st.length+2:=by simp
 generalize st++[some (⟨false,Zp (List.replicate ((m+63)/64) 0)⟩:Blk)]++[some (⟨false,[.int .i64 m,.slice 1 (some (st.length,0)) ((m+63)/64)]⟩:Blk)]=s2 at hp hsm hlen2;have hoff:Off [st.length] p:=by
  intro b o e hb;subst e;have:=Sl.lt hl;rw[List.mem_singleton.1 hb]at this;omega
 rw[Zi (Zeg h.q45 n l p s2 hsm (by omega) (hl.mono hp) hoff hll (by omega))];simp only[D_nil,Zb];exact⟨_,rfl,Zcj hp (Nat.le_refl _) _,by simp[hlen2],hsm.add (by omega) _ (ZbZ m l _).1 ((ZbZ m l _).2 hsm.lt)⟩
end Go.Gv.F
