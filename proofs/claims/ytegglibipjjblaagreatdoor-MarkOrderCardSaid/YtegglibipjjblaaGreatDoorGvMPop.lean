/- How many bits a word has: the library's sum of fields is the number of its bits. -/
import Derived.Test.YtegglibipjjblaaGreatDoorGvZMe
namespace Go.Gv.F
open Go.Gv
theorem ZiN (a b c d:Nat) (ha:a<16) (hc:c<16):(a+16*b)&&& (c+16*d)=(a&&& c)+16*(b&&& d):=by
 have h1:a+16*b=2^4*b+a:=by omega
 have h2:c+16*d=2^4*d+c:=by omega
 have h3:(a&&& c)+16*(b&&& d)=2^4*(b&&& d)+(a&&& c):=by omega
 have hac:a&&& c<2^4:=Nat.lt_of_le_of_lt Nat.and_le_left ha
 rw [h1,h2,h3]
 refine Nat.eq_of_testBit_eq fun j=>?_
 rw [Nat.testBit_and,ZeP 4 _ _ j ha,ZeP 4 _ _ j hc,ZeP 4 _ _ j hac]
 by_cases h:j<4
 ·rw [if_pos h,if_pos h,if_pos h,Nat.testBit_and]
 ·rw [if_neg h,if_neg h,if_neg h,Nat.testBit_and]
theorem Zxn (a b c d:Nat) (ha:a<256) (hc:c<256):(a+256*b)&&& (c+256*d)=(a&&& c)+256*(b&&& d):=by
 have h1:a+256*b=2^8*b+a:=by omega
 have h2:c+256*d=2^8*d+c:=by omega
 have h3:(a&&& c)+256*(b&&& d)=2^8*(b&&& d)+(a&&& c):=by omega
 have hac:a&&& c<2^8:=Nat.lt_of_le_of_lt Nat.and_le_left ha
 rw [h1,h2,h3]
 refine Nat.eq_of_testBit_eq fun j=>?_
 rw [Nat.testBit_and,ZeP 8 _ _ j ha,ZeP 8 _ _ j hc,ZeP 8 _ _ j hac]
 by_cases h:j<8
 ·rw [if_pos h,if_pos h,if_pos h,Nat.testBit_and]
 ·rw [if_neg h,if_neg h,if_neg h,Nat.testBit_and]
def rep16:Nat→Nat
 |0=>0
 |k+1=>1+16*rep16 k
def ZhS:Nat→Nat
 |0=>0
 |k+1=>1+256*ZhS k
def pop4 (n:Nat):Nat:=((List.range 4).filter (bitF n)).length
def g1 (n:Nat):Nat:=(n/2&&& 5)+(n&&& 5)
def st1:Nat→Nat→Nat
 |0,_=>0
 |k+1,x=>g1 (x%16)+16*st1 k (x/16)
def st2:Nat→Nat→Nat
 |0,_=>0
 |k+1,x=>pop4 (x%16)+16*st2 k (x/16)
def st8:Nat→Nat→Nat
 |0,_=>0
 |k+1,x=>(pop4 (x%16)+pop4 (x/16%16))+256*st8 k (x/256)
theorem Zfb: ∀n,n<16→g1 n<16∧pop4 n≤4∧(g1 n/4+g1 n%4)=pop4 n∧(n/2+8)&&& 5=n/2&&& 5:=by decide+kernel
theorem and3: ∀n,n<16→n&&& 3=n%4:=by decide+kernel
theorem and3': ∀n,n<16→∀b,b<4→(n/4+4*b)&&& 3=n/4:=by decide+kernel
theorem ZvP: ∀(k x:Nat),x<16^k→(x/2&&& 5*rep16 k)+(x&&& 5*rep16 k)=st1 k x
 |0,x,h=>by
  have:x=0:=by simp at h;exact h
  subst this
  rfl
 |k+1,x,h=>by
  have hx':x/16<16^k:=by rw [Nat.pow_succ] at h;omega
  have ih:=ZvP k (x/16) hx'
  have e1:5*rep16 (k+1)=5+16*(5*rep16 k):=by show 5*(1+16*rep16 k)=_;omega
  have e2:x=x%16+16*(x/16):=by omega
  have e3:x/2=(x%16/2+8*(x/16%2))+16*(x/16/2):=by omega
  have hn:x%16<16:=by omega
  have e4:(x%16/2+8*(x/16%2))&&& 5=x%16/2&&& 5:=by
   rcases Nat.mod_two_eq_zero_or_one (x/16) with hb|hb
   ·rw [hb];rfl
   ·rw [hb];exact (Zfb _ hn).2.2.2
  have a1:x/2&&& 5*rep16 (k+1)=(x%16/2&&& 5)+16*(x/16/2&&& 5*rep16 k):=by
   rw [e1]
   conv=>lhs;rw [e3]
   rw [ZiN _ _ _ _ (by omega) (by omega),e4]
  have a2:x&&& 5*rep16 (k+1)=(x%16&&& 5)+16*(x/16&&& 5*rep16 k):=by
   rw [e1]
   conv=>lhs;rw [e2]
   rw [ZiN _ _ _ _ hn (by omega)]
  rw [a1,a2]
  unfold st1 g1
  omega
def st3:Nat→Nat→Nat
 |0,_=>0
 |k+1,y=>(y%16/4+y%16%4)+16*st3 k (y/16)
theorem ZvU: ∀(k y:Nat),y<16^k→(y/4&&& 3*rep16 k)+(y&&& 3*rep16 k)=st3 k y
 |0,y,h=>by
  have:y=0:=by simp at h;exact h
  subst this
  rfl
 |k+1,y,h=>by
  have hx':y/16<16^k:=by rw [Nat.pow_succ] at h;omega
  have ih:=ZvU k (y/16) hx'
  have e1:3*rep16 (k+1)=3+16*(3*rep16 k):=by show 3*(1+16*rep16 k)=_;omega
  have e2:y=y%16+16*(y/16):=by omega
  have e3:y/4=(y%16/4+4*(y/16%4))+16*(y/16/4):=by omega
  have hn:y%16<16:=by omega
  have a1:y/4&&& 3*rep16 (k+1)=y%16/4+16*(y/16/4&&& 3*rep16 k):=by
   rw [e1]
   conv=>lhs;rw [e3]
   rw [ZiN _ _ _ _ (by omega) (by omega),and3' _ hn _ (by omega)]
  have a2:y&&& 3*rep16 (k+1)=y%16%4+16*(y/16&&& 3*rep16 k):=by
   rw [e1]
   conv=>lhs;rw [e2]
   rw [ZiN _ _ _ _ hn (by omega),and3 _ hn]
  rw [a1,a2]
  show _=(y%16/4+y%16%4)+16*st3 k (y/16)
  omega
theorem ZvR: ∀(k x:Nat),st1 k x<16^k
 |0,x=>Nat.zero_lt_one
 |k+1,x=>by
  have:=ZvR k (x/16)
  have h2:=(Zfb (x%16) (by omega)).1
  show g1 (x%16)+16*st1 k (x/16)<_
  rw [Nat.pow_succ]
  omega
theorem st12: ∀(k x:Nat),st3 k (st1 k x)=st2 k x
 |0,x=>rfl
 |k+1,x=>by
  obtain ⟨h1,h2,h3,_⟩:=Zfb (x%16) (by omega)
  have e1:st1 (k+1) x%16=g1 (x%16):=by show (g1 (x%16)+16*st1 k (x/16))%16=_;omega
  have e2:st1 (k+1) x/16=st1 k (x/16):=by show (g1 (x%16)+16*st1 k (x/16))/16=_;omega
  have ih:=st12 k (x/16)
  show (st1 (k+1) x%16/4+st1 (k+1) x%16%4)+16*st3 k (st1 (k+1) x/16)=_
  rw [e1,e2,h3,ih]
  rfl
theorem Zyp: ∀(k x:Nat),st2 k x%16≤4
 |0,x=>Nat.zero_le _
 |k+1,x=>by
  have h2:=(Zfb (x%16) (by omega)).2.1
  show (pop4 (x%16)+16*st2 k (x/16))%16≤4
  omega
theorem ZwM: ∀(j x:Nat),(st2 (2*j) x/16+st2 (2*j) x)&&& 15*ZhS j=st8 j x
 |0,x=>Nat.and_zero _
 |j+1,x=>by
  have hx:=ZwM j (x/256)
  have hd:=Zyp (2*j) (x/256)
  have h1:=(Zfb (x%16) (by omega)).2.1
  have h2:=(Zfb (x/16%16) (by omega)).2.1
  have e0:st2 (2*(j+1)) x=pop4 (x%16)+16*(pop4 (x/16%16)+16*st2 (2*j) (x/256)):=by
   show pop4 (x%16)+16*(pop4 (x/16%16)+16*st2 (2*j) (x/16/16))=_
   rw [Nat.div_div_eq_div_mul]
  have e1:15*ZhS (j+1)=15+256*(15*ZhS j):=by show 15*(1+256*ZhS j)=_;omega
  show _=(pop4 (x%16)+pop4 (x/16%16))+256*st8 j (x/256)
  rw [e0,e1]
  generalize st2 (2*j) (x/256)=y at hx hd
  generalize pop4 (x%16)=p at h1
  generalize pop4 (x/16%16)=r at h2
  have e2:(p+16*(r+16*y))/16+(p+16*(r+16*y))=(p+r+16*(r+y%16))+256*(y/16+y):=by omega
  rw [e2,Zxn _ _ _ _ (by omega) (by omega),hx]
  have e3:(p+r+16*(r+y%16))&&& 15=p+r:=by
   have:(p+r+16*(r+y%16))&&& (2^4-1)=(p+r+16*(r+y%16))%2^4:=Nat.and_two_pow_sub_one_eq_mod _ 4
   rw [show (2:Nat)^4-1=15 from rfl,show (2:Nat)^4=16 from rfl] at this
   rw [this];omega
  rw [e3]
def popN:Nat→Nat→Nat
 |0,_=>0
 |k+1,x=>pop4 (x%16)+popN k (x/16)
theorem Zu1 (x i:Nat):bitF x (4+i)=bitF (x/16) i:=by
 unfold bitF
 rw [Nat.pow_add,←Nat.div_div_eq_div_mul]
theorem ZxL (x:Nat): ∀i,i<4→bitF x i=bitF (x%16) i:=fun i hi=>by
 have:i=0∨i=1∨i=2∨i=3:=by omega
 unfold bitF
 rcases this with rfl|rfl|rfl|rfl
 ·congr 1;simp only [Nat.pow_zero,Nat.div_one];exact propext ⟨fun h=>by omega,fun h=>by omega⟩
 ·congr 1;simp only [Nat.pow_one];exact propext ⟨fun h=>by omega,fun h=>by omega⟩
 ·congr 1;rw [show (2:Nat)^2=4 from rfl];exact propext ⟨fun h=>by omega,fun h=>by omega⟩
 ·congr 1;rw [show (2:Nat)^3=8 from rfl];exact propext ⟨fun h=>by omega,fun h=>by omega⟩
theorem ZuW: ∀(k x:Nat),((List.range (4*k)).filter (bitF x)).length=popN k x
 |0,x=>rfl
 |k+1,x=>by
  have e:4*(k+1)=4+4*k:=by omega
  rw [e,List.range_add,List.filter_append,List.length_append,List.filter_map,List.length_map]
  have h1:(List.range 4).filter (bitF x)=(List.range 4).filter (bitF (x%16)):=List.filter_congr fun i hi=>ZxL x i (List.mem_range.1 hi)
  have h2:(bitF x∘fun i=>4+i)=bitF (x/16):=funext fun i=>Zu1 x i
  rw [h1,h2,ZuW k (x/16)]
  rfl
end Go.Gv.F
