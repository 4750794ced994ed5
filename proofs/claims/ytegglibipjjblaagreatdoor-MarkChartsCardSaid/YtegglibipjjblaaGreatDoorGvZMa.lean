/- Numbers as octets, the least one first. -/
import Derived.Test.YtegglibipjjblaaGreatDoorGvZLib
import Derived.Test.YtegglibipjjblaaGreatDoorGvBMk
import Derived.Test.YtegglibipjjblaaGreatDoorGvZPg
import Derived.Test.YtegglibipjjblaaGreatDoorGvZPf
namespace Go.Gv.F
open Go.Gv
def ft:List UInt8->Nat
 |[]=>0
 |c::l=>c.toNat+256*ft l
def bR:Nat->Nat->List UInt8
 |_,0=>[]
 |v,n+1=>UInt8.ofNat v::bR (v/256) n
theorem Zq: ∀(v n:Nat),(bR v n).length=n
 |_,0=>rfl
 |v,n+1=>by rw[bR,dF,Zq]
theorem JI: ∀(l:List UInt8),ft l<256^l.length
 |[]=>by decide
 |c::l=>by
  have h1:=c.toNat_lt;have h2:=JI l;rw[ft,dF,nb];omega
theorem Pw: ∀(v n:Nat),ft (bR v n)=v%256^n
 |v,0=>by simp[bR,ft,Nat.mod_one]
 |v,n+1=>by
  rw[bR,ft,Pw,nb,pq (256^n),Nat.mod_mul];have:(UInt8.ofNat v).toNat=v%256:=rfl;rw[this]
theorem ZuP: ∀(l:List UInt8),bR (ft l) l.length=l
 |[]=>rfl
 |c::l=>by
  have h1:=c.toNat_lt;rw[ft,dF,bR,show(c.toNat+256*ft l)/256=ft l by omega,ZuP l];congr 1;refine UInt8.toNat_inj.1 ?_;show(c.toNat+256*ft l)%256=_;omega
theorem ZwK: ∀(l m:List UInt8),ft (l++m)=ft l+256^l.length*ft m
 |[],m=>by simp[ft]
 |c::l,m=>by
  rw[kz,ft,ft,ZwK l m,dF,nb,Nat.mul_add,<-Nat.mul_assoc,pq 256 (256^l.length)];omega
theorem ZuJ: ∀(v m n:Nat),bR v (m+n)=bR v m++bR (v/256^m) n
 |v,0,n=>by simp[bR]
 |v,m+1,n=>by
  rw[show m+1+n=(m+n)+1 by omega,bR,bR,ZuJ (v/256) m n,kz,nb,pq (256^m),LU]
end Go.Gv.F
namespace Go.Gv.F
open Go.Gv
def lM (x:Nat):Nat:=if x%2=1 then(x/2)^^^2197175160 else x/2
def Zx:Nat->Nat->Nat
 |0,x=>x
 |n+1,x=>Zx n (lM x)
def oR (x:Nat) (c:UInt8):Nat:=Zx 8 (x^^^c.toNat)
def lB (l:List UInt8):Nat:=4294967295-l.foldl oR 4294967295
theorem ZA7 (a b:Nat):(a^^^b)%2=(a+b)%2:=by
 have h:=Nat.testBit_xor a b 0;simp only[Nat.testBit_zero]at h;have e: ∀p q r:Nat,decide (p%2=1)=(decide (q%2=1)^^decide (r%2=1))->p%2=(q+r)%2:=by
  intro p q r h;rcases zX p with hp|hp<;>rcases zX q with hq|hq<;>rcases zX r with hr|hr<;>simp[hp,hq,hr]at h⊢ <;>omega
 exact e _ _ _ h
theorem ZzY (a b:Nat):(a^^^b)/2=(a/2)^^^(b/2):=by
 have:=Nat.shiftRight_xor_distrib (a:=a) (b:=b) (i:=1);simpa [Nat.shiftRight_succ]using this
theorem ZyB (a b:Nat):lM (a^^^b)=lM a^^^lM b:=by
 unfold lM;rw[ZA7,ZzY];rcases zX a with ha|ha<;>rcases zX b with hb|hb
 ·rw[ax (by omega),ax (by omega),ax (by omega)]
 ·rw[aG (by omega),ax (by omega),aG (by omega),Nat.xor_assoc]
 ·rw[aG (by omega),aG (by omega),ax (by omega),Nat.xor_assoc,Nat.xor_comm (b/2),<-Nat.xor_assoc]
 ·rw[ax (by omega),aG (by omega),aG (by omega)]
  rw[Nat.xor_assoc,Nat.xor_comm 2197175160 (b/2^^^2197175160),Nat.xor_assoc,Nat.xor_self,Nat.xor_zero]
theorem ZpG: ∀(n a b:Nat),Zx n (a^^^b)=Zx n a^^^Zx n b
 |0,_,_=>rfl
 |n+1,a,b=>by rw[Zx,Zx,Zx,ZyB,ZpG n]
theorem Zpw: ∀(m n x:Nat),Zx (m+n) x=Zx n (Zx m x)
 |0,n,x=>by rw[dj];rfl
 |m+1,n,x=>by rw[show m+1+n=(m+n)+1 by omega,Zx,Zx,Zpw m n]
theorem Je (z:Nat):lM (2*z)=z:=by unfold lM;rw[ax (by omega)];omega
theorem ZAM (x:Nat):x=(16*(x/16))^^^(x%16):=by
 refine B6 fun i=>?_
 rw[Nat.testBit_xor];have e1:(16*(x/16)).testBit i=(decide (4<=i)&&x.testBit i):=by
  rw[show 16*(x/16)=2^4*(x/2^4)from rfl,Nat.testBit_two_pow_mul];by_cases h:4<=i
  ·rw[ah h,Nat.testBit_div_two_pow,show i-4+4=i by omega]
  ·rw[ao h];simp
 have e2:(x%16).testBit i=(decide (i<4)&&x.testBit i):=by
  rw[show x%16=x%2^4 from rfl,Nat.testBit_mod_two_pow]
 rw[e1,e2];by_cases h:4<=i
 ·rw[ah h,ao (by omega)];simp
 ·rw[ao h,ah (by omega)];simp
theorem nib (x:Nat):Zx 4 x=(x/16)^^^Zx 4 (x%16):=by
 have h:Zx 4 (16*(x/16))=x/16:=by
  generalize x/16=y;show lM (lM (lM (lM (16*y))))=y;rw[show 16*y=2*(2*(2*(2*y))) by omega,Je,Je,Je,Je]
 have h2:=ZpG 4 (16*(x/16)) (x%16);rw[<-ZAM,h]at h2;exact h2
theorem Zt3 {x:Nat} (h:x<4294967296):lM x<4294967296:=by
 unfold lM;split
 ·exact Cc (n:=32) (by omega) (by omega)
 ·omega
theorem CM: ∀(n:Nat) {x:Nat},x<4294967296->Zx n x<4294967296
 |0,_,h=>h
 |n+1,_,h=>CM n (Zt3 h)
theorem ZA6 {x:Nat} (h:x<4294967296) (c:UInt8):oR x c<4294967296:=
 CM 8 (Cc (n:=32) h (by have:=c.toNat_lt;omega))
theorem C6: ∀(l:List UInt8) {x:Nat},x<4294967296->l.foldl oR x<4294967296
 |[],_,h=>h
 |c::l,_,h=>C6 l (ZA6 h c)
theorem Jx (l:List UInt8):lB l<4294967296:=by unfold lB;omega
theorem ZAl (x:Nat) (c:UInt8):oR x c=((((x^^^c.toNat)/16)^^^Zx 4 ((x^^^c.toNat)%16))/16)^^^Zx 4 ((((x^^^c.toNat)/16)^^^Zx 4 ((x^^^c.toNat)%16))%16):=by
 unfold oR;generalize x^^^c.toNat=y;rw[show Zx 8 y=Zx 4 (Zx 4 y)from Zpw 4 4 y,nib y];exact nib _
theorem ZAD {x:Nat} (h:x<4294967296):x^^^4294967295=4294967295-x:=by
 refine B6 fun i=>?_
 rw[show(4294967295:Nat)=2^32-1 from rfl,Nat.testBit_xor,Nat.testBit_two_pow_sub_one,show 2^32-1-x=2^32-(x+1) by omega,Nat.testBit_two_pow_sub_succ (by omega)];by_cases hi:i<32
 ·rw[ah hi];simp
 ·rw[ao hi]
  have:x.testBit i=false:=Cb (jH (show x<2^32 by omega) (oh (by decide) (show 32<=i by simpa using hi)));simp[this]
end Go.Gv.F
namespace Go.Gv.F
open Go.Gv
variable {β:Type}
theorem uN {x:Nat} (h:x<18446744073709551616):IntKind.wrap .u64 (x:Int)=x:=IntWalk.u64_in _ (by omega)
theorem wA {x:Nat} (h:x<4294967296):IntKind.wrap .u32 (x:Int)=x:=by
 show(x:Int)%_=x;have:((2:Int)^32)=4294967296:=by decide
 show(x:Int)%(2^32)=x;omega
theorem ZBb (x:Nat):IntKind.wrap .u64 (x:Int)=((x%18446744073709551616:Nat):Int):=by
 show(x:Int)%(2^64)=_;have:((2:Int)^64)=18446744073709551616:=by decide
 omega
theorem Di {x:Nat} (h:x<18446744073709551616):(BitVec.ofInt 64 (x:Int)).toNat=x:=by
 rw[Fs];omega
theorem JY {x:Nat} (h:x<4294967296):(BitVec.ofInt 32 (x:Int)).toNat=x:=by
 rw[Fs];omega
theorem V2 {x y:Nat} (hx:x<18446744073709551616) (hy:y<18446744073709551616):bits .or .u64 (x:Int) (y:Int)=((x|||y:Nat):Int):=by
 show IntKind.wrap .u64 ((BitVec.ofInt 64 (x:Int)|||BitVec.ofInt 64 (y:Int)).toNat:Int)=_;rw[BitVec.toNat_or,Di hx,Di hy];exact uN (FB (n:=64) hx hy)
theorem Uj {x y:Nat} (hx:x<18446744073709551616) (hy:y<18446744073709551616):bits .and .u64 (x:Int) (y:Int)=((x&&& y:Nat):Int):=by
 show IntKind.wrap .u64 ((BitVec.ofInt 64 (x:Int)&&& BitVec.ofInt 64 (y:Int)).toNat:Int)=_;rw[BitVec.toNat_and,Di hx,Di hy];exact uN (xW Nat.and_le_left hx)
theorem zK {x y:Nat} (hx:x<4294967296) (hy:y<4294967296):bits .xor .u32 (x:Int) (y:Int)=((x^^^y:Nat):Int):=by
 show IntKind.wrap .u32 ((BitVec.ofInt 32 (x:Int)^^^BitVec.ofInt 32 (y:Int)).toNat:Int)=_;rw[BitVec.toNat_xor,JY hx,JY hy];exact wA (Cc (n:=32) hx hy)
theorem Ui {x y:Nat} (hx:x<4294967296) (hy:y<4294967296):bits .and .u32 (x:Int) (y:Int)=((x&&& y:Nat):Int):=by
 show IntKind.wrap .u32 ((BitVec.ofInt 32 (x:Int)&&& BitVec.ofInt 32 (y:Int)).toNat:Int)=_;rw[BitVec.toNat_and,JY hx,JY hy];exact wA (xW Nat.and_le_left hx)
theorem AJ (x m:Nat):Int.fdiv (x:Int) (m:Int)=((x/m:Nat):Int):=by
 cases m with
 |zero=>simp
 |succ m=>rw[Int.fdiv_eq_ediv_of_nonneg _ (by omega)];rfl
def bj (l:List UInt8):List DV:=l.map fun b=> .int .u8 b.toNat
theorem rX (l:List UInt8):ZF l=bj l:=rfl
theorem Zr (l:List UInt8):(bj l).length=l.length:=by unfold bj;rw[lS]
theorem PC {l:List UInt8} {j:Nat} {b:UInt8} (h:l[j]? =some b):(bj l)[j]? =some (.int .u8 b.toNat):=by unfold bj;rw[gL,h];rfl
theorem ZyK (l:List UInt8) (k:Nat):(bj l).drop k=bj (l.drop k):=by unfold bj;rw[List.map_drop]
theorem Zyg (l:List UInt8) (k:Nat):(bj l).take k=bj (l.take k):=by unfold bj;rw[List.map_take]
theorem yi (l m:List UInt8):bj (l++m)=bj l++bj m:=by unfold bj;rw[dL]
def dp (s:St) (a:Option (Nat×Nat)) (l:List UInt8):Prop:=Sl s a (bj l)
theorem dp.mono {s s':St} (k:ar s s') {a:Option (Nat×Nat)} {l:List UInt8} (h:dp s a l):dp s' a l:=Sl.mono k h
theorem dp.get {s:St} {i o:Nat} {l:List UInt8} (h:dp s (some (i,o)) l) {j:Nat} {b:UInt8} (hb:l[j]? =some b) (K:DV->M β):M.au i (j+o) K s=K (.int .u8 b.toNat) s:=Sl.get h (PC hb) K
theorem dp.cP {s:St} {i o:Nat} {l:List UInt8} (h:dp s (some (i,o)) l) {j:Nat} {b:UInt8} (hb:l[j]? =some b) (K:DV->M β):M.au i (j*1+o) K s=K (.int .u8 b.toNat) s:=by rw[di];exact h.get hb K
theorem dp.ck {s:St} {a:Option (Nat×Nat)} {l:List UInt8} (h:dp s a l) (hn:0<l.length): ∃i o,a=some (i,o):=Sl.ck h (by rw[Zr];exact hn)
theorem Sl.sub {s:St} {i o:Nat} {cs:List DV} (h:Sl s (some (i,o)) cs) {k:Nat} (hk:k<=cs.length):Sl s (some (i,k+o)) (cs.drop k):=by
 obtain⟨f,all,h1,h2,h3⟩:=h;refine⟨f,all,h1,by rw[dt];omega,?_⟩;rw[dt,show k+o=o+k by omega,<-iK,<-List.drop_take,h3]
theorem Sl.cy {s:St} {a:Option (Nat×Nat)} {cs:List DV} (h:Sl s a cs) {k:Nat} (hk:k<=cs.length):Sl s (cy true a k) (cs.drop k):=by
 cases a with
 |none=>rw[show cs=[]from h];simp[Go.Gv.cy,Sl]
 |some p=>exact Sl.sub h hk
theorem Sl.kt {s:St} {a:Option (Nat×Nat)} {cs:List DV} (h:Sl s a cs) (k:Nat):Sl s a (cs.take k):=by
 cases a with
 |none=>rw[show cs=[]from h];simp[Sl]
 |some p=>
  obtain⟨f,all,h1,h2,h3⟩:=h;refine⟨f,all,h1,by rw[bW];omega,?_⟩;rw[bW,<-B4,h3]
theorem dp.cy {s:St} {a:Option (Nat×Nat)} {l:List UInt8} (h:dp s a l) {k:Nat} (hk:k<=l.length):dp s (cy true a k) (l.drop k):=by
 unfold dp;rw[<-ZyK];exact Sl.cy h (by rw[Zr];exact hk)
theorem dp.kt {s:St} {a:Option (Nat×Nat)} {l:List UInt8} (h:dp s a l) (k:Nat):dp s a (l.take k):=by
 unfold dp;rw[<-Zyg];exact Sl.kt h k
theorem Zky {Bd:Za} (h:GP Bd) (n:Nat) (a:Option (Nat×Nat)) (len at' k:Nat) (st:St) (hl:len<1000000) (hk:k<1000000):
  run Bd (n+1) 261 [.slice 1 a len,.int .i64 at',.int .i64 k] st=some (.val [.bool (decide (at'+k<=len))],st):=by
 rw[Zf,h.eq];unfold GM;simp only[bh,al,ai,ae,Zc,ah (show(at':Int)>=0 by omega),ah (show(k:Int)>=0 by omega),cond_true];by_cases h1:k<=len
 ·rw[ah (show(k:Int)<=(len:Int) by omega),cond_true]
  rw[Zb (by omega) (by omega),Ze];by_cases h2:at'+k<=len
  ·rw[ah h2,ah (by omega)]
  ·rw[ao h2,ao (by omega)]
 ·rw[ao (show ¬(k:Int)<=(len:Int) by omega),cond_false]
  rw[Ze,ao (by omega)]
theorem ok_eq {x:Option (Out β×St)} {o:Out β×St} (h:Ok (fun p=>p=o) x):x=some o:=by
 obtain⟨_,e,rfl⟩:=h;exact e
theorem Zzr (l:List UInt8) (c:UInt8):ft (l++[c])=ft l+256^l.length*c.toNat:=by
 rw[ZwK];simp[ft]
theorem ZBp {x c k:Nat} (hx:x<2^k):x|||(c*2^k)=x+c*2^k:=by
 rw[Nat.or_comm,pq,<-Nat.two_pow_add_eq_or_of_lt hx,rH]
theorem Zy3 (k:Nat):256^k=2^(8*k):=by rw[Nat.pow_mul]
theorem wc {Bd:Za} (h:wb Bd) (n:Nat) (a:Option (Nat×Nat)) (l:List UInt8) (st:St) (ha:dp st a l) (hl:l.length<=8) (hn:12<=n):
  run Bd n 285 [.slice 1 a l.length] st=some (.val [.int .u64 (ft l)],st):=by
 obtain⟨n,rfl⟩: ∃m,n=m+1:=⟨n-1,by omega⟩;rw[Zf,h.eq];unfold H0;simp only[bh,ae];have hif:(if (8:Int)<(l.length:Int)then(8:Int)else(l.length:Int))=(l.length:Int):=ax (by omega);simp only[hif];rw[Zd (by simp),Zc];refine ok_eq ?_;refine Zl _ (fun q y s=>∃k:Nat,y=[.int .u64 (ft (l.take k)),.int .i64 k]/\s=st/\k<=l.length/\l.length-k<=q) ?_ l.length n _ _ ⟨0,by simp[ft],rfl,bH _,by omega⟩ (by omega);rintro q _ s ⟨k,rfl,rfl,hk,hq⟩ rec aD;simp only[al,ae,aX];by_cases aj:k<l.length
 ·rw[ah (show(k:Int)<(l.length:Int) by omega),cond_true]
  obtain⟨i,o,rfl⟩:=ha.ck (by omega);obtain⟨c,hc⟩: ∃c,l[k]? =some c:=⟨_,ba aj⟩;rw[aV,Zd (Zk aj),ha.cP hc];simp only[aM];rw[Zb (by omega) (by omega),Zd (ah (by omega)),Zb (by omega) (by omega)];have KE:=c.toNat_lt;have e1:(8*(k:Int)).toNat=8*k:=by omega
  have hp:c.toNat*2^(8*k)<18446744073709551616:=by
   have h1:c.toNat*2^(8*k)<2^8*2^(8*k):=Nat.mul_lt_mul_of_pos_right (by omega) (nc _);have h2:2^8*2^(8*k)<=2^64:=by rw[<-Nat.pow_add];exact oh (by decide) (by omega)
   omega
  rw[e1,j1 (by omega),uN (by omega)];have e2:((c.toNat:Int)*2^(8*k))=((c.toNat*2^(8*k):Nat):Int):=by push_cast;rfl
  rw[e2,uN hp];have U4:ft (l.take k)<2^(8*k):=by
   have:=JI (l.take k)
   rwa [bW,j1 (by omega),Zy3]at this
  have XM:ft (l.take k)<18446744073709551616:=jH U4 (by
   have:2^(8*k)<=2^64:=oh (by decide) (by omega);omega)
  rw[V2 XM hp,ZBp U4];refine aD (l.length-(k+1)) _ _ (by omega) ⟨k+1,?_,rfl,by omega,ay _⟩;have e3:l.take (k+1)=l.take k++[c]:=by
   rw[List.take_add_one,hc];rfl
  rw[e3,Zzr,bW,j1 (by omega),Zy3,pq];simp
 ·rw[ao (show ¬(k:Int)<(l.length:Int) by omega),cond_false]
  rw[Ze,cA (by omega)];exact .mk rfl
end Go.Gv.F
namespace Go.Gv.F
open Go.Gv
variable {β:Type}
def rd (l:List UInt8) (at' k:Nat):Nat:=ft ((l.drop at').take k)
def Zy (l:List UInt8):Bool:=l.all (· ==0)
theorem Af {Bd:Za} (h:wh Bd) (n:Nat) (a:Option (Nat×Nat)) (l:List UInt8) (at' k:Nat) (st:St) (ha:dp st a l) (hl:l.length<1000000) (hk:at'+k<=l.length) (hn:k+5<=n):
  run Bd n 238 [.slice 1 a l.length,.int .i64 at',.int .i64 k] st=some (.val [.bool (Zy ((l.drop at').take k))],st):=by
 obtain⟨n,rfl⟩: ∃m,n=m+2:=⟨n-2,by omega⟩;rw[Zf,h.eq];unfold Gu;simp only[bh,al,ae];rw[Zi (Zky h.TC n a l.length at' k st hl (by omega))];simp only[ai,ae];rw[ah hk,bx,cond_false,Zb (by omega) (by omega)];have e1:((at':Int)+(k:Int)).toNat=at'+k:=by omega
 simp only[e1];rw[Zd (by simp;omega),Zd (by simp;omega),Zc];simp only[aX,di,show at'+k-at'=k by omega];refine ok_eq ?_;have hb:=ha.cy (k:=at') (by omega);generalize hm:l.drop at'=m at hb;have Se:k<=m.length:=by rw[<-hm,dt];omega
 refine Zl _ (fun q y s=>∃j:Nat,y=[.int .i64 j]/\s=st/\j<=k/\k-j<=q/\Zy (m.take j)=true) ?_ k (n+1) _ _ ⟨0,rfl,rfl,bH _,by omega,rfl⟩ (by omega);rintro q _ s ⟨j,rfl,rfl,hj,hq,hz⟩ rec aD;simp only[al,ae];by_cases aj:j<k
 ·rw[ah (show(j:Int)<(k:Int) by omega),cond_true]
  obtain⟨i,o,hio⟩:=hb.ck (by omega);rw[hio]at hb⊢;obtain⟨c,hc⟩: ∃c,m[j]? =some c:=⟨_,ba (by omega)⟩;rw[aV,Zd (Zk aj),aX,hb.get hc];simp only[aM];by_cases h0:c=0
  ·subst h0
   rw[show(!((((0:UInt8).toNat:Nat):Int)==0))=false from rfl,cond_false,Zb (by omega) (by omega)];refine aD (k-(j+1)) _ _ (by omega) ⟨j+1,by simp,rfl,by omega,ay _,?_⟩;have e3:m.take (j+1)=m.take j++[0]:=by rw[List.take_add_one,hc];rfl
   rw[e3];simp[Zy]at hz⊢;exact hz
  ·have hc0:c.toNat≠0:=fun e=>h0 (UInt8.toNat_inj.1 e)
   have e2:(!((c.toNat:Int)==0))=true:=by
    rw[hJ];exact cx.2 (by omega)
   rw[e2,cond_true,Ze];refine .mk ?_;have:Zy (m.take k)=false:=by
    cases e:Zy (m.take k)with
    |false=>rfl
    |true=>
     unfold Zy at e;rw[gv]at e;have:=e c (lh (i:=j) (by rw[lg,aG aj];exact hc));exact absurd (by simpa using this) h0
   rw[this]
 ·rw[ao (show ¬(j:Int)<(k:Int) by omega),cond_false]
  simp only[Ze];have:j=k:=by omega
  subst this;rw[hz];exact .mk rfl
theorem ZtE {Bd:Za} (h:N7 Bd) (n:Nat) (a:Option (Nat×Nat)) (l:List UInt8) (at' k:Nat) (st:St) (ha:dp st a l) (hl:l.length<1000000) (h1:1<=k) (h8:k<=8) (hk:at'+k<=l.length) (hn:20<=n):
  run Bd n 312 [.slice 1 a l.length,.int .i64 at',.int .i64 k] st=some (.val [.int .u64 (rd l at' k),.bool true],st):=by
 obtain⟨n,rfl⟩: ∃m,n=m+2:=⟨n-2,by omega⟩;rw[Zf,h.eq];unfold HT;simp only[bh,al,ae,Zc,ao (show ¬(k:Int)<1 by omega),ao (show ¬(k:Int)>8 by omega),cond_false,ai];rw[Zi (Zky h.TC n a l.length at' k st hl (by omega))];simp only[ai,ae];rw[ah hk,bx,cond_false,Zb (by omega) (by omega)];have e1:((at':Int)+(k:Int)).toNat=at'+k:=by omega
 simp only[e1];rw[Zd (by simp;omega),Zd (by simp;omega)];simp only[aX,di,show at'+k-at'=k by omega];have hb:=(ha.cy (k:=at') (by omega)).kt k;have hlen:((l.drop at').take k).length=k:=by rw[bW,dt];omega
 have hr:=wc h.qd (n+1) _ _ st hb (by omega) (by omega);rw[hlen]at hr;rw[Zi hr];simp only[al,ae,Ze];rfl
def uc (x:Nat):List DV:=(List.range 16).map fun i=> .int .u32 (if i<x then(Zx 4 i:Nat)else 0)
def BR:List DV:=uc 16
theorem ZzQ: ∀x,x<16->bC (uc x) (x*1) [.int .u32 (Zx 4 x:Nat)]=uc (x+1)
 |0,_=>rfl|1,_=>rfl|2,_=>rfl|3,_=>rfl|4,_=>rfl|5,_=>rfl|6,_=>rfl|7,_=>rfl
 |8,_=>rfl|9,_=>rfl|10,_=>rfl|11,_=>rfl|12,_=>rfl|13,_=>rfl|14,_=>rfl|15,_=>rfl
 |n+16,h=>by omega
theorem Zvl {j:Nat} (h:j<16):BR[j]? =some (.int .u32 (Zx 4 j:Nat)):=by
 unfold BR uc;rw[gL,og h];simp[h]
theorem Jm (x:Nat):(uc x).length=16:=by unfold uc;simp
theorem ZwB {Bd:Za} (h:Ot Bd) (n:Nat) (x:Nat) (hx:x<4294967296) (st:St):run Bd (n+1) 320 [.int .u32 x] st=some (.val [.int .u32 (lM x)],st):=by
 rw[Zf,h.eq];unfold IC lM;simp only[al,ae];have ha:bits .and .u32 (x:Int) 1=((x%2:Nat):Int):=by
  have:=Ui hx (show 2^1-1<4294967296 by decide);rw[Nat.and_two_pow_sub_one_eq_mod]at this;exact this
 rw[ha,show((2:Int)^1)=((2:Nat):Int)from rfl,AJ];have h2:x/2<4294967296:=by omega
 rcases zX x with e|e
 ·rw[e,show(((0:Nat):Int)==1)=false from rfl,cond_false,ax (by omega),Ze]
 ·rw[e,show(((1:Nat):Int)==1)=true from rfl,cond_true,aG rfl]
  rw[show(2197175160:Int)=((2197175160:Nat):Int)from rfl,zK h2 (by omega),Ze]
theorem HQ: ∀(n x:Nat),Zx (n+1) x=lM (Zx n x)
 |0,_=>rfl
 |n+1,x=>by rw[Zx,HQ n,Zx]
theorem Zvw {Bd:Za} (h:N2 Bd) (n:Nat) (hn:30<=n) (st:St):run Bd n 317 [] st=some (.val [.agg BR],st):=by
 obtain⟨n,rfl⟩: ∃m,n=m+2:=⟨n-2,by omega⟩;rw[Zf,h.eq];unfold H6;simp only[ae,Zc];refine ok_eq ?_;refine Zl _ (fun q y s=>∃x:Nat,y=[.agg (uc x),.int .i64 x]/\s=st/\x<=16/\16-x<=q) ?_ 16 (n+1) _ _ ⟨0,rfl,rfl,by omega,by omega⟩ (by omega);rintro q _ s ⟨x,rfl,rfl,hx,hq⟩ rec aD;simp only[bZ,al,ae,bF (Jm x)];by_cases aj:x<16
 ·rw[ah (show(x:Int)<16 by omega),cond_true]
  rw[wA (by omega)];refine Zl _ (fun q y s'=>∃j:Nat,y=[.int .u32 (Zx j x),.int .i64 j]/\s'=s/\j<=4/\4-j<=q) ?_ 4 (n+1) _ _ ⟨0,rfl,rfl,by omega,by omega⟩ (by omega);rintro q' _ s' ⟨j,rfl,rfl,hj,xj⟩ dO nO;simp only[al,ae];by_cases KP:j<4
  ·rw[ah (show(j:Int)<4 by omega),cond_true]
   rw[Zi (ZwB h.aak n (Zx j x) (CM j (by omega)) s')];simp only[al,ae];rw[Zb (by omega) (by omega)];exact nO (4-(j+1)) _ _ (by omega) ⟨j+1,by rw[HQ];simp,rfl,by omega,ay _⟩
  ·rw[ao (show ¬(j:Int)<4 by omega),cond_false]
   have:j=4:=by omega
   subst this;rw[Zd (by rw[Zk aj]),aX,Zd (by simp;omega),ZzQ x aj];simp only[bF (Jm (x+1))];rw[Zb (by omega) (by omega)];exact aD (16-(x+1)) _ _ (by omega) ⟨x+1,by simp,rfl,by omega,ay _⟩
 ·rw[ao (show ¬(x:Int)<16 by omega),cond_false,Ze]
  have:x=16:=by omega
  subst this;exact .mk rfl
end Go.Gv.F
namespace Go.Gv.F
open Go.Gv
variable {β:Type}
theorem ZpF {Bd:Za} (h:MJ Bd) (n x ti:Nat) (a:Option (Nat×Nat)) (l:List UInt8) (st:St) (ht:Sl st (some (ti,0)) BR) (ha:dp st a l) (hx:x<4294967296) (hl:l.length<1000000) (hn:l.length+3<=n):
  run Bd n 318 [.ptr (some (ti,0)),.int .u32 x,.slice 1 a l.length] st=some (.val [.int .u32 (l.foldl oR x:Nat)],st):=by
 obtain⟨n,rfl⟩: ∃m,n=m+1:=⟨n-1,by omega⟩;rw[Zf,h.eq];unfold Hd;simp only[fm,al,bh,ae,Zc];refine ok_eq ?_;refine Zl _ (fun q y s=>∃k:Nat,y=[.int .u32 ((l.take k).foldl oR x:Nat),.int .i64 k]/\s=st/\k<=l.length/\l.length-k<=q) ?_ l.length n _ _ ⟨0,by simp,rfl,bH _,by omega⟩ (by omega);rintro q _ s ⟨k,rfl,rfl,hk,hq⟩ rec aD;simp only[al,ae];by_cases aj:k<l.length
 ·rw[ah (show(k:Int)<(l.length:Int) by omega),cond_true]
  obtain⟨i,o,rfl⟩:=ha.ck (by omega);obtain⟨c,hc⟩: ∃c,l[k]? =some c:=⟨_,ba aj⟩;rw[aV,Zd (Zk aj),aX,ha.cP hc];simp only[aM];have KE:=c.toNat_lt;have hy:(l.take k).foldl oR x<4294967296:=C6 _ hx;have e3:(l.take (k+1)).foldl oR x=oR ((l.take k).foldl oR x) c:=by
   have:l.take (k+1)=l.take k++[c]:=by rw[List.take_add_one,hc];rfl
   rw[this,List.foldl_append];rfl
  generalize (l.take k).foldl oR x=y at hy e3;have hz:y^^^c.toNat<4294967296:=Cc (n:=32) hy (by omega);rw[wA (by omega),zK hy (by omega)];rw[ZAl]at e3;generalize y^^^c.toNat=z at hz e3;have Uh: ∀z:Nat,z<4294967296->bits .and .u32 (z:Int) 15=((z%16:Nat):Int):=fun z hz=>by
   have:=Ui hz (show 2^4-1<4294967296 by decide);rw[Nat.and_two_pow_sub_one_eq_mod]at this;exact this
  have f16: ∀z:Nat,Int.fdiv (z:Int) (2^4)=((z/16:Nat):Int):=fun z=>AJ z 16
  have m16:z%16<16:=Nat.mod_lt _ (by decide);have BQ:Zx 4 (z%16)<4294967296:=CM 4 (by omega);rw[Uh z hz,aV,Zd (Zk m16),aX,ht.cP (Zvl m16)];simp only[aM];rw[f16,zK (by omega) BQ];have hw:z/16^^^Zx 4 (z%16)<4294967296:=Cc (n:=32) (by omega) BQ;generalize z/16^^^Zx 4 (z%16)=w at hw e3;have VP:w%16<16:=Nat.mod_lt _ (by decide);rw[Uh w hw,aV,Zd (Zk VP),aX,ht.cP (Zvl VP)];simp only[aM];rw[f16,zK (by omega) (CM 4 (by omega)),Zb (by omega) (by omega)];exact aD (l.length-(k+1)) _ _ (by omega) ⟨k+1,by rw[e3];simp,rfl,by omega,ay _⟩
 ·rw[ao (show ¬(k:Int)<(l.length:Int) by omega),cond_false,Ze,cA (by omega)]
  exact .mk rfl
theorem ZrX {s:St} {cs ds:List DV} (hl:ds.length=cs.length) (K:M β):M.store s.length 0 ds K (s++[some ⟨false,cs⟩])=K (s++[some ⟨false,ds⟩]):=by
 unfold M.store St.fH;rw[gU (ay _),qw];simp only[gV];rw[gx (by omega),cond_true];have:bC cs 0 ds=ds:=by
  have key: ∀(cs ds:List DV),ds.length=cs.length->ov cs ds=ds:=by
   intro cs;induction cs with
   |nil=>intro ds h;cases ds with|nil=>rfl|cons _ _=>simp at h
   |cons c cs ih=>intro ds h;cases ds with|nil=>simp at h|cons d ds=>rw[ov,ih ds (by simpa using h)]
  have e:bC cs 0 ds=ov cs ds:=by cases cs<;>rfl
  rw[e,key cs ds hl]
 rw[this];congr 1;rw[List.set_append_right _ _ (ay _),qw];rfl
theorem Zxp {Bd:Za} (h:OV Bd) (n:Nat) (bs a:Option (Nat×Nat)) (l:List UInt8) (st:St) (wS:Sl st bs [.slice 1 a l.length]) (ha:dp st a l) (hl:l.length<1000000) (hn:l.length+40<=n):
  Ok (fun o=>∃s',o=(.val [.int .u32 (lB l)],s')/\ar st s') (run Bd n 306 [.slice 1 bs 1] st):=by
 obtain⟨n,rfl⟩: ∃m,n=m+1:=⟨n-1,by omega⟩;rw[Zf,h.eq];unfold Jk;simp only[bh,ae];rw[Zi (Zvw h.aaa n (by omega) st)];simp only[bZ,ae,bF (Jm 16),BR];rw[Zw,ZrX (by rw[Jm];rfl),Zc];have hp:=ar.new st (some ⟨false,uc 16⟩);have ht:Sl (st++[some ⟨false,uc 16⟩]) (some (st.length,0)) BR:=Dc st _;have Rs:=wS.mono hp;have pM:=ha.mono hp;generalize (st++[some ⟨false,uc 16⟩])=s1 at hp ht Rs pM;obtain⟨i,o,rfl⟩:=Rs.ck (by simp);obtain⟨m,rfl⟩: ∃m,n=m+2:=⟨n-2,by omega⟩;rw[wm];simp only[al,ae];rw[show decide ((0:Int)<((1:Nat):Int))=true from rfl,cond_true,aV,Zd (by rfl),show(0:Int).toNat=0 from rfl,Rs.cP (j:=0) rfl];simp only[jJ];have hr:=ZpF h.q48 (m+2) 4294967295 st.length a l s1 ht pM (by decide) hl (by omega);rw[show(4294967295:Int)=((4294967295:Nat):Int)from rfl,Zi hr];simp only[al,ae];rw[wm];simp only[al,ae];rw[show decide (af (0+1)<((1:Nat):Int))=false from rfl,cond_false];rw[zK (C6 l (by decide)) (by decide),ZAD (C6 l (by decide)),Ze];exact .mk ⟨s1,rfl,hp⟩
theorem ZvJ {Bd:Za} (h:Oj Bd) (n x:Nat) (bs a:Option (Nat×Nat)) (l:List UInt8) (st:St) (wS:Sl st bs [.slice 1 a l.length]) (ha:dp st a l) (hl:l.length<1000000) (hn:l.length+41<=n):
  Ok (fun o=>∃s',o=(.val [.bool (decide (lB l=x))],s')/\ar st s') (run Bd n 286 [.int .u32 x,.slice 1 bs 1] st):=by
 obtain⟨n,rfl⟩: ∃m,n=m+1:=⟨n-1,by omega⟩;rw[Zf,h.eq];unfold Iy;simp only[al,bh,ae];refine Ok.call (Zxp h.aao n bs a l st wS ha hl (by omega)) ?_;rintro _ ⟨s',rfl,hp⟩;refine⟨_,s',rfl,?_⟩;simp only[al,ae,Ze];refine .mk ⟨s',?_,hp⟩;congr 3;by_cases e:lB l=x
 ·rw[ah e,e];exact congrArg _ (gN _)
 ·rw[ao e];exact congrArg _ (cx.2 (by omega))
end Go.Gv.F
namespace Go.Gv.F
open Go.Gv
variable {β:Type}
def pz (s:St) (a:Option (Nat×Nat)) (l:List UInt8):Prop:=Fz s a (bj l)
theorem pz.uP {s:St} {a:Option (Nat×Nat)} {l:List UInt8} (h:pz s a l):dp s a l:=h.1
theorem pz.kp {s s':St} {a:Option (Nat×Nat)} {l:List UInt8} (h:pz s a l) (k:Kp s s'):pz s' a l:=Fz.kp h k
def uM (l:List UInt8):Bool:=decide (l.length=64)&&(!(l.getD 4 0==0)&&(Zy ((l.drop 6).take 2)&&decide (lB (l.drop 4)=ft (l.take 4))))
def gj (l:List UInt8):Option (Nat×Nat×List UInt8):=bif uM l then some ((l.getD 4 0).toNat,(l.getD 5 0).toNat,l.drop 8)else none
theorem getD_some {l:List UInt8} {j:Nat} {c:UInt8} (h:l[j]? =some c):l.getD j 0=c:=by rw[bJ,h];rfl
theorem YT (c:UInt8):(!((c.toNat:Int)==0))= !(c==0):=by
 by_cases h:c=0
 ·subst h;rfl
 ·rw[cx.2 h,cx.2]
  intro e;exact h (UInt8.toNat_inj.1 (by simpa using e))
theorem ZqH {Bd:Za} (h:M4 Bd) (n:Nat) (a:Option (Nat×Nat)) (l:List UInt8) (st:St) (ha:dp st a l) (hl:l.length<1000000) (hn:150<=n):
  Ok (fun o=>∃s',o=(.val [.bool (uM l)],s')/\ar st s') (run Bd n 259 [.slice 1 a l.length] st):=by
 obtain⟨n,rfl⟩: ∃m,n=m+1:=⟨n-1,by omega⟩;rw[Zf,h.eq];unfold HC uM;simp only[bh,ae,Zc];by_cases mK:l.length=64
 ·rw[show(((l.length:Nat):Int)==64)=true by rw[mK];rfl,cond_true,ah mK,cI]
  obtain⟨i,o,rfl⟩:=ha.ck (by omega);obtain⟨c,hc⟩: ∃c,l[4]? =some c:=⟨_,ba (by omega)⟩;rw[aV,Zd (show av 4 l.length=true from Zk (i:=4) (by omega)),ha.get hc,getD_some hc];simp only[aM,ai,ae];rw[YT];cases hz: !(c==0)with
  |false=>rw[cond_false];simp only[cond_false,Ze,eL];exact .mk ⟨st,rfl,.refl st⟩
  |true=>
   rw[cond_true,cI];have bz:=Af h.sC n _ l 6 2 st ha hl (by omega) (by omega);rw[show(6:Int)=((6:Nat):Int)from rfl,show(2:Int)=((2:Nat):Int)from rfl,Zi bz];simp only[ai,ae];cases Zy ((l.drop 6).take 2)with
   |false=>simp only[cond_false,Ze,eL];exact .mk ⟨st,rfl,.refl st⟩
   |true=>
    rw[cond_true,cI,Zd (ah (by omega))];have zc:(l.take 4).length=4:=by rw[bW];omega
    have hr:=wc h.qd n _ (l.take 4) st (ha.kt 4) (by omega) (by omega);rw[zc]at hr;rw[uB hr (.refl st)];simp only[al,ae];rw[Zd (ah (by omega)),Zw];have hp:=ar.new st (some ⟨false,[DV.slice 1 (cy true (some (i,o)) 4) (l.length-4)]⟩);have hs:=Dc st [DV.slice 1 (cy true (some (i,o)) 4) (l.length-4)];generalize (st++[some ⟨false,[DV.slice 1 (cy true (some (i,o)) 4) (l.length-4)]⟩])=s1 at hp hs;have aj:ft (l.take 4)<4294967296:=by have:=JI (l.take 4);rw[zc]at this;exact this
    rw[wA aj];have Bv:(l.drop 4).length=l.length-4:=dt;rw[<-Bv]at hs;refine Ok.call (ZvJ h.aaj n (ft (l.take 4)) _ _ (l.drop 4) s1 hs ((ha.mono hp).cy (by omega)) (by omega) (by omega)) ?_;rintro _ ⟨s2,rfl,bd⟩;refine⟨_,s2,rfl,?_⟩;simp only[ai,ae,Ze];exact .mk ⟨s2,rfl,hp.trans bd⟩
 ·rw[show(((l.length:Nat):Int)==64)=false from cx.2 (by omega),cond_false,ao mK]
  simp only[ai,ae,cond_false,Ze,eL];exact .mk ⟨st,rfl,.refl st⟩
theorem Zru {Bd:Za} (h:Nz Bd) (n:Nat) (a:Option (Nat×Nat)) (l:List UInt8) (st:St) (ha:dp st a l) (h0:0<l.length) (hl:l.length<1000000):
  Ok (fun o=>∃p s',o=(.val [.slice 1 p l.length],s')/\ar st s'/\pz s' p l) (run Bd (n+1) 260 [.slice 1 a l.length] st):=by
 rw[Zf,h.eq];unfold HI;simp only[bh,ae];rw[ni];obtain⟨i,o,rfl⟩:=ha.ck h0;rw[show((some (i,o):Option (Nat×Nat)).isNone)=false from rfl,cond_false,Zw];have hp:=ar.new st (some ⟨false,[]⟩);have ho:aY st (st++[some ⟨false,[]⟩]) (some (st.length,0)) []:=⟨hp,.inr ⟨st.length,rfl,ay _,by simp⟩⟩;have pM:=ha.mono hp;generalize (st++[some ⟨false,[]⟩])=s1 at hp ho pM;rw[di,<-Zr l,qg pM];obtain⟨p,s2,cK,he⟩:=ho.app (β:=List DV) (sz:=1) (n:=0) (m:=l.length) (lim:=70368744177664) (ds:=bj l) (by omega) (by simp) h0 (by omega);rw[Zr,he,ZE];rw[fe]at cK;exact .mk ⟨p,_,by rw[dj],ZH cK.1,cK.fz⟩
theorem Ah {Bd:Za} (h:wg Bd) (n:Nat) (a:Option (Nat×Nat)) (l:List UInt8) (st:St) (ha:dp st a l) (hl:l.length<1000000) (hn:152<=n):
  Ok (fun o=>∃s',ar st s'/\match gj l with
   |none=>o=(.val [.int .i64 0,.int .i64 0,.slice 0 none 0,.bool false],s')
   |some (k,t,b)=>∃p,o=(.val [.int .i64 (k:Nat),.int .i64 (t:Nat),.slice 1 p 56,.bool true],s')/\pz s' p b/\b.length=56/\k<256/\t<256) (run Bd n 237 [.slice 1 a l.length] st):=by
 obtain⟨n,rfl⟩: ∃m,n=m+2:=⟨n-2,by omega⟩;rw[Zf,h.eq];unfold Hs gj;simp only[bh,ae];rw[ni];refine Ok.call (ZqH h.q58 (n+1) a l st ha hl (by omega)) ?_;rintro _ ⟨s1,rfl,hp⟩;refine⟨_,s1,rfl,?_⟩;simp only[ai,ae];cases hr:uM l with
 |false=>
  rw[bD,cond_true,ZE];simp only[cond_false];exact .mk ⟨_,ZH hp,rfl⟩
 |true=>
  have mK:l.length=64:=by
   unfold uM at hr;rw[aH]at hr;exact lY hr.1
  rw[bx,cond_false];simp only[cond_true];have pM:=ha.mono hp;obtain⟨i,o,rfl⟩:=pM.ck (by omega);obtain⟨c4,hc4⟩: ∃c,l[4]? =some c:=⟨_,ba (by omega)⟩;obtain⟨c5,hc5⟩: ∃c,l[5]? =some c:=⟨_,ba (by omega)⟩;rw[aV,Zd (show av 4 l.length=true from Zk (i:=4) (by omega)),pM.get hc4];simp only[aM];rw[aV,Zd (show av 5 l.length=true from Zk (i:=5) (by omega)),pM.get hc5];simp only[aM];rw[Zd (ah (by omega))];have hb:=pM.cy (k:=8) (by omega);have hd:(l.drop 8).length=l.length-8:=dt;have dq:=Zru h.q59 n _ (l.drop 8) s1 hb (by omega) (by omega);rw[hd]at dq;obtain⟨_,e,p,s2,rfl,bd,hf⟩:=dq;rw[uB e bd];simp only[bh,ae,ZE];have h4:=c4.toNat_lt;have h5:=c5.toNat_lt;rw[getD_some hc4,getD_some hc5,Zb (by omega) (by omega),Zb (by omega) (by omega)];refine .mk ⟨_,ZH (hp.trans bd),p,?_,hf.kp (ZBm _ _),by omega,h4,h5⟩;rw[mK]
end Go.Gv.F
namespace Go.Gv.F
open Go.Gv
variable {β:Type}
structure jL where
 bI:bm
 kids:List Int
def vH (x:jL) (z:Nat) (p:Option (Nat×Nat)):List DV:=fN x.bI++[.slice z p x.kids.length]
def dS (l:List UInt8) (at' k:Nat):Int:=af ((rd l at' k:Nat):Int)
def vE (k:Int):Bool:=decide (k<2)||decide (k>=3072)
def mF (x:jL):Bool:= !(decide (x.bI.slot<0)||(decide (x.bI.slot>=1792)||(decide (x.bI.gen<1)||(decide (x.bI.gen>4294967295)||decide ((x.kids.length:Int)>12)))))&& !x.kids.any vE
def qH (b:List UInt8) (t:Nat):List Int:=(List.range t).map fun j=>dS b (24+2*j) 2
theorem Cz (b:List UInt8) (t:Nat):(qH b t).length=t:=by unfold qH;simp
theorem ZvB (b:List UInt8) (t:Nat):qH b (t+1)=qH b t++[dS b (24+2*t) 2]:=by unfold qH;rw[um,dL];rfl
def wz (b:List UInt8) (t:Nat):jL:=⟨⟨dS b 16 4,dS b 20 4,dS b 0 8,dS b 8 8⟩,qH b t⟩
def tt (l:List UInt8):Option jL:=match gj l with
 |none=>none
 |some (k,t,b)=>bif decide (k=1)&&decide (t<=12)then(bif mF (wz b t)&&Zy (b.drop (24+2*t))then some (wz b t)else none)else none
theorem Cl {Bd:Za} (h:M5 Bd) (n:Nat) (a:Option (Nat×Nat)) (l:List UInt8) (at' k:Nat) (I K:Int) (hI:I=at') (hK:K=k) (st:St) (ha:dp st a l) (hl:l.length<1000000) (h1:1<=k) (h8:k<=8) (hk:at'+k<=l.length) (hn:21<=n):
  run Bd n 295 [.slice 1 a l.length,.int .i64 I,.int .i64 K] st=some (.val [.int .i64 (dS l at' k)],st):=by
 subst hI hK;obtain⟨n,rfl⟩: ∃m,n=m+1:=⟨n-1,by omega⟩;rw[Zf,h.eq];unfold G8;simp only[bh,al,ae];rw[Zi (ZtE h.aad n a l at' k st ha hl h1 h8 hk (by omega))];simp only[al,ai,ae,Ze];rfl
theorem Zpv {Bd:Za} (h:MM Bd) (n:Nat) (k:Int) (st:St):run Bd (n+1) 313 [.int .i64 k] st=some (.val [.bool (vE k)],st):=by
 rw[Zf,h.eq];unfold Hf vE;simp only[al,ae,Zc,ai];cases decide (k<2)<;>simp only[cond_true,cond_false,Ze,ui,ql]
theorem Ztm {Bd:Za} (h:Nl Bd) (n:Nat) (x:jL) (p:Option (Nat×Nat)) (st:St) (hs:Sl st p (ints x.kids)) (hl:x.kids.length<1000000) (hn:x.kids.length+20<=n):
  run Bd n 296 [.agg (vH x 1 p)] st=some (.val [.bool (mF x)],st):=by
 obtain⟨n,rfl⟩: ∃m,n=m+1:=⟨n-1,by omega⟩;rw[Zf,h.eq];have Ru:=Zry h.q3 n 1 313 [] [] x.kids p st vE (.inl rfl) hs (by omega) hl (fun v _=>by
  obtain⟨m,hm⟩: ∃m,n-2=m+1:=⟨n-3,by omega⟩;rw[hm];exact Zpv h.q53 m v st)
 unfold Hu vH fN mF;simp only[kz,fe,bZ,al,bh,ae,Zc];cases decide (x.bI.slot<0)with
 |true=>simp only[cond_true,ai,ae,Ze,ui,bx,eL]
 |false=>
 cases decide (x.bI.slot>=1792)with
 |true=>simp only[cond_true,cond_false,ai,ae,Ze,ui,ql,bx,eL]
 |false=>
 cases decide (x.bI.gen<1)with
 |true=>simp only[cond_true,cond_false,ai,ae,Ze,ui,ql,bx,eL]
 |false=>
 cases decide (x.bI.gen>4294967295)with
 |true=>simp only[cond_true,cond_false,ai,ae,Ze,ui,ql,bx,eL]
 |false=>
 cases decide ((x.kids.length:Int)>12)with
 |true=>simp only[cond_true,cond_false,ai,ae,Ze,ql,bx,eL]
 |false=>
  simp only[cond_false,ai,ae,ql,bD,cI];rw[Zi Ru];simp only[ai,ae,Ze]
theorem Pe {l:List UInt8} {x:jL} (h:tt l=some x):mF x=true/\x.kids.length<=12:=by
 unfold tt at h;split at h
 ·cases h
 ·rename_i k t b _
  cases e:(decide (k=1)&&decide (t<=12))with
  |false=>rw[e]at h;cases h
  |true=>
   rw[e]at h;cases e2:(mF (wz b t)&&Zy (b.drop (24+2*t)))with
   |false=>rw[e2]at h;cases h
   |true=>
    rw[e2]at h;cases h;rw[aH]at e e2;refine⟨e2.1,?_⟩;show(qH b t).length<=12;rw[Cz];exact lY e.2
theorem Zwf {Bd:Za} (h:NW Bd) (n:Nat) (a:Option (Nat×Nat)) (l:List UInt8) (st:St) (ha:dp st a l) (hl:l.length<1000000) (hn:160<=n):
  Ok (fun o=>∃s',ar st s'/\match tt l with
   |none=>o=(.val [.agg [.int .i64 0,.int .i64 0,.int .i64 0,.int .i64 0,.slice 0 none 0],.bool false],s')
   |some x=>∃p,o=(.val [.agg (vH x 1 p),.bool true],s')/\Fz s' p (ints x.kids)) (run Bd n 272 [.slice 1 a l.length] st):=by
 obtain⟨n,rfl⟩: ∃m,n=m+1:=⟨n-1,by omega⟩;rw[Zf,h.eq];unfold IF tt;simp only[bh,ae,Zc];rw[ni];refine Ok.call (Ah h.sD n a l st ha hl (by omega)) ?_;rintro _ ⟨s1,aI,ho⟩;cases de:gj l with
 |none=>
  rw[de]at ho;subst ho;refine⟨_,s1,rfl,?_⟩;simp only[al,ai,ae,Zm 1 0 none _ (.inr rfl)];rw[bD,cond_true];simp only[cond_true];rw[ZE];exact .mk ⟨_,ZH aI,rfl⟩
 |some q=>
  obtain⟨k,t,b⟩:=q;rw[de]at ho;obtain⟨p1,rfl,hf,hb,hk,ht⟩:=ho;refine⟨_,s1,rfl,?_⟩;simp only[al,ai,bh,ae];rw[bx,cond_false];have e1:(((k:Nat):Int)==1)=decide (k=1):=by
   by_cases ig:k=1
   ·subst ig;rfl
   ·rw[ao ig];exact cx.2 (by omega)
  rw[e1];cases ig:decide (k=1)with
  |false=>
   rw[bD];simp only[cond_true,eL,cond_false];rw[ZE];exact .mk ⟨_,ZH aI,rfl⟩
  |true=>
  rw[bx];simp only[cond_false,cI];by_cases gB:t<=12
  ·rw[ao (show ¬((t:Nat):Int)>12 by omega),ah gB]
   simp only[cond_false,cond_true];have cz:=hf.uP;rw[show(56:Nat)=b.length from hb.symm];rw[Zi (Cl h.ET n p1 b 16 4 16 4 rfl rfl s1 cz (by omega) (by omega) (by omega) (by omega) (by omega))];simp only[al,ae];rw[Zi (Cl h.ET n p1 b 20 4 20 4 rfl rfl s1 cz (by omega) (by omega) (by omega) (by omega) (by omega))];simp only[al,ae];rw[Zi (Cl h.ET n p1 b 0 8 0 8 rfl rfl s1 cz (by omega) (by omega) (by omega) (by omega) (by omega))];simp only[al,ae];rw[Zi (Cl h.ET n p1 b 8 8 8 8 rfl rfl s1 cz (by omega) (by omega) (by omega) (by omega) (by omega))];simp only[al,ae];refine Zl _ (fun q y s=>∃(i z:Nat) (p:Option (Nat×Nat)),y=[.agg [.int .i64 (dS b 16 4),.int .i64 (dS b 20 4),.int .i64 (dS b 0 8),.int .i64 (dS b 8 8),.slice z p i],.int .i64 i]/\(z=1\/p=none)/\i<=t/\t-i<=q/\aY st s p (ints (qH b i))/\pz s p1 b) ?_ t n _ _ ⟨0,0,none,rfl,.inr rfl,bH _,by omega,aY.nil aI,hf⟩ (by omega);rintro q _ s ⟨i,z,p,rfl,hz,hi,hq,ho,By⟩ rec aD;simp only[bZ,al,Zm 1 z p _ hz,ae];by_cases aj:i<t
   ·rw[ah (show(i:Int)<(t:Int) by omega),cond_true,Zb (x:=2*(i:Int)) (by omega) (by omega),Zb (by omega) (by omega),show(24+2*(i:Int))=((24+2*i:Nat):Int) by omega]
    rw[AH (Cl h.ET n p1 b (24+2*i) 2 _ 2 rfl rfl s By.uP (by omega) (by omega) (by omega) (by omega) (by omega))];simp only[al,ae];obtain⟨p2,s2,cK,nL,he⟩:=ho.xJ (β:=List DV) (sz:=1) (n:=i) (lim:=8796093022208) [.int .i64 (dS b (24+2*i) 2)] (sN 0) (by simp[ints,Cz]) rfl (by omega);rw[he,Zb (by omega) (by omega)];refine aD (t-(i+1)) _ _ (by omega) ⟨i+1,1,p2,by simp,.inl rfl,by omega,ay _,?_,By.kp nL⟩;rw[ZvB];show aY st s2 p2 (List.map _ _);rw[dL];exact cK
   ·rw[ao (show ¬(i:Int)<(t:Int) by omega),cond_false]
    have RS:i=t:=by omega
    subst RS;have hr:=Ztm h.q92 n (wz b i) p s ho.sl (by show(qH b i).length<_;rw[Cz];omega) (by show(qH b i).length+_<=_;rw[Cz];omega);have hc:vH (wz b i) 1 p=[.int .i64 (dS b 16 4),.int .i64 (dS b 20 4),.int .i64 (dS b 0 8),.int .i64 (dS b 8 8),.slice 1 p i]:=by
     show fN _++[DV.slice 1 p (qH b i).length]=_;rw[Cz];rfl
    simp only[bh,ae];rw[<-hc,Zi hr];simp only[ai,ae];cases Sz:mF (wz b i)with
    |false=>
     rw[bD,cond_true];simp only[eL,cond_false];rw[ZE];exact .mk ⟨_,ZH ho.1,rfl⟩
    |true=>
     rw[bx,cond_false,Zb (x:=2*(i:Int)) (by omega) (by omega),Zb (x:=24+2*(i:Int)) (by omega) (by omega),Zb (by omega) (by omega)];rw[show(24+2*(i:Int))=((24+2*i:Nat):Int) by omega,show((b.length:Nat):Int)-((24+2*i:Nat):Int)=((b.length-(24+2*i):Nat):Int) by omega];rw[Zi (Af h.sC n p1 b (24+2*i) (b.length-(24+2*i)) s By.uP (by omega) (by omega) (by omega))];rw[cA (by rw[dt];exact ay _)];simp only[ai,ae,cI];cases Zy (b.drop (24+2*i))with
     |false=>
      simp only[bD,cond_true,cond_false];rw[ZE];exact .mk ⟨_,ZH ho.1,rfl⟩
     |true=>
      simp only[bx,cond_true,cond_false];rw[ZE];exact .mk ⟨_,ZH ho.1,p,rfl,ho.fz⟩
  ·rw[ah (show((t:Nat):Int)>12 by omega),ao gB]
   simp only[cond_false,cond_true];rw[ZE];exact .mk ⟨_,ZH aI,rfl⟩
end Go.Gv.F
namespace Go.Gv.F
open Go.Gv
variable {β:Type}
theorem ZtA: ∀(B D C:List DV),B.length=D.length->ov (B++C) D=D++C
 |[],[],C,_=>by simp[ZyM]
 |b::B,d::D,C,h=>by show d::ov (B++C) D=_;rw[ZtA B D C (by simpa using h)];rfl
 |[],_::_,_,h=>by cases h
 |_::_,[],_,h=>by cases h
theorem qF: ∀(A B C D:List DV),B.length=D.length->bC (A++(B++C)) A.length D=A++(D++C)
 |[],B,C,D,h=>by
  show bC (B++C) 0 D=D++C;rw[<-ZtA B D C h];cases B++C<;>rfl
 |a::A,B,C,D,h=>by show a::bC (A++(B++C)) A.length D=_;rw[qF A B C D h];rfl
def dM (t j:Nat):Bool:=decide (t/2^j%2=1)
theorem Zx6 {t j:Nat} (ht:t<9223372036854775808) (hj:j<=63):bits .and .i64 ((t:Int).fdiv (2^(min j 64))) 1=((t/2^j%2:Nat):Int):=by
 rw[j1 (by omega),show((2:Int)^j)=((2^j:Nat):Int) by push_cast;rfl,AJ];have h1:t/2^j<9223372036854775808:=xW (B5 _ _) ht;show IntKind.wrap .i64 ((BitVec.ofInt 64 ((t/2^j:Nat):Int)&&& BitVec.ofInt 64 (1:Int)).toNat:Int)=_;rw[BitVec.toNat_and,Di (by omega),show(BitVec.ofInt 64 (1:Int)).toNat=1 from rfl,Nat.and_one_is_mod];exact Zb (by omega) (by omega)
theorem ZwX {t j:Nat} (ht:t<9223372036854775808) (hj:j<=63):(bits .and .i64 ((t:Int).fdiv (2^(min j 64))) 1==1)=dM t j:=by
 rw[Zx6 ht hj];unfold dM;by_cases h:t/2^j%2=1
 ·rw[h];rfl
 ·rw[ao h];exact cx.2 (by omega)
theorem ZAh {t j:Nat} (ht:t<9223372036854775808) (hj:j<=63):(bits .and .i64 ((t:Int).fdiv (2^(min j 64))) 1==0)= !dM t j:=by
 rw[Zx6 ht hj];unfold dM;by_cases h:t/2^j%2=1
 ·rw[h];rfl
 ·rw[ao h,show t/2^j%2=0 by omega];rfl
structure bL where
 live:Bool
 gen:Int
 block:Int
def gk (x:bL):List DV:=[.bool x.live,.int .i64 x.gen,.int .i64 x.block]
def bV (l:List bL):List DV:=(l.map gk).flatten
theorem ZT (l:List bL):(bV l).length=l.length*3:=by
 unfold bV;induction l with
 |nil=>rfl
 |cons e l ih=>rw[gM,mo,bg,ih,dF];show 3+_=_;omega
theorem Zr5 (l m:List bL):bV (l++m)=bV l++bV m:=by unfold bV;rw[dL,vR]
def lL:bL:=⟨false,0,0⟩
def vF:List bL:=List.replicate 7 lL
def kG (v f t:Int):Bool:=bif decide (v>=f)then decide (v<=t)else false
def ZM (x:bL):Bool:=bif x.live then kG x.gen 1 4294967295&&kG x.block 2 3071 else kG x.gen 0 4294967295&&(kG x.block 0 1792&&(decide (x.gen>0)||x.block==0))
def uL (b:List UInt8) (t j:Nat):bL:=⟨dM t j,dS b (8*j) 4,dS b (8*j+4) 4⟩
def kF (b:List UInt8) (t n:Nat):List bL:=(List.range n).map (uL b t)
theorem NZ (b:List UInt8) (t n:Nat):(kF b t n).length=n:=by unfold kF;simp
theorem ZnY (b:List UInt8) (t n:Nat):kF b t (n+1)=kF b t n++[uL b t n]:=by unfold kF;rw[um,dL];rfl
def qE (l:List UInt8):Option (List bL):=match gj l with
 |none=>none
 |some (k,t,b)=>bif decide (k=2)&&decide (t<128)then(bif (kF b t 7).all ZM then some (kF b t 7)else none)else none
theorem Cv {Bd:Za} (h:GZ Bd) (n:Nat) (v f t:Int) (st:St):run Bd (n+1) 314 [.int .i64 v,.int .i64 f,.int .i64 t] st=some (.val [.bool (kG v f t)],st):=by
 rw[Zf,h.eq];unfold HE kG;simp only[al,ae,Zc,ai];cases decide (v>=f)<;>rfl
theorem ZnF {Bd:Za} (h:MG Bd) (n:Nat) (x:bL) (st:St):run Bd (n+2) 297 [.agg (gk x)] st=some (.val [.bool (ZM x)],st):=by
 rw[Zf,h.eq];unfold GD gk ZM;simp only[bZ,al,ai,ae,Zc];cases x.live with
 |true=>
  rw[cond_true,cond_true,Zi (Cv h.BP n _ _ _ st)];simp only[ai,ae];cases kG x.gen 1 4294967295 with
  |false=>rfl
  |true=>
   rw[cond_true,Zi (Cv h.BP n _ _ _ st)];rfl
 |false=>
  rw[cond_false,cond_false,Zi (Cv h.BP n _ _ _ st)];simp only[ai,ae];cases kG x.gen 0 4294967295 with
  |false=>rfl
  |true=>
   rw[cond_true,Zi (Cv h.BP n _ _ _ st)];simp only[ai,ae,cI];cases kG x.block 0 1792 with
   |false=>rfl
   |true=>
    cases decide (x.gen>0)<;>rfl
theorem wy (k c:Nat) (C:Int) (hC:C=c):(((k:Nat):Int)==C)=decide (k=c):=by
 subst hC;by_cases h:k=c
 ·subst h;rw[ah rfl];exact gN _
 ·rw[ao h];exact cx.2 (by omega)
theorem Zp2 {Bd:Za} (h:MV Bd) (n:Nat) (a:Option (Nat×Nat)) (l:List UInt8) (st:St) (ha:dp st a l) (hl:l.length<1000000) (hn:160<=n):
  Ok (fun o=>∃s',ar st s'/\match qE l with
   |none=>o=(.val [.agg (bV vF),.bool false],s')
   |some x=>o=(.val [.agg (bV x),.bool true],s')) (run Bd n 273 [.slice 1 a l.length] st):=by
 obtain⟨n,rfl⟩: ∃m,n=m+1:=⟨n-1,by omega⟩;rw[Zf,h.eq];unfold Hg qE;simp only[bh,ae,Zc];refine Ok.call (Ah h.sD n a l st ha hl (by omega)) ?_;rintro _ ⟨s1,aI,ho⟩;cases de:gj l with
 |none=>
  rw[de]at ho;subst ho;refine⟨_,s1,rfl,?_⟩;simp only[al,ai,ae,Zm 1 0 none _ (.inr rfl)];rw[bD,cond_true];simp only[cond_true,Ze];exact .mk ⟨_,aI,rfl⟩
 |some q=>
  obtain⟨k,t,b⟩:=q;rw[de]at ho;obtain⟨p1,rfl,hf,hb,hk,ht⟩:=ho;refine⟨_,s1,rfl,?_⟩;simp only[al,ai,bh,ae];rw[bx,cond_false,wy k 2 2 rfl];cases ig:decide (k=2)with
  |false=>
   rw[bD];simp only[cond_true,eL,cond_false,Ze];exact .mk ⟨_,aI,rfl⟩
  |true=>
  rw[bx];simp only[cond_false,cI];by_cases gB:t<128
  ·rw[ao (show ¬((t:Nat):Int)>=128 by omega),ah gB]
   simp only[cond_false,cond_true];have cz:=hf.uP;refine Zl _ (fun q y s=>∃i:Nat,y=[.agg (bV vF),.agg (bV (kF b t i)++bV (List.replicate (7-i) lL)),.int .i64 i]/\i<=7/\7-i<=q/\s=s1/\(kF b t i).all ZM=true) ?_ 7 n _ _ ⟨0,rfl,by omega,by omega,rfl,rfl⟩ (by omega);rintro q _ s ⟨i,rfl,hi,hq,rfl,ca⟩ rec aD;have hlen:(bV (kF b t i)++bV (List.replicate (7-i) lL)).length=21:=by
    rw[bg,ZT,ZT,NZ,ph];omega
   simp only[bZ,al,ae];rw[bF (cs:=bV vF) (n:=21) rfl,bF hlen];by_cases aj:i<7
   ·have cj:af ((i:Int)+1)=((i+1:Nat):Int):=Zb (by omega) (by omega)
    have fU:af (8*((i+1:Nat):Int))=((8*(i+1):Nat):Int):=Zb (by omega) (by omega);have nR:af (8*(i:Int))=((8*i:Nat):Int):=Zb (by omega) (by omega);simp only[cj,fU,nR,aX,di];rw[ah (show(i:Int)<7 by omega),cond_true];rw[Zd (by rw[aH,bc,bc];omega),Zd (by rw[aH,bc,bc];omega),Zd (ah (by omega)),Zd (ah (by omega))];have fQ:=cz.cy (k:=8*i) (by omega);have tB:(b.drop (8*i)).length=56-8*i:=by rw[dt,hb]
    have En:((b.drop (8*i)).take 4).length=4:=by rw[bW];omega
    have iS:=wc h.qd n _ ((b.drop (8*i)).take 4) s (fQ.kt 4) (by omega) (by omega);rw[En]at iS;rw[uB iS (.refl s)];simp only[al,ae];rw[Zd (ah (by omega)),show 8*(i+1)-8*i-4=4 by omega];have jv:=fQ.cy (k:=4) (by omega);have SJ:(((b.drop (8*i)).drop 4).take 4).length=4:=by rw[bW,dt];omega
    have jz:=wc h.qd n _ (((b.drop (8*i)).drop 4).take 4) s (jv.kt 4) (by omega) (by omega);rw[SJ]at jz;rw[uB jz (.refl s)];simp only[al,ae];rw[iK,ZwX (by omega) (by omega)];obtain⟨n,rfl⟩: ∃m,n=m+2:=⟨n-2,by omega⟩;have hrs:=ZnF h.q33 n (uL b t i) s;have hsc:gk (uL b t i)=[.bool (dM t i),.int .i64 (af ((ft ((b.drop (8*i)).take 4):Nat):Int)),.int .i64 (af ((ft ((b.drop (8*i+4)).take 4):Nat):Int))]:=rfl;rw[<-hsc,Zi hrs];simp only[ai,ae];cases Lc:ZM (uL b t i)with
    |false=>
     rw[bD,cond_true];have:(kF b t 7).all ZM=false:=zO.2 ⟨uL b t i,dP.2 ⟨i,jE.2 aj,rfl⟩,by rw[Lc];decide⟩;rw[this,cond_false,Ze];exact .mk ⟨s,aI,rfl⟩
    |true=>
     rw[bx,cond_false,Zd (show av (i:Int) 7=true from Zk aj),Zd (gx (by omega))];refine aD (7-(i+1)) _ _ (by omega) ⟨i+1,?_,by omega,ay _,rfl,?_⟩
     ·congr 3
      rw[ZnY,Zr5,show List.replicate (7-i) lL=lL::List.replicate (7-(i+1)) lL by rw[show 7-i=(7-(i+1))+1 by omega];rfl];show bC (bV (kF b t i)++(gk lL++bV (List.replicate (7-(i+1)) lL))) (i*3) (gk (uL b t i))=_;have e3:i*3=(bV (kF b t i)).length:=by rw[ZT,NZ]
      rw[e3,qF (bV (kF b t i)) (gk lL) (bV (List.replicate (7-(i+1)) lL)) (gk (uL b t i)) rfl,dD];rfl
     ·rw[ZnY,rF,ca]
      simp[Lc]
   ·rw[ao (show ¬(i:Int)<7 by omega),cond_false]
    have tG:i=7:=by omega
    subst tG;rw[bF (cs:=bV vF) (n:=21) rfl,bF hlen,bF hlen,ca,cond_true,Ze];refine .mk ⟨s,aI,?_⟩;show _=(Out.val [DV.agg (bV (kF b t 7)),_],s);rw[show bV (List.replicate (7-7) lL)=[]from rfl,ez]
  ·rw[ah (show((t:Nat):Int)>=128 by omega),ao gB]
   simp only[cond_false,cond_true,Ze];exact .mk ⟨_,aI,rfl⟩
def AE (l:List Int):Bool:=l.all fun v=>v==0||kG v 2 3071
def gD (b:List UInt8) (n:Nat):List Int:=(List.range n).map fun j=>dS b (2*j) 2
theorem rJ (b:List UInt8) (n:Nat):(gD b n).length=n:=by unfold gD;simp
theorem ZpV (b:List UInt8) (n:Nat):gD b (n+1)=gD b n++[dS b (2*n) 2]:=by unfold gD;rw[um,dL];rfl
def tj (l:List UInt8):Option (List Int):=match gj l with
 |none=>none
 |some (k,t,b)=>bif decide (k=3)&&(decide (t=0)&&Zy (b.drop 32))then(bif AE (gD b 16)then some (gD b 16)else none)else none
theorem Zu {l:List Int} {j:Nat} (h:j<l.length):(ints l)[j]? =some (.int .i64 l[j]):=by simp[ints,h]
theorem kB {cs:List DV} {i:Nat} {d:DV} (h:cs[i]? =some d) (K:DV->M β):D.nth cs i K=K d:=by unfold D.nth;rw[h]
theorem Zom {Bd:Za} (h:Mu Bd) (n:Nat) (l:List Int) (st:St) (hl:l.length=16) (hn:22<=n):run Bd n 298 [.agg (ints l)] st=some (.val [.bool (AE l)],st):=by
 obtain⟨n,rfl⟩: ∃m,n=m+2:=⟨n-2,by omega⟩;rw[Zf,h.eq];unfold Gk AE;have hlen:(ints l).length=16:=by simp[ints,hl]
 simp only[bZ,ae,Zc];rw[bF hlen,bF hlen];refine ok_eq ?_;refine Zl _ (fun q y s=>∃i:Nat,y=[.int .i64 i]/\i<=16/\16-i<=q/\s=st/\(l.take i).all (fun v=>v==0||kG v 2 3071)=true) ?_ 16 (n+1) _ _ ⟨0,rfl,by omega,by omega,rfl,rfl⟩ (by omega);rintro q _ s ⟨i,rfl,hi,hq,rfl,ca⟩ rec aD;simp only[al,ae];by_cases aj:i<16
 ·rw[ah (show(i:Int)<16 by omega),cond_true,Zd (show av (i:Int) 16=true from Zk aj),aX,di,kB (Zu (by omega))]
  simp only[aM];have hw:af ((i:Int)+1)=((i+1:Nat):Int):=Zb (by omega) (by omega);have aA:(l[i]==0||kG l[i] 2 3071)=true->Ok (fun p=>p=(Out.val [DV.bool (l.all fun v=>v==0||kG v 2 3071)],s)) (rec [.int .i64 (af ((i:Int)+1))] s):=fun e=>by
   rw[hw];refine aD (16-(i+1)) _ _ (by omega) ⟨i+1,rfl,by omega,ay _,rfl,?_⟩;rw[jG (by omega),rF,ca];simpa using e
  have bz:(l[i]==0||kG l[i] 2 3071)=false->(l.all fun v=>v==0||kG v 2 3071)=false:=fun e=>zO.2 ⟨l[i],fK _,by rw[e];decide⟩
  cases h0:(l[i]==0)with
  |true=>
   rw[bx,cond_false];simp only[ai,ae,cond_false];exact aA (by rw[h0];rfl)
  |false=>
   rw[bD,cond_true,Zi (Cv h.BP n _ _ _ s)];simp only[ai,ae];cases fU:kG l[i] 2 3071 with
   |true=>
    rw[bx,cond_false];exact aA (by rw[h0,fU];rfl)
   |false=>
    rw[bD,cond_true,Ze,bz (by rw[h0,fU];rfl)];exact .mk rfl
 ·rw[ao (show ¬(i:Int)<16 by omega),cond_false,Ze]
  rw[cA (by omega)]at ca;rw[ca];exact .mk rfl
theorem ZrG {Bd:Za} (h:Nd Bd) (n:Nat) (a:Option (Nat×Nat)) (l:List UInt8) (st:St) (ha:dp st a l) (hl:l.length<1000000) (hn:160<=n):
  Ok (fun o=>∃s',ar st s'/\match tj l with
   |none=>o=(.val [.agg (ints (List.replicate 16 0)),.bool false],s')
   |some x=>o=(.val [.agg (ints x),.bool true],s')/\x.length=16) (run Bd n 274 [.slice 1 a l.length] st):=by
 obtain⟨n,rfl⟩: ∃m,n=m+1:=⟨n-1,by omega⟩;rw[Zf,h.eq];unfold HF tj;simp only[bh,ae,Zc];refine Ok.call (Ah h.sD n a l st ha hl (by omega)) ?_;rintro _ ⟨s1,aI,ho⟩;cases de:gj l with
 |none=>
  rw[de]at ho;subst ho;refine⟨_,s1,rfl,?_⟩;simp only[al,ai,ae,Zm 1 0 none _ (.inr rfl)];rw[bD,cond_true];simp only[cond_true,Ze];exact .mk ⟨_,aI,rfl⟩
 |some q=>
  obtain⟨k,t,b⟩:=q;rw[de]at ho;obtain⟨p1,rfl,hf,hb,hk,ht⟩:=ho;refine⟨_,s1,rfl,?_⟩;simp only[al,ai,bh,ae];rw[bx,cond_false,wy k 3 3 rfl,wy t 0 0 rfl];cases ig:decide (k=3)with
  |false=>
   rw[bD];simp only[cond_true,eL,cond_false,Ze];exact .mk ⟨_,aI,rfl⟩
  |true=>
  rw[bx];simp only[cond_false,cI];cases En:decide (t=0)with
  |false=>
   rw[bD];simp only[cond_true,eL,cond_false,Ze];exact .mk ⟨_,aI,rfl⟩
  |true=>
  rw[bx];simp only[cond_false,cI];have cz:=hf.uP;have bz:=Af h.sC n p1 b 32 24 s1 cz (by omega) (by omega) (by omega);rw[hb,cA (by rw[dt];omega)]at bz;rw[show af (((56:Nat):Int)-32)=((24:Nat):Int) by decide,show(32:Int)=((32:Nat):Int)from rfl,Zi bz];simp only[ai,ae];cases Zy (b.drop 32)with
  |false=>
   simp only[bD,cond_true,cond_false,Ze];exact .mk ⟨_,aI,rfl⟩
  |true=>
   rw[bx];simp only[cond_true,cond_false];refine Zl _ (fun q y s=>∃i:Nat,y=[.agg (ints (gD b i)++ints (List.replicate (16-i) 0)),.int .i64 i]/\i<=16/\16-i<=q/\s=s1) ?_ 16 n _ _ ⟨0,rfl,by omega,by omega,rfl⟩ (by omega);rintro q _ s ⟨i,rfl,hi,hq,rfl⟩ rec aD;have hlen:(ints (gD b i)++ints (List.replicate (16-i) 0)).length=16:=by
    simp[ints,rJ];omega
   simp only[bZ,al,ae];rw[bF hlen];by_cases aj:i<16
   ·have cj:af ((i:Int)+1)=((i+1:Nat):Int):=Zb (by omega) (by omega)
    have fU:af (2*((i+1:Nat):Int))=((2*(i+1):Nat):Int):=Zb (by omega) (by omega);have nR:af (2*(i:Int))=((2*i:Nat):Int):=Zb (by omega) (by omega);simp only[cj,fU,nR,aX,di];rw[ah (show(i:Int)<16 by omega),cond_true];rw[Zd (by rw[aH,bc,bc];omega),Zd (by rw[aH,bc,bc];omega)];have fQ:=cz.cy (k:=2*i) (by omega);have tB:((b.drop (2*i)).take 2).length=2:=by rw[bW,dt];omega
    have iS:=wc h.qd n _ ((b.drop (2*i)).take 2) s (fQ.kt 2) (by omega) (by omega);rw[tB]at iS;rw[show 2*(i+1)-2*i=2 by omega,Zi iS];simp only[al,ae];rw[Zd (show av (i:Int) 16=true from Zk aj),Zd (gx (by omega))];refine aD (16-(i+1)) _ _ (by omega) ⟨i+1,?_,by omega,ay _,rfl⟩;congr 2;rw[ZpV,show List.replicate (16-i) (0:Int)=0::List.replicate (16-(i+1)) 0 by rw[show 16-i=(16-(i+1))+1 by omega];rfl];have e3:i=(ints (gD b i)).length:=by simp[ints,rJ]
    have e4:=qF (ints (gD b i)) [.int .i64 0] (ints (List.replicate (16-(i+1)) 0)) [.int .i64 (dS b (2*i) 2)] rfl;rw[<-e3]at e4;show bC (ints (gD b i)++([.int .i64 0]++ints (List.replicate (16-(i+1)) 0))) i [.int .i64 (dS b (2*i) 2)]=ints (gD b i++[dS b (2*i) 2])++_;rw[e4,show ints (gD b i++[dS b (2*i) 2])=ints (gD b i)++[.int .i64 (dS b (2*i) 2)] by unfold ints;rw[dL];rfl,dD]
   ·rw[ao (show ¬(i:Int)<16 by omega),cond_false]
    have tG:i=16:=by omega
    subst tG;rw[bF hlen];rw[show ints (gD b 16)++ints (List.replicate (16-16) 0)=ints (gD b 16)from ez _]at hlen⊢;rw[Zi (Zom h.q39 n (gD b 16) s (rJ b 16) (by omega))];simp only[ai,ae];cases AE (gD b 16)with
    |false=>
     rw[bD,cond_true,Ze];exact .mk ⟨_,aI,rfl⟩
    |true=>
     rw[bx,cond_false,bF hlen,Ze];exact .mk ⟨_,aI,rfl,rJ b 16⟩
end Go.Gv.F
namespace Go.Gv.F
open Go.Gv
variable {β:Type}
theorem ZtR {Bd:Za} (h:Mi Bd) (n:Nat) (l:List Int) (v:Int) (p:Option (Nat×Nat)) (st:St) (hs:Sl st p (ints l)) (hl:l.length<1000000) (hn:l.length+3<=n):
  Ok (fun o=>∃y:Int,o=(.val [.int .i64 y],st)/\decide (y>=0)=decide (v∈l)) (run Bd n 254 [.slice 1 p l.length,.int .i64 v] st):=by
 obtain⟨n,rfl⟩: ∃m,n=m+1:=⟨n-1,by omega⟩;rw[Zf,h.eq];unfold FO;simp only[bh,al,ae,Zc];refine Zl _ (fun q y s=>∃i:Nat,y=[.int .i64 i]/\i<=l.length/\l.length-i<=q/\s=st/\v∉l.take i) ?_ l.length n _ _ ⟨0,rfl,bH _,by omega,rfl,by simp⟩ (by omega);rintro q _ s ⟨i,rfl,hi,hq,rfl,bz⟩ rec aD;simp only[al,ae];by_cases aj:i<l.length
 ·obtain⟨i1,o1,rfl⟩:=hs.ck (by simp[ints];omega)
  rw[ah (show(i:Int)<(l.length:Int) by omega),cond_true,aV,Zd (Zk aj),aX,hs.cP (Zu aj)];simp only[aM];by_cases hv:v=l[i]
  ·rw[show(v==l[i])=true by rw[hv];exact gN _,cond_true,Ze]
   refine .mk ⟨_,rfl,?_⟩;rw[ah (by omega),ah];rw[hv];exact fK aj
  ·rw[cx.2 hv,cond_false,Zb (by omega) (by omega)]
   refine aD (l.length-(i+1)) _ _ (by omega) ⟨i+1,rfl,by omega,ay _,rfl,?_⟩;rw[jG aj];intro hm;rcases cW.1 hm with h|h
   ·exact bz h
   ·exact hv (bK.1 h)
 ·rw[ao (show ¬(i:Int)<(l.length:Int) by omega),cond_false,Ze]
  rw[cA (by omega)]at bz;exact .mk ⟨_,rfl,by rw[ao bz];rfl⟩
theorem ZjT {Bd:Za} (h:FR Bd) (n:Nat) (l:List Int) (v:Int) (p:Option (Nat×Nat)) (st:St) (hs:Sl st p (ints l)) (hl:l.length<1000000) (hn:l.length+4<=n):
  run Bd n 222 [.slice 1 p l.length,.int .i64 v] st=some (.val [.bool (decide (v∈l))],st):=by
 obtain⟨n,rfl⟩: ∃m,n=m+1:=⟨n-1,by omega⟩;rw[Zf,h.eq];unfold FT;simp only[bh,al,ae];refine ok_eq ?_;refine Ok.call (ZtR h.q11 n l v p st hs hl (by omega)) ?_;rintro _ ⟨y,rfl,e⟩;refine⟨_,st,rfl,?_⟩;simp only[al,ae,Ze];rw[e];exact .mk rfl
def rW (v:Int):Bool:=bif decide (v>=2)then decide (v<3072)else false
theorem Zge {Bd:Za} (h:FY Bd) (n:Nat) (v:Int) (st:St):run Bd (n+1) 315 [.int .i64 v] st=some (.val [.bool (rW v)],st):=by
 rw[Zf,h.eq];unfold FX rW;simp only[al,ae,Zc,ai];cases decide (v>=2)<;>rfl
structure pH where
 name:List UInt8
 mask:Nat
 cY:List Int
def rV (x:pH):List DV:= .str x.name:: .int .i64 x.mask::ints x.cY
def qX (m i:Nat) (v:Int):Bool:=bif dM m i then rW v else v==0
def wC (x:pH):Bool:=mG x.name&&(decide (x.mask<4096)&&(List.range 12).all fun i=>qX x.mask i (x.cY.getD i 0))
def lz (b:List UInt8) (n:Nat):List Int:=(List.range n).map fun j=>dS b (4+2*j) 2
theorem Ic (b:List UInt8) (n:Nat):(lz b n).length=n:=by unfold lz;simp
theorem Zve (b:List UInt8) (n:Nat):lz b (n+1)=lz b n++[dS b (4+2*n) 2]:=by unfold lz;rw[um,dL];rfl
def wu (b:List UInt8) (t:Nat):pH:=⟨(b.drop 28).take t,rd b 0 4,lz b 12⟩
def rO (l:List UInt8):Option pH:=match gj l with
 |none=>none
 |some (k,t,b)=>bif decide (k=5)&&(decide (t<=24)&&Zy (b.drop (28+t)))then(bif wC (wu b t)then some (wu b t)else none)else none
def Zyo:pH:=⟨[],0,List.replicate 12 0⟩
theorem ZlT {Bd:Za} (h:Mn Bd) (n:Nat) (x:pH) (st:St) (hl:x.cY.length=12) (hs:x.name.length<1000) (hm:x.mask<4294967296) (hn:22+x.name.length<=n):run Bd n 299 [.agg (rV x)] st=some (.val [.bool (wC x)],st):=by
 obtain⟨n,rfl⟩: ∃m,n=m+2:=⟨n-2,by omega⟩;rw[Zf,h.eq];unfold F0 wC rV;have hlen:(ints x.cY).length=12:=by simp[ints,hl]
 simp only[bZ,bU,al,ae,Zc];rw[bF hlen,bF (by simp[hlen])];rw[Zi (ok_eq (ZsP h.q89 (n+1) x.name (by omega) (by omega) st))];simp only[ai,ae];cases mG x.name with
 |false=>rw[bD,cond_true];simp only[cond_true,Ze,eL]
 |true=>
 rw[bx,cond_false,ao (show ¬((x.mask:Nat):Int)<0 by omega)];simp only[cond_false,cI];by_cases dr:x.mask<4096;rotate_left
 ·rw[ah (show((x.mask:Nat):Int)>=4096 by omega),cond_true,ao dr,Ze,eL]
 rw[ao (show ¬((x.mask:Nat):Int)>=4096 by omega),cond_false,ah dr,cI];rw[show(ints x.cY).take 12=ints x.cY from cA (by omega)];refine ok_eq ?_;refine Zl _ (fun q y s=>∃i:Nat,y=[.int .i64 i]/\i<=12/\12-i<=q/\s=st/\((List.range i).all fun i=>qX x.mask i (x.cY.getD i 0))=true) ?_ 12 (n+1) _ _ ⟨0,rfl,by omega,by omega,rfl,rfl⟩ (by omega);rintro q _ s ⟨i,rfl,hi,hq,rfl,ca⟩ rec aD;simp only[al,ae];by_cases aj:i<12
 ·rw[ah (show(i:Int)<12 by omega),cond_true,Zd (show av (i:Int) 12=true from Zk aj),aX,di,kB (Zu (by omega))]
  simp only[aM];rw[Zd (ah (by omega)),ZwX (by omega) (by omega),ZAh (by omega) (by omega)];have hw:af ((i:Int)+1)=((i+1:Nat):Int):=Zb (by omega) (by omega);have rh:x.cY.getD i 0=x.cY[i]'(by omega):=by rw[bJ,ba (by omega)];rfl
  have aA:qX x.mask i (x.cY[i]'(by omega))=true->Ok (fun p=>p=(Out.val [DV.bool ((List.range 12).all fun i=>qX x.mask i (x.cY.getD i 0))],s)) (rec [.int .i64 (af ((i:Int)+1))] s):=fun e=>by
   rw[hw];refine aD (12-(i+1)) _ _ (by omega) ⟨i+1,rfl,by omega,ay _,rfl,?_⟩;rw[um,rF,ca,sJ,List.all_nil,rh,e];rfl
  have bz:qX x.mask i (x.cY[i]'(by omega))=false->((List.range 12).all fun i=>qX x.mask i (x.cY.getD i 0))=false:=fun e=>zO.2 ⟨i,jE.2 aj,by rw[rh,e];decide⟩
  cases hb:dM x.mask i with
  |true=>
   rw[bx,cond_false];rw[Zd (ah (by omega)),cond_true,Zi (Zge h.Tt n _ s)];simp only[ai,ae];cases hbn:rW (x.cY[i]'(by omega))with
   |true=>
    rw[bx,cond_false];exact aA (by unfold qX;rw[hb,cond_true,hbn])
   |false=>
    rw[bD,cond_true,Ze,bz (by unfold qX;rw[hb,cond_true,hbn])];exact .mk rfl
  |false=>
   rw[bD,cond_true];cases h0:(x.cY[i]'(by omega)==0)with
   |false=>
    rw[bD,cond_true];simp only[cond_true];rw[Ze,bz (by unfold qX;rw[hb,cond_false,h0])];exact .mk rfl
   |true=>
    rw[bx,cond_false];rw[Zd (ah (by omega)),cond_false];exact aA (by unfold qX;rw[hb,cond_false,h0])
 ·rw[ao (show ¬(i:Int)<12 by omega),cond_false,Ze]
  rw[show i=12 by omega]at ca;rw[ca];exact .mk rfl
theorem ZnI {Bd:Za} (h:ME Bd) (n:Nat) (a:Option (Nat×Nat)) (l:List UInt8) (st:St) (ha:dp st a l) (hl:l.length<1000000) (hn:160<=n):
  Ok (fun o=>∃s',ar st s'/\match rO l with
   |none=>o=(.val [.agg (rV Zyo),.bool false],s')
   |some x=>o=(.val [.agg (rV x),.bool true],s')/\x.cY.length=12) (run Bd n 275 [.slice 1 a l.length] st):=by
 obtain⟨n,rfl⟩: ∃m,n=m+1:=⟨n-1,by omega⟩;rw[Zf,h.eq];unfold GA rO;simp only[bh,ae,Zc];refine Ok.call (Ah h.sD n a l st ha hl (by omega)) ?_;rintro _ ⟨s1,aI,ho⟩;cases de:gj l with
 |none=>
  rw[de]at ho;subst ho;refine⟨_,s1,rfl,?_⟩;simp only[al,ai,ae,Zm 1 0 none _ (.inr rfl)];rw[bD,cond_true];simp only[cond_true,Ze];exact .mk ⟨_,aI,rfl⟩
 |some q=>
  obtain⟨k,t,b⟩:=q;rw[de]at ho;obtain⟨p1,rfl,hf,hb,hk,ht⟩:=ho;refine⟨_,s1,rfl,?_⟩;simp only[al,ai,bh,ae];rw[bx,cond_false,wy k 5 5 rfl];cases ig:decide (k=5)with
  |false=>
   rw[bD];simp only[cond_true,eL,cond_false,Ze];exact .mk ⟨_,aI,rfl⟩
  |true=>
  rw[bx];simp only[cond_false,cI];by_cases gB:t<=24;rotate_left
  ·rw[ah (show((t:Nat):Int)>24 by omega),ao gB]
   simp only[cond_true,eL,cond_false,Ze];exact .mk ⟨_,aI,rfl⟩
  rw[ao (show ¬((t:Nat):Int)>24 by omega),ah gB];simp only[cond_false,cI];have cz:=hf.uP;have hw:af (28+(t:Int))=((28+t:Nat):Int):=Zb (by omega) (by omega);have bz:=Af h.sC n p1 b (28+t) (28-t) s1 cz (by omega) (by omega) (by omega);rw[hb,cA (by rw[dt];omega)]at bz;have fU:af (af (((56:Nat):Int)-28)-(t:Int))=((28-t:Nat):Int):=by
   rw[show af (((56:Nat):Int)-28)=28 by decide];rw[Zb (by omega) (by omega)];omega
  rw[hw,fU,Zi bz];simp only[ai,ae,aX];cases Zy (b.drop (28+t))with
  |false=>
   simp only[bD,cond_true,cond_false,Ze];exact .mk ⟨_,aI,rfl⟩
  |true=>
   rw[bx];simp only[cond_true,cond_false];rw[Zd (by rw[aH,bc,bc];omega),Zd (ah (by omega))];have vq:=(cz.cy (k:=28) (by omega)).kt t;have xf:(bj ((b.drop 28).take t)).length=28+t-28:=by rw[Zr,bW,dt];omega
   have lI:=qg (β:=List DV) vq;rw[xf]at lI;rw[lI,<-rX,z7,Zd (ah (by omega))];have zc:(b.take 4).length=4:=by rw[bW];omega
   have iS:=wc h.qd n _ (b.take 4) s1 (cz.kt 4) (by omega) (by omega);rw[zc]at iS;rw[uB iS (.refl s1)];simp only[al,ae];have XP:ft (b.take 4)<4294967296:=by have:=JI (b.take 4);rw[zc]at this;exact this
   rw[Zb (x:=((ft (b.take 4):Nat):Int)) (by omega) (by omega)];have nM:((b.drop 28).take t).length<=24:=by rw[bW];omega
   refine Zl _ (fun q y s=>∃i:Nat,y=[.agg (.str ((b.drop 28).take t):: .int .i64 (ft (b.take 4):Nat)::(ints (lz b i)++ints (List.replicate (12-i) 0))),.int .i64 i]/\i<=12/\12-i<=q/\s=s1) ?_ 12 n _ _ ⟨0,rfl,by omega,by omega,rfl⟩ (by omega);rintro q _ s ⟨i,rfl,hi,hq,rfl⟩ rec aD;have hlen:(ints (lz b i)++ints (List.replicate (12-i) 0)).length=12:=by
    simp[ints,Ic];omega
   simp only[bZ,bU,al,ae];rw[bF hlen];by_cases aj:i<12
   ·have cj:af ((i:Int)+1)=((i+1:Nat):Int):=Zb (by omega) (by omega)
    have nR:af (2*(i:Int))=((2*i:Nat):Int):=Zb (by omega) (by omega);have oM:af (4+((2*i:Nat):Int))=((4+2*i:Nat):Int):=Zb (by omega) (by omega);have vz:af (((4+2*i:Nat):Int)+2)=((4+2*i+2:Nat):Int):=Zb (by omega) (by omega);simp only[cj,nR,oM,vz,aX,di];rw[ah (show(i:Int)<12 by omega),cond_true];rw[Zd (by rw[aH,bc,bc];omega),Zd (by rw[aH,bc,bc];omega)];have fQ:=cz.cy (k:=4+2*i) (by omega);have tB:((b.drop (4+2*i)).take 2).length=2:=by rw[bW,dt];omega
    have iS:=wc h.qd n _ ((b.drop (4+2*i)).take 2) s (fQ.kt 2) (by omega) (by omega);rw[tB]at iS;rw[show 4+2*i+2-(4+2*i)=2 by omega,Zi iS];simp only[al,ae];rw[Zd (show av (i:Int) 12=true from Zk aj),Zd (gx (by omega))];refine aD (12-(i+1)) _ _ (by omega) ⟨i+1,?_,by omega,ay _,rfl⟩;congr 4;rw[Zve,show List.replicate (12-i) (0:Int)=0::List.replicate (12-(i+1)) 0 by rw[show 12-i=(12-(i+1))+1 by omega];rfl];have e3:i=(ints (lz b i)).length:=by simp[ints,Ic]
    have e4:=qF (ints (lz b i)) [.int .i64 0] (ints (List.replicate (12-(i+1)) 0)) [.int .i64 (dS b (4+2*i) 2)] rfl;rw[<-e3]at e4;show bC (ints (lz b i)++([.int .i64 0]++ints (List.replicate (12-(i+1)) 0))) i [.int .i64 (dS b (4+2*i) 2)]=ints (lz b i++[dS b (4+2*i) 2])++_;rw[e4,show ints (lz b i++[dS b (4+2*i) 2])=ints (lz b i)++[.int .i64 (dS b (4+2*i) 2)] by unfold ints;rw[dL];rfl,dD]
   ·rw[ao (show ¬(i:Int)<12 by omega),cond_false]
    have tG:i=12:=by omega
    subst tG;rw[show ints (lz b 12)++ints (List.replicate (12-12) 0)=ints (lz b 12)from ez _]at hlen⊢;rw[bF hlen];have Lb:=ZlT h.q18 n (wu b t) s (Ic b 12) (by show((b.drop 28).take t).length<_;omega) XP (by show _+((b.drop 28).take t).length<=_;omega);have Sx:rV (wu b t)= .str ((b.drop 28).take t):: .int .i64 (ft (b.take 4):Nat)::ints (lz b 12):=rfl;rw[<-Sx,Zi Lb];simp only[ai,ae];cases wC (wu b t)with
    |false=>
     rw[bD,cond_true,Ze];exact .mk ⟨_,aI,rfl⟩
    |true=>
     rw[bx,cond_false,bF (by rw[Sx];simp[hlen]),Ze];exact .mk ⟨_,aI,rfl,Ic b 12⟩
def AI (l:List Int):Bool:=decide (1<=l.length)&&(decide (l.length<=16)&&(List.range l.length).all fun i=>rW (l.getD i 0)&& !decide (l.getD i 0∈l.take i))
def AW (l:List UInt8):Option (List Int):=match gj l with
 |none=>none
 |some (k,t,b)=>bif decide (k=6)&&(decide (t<=16)&&Zy (b.drop (2*t)))then(bif AI (gD b t)then some (gD b t)else none)else none
theorem Znw {Bd:Za} (h:MF Bd) (n:Nat) (l:List Int) (p:Option (Nat×Nat)) (st:St) (hs:Sl st p (ints l)) (hl:l.length<1000) (hn:l.length+10<=n):run Bd n 300 [.agg [.slice 1 p l.length]] st=some (.val [.bool (AI l)],st):=by
 obtain⟨n,rfl⟩: ∃m,n=m+2:=⟨n-2,by omega⟩;rw[Zf,h.eq];unfold Gx AI;simp only[bZ,bh,ae,Zc];by_cases h1:1<=l.length;rotate_left
 ·rw[ah (show((l.length:Nat):Int)<1 by omega),ao h1]
  simp only[ai,ae,cond_true,Ze,eL]
 rw[ao (show ¬((l.length:Nat):Int)<1 by omega),ah h1];simp only[ai,ae,cond_false,cI];by_cases h2:l.length<=16;rotate_left
 ·rw[ah (show((l.length:Nat):Int)>16 by omega),ao h2]
  simp only[cond_true,Ze,eL]
 rw[ao (show ¬((l.length:Nat):Int)>16 by omega),ah h2];simp only[cond_false,cI];refine ok_eq ?_;refine Zl _ (fun q y s=>∃i:Nat,y=[.int .i64 i]/\i<=l.length/\l.length-i<=q/\s=st/\((List.range i).all fun i=>rW (l.getD i 0)&& !decide (l.getD i 0∈l.take i))=true) ?_ l.length (n+1) _ _ ⟨0,rfl,by omega,by omega,rfl,rfl⟩ (by omega);rintro q _ s ⟨i,rfl,hi,hq,rfl,ca⟩ rec aD;simp only[al,ae];by_cases aj:i<l.length
 ·obtain⟨i1,o1,rfl⟩:=hs.ck (by simp[ints];omega)
  rw[ah (show(i:Int)<(l.length:Int) by omega),cond_true,aV,Zd (Zk aj),aX,hs.cP (Zu aj)];simp only[aM];have hw:af ((i:Int)+1)=((i+1:Nat):Int):=Zb (by omega) (by omega);have rh:l.getD i 0=l[i]:=by rw[bJ,ba aj];rfl
  have bz:(rW l[i]&& !decide (l[i]∈l.take i))=false->((List.range l.length).all fun i=>rW (l.getD i 0)&& !decide (l.getD i 0∈l.take i))=false:=fun e=>zO.2 ⟨i,jE.2 aj,by rw[rh,e];decide⟩
  rw[Zi (Zge h.Tt n _ s)];simp only[ai,ae];cases hb:rW l[i]with
  |false=>
   rw[bD,cond_true];simp only[cond_true];rw[Ze,bz (by rw[hb];rfl)];exact .mk rfl
  |true=>
   rw[bx,cond_false,Zd (by rw[aH,bc,bc];omega)];have SL:(l.take i).length=i:=by rw[bW];omega
   have bB:Sl s (some (i1,o1)) (ints (l.take i)):=by
    have:=Sl.kt hs i
    rwa [show(ints l).take i=ints (l.take i) by unfold ints;rw[List.map_take]]at this
   have hc:=ZjT h.q8 (n+1) (l.take i) l[i] _ s bB (by omega) (by omega);rw[SL]at hc;rw[Zi hc];simp only[ai,ae];cases hm:decide (l[i]∈l.take i)with
   |true=>
    rw[cond_true,Ze,bz (by rw[hb,hm];rfl)];exact .mk rfl
   |false=>
    rw[cond_false,hw];refine aD (l.length-(i+1)) _ _ (by omega) ⟨i+1,rfl,by omega,ay _,rfl,?_⟩;rw[um,rF,ca,sJ,List.all_nil,rh,hb,hm];rfl
 ·rw[ao (show ¬(i:Int)<(l.length:Int) by omega),cond_false,Ze]
  rw[show i=l.length by omega]at ca;rw[ca];exact .mk rfl
theorem ZpB {Bd:Za} (h:MI Bd) (n:Nat) (a:Option (Nat×Nat)) (l:List UInt8) (st:St) (ha:dp st a l) (hl:l.length<1000000) (hn:160<=n):
  Ok (fun o=>∃s',ar st s'/\match AW l with
   |none=>o=(.val [.agg [.slice 0 none 0],.bool false],s')
   |some x=>∃p,o=(.val [.agg [.slice 1 p x.length],.bool true],s')/\Fz s' p (ints x)/\x.length<=16) (run Bd n 276 [.slice 1 a l.length] st):=by
 obtain⟨n,rfl⟩: ∃m,n=m+1:=⟨n-1,by omega⟩;rw[Zf,h.eq];unfold Hh AW;simp only[bh,ae,Zc];rw[ni];refine Ok.call (Ah h.sD n a l st ha hl (by omega)) ?_;rintro _ ⟨s1,aI,ho⟩;cases de:gj l with
 |none=>
  rw[de]at ho;subst ho;refine⟨_,s1,rfl,?_⟩;simp only[al,ai,ae,Zm 1 0 none _ (.inr rfl)];rw[bD,cond_true];simp only[cond_true];rw[ZE];exact .mk ⟨_,ZH aI,rfl⟩
 |some q=>
  obtain⟨k,t,b⟩:=q;rw[de]at ho;obtain⟨p1,rfl,hf,hb,hk,ht⟩:=ho;refine⟨_,s1,rfl,?_⟩;simp only[al,ai,bh,ae];rw[bx,cond_false,wy k 6 6 rfl];cases ig:decide (k=6)with
  |false=>
   rw[bD];simp only[cond_true,eL,cond_false];rw[ZE];exact .mk ⟨_,ZH aI,rfl⟩
  |true=>
  rw[bx];simp only[cond_false,cI];by_cases gB:t<=16;rotate_left
  ·rw[ah (show((t:Nat):Int)>16 by omega),ao gB]
   simp only[cond_true,eL,cond_false];rw[ZE];exact .mk ⟨_,ZH aI,rfl⟩
  rw[ao (show ¬((t:Nat):Int)>16 by omega),ah gB];simp only[cond_false,cI];have cz:=hf.uP;have hw:af (2*(t:Int))=((2*t:Nat):Int):=Zb (by omega) (by omega);have bz:=Af h.sC n p1 b (2*t) (56-2*t) s1 cz (by omega) (by omega) (by omega);rw[hb,cA (by rw[dt];omega)]at bz;have fU:af (((56:Nat):Int)-((2*t:Nat):Int))=((56-2*t:Nat):Int):=by
   rw[Zb (by omega) (by omega)];omega
  rw[hw,fU,Zi bz];simp only[ai,ae];cases Zy (b.drop (2*t))with
  |false=>
   simp only[bD,cond_true,cond_false];rw[ZE];exact .mk ⟨_,ZH aI,rfl⟩
  |true=>
   rw[bx];simp only[cond_true,cond_false];refine Zl _ (fun q y s=>∃(i z:Nat) (p:Option (Nat×Nat)),y=[.agg [.slice z p i],.int .i64 i]/\(z=1\/p=none)/\i<=t/\t-i<=q/\aY st s p (ints (gD b i))/\pz s p1 b) ?_ t n _ _ ⟨0,0,none,rfl,.inr rfl,bH _,by omega,aY.nil aI,hf⟩ (by omega);rintro q _ s ⟨i,z,p,rfl,hz,hi,hq,ho,By⟩ rec aD;simp only[bZ,al,Zm 1 z p _ hz,ae];by_cases aj:i<t
   ·have cj:af ((i:Int)+1)=((i+1:Nat):Int):=Zb (by omega) (by omega)
    have fU:af (2*((i+1:Nat):Int))=((2*(i+1):Nat):Int):=Zb (by omega) (by omega);have nR:af (2*(i:Int))=((2*i:Nat):Int):=Zb (by omega) (by omega);simp only[cj,fU,nR,aX,di];rw[ah (show(i:Int)<(t:Int) by omega),cond_true];rw[Zd (by rw[aH,bc,bc];omega),Zd (by rw[aH,bc,bc];omega)];have fQ:=By.uP.cy (k:=2*i) (by omega);have tB:((b.drop (2*i)).take 2).length=2:=by rw[bW,dt];omega
    have iS:=wc h.qd n _ ((b.drop (2*i)).take 2) s (fQ.kt 2) (by omega) (by omega);rw[tB]at iS;rw[show 2*(i+1)-2*i=2 by omega,AH iS];simp only[al,ae];obtain⟨p2,s2,cK,nL,he⟩:=ho.xJ (β:=List DV) (sz:=1) (n:=i) (lim:=8796093022208) [.int .i64 (dS b (2*i) 2)] (sN 0) (by simp[ints,rJ]) rfl (by omega);refine Eq.mpr (congrArg (Ok _) (he _)) ?_;refine aD (t-(i+1)) _ _ (by omega) ⟨i+1,1,p2,rfl,.inl rfl,by omega,ay _,?_,By.kp nL⟩;rw[ZpV];show aY st s2 p2 (List.map _ _);rw[dL];exact cK
   ·rw[ao (show ¬(i:Int)<(t:Int) by omega),cond_false]
    have RS:i=t:=by omega
    subst RS;have hr:=Znw h.q32 n (gD b i) p s ho.sl (by rw[rJ];omega) (by rw[rJ];omega);rw[rJ]at hr;simp only[bh,ae];rw[Zi hr];simp only[ai,ae];cases AI (gD b i)with
    |false=>
     rw[bD,cond_true];simp only[cond_false];rw[ZE];exact .mk ⟨_,ZH ho.1,rfl⟩
    |true=>
     rw[bx,cond_false];simp only[cond_true];rw[ZE];refine .mk ⟨_,ZH ho.1,p,?_,ho.fz,?_⟩
     ·rw[rJ]
     ·rw[rJ];omega
end Go.Gv.F
namespace Go.Gv.F
open Go.Gv
variable {β:Type}
def lN (n k:Int):Int:=af ((af (af (n+k)-1)).tdiv k)
def uC (b s g:Int):Int:=bif mj b s g then lN b 384 else 0
def wq (n:Int):Int:=bif (decide (n>=0)&&decide (n<=1792))then lN n 7 else 0
theorem Zpf {Bd:Za} (h:I4 Bd) (n:Nat) (v k:Int) (hk:k≠0) (st:St):run Bd (n+1) 253 [.int .i64 v,.int .i64 k] st=some (.val [.int .i64 (lN v k)],st):=by
 rw[Zf,h.eq];unfold IU lN;simp only[al,ae];rw[Zd (by rw[cx.2 hk];rfl)];rfl
theorem ZsF {Bd:Za} (h:NL Bd) (n:Nat) (v:Int) (st:St):run Bd (n+1) 255 [.int .i64 v] st=some (.val [.bool (decide (v>=0)&&decide (v<=1792))],st):=by
 rw[Zf,h.eq];unfold Hp;simp only[al,ae,Zc];cases decide (v>=0)<;>rfl
theorem ZqQ {Bd:Za} (h:Ni Bd) (n:Nat) (v:Int) (st:St):run Bd (n+2) 227 [.int .i64 v] st=some (.val [.int .i64 (wq v)],st):=by
 rw[Zf,h.eq];unfold GX wq;simp only[al,ae];rw[Zi (ZsF h.q87 n v st)];simp only[ai,ae];cases(decide (v>=0)&&decide (v<=1792))with
 |false=>rfl
 |true=>
  rw[bx,cond_false,Zi (Zpf h.Tu n v 7 (by decide) st)];rfl
theorem Zrk {Bd:Za} (h:M3 Bd) (n:Nat) (b s g:Int) (st:St):run Bd (n+2) 223 [.agg [.int .i64 b,.int .i64 s,.int .i64 g]] st=some (.val [.int .i64 (uC b s g)],st):=by
 rw[Zf,h.eq];unfold GY uC;simp only[bZ,al,ae];rw[Zi (ZlH h.TF n b s g st)];simp only[ai,ae];cases mj b s g with
 |false=>rfl
 |true=>
  rw[bx,cond_false,Zi (Zpf h.Tu n b 384 (by decide) st)];rfl
structure ZA where
 no:Nat
 bT:List UInt8
def Zz (x:ZA):List DV:= .int .i64 x.no::bj x.bT
def AU:ZA:=⟨0,List.replicate 48 0⟩
def sU (l:List UInt8):Option ZA:=match gj l with
 |none=>none
 |some (k,t,b)=>bif decide (k=4)&&(decide (t<8)&&Zy (b.drop 48))then some ⟨t,b.take 48⟩else none
def sc (x:ZA) (a:Nat):Bool:=decide (a/384=x.no)&&dM (x.bT.getD (a%384/8) 0).toNat (a%8)
def dz (x:ZA) (n:Nat):List Int:=((List.range n).filter fun i=>sc x (x.no*384+i)).map fun i=>((x.no*384+i:Nat):Int)
theorem IM (x:ZA) (n:Nat):dz x (n+1)=dz x n++(bif sc x (x.no*384+n)then[((x.no*384+n:Nat):Int)]else[]):=by
 unfold dz;rw[um,zQ,dL];congr 1;cases h:sc x (x.no*384+n)<;>simp[h]
theorem Zsn (x:ZA) (n:Nat):(dz x n).length<=n:=by
 unfold dz;rw[lS];exact fw (List.length_filter_le _ _) (by simp)
theorem WA {x r:Nat} (hx:x<256) (hr:r<8):((bits .and .u8 (x:Int) ((2^r:Nat):Int))==0)= !dM x r:=by
 have key: ∀x:Fin 256,∀r:Fin 8,((x.val&&& 2^r.val)==0)= !decide (x.val/2^r.val%2=1):=by decide+kernel
 have hp:2^r<256:=FC (a:=2) (m:=r) (n:=8) (by decide) hr;have e:bits .and .u8 (x:Int) ((2^r:Nat):Int)=((x&&& 2^r:Nat):Int):=by
  generalize 2^r=w at hp;show IntKind.wrap .u8 ((BitVec.ofInt 8 (x:Int)&&& BitVec.ofInt 8 ((w:Nat):Int)).toNat:Int)=_;rw[BitVec.toNat_and,Fs,Fs];have e1:((x:Int)%((2^8:Nat):Int)).toNat=x:=by omega
  have e2:(((w:Nat):Int)%((2^8:Nat):Int)).toNat=w:=by omega
  rw[e1,e2];have:x&&& w<256:=xW Nat.and_le_left hx;show((x&&& w:Nat):Int)%(2^8)=_;have:((2:Int)^8)=256:=by decide
  omega
 rw[e];have:=key ⟨x,hx⟩ ⟨r,hr⟩;simp only at this;unfold dM;rw[<-this];by_cases h0:x&&& 2^r=0
 ·rw[h0];rfl
 ·rw[cx.2 h0];exact cx.2 (by omega)
theorem ZrI {Bd:Za} (h:Na Bd) (n:Nat) (x:ZA) (hl:x.bT.length=48) (st:St):run Bd (n+1) 307 [.agg (Zz x)] st=some (.val [.bool (decide (x.no<8))],st):=by
 rw[Zf,h.eq];unfold HH Zz;have hlen:(bj x.bT).length=48:=by rw[Zr,hl]
 simp only[bZ,al,ae,Zc];rw[bF hlen,bF (by simp[hlen]),ah (show((x.no:Nat):Int)>=0 by omega),cond_true];simp only[ai,ae];rw[Ze];by_cases h8:x.no<8
 ·rw[ah h8,ah (by omega)]
 ·rw[ao h8,ao (by omega)]
theorem Zu7 {Bd:Za} (h:NF Bd) (n:Nat) (x:ZA) (a:Nat) (ha:a<1000000) (hl:x.bT.length=48) (h8:x.no<8) (st:St):
  run Bd (n+2) 287 [.agg (Zz x),.int .i64 a] st=some (.val (bif decide (a/384=x.no)then[.int .i64 (a%384/8:Nat),.int .u8 (2^(a%8):Nat),.bool true]else[.int .i64 0,.int .u8 0,.bool false]),st):=by
 rw[Zf,h.eq];have hr:=ZrI h.q60 n x hl st;unfold HP;have hlen:(bj x.bT).length=48:=by rw[Zr,hl]
 unfold Zz at hr⊢;simp only[bZ,al,ae,Zc];rw[bF hlen,bF (by simp[hlen]),Zi hr];simp only[ai,ae];rw[ah h8,bx,cond_false,ao (show ¬(a:Int)<0 by omega)];simp only[cond_false];rw[show((a:Int).tdiv 384)=((a/384:Nat):Int)from rfl,Zb (by omega) (by omega),wy (a/384) x.no _ rfl];cases hd:decide (a/384=x.no)with
 |false=>rfl
 |true=>
  rw[bx,cond_false,cond_true];rw[show((a:Int).tmod 384)=((a%384:Nat):Int)from rfl,show(((a%384:Nat):Int).tmod 8)=((a%384%8:Nat):Int)from rfl,show(((a%384:Nat):Int).tdiv 8)=((a%384/8:Nat):Int)from rfl];rw[Zd (ah (by omega)),Zb (by omega) (by omega),aX,j1 (by omega),show a%384%8=a%8 by omega,Ze];have hp:2^(a%8)<256:=FC (a:=2) (m:=a%8) (n:=8) (by decide) (by omega);have e:IntKind.wrap .u8 (1*2^(a%8))=((2^(a%8):Nat):Int):=by
   rw[Int.one_mul,show((2:Int)^(a%8))=((2^(a%8):Nat):Int) by push_cast;rfl];generalize 2^(a%8)=w at hp;show((w:Nat):Int)%(2^8)=_;have:((2:Int)^8)=256:=by decide
   omega
  rw[e]
theorem Zu1 {Bd:Za} (h:ND Bd) (n:Nat) (x:ZA) (a:Nat) (ha:a<1000000) (hl:x.bT.length=48) (h8:x.no<8) (st:St):
  run Bd (n+3) 262 [.agg (Zz x),.int .i64 a] st=some (.val [.bool (sc x a)],st):=by
 rw[Zf,h.eq];have hr:=Zu7 h.Y9 n x a ha hl h8 st;unfold Ik sc;have hlen:(bj x.bT).length=48:=by rw[Zr,hl]
 unfold Zz at hr⊢;simp only[bZ,al,ae,Zc];rw[bF hlen,bF (by simp[hlen]),Zi hr];cases decide (a/384=x.no)with
 |false=>rfl
 |true=>
  simp only[cond_true,al,ai,ae,aX,di,cI];rw[Zd (show av ((a%384/8:Nat):Int) 48=true from Zk (by omega))];obtain⟨c,hc⟩: ∃c,x.bT[a%384/8]? =some c:=⟨_,ba (by omega)⟩;rw[kB (PC hc),getD_some hc];simp only[aM];rw[WA c.toNat_lt (by omega),Bool.not_not];rfl
theorem ZsE {Bd:Za} (h:NM Bd) (n:Nat) (x:ZA) (hl:x.bT.length=48) (h8:x.no<8) (st:St) (hn:400<=n):
  Ok (fun o=>∃p s',o=(.val [.slice 1 p (dz x 384).length],s')/\ar st s'/\Fz s' p (ints (dz x 384))) (run Bd n 239 [.agg (Zz x)] st):=by
 obtain⟨n,rfl⟩: ∃m,n=m+4:=⟨n-4,by omega⟩;rw[Zf,h.eq];have hr:=fun a ha s=>Zu1 h.Y8 n x a ha hl h8 s
 unfold Hx;have hlen:(bj x.bT).length=48:=by rw[Zr,hl]
 unfold Zz at hr⊢;simp only[bZ,al,ae,Zc];rw[bF hlen,ni,bF (by simp[hlen])];refine Zl _ (fun q y s=>∃(i z:Nat) (p:Option (Nat×Nat)),y=[.slice z p (dz x i).length,.int .i64 i]/\(z=1\/p=none)/\i<=384/\384-i<=q/\aY st s p (ints (dz x i))) ?_ 384 (n+3) _ _ ⟨0,0,none,rfl,.inr rfl,bH _,by omega,aY.nil (.refl st)⟩ (by omega);rintro q _ s ⟨i,z,p,rfl,hz,hi,hq,ho⟩ rec aD;simp only[al,Zm 1 z p _ hz,ae];by_cases aj:i<384
 ·have cj:af ((i:Int)+1)=((i+1:Nat):Int):=Zb (by omega) (by omega)
  have fU:af ((x.no:Int)*384)=((x.no*384:Nat):Int):=by rw[Zb (by omega) (by omega)];omega
  have nR:af (((x.no*384:Nat):Int)+(i:Int))=((x.no*384+i:Nat):Int):=Zb (by omega) (by omega);simp only[cj,fU,nR];rw[ah (show(i:Int)<384 by omega),cond_true,Zi (hr (x.no*384+i) (by omega) s)];simp only[ai,ae];have iD:=Zsn x i;cases hh:sc x (x.no*384+i)with
  |true=>
   rw[cond_true];obtain⟨p2,s2,cK,nL,he⟩:=ho.xJ (β:=List DV) (sz:=1) (n:=(dz x i).length) (lim:=8796093022208) [.int .i64 ((x.no*384+i:Nat):Int)] (sN 0) (by simp[ints]) rfl (by omega);refine Eq.mpr (congrArg (Ok _) (he _)) ?_;simp only[bh,ae];refine aD (384-(i+1)) _ _ (by omega) ⟨i+1,1,p2,?_,.inl rfl,by omega,ay _,?_⟩
   ·rw[IM,hh];simp
   ·rw[IM,hh]
    show aY st s2 p2 (List.map _ _);rw[dL];exact cK
  |false=>
   rw[cond_false];simp only[bh,ae];refine aD (384-(i+1)) _ _ (by omega) ⟨i+1,1,p,?_,.inl rfl,by omega,ay _,?_⟩
   ·rw[IM,hh];simp
   ·rw[IM,hh,cond_false,ez];exact ho
 ·rw[ao (show ¬(i:Int)<384 by omega),cond_false]
  simp only[bh,ae];rw[ZE];have tG:i=384:=by omega
  subst tG;exact .mk ⟨p,_,rfl,ZH ho.1,ho.fz⟩
theorem ZzT {s:St} {A B D:List DV} (hl:B.length=D.length) (K:M β):M.store s.length A.length D K (s++[some ⟨false,A++B⟩])=K (s++[some ⟨false,A++D⟩]):=by
 unfold M.store St.fH;rw[gU (ay _),qw];simp only[gV];rw[gx (by rw[bg];omega),cond_true];have e:=qF A B [] D hl;rw[ez,ez]at e;rw[e];simp
theorem Zt5 {Bd:Za} (h:Od Bd) (n:Nat) (a:Option (Nat×Nat)) (l:List UInt8) (st:St) (ha:dp st a l) (hl:l.length<1000000) (hn:160<=n):
  Ok (fun o=>∃s',ar st s'/\match sU l with
   |none=>o=(.val [.agg (Zz AU),.bool false],s')
   |some x=>o=(.val [.agg (Zz x),.bool true],s')/\x.bT.length=48/\x.no<8) (run Bd n 204 [.slice 1 a l.length] st):=by
 obtain⟨n,rfl⟩: ∃m,n=m+1:=⟨n-1,by omega⟩;rw[Zf,h.eq];unfold HR sU;simp only[bh,ae,Zc];refine Ok.call (Ah h.sD n a l st ha hl (by omega)) ?_;rintro _ ⟨s1,aI,ho⟩;cases de:gj l with
 |none=>
  rw[de]at ho;subst ho;refine⟨_,s1,rfl,?_⟩;simp only[al,ai,ae,Zm 1 0 none _ (.inr rfl)];rw[bD,cond_true];simp only[cond_true,Ze];exact .mk ⟨_,aI,rfl⟩
 |some q=>
  obtain⟨k,t,b⟩:=q;rw[de]at ho;obtain⟨p1,rfl,hf,hb,hk,ht⟩:=ho;refine⟨_,s1,rfl,?_⟩;simp only[al,ai,bh,ae];rw[bx,cond_false,wy k 4 4 rfl];cases ig:decide (k=4)with
  |false=>
   rw[bD];simp only[cond_true,eL,cond_false,Ze];exact .mk ⟨_,aI,rfl⟩
  |true=>
  rw[bx];simp only[cond_false,cI];by_cases gB:t<8;rotate_left
  ·rw[ah (show((t:Nat):Int)>=8 by omega),ao gB]
   simp only[cond_true,eL,cond_false,Ze];exact .mk ⟨_,aI,rfl⟩
  rw[ao (show ¬((t:Nat):Int)>=8 by omega),ah gB];simp only[cond_false,cI];have cz:=hf.uP;have bz:=Af h.sC n p1 b 48 8 s1 cz (by omega) (by omega) (by omega);rw[hb,cA (by rw[dt];omega)]at bz;rw[show af (((56:Nat):Int)-48)=((8:Nat):Int) by decide,show(48:Int)=((48:Nat):Int)from rfl,Zi bz];simp only[ai,ae];cases Zy (b.drop 48)with
  |false=>
   simp only[bD,cond_true,cond_false,Ze];exact .mk ⟨_,aI,rfl⟩
  |true=>
   rw[bx];simp only[cond_true,cond_false];have hz:Zz AU=[.int .i64 0]++bj (List.replicate 48 0):=rfl;have Eo:(b.take 48).length=48:=by rw[bW];omega
   have gQ:(bj (b.take 48)).length=min 56 48*1:=by rw[Zr,Eo];rfl
   refine Eq.mpr (congrArg (Ok _) (show _=(M.new (Zz AU) fun c1=>M.store c1 0 (Zz ⟨t,List.replicate 48 0⟩)<|M.load c1 1 48 fun _=>M.rd p1 (min 56 48*1) fun cs=>M.store c1 1 cs<|M.load c1 0 49 fun bw=>J.i .i64 bw fun x4 r1=>D.len r1 48<|D.len ((.int .i64 x4)::r1) 49<|M.ret [.agg ((.int .i64 x4)::r1),.bool true]) s1 from rfl)) ?_;rw[Zw,ZrX (by simp[Zz,Zr,AU])];have jQ:=Dc s1 (Zz ⟨t,List.replicate 48 0⟩);rw[lA (i:=s1.length) (o:=1) (n:=48) (f:=false) (all:=Zz ⟨t,List.replicate 48 0⟩) (by simp) (by simp[Zz,Zr])];have eQ:=(cz.mono (ar.new s1 (some ⟨false,Zz ⟨t,List.replicate 48 0⟩⟩))).kt 48;rw[<-gQ,qg eQ];have bB:=ZzT (β:=List DV) (s:=s1) (A:=[.int .i64 t]) (B:=bj (List.replicate 48 0)) (D:=bj (b.take 48)) (by rw[Zr,Zr,Eo];rfl);refine Eq.mpr (congrArg (Ok _) (bB _)) ?_;have hco:([.int .i64 t]++bj (b.take 48):List DV).length=49:=by rw[bg,Zr,Eo];rfl
   rw[lA (i:=s1.length) (o:=0) (n:=49) (f:=false) (all:=[.int .i64 t]++bj (b.take 48)) (by simp) (by rw[hco];omega)];rw[dE,cA (l:=[DV.int .i64 t]++bj (b.take 48)) (i:=49) (by rw[hco];omega)];show Ok _ (J.i .i64 (.int .i64 t::bj (b.take 48)) _ _);simp only[al];have Vg:(bj (b.take 48)).length=48:=by rw[Zr,Eo]
   rw[bF Vg,bF (by rw[dF,Vg]),Ze];exact .mk ⟨_,aI.trans (.new _ _),rfl,Eo,gB⟩
end Go.Gv.F
namespace Go.Gv.F
open Go.Gv
variable {β:Type}
def Fx (T:List Nat) (s s':St):Prop:=s.length<=s'.length/\∀(b:Nat) (x:Option bq),b∉T->s[b]? =some x->s'[b]? =some x
theorem Fx.refl (T:List Nat) (s:St):Fx T s s:=⟨ay _,fun _ _ _ h=>h⟩
theorem Fx.pre {s s':St} (T:List Nat) (h:ar s s'):Fx T s s':=⟨h.len,fun _ _ _ e=>h.get e⟩
theorem Fx.trans {T:List Nat} {a b c:St} (h:Fx T a b) (k:Fx T b c):Fx T a c:=⟨fw h.1 k.1,fun i x n e=>k.2 i x n (h.2 i x n e)⟩
theorem Fx.step {T T':List Nat} {a b c:St} (h:Fx T a b) (k:Fx T' b c) (hT: ∀x∈T',x∈T\/a.length<=x):Fx T a c:=
 ⟨fw h.1 k.1,fun i x n e=>k.2 i x (fun hm=>by
  rcases hT i hm with h1|h1
  ·exact n h1
  ·have:=(cd.1 e).1;omega) (h.2 i x n e)⟩
theorem Fx.mono {T T':List Nat} {a b:St} (h:Fx T a b) (k: ∀x∈T,x∈T'):Fx T' a b:=⟨h.1,fun i x n e=>h.2 i x (fun m=>n (k i m)) e⟩
theorem Fx.set (s:St) (j:Nat) (b:Option bq):Fx [j] s (s.set j b):=⟨by simp,fun i x n e=>by
 rw[eu (by simp at n;omega)];exact e⟩
def j6 (T:List Nat) (a:Option (Nat×Nat)):Prop:=∀b o,a=some (b,o)->b∉T
theorem Sl.fx {T:List Nat} {s s':St} {a:Option (Nat×Nat)} {cs:List DV} (h:Sl s a cs) (k:Fx T s s') (n:j6 T a):Sl s' a cs:=by
 cases a with
 |none=>exact h
 |some p=>
  obtain⟨i,o⟩:=p;obtain⟨f,all,h1,h2⟩:=h;exact⟨f,all,k.2 i _ (n i o rfl) h1,h2⟩
theorem Sl.lt {s:St} {i o:Nat} {cs:List DV} (h:Sl s (some (i,o)) cs):i<s.length:=by
 obtain⟨f,all,h1,_⟩:=h;exact(cd.1 h1).1
theorem j6.new {s:St} {T T':List Nat} {a:Option (Nat×Nat)} {cs:List DV} (h:j6 T a) (k:Sl s a cs) (hT: ∀x∈T',x∈T\/s.length<=x):j6 T' a:=by
 intro b o e hm;subst e;rcases hT b hm with h1|h1
 ·exact h b o rfl h1
 ·have:=Sl.lt k;omega
def ZG (W:List Nat):List DV:=W.map fun(w:Nat)=> .int .u64 w
theorem N0 (W:List Nat):(ZG W).length=W.length:=by simp[ZG]
structure eY (s:St) (f:Bool) (i j n:Nat) (W:List Nat):Prop where
 hd:s[i]? =some (some ⟨f,[.int .i64 n,.slice 1 (some (j,0)) W.length]⟩)
 wd:s[j]? =some (some ⟨f,ZG W⟩)
 len:W.length=(n+63)/64
 lt: ∀w∈W,w<18446744073709551616
 le:n<=3072
theorem eY.fx {T:List Nat} {s s':St} {f:Bool} {i j n:Nat} {W:List Nat} (h:eY s f i j n W) (k:Fx T s s') (hi:i∉T) (hj:j∉T):eY s' f i j n W:=
 ⟨k.2 i _ hi h.hd,k.2 j _ hj h.wd,h.len,h.lt,h.le⟩
theorem eY.pre {s s':St} {f:Bool} {i j n:Nat} {W:List Nat} (h:eY s f i j n W) (k:ar s s'):eY s' f i j n W:=
 ⟨k.get h.hd,k.get h.wd,h.len,h.lt,h.le⟩
def gG (n:Nat) (a:Int):Bool:=decide (0<=a)&&decide (a<n)
def cR (W:List Nat) (a:Nat):Bool:=dM (W.getD (a/64) 0) (a%64)
def da (n:Nat) (W:List Nat) (a:Int):List Nat:=bif gG n a then W.set (a.toNat/64) (W.getD (a.toNat/64) 0|||2^(a.toNat%64))else W
theorem sV (n:Nat) (W:List Nat) (a:Int):(da n W a).length=W.length:=by
 unfold da;cases gG n a<;>simp
theorem AK {n:Nat} {W:List Nat} {a:Int} (h: ∀w∈W,w<18446744073709551616): ∀w∈da n W a,w<18446744073709551616:=by
 unfold da;cases gG n a with
 |false=>exact h
 |true=>
  intro w hw;rw[cond_true]at hw;rcases List.mem_or_eq_of_mem_set hw with h1|h1
  ·exact h w h1
  ·rw[h1]
   refine FB (n:=64) ?_ (FC (by decide) (by omega));rw[bJ];cases e:W[a.toNat/64]? with
   |none=>decide
   |some v=>exact h v (lh e)
theorem wv {n:Nat} {W:List Nat} {a:Int} {b:Nat} (hl:W.length=(n+63)/64):cR (da n W a) b=(cR W b||(gG n a&&decide (b=a.toNat))):=by
 unfold da;cases hm:gG n a with
 |false=>simp[cR]
 |true=>
  rw[cond_true,cI];unfold gG at hm;rw[aH,bc,bc]at hm;unfold cR;have hk:a.toNat/64<W.length:=by omega
  by_cases hq:b/64=a.toNat/64
  ·rw[hq,bJ,fJ hk]
   show dM (W.getD (a.toNat/64) 0|||2^(a.toNat%64)) (b%64)=_;have key: ∀w:Nat,dM (w|||2^(a.toNat%64)) (b%64)=(dM w (b%64)||decide (b=a.toNat)):=by
    intro w;unfold dM;rw[<-Nat.testBit_eq_decide_div_mod_eq,<-Nat.testBit_eq_decide_div_mod_eq,vV,Nat.testBit_two_pow];congr 1;exact FE.2 (by omega)
   rw[key,bJ]
  ·rw[bJ,eu (by omega),ao (show ¬b=a.toNat by omega),zM,bJ]
theorem ZnX {Bd:Za} (h:Hb Bd) (n:Nat) {f:Bool} {i j m:Nat} {W:List Nat} (a:Int) (st:St) (hs:eY st f i j m W):
  run Bd (n+1) 209 [.ptr (some (i,0)),.int .i64 a] st=some (.val [.bool (gG m a)],st):=by
 rw[Zf,h.eq];unfold Hk gG;simp only[fm,al,ae,Zc,aV];by_cases h0:a>=0
 ·rw[ah h0,cond_true,Zn hs.hd rfl]
  simp only[aM,ai,ae,Ze,cI]
 ·rw[ao h0,cond_false]
  simp only[ai,ae,Ze,eL]
theorem Ql {a:Int} (h:0<=a):a.tdiv 64=((a.toNat/64:Nat):Int):=by
 obtain⟨k,rfl⟩: ∃k:Nat,a=k:=⟨a.toNat,by omega⟩;rfl
theorem ZyD {a:Int} (h:0<=a):a.tmod 64=((a.toNat%64:Nat):Int):=by
 obtain⟨k,rfl⟩: ∃k:Nat,a=k:=⟨a.toNat,by omega⟩;rfl
theorem ZAL {w j:Nat} (hw:w<18446744073709551616) (hj:j<64):(bits .and .u64 ((w:Int).fdiv (2^(min j 64))) 1==1)=dM w j:=by
 rw[j1 (by omega),show((2:Int)^j)=((2^j:Nat):Int) by push_cast;rfl,AJ];have h1:w/2^j<18446744073709551616:=xW (B5 _ _) hw;rw[show(1:Int)=((1:Nat):Int)from rfl,Uj h1 (by decide),Nat.and_one_is_mod];unfold dM;rw[wy _ 1 _ rfl]
theorem ZnM {Bd:Za} (h:GS Bd) (n:Nat) {f:Bool} {i j m:Nat} {W:List Nat} (a:Int) (st:St) (hs:eY st f i j m W):
  run Bd (n+2) 184 [.ptr (some (i,0)),.int .i64 a] st=some (.val [.bool (gG m a&&cR W a.toNat)],st):=by
 rw[Zf,h.eq];unfold Hi;simp only[fm,al,ae,Zc,aV];rw[Zi (ZnX h.Tz n a st hs)];simp only[ai,ae];cases hm:gG m a with
 |false=>rfl
 |true=>
  have mM:=hm;unfold gG at mM;rw[aH,bc,bc]at mM;have hle:=hs.le;have hlen:=hs.len;have hk:a.toNat/64<W.length:=by omega
  rw[cond_true,Zn hs.hd rfl];simp only[jJ,aV];rw[Ql mM.1,ZyD mM.1,Zb (by omega) (by omega),Zd (Zk hk),aX,aX];rw[Zn (d:= .int .u64 (W[a.toNat/64]'hk:Nat)) hs.wd (by rw[di,dG];simp[ZG,hk])];simp only[aM];have aj:=hs.lt _ (fK hk);rw[Zd (ah (by omega)),ZAL aj (by omega),cI];unfold cR;rw[bJ,ba hk];rfl
theorem rK {st:St} {j k:Nat} {cs:List DV} {d:DV} (h:st[j]? =some (some ⟨false,cs⟩)) (hk:k<cs.length) (K:M β):M.store j k [d] K st=K (st.set j (some ⟨false,cs.set k d⟩)):=by
 unfold M.store St.fH;rw[h];simp only[rG,gx (show k+1<=cs.length by omega),cond_true,yl d cs k hk]
theorem eY.add {st:St} {i j m:Nat} {W:List Nat} (hs:eY st false i j m W) (nK:i≠j) (W':List Nat) (hl:W'.length=W.length) (aj: ∀w∈W',w<18446744073709551616):eY (st.set j (some ⟨false,ZG W'⟩)) false i j m W':=by
 have hj:j<st.length:=(cd.1 hs.wd).1;refine⟨?_,?_,by rw[hl];exact hs.len,aj,hs.le⟩
 ·rw[eu (by omega),hl];exact hs.hd
 ·rw[fJ hj]
theorem Ij {Bd:Za} (h:Ak Bd) (n:Nat) {i j m:Nat} {W:List Nat} (l:List Int) (p:Option (Nat×Nat)) (st:St) (hs:eY st false i j m W) (nK:i≠j) (hl:Sl st p (ints l)) (hp:j6 [j] p) (iD:l.length<1000000) (hn:l.length+3<=n):
  run Bd n 206 [.ptr (some (i,0)),.slice 1 p l.length] st=some (.val [],st.set j (some ⟨false,ZG (l.foldl (da m) W)⟩)):=by
 obtain⟨n,rfl⟩: ∃k,n=k+2:=⟨n-2,by omega⟩;rw[Zf,h.eq];unfold GR;simp only[fm,bh,ae,Zc];refine ok_eq ?_;have e0:st=st.set j (some ⟨false,ZG W⟩):=by
  have hj:j<st.length:=(cd.1 hs.wd).1;refine na fun k=>?_
  by_cases e:j=k
  ·subst e;rw[fJ hj,hs.wd]
  ·rw[eu e]
 refine Zl _ (fun q y s=>∃k:Nat,y=[.int .i64 k]/\k<=l.length/\l.length-k<=q/\s=st.set j (some ⟨false,ZG ((l.take k).foldl (da m) W)⟩)/\eY s false i j m ((l.take k).foldl (da m) W)) ?_ l.length (n+1) _ _ ⟨0,rfl,bH _,by omega,by rw[xV];exact e0,by rw[xV];exact hs⟩ (by omega);rintro q _ s ⟨k,rfl,hk,hq,bB,kL⟩ rec aD;simp only[al,ae];by_cases aj:k<l.length
 ·have hls:Sl s p (ints l):=by rw[bB];exact Sl.fx hl (Fx.set st j _) hp
  obtain⟨i1,o1,rfl⟩:=hls.ck (by simp[ints];omega);rw[ah (show(k:Int)<(l.length:Int) by omega),cond_true,aV,Zd (Zk aj),aX,hls.cP (Zu aj)];simp only[aM];rw[Zi (ZnX h.Tz n l[k] s kL)];simp only[ai,ae];have hw:af ((k:Int)+1)=((k+1:Nat):Int):=Zb (by omega) (by omega);have fj:(l.take (k+1)).foldl (da m) W=da m ((l.take k).foldl (da m) W) l[k]:=by
   rw[jG aj,List.foldl_append];rfl
  generalize hV:(l.take k).foldl (da m) W=V at bB kL fj;cases hm:gG m l[k]with
  |false=>
   rw[cond_false,hw];have KC:da m V l[k]=V:=by unfold da;rw[hm];rfl
   exact aD (l.length-(k+1)) _ _ (by omega) ⟨k+1,rfl,by omega,ay _,by rw[fj,KC];exact bB,by rw[fj,KC];exact kL⟩
  |true=>
   have mM:=hm;unfold gG at mM;rw[aH,bc,bc]at mM;have hle:=hs.le;have hlen:=kL.len;have vo:l[k].toNat/64<V.length:=by omega
   rw[cond_true,aV,Zn kL.hd rfl];simp only[jJ,aV];rw[Ql mM.1,ZyD mM.1,Zb (by omega) (by omega),Zd (Zk vo),aX,aX];rw[Zn (d:= .int .u64 (V[l[k].toNat/64]'vo:Nat)) kL.wd (by rw[di,dG];simp[ZG,vo])];simp only[aM];have aj:=kL.lt _ (fK vo);have bd:2^(l[k].toNat%64)<18446744073709551616:=FC (a:=2) (n:=64) (by decide) (by omega);rw[Zd (ah (by omega)),Zd (Zk vo),j1 (by omega),Int.one_mul,show((2:Int)^(l[k].toNat%64))=((2^(l[k].toNat%64):Nat):Int) by push_cast;rfl,uN bd,V2 aj bd];rw[rK kL.wd (by rw[N0,di,dG];exact vo),hw,di];have KC:da m V l[k]=V.set (l[k].toNat/64) (V[l[k].toNat/64]'vo|||2^(l[k].toNat%64)):=by
    unfold da;rw[hm,cond_true,bJ,ba vo];rfl
   have tA:(ZG V).set (l[k].toNat/64+0) (.int .u64 ((V[l[k].toNat/64]'vo|||2^(l[k].toNat%64):Nat):Int))=ZG (da m V l[k]):=by
    rw[KC,dG];unfold ZG;rw[zT]
   rw[tA];refine aD (l.length-(k+1)) _ _ (by omega) ⟨k+1,rfl,by omega,ay _,?_,?_⟩
   ·rw[fj,bB,List.set_set]
   ·rw[fj];exact kL.add nK _ (sV _ _ _) (AK kL.lt)
 ·rw[ao (show ¬(k:Int)<(l.length:Int) by omega),cond_false]
  simp only[Ze];rw[bB,cA (by omega)];exact .mk rfl
def gm (n:Nat) (l:List Int):List Nat:=l.foldl (da n) (List.replicate ((n+63)/64) 0)
theorem Z8 (n:Nat): ∀(l:List Int) (W:List Nat),(l.foldl (da n) W).length=W.length/\((∀w∈W,w<18446744073709551616)->∀w∈l.foldl (da n) W,w<18446744073709551616)
 |[],_=>⟨rfl,id⟩
 |a::l,W=>⟨by rw[zR,(Z8 n l _).1,sV],fun h=>(Z8 n l _).2 (AK h)⟩
theorem Iz {Bd:Za} (h:Ay Bd) (n m:Nat) (l:List Int) (p:Option (Nat×Nat)) (st:St) (hm:m<=3072) (hl:Sl st p (ints l)) (iD:l.length<1000000) (hn:l.length+4<=n):
  ∃s',run Bd n 177 [.int .i64 m,.slice 1 p l.length] st=some (.val [.ptr (some (st.length+1,0))],s')/\ar st s'/\s'.length=st.length+2/\eY s' false (st.length+1) st.length m (gm m l):=by
 obtain⟨n,rfl⟩: ∃k,n=k+1:=⟨n-1,by omega⟩;rw[Zf,h.eq];unfold I3;simp only[al,bh,ae];have h0:(if ((m:Nat):Int)<0 then(0:Int)else m)=m:=ax (by omega);have h1:(if (3072:Int)<((m:Nat):Int)then(3072:Int)else m)=m:=ax (by omega);have h2:af ((af ((af (((m:Nat):Int)+64))-1)).tdiv 64)=(((m+63)/64:Nat):Int):=by
  rw[Zb (x:=((m:Nat):Int)+64) (by omega) (by omega),show(((m:Nat):Int)+64-1)=((m+63:Nat):Int) by omega,Zb (x:=((m+63:Nat):Int)) (by omega) (by omega),show(((m+63:Nat):Int).tdiv 64)=(((m+63)/64:Nat):Int)from rfl];exact Zb (by omega) (by omega)
 simp only[h0,h1,h2,aX];rw[Zd (by rw[aH,aH,bc,bc,bc];omega),Zw,Zw];have hw:fD ((m+63)/64) [DV.int .u64 0]=ZG (List.replicate ((m+63)/64) 0):=by rw[AO];simp[ZG]
 rw[hw];have KX:(st++[some (⟨false,ZG (List.replicate ((m+63)/64) 0)⟩:bq)]).length=st.length+1:=by simp
 rw[KX];have hp:ar st (st++[some (⟨false,ZG (List.replicate ((m+63)/64) 0)⟩:bq)]++[some (⟨false,[.int .i64 m,.slice 1 (some (st.length,0)) ((m+63)/64)]⟩:bq)]):=(ar.new _ _).trans (.new _ _);have kL:eY (st++[some (⟨false,ZG (List.replicate ((m+63)/64) 0)⟩:bq)]++[some (⟨false,[.int .i64 m,.slice 1 (some (st.length,0)) ((m+63)/64)]⟩:bq)]) false (st.length+1) st.length m (List.replicate ((m+63)/64) 0):=by
  refine⟨?_,?_,by simp,fun w hw=>by rw[List.eq_of_mem_replicate hw];decide,hm⟩
  ·rw[gU (by simp)];simp
  ·rw[iL (by simp),gU (ay _),qw];rfl
 have BD:(st++[some (⟨false,ZG (List.replicate ((m+63)/64) 0)⟩:bq)]++[some (⟨false,[.int .i64 m,.slice 1 (some (st.length,0)) ((m+63)/64)]⟩:bq)]).length=st.length+2:=by simp
 generalize st++[some (⟨false,ZG (List.replicate ((m+63)/64) 0)⟩:bq)]++[some (⟨false,[.int .i64 m,.slice 1 (some (st.length,0)) ((m+63)/64)]⟩:bq)]=s2 at hp kL BD;have D9:j6 [st.length] p:=by
  intro b o e hb;subst e;have:=Sl.lt hl;rw[bK.1 hb]at this;omega
 rw[Zi (Ij h.zy n l p s2 kL (by omega) (hl.mono hp) D9 iD (by omega))];simp only[ae,Ze];exact⟨_,rfl,uF hp (ay _) _,by simp[BD],kL.add (by omega) _ (Z8 m l _).1 ((Z8 m l _).2 kL.lt)⟩
end Go.Gv.F
