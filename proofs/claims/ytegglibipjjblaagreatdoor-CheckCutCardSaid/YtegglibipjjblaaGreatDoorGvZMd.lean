/- States alike: the program's own comparison. -/
import Derived.Test.YtegglibipjjblaaGreatDoorGvZMc
namespace Go.Gv.F
open Go.Gv
variable {β:Type}
theorem Zxq {s:St} {i o j:Nat} {ds:List DV} {xs:List HeapV} {x:HeapV} (hs:Sl s (some (i,o)) ds) (hh:Heaps s ds xs) (e:xs[j]? =some x): ∃z p,(z=4∨p=none)∧Sl s p (entsC x.ents)∧∀K:List DV→M β,M.load i (j*2+o) 2 K s=K (heapZ x z p) s:=by
 obtain⟨z,p,hz,h1,_,_,h2⟩:=hh.get e;have hj:j<xs.length:=(List.getElem?_eq_some_iff.1 e).1;exact⟨z,p,hz,h2,fun K=>by rw[hs.gets (k:=j*2) (n:=2) (by rw[hh.len];omega) K,h1]⟩
end Go.Gv.F
namespace Go.Gv.F
open Go.Gv
theorem Ze3 (w j:Nat):bitF w j=w.testBit j:=by rw[Nat.testBit_eq_decide_div_mod_eq];rfl
theorem ZvM: ∀(w:Nat),0<w→∃k m,w=2^k*(2*m+1)
 |0,h=>absurd h (by decide)
 |w+1,_=>by
  by_cases h:(w+1)%2=1
  ·exact⟨0,(w+1)/2,by omega⟩
  ·obtain⟨k,m,e⟩:=ZvM ((w+1)/2) (by omega)
   exact⟨k+1,m,by rw[Nat.pow_succ,Nat.mul_right_comm,←e];omega⟩
termination_by w=>w
decreasing_by omega
theorem Zc1 (k a j:Nat):(2^k*a).testBit j=(decide (k≤j)&&a.testBit (j-k)):=by
 rw[Nat.testBit_two_pow_mul]
theorem Zix (m i:Nat):(2*m+1).testBit i=(decide (i=0)||(2*m).testBit i):=by
 cases i with
 |zero=>simp[Nat.testBit_zero]
 |succ i=>
  rw[Nat.testBit_succ,Nat.testBit_succ,show(2*m+1)/2=m by omega,show 2*m/2=m by omega];simp
theorem ZqV (m:Nat):(2*m).testBit 0=false:=by simp[Nat.testBit_zero]
theorem Zyd (k a b j:Nat) (h:b<2^k):(2^k*a+b).testBit j=if j<k then b.testBit j else a.testBit (j-k):=by
 rw[Nat.testBit_two_pow_mul_add a h]
theorem Zyn (k m:Nat):2^k*(2*m+1)&&& (2^k*(2*m+1)-1)=2^k*(2*m):=by
 have hp:0<2^k:=Nat.two_pow_pos k;have e:2^k*(2*m+1)-1=2^k*(2*m)+(2^k-1):=by rw[Nat.mul_add,Nat.mul_one];omega
 rw[e];refine Nat.eq_of_testBit_eq fun j=>?_
 rw[Nat.testBit_and,Zc1,Zyd k _ _ j (by omega),Zc1];by_cases hj:j<k
 ·rw[decide_eq_false (by omega)];simp
 ·rw[if_neg hj,decide_eq_true (show k≤j by omega),Zix]
  cases h0:decide (j-k=0)with
  |true=>rw[of_decide_eq_true h0,ZqV];rfl
  |false=>simp
theorem Zze (k m n:Nat) (hk:k<n) (h:2^k*(2*m+1)<2^n):2^k*(2*m+1)&&& (2^n-2^k*(2*m+1))=2^k:=by
 have hp:0<2^k:=Nat.two_pow_pos k;have hn:2^n=2^k*(2*2^(n-k-1)):=by rw[←Nat.pow_succ',←Nat.pow_add];congr 1;omega
 rw[hn]at h⊢;have hm:2*m+1<2*2^(n-k-1):=Nat.lt_of_mul_lt_mul_left h;have hm2:m<2^(n-k-1):=by omega
 rw[←Nat.mul_sub,show 2*2^(n-k-1)-(2*m+1)=2*(2^(n-k-1)-(m+1))+1 by omega];refine Nat.eq_of_testBit_eq fun j=>?_
 rw[Nat.testBit_and,Zc1,Zc1,Nat.testBit_two_pow,Zix,Zix];by_cases hj:k≤j
 ·rw[decide_eq_true hj]
  by_cases h0:j=k
  ·subst h0;simp
  ·rw[decide_eq_false (show ¬k=j by omega),decide_eq_false (show ¬j-k=0 by omega)]
   obtain⟨i,hi⟩: ∃i,j-k=i+1:=⟨j-k-1,by omega⟩;rw[hi,Nat.testBit_succ,Nat.testBit_succ,Nat.mul_div_cancel_left _ (by decide),Nat.mul_div_cancel_left _ (by decide),Nat.testBit_two_pow_sub_succ hm2];cases m.testBit i<;>simp
 ·rw[decide_eq_false hj,decide_eq_false (show ¬k=j by omega)];rfl
def bitsW (w:Nat):List Nat:=(List.range 64).filter (bitF w)
theorem Zwy:bitsW 0=[]:=by
 unfold bitsW;rw[List.filter_eq_nil_iff];intro j _;rw[Ze3,Nat.zero_testBit];simp
theorem Zxe (k n:Nat) (h:k<n):List.range n=List.range k++k::List.range' (k+1) (n-k-1):=by
 have:n=k+(1+(n-k-1)):=by omega
 rw[List.range_eq_range',List.range_eq_range']
 conv=>lhs;rw[this]
 rw[←List.range'_append_1,Nat.add_comm 1,List.range'_succ,Nat.zero_add]
theorem Zww (k m:Nat) (hk:k<64):bitsW (2^k*(2*m+1))=k::bitsW (2^k*(2*m)):=by
 unfold bitsW;rw[Zxe k 64 hk,List.filter_append,List.filter_append,List.filter_cons,List.filter_cons];have h1: ∀a,(List.range k).filter (bitF (2^k*a))=[]:=fun a=>by
  rw[List.filter_eq_nil_iff];intro j hj;rw[Ze3,Zc1,decide_eq_false (by have:=List.mem_range.1 hj;omega)];simp
 have h2:bitF (2^k*(2*m+1)) k=true:=by rw[Ze3,Zc1,Zix];simp
 have h3:bitF (2^k*(2*m)) k=false:=by rw[Ze3,Zc1,Nat.sub_self,ZqV];simp
 rw[h1,h1,h2,h3,if_pos rfl,if_neg (by decide),List.nil_append,List.nil_append];refine congrArg (k:: ·) (List.filter_congr fun j hj=>?_);rw[Ze3,Ze3,Zc1,Zc1,Zix,decide_eq_false (show ¬j-k=0 by have:=List.mem_range'_1.1 hj;omega)];rfl
theorem ZlY (w:Nat):(bitsW w).length≤64:=by
 have:=List.length_filter_le (bitF w) (List.range 64);rw[List.length_range]at this;exact this
def ZgV:Nat→List Nat→List Int
 |_,[]=>[]
 |b,w::r=>(bitsW w).map (fun j=>((b*64+j:Nat):Int))++ZgV (b+1) r
def listW (W:List Nat):List Int:=ZgV 0 W
theorem Zoo: ∀(b:Nat) (W:List Nat),(ZgV b W).length≤64*W.length
 |_,[]=>Nat.le_refl _
 |b,w::r=>by
  unfold ZgV;have:=Zoo (b+1) r;have:=ZlY w;rw[List.length_append,List.length_map,List.length_cons];omega
theorem Zor: ∀(b:Nat) (W:List Nat) (w:Nat),ZgV b (W++[w])=ZgV b W++(bitsW w).map (fun j=>(((b+W.length)*64+j:Nat):Int))
 |b,[],w=>by simp[ZgV]
 |b,x::r,w=>by
  rw[List.cons_append];unfold ZgV;rw[Zor (b+1) r w,List.append_assoc,List.length_cons,Nat.add_right_comm b 1,Nat.add_assoc b]
theorem ZwH (W:List Nat) {i:Nat} (h:i<W.length):listW (W.take (i+1))=listW (W.take i)++(bitsW W[i]).map (fun j=>((i*64+j:Nat):Int)):=by
 unfold listW;rw[List.take_succ_eq_append_getElem h,Zor,List.length_take,Nat.min_eq_left (by omega),Nat.zero_add]
end Go.Gv.F
namespace Go.Gv.F
open Go.Gv
variable {β:Type}
def TzOk (Bd:Za):Prop:=∀(n k m:Nat) (st:St),Tabs st→k<64→2^k*(2*m+1)<18446744073709551616→run Bd (n+1) 86 [.int .u64 ((2^k*(2*m+1):Nat):Int)] st=some (.val [.int .i64 (k:Int)],st)
theorem ZwT {a b:Nat} (ha:a<18446744073709551616) (hb:b<18446744073709551616):bits .and .u64 (a:Int) (b:Int)=((a&&& b:Nat):Int):=and64 ha hb
theorem Zhe (W:List Nat) (i:Nat):(listW (W.take i)).length≤64*W.length:=by
 have h1:=Zoo 0 (W.take i);unfold listW;rw[List.length_take]at h1;have:min i W.length≤W.length:=Nat.min_le_right _ _;omega
theorem Ztr {Bd:Za} (h:Zfq Bd) (hz:TzOk Bd) (n:Nat) {f:Bool} {i j m:Nat} {W:List Nat} (st:St) (ht:Tabs st) (hs:SetM st f i j m W) (hn:80≤n):
  Ok (fun o=>∃p s',o=(.val [.slice 1 p (listW W).length],s')∧Pre st s'∧Sl s' p (ints (listW W))∧∀b∈blk p,st.length≤b) (run Bd n 172 [.ptr (some (i,0))] st):=by
 obtain⟨n,rfl⟩: ∃k,n=k+2:=⟨n-2,by omega⟩;rw[Zf,h.eq];unfold Zdo;simp only[J_p,D_nil,nn_some'];rw[Zn hs.hd rfl];simp only[D_slice,Zc];have hle:=hs.le;have hlen:=hs.len;refine Zk _ (fun q y s=>∃(a z:Nat) (p:Option (Nat×Nat)),y=[.slice z p (listW (W.take a)).length,.int .i64 a]∧(z=1∨p=none)∧a≤W.length∧W.length-a≤q∧Own st s p (ints (listW (W.take a)))) ?_ W.length (n+1) _ _ ⟨0,0,none,rfl,.inr rfl,Nat.zero_le _,by omega,Own.nil (.refl st)⟩ (by omega);rintro q _ s ⟨a,z,p,rfl,hzp,ha,hq,ho⟩ rec hrec;simp only[J_i,Zm 1 z p _ hzp,D_nil];have hs1:=hs.pre ho.1;by_cases hlt:a<W.length
 ·rw[decide_eq_true (show(a:Int)<(W.length:Int) by omega),cond_true,nn_some',Ze (Zl hlt),Int.toNat_natCast]
  have hwa:W[a]? =some W[a]:=List.getElem?_eq_getElem hlt;have hwl:=hs.lt _ (List.getElem_mem hlt);rw[Zn (d:= .int .u64 (W[a]:Nat)) hs1.wd (by rw[Nat.mul_one,Nat.add_zero];simp[Zp,hlt])];simp only[D_int];have htk:=ZwH W hlt;have hA:=Zhe W a;have hB:=Zhe W (a+1);generalize listW (W.take a)=A at ho htk hA;generalize W[a]=w at hwl htk;have hw1:wr64 ((a:Int)+1)=((a+1:Nat):Int):=Zd (by omega) (by omega);have hw2:wr64 ((a:Int)*64)=((a*64:Nat):Int):=by rw[Zd (by omega) (by omega)];omega
  simp only[hw1,hw2];obtain⟨F,hF⟩: ∃F:Nat→Int,(fun j=>((a*64+j:Nat):Int))=F:=⟨_,rfl⟩;rw[hF]at htk;refine Zk _ (fun q' y t=>∃(w' z':Nat) (D:List Nat) (p':Option (Nat×Nat)),y=[.slice z' p' (A++D.map F).length,.int .u64 (w':Int)]∧(z'=1∨p'=none)∧w'<18446744073709551616∧D++bitsW w'=bitsW w∧(bitsW w').length≤q'∧Own st t p' (ints (A++D.map F))) ?_ 64 (n+1) _ _ ⟨w,1,[],p,by rw[List.map_nil,List.append_nil],.inl rfl,hwl,rfl,ZlY w,by rw[List.map_nil,List.append_nil];exact ho⟩ (by omega);rintro q' _ t ⟨w',z',D,p',rfl,hzp',hwl',hD,hq',ho'⟩ rec2 hrec2;simp only[J_i,Zm 1 z' p' _ hzp',D_nil];by_cases hw0:w'=0
  ·subst hw0
   rw[show(!(((0:Nat):Int)==0))=false from rfl,cond_false];simp only[J_l,D_nil];rw[Zwy,List.append_nil]at hD;rw[hD,←htk]at ho'⊢;exact hrec (W.length-(a+1)) _ _ (by omega) ⟨a+1,1,p',rfl,.inl rfl,by omega,Nat.le_refl _,ho'⟩
  ·have hnz:(!((w':Int)==0))=true:=by rw[Bool.not_eq_true',beq_eq_false_iff_ne];omega
   obtain⟨k,m',e⟩:=ZvM w' (by omega);have hk:k<64:=by
    rcases Nat.lt_or_ge k 64 with h|h
    ·exact h
    ·have h1:2^64≤2^k:=Nat.pow_le_pow_right (by decide) h
     have h2:2^k*1≤2^k*(2*m'+1):=Nat.mul_le_mul_left _ (by omega);have h3:(2:Nat)^64=18446744073709551616:=by decide
     omega
   rw[hnz,cond_true];subst e;rw[Zi (hz n k m' t (ht.mono ho'.1) hk hwl')];simp only[J_i,D_nil];have hw3:wr64 (((a*64:Nat):Int)+(k:Int))=F k:=by rw[←hF];exact Zd (by omega) (by omega)
   rw[hw3];have hsub:IntKind.wrap .u64 (((2^k*(2*m'+1):Nat):Int)-1)=((2^k*(2*m'+1)-1:Nat):Int):=by
    have h1:(((2^k*(2*m'+1):Nat):Int)-1)=((2^k*(2*m'+1)-1:Nat):Int):=by omega
    rw[h1];exact Zfu (by omega)
   have hnew:bits .and .u64 (((2^k*(2*m'+1):Nat):Int)) (IntKind.wrap .u64 (((2^k*(2*m'+1):Nat):Int)-1))=((2^k*(2*m'):Nat):Int):=by
    rw[hsub,ZwT hwl' (by omega),Zyn]
   rw[hnew];rw[Zww k m' hk]at hD hq';have hlD:(A++D.map F).length≤1000000:=by
    have h1:=congrArg List.length hD;rw[List.length_append]at h1;have:=ZlY w;rw[List.length_append,List.length_map];omega
   obtain⟨p2,s2,ho2,hkp,he⟩:=ho'.push2 (β:=List DV) (sz:=1) (n:=(A++D.map F).length) (lim:=8796093022208) [.int .i64 (F k)] (Nat.succ_pos 0) (by simp[ints]) rfl (by omega);refine Eq.mpr (congrArg (Ok _) (he _)) ?_;refine hrec2 (bitsW (2^k*(2*m'))).length _ _ (by simp at hq';omega) ⟨_,1,D++[k],p2,?_,.inl rfl,?_,by rw[List.append_assoc];exact hD,Nat.le_refl _,?_⟩
   ·rw[List.map_append,←List.append_assoc,List.length_append (as:=A++D.map F)];rfl
   ·have:2^k*(2*m')≤2^k*(2*m'+1):=Nat.mul_le_mul_left _ (by omega)
    omega
   ·rw[List.map_append,←List.append_assoc]
    unfold ints at ho2⊢;rw[List.map_append (l₁:=A++D.map F)];exact ho2
 ·rw[decide_eq_false (show ¬(a:Int)<(W.length:Int) by omega),cond_false]
  simp only[J_l,D_nil,Zb];rw[List.take_of_length_le (by omega)]at ho⊢;refine .mk ⟨p,s,rfl,ho.1,ho.sl,fun b hb=>?_⟩;rcases ho.2 with⟨rfl,_⟩|⟨i',rfl,h1,_⟩
  ·cases hb
  ·rw[List.mem_singleton.1 hb];exact h1
end Go.Gv.F
namespace Go.Gv.F
open Go.Gv
variable {β:Type}
def popI (x:Int):Int:=match Zcq (fun _ _=>fail) 0 [.int .u64 x] []with
 |some (.val [.int _ v],_)=>v
 |_=>0
theorem Zup {Bd:Za} (h:ZdA Bd) (n:Nat) (x:Int) (st:St):run Bd (n+1) 210 [.int .u64 x] st=some (.val [.int .i64 (popI x)],st):=by
 rw[Zf,h.eq];rfl
def Zpw:Int→List Nat→Int
 |a,[]=>a
 |a,w::r=>Zpw (wr64 (a+popI w)) r
def Zkd (W:List Nat):Int:=Zpw 0 W
theorem Zsh {Bd:Za} (h:ZeP Bd) (n:Nat) {f:Bool} {i j m:Nat} {W:List Nat} (st:St) (hs:SetM st f i j m W) (hn:80≤n):Ok (fun o=>o=(.val [.int .i64 (Zkd W)],st)) (run Bd n 183 [.ptr (some (i,0))] st):=by
 obtain⟨n,rfl⟩: ∃k,n=k+2:=⟨n-2,by omega⟩;rw[Zf,h.eq];unfold Zc2;simp only[J_p,D_nil,nn_some'];rw[Zn hs.hd rfl];simp only[D_slice,Zc];have hle:=hs.le;have hlen:=hs.len;refine Zk _ (fun q y s=>∃(a:Nat) (c:Int),y=[.int .i64 c,.int .i64 a]∧a≤W.length∧W.length-a≤q∧s=st∧Zpw c (W.drop a)=Zkd W) ?_ W.length (n+1) _ _ ⟨0,0,rfl,Nat.zero_le _,by omega,rfl,rfl⟩ (by omega);rintro q _ s ⟨a,c,rfl,ha,hq,rfl,hc⟩ rec hrec;simp only[J_i,D_nil];by_cases hlt:a<W.length
 ·rw[decide_eq_true (show(a:Int)<(W.length:Int) by omega),cond_true,nn_some',Ze (Zl hlt),Int.toNat_natCast]
  rw[Zn (d:= .int .u64 (W[a]:Nat)) hs.wd (by rw[Nat.mul_one,Nat.add_zero];simp[Zp,hlt])];simp only[D_int];rw[Zi (Zup h.q15 n _ s)];simp only[J_i,D_nil];have hw1:wr64 ((a:Int)+1)=((a+1:Nat):Int):=Zd (by omega) (by omega);rw[hw1];refine hrec (W.length-(a+1)) _ _ (by omega) ⟨a+1,_,rfl,by omega,Nat.le_refl _,rfl,?_⟩;rw[←hc,List.drop_eq_getElem_cons hlt];rfl
 ·rw[decide_eq_false (show ¬(a:Int)<(W.length:Int) by omega),cond_false]
  simp only[Zb];rw[List.drop_eq_nil_of_le (by omega)]at hc;exact .mk (by rw[←hc];rfl)
theorem ZqJ {Bd:Za} (h:ZbB Bd) (n:Nat) (W V:List Nat) (a b:Nat) (f g:Bool) (st:St) (ha:st[a]? =some (some ⟨f,Zp W⟩)) (hb:st[b]? =some (some ⟨g,Zp V⟩)) (hW:W.length<100000) (hn:W.length+3≤n):
  Ok (fun o=>o=(.val [.bool (decide (W=V))],st)) (run Bd n 236 [.slice 1 (some (a,0)) W.length,.slice 1 (some (b,0)) V.length] st):=by
 obtain⟨n,rfl⟩: ∃k,n=k+2:=⟨n-2,by omega⟩;rw[Zf,h.eq];unfold Z7;simp only[J_l,D_nil];have no:W≠V→Ok (fun o=>o=(.val [.bool (decide (W=V))],st)) ((M.ret [.bool false]:M (List DV)) st):=by
  intro hm;rw[Zb];exact .mk (by rw[decide_eq_false hm])
 by_cases hlen:W.length=V.length;rotate_left
 ·rw[show((W.length:Int)==(V.length:Int))=false from beq_eq_false_iff_ne.2 (by omega),Bool.not_false,cond_true]
  exact no fun e=>hlen (by rw[e])
 rw[show((W.length:Int)==(V.length:Int))=true by rw[hlen];exact beq_self_eq_true _,Bool.not_true,cond_false,Zc];refine Zk _ (fun k v s=>∃i:Nat,v=[.int .i64 i]∧i≤W.length∧W.length-i≤k∧s=st∧∀j,j<i→W[j]? =V[j]?) ?_ W.length (n+1) _ _ ⟨0,rfl,Nat.zero_le _,by omega,rfl,fun j hj=>absurd hj (Nat.not_lt_zero j)⟩ (by omega);rintro k _ s ⟨i,rfl,hi,hk,rfl,hall⟩ rec hrec;simp only[J_i,D_nil];by_cases hlt:i<W.length
 ·have hlt2:i<V.length:=by omega
  rw[decide_eq_true (show(i:Int)<(W.length:Int) by omega),cond_true,nn_some',Ze (Zl hlt),Int.toNat_natCast];rw[Zn (d:= .int .u64 (W[i]:Nat)) ha (by rw[Nat.mul_one,Nat.add_zero];simp[Zp,hlt])];simp only[D_int];rw[nn_some',Ze (Zl hlt2)];rw[Zn (d:= .int .u64 (V[i]:Nat)) hb (by rw[Nat.mul_one,Nat.add_zero];simp[Zp,hlt2])];simp only[D_int];by_cases hw:W[i]=V[i]
  ·rw[show(((W[i]:Nat):Int)==((V[i]:Nat):Int))=true by rw[hw];exact beq_self_eq_true _,Bool.not_true,cond_false,Zd (by omega) (by omega)]
   refine hrec (W.length-(i+1)) _ _ (by omega) ⟨i+1,rfl,by omega,by omega,rfl,fun j hj=>?_⟩;by_cases hji:j<i
   ·exact hall j hji
   ·have:j=i:=by omega
    subst this;rw[List.getElem?_eq_getElem hlt,List.getElem?_eq_getElem hlt2,hw]
  ·rw[show(((W[i]:Nat):Int)==((V[i]:Nat):Int))=false from beq_eq_false_iff_ne.2 (by omega),Bool.not_false,cond_true]
   exact no fun e=>hw (by subst e;rfl)
 ·rw[decide_eq_false (show ¬(i:Int)<(W.length:Int) by omega),cond_false,Zb]
  refine .mk ?_;have:W=V:=List.ext_getElem? fun j=>by
   by_cases hj:j<i
   ·exact hall j hj
   ·rw[List.getElem?_eq_none (by omega),List.getElem?_eq_none (by omega)]
  rw[decide_eq_true this]
theorem ZlC {Bd:Za} (h:ZfF Bd) (n:Nat) {f g:Bool} {i j m i2 j2 m2:Nat} {W V:List Nat} (st:St) (hs:SetM st f i j m W) (hs2:SetM st g i2 j2 m2 V) (hn:80≤n):
  Ok (fun o=>o=(.val [.bool (decide (m=m2)&&decide (W=V))],st)) (run Bd n 202 [.ptr (some (i,0)),.ptr (some (i2,0))] st):=by
 obtain⟨n,rfl⟩: ∃k,n=k+1:=⟨n-1,by omega⟩;rw[Zf,h.eq];unfold Zdu;simp only[J_p,D_nil,nn_some'];rw[Zn hs.hd rfl];simp only[D_int];rw[Zn hs2.hd rfl];simp only[D_int,Zc];have hle:=hs.le;have hlen:=hs.len;by_cases hm:m=m2
 ·rw[show((m:Int)==(m2:Int))=true by rw[hm];exact beq_self_eq_true _,cond_true,Zn hs.hd rfl]
  simp only[D_slice];rw[Zn hs2.hd rfl];simp only[D_slice];refine Ok.call (ZqJ h.q3 n W V j j2 f g st hs.wd hs2.wd (by omega) (by omega)) ?_;rintro _ rfl;refine⟨_,st,rfl,?_⟩;simp only[J_b,D_nil,Zb];exact .mk (by rw[decide_eq_true hm,Bool.true_and])
 ·rw[show((m:Int)==(m2:Int))=false from beq_eq_false_iff_ne.2 (by omega),cond_false]
  simp only[J_b,D_nil,Zb];exact .mk (by rw[decide_eq_false hm,Bool.false_and])
def ZbL (l:List ZQ):List DV:=(l.map Zx).flatten
theorem ZhB {x:ZQ} (h:x.oct.length=48):(Zx x).length=49:=by unfold Zx;rw[List.length_cons,Zt,h]
theorem Zjp: ∀ {l:List ZQ},(∀x∈l,x.oct.length=48)→(ZbL l).length=l.length*49
 |[],_=>rfl
 |x::l,h=>by
  show(Zx x++ZbL l).length=_;rw[List.length_append,ZhB (h x (by simp)),Zjp fun y hy=>h y (by simp[hy]),List.length_cons];omega
theorem Zm1: ∀ {l:List ZQ} {j:Nat} {e:ZQ},(∀x∈l,x.oct.length=48)→l[j]? =some e→((ZbL l).drop (j*49)).take 49=Zx e
 |[],j,e,_,h=>by simp at h
 |x::l,0,e,hl,h=>by
  simp only[List.getElem?_cons_zero,Option.some.injEq]at h;subst h;rw[Nat.zero_mul,List.drop_zero];have:=ZhB (hl x (by simp));show(Zx x++ZbL l).take 49=_;rw[←this,List.take_left]
 |x::l,j+1,e,hl,h=>by
  have e2:ZbL (x::l)=Zx x++ZbL l:=rfl;have h49:=ZhB (hl x (by simp));rw[e2,show(j+1)*49=(Zx x).length+j*49 by omega,←List.drop_drop,List.drop_left];exact Zm1 (fun y hy=>hl y (by simp[hy])) (by simpa using h)
theorem ZuL (l m:List ZQ):ZbL (l++m)=ZbL l++ZbL m:=by
 unfold ZbL;rw[List.map_append,List.flatten_append]
def overF (m:Nat) (x:ZQ):Bool:=bif decide (0<(listF x 384).length)then decide ((listF x 384).getLastD 0≥(m:Int))else false
def Zoi (m:Nat):Nat→List ZQ→List Nat→Option (List Nat)
 |_,[],W=>some W
 |i,x::r,W=>bif decide (x.no=i)&& !overF m x then Zoi m (i+1) r ((listF x 384).foldl (addW m) W)else none
def fromF (m:Nat) (l:List ZQ):Option (List Nat):=bif decide ((l.length:Int)=upF m 384)then Zoi m 0 l (setOf m [])else none
theorem Zqr {Bd:Za} (h:Zhn Bd) (n:Nat) (x:Int) (st:St):run Bd (n+1) 240 [.int .i64 x] st=some (.val [.int .i64 (upF x 384)],st):=by
 rw[Zf,h.eq];rfl
theorem Zua {Bd:Za} (h:Zjq Bd) (n m:Nat) (l:List ZQ) (p:Option (Nat×Nat)) (z:Nat) (st:St) (hm:m≤3072) (hz:z=49∨p=none) (hl:Sl st p (ZbL l)) (h48: ∀x∈l,x.oct.length=48∧x.no<8) (hll:l.length<1000) (hn:2000≤n):
  Ok (fun o=>∃s',Pre st s'∧match fromF m l with
   |none=>o=(.val [.ptr none,.bool false],s')
   |some F=>∃i j,o=(.val [.ptr (some (i,0)),.bool true],s')∧SetM s' false i j m F) (run Bd n 200 [.int .i64 (m:Int),.slice z p l.length] st):=by
 obtain⟨n,rfl⟩: ∃k,n=k+2:=⟨n-2,by omega⟩;obtain⟨R,hR⟩: ∃R,fromF m l=R:=⟨_,rfl⟩;rw[hR];unfold fromF at hR;rw[Zf,h.eq];unfold Zgy;simp only[J_i,Zm 49 z p _ hz,D_nil];rw[Zc,decide_eq_false (show ¬((m:Nat):Int)<0 by omega),cond_false,decide_eq_false (show ¬((m:Nat):Int)>3072 by omega)];simp only[J_b,D_nil];rw[Zc,cond_false,Zi (Zqr h.q57 n m st)];simp only[J_i,J_b,D_nil];have hq:(((l.length:Nat):Int)==upF m 384)=decide (((l.length:Nat):Int)=upF m 384):=rfl;rw[hq];cases hcn:decide (((l.length:Nat):Int)=upF m 384)with
 |false=>
  rw[hcn,cond_false]at hR;rw[Bool.not_false,cond_true,Zb,←hR];exact .mk ⟨st,.refl st,rfl⟩
 |true=>
 rw[hcn,cond_true]at hR;rw[Bool.not_true,cond_false];obtain⟨s1,e1,hp1,hlen1,hset1⟩:=ZkG h.q133 (n+1) m [] none st hm rfl (by show 0<1000000;omega) (by show 0+4≤n+1;omega);have e1':run Bd (n+1) 177 [.int .i64 (m:Int),.slice 0 none 0] st=some (.val [.ptr (some (st.length+1,0))],s1):=by
  rw[Zf,h.q133.eq]at e1⊢;exact e1
 rw[Zi e1'];simp only[J_p,D_nil];rw[Zc];refine Zk _ (fun q y s=>∃(i:Nat) (W:List Nat),y=[.int .i64 i]∧i≤l.length∧l.length-i≤q∧Pre st s∧SetM s false (st.length+1) st.length m W∧Zoi m i (l.drop i) W=R) ?_ l.length (n+1) _ _ ⟨0,_,rfl,Nat.zero_le _,by omega,hp1,hset1,hR⟩ (by omega);rintro q _ s ⟨i,W,rfl,hi,hq,hps,hset,hgo⟩ rec hrec;simp only[J_i,D_nil];by_cases hlt:i<l.length
 ·have hsl:=hl.mono hps
  have hxi:l[i]? =some l[i]:=List.getElem?_eq_getElem hlt;obtain⟨h48x,h8x⟩:=h48 _ (List.getElem_mem hlt);have hlen:=Zjp fun x hx=>(h48 x hx).1
  obtain⟨i1,o1,rfl⟩:=hsl.some_of (by rw[hlen];omega);have hdr:l.drop i=l[i]::l.drop (i+1):=List.drop_eq_getElem_cons hlt;rw[hdr]at hgo;rw[decide_eq_true (show(i:Int)<(l.length:Int) by omega),cond_true,nn_some',Ze (Zl hlt),Int.toNat_natCast,hsl.gets (k:=i*49) (n:=49) (by rw[hlen];omega),Zm1 (fun x hx=>(h48 x hx).1) hxi];generalize l[i]=x at hgo h48x h8x;unfold Zoi at hgo;have hol:(octs x.oct).length=48:=by rw[Zt,h48x]
  show Ok _ (J.i .i64 (.int .i64 x.no::octs x.oct) _ s);simp only[J_i];rw[D_len hol,D_len (by simp[hol])];refine Ok.call (ZsA h.q85 (n+1) x h48x h8x s (by omega)) ?_;rintro _ ⟨px,s2,rfl,hp2,hfz⟩;refine⟨_,s2,rfl,?_⟩;simp only[J_l,D_nil];have hset2:=hset.pre hp2;have hll2:=Zrn x 384;have hstop: ∀t,Pre st t→R=none→Ok (fun o=>∃s',Pre st s'∧match R with
   |none=>o=(.val [.ptr none,.bool false],s')
   |some F=>∃i j,o=(.val [.ptr (some (i,0)),.bool true],s')∧SetM s' false i j m F) ((M.ret [.ptr none,.bool false]:M (List DV)) t):=by
   intro t ht e;rw[e,Zb];exact .mk ⟨t,ht,rfl⟩
  have hne:((((x.no:Nat):Int))==((i:Nat):Int))=decide (x.no=i):=by
   by_cases e:x.no=i
   ·rw[e,decide_eq_true rfl];exact beq_self_eq_true _
   ·rw[decide_eq_false e];exact beq_eq_false_iff_ne.2 (by omega)
  rw[hne];cases hno:decide (x.no=i)with
  |false=>
   rw[hno,Bool.false_and,cond_false]at hgo;rw[Zc,Bool.not_false,cond_true];simp only[J_b,D_nil,cond_true];exact hstop s2 (hps.trans hp2) hgo.symm
  |true=>
  rw[hno,Bool.true_and]at hgo;obtain⟨ov,hov⟩: ∃ov,overF m x=ov:=⟨_,rfl⟩;rw[hov]at hgo;unfold overF at hov;refine Ok.join fun jk5 hjk5=>?_
  have hA:Ok (fun o=>∃s',Pre st s'∧match R with
   |none=>o=(.val [.ptr none,.bool false],s')
   |some F=>∃i j,o=(.val [.ptr (some (i,0)),.bool true],s')∧SetM s' false i j m F) (jk5 [.bool ov] s2):=by
   rw[hjk5];simp only[J_b,D_nil];cases ov with
   |true=>
    rw[Bool.not_true,cond_false]at hgo;rw[cond_true];exact hstop s2 (hps.trans hp2) hgo.symm
   |false=>
    rw[Bool.not_false,cond_true]at hgo;rw[cond_false];have hoff:Off [st.length] px:=fun b o e hb=>by
     rw[List.mem_singleton.1 hb]at e;subst e;obtain⟨all,e1⟩:=hfz.2 _ _ rfl;rw[hset2.wd]at e1;cases e1
    rw[Zi (Zeg h.q45 (n+1) (listF x 384) px s2 hset2 (by omega) hfz.1 hoff (by omega) (by omega))];simp only[D_nil];have hw1:wr64 ((i:Int)+1)=((i+1:Nat):Int):=Zd (by omega) (by omega);rw[hw1];have hps2:=hps.trans hp2;refine hrec (l.length-(i+1)) _ _ (by omega) ⟨i+1,_,rfl,by omega,Nat.le_refl _,Zcj hps2 (Nat.le_refl _) _,hset2.add (by omega) _ (by rw[(ZbZ m _ _).1]) ((ZbZ m _ _).2 hset2.lt),hgo⟩
  rw[Bool.not_true,cond_false,Zc];cases hpos:decide (0<(listF x 384).length)with
  |false=>
   rw[hpos,cond_false]at hov;have:=of_decide_eq_false hpos;rw[decide_eq_false (show ¬(((listF x 384).length:Nat):Int)>0 by omega),cond_false];simp only[J_b,D_nil];subst hov;exact hA
  |true=>
   rw[hpos,cond_true]at hov;have hpos':=of_decide_eq_true hpos;obtain⟨i2,o2,rfl⟩:=hfz.1.some_of (by simp[ints];omega);have hw2:wr64 ((((listF x 384).length:Nat):Int)-1)=(((listF x 384).length-1:Nat):Int):=by rw[Zd (by omega) (by omega)];omega
   rw[decide_eq_true (show(((listF x 384).length:Nat):Int)>0 by omega),cond_true,nn_some',hw2,Ze (Zl (by omega)),Int.toNat_natCast,hfz.1.get1 (Zw (by omega))];simp only[D_int];have hlast:(listF x 384)[(listF x 384).length-1]'(by omega)=(listF x 384).getLastD 0:=by
    rw[List.getLastD_eq_getLast?,List.getLast?_eq_getElem?,List.getElem?_eq_getElem (by omega)];rfl
   rw[hlast,hov];simp only[J_b,D_nil];exact hA
 ·rw[decide_eq_false (show ¬(i:Int)<(l.length:Int) by omega),cond_false]
  simp only[Zb];rw[List.drop_eq_nil_of_le (by omega)]at hgo;rw[←hgo];exact .mk ⟨s,hps,_,_,rfl,hset⟩
end Go.Gv.F
namespace Go.Gv.F
open Go.Gv
variable {β:Type}
def u64N (v:Int):Nat:=(v%18446744073709551616).toNat
def u8N (v:Int):UInt8:=UInt8.ofNat (v%256).toNat
theorem ZbO (v:Int):u64N v<18446744073709551616:=by unfold u64N;omega
theorem ZeY (v:Int):IntKind.wrap .u64 v=((u64N v:Nat):Int):=by
 have e:v=v/18446744073709551616*18446744073709551616+((u64N v:Nat):Int):=by unfold u64N;omega
 have h:=Zfu (ZbO v);have hm:IntKind.wrap .u64 v=v%18446744073709551616:=rfl;rw[hm];unfold u64N;omega
theorem Zt5 (v:Int):IntKind.wrap .u8 v=((u8N v).toNat:Int):=by
 have hm:IntKind.wrap .u8 v=v%256:=rfl;rw[hm];unfold u8N;show _=(((v%256).toNat%256:Nat):Int);omega
theorem Zqi {Bd:Za} (h:Zhi Bd) (n:Nat) (v i:Nat) (hv:v<18446744073709551616) (st:St) (hi:i<1000) (hn:i+3≤n):
  Ok (fun o=>o=(.val [.int .u8 ((v/256^i%256:Nat):Int)],st)) (run Bd n 248 [.int .u64 (v:Int),.int .i64 (i:Int)] st):=by
 obtain⟨n,rfl⟩: ∃k,n=k+2:=⟨n-2,by omega⟩;rw[Zf,h.eq];unfold ZeG;simp only[J_i,D_nil,Zc];refine Zk _ (fun q y s=>∃k:Nat,y=[.int .u64 ((v/256^k:Nat):Int),.int .i64 (k:Int)]∧k≤i∧i-k≤q∧s=st) ?_ i (n+1) _ _ ⟨0,by rw[Nat.pow_zero,Nat.div_one];rfl,Nat.zero_le _,by omega,rfl⟩ (by omega);rintro q _ s ⟨k,rfl,hk,hq,rfl⟩ rec hrec;simp only[J_i,D_nil];have hd:v/256^k<18446744073709551616:=Nat.lt_of_le_of_lt (Nat.div_le_self _ _) hv;by_cases hlt:k<i
 ·rw[decide_eq_true (show(k:Int)<(i:Int) by omega),cond_true]
  have h1:((v/256^k:Nat):Int).tdiv 256=((v/256^(k+1):Nat):Int):=by
   rw[Nat.pow_succ,←Nat.div_div_eq_div_mul];rfl
  have h2:v/256^(k+1)<18446744073709551616:=Nat.lt_of_le_of_lt (Nat.div_le_self _ _) hv;rw[h1,Zfu h2,Zd (by omega) (by omega)];exact hrec (i-(k+1)) _ _ (by omega) ⟨k+1,rfl,by omega,Nat.le_refl _,rfl⟩
 ·rw[decide_eq_false (show ¬(k:Int)<(i:Int) by omega),cond_false]
  have:k=i:=by omega
  subst this;simp only[Zb];refine .mk ?_;have h1:((v/256^k:Nat):Int).tmod 256=((v/256^k%256:Nat):Int):=rfl;rw[h1];have h2:IntKind.wrap .u8 ((v/256^k%256:Nat):Int)=((v/256^k%256:Nat):Int):=by
   show((v/256^k%256:Nat):Int)%256=_;omega
  rw[h2]
theorem Zmf (v n:Nat):layN v (n+1)=layN v n++[UInt8.ofNat (v/256^n)]:=by
 rw[Znz];rfl
theorem ZwG (x:Nat) (_h:x<256):ZbX [.int .u8 (x:Int)]=some [UInt8.ofNat x]:=rfl
theorem ZP {Bd:Za} (h:ZbE Bd) (n:Nat) (v k:Nat) (hv:v<18446744073709551616) (st:St) (hk:k<1000) (hn:k+10≤n):
  Ok (fun o=>∃s',o=(.val [.str (layN v k)],s')∧Pre st s') (run Bd n 213 [.int .u64 (v:Int),.int .i64 (k:Int)] st):=by
 obtain⟨n,rfl⟩: ∃k,n=k+2:=⟨n-2,by omega⟩;rw[Zf,h.eq];unfold ZgB;simp only[J_i,D_nil,Zc];refine Zk _ (fun q y s=>∃i:Nat,y=[.str (layN v i),.int .i64 (i:Int)]∧i≤k∧k-i≤q∧Pre st s) ?_ k (n+1) _ _ ⟨0,rfl,Nat.zero_le _,by omega,.refl st⟩ (by omega);rintro q _ s ⟨i,rfl,hi,hq,hp⟩ rec hrec;simp only[J_s,J_i,D_nil];by_cases hlt:i<k
 ·rw[decide_eq_true (show(i:Int)<(k:Int) by omega),cond_true]
  refine Ok.call (Zqi h.q72 (n+1) v i hv s (by omega) (by omega)) ?_;rintro _ rfl;refine⟨_,s,rfl,?_⟩;simp only[J_i,D_nil];rw[Zu,Zif (by show 0+1≤1;omega)];show Ok _ (D.oct [.int .u8 ((v/256^i%256:Nat):Int)] _ _);unfold D.oct;rw[ZwG _ (Nat.mod_lt _ (by decide))];simp only;rw[Ze (Nat.ble_eq_true_of_le (by rw[Zq];show i+1≤_;omega)),Zd (by omega) (by omega)];refine hrec (k-(i+1)) _ _ (by omega) ⟨i+1,?_,by omega,Nat.le_refl _,hp.trans (Pre.new _ _)⟩;rw[Zmf];have:UInt8.ofNat (v/256^i%256)=UInt8.ofNat (v/256^i):=by
   refine UInt8.toNat_inj.1 ?_;show v/256^i%256%256=v/256^i%256;omega
  rw[this];rfl
 ·rw[decide_eq_false (show ¬(i:Int)<(k:Int) by omega),cond_false]
  have:i=k:=by omega
  subst this;simp only[Zb];exact .mk ⟨s,rfl,hp⟩
theorem ZrJ {Bd:Za} (h:ZiA Bd) (n:Nat) (x:Nat) (hx:x<4294967296) (st:St):run Bd (n+1) 288 [.int .u32 (x:Int)] st=some (.val [.int .u32 (stepC x:Nat)],st):=by
 rw[Zf,h.eq];unfold ZfR stepC;simp only[J_i,D_nil];have h1:((x:Int).tmod 2==1)=decide (x%2=1):=by
  have e:(x:Int).tmod 2=((x%2:Nat):Int):=rfl;rw[e];by_cases h:x%2=1
  ·rw[h,decide_eq_true rfl];rfl
  ·rw[decide_eq_false h];exact beq_eq_false_iff_ne.2 (by omega)
 have h2:(x:Int).tdiv 2=((x/2:Nat):Int):=rfl;rw[h1,h2,ZgX (by omega)];by_cases h:x%2=1
 ·rw[decide_eq_true h,cond_true,if_pos h]
  have:=xor32 (x:=x/2) (y:=2197175160) (by omega) (by omega);rw[show((2197175160:Nat):Int)=2197175160 from rfl]at this;rw[this];rfl
 ·rw[decide_eq_false h,cond_false,if_neg h];rfl
theorem ZqK {Bd:Za} (h:Zhd Bd) (n:Nat) (x k:Nat) (hx:x<4294967296) (st:St) (hk:k<1000) (hn:k+4≤n):
  Ok (fun o=>o=(.val [.int .u32 (Zv k x:Nat)],st)) (run Bd n 264 [.int .u32 (x:Int),.int .i64 (k:Int)] st):=by
 obtain⟨n,rfl⟩: ∃k,n=k+2:=⟨n-2,by omega⟩;rw[Zf,h.eq];unfold Zew;simp only[J_i,D_nil,Zc];have hlt2: ∀i,Zv i x<4294967296:=fun i=>by
  induction i with
  |zero=>exact hx
  |succ i ih=>rw[Zgw];exact Zun ih
 refine Zk _ (fun q y s=>∃i:Nat,y=[.int .u32 ((Zv i x:Nat):Int),.int .i64 (i:Int)]∧i≤k∧k-i≤q∧s=st) ?_ k (n+1) _ _ ⟨0,rfl,Nat.zero_le _,by omega,rfl⟩ (by omega);rintro q _ s ⟨i,rfl,hi,hq,rfl⟩ rec hrec;simp only[J_i,D_nil];by_cases hlt:i<k
 ·rw[decide_eq_true (show(i:Int)<(k:Int) by omega),cond_true,Zi (ZrJ h.q97 n _ (hlt2 i) s)]
  simp only[J_i,D_nil];rw[←Zgw,Zd (by omega) (by omega)];exact hrec (k-(i+1)) _ _ (by omega) ⟨i+1,rfl,by omega,Nat.le_refl _,rfl⟩
 ·rw[decide_eq_false (show ¬(i:Int)<(k:Int) by omega),cond_false]
  have:i=k:=by omega
  subst this;simp only[Zb];exact .mk rfl
theorem Zs6 {Bd:Za} (h:Zjm Bd) (n:Nat) (a:Option (Nat×Nat)) (l:List UInt8) (st:St) (ha:Byt st a l) (hl:l.length<1000000) (hn:l.length+20≤n):
  Ok (fun o=>o=(.val [.int .u32 (crcF l:Nat)],st)) (run Bd n 242 [.slice 1 a l.length] st):=by
 obtain⟨n,rfl⟩: ∃k,n=k+2:=⟨n-2,by omega⟩;rw[Zf,h.eq];unfold ZgQ;simp only[J_l,D_nil,Zc];refine Zk _ (fun q y s=>∃(i:Nat),y=[.int .u32 (((l.take i).foldl regC 4294967295:Nat):Int),.int .i64 (i:Int)]∧i≤l.length∧l.length-i≤q∧s=st) ?_ l.length (n+1) _ _ ⟨0,rfl,Nat.zero_le _,by omega,rfl⟩ (by omega);rintro q _ s ⟨i,rfl,hi,hq,rfl⟩ rec hrec;simp only[J_i,D_nil];have hx:=Zkh (l.take i) (x:=4294967295) (by omega);by_cases hlt:i<l.length
 ·obtain⟨i1,o1,rfl⟩:=ha.some_of (by omega)
  have hxi:l[i]? =some l[i]:=List.getElem?_eq_getElem hlt;have hts:l.take (i+1)=l.take i++[l[i]]:=List.take_succ_eq_append_getElem hlt;rw[decide_eq_true (show(i:Int)<(l.length:Int) by omega),cond_true,nn_some',Ze (Zl hlt),Int.toNat_natCast,ha.get1 hxi];simp only[D_int];have hc:=(l[i]).toNat_lt;rw[ZgX (by omega),xor32 hx (by omega)];refine Ok.call (ZqK h.q73 (n+1) _ 8 (Nat.xor_lt_two_pow (n:=32) (by omega) (by omega)) s (by omega) (by omega)) ?_;rintro _ rfl;refine⟨_,s,rfl,?_⟩;simp only[J_i,D_nil];rw[Zd (by omega) (by omega)];refine hrec (l.length-(i+1)) _ _ (by omega) ⟨i+1,?_,by omega,Nat.le_refl _,rfl⟩;rw[hts,List.foldl_append];rfl
 ·rw[decide_eq_false (show ¬(i:Int)<(l.length:Int) by omega),cond_false]
  simp only[Zb];rw[List.take_of_length_le (by omega)]at hx⊢;refine .mk ?_;have h1:(4294967295:Int)-((l.foldl regC 4294967295:Nat):Int)=((crcF l:Nat):Int):=by unfold crcF;omega
  rw[h1,ZgX (ZpX l)]
def ZO (n:Nat):List UInt8:=List.replicate n 0
def fillF (s:List UInt8) (n:Nat):List UInt8:=s++ZO (n-s.length)
def sealS (kind tag:Int) (body:List UInt8):List UInt8:=[u8N kind,u8N tag,0,0]++fillF body 56
def sealF (kind tag:Int) (body:List UInt8):List UInt8:=layN (crcF (sealS kind tag body)) 4++sealS kind tag body
theorem Zra (n:Nat):rep n [.int .u8 0]=octs (ZO n):=by
 unfold rep ZO octs;rw[List.map_replicate];induction n with
 |zero=>rfl
 |succ n ih=>rw[List.replicate_succ,List.flatten_cons,ih,List.replicate_succ];rfl
theorem ZrQ {Bd:Za} (h:ZiF Bd) (n:Nat) (s:List UInt8) (k:Nat) (hs:s.length<1000000) (hk:k<1000000) (st:St):
  Ok (fun o=>∃s',o=(.val [.str (fillF s k)],s')∧Pre st s') (run Bd (n+1) 249 [.str s,.int .i64 (k:Int)] st):=by
 rw[Zf,h.eq];unfold Zfj;simp only[J_s,J_i,D_nil];have hw:wr64 ((k:Int)-(s.length:Int))=(k:Int)-(s.length:Int):=Zd (by omega) (by omega);have hd:(if (k:Int)-(s.length:Int)<0 then(0:Int)else(k:Int)-(s.length:Int))=((k-s.length:Nat):Int):=by
  split<;>omega
 simp only[hw,hd,Int.toNat_natCast];rw[Ze (by rw[Bool.and_eq_true,Bool.and_eq_true,decide_eq_true_iff,decide_eq_true_iff,decide_eq_true_iff];omega),Zu];rw[Zra,Zif (by rw[Zt];unfold ZO;rw[List.length_replicate];omega),List.drop_zero,List.take_of_length_le (by rw[Zt];unfold ZO;rw[List.length_replicate];omega),←ZeZ,D_oct];rw[Ze (Nat.ble_eq_true_of_le (by unfold ZO;rw[List.length_replicate];omega)),Zb];exact .mk ⟨_,rfl,Pre.new _ _⟩
theorem ZbT {Bd:Za} (h:Zbq Bd) (n:Nat) (kind tag:Int) (body:List UInt8) (hb:body.length<100000) (st:St) (hn:body.length+200≤n):
  Ok (fun o=>∃s',o=(.val [.str (sealF kind tag body)],s')∧Pre st s') (run Bd n 214 [.int .i64 kind,.int .i64 tag,.str body] st):=by
 obtain⟨n,rfl⟩: ∃k,n=k+2:=⟨n-2,by omega⟩;rw[Zf,h.eq];unfold Zfn;simp only[J_s,J_i,D_nil];have hcells:([.int .u8 (IntKind.wrap .u8 kind),.int .u8 (IntKind.wrap .u8 tag),.int .u8 0,.int .u8 0]:List DV)=octs [u8N kind,u8N tag,0,0]:=by
  rw[Zt5,Zt5];rfl
 rw[hcells,Zu,Zif (by rw[Zt];show 0+4≤4;omega),List.drop_zero,List.take_of_length_le (by rw[Zt];show 4≤4;omega),←ZeZ,D_oct];refine Ok.callX (ZrQ h.q98 n body 56 (by omega) (by omega) _) ?_;rintro _ ⟨s1,rfl,hp1⟩;refine⟨_,s1,rfl,hp1,?_⟩;simp only[J_s,D_nil];have hfl:(fillF body 56).length≤100056:=by
  unfold fillF ZO;rw[List.length_append,List.length_replicate];omega
 have hS:[u8N kind,u8N tag,0,0]++fillF body 56=sealS kind tag body:=rfl;have hSl:(sealS kind tag body).length=4+(fillF body 56).length:=by unfold sealS;rw[List.length_append];rfl
 have hfl2:(fillF body 56).length≤body.length+56:=by
  unfold fillF ZO;rw[List.length_append,List.length_replicate];omega
 rw[Ze (Nat.ble_eq_true_of_le (by show 4+_≤_;omega)),hS,Zu];refine Ok.call (Zs6 h.q117 (n+1) (some (s1.length,0)) (sealS kind tag body) _ ⟨false,ZF (sealS kind tag body),by simp,Nat.le_of_eq (by rw[Nat.zero_add,ZeZ]),by rw[List.drop_zero,ZeZ,List.take_length]⟩ (by omega) (by omega)) ?_;rintro _ rfl;refine⟨_,_,rfl,?_⟩;simp only[J_i,D_nil];have hc:=ZpX (sealS kind tag body);rw[Zfu (by omega)];refine Ok.call (ZP h.q116 (n+1) _ 4 (by omega) _ (by omega) (by omega)) ?_;rintro _ ⟨s2,rfl,hp2⟩;refine⟨_,_,rfl,?_⟩;simp only[J_s,D_nil];rw[Ze (Nat.ble_eq_true_of_le (by rw[Zq];omega)),Zb];exact .mk ⟨s2,rfl,(((Pre.new _ _).trans hp1).trans (Pre.new _ _)).trans hp2⟩
theorem Zk7 {Bd:Za} (h:ZfG Bd) (n:Nat) (a:Int) (k:Nat) (hk:0<k) (hk2:k<1000000000) (_ha: -9223372036854775808≤a∧a≤9223372036854775807) (st:St):run Bd (n+1) 179 [.int .i64 a,.int .i64 (k:Int)] st=some (.val [.int .i64 (a%(k:Int))],st):=by
 rw[Zf,h.eq];unfold ZfQ;simp only[J_i,D_nil];have h0:(!((k:Int)==0))=true:=by rw[Bool.not_eq_true',beq_eq_false_iff_ne];omega
 rw[Ze h0,Ze h0,Zb];have hb:=Int.tmod_lt_of_pos a (show(0:Int)<k by omega);have hb2: -(k:Int)<a.tmod k:=by
  have:=Int.neg_tmod a k;have h3:=Int.tmod_lt_of_pos (-a) (show(0:Int)<k by omega);omega
 have hw:wr64 (a.tmod k+k)=a.tmod k+k:=Zd (by omega) (by omega);rw[hw];have he:(a.tmod k+k).tmod k=a%k:=by
  rw[Int.tmod_eq_emod_of_nonneg (by omega),Int.add_emod_right];have e:a.tmod k=a+k*(-(a.tdiv k)):=by
   have:=Int.mul_tdiv_add_tmod a k;rw[Int.mul_neg];omega
  rw[e,Int.add_mul_emod_self_left]
 rw[he]
end Go.Gv.F
namespace Go.Gv.F
open Go.Gv
variable {β:Type}
def lays2 (l:List Int):List UInt8:=(l.map fun k=>layN (u64N k) 2).flatten
theorem Zbb (l:List Int):(lays2 l).length=2*l.length:=by
 unfold lays2;induction l with
 |nil=>rfl
 |cons k l ih=>rw[List.map_cons,List.flatten_cons,List.length_append,Zq,ih,List.length_cons];omega
theorem Zff (l:List Int) {i:Nat} (h:i<l.length):lays2 (l.take (i+1))=lays2 (l.take i)++layN (u64N l[i]) 2:=by
 unfold lays2;rw[List.take_succ_eq_append_getElem h,List.map_append,List.flatten_append];simp
def Zdd (k:Int):Bool:=decide (k≥2)&&decide (k≤3071)
theorem Zf9 {Bd:Za} (h:Zdc Bd) (n:Nat) (k:Int) (st:St):run Bd (n+1) 251 [.int .i64 k] st=some (.val [.bool (Zdd k)],st):=by
 rw[Zf,h.eq];unfold ZeK Zdd;simp only[J_i,D_nil,Zc];cases decide (k≥2)<;>rfl
theorem ZD {a b:Nat} (h:a≤b) (K:M β):M.chk (Nat.ble a b) K=K:=Ze (Nat.ble_eq_true_of_le h) K
def nodeS (x:NodeV):List UInt8:=layN (u64N x.ent.key) 8++layN (u64N x.ent.value) 8++layN (u64N x.ent.slot) 4++layN (u64N x.ent.gen) 4++lays2 x.kids
def putN (x:NodeV):List UInt8:=sealF 1 x.kids.length (nodeS x)
theorem ZtM {Bd:Za} (h:Zjv Bd) (n:Nat) (x:NodeV) (z:Nat) (p:Option (Nat×Nat)) (st:St) (hz:z=1∨p=none) (hs:Sl st p (ints x.kids)) (hl:x.kids.length<1000) (hn:2400≤n):
  Ok (fun o=>∃s',o=(.val [.str (putN x)],s')∧Pre st s') (run Bd n 250 [.agg (nodeC x z p)] st):=by
 obtain⟨n,rfl⟩: ∃k,n=k+2:=⟨n-2,by omega⟩;rw[Zf,h.eq];unfold Zgk nodeC entC;simp only[List.cons_append,List.nil_append];rw[J_a];simp only[J_i,Zm 1 z p _ hz,D_nil,ZeY];refine Ok.callX (ZP h.q116 (n+1) _ 8 (ZbO _) st (by omega) (by omega)) ?_;rintro _ ⟨s1,rfl,hp1⟩;refine⟨_,s1,rfl,hp1,?_⟩;simp only[J_s,D_nil];refine Ok.callX (ZP h.q116 (n+1) _ 8 (ZbO _) s1 (by omega) (by omega)) ?_;rintro _ ⟨s2,rfl,hp2⟩;refine⟨_,s2,rfl,hp2,?_⟩;simp only[J_s,D_nil];rw[ZD (by rw[Zq,Zq];omega)];refine Ok.callX (ZP h.q116 (n+1) _ 4 (ZbO _) s2 (by omega) (by omega)) ?_;rintro _ ⟨s3,rfl,hp3⟩;refine⟨_,s3,rfl,hp3,?_⟩;simp only[J_s,D_nil];rw[ZD (by rw[List.length_append,Zq,Zq,Zq];omega)];refine Ok.callN (ZP h.q116 (n+1) _ 4 (ZbO _) s3 (by omega) (by omega)) ?_;rintro _ ⟨s4,rfl,hp4⟩;refine⟨_,s4,rfl,?_⟩;simp only[J_s,D_nil];rw[ZD (by rw[List.length_append,List.length_append,Zq,Zq,Zq,Zq];omega),Zc];have hP:=((hp1.trans hp2).trans hp3).trans hp4;obtain⟨A,hA⟩: ∃A,layN (u64N x.ent.key) 8++layN (u64N x.ent.value) 8++layN (u64N x.ent.slot) 4++layN (u64N x.ent.gen) 4=A:=⟨_,rfl⟩;have hAl:A.length=24:=by rw[←hA];simp[Zq]
 rw[hA];refine Zk _ (fun q y s=>∃i:Nat,y=[.str (A++lays2 (x.kids.take i)),.int .i64 (i:Int)]∧i≤x.kids.length∧x.kids.length-i≤q∧Pre st s) ?_ x.kids.length (n+1) _ _ ⟨0,by rw[List.take_zero];show _=[DV.str (A++[]),_];rw[List.append_nil];rfl,Nat.zero_le _,by omega,hP⟩ (by omega);rintro q _ s ⟨i,rfl,hi,hq,hps⟩ rec hrec;simp only[J_s,J_i,D_nil];by_cases hlt:i<x.kids.length
 ·have hsl:=hs.mono hps
  obtain⟨i1,o1,rfl⟩:=hsl.some_of (by simp[ints];omega);rw[decide_eq_true (show(i:Int)<(x.kids.length:Int) by omega),cond_true,nn_some',Ze (Zl hlt),Int.toNat_natCast,hsl.get1 (Zw hlt)];simp only[D_int];refine Ok.call (ZP h.q116 (n+1) _ 2 (ZbO _) s (by omega) (by omega)) ?_;rintro _ ⟨s5,rfl,hp5⟩;refine⟨_,s5,rfl,?_⟩;simp only[J_s,D_nil];rw[ZD (by rw[List.length_append,Zbb,Zq,List.length_take,hAl];omega),Zd (by omega) (by omega)];refine hrec (x.kids.length-(i+1)) _ _ (by omega) ⟨i+1,by rw[Zff _ hlt,List.append_assoc];rfl,by omega,Nat.le_refl _,hps.trans hp5⟩
 ·rw[decide_eq_false (show ¬(i:Int)<(x.kids.length:Int) by omega),cond_false]
  rw[List.take_of_length_le (by omega)];refine Ok.call (ZbT h.q99 (n+1) 1 x.kids.length (A++lays2 x.kids) (by rw[List.length_append,Zbb];omega) s (by rw[List.length_append,Zbb];omega)) ?_;rintro _ ⟨s5,rfl,hp5⟩;refine⟨_,s5,rfl,?_⟩;simp only[J_s,D_nil,Zb];refine .mk ⟨s5,?_,hps.trans hp5⟩;unfold putN nodeS;rw[hA]
def seatR (x:SeatV):Bool:= !(decide (x.gen<0)||decide (x.gen>4294967295))&&(bif x.live then decide (x.gen>0)&&Zdd x.block else(decide (x.block≥0)&&decide (x.block≤1792))&&(!(x.gen==0)||x.block==0))
theorem Zru {Bd:Za} (h:ZhV Bd) (n:Nat) (x:SeatV) (st:St):run Bd (n+2) 252 [.agg (seatC x)] st=some (.val [.bool (seatR x)],st):=by
 rw[Zf,h.eq];unfold ZfJ seatR seatC;rw[J_a];simp only[J_b,J_i,D_nil,Zc];have e0:=Zf9 h.q78 n x.block st;cases decide (x.gen<0)with
 |true=>rfl
 |false=>
 cases decide (x.gen>4294967295)with
 |true=>rfl
 |false=>
 simp only[cond_false,Bool.or_self,Bool.not_false,Bool.true_and];cases x.live with
 |true=>
  simp only[cond_true];cases decide (x.gen>0)with
  |true=>
   simp only[cond_true];rw[Zi e0];simp only[J_b,D_nil,Zb,Bool.true_and]
  |false=>simp only[cond_false,Zb,Bool.false_and]
 |false=>
  simp only[cond_false];cases decide (x.block≥0)with
  |false=>simp only[cond_false,Zb,Bool.false_and]
  |true=>
   simp only[cond_true,Bool.true_and];cases decide (x.block≤1792)with
   |false=>simp only[cond_false,Zb,Bool.false_and]
   |true=>
    simp only[cond_true,Bool.true_and];cases(x.gen==0)with
    |true=>simp only[Bool.not_true,cond_false,Zb,Bool.false_or]
    |false=>simp only[Bool.not_false,cond_true,Zb,Bool.true_or]
def Zdf:List SeatV→List UInt8
 |[]=>[]
 |x::r=>layN (u64N x.gen) 4++layN (u64N x.block) 4++Zdf r
def tagGo:Nat→List SeatV→Nat
 |_,[]=>0
 |k,x::r=>(bif x.live then 2^k else 0)+tagGo (k+1) r
theorem ZkR: ∀l:List SeatV,(Zdf l).length=8*l.length
 |[]=>rfl
 |x::r=>by rw[Zdf,List.length_append,List.length_append,Zq,Zq,ZkR r,List.length_cons];omega
theorem ZoE: ∀l m:List SeatV,Zdf (l++m)=Zdf l++Zdf m
 |[],m=>rfl
 |x::r,m=>by rw[List.cons_append,Zdf,Zdf,ZoE r m,←List.append_assoc]
theorem ZqM: ∀(k:Nat) (l m:List SeatV),tagGo k (l++m)=tagGo k l+tagGo (k+l.length) m
 |k,[],m=>by simp[tagGo]
 |k,x::r,m=>by rw[List.cons_append,tagGo,tagGo,ZqM (k+1) r m,List.length_cons,show k+1+r.length=k+(r.length+1) by omega,Nat.add_assoc]
theorem ZtC: ∀(k:Nat) (l:List SeatV),tagGo k l+2^k≤2^(k+l.length)
 |k,[]=>by simp[tagGo]
 |k,x::r=>by
  have:=ZtC (k+1) r;rw[tagGo,List.length_cons,show k+(r.length+1)=k+1+r.length by omega];have e:2^(k+1)=2*2^k:=by rw[Nat.pow_succ];omega
  cases x.live with
  |true=>rw[cond_true];omega
  |false=>rw[cond_false];omega
def Zf4 (l:List SeatV):Option (List UInt8):=bif l.all seatR then some (sealF 2 (tagGo 0 l:Nat) (Zdf l))else none
def strO:Option (List UInt8)→List DV
 |some s=>[.str s,.bool true]
 |none=>[.str [],.bool false]
theorem ZrN {Bd:Za} (h:Zh2 Bd) (n:Nat) (l:List SeatV) (hl:l.length=7) (st:St) (hn:400≤n):
  Ok (fun o=>∃s',o=(.val (strO (Zf4 l)),s')∧Pre st s') (run Bd n 219 [.agg (leafC l)] st):=by
 obtain⟨n,rfl⟩: ∃k,n=k+3:=⟨n-3,by omega⟩;obtain⟨R,hR⟩: ∃R,Zf4 l=R:=⟨_,rfl⟩;rw[hR];unfold Zf4 at hR;rw[Zf,h.eq];unfold Zfw;have hcl:(leafC l).length=21:=by rw[ZN,hl]
 rw[J_a,D_len hcl];simp only[D_nil];rw[D_len hcl,Zc];refine Zk _ (fun q y s=>∃i:Nat,y=[.str (Zdf (l.take i)),.int .i64 ((tagGo 0 (l.take i):Nat):Int),.int .i64 (i:Int)]∧i≤7∧7-i≤q∧Pre st s∧(l.take i).all seatR=true) ?_ 7 (n+2) _ _ ⟨0,rfl,Nat.zero_le _,by omega,.refl st,rfl⟩ (by omega);rintro q _ s ⟨i,rfl,hi,hq,hps,hall⟩ rec hrec;simp only[J_s,J_i,D_nil];by_cases hlt:i<7
 ·have hlt':i<l.length:=by omega
  have hts:l.take (i+1)=l.take i++[l[i]]:=List.take_succ_eq_append_getElem hlt';have hxi:l[i]? =some l[i]:=List.getElem?_eq_getElem hlt';have hcells:((leafC l).drop (i*3)).take 3=seatC l[i]:=ZiU hxi;rw[decide_eq_true (show(i:Int)<7 by omega),cond_true,Ze (show inB (i:Int) 7=true from Zl hlt),Int.toNat_natCast,ZD (by omega),hcells];have hmem:l[i]∈l:=List.getElem_mem hlt';generalize l[i]=x at hts hmem;rw[D_len (cs:=seatC x) (n:=3) rfl,Zi (Zru h.q101 n x s)];simp only[J_b,D_nil];cases hx:seatR x with
  |false=>
   rw[Bool.not_false,cond_true,Zb];have hno:l.all seatR=false:=by
    rw[List.all_eq_false];exact⟨x,hmem,by rw[hx];decide⟩
   rw[hno,cond_false]at hR;rw[←hR];exact .mk ⟨s,rfl,hps⟩
  |true=>
   rw[Bool.not_true,cond_false];unfold seatC;rw[D_nth (d:= .bool x.live) rfl];simp only[D_bool];have htl:=ZtC 0 (l.take i);rw[List.length_take,Nat.min_eq_left (by omega),Nat.zero_add]at htl;have h7:2^i≤2^7:=Nat.pow_le_pow_right (by decide) (by omega);have h128:2^7=128:=by decide
   have hall2:(l.take (i+1)).all seatR=true:=by rw[hts,List.all_append,hall];simp[hx]
   refine Ok.join fun jk2 hjk2=>?_
   have hA:Ok (fun o=>∃s',o=(.val (strO R),s')∧Pre st s') (jk2 [.int .i64 ((tagGo 0 (l.take (i+1)):Nat):Int)] s):=by
    rw[hjk2];simp only[J_i,D_nil];rw[D_nth (d:= .int .i64 x.gen) rfl];simp only[D_int,ZeY];refine Ok.callX (ZP h.q116 (n+2) _ 4 (ZbO _) s (by omega) (by omega)) ?_;rintro _ ⟨s1,rfl,hp1⟩;refine⟨_,s1,rfl,hp1,?_⟩;simp only[J_s,D_nil];have hsl:=ZkR (l.take i);rw[List.length_take]at hsl;rw[ZD (by rw[hsl,Zq];omega),D_nth (d:= .int .i64 x.block) rfl];simp only[D_int];refine Ok.callN (ZP h.q116 (n+2) _ 4 (ZbO _) s1 (by omega) (by omega)) ?_;rintro _ ⟨s2,rfl,hp2⟩;refine⟨_,s2,rfl,?_⟩;simp only[J_s,D_nil];rw[ZD (by rw[List.length_append,hsl,Zq,Zq];omega),Zd (by omega) (by omega)];refine hrec (7-(i+1)) _ _ (by omega) ⟨i+1,?_,by omega,Nat.le_refl _,(hps.trans hp1).trans hp2,hall2⟩;rw[hts,ZoE];simp[Zdf]
   have htag:tagGo 0 (l.take (i+1))=tagGo 0 (l.take i)+(bif x.live then 2^i else 0):=by
    rw[hts,ZqM,List.length_take,Nat.min_eq_left (by omega),Nat.zero_add];simp[tagGo]
   cases hlv:x.live with
   |false=>
    rw[hlv,cond_false]at htag;have htag2:tagGo 0 (l.take i)=tagGo 0 (l.take (i+1)):=htag.symm;rw[cond_false,htag2];exact hA
   |true=>
    rw[hlv,cond_true]at htag;rw[cond_true,Ze (decide_eq_true (by omega)),Nat.min_eq_left (by omega)];have e1:wr64 (1*2^i)=((2^i:Nat):Int):=by
     rw[Int.one_mul,show((2:Int)^i)=((2^i:Nat):Int) by push_cast;rfl];exact Zd (by omega) (by omega)
    rw[e1,Zd (by omega) (by omega)];have e2:((tagGo 0 (l.take i):Nat):Int)+((2^i:Nat):Int)=((tagGo 0 (l.take (i+1)):Nat):Int):=by rw[htag];omega
    rw[e2];exact hA
 ·rw[decide_eq_false (show ¬(i:Int)<7 by omega),cond_false]
  rw[List.take_of_length_le (by omega)]at hall⊢;rw[hall,cond_true]at hR;have hsl:=ZkR l;refine Ok.call (ZbT h.q99 (n+2) 2 (tagGo 0 l:Nat) (Zdf l) (by omega) s (by omega)) ?_;rintro _ ⟨s1,rfl,hp1⟩;refine⟨_,s1,rfl,?_⟩;simp only[J_s,D_nil,Zb];rw[←hR];exact .mk ⟨s1,rfl,hps.trans hp1⟩
end Go.Gv.F
namespace Go.Gv.F
open Go.Gv
variable {β:Type}
def Zfk (l:List Int):Option (List UInt8):=bif l.all fun k=>k==0||Zdd k then some (sealF 3 0 (lays2 l))else none
theorem ZlG {Bd:Za} (h:Zjt Bd) (n:Nat) (l:List Int) (hl:l.length=16) (st:St) (hn:400≤n):
  Ok (fun o=>∃s',o=(.val (strO (Zfk l)),s')∧Pre st s') (run Bd n 218 [.agg (ints l)] st):=by
 obtain⟨n,rfl⟩: ∃k,n=k+3:=⟨n-3,by omega⟩;obtain⟨R,hR⟩: ∃R,Zfk l=R:=⟨_,rfl⟩;rw[hR];unfold Zfk at hR;rw[Zf,h.eq];unfold Zgq;have hcl:(ints l).length=16:=by simp[ints,hl]
 rw[J_a,D_len hcl];simp only[D_nil];rw[D_len hcl,Zc];refine Zk _ (fun q y s=>∃i:Nat,y=[.str (lays2 (l.take i)),.int .i64 (i:Int)]∧i≤16∧16-i≤q∧Pre st s∧((l.take i).all fun k=>k==0||Zdd k)=true) ?_ 16 (n+2) _ _ ⟨0,rfl,Nat.zero_le _,by omega,.refl st,rfl⟩ (by omega);rintro q _ s ⟨i,rfl,hi,hq,hps,hall⟩ rec hrec;simp only[J_s,J_i,D_nil];by_cases hlt:i<16
 ·have hlt':i<l.length:=by omega
  have hts:l.take (i+1)=l.take i++[l[i]]:=List.take_succ_eq_append_getElem hlt';have hnth:(ints l)[i*1]? =some (.int .i64 l[i]):=by rw[Nat.mul_one];exact Zw hlt'
  have hmem:l[i]∈l:=List.getElem_mem hlt';have hlay:=Zff l hlt';have hi16:inB (i:Int) 16=true:=Zl hlt;rw[decide_eq_true (show(i:Int)<16 by omega),cond_true];simp only[Int.toNat_natCast];rw[Ze hi16,D_nth hnth];simp only[D_int];generalize l[i]=x at hts hnth hmem hlay;refine Ok.join fun jk2 hjk2=>?_
  have hno:(x==0||Zdd x)=false→Ok (fun o=>∃s',o=(.val (strO R),s')∧Pre st s') ((M.ret [.str (bs []),.bool false]:M (List DV)) s):=fun e=>by
   have hno:(l.all fun k=>k==0||Zdd k)=false:=by
    rw[List.all_eq_false];exact⟨x,hmem,by rw[e];decide⟩
   rw[hno,cond_false]at hR;rw[←hR,Zb];exact .mk ⟨s,rfl,hps⟩
  have hyes:(x==0||Zdd x)=true→Ok (fun o=>∃s',o=(.val (strO R),s')∧Pre st s') (jk2 [.bool false] s):=fun e=>by
   rw[hjk2];simp only[J_b,D_nil];rw[cond_false,Ze hi16,D_nth hnth];simp only[D_int,ZeY];refine Ok.call (ZP h.q116 (n+2) _ 2 (ZbO _) s (by omega) (by omega)) ?_;rintro _ ⟨s1,rfl,hp1⟩;refine⟨_,s1,rfl,?_⟩;simp only[J_s,D_nil];rw[ZD (by rw[Zbb,Zq,List.length_take];omega),Zd (by omega) (by omega)];refine hrec (16-(i+1)) _ _ (by omega) ⟨i+1,by rw[hlay];rfl,by omega,Nat.le_refl _,hps.trans hp1,?_⟩;rw[hts,List.all_append,hall];simpa using e
  cases h0:(x==0)with
  |true=>
   rw[Bool.not_true,cond_false];exact hyes (by rw[h0];rfl)
  |false=>
   rw[Bool.not_false,cond_true,Ze hi16,D_nth hnth];simp only[D_int];rw[Zi (Zf9 h.q78 (n+1) x s)];simp only[J_b,D_nil];cases hb:Zdd x with
   |true=>exact hyes (by rw[hb,Bool.or_true])
   |false=>
    rw[hjk2];simp only[J_b,D_nil,Bool.not_false,cond_true];exact hno (by rw[h0,hb];rfl)
 ·rw[decide_eq_false (show ¬(i:Int)<16 by omega),cond_false]
  rw[List.take_of_length_le (by omega)]at hall⊢;rw[hall,cond_true]at hR;have hsl:=Zbb l;refine Ok.call (ZbT h.q99 (n+2) 3 0 (lays2 l) (by omega) s (by omega)) ?_;rintro _ ⟨s1,rfl,hp1⟩;refine⟨_,s1,rfl,?_⟩;simp only[J_s,D_nil,Zb];rw[←hR];exact .mk ⟨s1,rfl,hps.trans hp1⟩
def putQ (x:Zdb):List UInt8:=sealF 5 x.name.length (layN (u64N x.mask) 4++lays2 x.heads++x.name)
theorem Zuc {Bd:Za} (h:Zjo Bd) (n:Nat) (x:Zdb) (hl:x.heads.length=12) (hm:x.name.length<60000) (st:St) (hn:x.name.length+500≤n):
  Ok (fun o=>∃s',o=(.val [.str (putQ x)],s')∧Pre st s') (run Bd n 216 [.agg (ZdE x)] st):=by
 obtain⟨n,rfl⟩: ∃k,n=k+3:=⟨n-3,by omega⟩;rw[Zf,h.eq];unfold ZgO ZdE;have hcl:(ints x.heads).length=12:=by simp[ints,hl]
 rw[J_a];simp only[J_s,J_i];rw[D_len hcl];simp only[D_nil];rw[D_len (n:=14) (by simp[hcl])];simp only[ZeY];refine Ok.call (ZP h.q116 (n+2) _ 4 (ZbO _) st (by omega) (by omega)) ?_;rintro _ ⟨s0,rfl,hp0⟩;refine⟨_,s0,rfl,?_⟩;simp only[J_s,D_nil];rw[Zc];have hA:(layN (u64N x.mask) 4).length=4:=Zq _ _;unfold putQ;generalize layN (u64N x.mask) 4=A at hA;refine Zk _ (fun q y s=>∃i:Nat,y=[.str (A++lays2 (x.heads.take i)),.int .i64 (i:Int)]∧i≤12∧12-i≤q∧Pre st s) ?_ 12 (n+2) _ _ ⟨0,by rw[List.take_zero];show _=[DV.str (A++[]),_];rw[List.append_nil];rfl,Nat.zero_le _,by omega,hp0⟩ (by omega);rintro q _ s ⟨i,rfl,hi,hq,hps⟩ rec hrec;simp only[J_s,J_i,D_nil];by_cases hlt:i<12
 ·have hlt':i<x.heads.length:=by omega
  have hnth:(ints x.heads)[i*1]? =some (.int .i64 x.heads[i]):=by rw[Nat.mul_one];exact Zw hlt'
  rw[decide_eq_true (show(i:Int)<12 by omega),cond_true];simp only[Int.toNat_natCast];rw[Ze (show inB (i:Int) 12=true from Zl hlt),D_nth hnth];simp only[D_int];refine Ok.call (ZP h.q116 (n+2) _ 2 (ZbO _) s (by omega) (by omega)) ?_;rintro _ ⟨s1,rfl,hp1⟩;refine⟨_,s1,rfl,?_⟩;simp only[J_s,D_nil];rw[ZD (by rw[List.length_append,hA,Zbb,Zq,List.length_take];omega),Zd (by omega) (by omega)];exact hrec (12-(i+1)) _ _ (by omega) ⟨i+1,by rw[Zff _ hlt',List.append_assoc];rfl,by omega,Nat.le_refl _,hps.trans hp1⟩
 ·rw[decide_eq_false (show ¬(i:Int)<12 by omega),cond_false]
  rw[List.take_of_length_le (by omega)];have hsl:=Zbb x.heads;rw[ZD (by rw[List.length_append];omega)];refine Ok.call (ZbT h.q99 (n+2) 5 x.name.length (A++lays2 x.heads++x.name) (by rw[List.length_append,List.length_append];omega) s (by rw[List.length_append,List.length_append];omega)) ?_;rintro _ ⟨s1,rfl,hp1⟩;refine⟨_,s1,rfl,?_⟩;simp only[J_s,D_nil,Zb];exact .mk ⟨s1,rfl,hps.trans hp1⟩
def dirOk:List Int→Nat→Bool
 |_l,0=>true
 |l,i+1=>dirOk l i&&(Zdd (l.getD i 0)&& !decide (l.getD i 0∈l.take i))
def ZhY (l:List Int):Option (List UInt8):=bif decide (1≤l.length)&&(decide (l.length≤16)&&dirOk l l.length)then some (sealF 6 l.length (lays2 l))else none
theorem Zt1 {l:List Int} : ∀ {i j:Nat},i≤j→dirOk l j=true→dirOk l i=true
 |i,0,h,e=>by
  have:i=0:=by omega
  subst this;rfl
 |i,j+1,h,e=>by
  by_cases hij:i=j+1
  ·subst hij;exact e
  ·unfold dirOk at e
   rw[Bool.and_eq_true]at e;exact Zt1 (by omega) e.1
theorem Ztj {Bd:Za} (h:Zjs Bd) (n:Nat) (l:List Int) (z:Nat) (p:Option (Nat×Nat)) (st:St) (hz:z=1∨p=none) (hs:Sl st p (ints l)) (hl:l.length<1000) (hn:2500≤n):
  Ok (fun o=>∃s',o=(.val (strO (ZhY l)),s')∧Pre st s') (run Bd n 215 [.slice z p l.length] st):=by
 obtain⟨n,rfl⟩: ∃k,n=k+3:=⟨n-3,by omega⟩;obtain⟨R,hR⟩: ∃R,ZhY l=R:=⟨_,rfl⟩;rw[hR];unfold ZhY at hR;rw[Zf,h.eq];unfold ZgG;simp only[Zm 1 z p _ hz,D_nil];rw[Zc];have hstop: ∀s,Pre st s→R=none→Ok (fun o=>∃s',o=(.val (strO R),s')∧Pre st s') ((M.ret [.str (bs []),.bool false]:M (List DV)) s):=fun s hps e=>by
  rw[e,Zb];exact .mk ⟨s,rfl,hps⟩
 by_cases h1:1≤l.length;rotate_left
 ·rw[decide_eq_true (show((l.length:Nat):Int)<1 by omega),cond_true]
  simp only[J_b,D_nil,cond_true];refine hstop st (.refl st) ?_;rw[decide_eq_false h1,Bool.false_and,cond_false]at hR;exact hR.symm
 by_cases h16:l.length≤16;rotate_left
 ·rw[decide_eq_false (show ¬((l.length:Nat):Int)<1 by omega),cond_false,decide_eq_true (show((l.length:Nat):Int)>16 by omega)]
  simp only[J_b,D_nil,cond_true];refine hstop st (.refl st) ?_;rw[decide_eq_false h16,Bool.false_and,Bool.and_false,cond_false]at hR;exact hR.symm
 rw[decide_eq_true h1,decide_eq_true h16,Bool.true_and,Bool.true_and]at hR;rw[decide_eq_false (show ¬((l.length:Nat):Int)<1 by omega),cond_false,decide_eq_false (show ¬((l.length:Nat):Int)>16 by omega)];simp only[J_b,D_nil];rw[cond_false,Zc];have hnone: ∀i,i≤l.length→dirOk l i=false→R=none:=fun i hi e=>by
  cases hf:dirOk l l.length with
  |true=>rw[Zt1 hi hf]at e;cases e
  |false=>rw[hf,cond_false]at hR;exact hR.symm
 refine Zk _ (fun q y s=>∃i:Nat,y=[.str (lays2 (l.take i)),.int .i64 (i:Int)]∧i≤l.length∧l.length-i≤q∧Pre st s∧dirOk l i=true) ?_ l.length (n+2) _ _ ⟨0,rfl,Nat.zero_le _,by omega,.refl st,rfl⟩ (by omega);rintro q _ s ⟨i,rfl,hi,hq,hps,hall⟩ rec hrec;simp only[J_s,J_i,D_nil];by_cases hlt:i<l.length
 ·have hsl:=hs.mono hps
  obtain⟨i1,o1,rfl⟩:=hsl.some_of (by simp[ints];omega);have hgd:l.getD i 0=l[i]:=by rw[List.getD_eq_getElem?_getD,List.getElem?_eq_getElem hlt];rfl
  have hlay:=Zff l hlt;have hok:dirOk l (i+1)=(Zdd l[i]&& !decide (l[i]∈l.take i)):=by
   show(dirOk l i&&_)=_;rw[hall,Bool.true_and,hgd]
  have hget:(ints l)[i]? =some (.int .i64 l[i]):=Zw hlt;rw[decide_eq_true (show(i:Int)<(l.length:Int) by omega),cond_true,Zc,nn_some',Ze (Zl hlt)];simp only[Int.toNat_natCast];rw[hsl.get1 hget];simp only[D_int];obtain⟨x,hx⟩: ∃x,l[i]=x:=⟨_,rfl⟩;rw[hx]at hget hlay hok⊢;rw[Zi (Zf9 h.q78 (n+1) x s)];simp only[J_b,D_nil];cases hb:Zdd x with
  |false=>
   rw[Bool.not_false,cond_true];exact hstop s hps (hnone (i+1) (by omega) (by rw[hok,hb];rfl))
  |true=>
   rw[Bool.not_true,cond_false,Zc];refine Zk _ (fun q y t=>∃k:Nat,y=[.int .i64 (k:Int)]∧k≤i∧i-k≤q∧t=s∧x∉l.take k) ?_ i (n+2) _ _ ⟨0,rfl,Nat.zero_le _,by omega,rfl,by simp⟩ (by omega);rintro q2 _ t ⟨k,rfl,hk,hq2,rfl,hkn⟩ rec2 hrec2;simp only[J_i,D_nil];by_cases hlk:k<i
   ·have hk2:k<l.length:=by omega
    have hgk:(ints l)[k]? =some (.int .i64 l[k]):=Zw hk2;rw[decide_eq_true (show(k:Int)<(i:Int) by omega),cond_true,nn_some',Ze (Zl hk2)];simp only[Int.toNat_natCast];rw[hsl.get1 hgk];simp only[D_int];rw[nn_some',Ze (Zl hlt)];rw[hsl.get1 hget];simp only[D_int];by_cases he:l[k]=x
    ·rw[show(l[k]==x)=true by rw[he];exact beq_self_eq_true _,cond_true]
     refine hstop t hps (hnone (i+1) (by omega) ?_);have:x∈l.take i:=by
      rw[←he];exact List.mem_take_iff_getElem.2 ⟨k,by omega,rfl⟩
     rw[hok,decide_eq_true this,Bool.not_true,Bool.and_false]
    ·rw[show(l[k]==x)=false from beq_eq_false_iff_ne.2 he,cond_false,Zd (by omega) (by omega)]
     refine hrec2 (i-(k+1)) _ _ (by omega) ⟨k+1,rfl,by omega,Nat.le_refl _,rfl,?_⟩;rw[List.take_succ_eq_append_getElem hk2];intro hm;rcases List.mem_append.1 hm with hm|hm
     ·exact hkn hm
     ·exact he (List.mem_singleton.1 hm).symm
   ·rw[decide_eq_false (show ¬(k:Int)<(i:Int) by omega),cond_false]
    have:k=i:=by omega
    subst this;rw[nn_some',Ze (Zl hlt),hsl.get1 hget];simp only[D_int,ZeY];refine Ok.call (ZP h.q116 (n+2) _ 2 (ZbO _) t (by omega) (by omega)) ?_;rintro _ ⟨s1,rfl,hp1⟩;refine⟨_,s1,rfl,?_⟩;simp only[J_s,D_nil];rw[ZD (by rw[Zbb,Zq,List.length_take];omega),Zd (by omega) (by omega)];exact hrec (l.length-(k+1)) _ _ (by omega) ⟨k+1,by rw[hlay];rfl,by omega,Nat.le_refl _,hps.trans hp1,by rw[hok,hb,decide_eq_false hkn];rfl⟩
 ·rw[decide_eq_false (show ¬(i:Int)<(l.length:Int) by omega),cond_false]
  have:i=l.length:=by omega
  subst this;rw[List.take_length];rw[hall,cond_true]at hR;have hsl:=Zbb l;refine Ok.call (ZbT h.q99 (n+2) 6 l.length (lays2 l) (by omega) s (by omega)) ?_;rintro _ ⟨s1,rfl,hp1⟩;refine⟨_,s1,rfl,?_⟩;simp only[J_s,D_nil,Zb];rw[←hR];exact .mk ⟨s1,rfl,hps.trans hp1⟩
end Go.Gv.F
namespace Go.Gv.F
open Go.Gv
variable {β:Type}
theorem Zr2 {Bd:Za} (h:Zig Bd) (n a e:Nat) (ha:a<100000) (he:0<e) (he2:e<1000) (st:St) (hn:a+10≤n):
  Ok (fun o=>o=(.val [.int .i64 (((a+e-1)/e:Nat):Int)],st)) (run Bd n 220 [.int .i64 (a:Int),.int .i64 (e:Int)] st):=by
 obtain⟨n,rfl⟩: ∃k,n=k+2:=⟨n-2,by omega⟩;rw[Zf,h.eq];unfold Zfy;simp only[J_i,D_nil,Zc];have hm:(a+e-1)/e≤a:=by
  rcases Nat.eq_zero_or_pos a with h0|h0
  ·subst h0
   rw[Nat.zero_add,Nat.div_eq_of_lt (by omega)];exact Nat.le_refl _
  ·refine Nat.div_le_of_le_mul ?_
   have:1*(e-1)≤a*(e-1):=Nat.mul_le_mul_right _ h0;have h2:e*a=a+a*(e-1):=by
    obtain⟨f,rfl⟩: ∃f,e=f+1:=⟨e-1,by omega⟩;rw[Nat.add_sub_cancel,Nat.add_mul,Nat.one_mul,Nat.mul_comm f];omega
   omega
 have hiff: ∀k,k*e<a↔k<(a+e-1)/e:=fun k=>by
  rw[Nat.lt_iff_add_one_le,Nat.lt_iff_add_one_le,Nat.le_div_iff_mul_le he,Nat.add_mul,Nat.one_mul];omega
 generalize (a+e-1)/e=m at hm hiff;refine Zk _ (fun q y s=>∃k:Nat,y=[.int .i64 (k:Int)]∧k≤m∧m-k≤q∧s=st) ?_ m (n+1) _ _ ⟨0,rfl,Nat.zero_le _,by omega,rfl⟩ (by omega);rintro q _ s ⟨k,rfl,hk,hq,rfl⟩ rec hrec;simp only[J_i,D_nil];have hke:k*e≤100000*1000:=Nat.mul_le_mul (by omega) (by omega);have hw:wr64 ((k:Int)*(e:Int))=((k*e:Nat):Int):=by
  rw[show((k:Int)*(e:Int))=((k*e:Nat):Int) by push_cast;rfl];exact Zd (by omega) (by omega)
 rw[hw];have:=hiff k;by_cases hlt:k*e<a
 ·rw[decide_eq_true (show((k*e:Nat):Int)<(a:Int) by omega),cond_true,Zd (by omega) (by omega)]
  exact hrec (m-(k+1)) _ _ (by have:=this.1 hlt;omega) ⟨k+1,rfl,this.1 hlt,Nat.le_refl _,rfl⟩
 ·rw[decide_eq_false (show ¬((k*e:Nat):Int)<(a:Int) by omega),cond_false]
  have hk2:k=m:=by
   have: ¬k<m:=fun h=>hlt (this.2 h)
   omega
  rw[hk2];simp only[Zb];exact .mk rfl
theorem ZiK {Bd:Za} (h:ZdO Bd) (n a:Nat) (s g:Int) (ha:a<100000) (st:St) (hn:a+20≤n):
  Ok (fun o=>o=(.val [.int .i64 (((a+383)/384:Nat):Int)],st)) (run Bd n 196 [.agg [.int .i64 (a:Int),.int .i64 s,.int .i64 g]] st):=by
 obtain⟨n,rfl⟩: ∃k,n=k+2:=⟨n-2,by omega⟩;rw[Zf,h.eq];unfold ZdW;rw[J_a];simp only[J_i,D_nil];refine Ok.call (Zr2 h.q103 (n+1) a 384 ha (by decide) (by decide) st (by omega)) ?_;rintro _ rfl;refine⟨_,st,rfl,?_⟩;simp only[J_i,D_nil,Zb];exact .mk rfl
theorem or8 {x y:Nat} (hx:x<256) (hy:y<256):bits .or .u8 (x:Int) (y:Int)=((x|||y:Nat):Int):=by
 show IntKind.wrap .u8 ((BitVec.ofInt 8 (x:Int)|||BitVec.ofInt 8 (y:Int)).toNat:Int)=_;have e: ∀z:Nat,z<256→(BitVec.ofInt 8 (z:Int)).toNat=z:=fun z hz=>by
  rw[BitVec.toNat_ofInt];omega
 rw[BitVec.toNat_or,e x hx,e y hy];have h:x|||y<256:=Nat.or_lt_two_pow (n:=8) hx hy;show((x|||y:Nat):Int)%256=_;omega
def Zg1 (b:List UInt8) (k:Nat):List UInt8:=b.set (k/8) (UInt8.ofNat ((b.getD (k/8) 0).toNat|||2^(k%8)))
theorem Zk1 (b:List UInt8) (k:Nat):(Zg1 b k).length=b.length:=by unfold Zg1;rw[List.length_set]
def ZhP (p:Nat) (x:Int):Bool:=decide (x≥((384*p:Nat):Int))&&decide (x<((384*p+384:Nat):Int))
def ZiC (p:Nat):List UInt8→List Int→List UInt8
 |b,[]=>b
 |b,x::r=>ZiC p (bif ZhP p x then Zg1 b (x-((384*p:Nat):Int)).toNat else b) r
def madeF (p:Nat) (l:List Int):ZQ:=⟨p,ZiC p (List.replicate 48 0) l⟩
theorem Zo6 (p:Nat): ∀(l:List Int) (b:List UInt8),(ZiC p b l).length=b.length
 |[],_=>rfl
 |x::r,b=>by
  unfold ZiC;rw[Zo6 p r];cases ZhP p x with
  |true=>exact Zk1 b _
  |false=>rfl
theorem Zx3 (b:List UInt8) (k:Nat) (c:UInt8):octs (b.set k c)=(octs b).set k (.int .u8 c.toNat):=by
 unfold octs;rw[List.map_set]
theorem Zsr {Bd:Za} (h:Ziz Bd) (n p:Nat) (l:List Int) (a:Option (Nat×Nat)) (z:Nat) (st:St) (hz:z=1∨a=none) (hs:Sl st a (ints l)) (hp:p<1000) (hl:l.length<100000) (hx: ∀x∈l,0≤x∧x<1000000) (hn:l.length+10≤n):
  Ok (fun o=>o=(.val [.agg (Zx (madeF p l))],st)) (run Bd n 192 [.int .i64 (p:Int),.slice z a l.length] st):=by
 obtain⟨n,rfl⟩: ∃k,n=k+2:=⟨n-2,by omega⟩;rw[Zf,h.eq];unfold ZfT;simp only[J_i,Zm 1 z a _ hz,D_nil];rw[Zc];have hw1:wr64 (384*(p:Int))=((384*p:Nat):Int):=by
  rw[show(384*(p:Int))=((384*p:Nat):Int) by omega];exact Zd (by omega) (by omega)
 have hw2:wr64 (((384*p:Nat):Int)+384)=((384*p+384:Nat):Int):=by
  rw[Zd (by omega) (by omega)];omega
 simp only[hw1,hw2];obtain⟨G,hG⟩: ∃G,ZiC p (List.replicate 48 0) l=G:=⟨_,rfl⟩;have hR:madeF p l=⟨p,G⟩:=by unfold madeF;rw[hG]
 rw[hR];refine Zk _ (fun q y s=>∃(i:Nat) (b:List UInt8),y=[.agg (.int .i64 (p:Int)::octs b),.int .i64 (i:Int)]∧i≤l.length∧l.length-i≤q∧s=st∧b.length=48∧ZiC p b (l.drop i)=G) ?_ l.length (n+1) _ _ ⟨0,List.replicate 48 0,rfl,Nat.zero_le _,by omega,rfl,List.length_replicate,hG⟩ (by omega);rintro q _ s ⟨i,b,rfl,hi,hq,rfl,hb,hgo⟩ rec hrec;have hol:(octs b).length=48:=by rw[Zt,hb]
 rw[J_a];simp only[J_i,D_nil];rw[D_len hol];by_cases hlt:i<l.length
 ·obtain⟨i1,o1,rfl⟩:=hs.some_of (by simp[ints];omega)
  have hget:(ints l)[i]? =some (.int .i64 l[i]):=Zw hlt;have hdr:l.drop i=l[i]::l.drop (i+1):=List.drop_eq_getElem_cons hlt;have hmem:l[i]∈l:=List.getElem_mem hlt;rw[hdr]at hgo;obtain⟨x,hxe⟩: ∃x,l[i]=x:=⟨_,rfl⟩;rw[hxe]at hget hgo hmem;obtain⟨hx0,hx1⟩:=hx x hmem;unfold ZiC at hgo;rw[decide_eq_true (show(i:Int)<(l.length:Int) by omega),cond_true,nn_some',Ze (Zl hlt)];simp only[Int.toNat_natCast];rw[hs.get1 hget];simp only[D_int];have hw3:wr64 ((i:Int)+1)=((i+1:Nat):Int):=Zd (by omega) (by omega);rw[hw3];refine Ok.join fun jk2 hjk2=>?_
  have hA: ∀c,ZhP p x=c→Ok (fun o=>o=(.val [.agg (Zx ⟨p,G⟩)],s)) (jk2 [.bool c] s):=by
   intro c hc;rw[hjk2];simp only[J_b,D_nil];rw[hc]at hgo;rw[Zc];cases c with
   |false=>
    rw[cond_false]at hgo;rw[cond_false];show Ok _ (J.a [.agg (.int .i64 (p:Int)::octs b)] _ s);rw[J_a];simp only[J_i];rw[D_len hol];simp only[D_nil];exact hrec (l.length-(i+1)) _ _ (by omega) ⟨i+1,b,rfl,by omega,Nat.le_refl _,rfl,hb,hgo⟩
   |true=>
    rw[cond_true]at hgo;unfold ZhP at hc;rw[Bool.and_eq_true,decide_eq_true_iff,decide_eq_true_iff]at hc;obtain⟨k,hk⟩: ∃k:Nat,x-((384*p:Nat):Int)=(k:Int):=⟨(x-((384*p:Nat):Int)).toNat,by omega⟩;rw[hk,Int.toNat_natCast]at hgo;have hk2:k<384:=by omega
    have hwk:wr64 (x-((384*p:Nat):Int))=(k:Int):=by rw[hk];exact Zd (by omega) (by omega)
    have hdv:wr64 ((k:Int).tdiv 8)=((k/8:Nat):Int):=by
     rw[show(k:Int).tdiv 8=((k/8:Nat):Int)from rfl];exact Zd (by omega) (by omega)
    have hmd:(k:Int).tmod 8=((k%8:Nat):Int):=rfl;rw[cond_true,nn_some',Ze (Zl hlt),hs.get1 hget];simp only[D_int,hwk,hdv,hmd,Int.toNat_natCast];have hk8:k/8<48:=by omega
    have hbk:b[k/8]? =some (b.getD (k/8) 0):=by
     rw[List.getD_eq_getElem?_getD,List.getElem?_eq_getElem (by omega)];rfl
    have hc8:=(b.getD (k/8) 0).toNat_lt;rw[Ze (show inB ((k/8:Nat):Int) 48=true from Zl hk8),D_nth (i:=k/8*1) (by rw[Nat.mul_one];exact ZnW hbk)];simp only[D_int];rw[Ze (decide_eq_true (by omega)),Ze (show inB ((k/8:Nat):Int) 48=true from Zl hk8),ZD (by omega)];have h28:2^(k%8)≤2^7:=Nat.pow_le_pow_right (by decide) (by omega);have h128:2^7=128:=by decide
    have hsh:IntKind.wrap .u8 (1*2^(min (k%8) 8))=((2^(k%8):Nat):Int):=by
     rw[Nat.min_eq_left (by omega),Int.one_mul,show((2:Int)^(k%8))=((2^(k%8):Nat):Int) by push_cast;rfl];generalize 2^(k%8)=w at h28;show((w:Nat):Int)%256=_;omega
    rw[hsh,or8 hc8 (by omega)];have hor:(b.getD (k/8) 0).toNat|||2^(k%8)<256:=Nat.or_lt_two_pow (n:=8) hc8 (by omega);have hset:spl (octs b) (k/8*1) [.int .u8 (((b.getD (k/8) 0).toNat|||2^(k%8):Nat):Int)]=octs (Zg1 b k):=by
     rw[Nat.mul_one,Ze6 _ _ _ (by omega)];unfold Zg1;rw[Zx3];congr 2;show _=(((((b.getD (k/8) 0).toNat|||2^(k%8))%256:Nat)):Int);omega
    rw[hset];show Ok _ (J.a [.agg (.int .i64 (p:Int)::octs (Zg1 b k))] _ s);rw[J_a];simp only[J_i];have hol2:(octs (Zg1 b k)).length=48:=by rw[Zt,Zk1,hb]
    rw[D_len hol2];simp only[D_nil];exact hrec (l.length-(i+1)) _ _ (by omega) ⟨i+1,Zg1 b k,rfl,by omega,Nat.le_refl _,rfl,by rw[Zk1,hb],hgo⟩
  cases hge:decide (x≥((384*p:Nat):Int))with
  |false=>
   rw[cond_false];exact hA false (by unfold ZhP;rw[hge,Bool.false_and])
  |true=>
   rw[cond_true,nn_some',Ze (Zl hlt),hs.get1 hget];simp only[D_int];exact hA _ (by unfold ZhP;rw[hge,Bool.true_and])
 ·rw[decide_eq_false (show ¬(i:Int)<(l.length:Int) by omega),cond_false]
  rw[List.drop_eq_nil_of_le (by omega)]at hgo;rw[J_a];simp only[J_i];rw[D_len hol];simp only[D_nil];rw[D_len (by simp[hol]),Zb];refine .mk ?_;rw[←hgo];rfl
def ZnF (x:ZQ):List UInt8:=sealF 4 x.no x.oct
theorem ZsW {Bd:Za} (h:Zjk Bd) (n:Nat) (x:ZQ) (hl:x.oct.length=48) (st:St) (hn:400≤n):
  Ok (fun o=>∃s',o=(.val [.str (ZnF x)],s')∧Pre st s') (run Bd n 193 [.agg (Zx x)] st):=by
 obtain⟨n,rfl⟩: ∃k,n=k+2:=⟨n-2,by omega⟩;rw[Zf,h.eq];unfold ZgI Zx;have hol:(octs x.oct).length=48:=by rw[Zt,hl]
 rw[J_a];simp only[J_i];rw[D_len hol];simp only[D_nil];rw[D_len (n:=49) (by simp[hol]),Zu];rw[Zn (i:=st.length) (f:=false) (all:= .int .i64 x.no::octs x.oct) (d:= .int .i64 x.no) (by simp) rfl];simp only[D_int];have hall:(DV.int .i64 x.no::octs x.oct).length=49:=by simp[hol]
 rw[Zif (by rw[hall];omega),Zif (by rw[hall];omega)];have hdt:(List.drop 1 (DV.int .i64 x.no::octs x.oct)).take 48=ZF x.oct:=by
  rw[List.drop_succ_cons,List.drop_zero,List.take_of_length_le (by omega),ZeZ]
 rw[hdt,D_oct];refine Ok.call (ZbT h.q99 (n+1) 4 x.no x.oct (by omega) _ (by omega)) ?_;rintro _ ⟨s1,rfl,hp1⟩;refine⟨_,s1,rfl,?_⟩;simp only[J_s,D_nil,Zb];exact .mk ⟨s1,rfl,(Pre.new _ _).trans hp1⟩
end Go.Gv.F
namespace Go.Gv.F
open Go.Gv
variable {β:Type}
structure SupOk (x:SupV):Prop where
 s0:1≤x.seq
 s1:x.seq≤4611686018427387904
 g:geomF x.blocks x.slots x.g=true
 u0:0≤x.used
 u1:x.used≤x.slots
 f0:0≤x.free
 f1:x.free≤x.used
 t0:x.used=0→x.fan=0
 t1:0<x.used→okAt x x.fan=true
 d:x.dir≠0→okAt x x.dir=true
 len:((x.charts.length:Nat):Int)=Zd3 x.blocks x.slots x.g
 ch: ∀i,i<x.charts.length→okAt x (x.charts.getD i 0)=true∧x.charts.getD i 0∉x.charts.take i
theorem Zuu (x:SupV):Zbh x=true↔ ∀i,i<x.charts.length→okAt x (x.charts.getD i 0)=true∧x.charts.getD i 0∉x.charts.take i:=by
 unfold Zbh;rw[List.all_eq_true];constructor
 ·intro h i hi
  have:=h i (List.mem_range.2 hi);rw[Bool.and_eq_true,Bool.not_eq_true',decide_eq_false_iff_not]at this;exact this
 ·intro h i hi
  rw[Bool.and_eq_true,Bool.not_eq_true',decide_eq_false_iff_not];exact h i (List.mem_range.1 hi)
theorem Zfg (x:SupV):ZI x=true↔SupOk x:=by
 unfold ZI;rw[Bool.and_eq_true,Bool.and_eq_true,Zuu,Bool.not_eq_true',Bool.not_eq_true'];simp only[Bool.or_eq_false_iff,decide_eq_false_iff_not,Bool.not_eq_false'];constructor
 ·rintro⟨⟨a1,a2,a3,a4,a5,a6,a7⟩,⟨b1,b2,b3,b4⟩,c⟩
  refine⟨by omega,by omega,a3,by omega,by omega,by omega,by omega,fun h=>?_,fun h=>?_,fun h=>?_,?_,c⟩
  ·rw[h]at b1
   simpa using b1
  ·rw[decide_eq_true h,cond_true]at b2
   simpa using b2
  ·rw[show(x.dir==0)=false from beq_eq_false_iff_ne.2 h,Bool.not_false,cond_true]at b3
   simpa using b3
  ·simpa using b4
 ·intro h
  refine⟨⟨by have:=h.s0;omega,by have:=h.s1;omega,h.g,by have:=h.u0;omega,by have:=h.u1;omega,by have:=h.f0;omega,by have:=h.f1;omega⟩,⟨?_,?_,?_,?_⟩,h.ch⟩
  ·by_cases hu:x.used=0
   ·rw[h.t0 hu];cases(x.used==0)<;>rfl
   ·rw[show(x.used==0)=false from beq_eq_false_iff_ne.2 hu];rfl
  ·by_cases hu:0<x.used
   ·rw[h.t1 hu];cases decide (x.used>0)<;>rfl
   ·rw[decide_eq_false hu];rfl
  ·by_cases hu:x.dir=0
   ·rw[hu];rfl
   ·rw[h.d hu];cases(!(x.dir==0))<;>rfl
  ·rw[h.len];exact beq_self_eq_true _
theorem Zh9 (x:SupV) (k:Int):okAt x k=true↔2≤k∧k<x.blocks:=by
 unfold okAt;by_cases h:k≥2
 ·rw[decide_eq_true h,cond_true,decide_eq_true_iff];omega
 ·rw[decide_eq_false h,cond_false];simp;omega
theorem Zwo {b s g:Int} (h:geomF b s g=true):Zd3 b s g=(((b.toNat+383)/384:Nat):Int):=by
 obtain⟨g1,g2,_⟩:=Zb4 h;unfold Zd3 upF;rw[h,cond_true];obtain⟨m,rfl⟩: ∃m:Nat,b=m:=⟨b.toNat,by omega⟩;rw[Int.toNat_natCast,Zd (x:=(m:Int)+384) (by omega) (by omega),Zd (x:=(m:Int)+384-1) (by omega) (by omega),show((m:Int)+384-1)=((m+383:Nat):Int) by omega,show(((m+383:Nat):Int).tdiv 384)=(((m+383)/384:Nat):Int)from rfl];exact Zd (by omega) (by omega)
theorem ZyA {Q:Out (List DV)×St→Prop} {Kn:List DV→M (List DV)} (n:Nat) (b:Int) (l:List Int) (p:Option (Nat×Nat)) (s:St) (hs:Sl s p (ints l)) (hl:l.length<5000) (hn:l.length<n)
  (hno: ∀k∈l,¬(2≤k∧k<b)→Ok Q ((M.ret [.bool false]:M (List DV)) s)) (hyes:(∀k∈l,2≤k∧k<b)→Ok Q (Kn [] s)):
  Ok Q (M.loop (fun rec1 st=>
       J.i .i64 st fun i st=>
      D.nil st<|
      bif decide (i<(l.length:Int))then
       M.nn p fun i1 o=>
      M.chk (inB i l.length)<|
      M.load1 i1 (i.toNat*1+o) fun d=>
      D.int .i64 d fun x=>
      M.join (fun st=>J.b st fun b7 st=>D.nil st<|
       bif b7 then
       M.ret [.bool false]
      else
       rec1 [.int .i64 (wr64 (i+1))]) fun jk11=>
      bif decide (x<2)then
       jk11 [.bool true]
      else
       M.nn p fun i2 o1=>
      M.chk (inB i l.length)<|
      M.load1 i2 (i.toNat*1+o1) fun d1=>
      D.int .i64 d1 fun x1=>
      jk11 [.bool (decide (x1≥b))]
      else
       Kn []) n [.int .i64 0] s):=by
 refine Zk _ (fun q y t=>∃i:Nat,y=[.int .i64 (i:Int)]∧i≤l.length∧l.length-i≤q∧t=s∧∀k∈l.take i,2≤k∧k<b) ?_ l.length n _ _ ⟨0,rfl,Nat.zero_le _,by omega,rfl,fun k hk=>by cases hk⟩ hn;rintro q _ t ⟨i,rfl,hi,hq,rfl,hall⟩ rec hrec;simp only[J_i,D_nil];by_cases hlt:i<l.length
 ·obtain⟨i1,o1,rfl⟩:=hs.some_of (by simp[ints];omega)
  have hget:(ints l)[i]? =some (.int .i64 l[i]):=Zw hlt;have hts:l.take (i+1)=l.take i++[l[i]]:=List.take_succ_eq_append_getElem hlt;have hmem:l[i]∈l:=List.getElem_mem hlt;rw[decide_eq_true (show(i:Int)<(l.length:Int) by omega),cond_true,nn_some',Ze (Zl hlt)];simp only[Int.toNat_natCast];rw[hs.get1 hget];simp only[D_int];generalize l[i]=x at hget hts hmem;rw[Zc];by_cases h2:x<2
  ·rw[decide_eq_true h2,cond_true]
   simp only[J_b,D_nil,cond_true];exact hno x hmem (by omega)
  ·rw[decide_eq_false h2,cond_false,nn_some',Ze (Zl hlt),hs.get1 hget]
   simp only[D_int,J_b,D_nil];by_cases h3:x≥b
   ·rw[decide_eq_true h3,cond_true]
    exact hno x hmem (by omega)
   ·rw[decide_eq_false h3,cond_false,Zd (by omega) (by omega)]
    refine hrec (l.length-(i+1)) _ _ (by omega) ⟨i+1,rfl,by omega,Nat.le_refl _,rfl,fun k hk=>?_⟩;rw[hts]at hk;rcases List.mem_append.1 hk with hk|hk
    ·exact hall k hk
    ·rw[List.mem_singleton.1 hk];omega
 ·rw[decide_eq_false (show ¬(i:Int)<(l.length:Int) by omega),cond_false]
  rw[List.take_of_length_le (by omega)]at hall;exact hyes hall
theorem ZpO {Bd:Za} (h:Zhh Bd) (n:Nat) (x:SupV) (p:Option (Nat×Nat)) (st:St) (hs:Sl st p (ints x.charts)) (hl:x.charts.length<1000) (hn:5000≤n):
  Ok (fun o=>∃s',o=(.val [.bool (ZI x)],s')∧Pre st s') (run Bd n 195 [.agg (supC x p)] st):=by
 obtain⟨n,rfl⟩: ∃k,n=k+2:=⟨n-2,by omega⟩;rw[Zf,h.eq];unfold Zem supC;rw[J_a];simp only[J_i,J_l,D_nil];have hF: ∀s,Pre st s→¬SupOk x→Ok (fun o=>∃s',o=(.val [.bool (ZI x)],s')∧Pre st s') ((M.ret [.bool false]:M (List DV)) s):=fun s hp e=>by
  have:ZI x=false:=by
   cases hs:ZI x with
   |false=>rfl
   |true=>exact absurd ((Zfg x).1 hs) e
  rw[this,Zb];exact .mk ⟨s,rfl,hp⟩
 rw[Zc];by_cases h1:x.seq<1
 ·rw[decide_eq_true h1,cond_true]
  simp only[J_b,D_nil];rw[Zc,cond_true];simp only[J_b,D_nil];rw[cond_true];exact hF st (.refl st) fun k=>by have:=k.s0;omega
 rw[decide_eq_false h1,cond_false];simp only[J_b,D_nil];rw[Zc];by_cases h2:x.seq>4611686018427387904
 ·rw[decide_eq_true h2,cond_true]
  simp only[J_b,D_nil];rw[cond_true];exact hF st (.refl st) fun k=>by have:=k.s1;omega
 rw[decide_eq_false h2,cond_false,Zi (Zj8 h.q79 n x.blocks x.slots x.g st)];simp only[J_b,D_nil];cases hg:geomF x.blocks x.slots x.g with
 |false=>
  rw[Bool.not_false,cond_true];exact hF st (.refl st) fun k=>by have:=k.g;rw[hg]at this;cases this
 |true=>
 obtain⟨g1,g2,g3,g4,g5,g6⟩:=Zb4 hg;rw[Bool.not_true,cond_false,Zc];by_cases h3:x.used<0
 ·rw[decide_eq_true h3,cond_true]
  simp only[J_b,D_nil];rw[Zc,cond_true];simp only[J_b,D_nil];rw[Zc,cond_true];simp only[J_b,D_nil];rw[Zc,cond_true];simp only[J_b,D_nil];rw[cond_true];exact hF st (.refl st) fun k=>by have:=k.u0;omega
 rw[decide_eq_false h3,cond_false];by_cases h4:x.used>x.slots
 ·rw[decide_eq_true h4]
  simp only[J_b,D_nil];rw[Zc,cond_true];simp only[J_b,D_nil];rw[Zc,cond_true];simp only[J_b,D_nil];rw[Zc,cond_true];simp only[J_b,D_nil];rw[cond_true];exact hF st (.refl st) fun k=>by have:=k.u1;omega
 rw[decide_eq_false h4];simp only[J_b,D_nil];rw[Zc,cond_false];by_cases h5:x.free<0
 ·rw[decide_eq_true h5]
  simp only[J_b,D_nil];rw[Zc,cond_true];simp only[J_b,D_nil];rw[Zc,cond_true];simp only[J_b,D_nil];rw[cond_true];exact hF st (.refl st) fun k=>by have:=k.f0;omega
 rw[decide_eq_false h5];simp only[J_b,D_nil];rw[Zc,cond_false];by_cases h6:x.free>x.used
 ·rw[decide_eq_true h6]
  simp only[J_b,D_nil];rw[Zc,cond_true];simp only[J_b,D_nil];rw[cond_true];exact hF st (.refl st) fun k=>by have:=k.f1;omega
 rw[decide_eq_false h6];simp only[J_b,D_nil];rw[Zc,cond_false];obtain⟨m,hm⟩: ∃m:Nat,x.blocks=m:=⟨x.blocks.toNat,by omega⟩;have hcf:=Zwo hg;rw[hm,Int.toNat_natCast]at hcf;rw[hm];refine Ok.callN (ZiK h.q56 (n+1) m x.slots x.g (by omega) st (by omega)) ?_;rintro _ rfl;refine⟨_,st,rfl,?_⟩;simp only[J_i,J_b,D_nil];by_cases h7:((x.charts.length:Nat):Int)=(((m+383)/384:Nat):Int);rotate_left
 ·rw[show(((x.charts.length:Nat):Int)==(((m+383)/384:Nat):Int))=false from beq_eq_false_iff_ne.2 h7,Bool.not_false,cond_true]
  exact hF st (.refl st) fun k=>by have:=k.len;rw[hm,hcf]at this;exact h7 this
 rw[show(((x.charts.length:Nat):Int)==(((m+383)/384:Nat):Int))=true by rw[h7];exact beq_self_eq_true _,Bool.not_true,cond_false];have hok: ∀k,okAt x k=true↔2≤k∧k<(m:Int):=fun k=>by rw[Zh9,hm]
 refine Ok.join fun jk7 hj7=>?_
 have A7: ∀(q:Option (Nat×Nat)) (z:Nat) (l:List Int) (s:St),Own st s q (ints l)→(z=1∨q=none)→l.length≤1→(x.used=0→x.fan=0)→(l=if x.used=0 then[]else[x.fan])→Ok (fun o=>∃s',o=(.val [.bool (ZI x)],s')∧Pre st s') (jk7 [.slice z q l.length] s):=by
  intro q z l s ho hz hl1 ht0 hle;rw[hj7];simp only[Zm 1 z q _ hz,D_nil];refine Ok.join fun jk8 hj8=>?_
  have A8: ∀(q:Option (Nat×Nat)) (l:List Int) (s:St),Own st s q (ints l)→l.length≤2→(l=(if x.used=0 then[]else[x.fan])++(if x.dir=0 then[]else[x.dir]))→Ok (fun o=>∃s',o=(.val [.bool (ZI x)],s')∧Pre st s') (jk8 [.slice 1 q l.length] s):=by
   intro q l s ho hl2 hle;rw[hj8];simp only[J_l,D_nil];refine Ok.join fun jk9 hj9=>?_
   have hdup: ∀i k,i<x.charts.length→k<i→x.charts[k]? =x.charts[i]? →¬SupOk x:=fun i k hi hk e hS=>by
    have:=(hS.ch i hi).2;rw[List.getD_eq_getElem?_getD,List.getElem?_eq_getElem hi]at this;refine this (List.mem_take_iff_getElem.2 ⟨k,by omega,?_⟩);rw[List.getElem?_eq_getElem (by omega),List.getElem?_eq_getElem hi]at e;exact Option.some.inj e
   refine Zk _ (fun r y t=>∃(i z:Nat) (q:Option (Nat×Nat)),y=[.slice z q (l++x.charts.take i).length,.int .i64 (i:Int)]∧(z=1∨q=none)∧i≤x.charts.length∧x.charts.length-i≤r∧Own st t q (ints (l++x.charts.take i))∧∀j,j<i→x.charts.getD j 0∉x.charts.take j) ?_ x.charts.length (n+1) _ _ ⟨0,1,q,by simp,.inl rfl,Nat.zero_le _,by omega,by simpa using ho,fun j hj=>absurd hj (Nat.not_lt_zero j)⟩ (by omega);rintro r _ t ⟨i,z,q,rfl,hz,hi,hr,ho,hdn⟩ rec hrec;simp only[J_i,Zm 1 z q _ hz,D_nil];have hst:=hs.mono ho.1;by_cases hlt:i<x.charts.length
   ·obtain⟨i1,o1,rfl⟩:=hs.some_of (by simp[ints];omega)
    have hget:(ints x.charts)[i]? =some (.int .i64 x.charts[i]):=Zw hlt;have hts:x.charts.take (i+1)=x.charts.take i++[x.charts[i]]:=List.take_succ_eq_append_getElem hlt;rw[decide_eq_true (show(i:Int)<(x.charts.length:Int) by omega),cond_true,Zc,nn_some',Ze (Zl hlt)];simp only[Int.toNat_natCast];rw[hst.get1 hget];simp only[D_int];have hll:(l++x.charts.take i).length≤2000:=by rw[List.length_append,List.length_take];omega
    obtain⟨q2,t2,ho2,hkp,he⟩:=ho.push2 (β:=List DV) (sz:=1) (n:=(l++x.charts.take i).length) (lim:=8796093022208) [.int .i64 x.charts[i]] (Nat.succ_pos 0) (by simp[ints]) rfl (by omega);refine Eq.mpr (congrArg (Ok _) (he _)) ?_;rw[Zc];have hst2:=hs.mono ho2.1;refine Zk _ (fun q y u=>∃k:Nat,y=[.int .i64 (k:Int)]∧k≤i∧i-k≤q∧u=t2∧x.charts[i]∉x.charts.take k) ?_ i (n+1) _ _ ⟨0,rfl,Nat.zero_le _,by omega,rfl,by simp⟩ (by omega);rintro r2 _ u ⟨k,rfl,hk,hr2,rfl,hkn⟩ rec2 hrec2;simp only[J_i,D_nil];by_cases hlk:k<i
    ·have hk2:k<x.charts.length:=by omega
     have hgk:(ints x.charts)[k]? =some (.int .i64 x.charts[k]):=Zw hk2;rw[decide_eq_true (show(k:Int)<(i:Int) by omega),cond_true,nn_some',Ze (Zl hk2)];simp only[Int.toNat_natCast];rw[hst2.get1 hgk];simp only[D_int];rw[nn_some',Ze (Zl hlt),hst2.get1 hget];simp only[D_int];by_cases he:x.charts[k]=x.charts[i]
     ·rw[show(x.charts[k]==x.charts[i])=true by rw[he];exact beq_self_eq_true _,cond_true]
      exact hF u ho2.1 (hdup i k hlt hlk (by rw[List.getElem?_eq_getElem hk2,List.getElem?_eq_getElem hlt,he]))
     ·rw[show(x.charts[k]==x.charts[i])=false from beq_eq_false_iff_ne.2 he,cond_false,Zd (by omega) (by omega)]
      refine hrec2 (i-(k+1)) _ _ (by omega) ⟨k+1,rfl,by omega,Nat.le_refl _,rfl,?_⟩;rw[List.take_succ_eq_append_getElem hk2];intro hmm;rcases List.mem_append.1 hmm with hmm|hmm
      ·exact hkn hmm
      ·exact he (List.mem_singleton.1 hmm).symm
    ·rw[decide_eq_false (show ¬(k:Int)<(i:Int) by omega),cond_false]
     have:k=i:=by omega
     subst this;simp only[J_l,D_nil];rw[Zd (by omega) (by omega)];refine hrec (x.charts.length-(k+1)) _ _ (by omega) ⟨k+1,1,q2,?_,.inl rfl,by omega,Nat.le_refl _,?_,fun j hj=>?_⟩
     ·rw[hts,←List.append_assoc,List.length_append (as:=l++x.charts.take k)];rfl
     ·rw[hts,←List.append_assoc]
      unfold ints at ho2⊢;rw[List.map_append (l₁:=l++x.charts.take k)];exact ho2
     ·by_cases hjk:j=k
      ·subst hjk
       rw[List.getD_eq_getElem?_getD,List.getElem?_eq_getElem hlt];exact hkn
      ·exact hdn j (by omega)
   ·rw[decide_eq_false (show ¬(i:Int)<(x.charts.length:Int) by omega),cond_false]
    have:i=x.charts.length:=by omega
    subst this;rw[List.take_length]at ho⊢;rw[hj9];simp only[J_l,D_nil];refine Ok.join fun jk10 hj10=>?_
    refine ZyA (Kn:=jk10) (n+1) m (l++x.charts) q t ho.sl (by rw[List.length_append];omega) (by rw[List.length_append];omega) ?_ ?_
    ·intro k hk hbad
     refine hF t ho.1 fun hS=>hbad ?_
     rw[←hok];rcases List.mem_append.1 hk with hk|hk
     ·rw[hle]at hk
      rcases List.mem_append.1 hk with hk|hk
      ·by_cases hu:x.used=0
       ·rw[if_pos hu]at hk;cases hk
       ·rw[if_neg hu]at hk;rw[List.mem_singleton.1 hk];exact hS.t1 (by omega)
      ·by_cases hu:x.dir=0
       ·rw[if_pos hu]at hk;cases hk
       ·rw[if_neg hu]at hk;rw[List.mem_singleton.1 hk];exact hS.d hu
     ·obtain⟨i,hi,rfl⟩:=List.mem_iff_getElem.1 hk
      have:=(hS.ch i hi).1;rw[List.getD_eq_getElem?_getD,List.getElem?_eq_getElem hi]at this;exact this
    ·intro hall
     have:ZI x=true:=by
      refine(Zfg x).2 ⟨by omega,by omega,hg,by omega,by omega,by omega,by omega,ht0,fun hu=>?_,fun hu=>?_,by rw[hm,hcf];exact h7,fun i hi=>⟨?_,hdn i hi⟩⟩
      ·rw[hok]
       exact hall _ (List.mem_append.2 (.inl (by rw[hle,if_neg (by omega)];simp)))
      ·rw[hok]
       exact hall _ (List.mem_append.2 (.inl (by rw[hle,if_neg hu];simp)))
      ·rw[hok,List.getD_eq_getElem?_getD,List.getElem?_eq_getElem hi]
       exact hall _ (List.mem_append.2 (.inr (List.getElem_mem hi)))
     rw[hj10];simp only[D_nil];rw[this,Zb];exact .mk ⟨t,rfl,ho.1⟩
  by_cases hd0:x.dir=0
  ·rw[show(!(x.dir==0))=false by rw[hd0];rfl,cond_false]
   exact A8 q l s ho (by omega) (by rw[if_pos hd0,List.append_nil];exact hle)
  ·rw[show(!(x.dir==0))=true by rw[Bool.not_eq_true'];exact beq_eq_false_iff_ne.2 hd0,cond_true]
   obtain⟨q2,t2,ho2,hkp,he⟩:=ho.push2 (β:=List DV) (sz:=1) (n:=l.length) (lim:=8796093022208) [.int .i64 x.dir] (Nat.succ_pos 0) (by simp[ints]) rfl (by omega);refine Eq.mpr (congrArg (Ok _) (he _)) ?_;have:=A8 q2 (l++[x.dir]) t2 (by unfold ints at ho2⊢;rw[List.map_append];exact ho2) (by simp;omega) (by rw[if_neg hd0,←hle]);rw[List.length_append]at this;exact this
 by_cases hu0:x.used=0
 ·rw[show(x.used==0)=true by rw[hu0];rfl,cond_true]
  by_cases hfn:x.fan=0
  ·rw[show(!(x.fan==0))=false by rw[hfn];rfl,cond_false]
   exact A7 none 0 [] st (Own.nil (.refl st)) (.inr rfl) (by simp) (fun _=>hfn) (by rw[if_pos hu0])
  ·rw[show(!(x.fan==0))=true by rw[Bool.not_eq_true'];exact beq_eq_false_iff_ne.2 hfn,cond_true]
   exact hF st (.refl st) fun k=>hfn (k.t0 hu0)
 ·rw[show(x.used==0)=false from beq_eq_false_iff_ne.2 hu0,cond_false]
  obtain⟨q2,t2,ho2,hkp,he⟩:=(Own.nil (.refl st)).push2 (β:=List DV) (sz:=1) (n:=0) (lim:=8796093022208) [.int .i64 x.fan] (Nat.succ_pos 0) rfl rfl (by omega);refine Eq.mpr (congrArg (Ok _) (he _)) ?_;exact A7 q2 1 [x.fan] t2 ho2 (.inl rfl) (by simp) (fun e=>absurd e hu0) (by rw[if_neg hu0])
end Go.Gv.F
namespace Go.Gv.F
open Go.Gv
theorem Zz6 (k m:Nat) (hk:k<64) (h:2^k*(2*m+1)<18446744073709551616):bits .and .u64 ((2^k*(2*m+1):Nat):Int) (IntKind.wrap .u64 (0-((2^k*(2*m+1):Nat):Int)))=((2^k:Nat):Int):=by
 have hp:0<2^k*(2*m+1):=Nat.mul_pos (Nat.two_pow_pos k) (by omega);have h64:(2:Nat)^64=18446744073709551616:=by decide
 have hn:=Zze k m 64 hk (by omega);generalize 2^k*(2*m+1)=w at h hp hn⊢;have e:IntKind.wrap .u64 (0-(w:Int))=((2^64-w:Nat):Int):=by
  show(0-(w:Int))%18446744073709551616=_;omega
 rw[e,ZwT h (by omega),hn]
def tzIdx (k:Nat):Nat:=(2^k*285870213051353865%18446744073709551616)/288230376151711744
def tzAt (d:Option DV) (k:Nat):Bool:=match d with
 |some (.int .u8 n)=>n==(k:Int)
 |_=>false
theorem Zzk {d:Option DV} {k:Nat} (h:tzAt d k=true):d=some (.int .u8 (k:Int)):=by
 unfold tzAt at h;split at h
 ·rw[beq_iff_eq.1 h]
 ·cases h
theorem ZwX: ∀k,k<64→tzIdx k<64∧tzAt (tab2[tzIdx k]?) k=true:=by decide+kernel
theorem ZzM (k:Nat) (h:k<64):tzIdx k<64∧tab2[tzIdx k]? =some (.int .u8 (k:Int)):=⟨(ZwX k h).1,Zzk (ZwX k h).2⟩
theorem Zyy (x c:Nat):(IntKind.wrap .u64 ((x:Int)*((c:Nat):Int))).fdiv (2^58)=((x*c%18446744073709551616/288230376151711744:Nat):Int):=by
 have e1:((x:Int)*((c:Nat):Int))=((x*c:Nat):Int):=by push_cast;rfl
 have e2:(2:Int)^58=((288230376151711744:Nat):Int):=by decide
 rw[e1,Zy4,e2,Zf0]
theorem tzOk {Bd:Za} (h:ZcE Bd):TzOk Bd:=by
 intro n k m st ht hk hw;rw[Zf,h.eq];have hand:=Zz6 k m hk hw;have hp:0<2^k*(2*m+1):=Nat.mul_pos (Nat.two_pow_pos k) (by omega);generalize 2^k*(2*m+1)=w at hand hp hw;obtain⟨h1,h2⟩:=ZzM k hk;have hsh:(IntKind.wrap .u64 (((2^k:Nat):Int)*285870213051353865)).fdiv (2^58)=((tzIdx k:Nat):Int):=Zyy (2^k) 285870213051353865;unfold Zbc b_tzC;simp only[J_i,D_nil];rw[hand,hsh,show((w:Int)==0)=false from beq_eq_false_iff_ne.2 (by omega),cond_false,Ze (show inB ((tzIdx k:Nat):Int) 64=true from Zl h1),Int.toNat_natCast,Nat.mul_one,Nat.add_zero];rw[Zn (i:=2) (f:=true) (all:=tab2) (d:= .int .u8 (k:Int)) (ht 2 _ rfl) h2];simp only[D_int,Zb];rw[Zd (by omega) (by omega)]
end Go.Gv.F
