/- What was put is read again: lines and blocks. No program in sight. -/
import Derived.Test.YtegglibipjjblaaGreatDoorGvMEx
namespace Go.Gv.F
open Go.Gv
theorem ZqF {k:Nat} (h:k<256):(u8N (k:Int)).toNat=k:=by
 unfold u8N;show((k:Int)%256).toNat%256=k;omega
theorem ZpG (n:Nat):Zz (ZO n)=true:=by
 unfold Zz ZO;rw[List.all_eq_true];intro x hx;rw[List.eq_of_mem_replicate hx];rfl
theorem ZxS {b:List UInt8} (h:b.length≤56):(fillF b 56).length=56:=by
 unfold fillF ZO;rw[List.length_append,List.length_replicate];omega
theorem ZwP {k t:Int} {b:List UInt8} (h:b.length≤56):(sealS k t b).length=60:=by
 unfold sealS;rw[List.length_append,ZxS h];rfl
theorem ZqP {k t:Int} {b:List UInt8} (h:b.length≤56):(sealF k t b).length=64:=by
 unfold sealF;rw[List.length_append,Zq,ZwP h]
theorem Zw4 {k t:Nat} {b:List UInt8} (hk0:0<k) (hk:k<256) (ht:t<256) (h:b.length≤56):openB (sealF k t b)=some (k,t,fillF b 56):=by
 have hl:(sealF k t b).length=64:=ZqP h;have h4:(layN (crcF (sealS k t b)) 4).length=4:=Zq _ _;have hd4:(sealF k t b).drop 4=sealS k t b:=by
  unfold sealF;rw[List.drop_append_of_le_length (by omega),List.drop_eq_nil_of_le (by omega),List.nil_append]
 have ht4:(sealF k t b).take 4=layN (crcF (sealS k t b)) 4:=by
  unfold sealF;rw[List.take_append_of_le_length (by omega),List.take_of_length_le (by omega)]
 have hg: ∀j,(sealF k t b).getD (4+j) 0=(sealS k t b).getD j 0:=fun j=>by
  rw[List.getD_eq_getElem?_getD,List.getD_eq_getElem?_getD,←hd4,List.getElem?_drop]
 have g4:(sealF k t b).getD 4 0=u8N k:=hg 0;have g5:(sealF k t b).getD 5 0=u8N t:=hg 1;have d6:((sealF k t b).drop 6).take 2=[0,0]:=by
  have:(sealF k t b).drop 6=(sealS k t b).drop 2:=by rw[←hd4,List.drop_drop]
  rw[this];rfl
 have d8:(sealF k t b).drop 8=fillF b 56:=by
  have:(sealF k t b).drop 8=(sealS k t b).drop 4:=by rw[←hd4,List.drop_drop]
  rw[this];rfl
 have hr:ZfB (sealF k t b)=true:=by
  unfold ZfB;rw[hl,g4,d6,hd4,ht4,Znw];have h1:(u8N (k:Int)==0)=false:=by
   rw[beq_eq_false_iff_ne];intro e;have:=congrArg UInt8.toNat e;rw[ZqF hk]at this;simp at this;omega
  have hc:=ZpX (sealS k t b);rw[h1,Nat.mod_eq_of_lt (by omega)];simp[Zz]
 unfold openB;rw[hr,cond_true,g4,g5,d8,ZqF hk,ZqF ht]
theorem Zxh (A C:List UInt8) (v n:Nat):rd (A++(layN v n++C)) A.length n=v%256^n:=by
 unfold rd;rw[List.drop_left,List.take_append_of_le_length (by rw[Zq];exact Nat.le_refl _),List.take_of_length_le (by rw[Zq];exact Nat.le_refl _),Znw]
theorem ZdB {l A C:List UInt8} {v n k:Nat} (hl:l=A++(layN v n++C)) (hk:A.length=k) (hv:v<256^n) (hv2:v<9223372036854775808):numI l k n=(v:Int):=by
 subst hl;subst hk;unfold numI;rw[Zxh,Nat.mod_eq_of_lt hv];exact Zd (by omega) (by omega)
theorem ZxK {l A C:List UInt8} {v:Int} {k:Nat} (hl:l=A++(layN (u64N v) 8++C)) (hk:A.length=k) (hv: -9223372036854775808≤v∧v≤9223372036854775807):numI l k 8=v:=by
 subst hl;subst hk;unfold numI;have h8:(256:Nat)^8=18446744073709551616:=by decide
 have hlt:=ZbO v;rw[Zxh,Nat.mod_eq_of_lt (by omega)];have e:wr64 ((u64N v:Nat):Int)=v:=by
  unfold u64N;show IntKind.wrap .i64 _=v;rw[IntKind.wrap_i64];omega
 exact e
theorem ZcB {v:Int} (h0:0≤v) (h1:v<9223372036854775808):((u64N v:Nat):Int)=v:=by unfold u64N;omega
theorem Zvs (l:List Int) {i:Nat} (h:i<l.length):lays2 l=lays2 (l.take i)++(layN (u64N l[i]) 2++lays2 (l.drop (i+1))):=by
 have e:l=l.take i++l[i]::l.drop (i+1):=by
  conv=>lhs;rw[←List.take_append_drop i l,List.drop_eq_getElem_cons h]
 conv=>lhs;rw[e]
 unfold lays2;rw[List.map_append,List.flatten_append,List.map_cons,List.flatten_cons]
theorem ZxE {A D b:List UInt8} (l:List Int) (hl: ∀k∈l,0≤k∧k<65536) (hb:b=A++(lays2 l++D)) {n:Nat} (hA:A.length=n):(List.range l.length).map (fun j=>numI b (n+2*j) 2)=l:=by
 refine List.ext_getElem? fun j=>?_
 rw[List.getElem?_map];by_cases hj:j<l.length
 ·rw[List.getElem?_range hj,List.getElem?_eq_getElem hj]
  have hk:=hl _ (List.getElem_mem hj);have hs:=Zvs l hj;generalize l[j]=k at hk hs;have s2:=ZcB (v:=k) (by omega) (by omega);have e:numI b (n+2*j) 2=((u64N k:Nat):Int):=by
   refine ZdB (A:=A++lays2 (l.take j)) (C:=lays2 (l.drop (j+1))++D) ?_ ?_ (show u64N k<65536 by omega) (by omega)
   ·rw[hb,hs,List.append_assoc,List.append_assoc,List.append_assoc]
   ·rw[List.length_append,Zbb,List.length_take]
    omega
  exact congrArg some (e.trans s2)
 ·rw[List.getElem?_eq_none (by rw[List.length_range];omega),List.getElem?_eq_none (by omega)]
  rfl
end Go.Gv.F
