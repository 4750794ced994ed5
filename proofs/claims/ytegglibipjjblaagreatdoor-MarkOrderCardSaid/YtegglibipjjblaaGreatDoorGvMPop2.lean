/- How many bits a word has: the library's function; how many numbers a set has. -/
import Derived.Test.YtegglibipjjblaaGreatDoorGvMPop
namespace Go.Gv.F
open Go.Gv
def Zin:List Nat→Nat
 |[]=>0
 |b::r=>b+256*Zin r
theorem ZuX: ∀(j x:Nat),∃l:List Nat,l.length=j∧(∀b∈l,b≤8)∧st8 j x=Zin l∧popN (2*j) x=l.sum
 |0,x=>⟨[],rfl,(fun _ h=>by cases h),rfl,rfl⟩
 |j+1,x=>by
  obtain ⟨l,h1,h2,h3,h4⟩:=ZuX j (x/256)
  have p1:=(Zfb (x%16) (by omega)).2.1
  have p2:=(Zfb (x/16%16) (by omega)).2.1
  refine ⟨(pop4 (x%16)+pop4 (x/16%16))::l,by rw [List.length_cons,h1],fun b hb=>?_,?_,?_⟩
  ·rcases List.mem_cons.1 hb with rfl|hb
   ·omega
   ·exact h2 b hb
  ·show (pop4 (x%16)+pop4 (x/16%16))+256*st8 j (x/256)=_
   rw [h3];rfl
  ·show pop4 (x%16)+(pop4 (x/16%16)+popN (2*j) (x/16/16))=_
   rw [Nat.div_div_eq_div_mul,h4,List.sum_cons]
   omega
theorem Ze7 {l:List Nat} {n:Nat} (h:l.length=n+1): ∃b r,l=b::r∧r.length=n:=by
 cases l with
 |nil=>cases h
 |cons b r=>exact ⟨b,r,rfl,Nat.succ.inj h⟩
theorem Zy4 (b0 b1 b2 b3 b4 b5 b6 b7:Nat):b0+256*(b1+256*(b2+256*(b3+256*(b4+256*(b5+256*(b6+256*b7))))))+(b1+256*(b2+256*(b3+256*(b4+256*(b5+256*(b6+256*b7))))))=((b0+b1)+256*(b1+b2))+65536*(((b2+b3)+256*(b3+b4))+65536*(((b4+b5)+256*(b5+b6))+65536*((b6+b7)+256*b7))):=by omega
theorem Zy0 (b Y:Nat) (h:b≤8):(b+256*Y)/256=Y:=by omega
theorem ZwV (P0 Q:Nat) (l0:P0≤4112):(P0+65536*Q)/65536=Q:=by omega
theorem Zv7 (P0 P2 P4 P6:Nat):P0+65536*(P2+65536*(P4+65536*P6))+(P2+65536*(P4+65536*P6))=(P0+P2)+65536*(P2+P4)+4294967296*(P4+65536*P6+P6):=by omega
theorem Zwk (P0 P2 P4 Q:Nat) (l0:P0≤4112) (l2:P2≤4112) (l4:P4≤4112):(P0+P2+65536*(P2+P4)+4294967296*Q)/4294967296=Q:=by omega
theorem Zze (P0 P2 P4 P6:Nat):(P0+P2+65536*(P2+P4)+4294967296*(P4+65536*P6+P6)+(P4+65536*P6+P6))%128=(P0+P2+P4+P6)%128:=by omega
theorem lt_n6 (P0 P2 P4 P6:Nat) (l0:P0≤4112) (l2:P2≤4112) (l4:P4≤4112) (l6:P6≤4112):P0+P2+65536*(P2+P4)+4294967296*(P4+65536*P6+P6)+(P4+65536*P6+P6)<9223372036854775808:=by omega
theorem ZyK (b0 b1 b2 b3 b4 b5 b6 b7:Nat) (h0:b0≤8) (h1:b1≤8) (h2:b2≤8) (h3:b3≤8) (h4:b4≤8) (h5:b5≤8) (h6:b6≤8) (h7:b7≤8):(((b0+b1)+256*(b1+b2))+((b2+b3)+256*(b3+b4))+((b4+b5)+256*(b5+b6))+((b6+b7)+256*b7))%128=b0+(b1+(b2+(b3+(b4+(b5+(b6+b7)))))):=by omega
theorem Zxf (l:List Nat) (hl:l.length=8) (hb: ∀b∈l,b≤8): ∃n4 n5 n6,n4=Zin l+Zin l/256∧n5=n4+n4/65536∧n6=n5+n5/4294967296∧n6<9223372036854775808∧n6%128=l.sum:=by
 obtain ⟨b0,r0,e0,k0⟩:=Ze7 hl
 subst e0
 obtain ⟨b1,r1,e1,k1⟩:=Ze7 k0
 subst e1
 obtain ⟨b2,r2,e2,k2⟩:=Ze7 k1
 subst e2
 obtain ⟨b3,r3,e3,k3⟩:=Ze7 k2
 subst e3
 obtain ⟨b4,r4,e4,k4⟩:=Ze7 k3
 subst e4
 obtain ⟨b5,r5,e5,k5⟩:=Ze7 k4
 subst e5
 obtain ⟨b6,r6,e6,k6⟩:=Ze7 k5
 subst e6
 obtain ⟨b7,r7,e7,k7⟩:=Ze7 k6
 subst e7
 have hr:r7=[]:=List.length_eq_zero_iff.1 k7
 subst hr
 simp only [List.mem_cons,List.not_mem_nil,or_false,forall_eq_or_imp,forall_eq] at hb
 obtain ⟨h0,h1,h2,h3,h4,h5,h6,h7⟩:=hb
 have hv:Zin [b0,b1,b2,b3,b4,b5,b6,b7]=b0+256*(b1+256*(b2+256*(b3+256*(b4+256*(b5+256*(b6+256*b7)))))):=rfl
 have hs:([b0,b1,b2,b3,b4,b5,b6,b7]:List Nat).sum=b0+(b1+(b2+(b3+(b4+(b5+(b6+b7)))))):=rfl
 rw [hv,hs,Zy0 _ _ h0,Zy4,←ZyK b0 b1 b2 b3 b4 b5 b6 b7 h0 h1 h2 h3 h4 h5 h6 h7]
 have l0:(b0+b1)+256*(b1+b2)≤4112:=by omega
 have l2:(b2+b3)+256*(b3+b4)≤4112:=by omega
 have l4:(b4+b5)+256*(b5+b6)≤4112:=by omega
 have l6:(b6+b7)+256*b7≤4112:=by omega
 generalize (b0+b1)+256*(b1+b2)=P0 at l0
 generalize (b2+b3)+256*(b3+b4)=P2 at l2
 generalize (b4+b5)+256*(b5+b6)=P4 at l4
 generalize (b6+b7)+256*b7=P6 at l6
 refine ⟨_,_,_,rfl,rfl,rfl,?_,?_⟩
 ·rw [ZwV _ _ l0,Zv7,Zwk _ _ _ _ l0 l2 l4]
  exact lt_n6 _ _ _ _ l0 l2 l4 l6
 ·rw [ZwV _ _ l0,Zv7,Zwk _ _ _ _ l0 l2 l4]
  exact Zze _ _ _ _
theorem ZvQ: ∀(k x:Nat),st2 k x≤4*rep16 k
 |0,_=>Nat.le_refl _
 |k+1,x=>by
  have h2:=(Zfb (x%16) (by omega)).2.1
  have:=ZvQ k (x/16)
  show pop4 (x%16)+16*st2 k (x/16)≤4*(1+16*rep16 k)
  omega
def ocI (x:Int):Int:=
 (fun x1:Int=>(fun x2:Int=>(fun x3:Int=>(fun x4:Int=>(fun x5:Int=>(fun x6:Int=>bits .and .i64 (wr64 x6) 127)
  (IntKind.wrap .u64 (x5+x5.fdiv (2^32)))) (IntKind.wrap .u64 (x4+x4.fdiv (2^16)))) (IntKind.wrap .u64 (x3+x3.fdiv (2^8))))
  (bits .and .u64 (IntKind.wrap .u64 (x2.fdiv (2^4)+x2)) 1085102592571150095))
  (IntKind.wrap .u64 (bits .and .u64 (x1.fdiv (2^2)) 3689348814741910323+bits .and .u64 x1 3689348814741910323)))
  (IntKind.wrap .u64 (bits .and .u64 (x.fdiv (2^1)) 6148914691236517205+bits .and .u64 x 6148914691236517205))
theorem Zx1 (x:Int):popI x=ocI x:=rfl
theorem ZyR {y:Nat} (h:y<9223372036854775808):bits .and .i64 (y:Int) 127=((y%128:Nat):Int):=by
 show IntKind.wrap .i64 ((BitVec.ofInt 64 (y:Int)&&& BitVec.ofInt 64 (127:Int)).toNat:Int)=_
 have e2:(BitVec.ofInt 64 (127:Int)).toNat=2^7-1:=by decide
 rw [BitVec.toNat_and,bv64 (by omega),e2,Nat.and_two_pow_sub_one_eq_mod]
 exact Zd (by omega) (by omega)
theorem Zym {w:Nat} (h:w<18446744073709551616):popI (w:Int)=(((bitsW w).length:Nat):Int):=by
 have c0:5*rep16 16=6148914691236517205:=by decide
 have c1:3*rep16 16=3689348814741910323:=by decide
 have c2:15*ZhS 8=1085102592571150095:=by decide
 have c3:(16:Nat)^16=18446744073709551616:=by decide
 have c4:4*rep16 16=4919131752989213764:=by decide
 have s1:=ZvP 16 w (by omega)
 have l1:=ZvR 16 w
 have s2:=ZvU 16 (st1 16 w) l1
 rw [st12] at s2
 have l2:=ZvQ 16 w
 have s3:=ZwM 8 w
 have s3':(st2 16 w/16+st2 16 w)&&& 15*ZhS 8=st8 8 w:=s3
 obtain ⟨l,g1,g2,g3,g4⟩:=ZuX 8 w
 obtain ⟨n4,n5,n6,q4,q5,q6,q7,q8⟩:=Zxf l g1 g2
 rw [c0] at s1
 rw [c1] at s2
 rw [c2] at s3'
 have p:(bitsW w).length=l.sum:=by
  rw [←g4]
  exact ZuW 16 w
 rw [Zx1,p,←q8]
 unfold ocI
 have f1:((w:Int)).fdiv (2^1)=((w/2:Nat):Int):=Zco w 2
 have a1:IntKind.wrap .u64 (bits .and .u64 ((w:Int).fdiv (2^1)) 6148914691236517205+bits .and .u64 (w:Int) 6148914691236517205)=((st1 16 w:Nat):Int):=by
  rw [f1]
  have h1:bits .and .u64 ((w/2:Nat):Int) 6148914691236517205=((w/2&&& 6148914691236517205:Nat):Int):=and64 (by omega) (by decide)
  have h2:bits .and .u64 (w:Int) 6148914691236517205=((w&&& 6148914691236517205:Nat):Int):=and64 h (by decide)
  rw [h1,h2,←Int.natCast_add,s1]
  exact Zce (by omega)
 generalize st1 16 w=y1 at a1 s2 l1
 rw [a1]
 simp only
 have f2:((y1:Int)).fdiv (2^2)=((y1/4:Nat):Int):=Zco y1 4
 have a2:IntKind.wrap .u64 (bits .and .u64 ((y1:Int).fdiv (2^2)) 3689348814741910323+bits .and .u64 (y1:Int) 3689348814741910323)=((st2 16 w:Nat):Int):=by
  rw [f2]
  have h1:bits .and .u64 ((y1/4:Nat):Int) 3689348814741910323=((y1/4&&& 3689348814741910323:Nat):Int):=and64 (by omega) (by decide)
  have h2:bits .and .u64 (y1:Int) 3689348814741910323=((y1&&& 3689348814741910323:Nat):Int):=and64 (by omega) (by decide)
  rw [h1,h2,←Int.natCast_add,s2]
  exact Zce (by omega)
 generalize st2 16 w=y2 at a2 s3' l2
 rw [a2]
 have f3:((y2:Int)).fdiv (2^4)=((y2/16:Nat):Int):=Zco y2 16
 have a3:bits .and .u64 (IntKind.wrap .u64 ((y2:Int).fdiv (2^4)+(y2:Int))) 1085102592571150095=((st8 8 w:Nat):Int):=by
  rw [f3,←Int.natCast_add,Zce (by omega)]
  have h1:bits .and .u64 ((y2/16+y2:Nat):Int) 1085102592571150095=((y2/16+y2&&& 1085102592571150095:Nat):Int):=and64 (by omega) (by decide)
  rw [h1,s3']
 rw [a3,g3]
 have f4:((Zin l:Nat):Int).fdiv (2^8)=((Zin l/256:Nat):Int):=Zco _ 256
 rw [f4,←Int.natCast_add,←q4,Zce (by omega)]
 have f5:((n4:Nat):Int).fdiv (2^16)=((n4/65536:Nat):Int):=Zco _ 65536
 rw [f5,←Int.natCast_add,←q5,Zce (by omega)]
 have f6:((n5:Nat):Int).fdiv (2^32)=((n5/4294967296:Nat):Int):=Zco _ 4294967296
 rw [f6,←Int.natCast_add,←q6,Zce (by omega),Zd (by omega) (by omega)]
 exact ZyR q7
theorem ZoU: ∀(W:List Nat) (a b:Nat),(∀w∈W,w<18446744073709551616)→a+64*W.length<1000000→ZhI (a:Int) W=((a+(Zcf b W).length:Nat):Int)
 |[],a,b,_,_=>rfl
 |w::r,a,b,h,hl=>by
  rw [List.length_cons] at hl
  have hb:=ZiF w
  unfold ZhI Zcf
  rw [Zym (h w (by simp))]
  have hw:wr64 ((a:Int)+(((bitsW w).length:Nat):Int))=((a+(bitsW w).length:Nat):Int):=Zd (by omega) (by omega)
  rw [hw,ZoU r (a+(bitsW w).length) (b+1) (fun x hx=>h x (by simp [hx])) (by omega),List.length_append,List.length_map]
  omega
theorem ZnR: ∀(b:Nat) (W:List Nat),Zcf b W=((List.range (64*W.length)).filter (inW W)).map fun j=>((b*64+j:Nat):Int)
 |b,[]=>rfl
 |b,w::r=>by
  unfold Zcf
  rw [ZnR (b+1) r,List.length_cons,show 64*(r.length+1)=64+64*r.length by omega,List.range_add,List.filter_append,List.map_append]
  have hA:(List.range 64).filter (inW (w::r))=bitsW w:=by
   unfold bitsW
   refine List.filter_congr fun j hj=>?_
   have:=List.mem_range.1 hj
   unfold inW
   rw [Nat.div_eq_of_lt (by omega),Nat.mod_eq_of_lt (by omega)]
   rfl
  have e:(inW (w::r)∘fun i=>64+i)=inW r:=by
   funext j
   show inW (w::r) (64+j)=inW r j
   unfold inW
   rw [show (64+j)/64=j/64+1 by omega,show (64+j)%64=j%64 by omega]
   rfl
  rw [hA,List.filter_map,List.map_map,e]
  refine congrArg (_++ ·) (List.map_congr_left fun j _=>?_)
  show (((b+1)*64+j:Nat):Int)=((b*64+(64+j):Nat):Int)
  omega
theorem ZvO (W:List Nat):listW W=((List.range (64*W.length)).filter (inW W)).map fun j=>((j:Nat):Int):=by
 unfold listW
 rw [ZnR]
 refine List.map_congr_left fun j _=>?_
 rw [Nat.zero_mul,Nat.zero_add]
theorem Zwj {W:List Nat} {m:Nat} (hw: ∀w∈W,w<18446744073709551616) (hl:W.length<10000) (hm: ∀k,inW W k=true→k<m):Zj2 W≤(m:Int):=by
 have h:=ZoU W 0 0 hw (by omega)
 have h2:(Zcf 0 W).length≤m:=by
  have e:Zcf 0 W=listW W:=rfl
  rw [e,ZvO,List.length_map]
  have:((List.range (64*W.length)).filter (inW W)).length≤((List.range (64*W.length)).filter fun k=>decide (k<m)).length:=by
   rw [←List.countP_eq_length_filter,←List.countP_eq_length_filter]
   exact List.countP_mono_left fun k _ hk=>by simpa using hm k hk
  refine Nat.le_trans this ?_
  by_cases hmm:m≤64*W.length
  ·have e2:64*W.length=m+(64*W.length-m):=by omega
   rw [e2,List.range_add,List.filter_append,List.length_append]
   have a1:=List.length_filter_le (fun k=>decide (k<m)) (List.range m)
   rw [List.length_range] at a1
   have a2:(((List.range (64*W.length-m)).map fun i=>m+i).filter fun k=>decide (k<m))=[]:=by
    rw [List.filter_eq_nil_iff]
    intro k hk
    obtain ⟨i,_,rfl⟩:=List.mem_map.1 hk
    simp
   rw [a2,List.length_nil]
   omega
  ·have a1:=List.length_filter_le (fun k=>decide (k<m)) (List.range (64*W.length))
   rw [List.length_range] at a1
   omega
 unfold Zj2
 have h3:ZhI 0 W=((0+(Zcf 0 W).length:Nat):Int):=h
 rw [h3]
 omega
end Go.Gv.F
