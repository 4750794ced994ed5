/- Lines and words. -/
import Derived.Test.YtegglibipjjblaaGreatDoorGvZLib
import Derived.Test.YtegglibipjjblaaGreatDoorGvZLaw
import Derived.Test.YtegglibipjjblaaGreatDoorGvZBod
namespace Go.Gv.F
set_option linter.unusedSimpArgs false
theorem Zk {i n:Nat} (h:i<n):inB (i:Int) n=true:=by unfold inB;simp;omega
theorem Ze {x:Int} (h1: -9223372036854775808≤x) (h2:x<9223372036854775808):wr64 x=x:=by
 unfold wr64;exact IntWalk.i64_in _ (by omega)
theorem ZeN {Bd:Za} (h:Zfo Bd) (n:Nat) (s:List UInt8) (k lo hi:Nat) (hlo:0<lo) (st:St):
  run Bd (n+1) 19 [.str s,.int .i64 k,.int .u8 lo,.int .u8 hi] st=some (.val [.bool (decide (lo≤oc s k∧oc s k≤hi))],st):=by
 rw [Zf,h.eq]
 unfold Zdo
 simp only [J_s,J_i,D_nil,Zb,J_b,ZgS]
 by_cases hk:k<s.length
 ·have e:decide ((k:Int)<(s.length:Int))=true:=by simpa using hk
  simp only [e,cond_true,Zd (Zk hk)]
  by_cases h1:lo≤oc s k
  ·have e1:decide ((oc s k:Int)≥(lo:Int))=true:=by simpa using h1
   simp only [e1,cond_true,Zc]
   congr 5
   simp [h1]
  ·have e1:decide ((oc s k:Int)≥(lo:Int))=false:=by simpa using h1
   simp only [e1,cond_false,Zc]
   simp [h1]
 ·have e:decide ((k:Int)<(s.length:Int))=false:=by simpa using hk
  simp only [e,cond_false,Zc]
  rw [ZoF (by omega)]
  have: ¬lo≤0:=by omega
  simp [this]
theorem Zyv (s:List UInt8):ZC s 0=(oc s 0:Int):=ZgS s 0
theorem Zym (s:List UInt8):ZC s 1=(oc s 1:Int):=ZgS s 1
theorem ZyO (s:List UInt8):ZC s 2=(oc s 2:Int):=ZgS s 2
theorem Zx6 (s:List UInt8):ZC s 3=(oc s 3:Int):=ZgS s 3
theorem Zl7 {s:List UInt8} {k:Nat} (h:0<oc s k):k<s.length:=by
 rcases Nat.lt_or_ge k s.length with h'|h'
 ·exact h'
 ·rw [ZoF h'] at h;omega
theorem ZxO {n:Nat} (h:1<n):inB 1 n=true:=Zk h
theorem Zxr {n:Nat} (h:0<n):inB 0 n=true:=Zk h
theorem ZxW {n:Nat} (h:2<n):inB 2 n=true:=Zk h
theorem Zxy {n:Nat} (h:3<n):inB 3 n=true:=Zk h
theorem fin3 (a b c:Nat) (r2:224≤a∧a≤239) (h1:128≤b) (h2:b≤191) (h3:128≤c) (h4:c≤191) (st:St):
  (some (Out.val [DV.int .i64 (wr64 ((wr64 ((wr64 ((wr64 (IntKind.wrap .u8 ((a:Int)-224)))*4096))+(wr64 ((wr64 (IntKind.wrap .u8 ((b:Int)-128)))*64))))+(wr64 (IntKind.wrap .u8 ((c:Int)-128))))),.int .i64 3],st):Option (Out (List DV)×St))=
   some (.val [.int .i64 (((a-224)*4096+(b-128)*64+(c-128):Nat):Int),.int .i64 ((3:Nat):Int)],st):=by
 rw [IntWalk.u8_in _ (by omega),IntWalk.u8_in _ (by omega),IntWalk.u8_in _ (by omega),Ze (x:=(a:Int)-224) (by omega) (by omega),Ze (x:=(b:Int)-128) (by omega) (by omega),Ze (x:=(c:Int)-128) (by omega) (by omega),
  Ze (x:=((a:Int)-224)*4096) (by omega) (by omega),Ze (x:=((b:Int)-128)*64) (by omega) (by omega),Ze (x:=((a:Int)-224)*4096+((b:Int)-128)*64) (by omega) (by omega),Ze (by omega) (by omega)]
 have e:((a:Int)-224)*4096+((b:Int)-128)*64+((c:Int)-128)=(((a-224)*4096+(b-128)*64+(c-128):Nat):Int):=by omega
 rw [e];rfl
theorem fin4 (a b c d:Nat) (r3:240≤a∧a≤244) (h1:128≤b) (h2:b≤191) (h3:128≤c) (h4:c≤191) (h5:128≤d) (h6:d≤191) (st:St):
  (some (Out.val [DV.int .i64 (wr64 ((wr64 ((wr64 ((wr64 ((wr64 (IntKind.wrap .u8 ((a:Int)-240)))*262144))+(wr64 ((wr64 (IntKind.wrap .u8 ((b:Int)-128)))*4096))))+(wr64 ((wr64 (IntKind.wrap .u8 ((c:Int)-128)))*64))))+(wr64 (IntKind.wrap .u8 ((d:Int)-128))))),.int .i64 4],st):Option (Out (List DV)×St))=
   some (.val [.int .i64 (((a-240)*262144+(b-128)*4096+(c-128)*64+(d-128):Nat):Int),.int .i64 ((4:Nat):Int)],st):=by
 rw [IntWalk.u8_in _ (by omega),IntWalk.u8_in _ (by omega),IntWalk.u8_in _ (by omega),IntWalk.u8_in _ (by omega),Ze (x:=(a:Int)-240) (by omega) (by omega),Ze (x:=(b:Int)-128) (by omega) (by omega),Ze (x:=(c:Int)-128) (by omega) (by omega),Ze (x:=(d:Int)-128) (by omega) (by omega),
  Ze (x:=((a:Int)-240)*262144) (by omega) (by omega),Ze (x:=((b:Int)-128)*4096) (by omega) (by omega),Ze (x:=((c:Int)-128)*64) (by omega) (by omega),Ze (x:=((a:Int)-240)*262144+((b:Int)-128)*4096) (by omega) (by omega),Ze (x:=((a:Int)-240)*262144+((b:Int)-128)*4096+((c:Int)-128)*64) (by omega) (by omega),Ze (by omega) (by omega)]
 have e:((a:Int)-240)*262144+((b:Int)-128)*4096+((c:Int)-128)*64+((d:Int)-128)=(((a-240)*262144+(b-128)*4096+(c-128)*64+(d-128):Nat):Int):=by omega
 rw [e];rfl
theorem ZpD {Bd:Za} (h:ZgU Bd) (n:Nat) (s:List UInt8) (hs:0<s.length) (st:St):
  run Bd (n+2) 15 [.str s] st=some (.val [.int .i64 ((dec s 0).1:Int),.int .i64 ((dec s 0).2:Int)],st):=by
 have h0:=oc_lt s 0
 have h1:=oc_lt s 1
 have h2:=oc_lt s 2
 have h3:=oc_lt s 3
 have f1: ∀lo hi:Nat,0<lo→run Bd (n+1) 19 [.str s,.int .i64 1,.int .u8 lo,.int .u8 hi] st=some (.val [.bool (decide (lo≤oc s 1∧oc s 1≤hi))],st):=fun lo hi hlo=>ZeN h.q41 n s 1 lo hi hlo st
 have f2:run Bd (n+1) 19 [.str s,.int .i64 2,.int .u8 128,.int .u8 191] st=some (.val [.bool (decide (128≤oc s 2∧oc s 2≤191))],st):=ZeN h.q41 n s 2 128 191 (by omega) st
 have f3:run Bd (n+1) 19 [.str s,.int .i64 3,.int .u8 128,.int .u8 191] st=some (.val [.bool (decide (128≤oc s 3∧oc s 3≤191))],st):=ZeN h.q41 n s 3 128 191 (by omega) st
 have g1:run Bd (n+1) 19 [.str s,.int .i64 1,.int .u8 128,.int .u8 191] st=_:=f1 128 191 (by omega)
 have g2:run Bd (n+1) 19 [.str s,.int .i64 1,.int .u8 160,.int .u8 191] st=_:=f1 160 191 (by omega)
 have g3:run Bd (n+1) 19 [.str s,.int .i64 1,.int .u8 128,.int .u8 159] st=_:=f1 128 159 (by omega)
 have g4:run Bd (n+1) 19 [.str s,.int .i64 1,.int .u8 144,.int .u8 191] st=_:=f1 144 191 (by omega)
 have g5:run Bd (n+1) 19 [.str s,.int .i64 1,.int .u8 128,.int .u8 143] st=_:=f1 128 143 (by omega)
 rw [Zf,h.eq]
 unfold Zew
 simp only [J_s,D_nil,Zd (Zxr hs),Zyv,Zym,ZyO,Zx6,Bool.cond_decide]
 rw [ZfM]
 simp only [Nat.zero_add]
 generalize oc s 0=a at*
 generalize hb:oc s 1=b at*
 generalize hc:oc s 2=c at*
 generalize hd:oc s 3=d at*
 have l1:0<b→inB 1 s.length=true:=fun h=>ZxO (Zl7 (by omega))
 have l2:0<c→inB 2 s.length=true:=fun h=>ZxW (Zl7 (by omega))
 have l3:0<d→inB 3 s.length=true:=fun h=>Zxy (Zl7 (by omega))
 by_cases c0:a<128
 ·rw [if_pos (by omega),if_pos c0,Ze (by omega) (by omega)];rfl
 rw [if_neg (by omega),if_neg c0]
 by_cases r1:194≤a∧a≤223
 ·have e1:(a:Int)≥194:=by omega
  have e2:(a:Int)≤223:=by omega
  have e3: ¬(a:Int)≥224:=by omega
  have e4: ¬(a:Int)≥240:=by omega
  simp only [Zb,J_b,D_nil,if_pos e1,decide_eq_true e2,cond_true,Zj g1]
  by_cases k:128≤b∧b≤191
  ·simp only [decide_eq_true k,cond_true,Zd (l1 (by omega)),Zc]
   rw [if_pos ⟨r1,k⟩,IntWalk.u8_in _ (by omega),IntWalk.u8_in _ (by omega),Ze (x:=(a:Int)-192) (by omega) (by omega),Ze (x:=(b:Int)-128) (by omega) (by omega),Ze (x:=((a:Int)-192)*64) (by omega) (by omega),Ze (by omega) (by omega)]
   have:(a:Int)-192=((a-192:Nat):Int):=by omega
   have:(b:Int)-128=((b-128:Nat):Int):=by omega
   simp [*]
  ·simp only [decide_eq_false k,cond_false,if_neg e3,if_neg e4,J_b,D_nil,Zc]
   rw [if_neg (by rintro ⟨_,h⟩;exact k h),if_neg (by omega),if_neg (by omega)]
   rfl
 by_cases r2:224≤a∧a≤239
 ·have e1:(a:Int)≥194:=by omega
  have e2: ¬(a:Int)≤223:=by omega
  have e3:(a:Int)≥224:=by omega
  have e4:(a:Int)≤239:=by omega
  by_cases y1:a=224
  ·subst y1
   have x1:(((224:Nat):Int)==224)=true:=rfl
   have x2:(((224:Nat):Int)==237)=false:=rfl
   simp only [Zb,J_b,J_i,D_nil,if_pos e1,decide_eq_false e2,cond_false,if_pos e3,decide_eq_true e4,cond_true,x1,x2,Zj g2,Zc]
   by_cases k:160≤b∧b≤191
   ·by_cases k2:128≤c∧c≤191
    ·simp only [decide_eq_true k,decide_eq_true k2,cond_true,Zj f2,J_b,D_nil,Zd (l1 (by omega)),Zd (l2 (by omega)),Zc]
     rw [if_neg (by omega),if_pos ⟨r2,by simpa using k,k2⟩]
     exact fin3 224 b c r2 (by omega) (by omega) (by omega) (by omega) st
    ·simp only [decide_eq_true k,decide_eq_false k2,cond_true,cond_false,Zj f2,J_b,D_nil,Zc]
     rw [if_neg (by omega),if_neg (by rintro ⟨_,_,h⟩;exact k2 h),if_neg (by omega)]
     rfl
   ·simp only [decide_eq_false k,cond_false,J_b,D_nil,Zc]
    rw [if_neg (by omega),if_neg (by rintro ⟨_,h,_⟩;exact k (by simpa using h)),if_neg (by omega)]
    rfl
  ·by_cases y2:a=237
   ·subst y2
    have x1:(((237:Nat):Int)==224)=false:=rfl
    have x2:(((237:Nat):Int)==237)=true:=rfl
    simp only [Zb,J_b,J_i,D_nil,if_pos e1,decide_eq_false e2,cond_false,if_pos e3,decide_eq_true e4,cond_true,x1,x2,Zj g3,Zc]
    by_cases k:128≤b∧b≤159
    ·by_cases k2:128≤c∧c≤191
     ·simp only [decide_eq_true k,decide_eq_true k2,cond_true,Zj f2,J_b,D_nil,Zd (l1 (by omega)),Zd (l2 (by omega)),Zc]
      rw [if_neg (by omega),if_pos ⟨r2,by simpa using k,k2⟩]
      exact fin3 237 b c r2 (by omega) (by omega) (by omega) (by omega) st
     ·simp only [decide_eq_true k,decide_eq_false k2,cond_true,cond_false,Zj f2,J_b,D_nil,Zc]
      rw [if_neg (by omega),if_neg (by rintro ⟨_,_,h⟩;exact k2 h),if_neg (by omega)]
      rfl
    ·simp only [decide_eq_false k,cond_false,J_b,D_nil,Zc]
     rw [if_neg (by omega),if_neg (by rintro ⟨_,h,_⟩;exact k (by simpa using h)),if_neg (by omega)]
     rfl
   ·have x1:((a:Int)==224)=false:=by rw [beq_eq_false_iff_ne];omega
    have x2:((a:Int)==237)=false:=by rw [beq_eq_false_iff_ne];omega
    simp only [Zb,J_b,J_i,D_nil,if_pos e1,decide_eq_false e2,cond_false,if_pos e3,decide_eq_true e4,cond_true,x1,x2,Zj g1,Zc,if_neg y1,if_neg y2]
    by_cases k:128≤b∧b≤191
    ·by_cases k2:128≤c∧c≤191
     ·simp only [decide_eq_true k,decide_eq_true k2,cond_true,Zj f2,J_b,D_nil,Zd (l1 (by omega)),Zd (l2 (by omega)),Zc]
      rw [if_neg (by omega),if_pos ⟨r2,k,k2⟩]
      exact fin3 a b c r2 (by omega) (by omega) (by omega) (by omega) st
     ·simp only [decide_eq_true k,decide_eq_false k2,cond_true,cond_false,Zj f2,J_b,D_nil,Zc]
      rw [if_neg (by omega),if_neg (by rintro ⟨_,_,h⟩;exact k2 h),if_neg (by omega)]
      rfl
    ·simp only [decide_eq_false k,cond_false,J_b,D_nil,Zc]
     rw [if_neg (by omega),if_neg (by rintro ⟨_,h,_⟩;exact k h),if_neg (by omega)]
     rfl
 by_cases r3:240≤a∧a≤244
 ·have e1:(a:Int)≥194:=by omega
  have e2: ¬(a:Int)≤223:=by omega
  have e3:(a:Int)≥224:=by omega
  have e4: ¬(a:Int)≤239:=by omega
  have e5:(a:Int)≥240:=by omega
  have e6:(a:Int)≤244:=by omega
  by_cases y1:a=240
  ·subst y1
   have x1:(((240:Nat):Int)==240)=true:=rfl
   have x2:(((240:Nat):Int)==244)=false:=rfl
   simp only [Zb,J_b,J_i,D_nil,if_pos e1,decide_eq_false e2,cond_false,if_pos e3,decide_eq_false e4,if_pos e5,decide_eq_true e6,cond_true,x1,x2,Zj g4,Zc]
   by_cases k:144≤b∧b≤191
   ·by_cases k2:128≤c∧c≤191
    ·by_cases k3:128≤d∧d≤191
     ·simp only [decide_eq_true k,decide_eq_true k2,decide_eq_true k3,cond_true,Zj f2,Zj f3,J_b,D_nil,Zd (l1 (by omega)),Zd (l2 (by omega)),Zd (l3 (by omega)),Zc]
      rw [if_neg (by omega),if_neg (by omega),if_pos ⟨r3,by simpa using k,k2,k3⟩]
      exact fin4 240 b c d r3 (by omega) (by omega) (by omega) (by omega) (by omega) (by omega) st
     ·simp only [decide_eq_true k,decide_eq_true k2,decide_eq_false k3,cond_true,cond_false,Zj f2,Zj f3,J_b,D_nil,Zc]
      rw [if_neg (by omega),if_neg (by omega),if_neg (by rintro ⟨_,_,_,h⟩;exact k3 h)]
      rfl
    ·simp only [decide_eq_true k,decide_eq_false k2,cond_true,cond_false,Zj f2,J_b,D_nil,Zc]
     rw [if_neg (by omega),if_neg (by omega),if_neg (by rintro ⟨_,_,h,_⟩;exact k2 h)]
     rfl
   ·simp only [decide_eq_false k,cond_false,J_b,D_nil,Zc]
    rw [if_neg (by omega),if_neg (by omega),if_neg (by rintro ⟨_,h,_⟩;exact k (by simpa using h))]
    rfl
  ·by_cases y2:a=244
   ·subst y2
    have x1:(((244:Nat):Int)==240)=false:=rfl
    have x2:(((244:Nat):Int)==244)=true:=rfl
    simp only [Zb,J_b,J_i,D_nil,if_pos e1,decide_eq_false e2,cond_false,if_pos e3,decide_eq_false e4,if_pos e5,decide_eq_true e6,cond_true,x1,x2,Zj g5,Zc]
    by_cases k:128≤b∧b≤143
    ·by_cases k2:128≤c∧c≤191
     ·by_cases k3:128≤d∧d≤191
      ·simp only [decide_eq_true k,decide_eq_true k2,decide_eq_true k3,cond_true,Zj f2,Zj f3,J_b,D_nil,Zd (l1 (by omega)),Zd (l2 (by omega)),Zd (l3 (by omega)),Zc]
       rw [if_neg (by omega),if_neg (by omega),if_pos ⟨r3,by simpa using k,k2,k3⟩]
       exact fin4 244 b c d r3 (by omega) (by omega) (by omega) (by omega) (by omega) (by omega) st
      ·simp only [decide_eq_true k,decide_eq_true k2,decide_eq_false k3,cond_true,cond_false,Zj f2,Zj f3,J_b,D_nil,Zc]
       rw [if_neg (by omega),if_neg (by omega),if_neg (by rintro ⟨_,_,_,h⟩;exact k3 h)]
       rfl
     ·simp only [decide_eq_true k,decide_eq_false k2,cond_true,cond_false,Zj f2,J_b,D_nil,Zc]
      rw [if_neg (by omega),if_neg (by omega),if_neg (by rintro ⟨_,_,h,_⟩;exact k2 h)]
      rfl
    ·simp only [decide_eq_false k,cond_false,J_b,D_nil,Zc]
     rw [if_neg (by omega),if_neg (by omega),if_neg (by rintro ⟨_,h,_⟩;exact k (by simpa using h))]
     rfl
   ·have x1:((a:Int)==240)=false:=by rw [beq_eq_false_iff_ne];omega
    have x2:((a:Int)==244)=false:=by rw [beq_eq_false_iff_ne];omega
    simp only [Zb,J_b,J_i,D_nil,if_pos e1,decide_eq_false e2,cond_false,if_pos e3,decide_eq_false e4,if_pos e5,decide_eq_true e6,cond_true,x1,x2,Zj g1,Zc,if_neg y1,if_neg y2]
    by_cases k:128≤b∧b≤191
    ·by_cases k2:128≤c∧c≤191
     ·by_cases k3:128≤d∧d≤191
      ·simp only [decide_eq_true k,decide_eq_true k2,decide_eq_true k3,cond_true,Zj f2,Zj f3,J_b,D_nil,Zd (l1 (by omega)),Zd (l2 (by omega)),Zd (l3 (by omega)),Zc]
       rw [if_neg (by omega),if_neg (by omega),if_pos ⟨r3,k,k2,k3⟩]
       exact fin4 a b c d r3 (by omega) (by omega) (by omega) (by omega) (by omega) (by omega) st
      ·simp only [decide_eq_true k,decide_eq_true k2,decide_eq_false k3,cond_true,cond_false,Zj f2,Zj f3,J_b,D_nil,Zc]
       rw [if_neg (by omega),if_neg (by omega),if_neg (by rintro ⟨_,_,_,h⟩;exact k3 h)]
       rfl
     ·simp only [decide_eq_true k,decide_eq_false k2,cond_true,cond_false,Zj f2,J_b,D_nil,Zc]
      rw [if_neg (by omega),if_neg (by omega),if_neg (by rintro ⟨_,_,h,_⟩;exact k2 h)]
      rfl
    ·simp only [decide_eq_false k,cond_false,J_b,D_nil,Zc]
     rw [if_neg (by omega),if_neg (by omega),if_neg (by rintro ⟨_,h,_⟩;exact k (h))]
     rfl
 ·have e1:(a:Int)≥194∨¬(a:Int)≥194:=Classical.em _
  have e2: ¬(a:Int)≤223∨¬(a:Int)≥194:=by omega
  have e4: ¬(a:Int)≤239∨¬(a:Int)≥224:=by omega
  have e6: ¬(a:Int)≤244∨¬(a:Int)≥240:=by omega
  rw [if_neg (by omega),if_neg (by omega),if_neg (by omega)]
  simp only [Zb,J_b,D_nil]
  rcases e2 with e|e<;>rcases e4 with f|f<;>rcases e6 with g|g<;>(simp only [e,f,g,decide_false,if_false,cond_false,ite_self,Zc];rfl)
def ic (r:Nat):DV:= .int .i64 (r:Int)
theorem ZfT {Bd:Za} (h:Zev Bd) (n:Nat) (s:List UInt8) (hn:s.length+4≤n) (hs:s.length<1000000) (st:St):
  Ok (fun o=>∃a s',o=(.val [.slice 1 a (rns s).length],s')∧Pre st s'∧Sl s' a ((rns s).map ic)) (run Bd n 12 [.str s] st):=by
 obtain ⟨n,rfl⟩: ∃m,n=m+3:=⟨n-3,by omega⟩
 rw [Zf,h.eq]
 unfold Zei
 simp only [J_s,D_nil,Zdg,Zb]
 refine Zl _ (fun k x s1=>∃(t:List UInt8) (a:Option (Nat×Nat)) (z:Nat) (acc:List Nat),x=[.str t,.slice z a acc.length]∧(z=1∨a=none)∧t.length≤k∧acc.length+t.length≤s.length∧rns s=acc++rns t∧Own st s1 a (acc.map ic))
  ?_ s.length (n+2) _ _ ⟨s,none,0,[],rfl,.inr rfl,Nat.le_refl _,by simp,rfl,Own.nil (.refl st)⟩ (by omega)
 rintro k _ s1 ⟨t,a,z,acc,rfl,hz,hk,hl,hr,ho⟩ rec hrec
 simp only [J_s,Zm 1 z a _ hz,D_nil,Bool.cond_decide,J_l]
 by_cases ht:(t.length:Int)>0
 ·rw [if_pos ht]
  have ht':0<t.length:=by omega
  have hw:=ZfU t 0
  have hle:=Zll t 0 ht'
  rw [Zj (ZpD h.q71 n t ht' s1)]
  simp only [J_i,D_nil]
  obtain ⟨p,s2,ho2,hp⟩:=ho.push (β:=List DV) (sz:=1) (n:=acc.length) (lim:=8796093022208) [ic (dec t 0).1] (Nat.succ_pos 0) (by simp) rfl (by omega)
  have:=hp (fun p=>M.chk (decide (0≤((dec t 0).2:Int))&&decide (((dec t 0).2:Int)≤(t.length:Int))) (rec [.str (t.drop ((dec t 0).2:Int).toNat),.slice 1 p (acc.length+1)]))
  refine (congrArg (Ok _) this).mpr ?_
  rw [Zd (by simp;omega)]
  refine hrec (t.length-1) _ _ (by omega) ⟨t.drop (dec t 0).2,p,1,acc++[(dec t 0).1],by simp,.inl rfl,by simp;omega,by simp;omega,by rw [hr,ZnD ht'];simp,by simpa using ho2⟩
 ·rw [if_neg ht]
  have ht':t=[]:=List.eq_nil_of_length_eq_zero (by omega)
  subst ht'
  rw [Zmj,List.append_nil] at hr
  rw [ZS,hr]
  exact .mk ⟨a,_,rfl,ZX ho.1,ho.sl.frz _⟩
def ZtF (r:Nat):Bool:=(decide (r<32)&& !(r==9))||r==127||r==65533
theorem ZwJ (a b:Nat):((a:Int)==(b:Int))=(a==b):=by rw [Bool.eq_iff_iff];simp only [beq_iff_eq];omega
def flush (w:List UInt8):List (List UInt8):=if w=[] then [] else [w]
def Zmf:List UInt8→List UInt8→List (List UInt8)
 |[],w=>flush w
 |c::r,w=>if c=35 then flush w else if c=32∨c=9 then flush w++Zmf r [] else Zmf r (w++[c])
def Zdh (line:List UInt8):Int×List (List UInt8):=
 if (rns line).any ZtF then (41,[]) else if (Zmf line []).length>40 then (40,[]) else (0,Zmf line [])
def Zxj (line:List UInt8) (st:St) (o:Out (List DV)×St):Prop:=
 ∃z a s',o=(.val [.slice z a (Zdh line).2.length,.int .i64 (Zdh line).1],s')∧(z=1∨a=none)∧Pre st s'∧Sl s' a ((Zdh line).2.map .str)
def WordsAns2 (line:List UInt8) (st:St) (o:Out (List DV)×St):Prop:=
 ∃z a s',o=(.val [.slice z a (Zdh line).2.length,.int .i64 (Zdh line).1],s')∧(z=1∨a=none)∧Pre st s'∧Fz s' a ((Zdh line).2.map .str)
theorem WordsAns2.old {line:List UInt8} {st:St} {o:Out (List DV)×St} (h:WordsAns2 line st o):Zxj line st o:=
 let ⟨z,a,s',e,hz,hp,hf⟩:=h
 ⟨z,a,s',e,hz,hp,hf.1⟩
theorem Zzg {s:List UInt8} {i:Nat} (h:i<s.length):oc s i=s[i].toNat:=by unfold oc;simp [List.getD_eq_getElem?_getD,h]
def IsWord (w:List UInt8):Prop:=Zdh w=(0,[w])
instance (w:List UInt8):Decidable (IsWord w):=inferInstanceAs (Decidable (Zdh w=(0,[w])))
theorem IsWord.wrong {w:List UInt8} (h:IsWord w):(rns w).any ZtF=false:=by
 unfold IsWord Zdh at h
 cases hw:(rns w).any ZtF with
 |false=>rfl
 |true=>rw [hw] at h;cases h
theorem IsWord.split {w:List UInt8} (h:IsWord w):Zmf w []=[w]:=by
 have hw:=h.wrong
 unfold IsWord Zdh at h
 rw [hw] at h
 simp only [Bool.false_eq_true,if_false] at h
 split at h
 ·cases h
 ·exact (Prod.mk.injEq _ _ _ _▸h).2
theorem IsWord.ne {w:List UInt8} (h:IsWord w):w≠[]:=by
 rintro rfl
 have:=h.split
 cases this
end Go.Gv.F
namespace Go.Gv.F
theorem ZcP {β:Type} (F:(List DV→M β)→List DV→M β) (m:Nat) (st:List DV):M.loop F (m+1) st=F (M.loop F m) st:=rfl
theorem D_len {β:Type} {cs:List DV} {n:Nat} (h:cs.length=n) (K:M β):D.len cs n K=K:=by
 unfold D.len;rw [h];simp
def ofI (r:Int):Bool:=(decide (r≥97)&&decide (r≤122))||((decide (r≥65)&&decide (r≤90))||((decide (r≥48)&&decide (r≤57))||(r==45||(r==95||(decide (r≥161)&&decide (r≤65519))))))
theorem ZuG {Bd:Za} (h:ZkI Bd) (n:Nat) (r:Int) (st:St):run Bd (n+1) 29 [.int .i64 r] st=some (.val [.bool (ofI r)],st):=by
 rw [Zf,h.eq]
 unfold Zhs ofI
 simp only [J_i,D_nil,ZiO,J_b,Zc,Bool.cond_true_left,Bool.cond_false_right,Bool.or_assoc]
def Zec:List DV:=[.int .i32 97,.int .i32 122,.int .i32 65,.int .i32 90,.int .i32 48,.int .i32 57,.int .i32 45,.int .i32 45,.int .i32 95,.int .i32 95,.int .i32 161,.int .i32 65519]
theorem ZrI {Bd:Za} (h:Ziy Bd) (n:Nat) (st:St):run Bd (n+1) 54 [] st=some (.val [.agg Zec],st):=by
 rw [Zf,h.eq];rfl
theorem ZvY {Bd:Za} (h:Zlh Bd) (n:Nat) (r:Int) (st:St):run Bd (n+8) 28 [.int .i32 r] st=some (.val [.bool (ofI r)],st):=by
 rw [Zf,h.eq]
 unfold ZiW
 simp only [J_i,D_nil]
 rw [Zj (ZrI h.q89 (n+6) st)]
 simp only [J_a,D_nil,D_len (show Zec.length=12 from rfl)]
 have step: ∀(rec:List DV→M (List DV)) (i:Nat) (lo hi:Int),i<6→(Zec.drop (i*2)).take 2=[.int .i32 lo,.int .i32 hi]→
   (fun (x:Int)=>M.chk (inB x 6) (D.len ((Zec.drop (x.toNat*2)).take 2) 2 (D.nth ((Zec.drop (x.toNat*2)).take 2) 0 fun d=>D.int .i32 d fun x1=>
    M.join (fun st=>J.b st fun b1 st=>D.nil st<|bif b1 then M.ret [.bool true] else rec [.int .i64 (wr64 (x+1))]) fun jk2=>
    bif decide (r≥x1) then D.nth ((Zec.drop (x.toNat*2)).take 2) 1 fun d1=>D.int .i32 d1 fun x2=>jk2 [.bool (decide (r≤x2))] else jk2 [.bool false]))) (i:Int)=
   bif (decide (r≥lo)&&decide (r≤hi)) then M.ret [.bool true] else rec [.int .i64 ((i+1:Nat):Int)]:=by
  intro rec i lo hi hi6 hd
  simp only [Int.toNat_natCast,hd,Zd (Zk hi6),D_len (show ([.int .i32 lo,.int .i32 hi]:List DV).length=2 from rfl),Ze (x:=(i:Int)+1) (by omega) (by omega)]
  unfold D.nth
  simp only [List.getElem?_cons_zero,List.getElem?_cons_succ,D_int,ZiO,J_b,D_nil,Bool.cond_false_right]
  rfl
 have fin: ∀(l:List (Int×Int)) (i m:Nat),i+l.length=6→(∀(k:Nat) p,l[k]? =some p→(Zec.drop ((i+k)*2)).take 2=[.int .i32 p.1,.int .i32 p.2])→l.length<m→
   M.loop (fun (rec1:List DV→M (List DV)) st=>J.i .i64 st fun x st=>D.nil st<|bif decide (x<6) then M.chk (inB x 6) (D.len ((Zec.drop (x.toNat*2)).take 2) 2 (D.nth ((Zec.drop (x.toNat*2)).take 2) 0 fun d=>D.int .i32 d fun x1=>
    M.join (fun st=>J.b st fun b1 st=>D.nil st<|bif b1 then M.ret [.bool true] else rec1 [.int .i64 (wr64 (x+1))]) fun jk2=>
    bif decide (r≥x1) then D.nth ((Zec.drop (x.toNat*2)).take 2) 1 fun d1=>D.int .i32 d1 fun x2=>jk2 [.bool (decide (r≤x2))] else jk2 [.bool false])) else (D.nil []<|M.ret [.bool false])) m [.int .i64 (i:Int)] st
   =some (.val [.bool (l.any fun p=>decide (r≥p.1)&&decide (r≤p.2))],st):=by
  intro l
  induction l with
  |nil=>
   intro i m hi _ hm
   obtain ⟨m,rfl⟩: ∃k,m=k+1:=⟨m-1,by simp at hm;omega⟩
   simp only [List.length_nil,Nat.add_zero] at hi
   subst hi
   rw [ZcP]
   simp only [J_i,D_nil]
   rfl
  |cons p l ih=>
   intro i m hi hp hm
   simp only [List.length_cons] at hi hm
   obtain ⟨m,rfl⟩: ∃k,m=k+1:=⟨m-1,by omega⟩
   rw [ZcP]
   simp only [J_i,D_nil]
   rw [decide_eq_true (show (i:Int)<6 by omega),cond_true]
   refine (congrFun (step _ i p.1 p.2 (by omega) (by have:=hp 0 p rfl;simpa using this)) st).trans ?_
   rw [List.any_cons]
   cases hb:(decide (r≥p.1)&&decide (r≤p.2)) with
   |true=>rfl
   |false=>
    rw [cond_false,Bool.false_or]
    exact ih (i+1) m (by omega) (fun k q hq=>by have:=hp (k+1) q (by simpa using hq);rwa [show i+(k+1)=i+1+k by omega] at this) (by omega)
 have e:ofI r=[((97:Int),(122:Int)),(65,90),(48,57),(45,45),(95,95),(161,65519)].any fun p=>decide (r≥p.1)&&decide (r≤p.2):=by
  unfold ofI
  have e1:(r==45)=(decide (r≥45)&&decide (r≤45)):=by rw [Bool.eq_iff_iff];simp only [beq_iff_eq,Bool.and_eq_true,decide_eq_true_eq];omega
  have e2:(r==95)=(decide (r≥95)&&decide (r≤95)):=by rw [Bool.eq_iff_iff];simp only [beq_iff_eq,Bool.and_eq_true,decide_eq_true_eq];omega
  rw [e1,e2]
  simp only [List.any_cons,List.any_nil,Bool.or_false]
 rw [e,Zb]
 refine fin _ 0 (n+7) rfl (fun k p hp=>?_) (by simp)
 match k,hp with
 |0,hp=>cases hp;rfl
 |1,hp=>cases hp;rfl
 |2,hp=>cases hp;rfl
 |3,hp=>cases hp;rfl
 |4,hp=>cases hp;rfl
 |5,hp=>cases hp;rfl
 |k+6,hp=>simp at hp
def Zdb (s:List UInt8):Bool:=decide (0<(rns s).length)&&(decide ((rns s).length≤8)&&(rns s).all fun r=>ofI r)
theorem Zqi {Bd:Za} (h:Zg2 Bd) (n:Nat) (s:List UInt8) (hn:s.length+6≤n) (hs:s.length<100000) (st:St):
  Ok (fun o=>∃s',o=(.val [.bool (Zdb s)],s')∧Pre st s') (run Bd n 27 [.str s] st):=by
 obtain ⟨n,rfl⟩: ∃m,n=m+3:=⟨n-3,by omega⟩
 rw [Zf,h.eq]
 unfold ZeB
 simp only [J_s,D_nil]
 refine Ok.call (ZfT h.q73 (n+2) s (by omega) (by omega) st) ?_
 rintro _ ⟨a,s1,rfl,hp1,hsl⟩
 refine ⟨_,s1,rfl,?_⟩
 have hrl:=ZjL s
 simp only [J_l,D_nil,ZiO,J_b]
 rw [Zb]
 have e0:(bif decide (((rns s).length:Int)>0) then decide (((rns s).length:Int)≤8) else false)=(decide (0<(rns s).length)&&decide ((rns s).length≤8)):=by
  rw [Bool.cond_false_right]
  congr 1
  ·rw [Bool.eq_iff_iff];simp only [decide_eq_true_eq];omega
  ·rw [Bool.eq_iff_iff];simp only [decide_eq_true_eq];omega
 rw [e0]
 refine Zl _ (fun k x s2=>∃(i:Nat) (b:Bool),x=[.bool b,.int .i64 i]∧i≤(rns s).length∧(rns s).length-i≤k∧s2=s1∧(b&&((rns s).drop i).all fun r=>ofI r)=Zdb s)
  ?_ (rns s).length (n+2) _ _ ⟨0,_,rfl,Nat.zero_le _,by omega,rfl,by rw [List.drop_zero];unfold Zdb;rw [Bool.and_assoc]⟩ (by omega)
 rintro k _ s2 ⟨i,b,rfl,hi,hk,rfl,hb⟩ rec hrec
 simp only [J_b,J_i,D_nil]
 by_cases hlt:i<(rns s).length
 ·rw [decide_eq_true (show (i:Int)<((rns s).length:Int) by omega),cond_true]
  have hr:(rns s)[i]? =some (rns s)[i]:=List.getElem?_eq_getElem hlt
  rw [List.drop_eq_getElem_cons hlt,List.all_cons] at hb
  rw [Zb]
  cases b with
  |false=>
   simp only [cond_false,J_b,D_nil]
   exact hrec (k-1) _ _ (by omega) ⟨i+1,false,by rw [Ze (by omega) (by omega)];rfl,by omega,by omega,rfl,by rw [←hb];simp⟩
  |true=>
   obtain ⟨j,o,rfl⟩:=hsl.some_of (by simp;omega)
   simp only [cond_true,nn_some',Zd (Zk hlt),Int.toNat_natCast]
   rw [hsl.get1 (d:=ic (rns s)[i]) (by simp [hr])]
   unfold ic
   simp only [D_int]
   rw [Zj (ZuG h.q126 (n+1) _ s2)]
   simp only [J_b,D_nil]
   exact hrec (k-1) _ _ (by omega) ⟨i+1,_,by rw [Ze (by omega) (by omega)];rfl,by omega,by omega,rfl,by rw [←hb];simp⟩
 ·rw [decide_eq_false (show ¬(i:Int)<((rns s).length:Int) by omega),cond_false,Zc]
  rw [List.drop_of_length_le (by omega)] at hb
  simp only [List.all_nil,Bool.and_true] at hb
  exact .mk ⟨s2,by rw [hb],hp1⟩
theorem ZtH {s:List UInt8} {p:Nat} (h:p<s.length):rns (s.drop p)=(dec s p).1::rns (s.drop (p+(dec s p).2)):=by
 rw [ZnD (by simp;omega),Zx1,Nat.add_zero,List.drop_drop]
theorem Zr1 {Bd:Za} (h:Zib Bd) (n:Nat) (s:List UInt8) (hn:s.length+12≤n) (hs:s.length<100000) (st:St):
  Ok (fun o=>o=(.val [.bool (Zdb s)],st)) (run Bd n 26 [.str s] st):=by
 obtain ⟨n,rfl⟩: ∃m,n=m+9:=⟨n-9,by omega⟩
 rw [Zf,h.eq]
 unfold Zfk
 simp only [J_s,D_nil]
 rw [Zb]
 refine Zl _ (fun k x s2=>∃(p c:Nat),x=[.int .i64 c,.nat p]∧p≤s.length∧s.length-p≤k∧s2=st∧c≤8∧(decide (0<c+(rns (s.drop p)).length)&&(decide (c+(rns (s.drop p)).length≤8)&&(rns (s.drop p)).all fun r=>ofI r))=Zdb s)
  ?_ s.length (n+8) _ _ ⟨0,0,rfl,Nat.zero_le _,by omega,rfl,by omega,by simp only [Nat.zero_add,List.drop_zero];rfl⟩ (by omega)
 rintro k _ s2 ⟨p,c,rfl,hp,hk,rfl,hc,hb⟩ rec hrec
 simp only [J_i,J_n,D_nil]
 by_cases hlt:p<s.length
 ·have hw:=ZfU s p
  have hle:=Zll s p hlt
  rw [ZtH hlt] at hb
  simp only [List.length_cons,List.all_cons] at hb
  have hblt:Nat.blt p s.length=true:=by rw [Nat.blt_eq];exact hlt
  simp only [hblt,cond_true,Zix,runeW,Ze (x:=(c:Int)+1) (by omega) (by omega),Zb,J_b,D_nil]
  by_cases h8:c=8
  ·subst h8
   rw [decide_eq_false (show ¬8+((rns (s.drop (p+(dec s p).2))).length+1)≤8 by omega)] at hb
   simp only [Bool.false_and,Bool.and_false] at hb
   have e:decide (((8:Nat):Int)+1>8)=true:=rfl
   simp only [e,cond_true,Zc]
   exact .mk (by rw [hb])
  ·have e:decide ((c:Int)+1>8)=false:=decide_eq_false (by omega)
   simp only [e,cond_false]
   rw [Zj (ZvY h.q130 n _ s2)]
   simp only [J_b,D_nil]
   cases ho:ofI ((dec s p).1:Int) with
   |false=>
    simp only [Bool.not_false,cond_true,Zc]
    rw [ho] at hb
    simp only [Bool.false_and,Bool.and_false] at hb
    exact .mk (by rw [hb])
   |true=>
    simp only [Bool.not_true,cond_false]
    rw [ho] at hb
    refine hrec (s.length-(p+(dec s p).2)) _ _ (by omega) ⟨p+(dec s p).2,c+1,rfl,hle,by omega,rfl,by omega,?_⟩
    rw [←hb,show c+1+(rns (s.drop (p+(dec s p).2))).length=c+((rns (s.drop (p+(dec s p).2))).length+1) by omega]
    simp
 ·have e:Nat.blt p s.length=false:=by rw [Bool.eq_false_iff];intro h;rw [Nat.blt_eq] at h;exact hlt h
  simp only [e,cond_false,Zc]
  rw [List.drop_of_length_le (by omega),Zmj] at hb
  refine .mk ?_
  rw [←hb]
  have:decide ((c:Int)>0)=decide (0<c):=by rw [Bool.eq_iff_iff];simp only [decide_eq_true_eq];omega
  rw [this]
  simp [hc]
end Go.Gv.F
namespace Go.Gv.F
def Tabs (s:St):Prop:=∀(i:Nat) (b:Option Blk),tabs[i]? =some b→s[i]? =some b
theorem Tabs.mono {s s':St} (h:Tabs s) (k:Pre s s'):Tabs s':=fun i b e=>k.get (h i b e)
def digs:List UInt8:=[48,49,50,51,52,53,54,55,56,57,97,98,99,100,101,102,103,104,105,106,107,108,109,110,111,112,113,114,115,116,117,118,119,120,121,122]
def dg (n:Nat):UInt8:=digs.getD n 0
theorem Zv5 (cs:List DV):ov cs []=cs:=by cases cs<;>rfl
theorem Zf9 (d:DV): ∀(cs:List DV) (p:Nat),p<cs.length→spl cs p [d]=cs.set p d
 |[],p,h=>by cases h
 |c::cs,0,_=>by show d::ov cs []=_;rw [Zv5];rfl
 |c::cs,p+1,h=>by show c::spl cs p [d]=_;rw [Zf9 d cs p (by simpa using h)];rfl
theorem Zlg: ∀(l:List UInt8),Zcl (ZE l)=some l
 |[]=>rfl
 |b::l=>by
  show (Zcl (ZE l)).map (UInt8.ofNat _:: ·)=_
  rw [Zlg l]
  simp
theorem D_oct (l:List UInt8) {β:Type} (K:List UInt8→M β):D.oct (ZE l) K=K l:=by unfold D.oct;rw [Zlg]
theorem Zh3 {β:Type} {st:St} {cs:List DV} {o n:Nat} (h:o+n≤cs.length) (K:List DV→M β):M.load st.length o n K (st++[some ⟨false,cs⟩])=K ((cs.drop o).take n) (st++[some ⟨false,cs⟩]):=
 Z7 (f:=false) (all:=cs) (by simp) h K
end Go.Gv.F
namespace Go.Gv.F
theorem ZyI (s:List UInt8) (p k:Nat) (hk:p+k≤s.length):(s.drop p).take k=(List.range k).map fun j=>UInt8.ofNat (oc s (p+j)):=by
 apply List.ext_getElem
 ·simp;omega
 ·intro j h1 h2
  simp only [List.length_take,List.length_drop] at h1
  simp only [List.getElem_take,List.getElem_drop,List.getElem_map,List.getElem_range]
  rw [Zzg (by omega)];simp
def encF (c:Nat):List UInt8:=if c<128 then [UInt8.ofNat c] else if c<2048 then [UInt8.ofNat (192+c/64),UInt8.ofNat (128+c%64)]
  else if c<65536 then [UInt8.ofNat (224+c/4096),UInt8.ofNat (128+c/64%64),UInt8.ofNat (128+c%64)]
  else [UInt8.ofNat (240+c/262144),UInt8.ofNat (128+c/4096%64),UInt8.ofNat (128+c/64%64),UInt8.ofNat (128+c%64)]
theorem Zyk (r:Int):enc r=encF (if Utf8.valid r=true then r.toNat else Utf8.runeError):=by
 unfold enc Utf8.encode
 simp only []
 generalize (if Utf8.valid r=true then r.toNat else Utf8.runeError)=c
 have g1: ∀x,(⟨#[x]⟩:ByteArray).data.toList=[x]:=fun _=>rfl
 have g2: ∀x y,(⟨#[x,y]⟩:ByteArray).data.toList=[x,y]:=fun _ _=>rfl
 have g3: ∀x y z,(⟨#[x,y,z]⟩:ByteArray).data.toList=[x,y,z]:=fun _ _ _=>rfl
 have g4: ∀x y z u,(⟨#[x,y,z,u]⟩:ByteArray).data.toList=[x,y,z,u]:=fun _ _ _ _=>rfl
 unfold encF
 by_cases h1:c<128
 ·rw [if_pos h1,if_pos h1,g1]
 rw [if_neg h1,if_neg h1]
 by_cases h2:c<2048
 ·rw [if_pos h2,if_pos h2,g2]
 rw [if_neg h2,if_neg h2]
 by_cases h3:c<65536
 ·rw [if_pos h3,if_pos h3,g3]
 rw [if_neg h3,if_neg h3,g4]
theorem ZlC (c:Nat) (hv:c<55296∨(57344≤c∧c≤1114111)):enc (c:Int)=encF c:=by
 have v: ∀r:Int,(0≤r∧r<55296)∨(57344≤r∧r≤1114111)→Utf8.valid r=true:=by
  intro r h
  unfold Utf8.valid
  simp only [Bool.or_eq_true,Bool.and_eq_true,decide_eq_true_eq]
  exact h
 rw [Zyk,if_pos (v c (by omega)),Int.toNat_natCast]
theorem ZxM (s:List UInt8) (p:Nat) (hp:p<s.length) (hr:(dec s p).1≠65533):enc ((dec s p).1:Int)=(s.drop p).take (dec s p).2:=by
 have hle:=Zll s p hp
 rw [ZyI s p _ hle]
 revert hr
 have h0:=oc_lt s p
 rw [ZfM]
 by_cases c0:oc s p<128
 ·rw [if_pos c0]
  intro _
  rw [ZlC _ (.inl (by simp only;omega))]
  unfold encF
  rw [if_pos (by simpa using c0)]
  rfl
 rw [if_neg c0]
 by_cases c1:(194≤oc s p∧oc s p≤223)∧(128≤oc s (p+1)∧oc s (p+1)≤191)
 ·rw [if_pos c1]
  intro _
  simp only
  rw [ZlC _ (.inl (by omega))]
  unfold encF
  rw [if_neg (by omega),if_pos (by omega)]
  have e1:192+((oc s p-192)*64+(oc s (p+1)-128))/64=oc s p:=by omega
  have e2:128+((oc s p-192)*64+(oc s (p+1)-128))%64=oc s (p+1):=by omega
  rw [e1,e2]
  rfl
 rw [if_neg c1]
 by_cases c2:(224≤oc s p∧oc s p≤239)∧((if oc s p=224 then 160 else 128)≤oc s (p+1)∧oc s (p+1)≤(if oc s p=237 then 159 else 191))∧(128≤oc s (p+2)∧oc s (p+2)≤191)
 ·rw [if_pos c2]
  intro _
  obtain ⟨a1,⟨b1,b2⟩,d1⟩:=c2
  have hb:128≤oc s (p+1)∧oc s (p+1)≤191∧(oc s p=224→160≤oc s (p+1))∧(oc s p=237→oc s (p+1)≤159):=by
   split at b1<;>split at b2<;>omega
  simp only
  rw [ZlC _ (by omega)]
  unfold encF
  rw [if_neg (by omega),if_neg (by omega),if_pos (by omega)]
  have e1:224+((oc s p-224)*4096+(oc s (p+1)-128)*64+(oc s (p+2)-128))/4096=oc s p:=by omega
  have e2:128+((oc s p-224)*4096+(oc s (p+1)-128)*64+(oc s (p+2)-128))/64%64=oc s (p+1):=by omega
  have e3:128+((oc s p-224)*4096+(oc s (p+1)-128)*64+(oc s (p+2)-128))%64=oc s (p+2):=by omega
  rw [e1,e2,e3]
  rfl
 rw [if_neg c2]
 by_cases c3:(240≤oc s p∧oc s p≤244)∧((if oc s p=240 then 144 else 128)≤oc s (p+1)∧oc s (p+1)≤(if oc s p=244 then 143 else 191))∧(128≤oc s (p+2)∧oc s (p+2)≤191)∧(128≤oc s (p+3)∧oc s (p+3)≤191)
 ·rw [if_pos c3]
  intro _
  obtain ⟨a1,⟨b1,b2⟩,d1,e1⟩:=c3
  have hb:128≤oc s (p+1)∧oc s (p+1)≤191∧(oc s p=240→144≤oc s (p+1))∧(oc s p=244→oc s (p+1)≤143):=by
   split at b1<;>split at b2<;>omega
  simp only
  rw [ZlC _ (by omega)]
  unfold encF
  rw [if_neg (by omega),if_neg (by omega),if_neg (by omega)]
  have e1:240+((oc s p-240)*262144+(oc s (p+1)-128)*4096+(oc s (p+2)-128)*64+(oc s (p+3)-128))/262144=oc s p:=by omega
  have e2:128+((oc s p-240)*262144+(oc s (p+1)-128)*4096+(oc s (p+2)-128)*64+(oc s (p+3)-128))/4096%64=oc s (p+1):=by omega
  have e3:128+((oc s p-240)*262144+(oc s (p+1)-128)*4096+(oc s (p+2)-128)*64+(oc s (p+3)-128))/64%64=oc s (p+2):=by omega
  have e4:128+((oc s p-240)*262144+(oc s (p+1)-128)*4096+(oc s (p+2)-128)*64+(oc s (p+3)-128))%64=oc s (p+3):=by omega
  rw [e1,e2,e3,e4]
  rfl
 rw [if_neg c3]
 intro h
 exact absurd rfl h
end Go.Gv.F
namespace Go.Gv.F
theorem Zyl {Bd:Za} {n g:Nat} {args:List DV} {s:St} (h:Ok (fun o=>∃s',o=(.val [.bool true],s')) (run Bd n g args s)): ∃n s',run Bd n g args s=some (.val [.bool true],s'):=by
 obtain ⟨o,e,s',rfl⟩:=h
 exact ⟨n,s',e⟩
theorem ZcS {n:Int} (h:IntKind.min .i64≤n∧n≤IntKind.max .i64): -9223372036854775808≤n∧n≤9223372036854775807:=by
 have e1:IntKind.min .i64= -9223372036854775808:=by decide
 have e2:IntKind.max .i64=9223372036854775807:=by decide
 rw [e1,e2] at h
 exact h
def ic32 (r:Nat):DV:= .int .i32 (r:Int)
theorem ZkT {Bd:Za} (h:Zis Bd) (n:Nat) (s:List UInt8) (hn:s.length+4≤n) (hs:s.length<1000000) (st:St):
  Ok (fun o=>∃a s',o=(.val [.slice 1 a (rns s).length],s')∧Pre st s'∧Sl s' a ((rns s).map ic32)) (run Bd n 34 [.str s] st):=by
 obtain ⟨n,rfl⟩: ∃m,n=m+1:=⟨n-1,by omega⟩
 rw [Zf,h.eq]
 unfold Zfl
 simp only [J_s,D_nil,Zdg]
 rw [Zb]
 refine Zl _ (fun k x s1=>∃(p:Nat) (a:Option (Nat×Nat)) (z:Nat) (acc:List Nat),x=[.slice z a acc.length,.nat p]∧(z=1∨a=none)∧p≤s.length∧s.length-p≤k∧acc.length≤p∧rns s=acc++rns (s.drop p)∧Own st s1 a (acc.map ic32))
  ?_ s.length n _ _ ⟨0,none,0,[],rfl,.inr rfl,Nat.zero_le _,by omega,Nat.zero_le _,by rw [List.drop_zero];rfl,Own.nil (.refl st)⟩ (by omega)
 rintro k _ s1 ⟨p,a,z,acc,rfl,hz,hp,hk,hl,hr,ho⟩ rec hrec
 simp only [J_n,Zm 1 z a _ hz,D_nil,J_l]
 by_cases hlt:p<s.length
 ·have hblt:Nat.blt p s.length=true:=by rw [Nat.blt_eq];exact hlt
  have hw:=ZfU s p
  have hle:=Zll s p hlt
  rw [hblt,cond_true]
  obtain ⟨q,s2,ho2,hp2⟩:=ho.push (β:=List DV) (sz:=1) (n:=acc.length) (lim:=17592186044416) [ic32 (dec s p).1] (Nat.succ_pos 0) (by simp) rfl (by omega)
  have:=hp2 (fun p1=>rec [.slice 1 p1 (acc.length+1),.nat (p+runeW s p)])
  refine (congrArg (Ok _) this).mpr ?_
  refine hrec (s.length-(p+(dec s p).2)) _ _ (by omega) ⟨p+(dec s p).2,q,1,acc++[(dec s p).1],by simp [runeW],.inl rfl,hle,by omega,by simp;omega,by rw [hr,ZtH hlt];simp,by simpa using ho2⟩
 ·have e:Nat.blt p s.length=false:=by rw [Bool.eq_false_iff];intro h;rw [Nat.blt_eq] at h;exact hlt h
  rw [e,cond_false]
  rw [List.drop_of_length_le (by omega),Zmj,List.append_nil] at hr
  rw [ZS,hr]
  exact .mk ⟨a,_,rfl,ZX ho.1,ho.sl.frz _⟩
end Go.Gv.F
namespace Go.Gv.F
def cmpL:List Nat→List Nat→Int
 |[],[]=>0
 |[],_::_=> -1
 |_::_,[]=>1
 |a::l,b::m=>if a<b then-1 else if b<a then 1 else cmpL l m
theorem ZqR (l m:List Nat) (i:Nat) (hl:i<l.length) (hm:i<m.length):cmpL (l.drop i) (m.drop i)=if l[i]<m[i] then-1 else if m[i]<l[i] then 1 else cmpL (l.drop (i+1)) (m.drop (i+1)):=by
 rw [List.drop_eq_getElem_cons hl,List.drop_eq_getElem_cons hm]
 rfl
theorem Zld {Bd:Za} (h:ZeP Bd) (n:Nat) (x:Int) (st:St):run Bd (n+1) 72 [.int .i32 x] st=some (.val [.bool false],st):=by
 rw [Zf,h.eq]
 unfold ZcY
 simp only [J_i,D_nil,beq_self_eq_true,Bool.not_true,Zc]
theorem ZpT {Bd:Za} (h:Zdw Bd) (n:Nat) (x y:Nat) (st:St):run Bd (n+2) 64 [.int .i32 x,.int .i32 y] st=some (.val [.int .i64 (if x<y then-1 else if y<x then 1 else 0)],st):=by
 rw [Zf,h.eq]
 unfold Zcu
 simp only [J_i,D_nil]
 rw [Zj (Zld h.q30 n _ st)]
 simp only [J_b,D_nil]
 rw [Zj (Zld h.q30 n _ st)]
 simp only [J_b,D_nil,cond_false]
 by_cases h1:x<y
 ·rw [if_pos h1,decide_eq_true (show (x:Int)<(y:Int) by omega),cond_true,Zc]
 ·rw [if_neg h1,decide_eq_false (show ¬(x:Int)<(y:Int) by omega),cond_false]
  by_cases h2:y<x
  ·rw [if_pos h2,decide_eq_true (show (x:Int)>(y:Int) by omega),cond_true,Zc]
  ·rw [if_neg h2,decide_eq_false (show ¬(x:Int)>(y:Int) by omega),cond_false,Zc]
theorem ZmC {Bd:Za} (h:ZbU Bd) (n:Nat) (l m:List Nat) (a b:Option (Nat×Nat)) (st:St) (ha:Sl st a (l.map ic32)) (hb:Sl st b (m.map ic32)) (hn:l.length+4≤n) (hl:l.length<1000000):
  Ok (fun o=>o=(.val [.int .i64 (cmpL l m)],st)) (run Bd n 57 [.slice 1 a l.length,.slice 1 b m.length] st):=by
 obtain ⟨n,rfl⟩: ∃k,n=k+3:=⟨n-3,by omega⟩
 rw [Zf,h.eq]
 unfold Z9
 simp only [J_l,D_nil]
 rw [Zb]
 refine Zl _ (fun k x s2=>∃i:Nat,x=[.int .i64 i]∧i≤l.length∧i≤m.length∧l.length-i≤k∧s2=st∧cmpL l m=cmpL (l.drop i) (m.drop i))
  ?_ l.length (n+2) _ _ ⟨0,rfl,Nat.zero_le _,Nat.zero_le _,by omega,rfl,rfl⟩ (by omega)
 rintro k _ s2 ⟨i,rfl,hi,hi2,hk,rfl,hc⟩ rec hrec
 simp only [J_i,D_nil]
 by_cases hlt:i<l.length
 ·rw [decide_eq_true (show (i:Int)<(l.length:Int) by omega),cond_true]
  obtain ⟨j,o,rfl⟩:=ha.some_of (by simp;omega)
  simp only [nn_some',Zd (Zk hlt),Int.toNat_natCast]
  rw [ha.get1 (d:=ic32 l[i]) (by simp [hlt])]
  unfold ic32
  simp only [D_int]
  by_cases hlt2:i<m.length
  ·rw [decide_eq_false (show ¬(i:Int)≥(m.length:Int) by omega),cond_false]
   obtain ⟨j2,o2,rfl⟩:=hb.some_of (by simp;omega)
   simp only [nn_some',Zd (Zk hlt2)]
   rw [hb.get1 (d:=ic32 m[i]) (by simp [hlt2])]
   unfold ic32
   simp only [D_int]
   rw [Zj (ZpT h.q17 n l[i] m[i] s2)]
   simp only [J_i,D_nil]
   rw [ZqR l m i hlt hlt2] at hc
   by_cases h1:l[i]<m[i]
   ·rw [if_pos h1] at hc⊢
    exact .mk (by rw [hc])
   ·rw [if_neg h1] at hc⊢
    by_cases h2:m[i]<l[i]
    ·rw [if_pos h2] at hc⊢
     exact .mk (by rw [hc])
    ·rw [if_neg h2] at hc⊢
     have e:(!((0:Int)==0))=false:=rfl
     rw [e,cond_false,Ze (by omega) (by omega)]
     exact hrec (k-1) _ _ (by omega) ⟨i+1,rfl,by omega,by omega,by omega,rfl,hc⟩
  ·rw [decide_eq_true (show (i:Int)≥(m.length:Int) by omega),cond_true,Zc]
   rw [List.drop_eq_getElem_cons hlt,List.drop_of_length_le (by omega:m.length≤i)] at hc
   exact .mk (by rw [hc];rfl)
 ·rw [decide_eq_false (show ¬(i:Int)<(l.length:Int) by omega),cond_false]
  rw [List.drop_of_length_le (by omega:l.length≤i)] at hc
  by_cases h2:l.length<m.length
  ·rw [decide_eq_true (show (l.length:Int)<(m.length:Int) by omega),cond_true,Zc]
   rw [List.drop_eq_getElem_cons (show i<m.length by omega)] at hc
   exact .mk (by rw [hc];rfl)
  ·rw [decide_eq_false (show ¬(l.length:Int)<(m.length:Int) by omega),cond_false,Zc]
   rw [List.drop_of_length_le (by omega:m.length≤i)] at hc
   exact .mk (by rw [hc];rfl)
theorem ZnY {Bd:Za} (h:ZfS Bd) (n:Nat) (a b:List UInt8) (hn:a.length+8≤n) (hn2:b.length+8≤n) (ha:a.length<100000) (hb:b.length<100000) (st:St):
  Ok (fun o=>∃s',o=(.val [.int .i64 (cmpL (rns a) (rns b))],s')∧Pre st s') (run Bd n 39 [.str a,.str b] st):=by
 obtain ⟨n,rfl⟩: ∃k,n=k+1:=⟨n-1,by omega⟩
 rw [Zf,h.eq]
 unfold ZdP
 simp only [J_s,D_nil]
 refine Ok.call (ZkT h.q88 n a (by omega) (by omega) st) ?_
 rintro _ ⟨p,s1,rfl,hp1,hs1⟩
 refine ⟨_,s1,rfl,?_⟩
 simp only [J_l,D_nil]
 refine Ok.call (ZkT h.q88 n b (by omega) (by omega) s1) ?_
 rintro _ ⟨q,s2,rfl,hp2,hs2⟩
 refine ⟨_,s2,rfl,?_⟩
 simp only [J_l,D_nil]
 have hr:=ZjL a
 refine Ok.call (ZmC h.q6 n (rns a) (rns b) p q s2 (hs1.mono hp2) hs2 (by omega) (by omega)) ?_
 rintro _ rfl
 refine ⟨_,s2,rfl,?_⟩
 simp only [J_i,D_nil,Zc]
 exact .mk ⟨s2,rfl,hp1.trans hp2⟩
theorem Znt {Bd:Za} (h:Ze8 Bd) (n:Nat) (a b:List UInt8) (hn:a.length+8≤n) (hn2:b.length+8≤n) (ha:a.length<100000) (hb:b.length<100000) (st:St):
  Ok (fun o=>∃s',o=(.val [.int .i64 (cmpL (rns a) (rns b))],s')∧Pre st s') (run Bd n 40 [.str a,.str b] st):=by
 obtain ⟨n,rfl⟩: ∃k,n=k+1:=⟨n-1,by omega⟩
 rw [Zf,h.eq]
 unfold Zdt
 simp only [J_s,D_nil]
 refine Ok.call (ZfT h.q73 n a (by omega) (by omega) st) ?_
 rintro _ ⟨p,s1,rfl,hp1,hs1⟩
 refine ⟨_,s1,rfl,?_⟩
 simp only [J_l,D_nil]
 refine Ok.call (ZfT h.q73 n b (by omega) (by omega) s1) ?_
 rintro _ ⟨q,s2,rfl,hp2,hs2⟩
 refine ⟨_,s2,rfl,?_⟩
 have hs1:=hs1.mono hp2
 have hr1:=ZjL a
 have hr2:=ZjL b
 simp only [J_l,D_nil]
 generalize hl:rns a=l at*
 generalize hm:rns b=m at*
 rw [Zb]
 refine Zl _ (fun k x s3=>∃i:Nat,x=[.int .i64 i]∧i≤l.length∧i≤m.length∧l.length-i≤k∧s3=s2∧cmpL l m=cmpL (l.drop i) (m.drop i))
  ?_ l.length n _ _ ⟨0,rfl,Nat.zero_le _,Nat.zero_le _,by omega,rfl,rfl⟩ (by omega)
 rintro k _ s3 ⟨i,rfl,hi,hi2,hk,rfl,hc⟩ rec hrec
 simp only [J_i,D_nil,ZiO,J_b]
 by_cases hlt:i<l.length
 ·by_cases hlt2:i<m.length
  ·rw [show (bif decide ((i:Int)<(l.length:Int)) then decide ((i:Int)<(m.length:Int)) else false)=true by rw [Bool.cond_false_right,Bool.and_eq_true,decide_eq_true_eq,decide_eq_true_eq];omega,cond_true]
   obtain ⟨j,o,rfl⟩:=hs1.some_of (by simp;omega)
   obtain ⟨j2,o2,rfl⟩:=hs2.some_of (by simp;omega)
   have g1: ∀K:DV→M (List DV),M.load1 j (i*1+o) K s3=K (.int .i64 (l[i]:Int)) s3:=fun K=>hs1.get1 (d:=ic l[i]) (by simp [hlt]) K
   have g2: ∀K:DV→M (List DV),M.load1 j2 (i*1+o2) K s3=K (.int .i64 (m[i]:Int)) s3:=fun K=>hs2.get1 (d:=ic m[i]) (by simp [hlt2]) K
   simp only [nn_some',Zd (Zk hlt),Zd (Zk hlt2),Int.toNat_natCast]
   rw [g1]
   simp only [D_int]
   rw [g2]
   simp only [D_int]
   rw [ZqR l m i hlt hlt2] at hc
   by_cases h1:l[i]<m[i]
   ·rw [if_pos h1] at hc
    rw [decide_eq_true (show (l[i]:Int)<(m[i]:Int) by omega),cond_true,Zc]
    exact .mk ⟨s3,by rw [hc],hp1.trans hp2⟩
   ·rw [if_neg h1] at hc
    rw [decide_eq_false (show ¬(l[i]:Int)<(m[i]:Int) by omega),cond_false,g1]
    simp only [D_int]
    rw [g2]
    simp only [D_int]
    by_cases h2:m[i]<l[i]
    ·rw [if_pos h2] at hc
     rw [decide_eq_true (show (l[i]:Int)>(m[i]:Int) by omega),cond_true,Zc]
     exact .mk ⟨s3,by rw [hc],hp1.trans hp2⟩
    ·rw [if_neg h2] at hc
     rw [decide_eq_false (show ¬(l[i]:Int)>(m[i]:Int) by omega),cond_false,Ze (by omega) (by omega)]
     exact hrec (k-1) _ _ (by omega) ⟨i+1,rfl,by omega,by omega,by omega,rfl,hc⟩
  ·rw [show (bif decide ((i:Int)<(l.length:Int)) then decide ((i:Int)<(m.length:Int)) else false)=false by rw [Bool.cond_false_right,Bool.and_eq_false_iff,decide_eq_false_iff_not,decide_eq_false_iff_not];omega,cond_false]
   rw [List.drop_eq_getElem_cons hlt,List.drop_of_length_le (by omega:m.length≤i)] at hc
   rw [decide_eq_false (show ¬(l.length:Int)<(m.length:Int) by omega),cond_false,decide_eq_true (show (l.length:Int)>(m.length:Int) by omega),cond_true,Zc]
   exact .mk ⟨s3,by rw [hc];rfl,hp1.trans hp2⟩
 ·rw [show (bif decide ((i:Int)<(l.length:Int)) then decide ((i:Int)<(m.length:Int)) else false)=false by rw [Bool.cond_false_right,Bool.and_eq_false_iff,decide_eq_false_iff_not,decide_eq_false_iff_not];omega,cond_false]
  rw [List.drop_of_length_le (by omega:l.length≤i)] at hc
  by_cases h2:l.length<m.length
  ·rw [decide_eq_true (show (l.length:Int)<(m.length:Int) by omega),cond_true,Zc]
   rw [List.drop_eq_getElem_cons (show i<m.length by omega)] at hc
   exact .mk ⟨s3,by rw [hc];rfl,hp1.trans hp2⟩
  ·rw [decide_eq_false (show ¬(l.length:Int)<(m.length:Int) by omega),cond_false,decide_eq_false (show ¬(l.length:Int)>(m.length:Int) by omega),cond_false,Zc]
   rw [List.drop_of_length_le (by omega:m.length≤i)] at hc
   exact .mk ⟨s3,by rw [hc];rfl,hp1.trans hp2⟩
theorem eq1 (a:UInt8) (x y:List UInt8):strLt (a::x) (a::y)=strLt x y:=by
 show (decide (a<a)||((a==a)&&strLt x y))=strLt x y
 rw [decide_eq_false (UInt8.lt_irrefl a),beq_self_eq_true,Bool.true_and,Bool.false_or]
theorem eqs: ∀(w x y:List UInt8),strLt (w++x) (w++y)=strLt x y
 |[],_,_=>rfl
 |a::w,x,y=>by rw [List.cons_append,List.cons_append,eq1,eqs w x y]
theorem ZxB (r:Nat) (s:List UInt8) (p:Nat) (hp:p<s.length) (hr:(dec s p).1=r) (ho:r≠65533):encF r=(s.drop p).take (dec s p).2:=by
 have h:=ZxM s p hp (by rw [hr];exact ho)
 rw [←h,hr]
 have hv:r<55296∨(57344≤r∧r≤1114111):=by
  rw [←hr]
  have h0:=oc_lt s p
  rw [ZfM]
  by_cases c0:oc s p<128
  ·rw [if_pos c0];simp only;omega
  rw [if_neg c0]
  by_cases c1:(194≤oc s p∧oc s p≤223)∧(128≤oc s (p+1)∧oc s (p+1)≤191)
  ·rw [if_pos c1];simp only;omega
  rw [if_neg c1]
  by_cases c2:(224≤oc s p∧oc s p≤239)∧((if oc s p=224 then 160 else 128)≤oc s (p+1)∧oc s (p+1)≤(if oc s p=237 then 159 else 191))∧(128≤oc s (p+2)∧oc s (p+2)≤191)
  ·rw [if_pos c2]
   obtain ⟨a1,⟨b1,b2⟩,d1⟩:=c2
   have hb:128≤oc s (p+1)∧oc s (p+1)≤191∧(oc s p=237→oc s (p+1)≤159):=by
    split at b1<;>split at b2<;>omega
   simp only;omega
  rw [if_neg c2]
  by_cases c3:(240≤oc s p∧oc s p≤244)∧((if oc s p=240 then 144 else 128)≤oc s (p+1)∧oc s (p+1)≤(if oc s p=244 then 143 else 191))∧(128≤oc s (p+2)∧oc s (p+2)≤191)∧(128≤oc s (p+3)∧oc s (p+3)≤191)
  ·rw [if_pos c3]
   obtain ⟨a1,⟨b1,b2⟩,d1,e1⟩:=c3
   have hb:128≤oc s (p+1)∧oc s (p+1)≤191∧(oc s p=240→144≤oc s (p+1))∧(oc s p=244→oc s (p+1)≤143):=by
    split at b1<;>split at b2<;>omega
   simp only;omega
  rw [if_neg c3];simp only;omega
 exact (ZlC r hv).symm
theorem Zsr (s:List UInt8): ∀(k p:Nat),s.length-p≤k→p≤s.length→(∀r∈rns (s.drop p),r≠65533)→(rns (s.drop p)).flatMap encF=s.drop p
 |k,p,hk,hp,h=>by
  by_cases hlt:p<s.length
  ·rw [ZtH hlt] at h⊢
   have hw:=ZfU s p
   have hle:=Zll s p hlt
   rw [List.flatMap_cons,ZxB _ s p hlt rfl (h _ (by simp))]
   match k,hk with
   |0,hk=>omega
   |k+1,hk=>
    rw [Zsr s k (p+(dec s p).2) (by omega) hle (fun r hr=>h r (by simp [hr])),←List.drop_drop,List.take_append_drop]
  ·rw [List.drop_of_length_le (by omega),Zmj];rfl
end Go.Gv.F
