/- Lines and words. -/
import Derived.Test.YtegglibipjjblaaGreatDoorGvZLib
import Derived.Test.YtegglibipjjblaaGreatDoorGvZLaw
import Derived.Test.YtegglibipjjblaaGreatDoorGvZBod
namespace Go.Gv.F
set_option linter.unusedSimpArgs false
theorem Zl {i n:Nat} (h:i<n):inB (i:Int) n=true:=by unfold inB;simp;omega
theorem Zd {x:Int} (h1: -9223372036854775808≤x) (h2:x<9223372036854775808):wr64 x=x:=by
 unfold wr64;exact IntWalk.i64_in _ (by omega)
theorem ZeV {Bd:Za} (h:Zfx Bd) (n:Nat) (s:List UInt8) (k lo hi:Nat) (hlo:0<lo) (st:St):
  run Bd (n+1) 19 [.str s,.int .i64 k,.int .u8 lo,.int .u8 hi] st=some (.val [.bool (decide (lo≤oc s k∧oc s k≤hi))],st):=by
 rw[Zf,h.eq];unfold Zdv;simp only[J_s,J_i,D_nil,Zc,J_b,ZgZ];by_cases hk:k<s.length
 ·have e:decide ((k:Int)<(s.length:Int))=true:=by simpa using hk
  simp only[e,cond_true,Ze (Zl hk)];by_cases h1:lo≤oc s k
  ·have e1:decide ((oc s k:Int)≥(lo:Int))=true:=by simpa using h1
   simp only[e1,cond_true,Zb];congr 5;simp[h1]
  ·have e1:decide ((oc s k:Int)≥(lo:Int))=false:=by simpa using h1
   simp only[e1,cond_false,Zb];simp[h1]
 ·have e:decide ((k:Int)<(s.length:Int))=false:=by simpa using hk
  simp only[e,cond_false,Zb];rw[Zpi (by omega)];have: ¬lo≤0:=by omega
  simp[this]
theorem Zzj (s:List UInt8):ZC s 0=(oc s 0:Int):=ZgZ s 0
theorem Zy8 (s:List UInt8):ZC s 1=(oc s 1:Int):=ZgZ s 1
theorem Zzd (s:List UInt8):ZC s 2=(oc s 2:Int):=ZgZ s 2
theorem Zzm (s:List UInt8):ZC s 3=(oc s 3:Int):=ZgZ s 3
theorem ZlL {s:List UInt8} {k:Nat} (h:0<oc s k):k<s.length:=by
 rcases Nat.lt_or_ge k s.length with h'|h'
 ·exact h'
 ·rw[Zpi h']at h;omega
theorem Zyk {n:Nat} (h:1<n):inB 1 n=true:=Zl h
theorem ZyO {n:Nat} (h:0<n):inB 0 n=true:=Zl h
theorem Zx7 {n:Nat} (h:2<n):inB 2 n=true:=Zl h
theorem ZyH {n:Nat} (h:3<n):inB 3 n=true:=Zl h
theorem fin3 (a b c:Nat) (r2:224≤a∧a≤239) (h1:128≤b) (h2:b≤191) (h3:128≤c) (h4:c≤191) (st:St):
  (some (Out.val [DV.int .i64 (wr64 ((wr64 ((wr64 ((wr64 (IntKind.wrap .u8 ((a:Int)-224)))*4096))+(wr64 ((wr64 (IntKind.wrap .u8 ((b:Int)-128)))*64))))+(wr64 (IntKind.wrap .u8 ((c:Int)-128))))),.int .i64 3],st):Option (Out (List DV)×St))=
   some (.val [.int .i64 (((a-224)*4096+(b-128)*64+(c-128):Nat):Int),.int .i64 ((3:Nat):Int)],st):=by
 rw[IntWalk.u8_in _ (by omega),IntWalk.u8_in _ (by omega),IntWalk.u8_in _ (by omega),Zd (x:=(a:Int)-224) (by omega) (by omega),Zd (x:=(b:Int)-128) (by omega) (by omega),Zd (x:=(c:Int)-128) (by omega) (by omega),
  Zd (x:=((a:Int)-224)*4096) (by omega) (by omega),Zd (x:=((b:Int)-128)*64) (by omega) (by omega),Zd (x:=((a:Int)-224)*4096+((b:Int)-128)*64) (by omega) (by omega),Zd (by omega) (by omega)]
 have e:((a:Int)-224)*4096+((b:Int)-128)*64+((c:Int)-128)=(((a-224)*4096+(b-128)*64+(c-128):Nat):Int):=by omega
 rw[e];rfl
theorem fin4 (a b c d:Nat) (r3:240≤a∧a≤244) (h1:128≤b) (h2:b≤191) (h3:128≤c) (h4:c≤191) (h5:128≤d) (h6:d≤191) (st:St):
  (some (Out.val [DV.int .i64 (wr64 ((wr64 ((wr64 ((wr64 ((wr64 (IntKind.wrap .u8 ((a:Int)-240)))*262144))+(wr64 ((wr64 (IntKind.wrap .u8 ((b:Int)-128)))*4096))))+(wr64 ((wr64 (IntKind.wrap .u8 ((c:Int)-128)))*64))))+(wr64 (IntKind.wrap .u8 ((d:Int)-128))))),.int .i64 4],st):Option (Out (List DV)×St))=
   some (.val [.int .i64 (((a-240)*262144+(b-128)*4096+(c-128)*64+(d-128):Nat):Int),.int .i64 ((4:Nat):Int)],st):=by
 rw[IntWalk.u8_in _ (by omega),IntWalk.u8_in _ (by omega),IntWalk.u8_in _ (by omega),IntWalk.u8_in _ (by omega),Zd (x:=(a:Int)-240) (by omega) (by omega),Zd (x:=(b:Int)-128) (by omega) (by omega),Zd (x:=(c:Int)-128) (by omega) (by omega),Zd (x:=(d:Int)-128) (by omega) (by omega),
  Zd (x:=((a:Int)-240)*262144) (by omega) (by omega),Zd (x:=((b:Int)-128)*4096) (by omega) (by omega),Zd (x:=((c:Int)-128)*64) (by omega) (by omega),Zd (x:=((a:Int)-240)*262144+((b:Int)-128)*4096) (by omega) (by omega),Zd (x:=((a:Int)-240)*262144+((b:Int)-128)*4096+((c:Int)-128)*64) (by omega) (by omega),Zd (by omega) (by omega)]
 have e:((a:Int)-240)*262144+((b:Int)-128)*4096+((c:Int)-128)*64+((d:Int)-128)=(((a-240)*262144+(b-128)*4096+(c-128)*64+(d-128):Nat):Int):=by omega
 rw[e];rfl
theorem Zp0 {Bd:Za} (h:Zhl Bd) (n:Nat) (s:List UInt8) (hs:0<s.length) (st:St):
  run Bd (n+2) 15 [.str s] st=some (.val [.int .i64 ((dec s 0).1:Int),.int .i64 ((dec s 0).2:Int)],st):=by
 have h0:=oc_lt s 0;have h1:=oc_lt s 1;have h2:=oc_lt s 2;have h3:=oc_lt s 3;have f1: ∀lo hi:Nat,0<lo→run Bd (n+1) 19 [.str s,.int .i64 1,.int .u8 lo,.int .u8 hi] st=some (.val [.bool (decide (lo≤oc s 1∧oc s 1≤hi))],st):=fun lo hi hlo=>ZeV h.q42 n s 1 lo hi hlo st
 have f2:run Bd (n+1) 19 [.str s,.int .i64 2,.int .u8 128,.int .u8 191] st=some (.val [.bool (decide (128≤oc s 2∧oc s 2≤191))],st):=ZeV h.q42 n s 2 128 191 (by omega) st;have f3:run Bd (n+1) 19 [.str s,.int .i64 3,.int .u8 128,.int .u8 191] st=some (.val [.bool (decide (128≤oc s 3∧oc s 3≤191))],st):=ZeV h.q42 n s 3 128 191 (by omega) st;have g1:run Bd (n+1) 19 [.str s,.int .i64 1,.int .u8 128,.int .u8 191] st=_:=f1 128 191 (by omega);have g2:run Bd (n+1) 19 [.str s,.int .i64 1,.int .u8 160,.int .u8 191] st=_:=f1 160 191 (by omega);have g3:run Bd (n+1) 19 [.str s,.int .i64 1,.int .u8 128,.int .u8 159] st=_:=f1 128 159 (by omega);have g4:run Bd (n+1) 19 [.str s,.int .i64 1,.int .u8 144,.int .u8 191] st=_:=f1 144 191 (by omega);have g5:run Bd (n+1) 19 [.str s,.int .i64 1,.int .u8 128,.int .u8 143] st=_:=f1 128 143 (by omega);rw[Zf,h.eq];unfold Zev;simp only[J_s,D_nil,Ze (ZyO hs),Zzj,Zy8,Zzd,Zzm,Bool.cond_decide];rw[Zh1];simp only[Nat.zero_add];generalize oc s 0=a at*
 generalize hb:oc s 1=b at*
 generalize hc:oc s 2=c at*
 generalize hd:oc s 3=d at*
 have l1:0<b→inB 1 s.length=true:=fun h=>Zyk (ZlL (by omega))
 have l2:0<c→inB 2 s.length=true:=fun h=>Zx7 (ZlL (by omega))
 have l3:0<d→inB 3 s.length=true:=fun h=>ZyH (ZlL (by omega))
 by_cases c0:a<128
 ·rw[if_pos (by omega),if_pos c0,Zd (by omega) (by omega)];rfl
 rw[if_neg (by omega),if_neg c0];by_cases r1:194≤a∧a≤223
 ·have e1:(a:Int)≥194:=by omega
  have e2:(a:Int)≤223:=by omega
  have e3: ¬(a:Int)≥224:=by omega
  have e4: ¬(a:Int)≥240:=by omega
  simp only[Zc,J_b,D_nil,if_pos e1,decide_eq_true e2,cond_true,Zi g1];by_cases k:128≤b∧b≤191
  ·simp only[decide_eq_true k,cond_true,Ze (l1 (by omega)),Zb]
   rw[if_pos ⟨r1,k⟩,IntWalk.u8_in _ (by omega),IntWalk.u8_in _ (by omega),Zd (x:=(a:Int)-192) (by omega) (by omega),Zd (x:=(b:Int)-128) (by omega) (by omega),Zd (x:=((a:Int)-192)*64) (by omega) (by omega),Zd (by omega) (by omega)];have:(a:Int)-192=((a-192:Nat):Int):=by omega
   have:(b:Int)-128=((b-128:Nat):Int):=by omega
   simp[*]
  ·simp only[decide_eq_false k,cond_false,if_neg e3,if_neg e4,J_b,D_nil,Zb]
   rw[if_neg (by rintro⟨_,h⟩;exact k h),if_neg (by omega),if_neg (by omega)];rfl
 by_cases r2:224≤a∧a≤239
 ·have e1:(a:Int)≥194:=by omega
  have e2: ¬(a:Int)≤223:=by omega
  have e3:(a:Int)≥224:=by omega
  have e4:(a:Int)≤239:=by omega
  by_cases y1:a=224
  ·subst y1
   have x1:(((224:Nat):Int)==224)=true:=rfl;have x2:(((224:Nat):Int)==237)=false:=rfl;simp only[Zc,J_b,J_i,D_nil,if_pos e1,decide_eq_false e2,cond_false,if_pos e3,decide_eq_true e4,cond_true,x1,x2,Zi g2,Zb];by_cases k:160≤b∧b≤191
   ·by_cases k2:128≤c∧c≤191
    ·simp only[decide_eq_true k,decide_eq_true k2,cond_true,Zi f2,J_b,D_nil,Ze (l1 (by omega)),Ze (l2 (by omega)),Zb]
     rw[if_neg (by omega),if_pos ⟨r2,by simpa using k,k2⟩];exact fin3 224 b c r2 (by omega) (by omega) (by omega) (by omega) st
    ·simp only[decide_eq_true k,decide_eq_false k2,cond_true,cond_false,Zi f2,J_b,D_nil,Zb]
     rw[if_neg (by omega),if_neg (by rintro⟨_,_,h⟩;exact k2 h),if_neg (by omega)];rfl
   ·simp only[decide_eq_false k,cond_false,J_b,D_nil,Zb]
    rw[if_neg (by omega),if_neg (by rintro⟨_,h,_⟩;exact k (by simpa using h)),if_neg (by omega)];rfl
  ·by_cases y2:a=237
   ·subst y2
    have x1:(((237:Nat):Int)==224)=false:=rfl;have x2:(((237:Nat):Int)==237)=true:=rfl;simp only[Zc,J_b,J_i,D_nil,if_pos e1,decide_eq_false e2,cond_false,if_pos e3,decide_eq_true e4,cond_true,x1,x2,Zi g3,Zb];by_cases k:128≤b∧b≤159
    ·by_cases k2:128≤c∧c≤191
     ·simp only[decide_eq_true k,decide_eq_true k2,cond_true,Zi f2,J_b,D_nil,Ze (l1 (by omega)),Ze (l2 (by omega)),Zb]
      rw[if_neg (by omega),if_pos ⟨r2,by simpa using k,k2⟩];exact fin3 237 b c r2 (by omega) (by omega) (by omega) (by omega) st
     ·simp only[decide_eq_true k,decide_eq_false k2,cond_true,cond_false,Zi f2,J_b,D_nil,Zb]
      rw[if_neg (by omega),if_neg (by rintro⟨_,_,h⟩;exact k2 h),if_neg (by omega)];rfl
    ·simp only[decide_eq_false k,cond_false,J_b,D_nil,Zb]
     rw[if_neg (by omega),if_neg (by rintro⟨_,h,_⟩;exact k (by simpa using h)),if_neg (by omega)];rfl
   ·have x1:((a:Int)==224)=false:=by rw[beq_eq_false_iff_ne];omega
    have x2:((a:Int)==237)=false:=by rw[beq_eq_false_iff_ne];omega
    simp only[Zc,J_b,J_i,D_nil,if_pos e1,decide_eq_false e2,cond_false,if_pos e3,decide_eq_true e4,cond_true,x1,x2,Zi g1,Zb,if_neg y1,if_neg y2];by_cases k:128≤b∧b≤191
    ·by_cases k2:128≤c∧c≤191
     ·simp only[decide_eq_true k,decide_eq_true k2,cond_true,Zi f2,J_b,D_nil,Ze (l1 (by omega)),Ze (l2 (by omega)),Zb]
      rw[if_neg (by omega),if_pos ⟨r2,k,k2⟩];exact fin3 a b c r2 (by omega) (by omega) (by omega) (by omega) st
     ·simp only[decide_eq_true k,decide_eq_false k2,cond_true,cond_false,Zi f2,J_b,D_nil,Zb]
      rw[if_neg (by omega),if_neg (by rintro⟨_,_,h⟩;exact k2 h),if_neg (by omega)];rfl
    ·simp only[decide_eq_false k,cond_false,J_b,D_nil,Zb]
     rw[if_neg (by omega),if_neg (by rintro⟨_,h,_⟩;exact k h),if_neg (by omega)];rfl
 by_cases r3:240≤a∧a≤244
 ·have e1:(a:Int)≥194:=by omega
  have e2: ¬(a:Int)≤223:=by omega
  have e3:(a:Int)≥224:=by omega
  have e4: ¬(a:Int)≤239:=by omega
  have e5:(a:Int)≥240:=by omega
  have e6:(a:Int)≤244:=by omega
  by_cases y1:a=240
  ·subst y1
   have x1:(((240:Nat):Int)==240)=true:=rfl;have x2:(((240:Nat):Int)==244)=false:=rfl;simp only[Zc,J_b,J_i,D_nil,if_pos e1,decide_eq_false e2,cond_false,if_pos e3,decide_eq_false e4,if_pos e5,decide_eq_true e6,cond_true,x1,x2,Zi g4,Zb];by_cases k:144≤b∧b≤191
   ·by_cases k2:128≤c∧c≤191
    ·by_cases k3:128≤d∧d≤191
     ·simp only[decide_eq_true k,decide_eq_true k2,decide_eq_true k3,cond_true,Zi f2,Zi f3,J_b,D_nil,Ze (l1 (by omega)),Ze (l2 (by omega)),Ze (l3 (by omega)),Zb]
      rw[if_neg (by omega),if_neg (by omega),if_pos ⟨r3,by simpa using k,k2,k3⟩];exact fin4 240 b c d r3 (by omega) (by omega) (by omega) (by omega) (by omega) (by omega) st
     ·simp only[decide_eq_true k,decide_eq_true k2,decide_eq_false k3,cond_true,cond_false,Zi f2,Zi f3,J_b,D_nil,Zb]
      rw[if_neg (by omega),if_neg (by omega),if_neg (by rintro⟨_,_,_,h⟩;exact k3 h)];rfl
    ·simp only[decide_eq_true k,decide_eq_false k2,cond_true,cond_false,Zi f2,J_b,D_nil,Zb]
     rw[if_neg (by omega),if_neg (by omega),if_neg (by rintro⟨_,_,h,_⟩;exact k2 h)];rfl
   ·simp only[decide_eq_false k,cond_false,J_b,D_nil,Zb]
    rw[if_neg (by omega),if_neg (by omega),if_neg (by rintro⟨_,h,_⟩;exact k (by simpa using h))];rfl
  ·by_cases y2:a=244
   ·subst y2
    have x1:(((244:Nat):Int)==240)=false:=rfl;have x2:(((244:Nat):Int)==244)=true:=rfl;simp only[Zc,J_b,J_i,D_nil,if_pos e1,decide_eq_false e2,cond_false,if_pos e3,decide_eq_false e4,if_pos e5,decide_eq_true e6,cond_true,x1,x2,Zi g5,Zb];by_cases k:128≤b∧b≤143
    ·by_cases k2:128≤c∧c≤191
     ·by_cases k3:128≤d∧d≤191
      ·simp only[decide_eq_true k,decide_eq_true k2,decide_eq_true k3,cond_true,Zi f2,Zi f3,J_b,D_nil,Ze (l1 (by omega)),Ze (l2 (by omega)),Ze (l3 (by omega)),Zb]
       rw[if_neg (by omega),if_neg (by omega),if_pos ⟨r3,by simpa using k,k2,k3⟩];exact fin4 244 b c d r3 (by omega) (by omega) (by omega) (by omega) (by omega) (by omega) st
      ·simp only[decide_eq_true k,decide_eq_true k2,decide_eq_false k3,cond_true,cond_false,Zi f2,Zi f3,J_b,D_nil,Zb]
       rw[if_neg (by omega),if_neg (by omega),if_neg (by rintro⟨_,_,_,h⟩;exact k3 h)];rfl
     ·simp only[decide_eq_true k,decide_eq_false k2,cond_true,cond_false,Zi f2,J_b,D_nil,Zb]
      rw[if_neg (by omega),if_neg (by omega),if_neg (by rintro⟨_,_,h,_⟩;exact k2 h)];rfl
    ·simp only[decide_eq_false k,cond_false,J_b,D_nil,Zb]
     rw[if_neg (by omega),if_neg (by omega),if_neg (by rintro⟨_,h,_⟩;exact k (by simpa using h))];rfl
   ·have x1:((a:Int)==240)=false:=by rw[beq_eq_false_iff_ne];omega
    have x2:((a:Int)==244)=false:=by rw[beq_eq_false_iff_ne];omega
    simp only[Zc,J_b,J_i,D_nil,if_pos e1,decide_eq_false e2,cond_false,if_pos e3,decide_eq_false e4,if_pos e5,decide_eq_true e6,cond_true,x1,x2,Zi g1,Zb,if_neg y1,if_neg y2];by_cases k:128≤b∧b≤191
    ·by_cases k2:128≤c∧c≤191
     ·by_cases k3:128≤d∧d≤191
      ·simp only[decide_eq_true k,decide_eq_true k2,decide_eq_true k3,cond_true,Zi f2,Zi f3,J_b,D_nil,Ze (l1 (by omega)),Ze (l2 (by omega)),Ze (l3 (by omega)),Zb]
       rw[if_neg (by omega),if_neg (by omega),if_pos ⟨r3,k,k2,k3⟩];exact fin4 a b c d r3 (by omega) (by omega) (by omega) (by omega) (by omega) (by omega) st
      ·simp only[decide_eq_true k,decide_eq_true k2,decide_eq_false k3,cond_true,cond_false,Zi f2,Zi f3,J_b,D_nil,Zb]
       rw[if_neg (by omega),if_neg (by omega),if_neg (by rintro⟨_,_,_,h⟩;exact k3 h)];rfl
     ·simp only[decide_eq_true k,decide_eq_false k2,cond_true,cond_false,Zi f2,J_b,D_nil,Zb]
      rw[if_neg (by omega),if_neg (by omega),if_neg (by rintro⟨_,_,h,_⟩;exact k2 h)];rfl
    ·simp only[decide_eq_false k,cond_false,J_b,D_nil,Zb]
     rw[if_neg (by omega),if_neg (by omega),if_neg (by rintro⟨_,h,_⟩;exact k (h))];rfl
 ·have e1:(a:Int)≥194∨¬(a:Int)≥194:=Classical.em _
  have e2: ¬(a:Int)≤223∨¬(a:Int)≥194:=by omega
  have e4: ¬(a:Int)≤239∨¬(a:Int)≥224:=by omega
  have e6: ¬(a:Int)≤244∨¬(a:Int)≥240:=by omega
  rw[if_neg (by omega),if_neg (by omega),if_neg (by omega)];simp only[Zc,J_b,D_nil];rcases e2 with e|e<;>rcases e4 with f|f<;>rcases e6 with g|g<;>(simp only[e,f,g,decide_false,if_false,cond_false,ite_self,Zb];rfl)
def ic (r:Nat):DV:= .int .i64 (r:Int)
theorem ZfZ {Bd:Za} (h:Zeo Bd) (n:Nat) (s:List UInt8) (hn:s.length+4≤n) (hs:s.length<1000000) (st:St):
  Ok (fun o=>∃a s',o=(.val [.slice 1 a (rns s).length],s')∧Pre st s'∧Sl s' a ((rns s).map ic)) (run Bd n 12 [.str s] st):=by
 obtain⟨n,rfl⟩: ∃m,n=m+3:=⟨n-3,by omega⟩;rw[Zf,h.eq];unfold Zeu;simp only[J_s,D_nil,Zb6,Zc];refine Zk _ (fun k x s1=>∃(t:List UInt8) (a:Option (Nat×Nat)) (z:Nat) (acc:List Nat),x=[.str t,.slice z a acc.length]∧(z=1∨a=none)∧t.length≤k∧acc.length+t.length≤s.length∧rns s=acc++rns t∧Own st s1 a (acc.map ic))
  ?_ s.length (n+2) _ _ ⟨s,none,0,[],rfl,.inr rfl,Nat.le_refl _,by simp,rfl,Own.nil (.refl st)⟩ (by omega)
 rintro k _ s1 ⟨t,a,z,acc,rfl,hz,hk,hl,hr,ho⟩ rec hrec;simp only[J_s,Zm 1 z a _ hz,D_nil,Bool.cond_decide,J_l];by_cases ht:(t.length:Int)>0
 ·rw[if_pos ht]
  have ht':0<t.length:=by omega
  have hw:=ZhM t 0;have hle:=Ztm t 0 ht';rw[Zi (Zp0 h.q74 n t ht' s1)];simp only[J_i,D_nil];obtain⟨p,s2,ho2,hp⟩:=ho.push (β:=List DV) (sz:=1) (n:=acc.length) (lim:=8796093022208) [ic (dec t 0).1] (Nat.succ_pos 0) (by simp) rfl (by omega);have:=hp (fun p=>M.chk (decide (0≤((dec t 0).2:Int))&&decide (((dec t 0).2:Int)≤(t.length:Int))) (rec [.str (t.drop ((dec t 0).2:Int).toNat),.slice 1 p (acc.length+1)]));refine(congrArg (Ok _) this).mpr ?_;rw[Ze (by simp;omega)];refine hrec (t.length-1) _ _ (by omega) ⟨t.drop (dec t 0).2,p,1,acc++[(dec t 0).1],by simp,.inl rfl,by simp;omega,by simp;omega,by rw[hr,Zns ht'];simp,by simpa using ho2⟩
 ·rw[if_neg ht]
  have ht':t=[]:=List.eq_nil_of_length_eq_zero (by omega);subst ht';rw[Zqf,List.append_nil]at hr;rw[ZE,hr];exact .mk ⟨a,_,rfl,ZL ho.1,ho.sl.frz _⟩
def Zz8 (r:Nat):Bool:=(decide (r<32)&& !(r==9))||r==127||r==65533
def flush (w:List UInt8):List (List UInt8):=if w=[]then[]else[w]
def ZoL:List UInt8→List UInt8→List (List UInt8)
 |[],w=>flush w
 |c::r,w=>if c=35 then flush w else if c=32∨c=9 then flush w++ZoL r []else ZoL r (w++[c])
def ZvP (line:List UInt8):Int×List (List UInt8):=
 if (rns line).any Zz8 then(41,[])else if (ZoL line []).length>40 then(40,[])else(0,ZoL line [])
def ZzT (w:List UInt8):Prop:=ZvP w=(0,[w])
instance (w:List UInt8):Decidable (ZzT w):=inferInstanceAs (Decidable (ZvP w=(0,[w])))
end Go.Gv.F
namespace Go.Gv.F
theorem ZcS {β:Type} (F:(List DV→M β)→List DV→M β) (m:Nat) (st:List DV):M.loop F (m+1) st=F (M.loop F m) st:=rfl
theorem D_len {β:Type} {cs:List DV} {n:Nat} (h:cs.length=n) (K:M β):D.len cs n K=K:=by
 unfold D.len;rw[h];simp
def ofI (r:Int):Bool:=(decide (r≥97)&&decide (r≤122))||((decide (r≥65)&&decide (r≤90))||((decide (r≥48)&&decide (r≤57))||(r==45||(r==95||(decide (r≥161)&&decide (r≤65519))))))
theorem Zuv {Bd:Za} (h:ZkB Bd) (n:Nat) (r:Int) (st:St):run Bd (n+1) 29 [.int .i64 r] st=some (.val [.bool (ofI r)],st):=by
 rw[Zf,h.eq];unfold Zhx ofI;simp only[J_i,D_nil,ZiZ,J_b,Zb,Bool.cond_true_left,Bool.cond_false_right,Bool.or_assoc]
def Zeh:List DV:=[.int .i32 97,.int .i32 122,.int .i32 65,.int .i32 90,.int .i32 48,.int .i32 57,.int .i32 45,.int .i32 45,.int .i32 95,.int .i32 95,.int .i32 161,.int .i32 65519]
theorem ZrI {Bd:Za} (h:Zh5 Bd) (n:Nat) (st:St):run Bd (n+1) 54 [] st=some (.val [.agg Zeh],st):=by
 rw[Zf,h.eq];rfl
theorem Zv4 {Bd:Za} (h:Zlz Bd) (n:Nat) (r:Int) (st:St):run Bd (n+8) 28 [.int .i32 r] st=some (.val [.bool (ofI r)],st):=by
 rw[Zf,h.eq];unfold Zi7;simp only[J_i,D_nil];rw[Zi (ZrI h.q92 (n+6) st)];simp only[J_a,D_nil,D_len (show Zeh.length=12 from rfl)];have step: ∀(rec:List DV→M (List DV)) (i:Nat) (lo hi:Int),i<6→(Zeh.drop (i*2)).take 2=[.int .i32 lo,.int .i32 hi]→
   (fun(x:Int)=>M.chk (inB x 6) (D.len ((Zeh.drop (x.toNat*2)).take 2) 2 (D.nth ((Zeh.drop (x.toNat*2)).take 2) 0 fun d=>D.int .i32 d fun x1=>
    M.join (fun st=>J.b st fun b1 st=>D.nil st<|bif b1 then M.ret [.bool true]else rec [.int .i64 (wr64 (x+1))]) fun jk2=>
    bif decide (r≥x1)then D.nth ((Zeh.drop (x.toNat*2)).take 2) 1 fun d1=>D.int .i32 d1 fun x2=>jk2 [.bool (decide (r≤x2))]else jk2 [.bool false]))) (i:Int)=
   bif (decide (r≥lo)&&decide (r≤hi))then M.ret [.bool true]else rec [.int .i64 ((i+1:Nat):Int)]:=by
  intro rec i lo hi hi6 hd;simp only[Int.toNat_natCast,hd,Ze (Zl hi6),D_len (show([.int .i32 lo,.int .i32 hi]:List DV).length=2 from rfl),Zd (x:=(i:Int)+1) (by omega) (by omega)];unfold D.nth;simp only[List.getElem?_cons_zero,List.getElem?_cons_succ,D_int,ZiZ,J_b,D_nil,Bool.cond_false_right];rfl
 have fin: ∀(l:List (Int×Int)) (i m:Nat),i+l.length=6→(∀(k:Nat) p,l[k]? =some p→(Zeh.drop ((i+k)*2)).take 2=[.int .i32 p.1,.int .i32 p.2])→l.length<m→
   M.loop (fun(rec1:List DV→M (List DV)) st=>J.i .i64 st fun x st=>D.nil st<|bif decide (x<6)then M.chk (inB x 6) (D.len ((Zeh.drop (x.toNat*2)).take 2) 2 (D.nth ((Zeh.drop (x.toNat*2)).take 2) 0 fun d=>D.int .i32 d fun x1=>
    M.join (fun st=>J.b st fun b1 st=>D.nil st<|bif b1 then M.ret [.bool true]else rec1 [.int .i64 (wr64 (x+1))]) fun jk2=>
    bif decide (r≥x1)then D.nth ((Zeh.drop (x.toNat*2)).take 2) 1 fun d1=>D.int .i32 d1 fun x2=>jk2 [.bool (decide (r≤x2))]else jk2 [.bool false]))else(D.nil []<|M.ret [.bool false])) m [.int .i64 (i:Int)] st
   =some (.val [.bool (l.any fun p=>decide (r≥p.1)&&decide (r≤p.2))],st):=by
  intro l;induction l with
  |nil=>
   intro i m hi _ hm;obtain⟨m,rfl⟩: ∃k,m=k+1:=⟨m-1,by simp at hm;omega⟩;simp only[List.length_nil,Nat.add_zero]at hi;subst hi;rw[ZcS];simp only[J_i,D_nil];rfl
  |cons p l ih=>
   intro i m hi hp hm;simp only[List.length_cons]at hi hm;obtain⟨m,rfl⟩: ∃k,m=k+1:=⟨m-1,by omega⟩;rw[ZcS];simp only[J_i,D_nil];rw[decide_eq_true (show(i:Int)<6 by omega),cond_true];refine(congrFun (step _ i p.1 p.2 (by omega) (by have:=hp 0 p rfl;simpa using this)) st).trans ?_;rw[List.any_cons];cases hb:(decide (r≥p.1)&&decide (r≤p.2))with
   |true=>rfl
   |false=>
    rw[cond_false,Bool.false_or];exact ih (i+1) m (by omega) (fun k q hq=>by have:=hp (k+1) q (by simpa using hq);rwa [show i+(k+1)=i+1+k by omega]at this) (by omega)
 have e:ofI r=[((97:Int),(122:Int)),(65,90),(48,57),(45,45),(95,95),(161,65519)].any fun p=>decide (r≥p.1)&&decide (r≤p.2):=by
  unfold ofI;have e1:(r==45)=(decide (r≥45)&&decide (r≤45)):=by rw[Bool.eq_iff_iff];simp only[beq_iff_eq,Bool.and_eq_true,decide_eq_true_eq];omega
  have e2:(r==95)=(decide (r≥95)&&decide (r≤95)):=by rw[Bool.eq_iff_iff];simp only[beq_iff_eq,Bool.and_eq_true,decide_eq_true_eq];omega
  rw[e1,e2];simp only[List.any_cons,List.any_nil,Bool.or_false]
 rw[e,Zc];refine fin _ 0 (n+7) rfl (fun k p hp=>?_) (by simp)
 match k,hp with
 |0,hp=>cases hp;rfl
 |1,hp=>cases hp;rfl
 |2,hp=>cases hp;rfl
 |3,hp=>cases hp;rfl
 |4,hp=>cases hp;rfl
 |5,hp=>cases hp;rfl
 |k+6,hp=>simp at hp
def Zdx (s:List UInt8):Bool:=decide (0<(rns s).length)&&(decide ((rns s).length≤8)&&(rns s).all fun r=>ofI r)
theorem Zp6 {Bd:Za} (h:Zhj Bd) (n:Nat) (s:List UInt8) (hn:s.length+6≤n) (hs:s.length<100000) (st:St):
  Ok (fun o=>∃s',o=(.val [.bool (Zdx s)],s')∧Pre st s') (run Bd n 27 [.str s] st):=by
 obtain⟨n,rfl⟩: ∃m,n=m+3:=⟨n-3,by omega⟩;rw[Zf,h.eq];unfold ZeB;simp only[J_s,D_nil];refine Ok.call (ZfZ h.q76 (n+2) s (by omega) (by omega) st) ?_;rintro _ ⟨a,s1,rfl,hp1,hsl⟩;refine⟨_,s1,rfl,?_⟩;have hrl:=Zj0 s;simp only[J_l,D_nil,ZiZ,J_b];rw[Zc];have e0:(bif decide (((rns s).length:Int)>0)then decide (((rns s).length:Int)≤8)else false)=(decide (0<(rns s).length)&&decide ((rns s).length≤8)):=by
  rw[Bool.cond_false_right];congr 1
  ·rw[Bool.eq_iff_iff];simp only[decide_eq_true_eq];omega
  ·rw[Bool.eq_iff_iff];simp only[decide_eq_true_eq];omega
 rw[e0];refine Zk _ (fun k x s2=>∃(i:Nat) (b:Bool),x=[.bool b,.int .i64 i]∧i≤(rns s).length∧(rns s).length-i≤k∧s2=s1∧(b&&((rns s).drop i).all fun r=>ofI r)=Zdx s)
  ?_ (rns s).length (n+2) _ _ ⟨0,_,rfl,Nat.zero_le _,by omega,rfl,by rw[List.drop_zero];unfold Zdx;rw[Bool.and_assoc]⟩ (by omega)
 rintro k _ s2 ⟨i,b,rfl,hi,hk,rfl,hb⟩ rec hrec;simp only[J_b,J_i,D_nil];by_cases hlt:i<(rns s).length
 ·rw[decide_eq_true (show(i:Int)<((rns s).length:Int) by omega),cond_true]
  have hr:(rns s)[i]? =some (rns s)[i]:=List.getElem?_eq_getElem hlt;rw[List.drop_eq_getElem_cons hlt,List.all_cons]at hb;rw[Zc];cases b with
  |false=>
   simp only[cond_false,J_b,D_nil];exact hrec (k-1) _ _ (by omega) ⟨i+1,false,by rw[Zd (by omega) (by omega)];rfl,by omega,by omega,rfl,by rw[←hb];simp⟩
  |true=>
   obtain⟨j,o,rfl⟩:=hsl.some_of (by simp;omega);simp only[cond_true,nn_some',Ze (Zl hlt),Int.toNat_natCast];rw[hsl.get1 (d:=ic (rns s)[i]) (by simp[hr])];unfold ic;simp only[D_int];rw[Zi (Zuv h.q132 (n+1) _ s2)];simp only[J_b,D_nil];exact hrec (k-1) _ _ (by omega) ⟨i+1,_,by rw[Zd (by omega) (by omega)];rfl,by omega,by omega,rfl,by rw[←hb];simp⟩
 ·rw[decide_eq_false (show ¬(i:Int)<((rns s).length:Int) by omega),cond_false,Zb]
  rw[List.drop_of_length_le (by omega)]at hb;simp only[List.all_nil,Bool.and_true]at hb;exact .mk ⟨s2,by rw[hb],hp1⟩
theorem ZwL {s:List UInt8} {p:Nat} (h:p<s.length):rns (s.drop p)=(dec s p).1::rns (s.drop (p+(dec s p).2)):=by
 rw[Zns (by simp;omega),Zx9,Nat.add_zero,List.drop_drop]
theorem ZrL {Bd:Za} (h:Zh6 Bd) (n:Nat) (s:List UInt8) (hn:s.length+12≤n) (hs:s.length<100000) (st:St):
  Ok (fun o=>o=(.val [.bool (Zdx s)],st)) (run Bd n 26 [.str s] st):=by
 obtain⟨n,rfl⟩: ∃m,n=m+9:=⟨n-9,by omega⟩;rw[Zf,h.eq];unfold ZfE;simp only[J_s,D_nil];rw[Zc];refine Zk _ (fun k x s2=>∃(p c:Nat),x=[.int .i64 c,.nat p]∧p≤s.length∧s.length-p≤k∧s2=st∧c≤8∧(decide (0<c+(rns (s.drop p)).length)&&(decide (c+(rns (s.drop p)).length≤8)&&(rns (s.drop p)).all fun r=>ofI r))=Zdx s)
  ?_ s.length (n+8) _ _ ⟨0,0,rfl,Nat.zero_le _,by omega,rfl,by omega,by simp only[Nat.zero_add,List.drop_zero];rfl⟩ (by omega)
 rintro k _ s2 ⟨p,c,rfl,hp,hk,rfl,hc,hb⟩ rec hrec;simp only[J_i,J_n,D_nil];by_cases hlt:p<s.length
 ·have hw:=ZhM s p
  have hle:=Ztm s p hlt;rw[ZwL hlt]at hb;simp only[List.length_cons,List.all_cons]at hb;have hblt:Nat.blt p s.length=true:=by rw[Nat.blt_eq];exact hlt
  simp only[hblt,cond_true,Ziv,runeW,Zd (x:=(c:Int)+1) (by omega) (by omega),Zc,J_b,D_nil];by_cases h8:c=8
  ·subst h8
   rw[decide_eq_false (show ¬8+((rns (s.drop (p+(dec s p).2))).length+1)≤8 by omega)]at hb;simp only[Bool.false_and,Bool.and_false]at hb;have e:decide (((8:Nat):Int)+1>8)=true:=rfl;simp only[e,cond_true,Zb];exact .mk (by rw[hb])
  ·have e:decide ((c:Int)+1>8)=false:=decide_eq_false (by omega)
   simp only[e,cond_false];rw[Zi (Zv4 h.q136 n _ s2)];simp only[J_b,D_nil];cases ho:ofI ((dec s p).1:Int)with
   |false=>
    simp only[Bool.not_false,cond_true,Zb];rw[ho]at hb;simp only[Bool.false_and,Bool.and_false]at hb;exact .mk (by rw[hb])
   |true=>
    simp only[Bool.not_true,cond_false];rw[ho]at hb;refine hrec (s.length-(p+(dec s p).2)) _ _ (by omega) ⟨p+(dec s p).2,c+1,rfl,hle,by omega,rfl,by omega,?_⟩;rw[←hb,show c+1+(rns (s.drop (p+(dec s p).2))).length=c+((rns (s.drop (p+(dec s p).2))).length+1) by omega];simp
 ·have e:Nat.blt p s.length=false:=by rw[Bool.eq_false_iff];intro h;rw[Nat.blt_eq]at h;exact hlt h
  simp only[e,cond_false,Zb];rw[List.drop_of_length_le (by omega),Zqf]at hb;refine .mk ?_;rw[←hb];have:decide ((c:Int)>0)=decide (0<c):=by rw[Bool.eq_iff_iff];simp only[decide_eq_true_eq];omega
  rw[this];simp[hc]
end Go.Gv.F
namespace Go.Gv.F
def Tabs (s:St):Prop:=∀(i:Nat) (b:Option Blk),tabs[i]? =some b→s[i]? =some b
theorem Tabs.mono {s s':St} (h:Tabs s) (k:Pre s s'):Tabs s':=fun i b e=>k.get (h i b e)
def digs:List UInt8:=[48,49,50,51,52,53,54,55,56,57,97,98,99,100,101,102,103,104,105,106,107,108,109,110,111,112,113,114,115,116,117,118,119,120,121,122]
def dg (n:Nat):UInt8:=digs.getD n 0
theorem ZxI (cs:List DV):ov cs []=cs:=by cases cs<;>rfl
theorem Ze6 (d:DV): ∀(cs:List DV) (p:Nat),p<cs.length→spl cs p [d]=cs.set p d
 |[],p,h=>by cases h
 |c::cs,0,_=>by show d::ov cs []=_;rw[ZxI];rfl
 |c::cs,p+1,h=>by show c::spl cs p [d]=_;rw[Ze6 d cs p (by simpa using h)];rfl
theorem Zmk: ∀(l:List UInt8),ZbX (ZF l)=some l
 |[]=>rfl
 |b::l=>by
  show(ZbX (ZF l)).map (UInt8.ofNat _:: ·)=_;rw[Zmk l];simp
theorem D_oct (l:List UInt8) {β:Type} (K:List UInt8→M β):D.oct (ZF l) K=K l:=by unfold D.oct;rw[Zmk]
theorem Zq7 {β:Type} {st:St} {cs:List DV} {p:Nat} (d:DV) (hp:p<cs.length) (K:M β):M.store st.length p [d] K (st++[some ⟨false,cs⟩])=K (st++[some ⟨false,cs.set p d⟩]):=by
 unfold M.store St.open?;simp only[List.getElem?_concat_length,List.length_singleton,Nat.ble_eq_true_of_le (show p+1≤cs.length by omega),cond_true,Ze6 d cs p hp];rw[List.set_append_right _ _ (Nat.le_refl _),Nat.sub_self];rfl
theorem Zif {β:Type} {st:St} {cs:List DV} {o n:Nat} (h:o+n≤cs.length) (K:List DV→M β):M.load st.length o n K (st++[some ⟨false,cs⟩])=K ((cs.drop o).take n) (st++[some ⟨false,cs⟩]):=
 ZT (f:=false) (all:=cs) (by simp) h K
end Go.Gv.F
namespace Go.Gv.F
end Go.Gv.F
namespace Go.Gv.F
theorem ZzG {Bd:Za} {n g:Nat} {args:List DV} {s:St} (h:Ok (fun o=>∃s',o=(.val [.bool true],s')) (run Bd n g args s)): ∃n s',run Bd n g args s=some (.val [.bool true],s'):=by
 obtain⟨o,e,s',rfl⟩:=h;exact⟨n,s',e⟩
theorem ZcT {n:Int} (h:IntKind.min .i64≤n∧n≤IntKind.max .i64): -9223372036854775808≤n∧n≤9223372036854775807:=by
 have e1:IntKind.min .i64= -9223372036854775808:=by decide
 have e2:IntKind.max .i64=9223372036854775807:=by decide
 rw[e1,e2]at h;exact h
def ic32 (r:Nat):DV:= .int .i32 (r:Int)
theorem Zk4 {Bd:Za} (h:Zij Bd) (n:Nat) (s:List UInt8) (hn:s.length+4≤n) (hs:s.length<1000000) (st:St):
  Ok (fun o=>∃a s',o=(.val [.slice 1 a (rns s).length],s')∧Pre st s'∧Sl s' a ((rns s).map ic32)) (run Bd n 34 [.str s] st):=by
 obtain⟨n,rfl⟩: ∃m,n=m+1:=⟨n-1,by omega⟩;rw[Zf,h.eq];unfold ZfH;simp only[J_s,D_nil,Zb6];rw[Zc];refine Zk _ (fun k x s1=>∃(p:Nat) (a:Option (Nat×Nat)) (z:Nat) (acc:List Nat),x=[.slice z a acc.length,.nat p]∧(z=1∨a=none)∧p≤s.length∧s.length-p≤k∧acc.length≤p∧rns s=acc++rns (s.drop p)∧Own st s1 a (acc.map ic32))
  ?_ s.length n _ _ ⟨0,none,0,[],rfl,.inr rfl,Nat.zero_le _,by omega,Nat.zero_le _,by rw[List.drop_zero];rfl,Own.nil (.refl st)⟩ (by omega)
 rintro k _ s1 ⟨p,a,z,acc,rfl,hz,hp,hk,hl,hr,ho⟩ rec hrec;simp only[J_n,Zm 1 z a _ hz,D_nil,J_l];by_cases hlt:p<s.length
 ·have hblt:Nat.blt p s.length=true:=by rw[Nat.blt_eq];exact hlt
  have hw:=ZhM s p;have hle:=Ztm s p hlt;rw[hblt,cond_true];obtain⟨q,s2,ho2,hp2⟩:=ho.push (β:=List DV) (sz:=1) (n:=acc.length) (lim:=17592186044416) [ic32 (dec s p).1] (Nat.succ_pos 0) (by simp) rfl (by omega);have:=hp2 (fun p1=>rec [.slice 1 p1 (acc.length+1),.nat (p+runeW s p)]);refine(congrArg (Ok _) this).mpr ?_;refine hrec (s.length-(p+(dec s p).2)) _ _ (by omega) ⟨p+(dec s p).2,q,1,acc++[(dec s p).1],by simp[runeW],.inl rfl,hle,by omega,by simp;omega,by rw[hr,ZwL hlt];simp,by simpa using ho2⟩
 ·have e:Nat.blt p s.length=false:=by rw[Bool.eq_false_iff];intro h;rw[Nat.blt_eq]at h;exact hlt h
  rw[e,cond_false];rw[List.drop_of_length_le (by omega),Zqf,List.append_nil]at hr;rw[ZE,hr];exact .mk ⟨a,_,rfl,ZL ho.1,ho.sl.frz _⟩
end Go.Gv.F
namespace Go.Gv.F
def cmpL:List Nat→List Nat→Int
 |[],[]=>0
 |[],_::_=> -1
 |_::_,[]=>1
 |a::l,b::m=>if a<b then-1 else if b<a then 1 else cmpL l m
theorem Zri (l m:List Nat) (i:Nat) (hl:i<l.length) (hm:i<m.length):cmpL (l.drop i) (m.drop i)=if l[i]<m[i]then-1 else if m[i]<l[i]then 1 else cmpL (l.drop (i+1)) (m.drop (i+1)):=by
 rw[List.drop_eq_getElem_cons hl,List.drop_eq_getElem_cons hm];rfl
theorem Zlt {Bd:Za} (h:ZeT Bd) (n:Nat) (x:Int) (st:St):run Bd (n+1) 72 [.int .i32 x] st=some (.val [.bool false],st):=by
 rw[Zf,h.eq];unfold Zc3;simp only[J_i,D_nil,beq_self_eq_true,Bool.not_true,Zb]
theorem Zqd {Bd:Za} (h:Zdz Bd) (n:Nat) (x y:Nat) (st:St):run Bd (n+2) 64 [.int .i32 x,.int .i32 y] st=some (.val [.int .i64 (if x<y then-1 else if y<x then 1 else 0)],st):=by
 rw[Zf,h.eq];unfold Zcu;simp only[J_i,D_nil];rw[Zi (Zlt h.q31 n _ st)];simp only[J_b,D_nil];rw[Zi (Zlt h.q31 n _ st)];simp only[J_b,D_nil,cond_false];by_cases h1:x<y
 ·rw[if_pos h1,decide_eq_true (show(x:Int)<(y:Int) by omega),cond_true,Zb]
 ·rw[if_neg h1,decide_eq_false (show ¬(x:Int)<(y:Int) by omega),cond_false]
  by_cases h2:y<x
  ·rw[if_pos h2,decide_eq_true (show(x:Int)>(y:Int) by omega),cond_true,Zb]
  ·rw[if_neg h2,decide_eq_false (show ¬(x:Int)>(y:Int) by omega),cond_false,Zb]
theorem ZmH {Bd:Za} (h:ZbS Bd) (n:Nat) (l m:List Nat) (a b:Option (Nat×Nat)) (st:St) (ha:Sl st a (l.map ic32)) (hb:Sl st b (m.map ic32)) (hn:l.length+4≤n) (hl:l.length<1000000):
  Ok (fun o=>o=(.val [.int .i64 (cmpL l m)],st)) (run Bd n 57 [.slice 1 a l.length,.slice 1 b m.length] st):=by
 obtain⟨n,rfl⟩: ∃k,n=k+3:=⟨n-3,by omega⟩;rw[Zf,h.eq];unfold Zbe;simp only[J_l,D_nil];rw[Zc];refine Zk _ (fun k x s2=>∃i:Nat,x=[.int .i64 i]∧i≤l.length∧i≤m.length∧l.length-i≤k∧s2=st∧cmpL l m=cmpL (l.drop i) (m.drop i))
  ?_ l.length (n+2) _ _ ⟨0,rfl,Nat.zero_le _,Nat.zero_le _,by omega,rfl,rfl⟩ (by omega)
 rintro k _ s2 ⟨i,rfl,hi,hi2,hk,rfl,hc⟩ rec hrec;simp only[J_i,D_nil];by_cases hlt:i<l.length
 ·rw[decide_eq_true (show(i:Int)<(l.length:Int) by omega),cond_true]
  obtain⟨j,o,rfl⟩:=ha.some_of (by simp;omega);simp only[nn_some',Ze (Zl hlt),Int.toNat_natCast];rw[ha.get1 (d:=ic32 l[i]) (by simp[hlt])];unfold ic32;simp only[D_int];by_cases hlt2:i<m.length
  ·rw[decide_eq_false (show ¬(i:Int)≥(m.length:Int) by omega),cond_false]
   obtain⟨j2,o2,rfl⟩:=hb.some_of (by simp;omega);simp only[nn_some',Ze (Zl hlt2)];rw[hb.get1 (d:=ic32 m[i]) (by simp[hlt2])];unfold ic32;simp only[D_int];rw[Zi (Zqd h.q16 n l[i] m[i] s2)];simp only[J_i,D_nil];rw[Zri l m i hlt hlt2]at hc;by_cases h1:l[i]<m[i]
   ·rw[if_pos h1]at hc⊢
    exact .mk (by rw[hc])
   ·rw[if_neg h1]at hc⊢
    by_cases h2:m[i]<l[i]
    ·rw[if_pos h2]at hc⊢
     exact .mk (by rw[hc])
    ·rw[if_neg h2]at hc⊢
     have e:(!((0:Int)==0))=false:=rfl;rw[e,cond_false,Zd (by omega) (by omega)];exact hrec (k-1) _ _ (by omega) ⟨i+1,rfl,by omega,by omega,by omega,rfl,hc⟩
  ·rw[decide_eq_true (show(i:Int)≥(m.length:Int) by omega),cond_true,Zb]
   rw[List.drop_eq_getElem_cons hlt,List.drop_of_length_le (by omega:m.length≤i)]at hc;exact .mk (by rw[hc];rfl)
 ·rw[decide_eq_false (show ¬(i:Int)<(l.length:Int) by omega),cond_false]
  rw[List.drop_of_length_le (by omega:l.length≤i)]at hc;by_cases h2:l.length<m.length
  ·rw[decide_eq_true (show(l.length:Int)<(m.length:Int) by omega),cond_true,Zb]
   rw[List.drop_eq_getElem_cons (show i<m.length by omega)]at hc;exact .mk (by rw[hc];rfl)
  ·rw[decide_eq_false (show ¬(l.length:Int)<(m.length:Int) by omega),cond_false,Zb]
   rw[List.drop_of_length_le (by omega:m.length≤i)]at hc;exact .mk (by rw[hc];rfl)
theorem Zpm {Bd:Za} (h:Zgh Bd) (n:Nat) (a b:List UInt8) (hn:a.length+8≤n) (hn2:b.length+8≤n) (ha:a.length<100000) (hb:b.length<100000) (st:St):
  Ok (fun o=>∃s',o=(.val [.int .i64 (cmpL (rns a) (rns b))],s')∧Pre st s') (run Bd n 39 [.str a,.str b] st):=by
 obtain⟨n,rfl⟩: ∃k,n=k+1:=⟨n-1,by omega⟩;rw[Zf,h.eq];unfold Zd8;simp only[J_s,D_nil];refine Ok.call (Zk4 h.q91 n a (by omega) (by omega) st) ?_;rintro _ ⟨p,s1,rfl,hp1,hs1⟩;refine⟨_,s1,rfl,?_⟩;simp only[J_l,D_nil];refine Ok.call (Zk4 h.q91 n b (by omega) (by omega) s1) ?_;rintro _ ⟨q,s2,rfl,hp2,hs2⟩;refine⟨_,s2,rfl,?_⟩;simp only[J_l,D_nil];have hr:=Zj0 a;refine Ok.call (ZmH h.q4 n (rns a) (rns b) p q s2 (hs1.mono hp2) hs2 (by omega) (by omega)) ?_;rintro _ rfl;refine⟨_,s2,rfl,?_⟩;simp only[J_i,D_nil,Zb];exact .mk ⟨s2,rfl,hp1.trans hp2⟩
theorem ZnA {Bd:Za} (h:Zfr Bd) (n:Nat) (a b:List UInt8) (hn:a.length+8≤n) (hn2:b.length+8≤n) (ha:a.length<100000) (hb:b.length<100000) (st:St):
  Ok (fun o=>∃s',o=(.val [.int .i64 (cmpL (rns a) (rns b))],s')∧Pre st s') (run Bd n 40 [.str a,.str b] st):=by
 obtain⟨n,rfl⟩: ∃k,n=k+1:=⟨n-1,by omega⟩;rw[Zf,h.eq];unfold Zdm;simp only[J_s,D_nil];refine Ok.call (ZfZ h.q76 n a (by omega) (by omega) st) ?_;rintro _ ⟨p,s1,rfl,hp1,hs1⟩;refine⟨_,s1,rfl,?_⟩;simp only[J_l,D_nil];refine Ok.call (ZfZ h.q76 n b (by omega) (by omega) s1) ?_;rintro _ ⟨q,s2,rfl,hp2,hs2⟩;refine⟨_,s2,rfl,?_⟩;have hs1:=hs1.mono hp2;have hr1:=Zj0 a;have hr2:=Zj0 b;simp only[J_l,D_nil];generalize hl:rns a=l at*
 generalize hm:rns b=m at*
 rw[Zc];refine Zk _ (fun k x s3=>∃i:Nat,x=[.int .i64 i]∧i≤l.length∧i≤m.length∧l.length-i≤k∧s3=s2∧cmpL l m=cmpL (l.drop i) (m.drop i))
  ?_ l.length n _ _ ⟨0,rfl,Nat.zero_le _,Nat.zero_le _,by omega,rfl,rfl⟩ (by omega)
 rintro k _ s3 ⟨i,rfl,hi,hi2,hk,rfl,hc⟩ rec hrec;simp only[J_i,D_nil,ZiZ,J_b];by_cases hlt:i<l.length
 ·by_cases hlt2:i<m.length
  ·rw[show(bif decide ((i:Int)<(l.length:Int))then decide ((i:Int)<(m.length:Int))else false)=true by rw[Bool.cond_false_right,Bool.and_eq_true,decide_eq_true_eq,decide_eq_true_eq];omega,cond_true]
   obtain⟨j,o,rfl⟩:=hs1.some_of (by simp;omega);obtain⟨j2,o2,rfl⟩:=hs2.some_of (by simp;omega);have g1: ∀K:DV→M (List DV),M.load1 j (i*1+o) K s3=K (.int .i64 (l[i]:Int)) s3:=fun K=>hs1.get1 (d:=ic l[i]) (by simp[hlt]) K
   have g2: ∀K:DV→M (List DV),M.load1 j2 (i*1+o2) K s3=K (.int .i64 (m[i]:Int)) s3:=fun K=>hs2.get1 (d:=ic m[i]) (by simp[hlt2]) K
   simp only[nn_some',Ze (Zl hlt),Ze (Zl hlt2),Int.toNat_natCast];rw[g1];simp only[D_int];rw[g2];simp only[D_int];rw[Zri l m i hlt hlt2]at hc;by_cases h1:l[i]<m[i]
   ·rw[if_pos h1]at hc
    rw[decide_eq_true (show(l[i]:Int)<(m[i]:Int) by omega),cond_true,Zb];exact .mk ⟨s3,by rw[hc],hp1.trans hp2⟩
   ·rw[if_neg h1]at hc
    rw[decide_eq_false (show ¬(l[i]:Int)<(m[i]:Int) by omega),cond_false,g1];simp only[D_int];rw[g2];simp only[D_int];by_cases h2:m[i]<l[i]
    ·rw[if_pos h2]at hc
     rw[decide_eq_true (show(l[i]:Int)>(m[i]:Int) by omega),cond_true,Zb];exact .mk ⟨s3,by rw[hc],hp1.trans hp2⟩
    ·rw[if_neg h2]at hc
     rw[decide_eq_false (show ¬(l[i]:Int)>(m[i]:Int) by omega),cond_false,Zd (by omega) (by omega)];exact hrec (k-1) _ _ (by omega) ⟨i+1,rfl,by omega,by omega,by omega,rfl,hc⟩
  ·rw[show(bif decide ((i:Int)<(l.length:Int))then decide ((i:Int)<(m.length:Int))else false)=false by rw[Bool.cond_false_right,Bool.and_eq_false_iff,decide_eq_false_iff_not,decide_eq_false_iff_not];omega,cond_false]
   rw[List.drop_eq_getElem_cons hlt,List.drop_of_length_le (by omega:m.length≤i)]at hc;rw[decide_eq_false (show ¬(l.length:Int)<(m.length:Int) by omega),cond_false,decide_eq_true (show(l.length:Int)>(m.length:Int) by omega),cond_true,Zb];exact .mk ⟨s3,by rw[hc];rfl,hp1.trans hp2⟩
 ·rw[show(bif decide ((i:Int)<(l.length:Int))then decide ((i:Int)<(m.length:Int))else false)=false by rw[Bool.cond_false_right,Bool.and_eq_false_iff,decide_eq_false_iff_not,decide_eq_false_iff_not];omega,cond_false]
  rw[List.drop_of_length_le (by omega:l.length≤i)]at hc;by_cases h2:l.length<m.length
  ·rw[decide_eq_true (show(l.length:Int)<(m.length:Int) by omega),cond_true,Zb]
   rw[List.drop_eq_getElem_cons (show i<m.length by omega)]at hc;exact .mk ⟨s3,by rw[hc];rfl,hp1.trans hp2⟩
  ·rw[decide_eq_false (show ¬(l.length:Int)<(m.length:Int) by omega),cond_false,decide_eq_false (show ¬(l.length:Int)>(m.length:Int) by omega),cond_false,Zb]
   rw[List.drop_of_length_le (by omega:m.length≤i)]at hc;exact .mk ⟨s3,by rw[hc];rfl,hp1.trans hp2⟩
end Go.Gv.F
