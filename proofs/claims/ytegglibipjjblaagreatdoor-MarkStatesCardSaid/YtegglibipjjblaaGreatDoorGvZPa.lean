/- Lines and words. -/
import Derived.Test.YtegglibipjjblaaGreatDoorGvZLib
import Derived.Test.YtegglibipjjblaaGreatDoorGvZLaw
import Derived.Test.YtegglibipjjblaaGreatDoorGvZBod
namespace Go.Gv.F
set_option linter.unusedSimpArgs false
theorem Zk {i n:Nat} (h:i<n):au (i:Int) n=true:=by unfold au;simp;omega
theorem Zd {x:Int} (h1: -9223372036854775808<=x) (h2:x<9223372036854775808):af x=x:=by
 unfold af;exact IntWalk.i64_in _ (by omega)
theorem K6 {Bd:Za} (h:Li Bd) (n:Nat) (s:List UInt8) (k lo hi:Nat) (rD:0<lo) (st:St):
  run Bd (n+1) 19 [.str s,.int .i64 k,.int .u8 lo,.int .u8 hi] st=some (.val [.bool (decide (lo<=oc s k/\oc s k<=hi))],st):=by
 rw[Zf,h.eq];unfold FH;simp only[bV,al,ae,Zb,ai,B4];by_cases hk:k<s.length
 ·have e:decide ((k:Int)<(s.length:Int))=true:=by simpa using hk
  simp only[e,cond_true,Ze (Zk hk)];by_cases h1:lo<=oc s k
  ·have e1:decide ((oc s k:Int)>=(lo:Int))=true:=by simpa using h1
   simp only[e1,cond_true,Zc];congr 5;simp[h1]
  ·have e1:decide ((oc s k:Int)>=(lo:Int))=false:=by simpa using h1
   simp only[e1,cond_false,Zc];simp[h1]
 ·have e:decide ((k:Int)<(s.length:Int))=false:=by simpa using hk
  simp only[e,cond_false,Zc];rw[ID (by omega)];have: ¬lo<=0:=by omega
  simp[this]
theorem Zz1 (s:List UInt8):ZE s 0=(oc s 0:Int):=B4 s 0
theorem ZzR (s:List UInt8):ZE s 1=(oc s 1:Int):=B4 s 1
theorem ZzF (s:List UInt8):ZE s 2=(oc s 2:Int):=B4 s 2
theorem ZzW (s:List UInt8):ZE s 3=(oc s 3:Int):=B4 s 3
theorem Nq {s:List UInt8} {k:Nat} (h:0<oc s k):k<s.length:=by
 rcases eJ k s.length with h'|h'
 ·exact h'
 ·rw[ID h']at h;omega
theorem Zzd {n:Nat} (h:1<n):au 1 n=true:=Zk h
theorem ZyL {n:Nat} (h:0<n):au 0 n=true:=Zk h
theorem Zzo {n:Nat} (h:2<n):au 2 n=true:=Zk h
theorem ZyF {n:Nat} (h:3<n):au 3 n=true:=Zk h
theorem Pw (a b c:Nat) (r2:224<=a/\a<=239) (h1:128<=b) (h2:b<=191) (h3:128<=c) (h4:c<=191) (st:St):
  (some (Out.val [DV.int .i64 (af ((af ((af ((af (IntKind.wrap .u8 ((a:Int)-224)))*4096))+(af ((af (IntKind.wrap .u8 ((b:Int)-128)))*64))))+(af (IntKind.wrap .u8 ((c:Int)-128))))),.int .i64 3],st):Option (Out (List DV)×St))=
   some (.val [.int .i64 (((a-224)*4096+(b-128)*64+(c-128):Nat):Int),.int .i64 ((3:Nat):Int)],st):=by
 rw[IntWalk.u8_in _ (by omega),IntWalk.u8_in _ (by omega),IntWalk.u8_in _ (by omega),Zd (x:=(a:Int)-224) (by omega) (by omega),Zd (x:=(b:Int)-128) (by omega) (by omega),Zd (x:=(c:Int)-128) (by omega) (by omega),
  Zd (x:=((a:Int)-224)*4096) (by omega) (by omega),Zd (x:=((b:Int)-128)*64) (by omega) (by omega),Zd (x:=((a:Int)-224)*4096+((b:Int)-128)*64) (by omega) (by omega),Zd (by omega) (by omega)]
 have e:((a:Int)-224)*4096+((b:Int)-128)*64+((c:Int)-128)=(((a-224)*4096+(b-128)*64+(c-128):Nat):Int):=by omega
 rw[e];rfl
theorem Px (a b c d:Nat) (r3:240<=a/\a<=244) (h1:128<=b) (h2:b<=191) (h3:128<=c) (h4:c<=191) (h5:128<=d) (h6:d<=191) (st:St):
  (some (Out.val [DV.int .i64 (af ((af ((af ((af ((af (IntKind.wrap .u8 ((a:Int)-240)))*262144))+(af ((af (IntKind.wrap .u8 ((b:Int)-128)))*4096))))+(af ((af (IntKind.wrap .u8 ((c:Int)-128)))*64))))+(af (IntKind.wrap .u8 ((d:Int)-128))))),.int .i64 4],st):Option (Out (List DV)×St))=
   some (.val [.int .i64 (((a-240)*262144+(b-128)*4096+(c-128)*64+(d-128):Nat):Int),.int .i64 ((4:Nat):Int)],st):=by
 rw[IntWalk.u8_in _ (by omega),IntWalk.u8_in _ (by omega),IntWalk.u8_in _ (by omega),IntWalk.u8_in _ (by omega),Zd (x:=(a:Int)-240) (by omega) (by omega),Zd (x:=(b:Int)-128) (by omega) (by omega),Zd (x:=(c:Int)-128) (by omega) (by omega),Zd (x:=(d:Int)-128) (by omega) (by omega),
  Zd (x:=((a:Int)-240)*262144) (by omega) (by omega),Zd (x:=((b:Int)-128)*4096) (by omega) (by omega),Zd (x:=((c:Int)-128)*64) (by omega) (by omega),Zd (x:=((a:Int)-240)*262144+((b:Int)-128)*4096) (by omega) (by omega),Zd (x:=((a:Int)-240)*262144+((b:Int)-128)*4096+((c:Int)-128)*64) (by omega) (by omega),Zd (by omega) (by omega)]
 have e:((a:Int)-240)*262144+((b:Int)-128)*4096+((c:Int)-128)*64+((d:Int)-128)=(((a-240)*262144+(b-128)*4096+(c-128)*64+(d-128):Nat):Int):=by omega
 rw[e];rfl
theorem ZqE {Bd:Za} (h:LY Bd) (n:Nat) (s:List UInt8) (hs:0<s.length) (st:St):
  run Bd (n+2) 15 [.str s] st=some (.val [.int .i64 ((dec s 0).1:Int),.int .i64 ((dec s 0).2:Int)],st):=by
 have h0:=wP s 0;have h1:=wP s 1;have h2:=wP s 2;have h3:=wP s 3;have f1: ∀lo hi:Nat,0<lo->run Bd (n+1) 19 [.str s,.int .i64 1,.int .u8 lo,.int .u8 hi] st=some (.val [.bool (decide (lo<=oc s 1/\oc s 1<=hi))],st):=fun lo hi rD=>K6 h.RN n s 1 lo hi rD st
 have f2:run Bd (n+1) 19 [.str s,.int .i64 2,.int .u8 128,.int .u8 191] st=some (.val [.bool (decide (128<=oc s 2/\oc s 2<=191))],st):=K6 h.RN n s 2 128 191 (by omega) st;have f3:run Bd (n+1) 19 [.str s,.int .i64 3,.int .u8 128,.int .u8 191] st=some (.val [.bool (decide (128<=oc s 3/\oc s 3<=191))],st):=K6 h.RN n s 3 128 191 (by omega) st;have g1:run Bd (n+1) 19 [.str s,.int .i64 1,.int .u8 128,.int .u8 191] st=_:=f1 128 191 (by omega);have g2:run Bd (n+1) 19 [.str s,.int .i64 1,.int .u8 160,.int .u8 191] st=_:=f1 160 191 (by omega);have g3:run Bd (n+1) 19 [.str s,.int .i64 1,.int .u8 128,.int .u8 159] st=_:=f1 128 159 (by omega);have g4:run Bd (n+1) 19 [.str s,.int .i64 1,.int .u8 144,.int .u8 191] st=_:=f1 144 191 (by omega);have g5:run Bd (n+1) 19 [.str s,.int .i64 1,.int .u8 128,.int .u8 143] st=_:=f1 128 143 (by omega);rw[Zf,h.eq];unfold Gg;simp only[bV,ae,Ze (ZyL hs),Zz1,ZzR,ZzF,ZzW,Bool.cond_decide];rw[vH];simp only[dy];generalize oc s 0=a at*
 generalize hb:oc s 1=b at*
 generalize hc:oc s 2=c at*
 generalize hd:oc s 3=d at*
 have l1:0<b->au 1 s.length=true:=fun h=>Zzd (Nq (by omega))
 have l2:0<c->au 2 s.length=true:=fun h=>Zzo (Nq (by omega))
 have l3:0<d->au 3 s.length=true:=fun h=>ZyF (Nq (by omega))
 by_cases c0:a<128
 ·rw[aF (by omega),aF c0,Zd (by omega) (by omega)];rfl
 rw[ay (by omega),ay c0];by_cases r1:194<=a/\a<=223
 ·have e1:(a:Int)>=194:=by omega
  have e2:(a:Int)<=223:=by omega
  have e3: ¬(a:Int)>=224:=by omega
  have e4: ¬(a:Int)>=240:=by omega
  simp only[Zb,ai,ae,aF e1,ah e2,cond_true,Zj g1];by_cases k:128<=b/\b<=191
  ·simp only[ah k,cond_true,Ze (l1 (by omega)),Zc]
   rw[aF ⟨r1,k⟩,IntWalk.u8_in _ (by omega),IntWalk.u8_in _ (by omega),Zd (x:=(a:Int)-192) (by omega) (by omega),Zd (x:=(b:Int)-128) (by omega) (by omega),Zd (x:=((a:Int)-192)*64) (by omega) (by omega),Zd (by omega) (by omega)];have:(a:Int)-192=((a-192:Nat):Int):=by omega
   have:(b:Int)-128=((b-128:Nat):Int):=by omega
   simp[*]
  ·simp only[ao k,cond_false,ay e3,ay e4,ai,ae,Zc]
   rw[ay (by rintro⟨_,h⟩;exact k h),ay (by omega),ay (by omega)];rfl
 by_cases r2:224<=a/\a<=239
 ·have e1:(a:Int)>=194:=by omega
  have e2: ¬(a:Int)<=223:=by omega
  have e3:(a:Int)>=224:=by omega
  have e4:(a:Int)<=239:=by omega
  by_cases y1:a=224
  ·subst y1
   have x1:(((224:Nat):Int)==224)=true:=rfl;have x2:(((224:Nat):Int)==237)=false:=rfl;simp only[Zb,ai,al,ae,aF e1,ao e2,cond_false,aF e3,ah e4,cond_true,x1,x2,Zj g2,Zc];by_cases k:160<=b/\b<=191
   ·by_cases k2:128<=c/\c<=191
    ·simp only[ah k,ah k2,cond_true,Zj f2,ai,ae,Ze (l1 (by omega)),Ze (l2 (by omega)),Zc]
     rw[ay (by omega),aF ⟨r2,by simpa using k,k2⟩];exact Pw 224 b c r2 (by omega) (by omega) (by omega) (by omega) st
    ·simp only[ah k,ao k2,cond_true,cond_false,Zj f2,ai,ae,Zc]
     rw[ay (by omega),ay (by rintro⟨_,_,h⟩;exact k2 h),ay (by omega)];rfl
   ·simp only[ao k,cond_false,ai,ae,Zc]
    rw[ay (by omega),ay (by rintro⟨_,h,_⟩;exact k (by simpa using h)),ay (by omega)];rfl
  ·by_cases y2:a=237
   ·subst y2
    have x1:(((237:Nat):Int)==224)=false:=rfl;have x2:(((237:Nat):Int)==237)=true:=rfl;simp only[Zb,ai,al,ae,aF e1,ao e2,cond_false,aF e3,ah e4,cond_true,x1,x2,Zj g3,Zc];by_cases k:128<=b/\b<=159
    ·by_cases k2:128<=c/\c<=191
     ·simp only[ah k,ah k2,cond_true,Zj f2,ai,ae,Ze (l1 (by omega)),Ze (l2 (by omega)),Zc]
      rw[ay (by omega),aF ⟨r2,by simpa using k,k2⟩];exact Pw 237 b c r2 (by omega) (by omega) (by omega) (by omega) st
     ·simp only[ah k,ao k2,cond_true,cond_false,Zj f2,ai,ae,Zc]
      rw[ay (by omega),ay (by rintro⟨_,_,h⟩;exact k2 h),ay (by omega)];rfl
    ·simp only[ao k,cond_false,ai,ae,Zc]
     rw[ay (by omega),ay (by rintro⟨_,h,_⟩;exact k (by simpa using h)),ay (by omega)];rfl
   ·have x1:((a:Int)==224)=false:=by rw[cg];omega
    have x2:((a:Int)==237)=false:=by rw[cg];omega
    simp only[Zb,ai,al,ae,aF e1,ao e2,cond_false,aF e3,ah e4,cond_true,x1,x2,Zj g1,Zc,ay y1,ay y2];by_cases k:128<=b/\b<=191
    ·by_cases k2:128<=c/\c<=191
     ·simp only[ah k,ah k2,cond_true,Zj f2,ai,ae,Ze (l1 (by omega)),Ze (l2 (by omega)),Zc]
      rw[ay (by omega),aF ⟨r2,k,k2⟩];exact Pw a b c r2 (by omega) (by omega) (by omega) (by omega) st
     ·simp only[ah k,ao k2,cond_true,cond_false,Zj f2,ai,ae,Zc]
      rw[ay (by omega),ay (by rintro⟨_,_,h⟩;exact k2 h),ay (by omega)];rfl
    ·simp only[ao k,cond_false,ai,ae,Zc]
     rw[ay (by omega),ay (by rintro⟨_,h,_⟩;exact k h),ay (by omega)];rfl
 by_cases r3:240<=a/\a<=244
 ·have e1:(a:Int)>=194:=by omega
  have e2: ¬(a:Int)<=223:=by omega
  have e3:(a:Int)>=224:=by omega
  have e4: ¬(a:Int)<=239:=by omega
  have e5:(a:Int)>=240:=by omega
  have e6:(a:Int)<=244:=by omega
  by_cases y1:a=240
  ·subst y1
   have x1:(((240:Nat):Int)==240)=true:=rfl;have x2:(((240:Nat):Int)==244)=false:=rfl;simp only[Zb,ai,al,ae,aF e1,ao e2,cond_false,aF e3,ao e4,aF e5,ah e6,cond_true,x1,x2,Zj g4,Zc];by_cases k:144<=b/\b<=191
   ·by_cases k2:128<=c/\c<=191
    ·by_cases k3:128<=d/\d<=191
     ·simp only[ah k,ah k2,ah k3,cond_true,Zj f2,Zj f3,ai,ae,Ze (l1 (by omega)),Ze (l2 (by omega)),Ze (l3 (by omega)),Zc]
      rw[ay (by omega),ay (by omega),aF ⟨r3,by simpa using k,k2,k3⟩];exact Px 240 b c d r3 (by omega) (by omega) (by omega) (by omega) (by omega) (by omega) st
     ·simp only[ah k,ah k2,ao k3,cond_true,cond_false,Zj f2,Zj f3,ai,ae,Zc]
      rw[ay (by omega),ay (by omega),ay (by rintro⟨_,_,_,h⟩;exact k3 h)];rfl
    ·simp only[ah k,ao k2,cond_true,cond_false,Zj f2,ai,ae,Zc]
     rw[ay (by omega),ay (by omega),ay (by rintro⟨_,_,h,_⟩;exact k2 h)];rfl
   ·simp only[ao k,cond_false,ai,ae,Zc]
    rw[ay (by omega),ay (by omega),ay (by rintro⟨_,h,_⟩;exact k (by simpa using h))];rfl
  ·by_cases y2:a=244
   ·subst y2
    have x1:(((244:Nat):Int)==240)=false:=rfl;have x2:(((244:Nat):Int)==244)=true:=rfl;simp only[Zb,ai,al,ae,aF e1,ao e2,cond_false,aF e3,ao e4,aF e5,ah e6,cond_true,x1,x2,Zj g5,Zc];by_cases k:128<=b/\b<=143
    ·by_cases k2:128<=c/\c<=191
     ·by_cases k3:128<=d/\d<=191
      ·simp only[ah k,ah k2,ah k3,cond_true,Zj f2,Zj f3,ai,ae,Ze (l1 (by omega)),Ze (l2 (by omega)),Ze (l3 (by omega)),Zc]
       rw[ay (by omega),ay (by omega),aF ⟨r3,by simpa using k,k2,k3⟩];exact Px 244 b c d r3 (by omega) (by omega) (by omega) (by omega) (by omega) (by omega) st
      ·simp only[ah k,ah k2,ao k3,cond_true,cond_false,Zj f2,Zj f3,ai,ae,Zc]
       rw[ay (by omega),ay (by omega),ay (by rintro⟨_,_,_,h⟩;exact k3 h)];rfl
     ·simp only[ah k,ao k2,cond_true,cond_false,Zj f2,ai,ae,Zc]
      rw[ay (by omega),ay (by omega),ay (by rintro⟨_,_,h,_⟩;exact k2 h)];rfl
    ·simp only[ao k,cond_false,ai,ae,Zc]
     rw[ay (by omega),ay (by omega),ay (by rintro⟨_,h,_⟩;exact k (by simpa using h))];rfl
   ·have x1:((a:Int)==240)=false:=by rw[cg];omega
    have x2:((a:Int)==244)=false:=by rw[cg];omega
    simp only[Zb,ai,al,ae,aF e1,ao e2,cond_false,aF e3,ao e4,aF e5,ah e6,cond_true,x1,x2,Zj g1,Zc,ay y1,ay y2];by_cases k:128<=b/\b<=191
    ·by_cases k2:128<=c/\c<=191
     ·by_cases k3:128<=d/\d<=191
      ·simp only[ah k,ah k2,ah k3,cond_true,Zj f2,Zj f3,ai,ae,Ze (l1 (by omega)),Ze (l2 (by omega)),Ze (l3 (by omega)),Zc]
       rw[ay (by omega),ay (by omega),aF ⟨r3,k,k2,k3⟩];exact Px a b c d r3 (by omega) (by omega) (by omega) (by omega) (by omega) (by omega) st
      ·simp only[ah k,ah k2,ao k3,cond_true,cond_false,Zj f2,Zj f3,ai,ae,Zc]
       rw[ay (by omega),ay (by omega),ay (by rintro⟨_,_,_,h⟩;exact k3 h)];rfl
     ·simp only[ah k,ao k2,cond_true,cond_false,Zj f2,ai,ae,Zc]
      rw[ay (by omega),ay (by omega),ay (by rintro⟨_,_,h,_⟩;exact k2 h)];rfl
    ·simp only[ao k,cond_false,ai,ae,Zc]
     rw[ay (by omega),ay (by omega),ay (by rintro⟨_,h,_⟩;exact k (h))];rfl
 ·have e1:(a:Int)>=194\/¬(a:Int)>=194:=Classical.em _
  have e2: ¬(a:Int)<=223\/¬(a:Int)>=194:=by omega
  have e4: ¬(a:Int)<=239\/¬(a:Int)>=224:=by omega
  have e6: ¬(a:Int)<=244\/¬(a:Int)>=240:=by omega
  rw[ay (by omega),ay (by omega),ay (by omega)];simp only[Zb,ai,ae];rcases e2 with e|e<;>rcases e4 with f|f<;>rcases e6 with g|g<;>(simp only[e,f,g,decide_false,iO,cond_false,ite_self,Zc];rfl)
def ic (r:Nat):DV:= .int .i64 (r:Int)
theorem Lv {Bd:Za} (h:Gi Bd) (n:Nat) (s:List UInt8) (hn:s.length+4<=n) (hs:s.length<1000000) (st:St):
  Ok (fun o=>∃a s',o=(.val [.slice 1 a (cH s).length],s')/\aw st s'/\Sl s' a ((cH s).map ic)) (run Bd n 12 [.str s] st):=by
 obtain⟨n,rfl⟩: ∃m,n=m+3:=⟨n-3,by omega⟩;rw[Zf,h.eq];unfold FT;simp only[bV,ae,sD,Zb];refine Zl _ (fun k x s1=>∃(t:List UInt8) (a:Option (Nat×Nat)) (z:Nat) (acc:List Nat),x=[.str t,.slice z a acc.length]/\(z=1\/a=none)/\t.length<=k/\acc.length+t.length<=s.length/\cH s=acc++cH t/\bh st s1 a (acc.map ic))
  ?_ s.length (n+2) _ _ ⟨s,none,0,[],rfl,.inr rfl,aA _,by simp,rfl,bh.nil (.refl st)⟩ (by omega)
 rintro k _ s1 ⟨t,a,z,acc,rfl,hz,hk,hl,hr,ho⟩ rec aD;simp only[bV,Zm 1 z a _ hz,ae,Bool.cond_decide,br];by_cases ht:(t.length:Int)>0
 ·rw[aF ht]
  have pF:0<t.length:=by omega
  have hw:=xB t 0;have hle:=O0 t 0 pF;rw[Zj (ZqE h.q71 n t pF s1)];simp only[al,ae];obtain⟨p,s2,dq,hp⟩:=ho.push (β:=List DV) (sz:=1) (n:=acc.length) (lim:=8796093022208) [ic (dec t 0).1] (sf 0) (by simp) rfl (by omega);have:=hp (fun p=>M.ak (decide (0<=((dec t 0).2:Int))&&decide (((dec t 0).2:Int)<=(t.length:Int))) (rec [.str (t.drop ((dec t 0).2:Int).toNat),.slice 1 p (acc.length+1)]));refine(congrArg (Ok _) this).mpr ?_;rw[Ze (by simp;omega)];refine aD (t.length-1) _ _ (by omega) ⟨t.drop (dec t 0).2,p,1,acc++[(dec t 0).1],by simp,.inl rfl,by simp;omega,by simp;omega,by rw[hr,Ig pF];simp,by simpa using dq⟩
 ·rw[ay ht]
  have pF:t=[]:=w4 (by omega);subst pF;rw[Ow,dZ]at hr;rw[ZY,hr];exact .mk ⟨a,_,rfl,Z1 ho.1,ho.sl.jA _⟩
def ZAw (r:Nat):Bool:=(decide (r<32)&& !(r==9))||r==127||r==65533
theorem ZxW (a b:Nat):((a:Int)==(b:Int))=(a==b):=by rw[mN];simp only[lW];omega
def flush (w:List UInt8):List (List UInt8):=if w=[]then[]else[w]
def IG:List UInt8->List UInt8->List (List UInt8)
 |[],w=>flush w
 |c::r,w=>if c=35 then flush w else if c=32\/c=9 then flush w++IG r []else IG r (w++[c])
def ZvR (line:List UInt8):Int×List (List UInt8):=
 if (cH line).any ZAw then(41,[])else if (IG line []).length>40 then(40,[])else(0,IG line [])
def ZAs (w:List UInt8):Prop:=ZvR w=(0,[w])
instance (w:List UInt8):Decidable (ZAs w):=inferInstanceAs (Decidable (ZvR w=(0,[w])))
end Go.Gv.F
namespace Go.Gv.F
theorem vA {β:Type} (F:(List DV->M β)->List DV->M β) (m:Nat) (st:List DV):M.loop F (m+1) st=F (M.loop F m) st:=rfl
theorem bB {β:Type} {cs:List DV} {n:Nat} (h:cs.length=n) (K:M β):D.len cs n K=K:=by
 unfold D.len;rw[h];simp
def rN (r:Int):Bool:=(decide (r>=97)&&decide (r<=122))||((decide (r>=65)&&decide (r<=90))||((decide (r>=48)&&decide (r<=57))||(r==45||(r==95||(decide (r>=161)&&decide (r<=65519))))))
theorem Zvk {Bd:Za} (h:MQ Bd) (n:Nat) (r:Int) (st:St):run Bd (n+1) 29 [.int .i64 r] st=some (.val [.bool (rN r)],st):=by
 rw[Zf,h.eq];unfold Hw rN;simp only[al,ae,HR,ai,Zc,Bool.cond_true_left,Bp,Bool.or_assoc]
def sF:List DV:=[.int .i32 97,.int .i32 122,.int .i32 65,.int .i32 90,.int .i32 48,.int .i32 57,.int .i32 45,.int .i32 45,.int .i32 95,.int .i32 95,.int .i32 161,.int .i32 65519]
theorem Zsi {Bd:Za} (h:Mc Bd) (n:Nat) (st:St):run Bd (n+1) 54 [] st=some (.val [.agg sF],st):=by
 rw[Zf,h.eq];rfl
theorem Zw1 {Bd:Za} (h:Nj Bd) (n:Nat) (r:Int) (st:St):run Bd (n+8) 28 [.int .i32 r] st=some (.val [.bool (rN r)],st):=by
 rw[Zf,h.eq];unfold H5;simp only[al,ae];rw[Zj (Zsi h.q89 (n+6) st)];simp only[bU,ae,bB (show sF.length=12 from rfl)];have step: ∀(rec:List DV->M (List DV)) (i:Nat) (lo hi:Int),i<6->(sF.drop (i*2)).take 2=[.int .i32 lo,.int .i32 hi]->
   (fun(x:Int)=>M.ak (au x 6) (D.len ((sF.drop (x.toNat*2)).take 2) 2 (D.nth ((sF.drop (x.toNat*2)).take 2) 0 fun d=>D.int .i32 d fun x1=>
    M.join (fun st=>J.b st fun b1 st=>D.nil st<|bif b1 then M.ret [.bool true]else rec [.int .i64 (af (x+1))]) fun aB=>
    bif decide (r>=x1)then D.nth ((sF.drop (x.toNat*2)).take 2) 1 fun d1=>D.int .i32 d1 fun x2=>aB [.bool (decide (r<=x2))]else aB [.bool false]))) (i:Int)=
   bif (decide (r>=lo)&&decide (r<=hi))then M.ret [.bool true]else rec [.int .i64 ((i+1:Nat):Int)]:=by
  intro rec i lo hi hi6 hd;simp only[aY,hd,Ze (Zk hi6),bB (show([.int .i32 lo,.int .i32 hi]:List DV).length=2 from rfl),Zd (x:=(i:Int)+1) (by omega) (by omega)];unfold D.nth;simp only[gJ,lU,aS,HR,ai,ae,Bp];rfl
 have fin: ∀(l:List (Int×Int)) (i m:Nat),i+l.length=6->(∀(k:Nat) p,l[k]? =some p->(sF.drop ((i+k)*2)).take 2=[.int .i32 p.1,.int .i32 p.2])->l.length<m->
   M.loop (fun(aN:List DV->M (List DV)) st=>J.i .i64 st fun x st=>D.nil st<|bif decide (x<6)then M.ak (au x 6) (D.len ((sF.drop (x.toNat*2)).take 2) 2 (D.nth ((sF.drop (x.toNat*2)).take 2) 0 fun d=>D.int .i32 d fun x1=>
    M.join (fun st=>J.b st fun b1 st=>D.nil st<|bif b1 then M.ret [.bool true]else aN [.int .i64 (af (x+1))]) fun aB=>
    bif decide (r>=x1)then D.nth ((sF.drop (x.toNat*2)).take 2) 1 fun d1=>D.int .i32 d1 fun x2=>aB [.bool (decide (r<=x2))]else aB [.bool false]))else(D.nil []<|M.ret [.bool false])) m [.int .i64 (i:Int)] st
   =some (.val [.bool (l.any fun p=>decide (r>=p.1)&&decide (r<=p.2))],st):=by
  intro l;induction l with
  |nil=>
   intro i m hi _ hm;obtain⟨m,rfl⟩: ∃k,m=k+1:=⟨m-1,by simp at hm;omega⟩;simp only[xa,dC]at hi;subst hi;rw[vA];simp only[al,ae];rfl
  |cons p l ih=>
   intro i m hi hp hm;simp only[ee]at hi hm;obtain⟨m,rfl⟩: ∃k,m=k+1:=⟨m-1,by omega⟩;rw[vA];simp only[al,ae];rw[ah (show(i:Int)<6 by omega),cond_true];refine(congrFun (step _ i p.1 p.2 (by omega) (by have:=hp 0 p rfl;simpa using this)) st).trans ?_;rw[List.any_cons];cases hb:(decide (r>=p.1)&&decide (r<=p.2))with
   |true=>rfl
   |false=>
    rw[cond_false,pQ];exact ih (i+1) m (by omega) (fun k q hq=>by have:=hp (k+1) q (by simpa using hq);rwa [show i+(k+1)=i+1+k by omega]at this) (by omega)
 have e:rN r=[((97:Int),(122:Int)),(65,90),(48,57),(45,45),(95,95),(161,65519)].any fun p=>decide (r>=p.1)&&decide (r<=p.2):=by
  unfold rN;have e1:(r==45)=(decide (r>=45)&&decide (r<=45)):=by rw[mN];simp only[lW,aH,jL];omega
  have e2:(r==95)=(decide (r>=95)&&decide (r<=95)):=by rw[mN];simp only[lW,aH,jL];omega
  rw[e1,e2];simp only[List.any_cons,List.any_nil,yY]
 rw[e,Zb];refine fin _ 0 (n+7) rfl (fun k p hp=>?_) (by simp)
 match k,hp with
 |0,hp=>cases hp;rfl
 |1,hp=>cases hp;rfl
 |2,hp=>cases hp;rfl
 |3,hp=>cases hp;rfl
 |4,hp=>cases hp;rfl
 |5,hp=>cases hp;rfl
 |k+6,hp=>simp at hp
def mg (s:List UInt8):Bool:=decide (0<(cH s).length)&&(decide ((cH s).length<=8)&&(cH s).all fun r=>rN r)
theorem ZpJ {Bd:Za} (h:LX Bd) (n:Nat) (s:List UInt8) (hn:s.length+6<=n) (hs:s.length<100000) (st:St):
  Ok (fun o=>∃s',o=(.val [.bool (mg s)],s')/\aw st s') (run Bd n 27 [.str s] st):=by
 obtain⟨n,rfl⟩: ∃m,n=m+3:=⟨n-3,by omega⟩;rw[Zf,h.eq];unfold Gu;simp only[bV,ae];refine Ok.call (Lv h.Ke (n+2) s (by omega) (by omega) st) ?_;rintro _ ⟨a,s1,rfl,aJ,cL⟩;refine⟨_,s1,rfl,?_⟩;have QU:=Cp s;simp only[br,ae,HR,ai];rw[Zb];have e0:(bif decide (((cH s).length:Int)>0)then decide (((cH s).length:Int)<=8)else false)=(decide (0<(cH s).length)&&decide ((cH s).length<=8)):=by
  rw[Bp];congr 1
  ·rw[mN];simp only[jL];omega
  ·rw[mN];simp only[jL];omega
 rw[e0];refine Zl _ (fun k x s2=>∃(i:Nat) (b:Bool),x=[.bool b,.int .i64 i]/\i<=(cH s).length/\(cH s).length-i<=k/\s2=s1/\(b&&((cH s).drop i).all fun r=>rN r)=mg s)
  ?_ (cH s).length (n+2) _ _ ⟨0,_,rfl,bH _,by omega,rfl,by rw[dw];unfold mg;rw[Bool.and_assoc]⟩ (by omega)
 rintro k _ s2 ⟨i,b,rfl,hi,hk,rfl,hb⟩ rec aD;simp only[ai,al,ae];by_cases aj:i<(cH s).length
 ·rw[ah (show(i:Int)<((cH s).length:Int) by omega),cond_true]
  have hr:(cH s)[i]? =some (cH s)[i]:=ba aj;rw[hJ aj,rZ]at hb;rw[Zb];cases b with
  |false=>
   simp only[cond_false,ai,ae];exact aD (k-1) _ _ (by omega) ⟨i+1,false,by rw[Zd (by omega) (by omega)];rfl,by omega,by omega,rfl,by rw[<-hb];simp⟩
  |true=>
   obtain⟨j,o,rfl⟩:=cL.cm (by simp;omega);simp only[cond_true,aW,Ze (Zk aj),aY];rw[cL.dj (d:=ic (cH s)[i]) (by simp[hr])];unfold ic;simp only[aS];rw[Zj (Zvk h.XD (n+1) _ s2)];simp only[ai,ae];exact aD (k-1) _ _ (by omega) ⟨i+1,_,by rw[Zd (by omega) (by omega)];rfl,by omega,by omega,rfl,by rw[<-hb];simp⟩
 ·rw[ao (show ¬(i:Int)<((cH s).length:Int) by omega),cond_false,Zc]
  rw[tD (by omega)]at hb;simp only[List.all_nil,wZ]at hb;exact .mk ⟨s2,by rw[hb],aJ⟩
theorem ZxQ {s:List UInt8} {p:Nat} (h:p<s.length):cH (s.drop p)=(dec s p).1::cH (s.drop (p+(dec s p).2)):=by
 rw[Ig (by simp;omega),Zza,dC,iM]
theorem ZsF {Bd:Za} (h:Mr Bd) (n:Nat) (s:List UInt8) (hn:s.length+12<=n) (hs:s.length<100000) (st:St):
  Ok (fun o=>o=(.val [.bool (mg s)],st)) (run Bd n 26 [.str s] st):=by
 obtain⟨n,rfl⟩: ∃m,n=m+9:=⟨n-9,by omega⟩;rw[Zf,h.eq];unfold Gy;simp only[bV,ae];rw[Zb];refine Zl _ (fun k x s2=>∃(p c:Nat),x=[.int .i64 c,.nat p]/\p<=s.length/\s.length-p<=k/\s2=st/\c<=8/\(decide (0<c+(cH (s.drop p)).length)&&(decide (c+(cH (s.drop p)).length<=8)&&(cH (s.drop p)).all fun r=>rN r))=mg s)
  ?_ s.length (n+8) _ _ ⟨0,0,rfl,bH _,by omega,rfl,by omega,by simp only[dy,dw];rfl⟩ (by omega)
 rintro k _ s2 ⟨p,c,rfl,hp,hk,rfl,hc,hb⟩ rec aD;simp only[al,J_n,ae];by_cases aj:p<s.length
 ·have hw:=xB s p
  have hle:=O0 s p aj;rw[ZxQ aj]at hb;simp only[ee,rZ]at hb;have P1:Nat.blt p s.length=true:=by rw[lB];exact aj
  simp only[P1,cond_true,xK,qM,Zd (x:=(c:Int)+1) (by omega) (by omega),Zb,ai,ae];by_cases h8:c=8
  ·subst h8
   rw[ao (show ¬8+((cH (s.drop (p+(dec s p).2))).length+1)<=8 by omega)]at hb;simp only[eE,rY]at hb;have e:decide (((8:Nat):Int)+1>8)=true:=rfl;simp only[e,cond_true,Zc];exact .mk (by rw[hb])
  ·have e:decide ((c:Int)+1>8)=false:=ao (by omega)
   simp only[e,cond_false];rw[Zj (Zw1 h.XF n _ s2)];simp only[ai,ae];cases ho:rN ((dec s p).1:Int)with
   |false=>
    simp only[bu,cond_true,Zc];rw[ho]at hb;simp only[eE,rY]at hb;exact .mk (by rw[hb])
   |true=>
    simp only[bg,cond_false];rw[ho]at hb;refine aD (s.length-(p+(dec s p).2)) _ _ (by omega) ⟨p+(dec s p).2,c+1,rfl,hle,by omega,rfl,by omega,?_⟩;rw[<-hb,show c+1+(cH (s.drop (p+(dec s p).2))).length=c+((cH (s.drop (p+(dec s p).2))).length+1) by omega];simp
 ·have e:Nat.blt p s.length=false:=by rw[Bool.eq_false_iff];intro h;rw[lB]at h;exact aj h
  simp only[e,cond_false,Zc];rw[tD (by omega),Ow]at hb;refine .mk ?_;rw[<-hb];have:decide ((c:Int)>0)=decide (0<c):=by rw[mN];simp only[jL];omega
  rw[this];simp[hc]
end Go.Gv.F
namespace Go.Gv.F
def tK (s:St):Prop:=∀(i:Nat) (b:Option bn),tabs[i]? =some b->s[i]? =some b
theorem tK.mono {s s':St} (h:tK s) (k:aw s s'):tK s':=fun i b e=>k.get (h i b e)
def Ve:List UInt8:=[48,49,50,51,52,53,54,55,56,57,97,98,99,100,101,102,103,104,105,106,107,108,109,110,111,112,113,114,115,116,117,118,119,120,121,122]
def dg (n:Nat):UInt8:=Ve.getD n 0
theorem Zxc (cs:List DV):ov cs []=cs:=by cases cs<;>rfl
theorem xC (d:DV): ∀(cs:List DV) (p:Nat),p<cs.length->bN cs p [d]=cs.set p d
 |[],p,h=>by cases h
 |c::cs,0,_=>by show d::ov cs []=_;rw[Zxc];rfl
 |c::cs,p+1,h=>by show c::bN cs p [d]=_;rw[xC d cs p (by simpa using h)];rfl
theorem ZlV: ∀(l:List UInt8),oX (ZH l)=some l
 |[]=>rfl
 |b::l=>by
  show(oX (ZH l)).map (UInt8.ofNat _:: ·)=_;rw[ZlV l];simp
theorem EB (l:List UInt8) {β:Type} (K:List UInt8->M β):D.cO (ZH l) K=K l:=by unfold D.cO;rw[ZlV]
theorem Ch {β:Type} {st:St} {cs:List DV} {o n:Nat} (h:o+n<=cs.length) (K:List DV->M β):M.load st.length o n K (st++[some ⟨false,cs⟩])=K ((cs.drop o).take n) (st++[some ⟨false,cs⟩]):=
 kQ (f:=false) (all:=cs) (by simp) h K
end Go.Gv.F
namespace Go.Gv.F
end Go.Gv.F
namespace Go.Gv.F
theorem ZzT {Bd:Za} {n g:Nat} {args:List DV} {s:St} (h:Ok (fun o=>∃s',o=(.val [.bool true],s')) (run Bd n g args s)): ∃n s',run Bd n g args s=some (.val [.bool true],s'):=by
 obtain⟨o,e,s',rfl⟩:=h;exact⟨n,s',e⟩
theorem vx {n:Int} (h:IntKind.min .i64<=n/\n<=IntKind.max .i64): -9223372036854775808<=n/\n<=9223372036854775807:=by
 have e1:IntKind.min .i64= -9223372036854775808:=by decide
 have e2:IntKind.max .i64=9223372036854775807:=by decide
 rw[e1,e2]at h;exact h
def uO (r:Nat):DV:= .int .i32 (r:Int)
theorem Zlh {Bd:Za} (h:Ml Bd) (n:Nat) (s:List UInt8) (hn:s.length+4<=n) (hs:s.length<1000000) (st:St):
  Ok (fun o=>∃a s',o=(.val [.slice 1 a (cH s).length],s')/\aw st s'/\Sl s' a ((cH s).map uO)) (run Bd n 34 [.str s] st):=by
 obtain⟨n,rfl⟩: ∃m,n=m+1:=⟨n-1,by omega⟩;rw[Zf,h.eq];unfold Gz;simp only[bV,ae,sD];rw[Zb];refine Zl _ (fun k x s1=>∃(p:Nat) (a:Option (Nat×Nat)) (z:Nat) (acc:List Nat),x=[.slice z a acc.length,.nat p]/\(z=1\/a=none)/\p<=s.length/\s.length-p<=k/\acc.length<=p/\cH s=acc++cH (s.drop p)/\bh st s1 a (acc.map uO))
  ?_ s.length n _ _ ⟨0,none,0,[],rfl,.inr rfl,bH _,by omega,bH _,by rw[dw];rfl,bh.nil (.refl st)⟩ (by omega)
 rintro k _ s1 ⟨p,a,z,acc,rfl,hz,hp,hk,hl,hr,ho⟩ rec aD;simp only[J_n,Zm 1 z a _ hz,ae,br];by_cases aj:p<s.length
 ·have P1:Nat.blt p s.length=true:=by rw[lB];exact aj
  have hw:=xB s p;have hle:=O0 s p aj;rw[P1,cond_true];obtain⟨q,s2,dq,bj⟩:=ho.push (β:=List DV) (sz:=1) (n:=acc.length) (lim:=17592186044416) [uO (dec s p).1] (sf 0) (by simp) rfl (by omega);have:=bj (fun p1=>rec [.slice 1 p1 (acc.length+1),.nat (p+qM s p)]);refine(congrArg (Ok _) this).mpr ?_;refine aD (s.length-(p+(dec s p).2)) _ _ (by omega) ⟨p+(dec s p).2,q,1,acc++[(dec s p).1],by simp[qM],.inl rfl,hle,by omega,by simp;omega,by rw[hr,ZxQ aj];simp,by simpa using dq⟩
 ·have e:Nat.blt p s.length=false:=by rw[Bool.eq_false_iff];intro h;rw[lB]at h;exact aj h
  rw[e,cond_false];rw[tD (by omega),Ow,dZ]at hr;rw[ZY,hr];exact .mk ⟨a,_,rfl,Z1 ho.1,ho.sl.jA _⟩
end Go.Gv.F
namespace Go.Gv.F
def cmpL:List Nat->List Nat->Int
 |[],[]=>0
 |[],_::_=> -1
 |_::_,[]=>1
 |a::l,b::m=>if a<b then-1 else if b<a then 1 else cmpL l m
theorem Zry (l m:List Nat) (i:Nat) (hl:i<l.length) (hm:i<m.length):cmpL (l.drop i) (m.drop i)=if l[i]<m[i]then-1 else if m[i]<l[i]then 1 else cmpL (l.drop (i+1)) (m.drop (i+1)):=by
 rw[hJ hl,hJ hm];rfl
theorem ZmC {Bd:Za} (h:K5 Bd) (n:Nat) (x:Int) (st:St):run Bd (n+1) 72 [.int .i32 x] st=some (.val [.bool false],st):=by
 rw[Zf,h.eq];unfold FQ;simp only[al,ae,fH,bg,Zc]
theorem ZpW {Bd:Za} (h:KZ Bd) (n:Nat) (x y:Nat) (st:St):run Bd (n+2) 64 [.int .i32 x,.int .i32 y] st=some (.val [.int .i64 (if x<y then-1 else if y<x then 1 else 0)],st):=by
 rw[Zf,h.eq];unfold EP;simp only[al,ae];rw[Zj (ZmC h.q30 n _ st)];simp only[ai,ae];rw[Zj (ZmC h.q30 n _ st)];simp only[ai,ae,cond_false];by_cases h1:x<y
 ·rw[aF h1,ah (show(x:Int)<(y:Int) by omega),cond_true,Zc]
 ·rw[ay h1,ao (show ¬(x:Int)<(y:Int) by omega),cond_false]
  by_cases h2:y<x
  ·rw[aF h2,ah (show(x:Int)>(y:Int) by omega),cond_true,Zc]
  ·rw[ay h2,ao (show ¬(x:Int)>(y:Int) by omega),cond_false,Zc]
theorem Zm7 {Bd:Za} (h:KP Bd) (n:Nat) (l m:List Nat) (a b:Option (Nat×Nat)) (st:St) (ha:Sl st a (l.map uO)) (hb:Sl st b (m.map uO)) (hn:l.length+4<=n) (hl:l.length<1000000):
  Ok (fun o=>o=(.val [.int .i64 (cmpL l m)],st)) (run Bd n 57 [.slice 1 a l.length,.slice 1 b m.length] st):=by
 obtain⟨n,rfl⟩: ∃k,n=k+3:=⟨n-3,by omega⟩;rw[Zf,h.eq];unfold EL;simp only[br,ae];rw[Zb];refine Zl _ (fun k x s2=>∃i:Nat,x=[.int .i64 i]/\i<=l.length/\i<=m.length/\l.length-i<=k/\s2=st/\cmpL l m=cmpL (l.drop i) (m.drop i))
  ?_ l.length (n+2) _ _ ⟨0,rfl,bH _,bH _,by omega,rfl,rfl⟩ (by omega)
 rintro k _ s2 ⟨i,rfl,hi,uz,hk,rfl,hc⟩ rec aD;simp only[al,ae];by_cases aj:i<l.length
 ·rw[ah (show(i:Int)<(l.length:Int) by omega),cond_true]
  obtain⟨j,o,rfl⟩:=ha.cm (by simp;omega);simp only[aW,Ze (Zk aj),aY];rw[ha.dj (d:=uO l[i]) (by simp[aj])];unfold uO;simp only[aS];by_cases lO:i<m.length
  ·rw[ao (show ¬(i:Int)>=(m.length:Int) by omega),cond_false]
   obtain⟨j2,o2,rfl⟩:=hb.cm (by simp;omega);simp only[aW,Ze (Zk lO)];rw[hb.dj (d:=uO m[i]) (by simp[lO])];unfold uO;simp only[aS];rw[Zj (ZpW h.q17 n l[i] m[i] s2)];simp only[al,ae];rw[Zry l m i aj lO]at hc;by_cases h1:l[i]<m[i]
   ·rw[aF h1]at hc⊢
    exact .mk (by rw[hc])
   ·rw[ay h1]at hc⊢
    by_cases h2:m[i]<l[i]
    ·rw[aF h2]at hc⊢
     exact .mk (by rw[hc])
    ·rw[ay h2]at hc⊢
     have e:(!((0:Int)==0))=false:=rfl;rw[e,cond_false,Zd (by omega) (by omega)];exact aD (k-1) _ _ (by omega) ⟨i+1,rfl,by omega,by omega,by omega,rfl,hc⟩
  ·rw[ah (show(i:Int)>=(m.length:Int) by omega),cond_true,Zc]
   rw[hJ aj,tD (by omega:m.length<=i)]at hc;exact .mk (by rw[hc];rfl)
 ·rw[ao (show ¬(i:Int)<(l.length:Int) by omega),cond_false]
  rw[tD (by omega:l.length<=i)]at hc;by_cases h2:l.length<m.length
  ·rw[ah (show(l.length:Int)<(m.length:Int) by omega),cond_true,Zc]
   rw[hJ (show i<m.length by omega)]at hc;exact .mk (by rw[hc];rfl)
  ·rw[ao (show ¬(l.length:Int)<(m.length:Int) by omega),cond_false,Zc]
   rw[tD (by omega:m.length<=i)]at hc;exact .mk (by rw[hc];rfl)
theorem Zpl {Bd:Za} (h:Lx Bd) (n:Nat) (a b:List UInt8) (hn:a.length+8<=n) (mw:b.length+8<=n) (ha:a.length<100000) (hb:b.length<100000) (st:St):
  Ok (fun o=>∃s',o=(.val [.int .i64 (cmpL (cH a) (cH b))],s')/\aw st s') (run Bd n 39 [.str a,.str b] st):=by
 obtain⟨n,rfl⟩: ∃k,n=k+1:=⟨n-1,by omega⟩;rw[Zf,h.eq];unfold Fp;simp only[bV,ae];refine Ok.call (Zlh h.q88 n a (by omega) (by omega) st) ?_;rintro _ ⟨p,s1,rfl,aJ,gu⟩;refine⟨_,s1,rfl,?_⟩;simp only[br,ae];refine Ok.call (Zlh h.q88 n b (by omega) (by omega) s1) ?_;rintro _ ⟨q,s2,rfl,bj,jG⟩;refine⟨_,s2,rfl,?_⟩;simp only[br,ae];have hr:=Cp a;refine Ok.call (Zm7 h.q6 n (cH a) (cH b) p q s2 (gu.mono bj) jG (by omega) (by omega)) ?_;rintro _ rfl;refine⟨_,s2,rfl,?_⟩;simp only[al,ae,Zc];exact .mk ⟨s2,rfl,aJ.trans bj⟩
theorem ZnJ {Bd:Za} (h:Lf Bd) (n:Nat) (a b:List UInt8) (hn:a.length+8<=n) (mw:b.length+8<=n) (ha:a.length<100000) (hb:b.length<100000) (st:St):
  Ok (fun o=>∃s',o=(.val [.int .i64 (cmpL (cH a) (cH b))],s')/\aw st s') (run Bd n 40 [.str a,.str b] st):=by
 obtain⟨n,rfl⟩: ∃k,n=k+1:=⟨n-1,by omega⟩;rw[Zf,h.eq];unfold Fw;simp only[bV,ae];refine Ok.call (Lv h.Ke n a (by omega) (by omega) st) ?_;rintro _ ⟨p,s1,rfl,aJ,gu⟩;refine⟨_,s1,rfl,?_⟩;simp only[br,ae];refine Ok.call (Lv h.Ke n b (by omega) (by omega) s1) ?_;rintro _ ⟨q,s2,rfl,bj,jG⟩;refine⟨_,s2,rfl,?_⟩;have gu:=gu.mono bj;have iH:=Cp a;have mB:=Cp b;simp only[br,ae];generalize hl:cH a=l at*
 generalize hm:cH b=m at*
 rw[Zb];refine Zl _ (fun k x s3=>∃i:Nat,x=[.int .i64 i]/\i<=l.length/\i<=m.length/\l.length-i<=k/\s3=s2/\cmpL l m=cmpL (l.drop i) (m.drop i))
  ?_ l.length n _ _ ⟨0,rfl,bH _,bH _,by omega,rfl,rfl⟩ (by omega)
 rintro k _ s3 ⟨i,rfl,hi,uz,hk,rfl,hc⟩ rec aD;simp only[al,ae,HR,ai];by_cases aj:i<l.length
 ·by_cases lO:i<m.length
  ·rw[show(bif decide ((i:Int)<(l.length:Int))then decide ((i:Int)<(m.length:Int))else false)=true by rw[Bp,aH,jL,jL];omega,cond_true]
   obtain⟨j,o,rfl⟩:=gu.cm (by simp;omega);obtain⟨j2,o2,rfl⟩:=jG.cm (by simp;omega);have g1: ∀K:DV->M (List DV),M.ar j (i*1+o) K s3=K (.int .i64 (l[i]:Int)) s3:=fun K=>gu.dj (d:=ic l[i]) (by simp[aj]) K
   have g2: ∀K:DV->M (List DV),M.ar j2 (i*1+o2) K s3=K (.int .i64 (m[i]:Int)) s3:=fun K=>jG.dj (d:=ic m[i]) (by simp[lO]) K
   simp only[aW,Ze (Zk aj),Ze (Zk lO),aY];rw[g1];simp only[aS];rw[g2];simp only[aS];rw[Zry l m i aj lO]at hc;by_cases h1:l[i]<m[i]
   ·rw[aF h1]at hc
    rw[ah (show(l[i]:Int)<(m[i]:Int) by omega),cond_true,Zc];exact .mk ⟨s3,by rw[hc],aJ.trans bj⟩
   ·rw[ay h1]at hc
    rw[ao (show ¬(l[i]:Int)<(m[i]:Int) by omega),cond_false,g1];simp only[aS];rw[g2];simp only[aS];by_cases h2:m[i]<l[i]
    ·rw[aF h2]at hc
     rw[ah (show(l[i]:Int)>(m[i]:Int) by omega),cond_true,Zc];exact .mk ⟨s3,by rw[hc],aJ.trans bj⟩
    ·rw[ay h2]at hc
     rw[ao (show ¬(l[i]:Int)>(m[i]:Int) by omega),cond_false,Zd (by omega) (by omega)];exact aD (k-1) _ _ (by omega) ⟨i+1,rfl,by omega,by omega,by omega,rfl,hc⟩
  ·rw[show(bif decide ((i:Int)<(l.length:Int))then decide ((i:Int)<(m.length:Int))else false)=false by rw[Bp,Bool.and_eq_false_iff,j6,j6];omega,cond_false]
   rw[hJ aj,tD (by omega:m.length<=i)]at hc;rw[ao (show ¬(l.length:Int)<(m.length:Int) by omega),cond_false,ah (show(l.length:Int)>(m.length:Int) by omega),cond_true,Zc];exact .mk ⟨s3,by rw[hc];rfl,aJ.trans bj⟩
 ·rw[show(bif decide ((i:Int)<(l.length:Int))then decide ((i:Int)<(m.length:Int))else false)=false by rw[Bp,Bool.and_eq_false_iff,j6,j6];omega,cond_false]
  rw[tD (by omega:l.length<=i)]at hc;by_cases h2:l.length<m.length
  ·rw[ah (show(l.length:Int)<(m.length:Int) by omega),cond_true,Zc]
   rw[hJ (show i<m.length by omega)]at hc;exact .mk ⟨s3,by rw[hc];rfl,aJ.trans bj⟩
  ·rw[ao (show ¬(l.length:Int)<(m.length:Int) by omega),cond_false,ao (show ¬(l.length:Int)>(m.length:Int) by omega),cond_false,Zc]
   rw[tD (by omega:m.length<=i)]at hc;exact .mk ⟨s3,by rw[hc];rfl,aJ.trans bj⟩
end Go.Gv.F
