/- Lines and words. -/
import Derived.Test.YtegglibipjjblaaGreatDoorGvZLib
import Derived.Test.YtegglibipjjblaaGreatDoorGvZLaw
import Derived.Test.YtegglibipjjblaaGreatDoorGvZBod
namespace Go.Gv.F
set_option linter.unusedSimpArgs false
theorem Zk {i n:Nat} (h:i<n):av (i:Int) n=true:=by unfold av;simp;omega
theorem Zb {x:Int} (h1: -9223372036854775808<=x) (h2:x<9223372036854775808):af x=x:=by
 unfold af;exact IntWalk.i64_in _ (by omega)
theorem MC {Bd:Za} (h:Mw Bd) (n:Nat) (s:List UInt8) (k lo hi:Nat) (pW:0<lo) (st:St):
  run Bd (n+1) 19 [.str s,.int .i64 k,.int .u8 lo,.int .u8 hi] st=some (.val [.bool (decide (lo<=oc s k/\oc s k<=hi))],st):=by
 rw[Zf,h.eq];unfold Gn;simp only[bU,al,ae,Zc,ai,CT];by_cases hk:k<s.length
 ·have e:decide ((k:Int)<(s.length:Int))=true:=by simpa using hk
  simp only[e,cond_true,Zd (Zk hk)];by_cases h1:lo<=oc s k
  ·have e1:decide ((oc s k:Int)>=(lo:Int))=true:=by simpa using h1
   simp only[e1,cond_true,Ze];congr 5;simp[h1]
  ·have e1:decide ((oc s k:Int)>=(lo:Int))=false:=by simpa using h1
   simp only[e1,cond_false,Ze];simp[h1]
 ·have e:decide ((k:Int)<(s.length:Int))=false:=by simpa using hk
  simp only[e,cond_false,Ze];rw[JT (by omega)];have: ¬lo<=0:=by omega
  simp[this]
theorem ZAy (s:List UInt8):ZI s 0=(oc s 0:Int):=CT s 0
theorem ZAG (s:List UInt8):ZI s 1=(oc s 1:Int):=CT s 1
theorem ZAT (s:List UInt8):ZI s 2=(oc s 2:Int):=CT s 2
theorem ZA2 (s:List UInt8):ZI s 3=(oc s 3:Int):=CT s 3
theorem OO {s:List UInt8} {k:Nat} (h:0<oc s k):k<s.length:=by
 rcases eM k s.length with h'|h'
 ·exact h'
 ·rw[JT h']at h;omega
theorem Zzy {n:Nat} (h:1<n):av 1 n=true:=Zk h
theorem ZzX {n:Nat} (h:0<n):av 0 n=true:=Zk h
theorem ZAi {n:Nat} (h:2<n):av 2 n=true:=Zk h
theorem Zzm {n:Nat} (h:3<n):av 3 n=true:=Zk h
theorem QU (a b c:Nat) (r2:224<=a/\a<=239) (h1:128<=b) (h2:b<=191) (h3:128<=c) (h4:c<=191) (st:St):
  (some (Out.val [DV.int .i64 (af ((af ((af ((af (IntKind.wrap .u8 ((a:Int)-224)))*4096))+(af ((af (IntKind.wrap .u8 ((b:Int)-128)))*64))))+(af (IntKind.wrap .u8 ((c:Int)-128))))),.int .i64 3],st):Option (Out (List DV)×St))=
   some (.val [.int .i64 (((a-224)*4096+(b-128)*64+(c-128):Nat):Int),.int .i64 ((3:Nat):Int)],st):=by
 rw[IntWalk.u8_in _ (by omega),IntWalk.u8_in _ (by omega),IntWalk.u8_in _ (by omega),Zb (x:=(a:Int)-224) (by omega) (by omega),Zb (x:=(b:Int)-128) (by omega) (by omega),Zb (x:=(c:Int)-128) (by omega) (by omega),
  Zb (x:=((a:Int)-224)*4096) (by omega) (by omega),Zb (x:=((b:Int)-128)*64) (by omega) (by omega),Zb (x:=((a:Int)-224)*4096+((b:Int)-128)*64) (by omega) (by omega),Zb (by omega) (by omega)]
 have e:((a:Int)-224)*4096+((b:Int)-128)*64+((c:Int)-128)=(((a-224)*4096+(b-128)*64+(c-128):Nat):Int):=by omega
 rw[e];rfl
theorem QV (a b c d:Nat) (r3:240<=a/\a<=244) (h1:128<=b) (h2:b<=191) (h3:128<=c) (h4:c<=191) (h5:128<=d) (h6:d<=191) (st:St):
  (some (Out.val [DV.int .i64 (af ((af ((af ((af ((af (IntKind.wrap .u8 ((a:Int)-240)))*262144))+(af ((af (IntKind.wrap .u8 ((b:Int)-128)))*4096))))+(af ((af (IntKind.wrap .u8 ((c:Int)-128)))*64))))+(af (IntKind.wrap .u8 ((d:Int)-128))))),.int .i64 4],st):Option (Out (List DV)×St))=
   some (.val [.int .i64 (((a-240)*262144+(b-128)*4096+(c-128)*64+(d-128):Nat):Int),.int .i64 ((4:Nat):Int)],st):=by
 rw[IntWalk.u8_in _ (by omega),IntWalk.u8_in _ (by omega),IntWalk.u8_in _ (by omega),IntWalk.u8_in _ (by omega),Zb (x:=(a:Int)-240) (by omega) (by omega),Zb (x:=(b:Int)-128) (by omega) (by omega),Zb (x:=(c:Int)-128) (by omega) (by omega),Zb (x:=(d:Int)-128) (by omega) (by omega),
  Zb (x:=((a:Int)-240)*262144) (by omega) (by omega),Zb (x:=((b:Int)-128)*4096) (by omega) (by omega),Zb (x:=((c:Int)-128)*64) (by omega) (by omega),Zb (x:=((a:Int)-240)*262144+((b:Int)-128)*4096) (by omega) (by omega),Zb (x:=((a:Int)-240)*262144+((b:Int)-128)*4096+((c:Int)-128)*64) (by omega) (by omega),Zb (by omega) (by omega)]
 have e:((a:Int)-240)*262144+((b:Int)-128)*4096+((c:Int)-128)*64+((d:Int)-128)=(((a-240)*262144+(b-128)*4096+(c-128)*64+(d-128):Nat):Int):=by omega
 rw[e];rfl
theorem ZqO {Bd:Za} (h:Nh Bd) (n:Nat) (s:List UInt8) (hs:0<s.length) (st:St):
  run Bd (n+2) 15 [.str s] st=some (.val [.int .i64 ((dec s 0).1:Int),.int .i64 ((dec s 0).2:Int)],st):=by
 have h0:=xE s 0;have h1:=xE s 1;have h2:=xE s 2;have h3:=xE s 3;have f1: ∀lo hi:Nat,0<lo->run Bd (n+1) 19 [.str s,.int .i64 1,.int .u8 lo,.int .u8 hi] st=some (.val [.bool (decide (lo<=oc s 1/\oc s 1<=hi))],st):=fun lo hi pW=>MC h.Tw n s 1 lo hi pW st
 have f2:run Bd (n+1) 19 [.str s,.int .i64 2,.int .u8 128,.int .u8 191] st=some (.val [.bool (decide (128<=oc s 2/\oc s 2<=191))],st):=MC h.Tw n s 2 128 191 (by omega) st;have f3:run Bd (n+1) 19 [.str s,.int .i64 3,.int .u8 128,.int .u8 191] st=some (.val [.bool (decide (128<=oc s 3/\oc s 3<=191))],st):=MC h.Tw n s 3 128 191 (by omega) st;have g1:run Bd (n+1) 19 [.str s,.int .i64 1,.int .u8 128,.int .u8 191] st=_:=f1 128 191 (by omega);have g2:run Bd (n+1) 19 [.str s,.int .i64 1,.int .u8 160,.int .u8 191] st=_:=f1 160 191 (by omega);have g3:run Bd (n+1) 19 [.str s,.int .i64 1,.int .u8 128,.int .u8 159] st=_:=f1 128 159 (by omega);have g4:run Bd (n+1) 19 [.str s,.int .i64 1,.int .u8 144,.int .u8 191] st=_:=f1 144 191 (by omega);have g5:run Bd (n+1) 19 [.str s,.int .i64 1,.int .u8 128,.int .u8 143] st=_:=f1 128 143 (by omega);rw[Zf,h.eq];unfold G3;simp only[bU,ae,Zd (ZzX hs),ZAy,ZAG,ZAT,ZA2,Bool.cond_decide];rw[wD];simp only[dj];generalize oc s 0=a at*
 generalize hb:oc s 1=b at*
 generalize hc:oc s 2=c at*
 generalize hd:oc s 3=d at*
 have l1:0<b->av 1 s.length=true:=fun h=>Zzy (OO (by omega))
 have l2:0<c->av 2 s.length=true:=fun h=>ZAi (OO (by omega))
 have l3:0<d->av 3 s.length=true:=fun h=>Zzm (OO (by omega))
 by_cases c0:a<128
 ·rw[aG (by omega),aG c0,Zb (by omega) (by omega)];rfl
 rw[ax (by omega),ax c0];by_cases r1:194<=a/\a<=223
 ·have e1:(a:Int)>=194:=by omega
  have e2:(a:Int)<=223:=by omega
  have e3: ¬(a:Int)>=224:=by omega
  have e4: ¬(a:Int)>=240:=by omega
  simp only[Zc,ai,ae,aG e1,ah e2,cond_true,Zi g1];by_cases k:128<=b/\b<=191
  ·simp only[ah k,cond_true,Zd (l1 (by omega)),Ze]
   rw[aG ⟨r1,k⟩,IntWalk.u8_in _ (by omega),IntWalk.u8_in _ (by omega),Zb (x:=(a:Int)-192) (by omega) (by omega),Zb (x:=(b:Int)-128) (by omega) (by omega),Zb (x:=((a:Int)-192)*64) (by omega) (by omega),Zb (by omega) (by omega)];have:(a:Int)-192=((a-192:Nat):Int):=by omega
   have:(b:Int)-128=((b-128:Nat):Int):=by omega
   simp[*]
  ·simp only[ao k,cond_false,ax e3,ax e4,ai,ae,Ze]
   rw[ax (by rintro⟨_,h⟩;exact k h),ax (by omega),ax (by omega)];rfl
 by_cases r2:224<=a/\a<=239
 ·have e1:(a:Int)>=194:=by omega
  have e2: ¬(a:Int)<=223:=by omega
  have e3:(a:Int)>=224:=by omega
  have e4:(a:Int)<=239:=by omega
  by_cases y1:a=224
  ·subst y1
   have x1:(((224:Nat):Int)==224)=true:=rfl;have x2:(((224:Nat):Int)==237)=false:=rfl;simp only[Zc,ai,al,ae,aG e1,ao e2,cond_false,aG e3,ah e4,cond_true,x1,x2,Zi g2,Ze];by_cases k:160<=b/\b<=191
   ·by_cases k2:128<=c/\c<=191
    ·simp only[ah k,ah k2,cond_true,Zi f2,ai,ae,Zd (l1 (by omega)),Zd (l2 (by omega)),Ze]
     rw[ax (by omega),aG ⟨r2,by simpa using k,k2⟩];exact QU 224 b c r2 (by omega) (by omega) (by omega) (by omega) st
    ·simp only[ah k,ao k2,cond_true,cond_false,Zi f2,ai,ae,Ze]
     rw[ax (by omega),ax (by rintro⟨_,_,h⟩;exact k2 h),ax (by omega)];rfl
   ·simp only[ao k,cond_false,ai,ae,Ze]
    rw[ax (by omega),ax (by rintro⟨_,h,_⟩;exact k (by simpa using h)),ax (by omega)];rfl
  ·by_cases y2:a=237
   ·subst y2
    have x1:(((237:Nat):Int)==224)=false:=rfl;have x2:(((237:Nat):Int)==237)=true:=rfl;simp only[Zc,ai,al,ae,aG e1,ao e2,cond_false,aG e3,ah e4,cond_true,x1,x2,Zi g3,Ze];by_cases k:128<=b/\b<=159
    ·by_cases k2:128<=c/\c<=191
     ·simp only[ah k,ah k2,cond_true,Zi f2,ai,ae,Zd (l1 (by omega)),Zd (l2 (by omega)),Ze]
      rw[ax (by omega),aG ⟨r2,by simpa using k,k2⟩];exact QU 237 b c r2 (by omega) (by omega) (by omega) (by omega) st
     ·simp only[ah k,ao k2,cond_true,cond_false,Zi f2,ai,ae,Ze]
      rw[ax (by omega),ax (by rintro⟨_,_,h⟩;exact k2 h),ax (by omega)];rfl
    ·simp only[ao k,cond_false,ai,ae,Ze]
     rw[ax (by omega),ax (by rintro⟨_,h,_⟩;exact k (by simpa using h)),ax (by omega)];rfl
   ·have x1:((a:Int)==224)=false:=by rw[cx];omega
    have x2:((a:Int)==237)=false:=by rw[cx];omega
    simp only[Zc,ai,al,ae,aG e1,ao e2,cond_false,aG e3,ah e4,cond_true,x1,x2,Zi g1,Ze,ax y1,ax y2];by_cases k:128<=b/\b<=191
    ·by_cases k2:128<=c/\c<=191
     ·simp only[ah k,ah k2,cond_true,Zi f2,ai,ae,Zd (l1 (by omega)),Zd (l2 (by omega)),Ze]
      rw[ax (by omega),aG ⟨r2,k,k2⟩];exact QU a b c r2 (by omega) (by omega) (by omega) (by omega) st
     ·simp only[ah k,ao k2,cond_true,cond_false,Zi f2,ai,ae,Ze]
      rw[ax (by omega),ax (by rintro⟨_,_,h⟩;exact k2 h),ax (by omega)];rfl
    ·simp only[ao k,cond_false,ai,ae,Ze]
     rw[ax (by omega),ax (by rintro⟨_,h,_⟩;exact k h),ax (by omega)];rfl
 by_cases r3:240<=a/\a<=244
 ·have e1:(a:Int)>=194:=by omega
  have e2: ¬(a:Int)<=223:=by omega
  have e3:(a:Int)>=224:=by omega
  have e4: ¬(a:Int)<=239:=by omega
  have e5:(a:Int)>=240:=by omega
  have e6:(a:Int)<=244:=by omega
  by_cases y1:a=240
  ·subst y1
   have x1:(((240:Nat):Int)==240)=true:=rfl;have x2:(((240:Nat):Int)==244)=false:=rfl;simp only[Zc,ai,al,ae,aG e1,ao e2,cond_false,aG e3,ao e4,aG e5,ah e6,cond_true,x1,x2,Zi g4,Ze];by_cases k:144<=b/\b<=191
   ·by_cases k2:128<=c/\c<=191
    ·by_cases k3:128<=d/\d<=191
     ·simp only[ah k,ah k2,ah k3,cond_true,Zi f2,Zi f3,ai,ae,Zd (l1 (by omega)),Zd (l2 (by omega)),Zd (l3 (by omega)),Ze]
      rw[ax (by omega),ax (by omega),aG ⟨r3,by simpa using k,k2,k3⟩];exact QV 240 b c d r3 (by omega) (by omega) (by omega) (by omega) (by omega) (by omega) st
     ·simp only[ah k,ah k2,ao k3,cond_true,cond_false,Zi f2,Zi f3,ai,ae,Ze]
      rw[ax (by omega),ax (by omega),ax (by rintro⟨_,_,_,h⟩;exact k3 h)];rfl
    ·simp only[ah k,ao k2,cond_true,cond_false,Zi f2,ai,ae,Ze]
     rw[ax (by omega),ax (by omega),ax (by rintro⟨_,_,h,_⟩;exact k2 h)];rfl
   ·simp only[ao k,cond_false,ai,ae,Ze]
    rw[ax (by omega),ax (by omega),ax (by rintro⟨_,h,_⟩;exact k (by simpa using h))];rfl
  ·by_cases y2:a=244
   ·subst y2
    have x1:(((244:Nat):Int)==240)=false:=rfl;have x2:(((244:Nat):Int)==244)=true:=rfl;simp only[Zc,ai,al,ae,aG e1,ao e2,cond_false,aG e3,ao e4,aG e5,ah e6,cond_true,x1,x2,Zi g5,Ze];by_cases k:128<=b/\b<=143
    ·by_cases k2:128<=c/\c<=191
     ·by_cases k3:128<=d/\d<=191
      ·simp only[ah k,ah k2,ah k3,cond_true,Zi f2,Zi f3,ai,ae,Zd (l1 (by omega)),Zd (l2 (by omega)),Zd (l3 (by omega)),Ze]
       rw[ax (by omega),ax (by omega),aG ⟨r3,by simpa using k,k2,k3⟩];exact QV 244 b c d r3 (by omega) (by omega) (by omega) (by omega) (by omega) (by omega) st
      ·simp only[ah k,ah k2,ao k3,cond_true,cond_false,Zi f2,Zi f3,ai,ae,Ze]
       rw[ax (by omega),ax (by omega),ax (by rintro⟨_,_,_,h⟩;exact k3 h)];rfl
     ·simp only[ah k,ao k2,cond_true,cond_false,Zi f2,ai,ae,Ze]
      rw[ax (by omega),ax (by omega),ax (by rintro⟨_,_,h,_⟩;exact k2 h)];rfl
    ·simp only[ao k,cond_false,ai,ae,Ze]
     rw[ax (by omega),ax (by omega),ax (by rintro⟨_,h,_⟩;exact k (by simpa using h))];rfl
   ·have x1:((a:Int)==240)=false:=by rw[cx];omega
    have x2:((a:Int)==244)=false:=by rw[cx];omega
    simp only[Zc,ai,al,ae,aG e1,ao e2,cond_false,aG e3,ao e4,aG e5,ah e6,cond_true,x1,x2,Zi g1,Ze,ax y1,ax y2];by_cases k:128<=b/\b<=191
    ·by_cases k2:128<=c/\c<=191
     ·by_cases k3:128<=d/\d<=191
      ·simp only[ah k,ah k2,ah k3,cond_true,Zi f2,Zi f3,ai,ae,Zd (l1 (by omega)),Zd (l2 (by omega)),Zd (l3 (by omega)),Ze]
       rw[ax (by omega),ax (by omega),aG ⟨r3,k,k2,k3⟩];exact QV a b c d r3 (by omega) (by omega) (by omega) (by omega) (by omega) (by omega) st
      ·simp only[ah k,ah k2,ao k3,cond_true,cond_false,Zi f2,Zi f3,ai,ae,Ze]
       rw[ax (by omega),ax (by omega),ax (by rintro⟨_,_,_,h⟩;exact k3 h)];rfl
     ·simp only[ah k,ao k2,cond_true,cond_false,Zi f2,ai,ae,Ze]
      rw[ax (by omega),ax (by omega),ax (by rintro⟨_,_,h,_⟩;exact k2 h)];rfl
    ·simp only[ao k,cond_false,ai,ae,Ze]
     rw[ax (by omega),ax (by omega),ax (by rintro⟨_,h,_⟩;exact k (h))];rfl
 ·have e1:(a:Int)>=194\/¬(a:Int)>=194:=Classical.em _
  have e2: ¬(a:Int)<=223\/¬(a:Int)>=194:=by omega
  have e4: ¬(a:Int)<=239\/¬(a:Int)>=224:=by omega
  have e6: ¬(a:Int)<=244\/¬(a:Int)>=240:=by omega
  rw[ax (by omega),ax (by omega),ax (by omega)];simp only[Zc,ai,ae];rcases e2 with e|e<;>rcases e4 with f|f<;>rcases e6 with g|g<;>(simp only[e,f,g,decide_false,iY,cond_false,ite_self,Ze];rfl)
def ic (r:Nat):DV:= .int .i64 (r:Int)
theorem MT {Bd:Za} (h:GI Bd) (n:Nat) (s:List UInt8) (hn:s.length+4<=n) (hs:s.length<1000000) (st:St):
  Ok (fun o=>∃a s',o=(.val [.slice 1 a (cL s).length],s')/\ar st s'/\Sl s' a ((cL s).map ic)) (run Bd n 12 [.str s] st):=by
 obtain⟨n,rfl⟩: ∃m,n=m+3:=⟨n-3,by omega⟩;rw[Zf,h.eq];unfold GK;simp only[bU,ae,ni,Zc];refine Zl _ (fun k x s1=>∃(t:List UInt8) (a:Option (Nat×Nat)) (z:Nat) (acc:List Nat),x=[.str t,.slice z a acc.length]/\(z=1\/a=none)/\t.length<=k/\acc.length+t.length<=s.length/\cL s=acc++cL t/\aY st s1 a (acc.map ic))
  ?_ s.length (n+2) _ _ ⟨s,none,0,[],rfl,.inr rfl,ay _,by simp,rfl,aY.nil (.refl st)⟩ (by omega)
 rintro k _ s1 ⟨t,a,z,acc,rfl,hz,hk,hl,hr,ho⟩ rec aD;simp only[bU,Zm 1 z a _ hz,ae,Bool.cond_decide,bh];by_cases ht:(t.length:Int)>0
 ·rw[aG ht]
  have pZ:0<t.length:=by omega
  have hw:=ym t 0;have hle:=Qr t 0 pZ;rw[Zi (ZqO h.q72 n t pZ s1)];simp only[al,ae];obtain⟨p,s2,cK,hp⟩:=ho.push (β:=List DV) (sz:=1) (n:=acc.length) (lim:=8796093022208) [ic (dec t 0).1] (sN 0) (by simp) rfl (by omega);have:=hp (fun p=>M.ak (decide (0<=((dec t 0).2:Int))&&decide (((dec t 0).2:Int)<=(t.length:Int))) (rec [.str (t.drop ((dec t 0).2:Int).toNat),.slice 1 p (acc.length+1)]));refine(congrArg (Ok _) this).mpr ?_;rw[Zd (by simp;omega)];refine aD (t.length-1) _ _ (by omega) ⟨t.drop (dec t 0).2,p,1,acc++[(dec t 0).1],by simp,.inl rfl,by simp;omega,by simp;omega,by rw[hr,Jv pZ];simp,by simpa using cK⟩
 ·rw[ax ht]
  have pZ:t=[]:=xQ (by omega);subst pZ;rw[PU,ez]at hr;rw[ZE,hr];exact .mk ⟨a,_,rfl,ZH ho.1,ho.sl.jc _⟩
def ZBj (r:Nat):Bool:=(decide (r<32)&& !(r==9))||r==127||r==65533
theorem Zzb (a b:Nat):((a:Int)==(b:Int))=(a==b):=by rw[jY];simp only[mu];omega
def flush (w:List UInt8):List (List UInt8):=if w=[]then[]else[w]
def JJ:List UInt8->List UInt8->List (List UInt8)
 |[],w=>flush w
 |c::r,w=>if c=35 then flush w else if c=32\/c=9 then flush w++JJ r []else JJ r (w++[c])
def ZwI (line:List UInt8):Int×List (List UInt8):=
 if (cL line).any ZBj then(41,[])else if (JJ line []).length>40 then(40,[])else(0,JJ line [])
def ZBk (w:List UInt8):Prop:=ZwI w=(0,[w])
instance (w:List UInt8):Decidable (ZBk w):=inferInstanceAs (Decidable (ZwI w=(0,[w])))
end Go.Gv.F
namespace Go.Gv.F
theorem wm {β:Type} (F:(List DV->M β)->List DV->M β) (m:Nat) (st:List DV):M.loop F (m+1) st=F (M.loop F m) st:=rfl
theorem bF {β:Type} {cs:List DV} {n:Nat} (h:cs.length=n) (K:M β):D.len cs n K=K:=by
 unfold D.len;rw[h];simp
def sB (r:Int):Bool:=(decide (r>=97)&&decide (r<=122))||((decide (r>=65)&&decide (r<=90))||((decide (r>=48)&&decide (r<=57))||(r==45||(r==95||(decide (r>=161)&&decide (r<=65519))))))
theorem ZvK {Bd:Za} (h:Ou Bd) (n:Nat) (r:Int) (st:St):run Bd (n+1) 29 [.int .i64 r] st=some (.val [.bool (sB r)],st):=by
 rw[Zf,h.eq];unfold IP sB;simp only[al,ae,I6,ai,Ze,Bool.cond_true_left,BX,Bool.or_assoc]
def th:List DV:=[.int .i32 97,.int .i32 122,.int .i32 65,.int .i32 90,.int .i32 48,.int .i32 57,.int .i32 45,.int .i32 45,.int .i32 95,.int .i32 95,.int .i32 161,.int .i32 65519]
theorem Zts {Bd:Za} (h:NI Bd) (n:Nat) (st:St):run Bd (n+1) 54 [] st=some (.val [.agg th],st):=by
 rw[Zf,h.eq];rfl
theorem ZxX {Bd:Za} (h:OQ Bd) (n:Nat) (r:Int) (st:St):run Bd (n+8) 28 [.int .i32 r] st=some (.val [.bool (sB r)],st):=by
 rw[Zf,h.eq];unfold IS;simp only[al,ae];rw[Zi (Zts h.q91 (n+6) st)];simp only[bZ,ae,bF (show th.length=12 from rfl)];have step: ∀(rec:List DV->M (List DV)) (i:Nat) (lo hi:Int),i<6->(th.drop (i*2)).take 2=[.int .i32 lo,.int .i32 hi]->
   (fun(x:Int)=>M.ak (av x 6) (D.len ((th.drop (x.toNat*2)).take 2) 2 (D.nth ((th.drop (x.toNat*2)).take 2) 0 fun d=>D.int .i32 d fun x1=>
    M.join (fun st=>J.b st fun b1 st=>D.nil st<|bif b1 then M.ret [.bool true]else rec [.int .i64 (af (x+1))]) fun aC=>
    bif decide (r>=x1)then D.nth ((th.drop (x.toNat*2)).take 2) 1 fun d1=>D.int .i32 d1 fun x2=>aC [.bool (decide (r<=x2))]else aC [.bool false]))) (i:Int)=
   bif (decide (r>=lo)&&decide (r<=hi))then M.ret [.bool true]else rec [.int .i64 ((i+1:Nat):Int)]:=by
  intro rec i lo hi hi6 hd;simp only[aX,hd,Zd (Zk hi6),bF (show([.int .i32 lo,.int .i32 hi]:List DV).length=2 from rfl),Zb (x:=(i:Int)+1) (by omega) (by omega)];unfold D.nth;simp only[gV,mq,aM,I6,ai,ae,BX];rfl
 have fin: ∀(l:List (Int×Int)) (i m:Nat),i+l.length=6->(∀(k:Nat) p,l[k]? =some p->(th.drop ((i+k)*2)).take 2=[.int .i32 p.1,.int .i32 p.2])->l.length<m->
   M.loop (fun(aK:List DV->M (List DV)) st=>J.i .i64 st fun x st=>D.nil st<|bif decide (x<6)then M.ak (av x 6) (D.len ((th.drop (x.toNat*2)).take 2) 2 (D.nth ((th.drop (x.toNat*2)).take 2) 0 fun d=>D.int .i32 d fun x1=>
    M.join (fun st=>J.b st fun b1 st=>D.nil st<|bif b1 then M.ret [.bool true]else aK [.int .i64 (af (x+1))]) fun aC=>
    bif decide (r>=x1)then D.nth ((th.drop (x.toNat*2)).take 2) 1 fun d1=>D.int .i32 d1 fun x2=>aC [.bool (decide (r<=x2))]else aC [.bool false]))else(D.nil []<|M.ret [.bool false])) m [.int .i64 (i:Int)] st
   =some (.val [.bool (l.any fun p=>decide (r>=p.1)&&decide (r<=p.2))],st):=by
  intro l;induction l with
  |nil=>
   intro i m hi _ hm;obtain⟨m,rfl⟩: ∃k,m=k+1:=⟨m-1,by simp at hm;omega⟩;simp only[uk,dG]at hi;subst hi;rw[wm];simp only[al,ae];rfl
  |cons p l ih=>
   intro i m hi hp hm;simp only[dF]at hi hm;obtain⟨m,rfl⟩: ∃k,m=k+1:=⟨m-1,by omega⟩;rw[wm];simp only[al,ae];rw[ah (show(i:Int)<6 by omega),cond_true];refine(congrFun (step _ i p.1 p.2 (by omega) (by have:=hp 0 p rfl;simpa using this)) st).trans ?_;rw[List.any_cons];cases hb:(decide (r>=p.1)&&decide (r<=p.2))with
   |true=>rfl
   |false=>
    rw[cond_false,ql];exact ih (i+1) m (by omega) (fun k q hq=>by have:=hp (k+1) q (by simpa using hq);rwa [show i+(k+1)=i+1+k by omega]at this) (by omega)
 have e:sB r=[((97:Int),(122:Int)),(65,90),(48,57),(45,45),(95,95),(161,65519)].any fun p=>decide (r>=p.1)&&decide (r<=p.2):=by
  unfold sB;have e1:(r==45)=(decide (r>=45)&&decide (r<=45)):=by rw[jY];simp only[mu,aH,j4];omega
  have e2:(r==95)=(decide (r>=95)&&decide (r<=95)):=by rw[jY];simp only[mu,aH,j4];omega
  rw[e1,e2];simp only[List.any_cons,List.any_nil,zM]
 rw[e,Zc];refine fin _ 0 (n+7) rfl (fun k p hp=>?_) (by simp)
 match k,hp with
 |0,hp=>cases hp;rfl
 |1,hp=>cases hp;rfl
 |2,hp=>cases hp;rfl
 |3,hp=>cases hp;rfl
 |4,hp=>cases hp;rfl
 |5,hp=>cases hp;rfl
 |k+6,hp=>simp at hp
def mG (s:List UInt8):Bool:=decide (0<(cL s).length)&&(decide ((cL s).length<=8)&&(cL s).all fun r=>sB r)
theorem Zq7 {Bd:Za} (h:M1 Bd) (n:Nat) (s:List UInt8) (hn:s.length+6<=n) (hs:s.length<100000) (st:St):
  Ok (fun o=>∃s',o=(.val [.bool (mG s)],s')/\ar st s') (run Bd n 27 [.str s] st):=by
 obtain⟨n,rfl⟩: ∃m,n=m+3:=⟨n-3,by omega⟩;rw[Zf,h.eq];unfold G6;simp only[bU,ae];refine Ok.call (MT h.LG (n+2) s (by omega) (by omega) st) ?_;rintro _ ⟨a,s1,rfl,aI,df⟩;refine⟨_,s1,rfl,?_⟩;have xl:=C9 s;simp only[bh,ae,I6,ai];rw[Zc];have e0:(bif decide (((cL s).length:Int)>0)then decide (((cL s).length:Int)<=8)else false)=(decide (0<(cL s).length)&&decide ((cL s).length<=8)):=by
  rw[BX];congr 1
  ·rw[jY];simp only[j4];omega
  ·rw[jY];simp only[j4];omega
 rw[e0];refine Zl _ (fun k x s2=>∃(i:Nat) (b:Bool),x=[.bool b,.int .i64 i]/\i<=(cL s).length/\(cL s).length-i<=k/\s2=s1/\(b&&((cL s).drop i).all fun r=>sB r)=mG s)
  ?_ (cL s).length (n+2) _ _ ⟨0,_,rfl,bH _,by omega,rfl,by rw[dE];unfold mG;rw[Bool.and_assoc]⟩ (by omega)
 rintro k _ s2 ⟨i,b,rfl,hi,hk,rfl,hb⟩ rec aD;simp only[ai,al,ae];by_cases aj:i<(cL s).length
 ·rw[ah (show(i:Int)<((cL s).length:Int) by omega),cond_true]
  have hr:(cL s)[i]? =some (cL s)[i]:=ba aj;rw[gT aj,sJ]at hb;rw[Zc];cases b with
  |false=>
   simp only[cond_false,ai,ae];exact aD (k-1) _ _ (by omega) ⟨i+1,false,by rw[Zb (by omega) (by omega)];rfl,by omega,by omega,rfl,by rw[<-hb];simp⟩
  |true=>
   obtain⟨j,o,rfl⟩:=df.ck (by simp;omega);simp only[cond_true,aV,Zd (Zk aj),aX];rw[df.cP (d:=ic (cL s)[i]) (by simp[hr])];unfold ic;simp only[aM];rw[Zi (ZvK h.aam (n+1) _ s2)];simp only[ai,ae];exact aD (k-1) _ _ (by omega) ⟨i+1,_,by rw[Zb (by omega) (by omega)];rfl,by omega,by omega,rfl,by rw[<-hb];simp⟩
 ·rw[ao (show ¬(i:Int)<((cL s).length:Int) by omega),cond_false,Ze]
  rw[uj (by omega)]at hb;simp only[List.all_nil,vQ]at hb;exact .mk ⟨s2,by rw[hb],aI⟩
theorem Zyy {s:List UInt8} {p:Nat} (h:p<s.length):cL (s.drop p)=(dec s p).1::cL (s.drop (p+(dec s p).2)):=by
 rw[Jv (by simp;omega),Zzq,dG,iK]
theorem ZsP {Bd:Za} (h:Ns Bd) (n:Nat) (s:List UInt8) (hn:s.length+12<=n) (hs:s.length<100000) (st:St):
  Ok (fun o=>o=(.val [.bool (mG s)],st)) (run Bd n 26 [.str s] st):=by
 obtain⟨n,rfl⟩: ∃m,n=m+9:=⟨n-9,by omega⟩;rw[Zf,h.eq];unfold Hy;simp only[bU,ae];rw[Zc];refine Zl _ (fun k x s2=>∃(p c:Nat),x=[.int .i64 c,.nat p]/\p<=s.length/\s.length-p<=k/\s2=st/\c<=8/\(decide (0<c+(cL (s.drop p)).length)&&(decide (c+(cL (s.drop p)).length<=8)&&(cL (s.drop p)).all fun r=>sB r))=mG s)
  ?_ s.length (n+8) _ _ ⟨0,0,rfl,bH _,by omega,rfl,by omega,by simp only[dj,dE];rfl⟩ (by omega)
 rintro k _ s2 ⟨p,c,rfl,hp,hk,rfl,hc,hb⟩ rec aD;simp only[al,J_n,ae];by_cases aj:p<s.length
 ·have hw:=ym s p
  have hle:=Qr s p aj;rw[Zyy aj]at hb;simp only[dF,sJ]at hb;have Rq:Nat.blt p s.length=true:=by rw[lV];exact aj
  simp only[Rq,cond_true,yv,rz,Zb (x:=(c:Int)+1) (by omega) (by omega),Zc,ai,ae];by_cases h8:c=8
  ·subst h8
   rw[ao (show ¬8+((cL (s.drop (p+(dec s p).2))).length+1)<=8 by omega)]at hb;simp only[eL,rE]at hb;have e:decide (((8:Nat):Int)+1>8)=true:=rfl;simp only[e,cond_true,Ze];exact .mk (by rw[hb])
  ·have e:decide ((c:Int)+1>8)=false:=ao (by omega)
   simp only[e,cond_false];rw[Zi (ZxX h.aap n _ s2)];simp only[ai,ae];cases ho:sB ((dec s p).1:Int)with
   |false=>
    simp only[bD,cond_true,Ze];rw[ho]at hb;simp only[eL,rE]at hb;exact .mk (by rw[hb])
   |true=>
    simp only[bx,cond_false];rw[ho]at hb;refine aD (s.length-(p+(dec s p).2)) _ _ (by omega) ⟨p+(dec s p).2,c+1,rfl,hle,by omega,rfl,by omega,?_⟩;rw[<-hb,show c+1+(cL (s.drop (p+(dec s p).2))).length=c+((cL (s.drop (p+(dec s p).2))).length+1) by omega];simp
 ·have e:Nat.blt p s.length=false:=by rw[Bool.eq_false_iff];intro h;rw[lV]at h;exact aj h
  simp only[e,cond_false,Ze];rw[uj (by omega),PU]at hb;refine .mk ?_;rw[<-hb];have:decide ((c:Int)>0)=decide (0<c):=by rw[jY];simp only[j4];omega
  rw[this];simp[hc]
end Go.Gv.F
namespace Go.Gv.F
def ux (s:St):Prop:=∀(i:Nat) (b:Option bq),tabs[i]? =some b->s[i]? =some b
theorem ux.mono {s s':St} (h:ux s) (k:ar s s'):ux s':=fun i b e=>k.get (h i b e)
def WQ:List UInt8:=[48,49,50,51,52,53,54,55,56,57,97,98,99,100,101,102,103,104,105,106,107,108,109,110,111,112,113,114,115,116,117,118,119,120,121,122]
def dg (n:Nat):UInt8:=WQ.getD n 0
theorem ZyM (cs:List DV):ov cs []=cs:=by cases cs<;>rfl
theorem yl (d:DV): ∀(cs:List DV) (p:Nat),p<cs.length->bC cs p [d]=cs.set p d
 |[],p,h=>by cases h
 |c::cs,0,_=>by show d::ov cs []=_;rw[ZyM];rfl
 |c::cs,p+1,h=>by show c::bC cs p [d]=_;rw[yl d cs p (by simpa using h)];rfl
theorem ZmZ: ∀(l:List UInt8),pD (ZF l)=some l
 |[]=>rfl
 |b::l=>by
  show(pD (ZF l)).map (UInt8.ofNat _:: ·)=_;rw[ZmZ l];simp
theorem z7 (l:List UInt8) {β:Type} (K:List UInt8->M β):D.bT (ZF l) K=K l:=by unfold D.bT;rw[ZmZ]
theorem CX {β:Type} {st:St} {cs:List DV} {o n:Nat} (h:o+n<=cs.length) (K:List DV->M β):M.load st.length o n K (st++[some ⟨false,cs⟩])=K ((cs.drop o).take n) (st++[some ⟨false,cs⟩]):=
 lA (f:=false) (all:=cs) (by simp) h K
end Go.Gv.F
namespace Go.Gv.F
end Go.Gv.F
namespace Go.Gv.F
theorem ZAX {Bd:Za} {n g:Nat} {args:List DV} {s:St} (h:Ok (fun o=>∃s',o=(.val [.bool true],s')) (run Bd n g args s)): ∃n s',run Bd n g args s=some (.val [.bool true],s'):=by
 obtain⟨o,e,s',rfl⟩:=h;exact⟨n,s',e⟩
theorem wo {n:Int} (h:IntKind.min .i64<=n/\n<=IntKind.max .i64): -9223372036854775808<=n/\n<=9223372036854775807:=by
 have e1:IntKind.min .i64= -9223372036854775808:=by decide
 have e2:IntKind.max .i64=9223372036854775807:=by decide
 rw[e1,e2]at h;exact h
def vD (r:Nat):DV:= .int .i32 (r:Int)
theorem ZlL {Bd:Za} (h:NN Bd) (n:Nat) (s:List UInt8) (hn:s.length+4<=n) (hs:s.length<1000000) (st:St):
  Ok (fun o=>∃a s',o=(.val [.slice 1 a (cL s).length],s')/\ar st s'/\Sl s' a ((cL s).map vD)) (run Bd n 34 [.str s] st):=by
 obtain⟨n,rfl⟩: ∃m,n=m+1:=⟨n-1,by omega⟩;rw[Zf,h.eq];unfold Hq;simp only[bU,ae,ni];rw[Zc];refine Zl _ (fun k x s1=>∃(p:Nat) (a:Option (Nat×Nat)) (z:Nat) (acc:List Nat),x=[.slice z a acc.length,.nat p]/\(z=1\/a=none)/\p<=s.length/\s.length-p<=k/\acc.length<=p/\cL s=acc++cL (s.drop p)/\aY st s1 a (acc.map vD))
  ?_ s.length n _ _ ⟨0,none,0,[],rfl,.inr rfl,bH _,by omega,bH _,by rw[dE];rfl,aY.nil (.refl st)⟩ (by omega)
 rintro k _ s1 ⟨p,a,z,acc,rfl,hz,hp,hk,hl,hr,ho⟩ rec aD;simp only[J_n,Zm 1 z a _ hz,ae,bh];by_cases aj:p<s.length
 ·have Rq:Nat.blt p s.length=true:=by rw[lV];exact aj
  have hw:=ym s p;have hle:=Qr s p aj;rw[Rq,cond_true];obtain⟨q,s2,cK,bd⟩:=ho.push (β:=List DV) (sz:=1) (n:=acc.length) (lim:=17592186044416) [vD (dec s p).1] (sN 0) (by simp) rfl (by omega);have:=bd (fun p1=>rec [.slice 1 p1 (acc.length+1),.nat (p+rz s p)]);refine(congrArg (Ok _) this).mpr ?_;refine aD (s.length-(p+(dec s p).2)) _ _ (by omega) ⟨p+(dec s p).2,q,1,acc++[(dec s p).1],by simp[rz],.inl rfl,hle,by omega,by simp;omega,by rw[hr,Zyy aj];simp,by simpa using cK⟩
 ·have e:Nat.blt p s.length=false:=by rw[Bool.eq_false_iff];intro h;rw[lV]at h;exact aj h
  rw[e,cond_false];rw[uj (by omega),PU,ez]at hr;rw[ZE,hr];exact .mk ⟨a,_,rfl,ZH ho.1,ho.sl.jc _⟩
end Go.Gv.F
namespace Go.Gv.F
def cmpL:List Nat->List Nat->Int
 |[],[]=>0
 |[],_::_=> -1
 |_::_,[]=>1
 |a::l,b::m=>if a<b then-1 else if b<a then 1 else cmpL l m
theorem Zsp (l m:List Nat) (i:Nat) (hl:i<l.length) (hm:i<m.length):cmpL (l.drop i) (m.drop i)=if l[i]<m[i]then-1 else if m[i]<l[i]then 1 else cmpL (l.drop (i+1)) (m.drop (i+1)):=by
 rw[gT hl,gT hm];rfl
theorem Zmx {Bd:Za} (h:MH Bd) (n:Nat) (x:Int) (st:St):run Bd (n+1) 72 [.int .i32 x] st=some (.val [.bool false],st):=by
 rw[Zf,h.eq];unfold Gz;simp only[al,ae,gN,bx,Ze]
theorem Zrj {Bd:Za} (h:Ml Bd) (n:Nat) (x y:Nat) (st:St):run Bd (n+2) 64 [.int .i32 x,.int .i32 y] st=some (.val [.int .i64 (if x<y then-1 else if y<x then 1 else 0)],st):=by
 rw[Zf,h.eq];unfold F3;simp only[al,ae];rw[Zi (Zmx h.q30 n _ st)];simp only[ai,ae];rw[Zi (Zmx h.q30 n _ st)];simp only[ai,ae,cond_false];by_cases h1:x<y
 ·rw[aG h1,ah (show(x:Int)<(y:Int) by omega),cond_true,Ze]
 ·rw[ax h1,ao (show ¬(x:Int)<(y:Int) by omega),cond_false]
  by_cases h2:y<x
  ·rw[aG h2,ah (show(x:Int)>(y:Int) by omega),cond_true,Ze]
  ·rw[ax h2,ao (show ¬(x:Int)>(y:Int) by omega),cond_false,Ze]
theorem ZnB {Bd:Za} (h:Mk Bd) (n:Nat) (l m:List Nat) (a b:Option (Nat×Nat)) (st:St) (ha:Sl st a (l.map vD)) (hb:Sl st b (m.map vD)) (hn:l.length+4<=n) (hl:l.length<1000000):
  Ok (fun o=>o=(.val [.int .i64 (cmpL l m)],st)) (run Bd n 57 [.slice 1 a l.length,.slice 1 b m.length] st):=by
 obtain⟨n,rfl⟩: ∃k,n=k+3:=⟨n-3,by omega⟩;rw[Zf,h.eq];unfold FQ;simp only[bh,ae];rw[Zc];refine Zl _ (fun k x s2=>∃i:Nat,x=[.int .i64 i]/\i<=l.length/\i<=m.length/\l.length-i<=k/\s2=st/\cmpL l m=cmpL (l.drop i) (m.drop i))
  ?_ l.length (n+2) _ _ ⟨0,rfl,bH _,bH _,by omega,rfl,rfl⟩ (by omega)
 rintro k _ s2 ⟨i,rfl,hi,tF,hk,rfl,hc⟩ rec aD;simp only[al,ae];by_cases aj:i<l.length
 ·rw[ah (show(i:Int)<(l.length:Int) by omega),cond_true]
  obtain⟨j,o,rfl⟩:=ha.ck (by simp;omega);simp only[aV,Zd (Zk aj),aX];rw[ha.cP (d:=vD l[i]) (by simp[aj])];unfold vD;simp only[aM];by_cases jP:i<m.length
  ·rw[ao (show ¬(i:Int)>=(m.length:Int) by omega),cond_false]
   obtain⟨j2,o2,rfl⟩:=hb.ck (by simp;omega);simp only[aV,Zd (Zk jP)];rw[hb.cP (d:=vD m[i]) (by simp[jP])];unfold vD;simp only[aM];rw[Zi (Zrj h.q17 n l[i] m[i] s2)];simp only[al,ae];rw[Zsp l m i aj jP]at hc;by_cases h1:l[i]<m[i]
   ·rw[aG h1]at hc⊢
    exact .mk (by rw[hc])
   ·rw[ax h1]at hc⊢
    by_cases h2:m[i]<l[i]
    ·rw[aG h2]at hc⊢
     exact .mk (by rw[hc])
    ·rw[ax h2]at hc⊢
     have e:(!((0:Int)==0))=false:=rfl;rw[e,cond_false,Zb (by omega) (by omega)];exact aD (k-1) _ _ (by omega) ⟨i+1,rfl,by omega,by omega,by omega,rfl,hc⟩
  ·rw[ah (show(i:Int)>=(m.length:Int) by omega),cond_true,Ze]
   rw[gT aj,uj (by omega:m.length<=i)]at hc;exact .mk (by rw[hc];rfl)
 ·rw[ao (show ¬(i:Int)<(l.length:Int) by omega),cond_false]
  rw[uj (by omega:l.length<=i)]at hc;by_cases h2:l.length<m.length
  ·rw[ah (show(l.length:Int)<(m.length:Int) by omega),cond_true,Ze]
   rw[gT (show i<m.length by omega)]at hc;exact .mk (by rw[hc];rfl)
  ·rw[ao (show ¬(l.length:Int)<(m.length:Int) by omega),cond_false,Ze]
   rw[uj (by omega:m.length<=i)]at hc;exact .mk (by rw[hc];rfl)
theorem ZpM {Bd:Za} (h:MN Bd) (n:Nat) (a b:List UInt8) (hn:a.length+8<=n) (mN:b.length+8<=n) (ha:a.length<100000) (hb:b.length<100000) (st:St):
  Ok (fun o=>∃s',o=(.val [.int .i64 (cmpL (cL a) (cL b))],s')/\ar st s') (run Bd n 39 [.str a,.str b] st):=by
 obtain⟨n,rfl⟩: ∃k,n=k+1:=⟨n-1,by omega⟩;rw[Zf,h.eq];unfold Hj;simp only[bU,ae];refine Ok.call (ZlL h.q90 n a (by omega) (by omega) st) ?_;rintro _ ⟨p,s1,rfl,aI,ga⟩;refine⟨_,s1,rfl,?_⟩;simp only[bh,ae];refine Ok.call (ZlL h.q90 n b (by omega) (by omega) s1) ?_;rintro _ ⟨q,s2,rfl,bd,jQ⟩;refine⟨_,s2,rfl,?_⟩;simp only[bh,ae];have hr:=C9 a;refine Ok.call (ZnB h.q6 n (cL a) (cL b) p q s2 (ga.mono bd) jQ (by omega) (by omega)) ?_;rintro _ rfl;refine⟨_,s2,rfl,?_⟩;simp only[al,ae,Ze];exact .mk ⟨s2,rfl,aI.trans bd⟩
theorem ZoA {Bd:Za} (h:MP Bd) (n:Nat) (a b:List UInt8) (hn:a.length+8<=n) (mN:b.length+8<=n) (ha:a.length<100000) (hb:b.length<100000) (st:St):
  Ok (fun o=>∃s',o=(.val [.int .i64 (cmpL (cL a) (cL b))],s')/\ar st s') (run Bd n 40 [.str a,.str b] st):=by
 obtain⟨n,rfl⟩: ∃k,n=k+1:=⟨n-1,by omega⟩;rw[Zf,h.eq];unfold Gw;simp only[bU,ae];refine Ok.call (MT h.LG n a (by omega) (by omega) st) ?_;rintro _ ⟨p,s1,rfl,aI,ga⟩;refine⟨_,s1,rfl,?_⟩;simp only[bh,ae];refine Ok.call (MT h.LG n b (by omega) (by omega) s1) ?_;rintro _ ⟨q,s2,rfl,bd,jQ⟩;refine⟨_,s2,rfl,?_⟩;have ga:=ga.mono bd;have iS:=C9 a;have jz:=C9 b;simp only[bh,ae];generalize hl:cL a=l at*
 generalize hm:cL b=m at*
 rw[Zc];refine Zl _ (fun k x s3=>∃i:Nat,x=[.int .i64 i]/\i<=l.length/\i<=m.length/\l.length-i<=k/\s3=s2/\cmpL l m=cmpL (l.drop i) (m.drop i))
  ?_ l.length n _ _ ⟨0,rfl,bH _,bH _,by omega,rfl,rfl⟩ (by omega)
 rintro k _ s3 ⟨i,rfl,hi,tF,hk,rfl,hc⟩ rec aD;simp only[al,ae,I6,ai];by_cases aj:i<l.length
 ·by_cases jP:i<m.length
  ·rw[show(bif decide ((i:Int)<(l.length:Int))then decide ((i:Int)<(m.length:Int))else false)=true by rw[BX,aH,j4,j4];omega,cond_true]
   obtain⟨j,o,rfl⟩:=ga.ck (by simp;omega);obtain⟨j2,o2,rfl⟩:=jQ.ck (by simp;omega);have g1: ∀K:DV->M (List DV),M.au j (i*1+o) K s3=K (.int .i64 (l[i]:Int)) s3:=fun K=>ga.cP (d:=ic l[i]) (by simp[aj]) K
   have g2: ∀K:DV->M (List DV),M.au j2 (i*1+o2) K s3=K (.int .i64 (m[i]:Int)) s3:=fun K=>jQ.cP (d:=ic m[i]) (by simp[jP]) K
   simp only[aV,Zd (Zk aj),Zd (Zk jP),aX];rw[g1];simp only[aM];rw[g2];simp only[aM];rw[Zsp l m i aj jP]at hc;by_cases h1:l[i]<m[i]
   ·rw[aG h1]at hc
    rw[ah (show(l[i]:Int)<(m[i]:Int) by omega),cond_true,Ze];exact .mk ⟨s3,by rw[hc],aI.trans bd⟩
   ·rw[ax h1]at hc
    rw[ao (show ¬(l[i]:Int)<(m[i]:Int) by omega),cond_false,g1];simp only[aM];rw[g2];simp only[aM];by_cases h2:m[i]<l[i]
    ·rw[aG h2]at hc
     rw[ah (show(l[i]:Int)>(m[i]:Int) by omega),cond_true,Ze];exact .mk ⟨s3,by rw[hc],aI.trans bd⟩
    ·rw[ax h2]at hc
     rw[ao (show ¬(l[i]:Int)>(m[i]:Int) by omega),cond_false,Zb (by omega) (by omega)];exact aD (k-1) _ _ (by omega) ⟨i+1,rfl,by omega,by omega,by omega,rfl,hc⟩
  ·rw[show(bif decide ((i:Int)<(l.length:Int))then decide ((i:Int)<(m.length:Int))else false)=false by rw[BX,Bool.and_eq_false_iff,j3,j3];omega,cond_false]
   rw[gT aj,uj (by omega:m.length<=i)]at hc;rw[ao (show ¬(l.length:Int)<(m.length:Int) by omega),cond_false,ah (show(l.length:Int)>(m.length:Int) by omega),cond_true,Ze];exact .mk ⟨s3,by rw[hc];rfl,aI.trans bd⟩
 ·rw[show(bif decide ((i:Int)<(l.length:Int))then decide ((i:Int)<(m.length:Int))else false)=false by rw[BX,Bool.and_eq_false_iff,j3,j3];omega,cond_false]
  rw[uj (by omega:l.length<=i)]at hc;by_cases h2:l.length<m.length
  ·rw[ah (show(l.length:Int)<(m.length:Int) by omega),cond_true,Ze]
   rw[gT (show i<m.length by omega)]at hc;exact .mk ⟨s3,by rw[hc];rfl,aI.trans bd⟩
  ·rw[ao (show ¬(l.length:Int)<(m.length:Int) by omega),cond_false,ao (show ¬(l.length:Int)>(m.length:Int) by omega),cond_false,Ze]
   rw[uj (by omega:m.length<=i)]at hc;exact .mk ⟨s3,by rw[hc];rfl,aI.trans bd⟩
end Go.Gv.F
