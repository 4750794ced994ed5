/- Lines and words. -/
import Derived.Test.YtegglibipjjblaaGreatDoorGvBMk
import Derived.Test.YtegglibipjjblaaGreatDoorGvZLib
import Derived.Test.YtegglibipjjblaaGreatDoorGvZLaw
import Derived.Test.YtegglibipjjblaaGreatDoorGvZBod
namespace Go.Gv.F
set_option linter.unusedSimpArgs false
variable {i k n o p:Nat} {s' st:St} {β:Type} {cs:ah} {s:aj}
theorem Zi (h:i<n:=by omega):aQ (i:Int) n=true:=by unfold aQ;simp;omega
theorem Zc {x:Int} (h1: -9223372036854775808<=x:=by omega) (h2:x<9223372036854775808:=by omega):ar x=x:=by
 unfold ar;exact IntWalk.i64_in _ (by omega)
variable {Bd:Zh} [h:HA Bd]
theorem OO (n:Nat) (s:aj) (k lo hi:Nat) (oQ:0<lo) (st:St):
  run Bd (n+1) 19 [.str s,.int .i64 k,.int .u8 lo,.int .u8 hi] st=some (.val [.bool (decide (lo<=oc s k/\oc s k<=hi))],st):=by
 rw[Ze,h.e19];unfold Pk Zqc az Lb;simp only[bP,av,aq,Za,au,G4];by_cases hk:k<s.length
 .have e:decide ((k:Int)<(s.length:Int))=true:=by simpa using hk
  simp only[e,ae,Zb (Zi hk)];by_cases h1:lo<=oc s k
  .have e1:decide ((oc s k:Int)>=(lo:Int))=true:=by simpa using h1
   simp only[e1,ae,Zd];congr 5;simp[h1]
  .have e1:decide ((oc s k:Int)>=(lo:Int))=false:=by simpa using h1
   simp only[e1,af,Zd];simp[h1]
 .have e:decide ((k:Int)<(s.length:Int))=false:=by simpa using hk
  simp only[e,af,Zd];rw[LY (by omega)];have: ¬lo<=0:=by omega
  simp[this]
theorem ZxN (s:aj):ZP s 0=(oc s 0:Int):=G4 s 0
theorem ZxU (s:aj):ZP s 1=(oc s 1:Int):=G4 s 1
theorem ZxD (s:aj):ZP s 2=(oc s 2:Int):=G4 s 2
theorem ZxF (s:aj):ZP s 3=(oc s 3:Int):=G4 s 3
theorem RV (h:0<oc s k:=by omega):k<s.length:=by
 rcases jH k s.length with h'|h'
 .exact h'
 .rw[LY h']at h;omega
theorem ZwV (h:1<n):aQ 1 n=true:=Zi h
theorem ZwR (h:0<n):aQ 0 n=true:=Zi h
theorem Zw4 (h:2<n):aQ 2 n=true:=Zi h
theorem ZwI (h:3<n):aQ 3 n=true:=Zi h
theorem Up (a b c:Nat) (r2:224<=a/\a<=239) (h1:128<=b) (h2:b<=191) (h3:128<=c) (h4:c<=191) (st:St):
  (some (Out.val [DV.int .i64 (ar ((ar ((ar ((ar (IntKind.wrap .u8 ((a:Int)-224)))*4096))+(ar ((ar (IntKind.wrap .u8 ((b:Int)-128)))*64))))+(ar (IntKind.wrap .u8 ((c:Int)-128))))),.int .i64 3],st):Option (Out ah×St))=
   some (.val [.int .i64 (((a-224)*4096+(b-128)*64+(c-128):Nat):Int),.int .i64 ((3:Nat):Int)],st):=by
 rw[IntWalk.u8_in _ (by omega),IntWalk.u8_in _ (by omega),IntWalk.u8_in _ (by omega),Zc (x:=(a:Int)-224),Zc (x:=(b:Int)-128),Zc (x:=(c:Int)-128),
  Zc (x:=((a:Int)-224)*4096),Zc (x:=((b:Int)-128)*64),Zc (x:=((a:Int)-224)*4096+((b:Int)-128)*64),Zc]
 have e:((a:Int)-224)*4096+((b:Int)-128)*64+((c:Int)-128)=(((a-224)*4096+(b-128)*64+(c-128):Nat):Int):=by omega
 rw[e];rfl
theorem Uq (a b c d:Nat) (r3:240<=a/\a<=244) (h1:128<=b) (h2:b<=191) (h3:128<=c) (h4:c<=191) (h5:128<=d) (h6:d<=191) (st:St):
  (some (Out.val [DV.int .i64 (ar ((ar ((ar ((ar ((ar (IntKind.wrap .u8 ((a:Int)-240)))*262144))+(ar ((ar (IntKind.wrap .u8 ((b:Int)-128)))*4096))))+(ar ((ar (IntKind.wrap .u8 ((c:Int)-128)))*64))))+(ar (IntKind.wrap .u8 ((d:Int)-128))))),.int .i64 4],st):Option (Out ah×St))=
   some (.val [.int .i64 (((a-240)*262144+(b-128)*4096+(c-128)*64+(d-128):Nat):Int),.int .i64 ((4:Nat):Int)],st):=by
 rw[IntWalk.u8_in _ (by omega),IntWalk.u8_in _ (by omega),IntWalk.u8_in _ (by omega),IntWalk.u8_in _ (by omega),Zc (x:=(a:Int)-240),Zc (x:=(b:Int)-128),Zc (x:=(c:Int)-128),Zc (x:=(d:Int)-128),
  Zc (x:=((a:Int)-240)*262144),Zc (x:=((b:Int)-128)*4096),Zc (x:=((c:Int)-128)*64),Zc (x:=((a:Int)-240)*262144+((b:Int)-128)*4096),Zc (x:=((a:Int)-240)*262144+((b:Int)-128)*4096+((c:Int)-128)*64),Zc]
 have e:((a:Int)-240)*262144+((b:Int)-128)*4096+((c:Int)-128)*64+((d:Int)-128)=(((a-240)*262144+(b-128)*4096+(c-128)*64+(d-128):Nat):Int):=by omega
 rw[e];rfl
theorem Zo1 (n:Nat) (s:aj) (hs:0<s.length) (st:St):
  run Bd (n+2) 15 [.str s] st=some (.val [.int .i64 ((dec s 0).1:Int),.int .i64 ((dec s 0).2:Int)],st):=by
 have h0:=Bx s 0;have h1:=Bx s 1;have h2:=Bx s 2;have h3:=Bx s 3;have f1: ∀lo hi:Nat,0<lo->run Bd (n+1) 19 [.str s,.int .i64 1,.int .u8 lo,.int .u8 hi] st=some (.val [.bool (decide (lo<=oc s 1/\oc s 1<=hi))],st):=λlo hi oQ=>OO n s 1 lo hi oQ st
 have f2:run Bd (n+1) 19 [.str s,.int .i64 2,.int .u8 128,.int .u8 191] st=some (.val [.bool (decide (128<=oc s 2/\oc s 2<=191))],st):=OO n s 2 128 191 (by omega) st;have f3:run Bd (n+1) 19 [.str s,.int .i64 3,.int .u8 128,.int .u8 191] st=some (.val [.bool (decide (128<=oc s 3/\oc s 3<=191))],st):=OO n s 3 128 191 (by omega) st;have g1:run Bd (n+1) 19 [.str s,.int .i64 1,.int .u8 128,.int .u8 191] st=_:=f1 128 191 (by omega);have g2:run Bd (n+1) 19 [.str s,.int .i64 1,.int .u8 160,.int .u8 191] st=_:=f1 160 191 (by omega);have g3:run Bd (n+1) 19 [.str s,.int .i64 1,.int .u8 128,.int .u8 159] st=_:=f1 128 159 (by omega);have g4:run Bd (n+1) 19 [.str s,.int .i64 1,.int .u8 144,.int .u8 191] st=_:=f1 144 191 (by omega);have g5:run Bd (n+1) 19 [.str s,.int .i64 1,.int .u8 128,.int .u8 143] st=_:=f1 128 143 (by omega);rw[Ze,h.e15];unfold Qp kW az Q_ Gn bd fV B5 Lb lH;simp only[bP,aq,Zb (ZwR hs),ZxN,ZxU,ZxD,ZxF,Bool.cond_decide];rw[Ao];simp only[ej];generalize oc s 0=a at*
 generalize hb:oc s 1=b at*
 generalize hc:oc s 2=c at*
 generalize hd:oc s 3=d at*
 have l1:0<b->aQ 1 s.length=true:=λh=>ZwV (RV)
 have l2:0<c->aQ 2 s.length=true:=λh=>Zw4 (RV)
 have l3:0<d->aQ 3 s.length=true:=λh=>ZwI (RV)
 by_cases c0:a<128
 .rw[bw (by omega),bw c0,Zc];rfl
 rw[aW (by omega),aW c0];by_cases r1:194<=a/\a<=223
 .have e1:(a:Int)>=194:=by omega
  have e2:(a:Int)<=223:=by omega
  have e3: ¬(a:Int)>=224:=by omega
  have e4: ¬(a:Int)>=240:=by omega
  simp only[Za,au,aq,bw e1,aw e2,ae,Zk g1];by_cases k:128<=b/\b<=191
  .simp only[aw k,ae,Zb (l1 (by omega)),Zd]
   rw[bw ⟨r1,k⟩,IntWalk.u8_in _ (by omega),IntWalk.u8_in _ (by omega),Zc (x:=(a:Int)-192),Zc (x:=(b:Int)-128),Zc (x:=((a:Int)-192)*64),Zc];have:(a:Int)-192=((a-192:Nat):Int):=by omega
   have:(b:Int)-128=((b-128:Nat):Int):=by omega
   simp[*]
  .simp only[aB k,af,aW e3,aW e4,au,aq,Zd]
   rw[aW (by rintro⟨_,h⟩;exact k h),aW (by omega),aW (by omega)];rfl
 by_cases r2:224<=a/\a<=239
 .have e1:(a:Int)>=194:=by omega
  have e2: ¬(a:Int)<=223:=by omega
  have e3:(a:Int)>=224:=by omega
  have e4:(a:Int)<=239:=by omega
  by_cases y1:a=224
  .subst y1
   have x1:(((224:Nat):Int)==224)=true:=rfl;have x2:(((224:Nat):Int)==237)=false:=rfl;simp only[Za,au,av,aq,bw e1,aB e2,af,bw e3,aw e4,ae,x1,x2,Zk g2,Zd];by_cases k:160<=b/\b<=191
   .by_cases k2:128<=c/\c<=191
    .simp only[aw k,aw k2,ae,Zk f2,au,aq,Zb (l1 (by omega)),Zb (l2 (by omega)),Zd]
     rw[aW (by omega),bw ⟨r2,by simpa using k,k2⟩];exact Up 224 b c r2 (by omega) (by omega) (by omega) (by omega) st
    .simp only[aw k,aB k2,ae,af,Zk f2,au,aq,Zd]
     rw[aW (by omega),aW (by rintro⟨_,_,h⟩;exact k2 h),aW (by omega)];rfl
   .simp only[aB k,af,au,aq,Zd]
    rw[aW (by omega),aW (by rintro⟨_,h,_⟩;exact k (by simpa using h)),aW (by omega)];rfl
  .by_cases y2:a=237
   .subst y2
    have x1:(((237:Nat):Int)==224)=false:=rfl;have x2:(((237:Nat):Int)==237)=true:=rfl;simp only[Za,au,av,aq,bw e1,aB e2,af,bw e3,aw e4,ae,x1,x2,Zk g3,Zd];by_cases k:128<=b/\b<=159
    .by_cases k2:128<=c/\c<=191
     .simp only[aw k,aw k2,ae,Zk f2,au,aq,Zb (l1 (by omega)),Zb (l2 (by omega)),Zd]
      rw[aW (by omega),bw ⟨r2,by simpa using k,k2⟩];exact Up 237 b c r2 (by omega) (by omega) (by omega) (by omega) st
     .simp only[aw k,aB k2,ae,af,Zk f2,au,aq,Zd]
      rw[aW (by omega),aW (by rintro⟨_,_,h⟩;exact k2 h),aW (by omega)];rfl
    .simp only[aB k,af,au,aq,Zd]
     rw[aW (by omega),aW (by rintro⟨_,h,_⟩;exact k (by simpa using h)),aW (by omega)];rfl
   .have x1:((a:Int)==224)=false:=by rw[dY];omega
    have x2:((a:Int)==237)=false:=by rw[dY];omega
    simp only[Za,au,av,aq,bw e1,aB e2,af,bw e3,aw e4,ae,x1,x2,Zk g1,Zd,aW y1,aW y2];by_cases k:128<=b/\b<=191
    .by_cases k2:128<=c/\c<=191
     .simp only[aw k,aw k2,ae,Zk f2,au,aq,Zb (l1 (by omega)),Zb (l2 (by omega)),Zd]
      rw[aW (by omega),bw ⟨r2,k,k2⟩];exact Up a b c r2 (by omega) (by omega) (by omega) (by omega) st
     .simp only[aw k,aB k2,ae,af,Zk f2,au,aq,Zd]
      rw[aW (by omega),aW (by rintro⟨_,_,h⟩;exact k2 h),aW (by omega)];rfl
    .simp only[aB k,af,au,aq,Zd]
     rw[aW (by omega),aW (by rintro⟨_,h,_⟩;exact k h),aW (by omega)];rfl
 by_cases r3:240<=a/\a<=244
 .have e1:(a:Int)>=194:=by omega
  have e2: ¬(a:Int)<=223:=by omega
  have e3:(a:Int)>=224:=by omega
  have e4: ¬(a:Int)<=239:=by omega
  have e5:(a:Int)>=240:=by omega
  have e6:(a:Int)<=244:=by omega
  by_cases y1:a=240
  .subst y1
   have x1:(((240:Nat):Int)==240)=true:=rfl;have x2:(((240:Nat):Int)==244)=false:=rfl;simp only[Za,au,av,aq,bw e1,aB e2,af,bw e3,aB e4,bw e5,aw e6,ae,x1,x2,Zk g4,Zd];by_cases k:144<=b/\b<=191
   .by_cases k2:128<=c/\c<=191
    .by_cases k3:128<=d/\d<=191
     .simp only[aw k,aw k2,aw k3,ae,Zk f2,Zk f3,au,aq,Zb (l1 (by omega)),Zb (l2 (by omega)),Zb (l3 (by omega)),Zd]
      rw[aW (by omega),aW (by omega),bw ⟨r3,by simpa using k,k2,k3⟩];exact Uq 240 b c d r3 (by omega) (by omega) (by omega) (by omega) (by omega) (by omega) st
     .simp only[aw k,aw k2,aB k3,ae,af,Zk f2,Zk f3,au,aq,Zd]
      rw[aW (by omega),aW (by omega),aW (by rintro⟨_,_,_,h⟩;exact k3 h)];rfl
    .simp only[aw k,aB k2,ae,af,Zk f2,au,aq,Zd]
     rw[aW (by omega),aW (by omega),aW (by rintro⟨_,_,h,_⟩;exact k2 h)];rfl
   .simp only[aB k,af,au,aq,Zd]
    rw[aW (by omega),aW (by omega),aW (by rintro⟨_,h,_⟩;exact k (by simpa using h))];rfl
  .by_cases y2:a=244
   .subst y2
    have x1:(((244:Nat):Int)==240)=false:=rfl;have x2:(((244:Nat):Int)==244)=true:=rfl;simp only[Za,au,av,aq,bw e1,aB e2,af,bw e3,aB e4,bw e5,aw e6,ae,x1,x2,Zk g5,Zd];by_cases k:128<=b/\b<=143
    .by_cases k2:128<=c/\c<=191
     .by_cases k3:128<=d/\d<=191
      .simp only[aw k,aw k2,aw k3,ae,Zk f2,Zk f3,au,aq,Zb (l1 (by omega)),Zb (l2 (by omega)),Zb (l3 (by omega)),Zd]
       rw[aW (by omega),aW (by omega),bw ⟨r3,by simpa using k,k2,k3⟩];exact Uq 244 b c d r3 (by omega) (by omega) (by omega) (by omega) (by omega) (by omega) st
      .simp only[aw k,aw k2,aB k3,ae,af,Zk f2,Zk f3,au,aq,Zd]
       rw[aW (by omega),aW (by omega),aW (by rintro⟨_,_,_,h⟩;exact k3 h)];rfl
     .simp only[aw k,aB k2,ae,af,Zk f2,au,aq,Zd]
      rw[aW (by omega),aW (by omega),aW (by rintro⟨_,_,h,_⟩;exact k2 h)];rfl
    .simp only[aB k,af,au,aq,Zd]
     rw[aW (by omega),aW (by omega),aW (by rintro⟨_,h,_⟩;exact k (by simpa using h))];rfl
   .have x1:((a:Int)==240)=false:=by rw[dY];omega
    have x2:((a:Int)==244)=false:=by rw[dY];omega
    simp only[Za,au,av,aq,bw e1,aB e2,af,bw e3,aB e4,bw e5,aw e6,ae,x1,x2,Zk g1,Zd,aW y1,aW y2];by_cases k:128<=b/\b<=191
    .by_cases k2:128<=c/\c<=191
     .by_cases k3:128<=d/\d<=191
      .simp only[aw k,aw k2,aw k3,ae,Zk f2,Zk f3,au,aq,Zb (l1 (by omega)),Zb (l2 (by omega)),Zb (l3 (by omega)),Zd]
       rw[aW (by omega),aW (by omega),bw ⟨r3,k,k2,k3⟩];exact Uq a b c d r3 (by omega) (by omega) (by omega) (by omega) (by omega) (by omega) st
      .simp only[aw k,aw k2,aB k3,ae,af,Zk f2,Zk f3,au,aq,Zd]
       rw[aW (by omega),aW (by omega),aW (by rintro⟨_,_,_,h⟩;exact k3 h)];rfl
     .simp only[aw k,aB k2,ae,af,Zk f2,au,aq,Zd]
      rw[aW (by omega),aW (by omega),aW (by rintro⟨_,_,h,_⟩;exact k2 h)];rfl
    .simp only[aB k,af,au,aq,Zd]
     rw[aW (by omega),aW (by omega),aW (by rintro⟨_,h,_⟩;exact k (h))];rfl
 .have e1:(a:Int)>=194\/¬(a:Int)>=194:=Classical.em _
  have e2: ¬(a:Int)<=223\/¬(a:Int)>=194:=by omega
  have e4: ¬(a:Int)<=239\/¬(a:Int)>=224:=by omega
  have e6: ¬(a:Int)<=244\/¬(a:Int)>=240:=by omega
  rw[aW (by omega),aW (by omega),aW (by omega)];simp only[Za,au,aq];rcases e2 with e|e<;>rcases e4 with f|f<;>rcases e6 with g|g<;>(simp only[e,f,g,decide_false,jI,af,ite_self,Zd];rfl)
def ic (r:Nat):DV:= .int .i64 (r:Int)
theorem O5 (n:Nat) (s:aj) (hn:s.length+4<=n) (hs:s.length<1000000) (st:St):
  Ok (λo=>∃a s',o=(.val [.slice 1 a (dp s).length],s')/\aD st s'/\Sl s' a ((dp s).map ic)) (run Bd n 12 [.str s] st):=by
 obtain⟨n,rfl⟩: ∃m,n=m+3:=⟨n-3,by omega⟩;rw[Ze,h.Um];unfold PN kW gk ck gP bD Ls Li;simp only[bP,aq,Z5,Za];refine Zj _ (λk x s1=>∃(t:aj) (a:ai) (z:Nat) (acc:al),x=[.str t,.slice z a acc.length]/\(z=1\/a=none)/\t.length<=k/\acc.length+t.length<=s.length/\dp s=acc++dp t/\ba st s1 a (acc.map ic))
  ?_ s.length (n+2) _ _ ⟨s,none,0,[],rfl,.inr rfl,aL _,by simp,rfl,ba.nil (.refl st)⟩ (by omega)
 rintro k _ s1 ⟨t,a,z,acc,rfl,hz,hk,hl,hr,ho⟩ rec aP;simp only[bP,Zg 1 z a _ hz,aq,Bool.cond_decide,bc];by_cases ht:(t.length:Int)>0
 .rw[bw ht]
  have qQ:0<t.length:=by omega
  have hw:=Cn t 0;have hle:=TU t 0 qQ;rw[Zk (Zo1 n t qQ s1)];simp only[av,aq];obtain⟨p,s2,c8,hp⟩:=ho.push (β:=ah) (sz:=1) (n:=acc.length) (lim:=8796093022208) [ic (dec t 0).1] (wI 0) (by simp) rfl (by omega);have:=hp (λp=>aC (decide (0<=((dec t 0).2:Int))&&decide (((dec t 0).2:Int)<=(t.length:Int))) (rec [.str (t.drop ((dec t 0).2:Int).toNat),.slice 1 p (acc.length+1)]));refine(congrArg (Ok _) this).mpr ?_;rw[Zb (by simp;omega)];refine aP (t.length-1) _ _ (by omega) ⟨t.drop (dec t 0).2,p,1,acc++[(dec t 0).1],by simp,.inl rfl,by simp;omega,by simp;omega,by rw[hr,Lo qQ];simp,by simpa using c8⟩
 .rw[aW ht]
  have qQ:t=[]:=zL (by omega);subst qQ;rw[Tl,gG]at hr;rw[Zs,hr];exact .mk ⟨a,_,rfl,Zu ho.1,ho.sl.fN _⟩
def Zyd (r:Nat):Bool:=(decide (r<32)&& !(r==9))||r==127||r==65533
theorem ZvK (a b:Nat):((a:Int)==(b:Int))=(a==b):=by rw[iQ];simp only[kU];omega
def flush (w:aj):List (aj):=if w=[]then[]else[w]
def LN:aj->aj->List (aj)
 |[],w=>flush w
 |c::r,w=>if c=35 then flush w else if c=32\/c=9 then flush w++LN r []else LN r (w++[c])
def Ztp (line:aj):Int×List (aj):=
 if (dp line).any Zyd then(41,[])else if (LN line []).length>40 then(40,[])else(0,LN line [])
def Zyj (w:aj):Prop:=Ztp w=(0,[w])
instance (w:aj):Decidable (Zyj w):=inferInstanceAs (Decidable (Ztp w=(0,[w])))
theorem Af (F:(ah->M β)->ah->M β) (m:Nat) (st:ah):cY F (m+1) st=F (cY F m) st:=rfl
theorem bF (h:cs.length=n) (K:M β):bx cs n K=K:=by
 unfold bx;rw[h];simp
def wm (r:Int):Bool:=(decide (r>=97)&&decide (r<=122))||((decide (r>=65)&&decide (r<=90))||((decide (r>=48)&&decide (r<=57))||(r==45||(r==95||(decide (r>=161)&&decide (r<=65519))))))
theorem ZsU (n:Nat) (r:Int) (st:St):run Bd (n+1) 29 [.int .i64 r] st=some (.val [.bool (wm r)],st):=by
 rw[Ze,h.e29];unfold RD cA az Lb wm;simp only[av,aq,KJ,au,Zd,Bool.cond_true_left,DG,Bool.or_assoc]
def xa:ah:=[.int .i32 97,.int .i32 122,.int .i32 65,.int .i32 90,.int .i32 48,.int .i32 57,.int .i32 45,.int .i32 45,.int .i32 95,.int .i32 95,.int .i32 161,.int .i32 65519]
theorem Zqv (n:Nat) (st:St):run Bd (n+1) 54 [] st=some (.val [.agg xa],st):=by
 rw[Ze,h.e54];rfl
theorem ZtT (n:Nat) (r:Int) (st:St):run Bd (n+8) 28 [.int .i32 r] st=some (.val [.bool (wm r)],st):=by
 rw[Ze,h.e28];unfold RR Q_ cI az Lb Li;simp only[av,aq];rw[Zk (Zqv (n+6) st)];simp only[cJ,aq,bF (show xa.length=12 from rfl)];have step: ∀(rec:ah->M ah) (i:Nat) (lo hi:Int),i<6->(xa.drop (i*2)).take 2=[.int .i32 lo,.int .i32 hi]->
   (λ(x:Int)=>aC (aQ x 6) (bx ((xa.drop (x.toNat*2)).take 2) 2 (eD ((xa.drop (x.toNat*2)).take 2) 0 λd=>cT .i32 d λx1=>
    cK (λst=>gW st λb1 st=>aJ st<|bif b1 then ay [.bool true]else rec [.int .i64 (ar (x+1))]) λaI=>
    bif decide (r>=x1)then eD ((xa.drop (x.toNat*2)).take 2) 1 λd1=>cT .i32 d1 λx2=>aI [.bool (decide (r<=x2))]else aI [.bool false]))) (i:Int)=
   bif (decide (r>=lo)&&decide (r<=hi))then ay [.bool true]else rec [.int .i64 ((i+1:Nat):Int)]:=by
  intro rec i lo hi hi6 hd;simp only[bu,hd,Zb (Zi hi6),bF (show([.int .i32 lo,.int .i32 hi]:ah).length=2 from rfl),Zc (x:=(i:Int)+1)];unfold eD;simp only[lB,qb,aY,KJ,au,aq,DG];rfl
 have fin: ∀(l:List (Int×Int)) (i m:Nat),i+l.length=6->(∀(k:Nat) p,l[k]? =some p->(xa.drop ((i+k)*2)).take 2=[.int .i32 p.1,.int .i32 p.2])->l.length<m->
   cY (λ(aV:ah->M ah) st=>aF .i64 st λx st=>aJ st<|bif decide (x<6)then aC (aQ x 6) (bx ((xa.drop (x.toNat*2)).take 2) 2 (eD ((xa.drop (x.toNat*2)).take 2) 0 λd=>cT .i32 d λx1=>
    cK (λst=>gW st λb1 st=>aJ st<|bif b1 then ay [.bool true]else aV [.int .i64 (ar (x+1))]) λaI=>
    bif decide (r>=x1)then eD ((xa.drop (x.toNat*2)).take 2) 1 λd1=>cT .i32 d1 λx2=>aI [.bool (decide (r<=x2))]else aI [.bool false]))else(aJ []<|ay [.bool false])) m [.int .i64 (i:Int)] st
   =some (.val [.bool (l.any λp=>decide (r>=p.1)&&decide (r<=p.2))],st):=by
  intro l;induction l with
  |nil=>
   intro i m hi _ hm;obtain⟨m,rfl⟩: ∃k,m=k+1:=⟨m-1,by simp at hm;omega⟩;simp only[yi,fT]at hi;subst hi;rw[Af];simp only[av,aq];rfl
  |cons p l ih=>
   intro i m hi hp hm;simp only[cH]at hi hm;obtain⟨m,rfl⟩: ∃k,m=k+1:=⟨m-1,by omega⟩;rw[Af];simp only[av,aq];rw[aw (show(i:Int)<6 by omega),ae];refine(congrFun (step _ i p.1 p.2 (by omega) (by have:=hp 0 p rfl;simpa using this)) st).trans ?_;rw[List.any_cons];cases hb:(decide (r>=p.1)&&decide (r<=p.2))with
   |true=>rfl
   |false=>
    rw[af,sK];exact ih (i+1) m (by omega) (λk q hq=>by have:=hp (k+1) q (by simpa using hq);rwa [show i+(k+1)=i+1+k by omega]at this) (by omega)
 have e:wm r=[((97:Int),(122:Int)),(65,90),(48,57),(45,45),(95,95),(161,65519)].any λp=>decide (r>=p.1)&&decide (r<=p.2):=by
  unfold wm;have e1:(r==45)=(decide (r>=45)&&decide (r<=45)):=by rw[iQ];simp only[kU,aR,mJ];omega
  have e2:(r==95)=(decide (r>=95)&&decide (r<=95)):=by rw[iQ];simp only[kU,aR,mJ];omega
  rw[e1,e2];simp only[List.any_cons,List.any_nil,Bool.or_false]
 rw[e,Za];refine fin _ 0 (n+7) rfl (λk p hp=>?_) (by simp)
 match k,hp with
 |0,hp=>cases hp;rfl
 |1,hp=>cases hp;rfl
 |2,hp=>cases hp;rfl
 |3,hp=>cases hp;rfl
 |4,hp=>cases hp;rfl
 |5,hp=>cases hp;rfl
 |k+6,hp=>simp at hp
def rI (s:aj):Bool:=decide (0<(dp s).length)&&(decide ((dp s).length<=8)&&(dp s).all λr=>wm r)
theorem ZjS (n:Nat) (s:aj) (hn:s.length+6<=n) (hs:s.length<100000) (st:St):
  Ok (λo=>∃s',o=(.val [.bool (rI s)],s')/\aD st s') (run Bd n 27 [.str s] st):=by
 obtain⟨n,rfl⟩: ∃m,n=m+3:=⟨n-3,by omega⟩;rw[Ze,h.e27];unfold PE kW mc az cA Zn bd Ls Lb DU Li;simp only[bP,aq];refine Ok.call (O5 (n+2) s (by omega) (by omega) st) ?_;rintro _ ⟨a,s1,rfl,aG,dG⟩;refine⟨_,s1,rfl,?_⟩;have Nb:=LA s;simp only[bc,aq,KJ,au];rw[Za];have e0:(bif decide (((dp s).length:Int)>0)then decide (((dp s).length:Int)<=8)else false)=(decide (0<(dp s).length)&&decide ((dp s).length<=8)):=by
  rw[DG];congr 1
  .rw[iQ];simp only[mJ];omega
  .rw[iQ];simp only[mJ];omega
 rw[e0];refine Zj _ (λk x s2=>∃(i:Nat) (b:Bool),x=[.bool b,.int .i64 i]/\i<=(dp s).length/\(dp s).length-i<=k/\s2=s1/\(b&&((dp s).drop i).all λr=>wm r)=rI s)
  ?_ (dp s).length (n+2) _ _ ⟨0,_,rfl,cn _,by omega,rfl,by rw[dj];unfold rI;rw[Bool.and_assoc]⟩ (by omega)
 rintro k _ s2 ⟨i,b,rfl,hi,hk,rfl,hb⟩ rec aP;simp only[au,av,aq];by_cases ax:i<(dp s).length
 .rw[aw (show(i:Int)<((dp s).length:Int) by omega),ae]
  have hr:(dp s)[i]? =some (dp s)[i]:=bU ax;rw[iI ax,tL]at hb;rw[Za];cases b with
  |false=>
   simp only[af,au,aq];exact aP (k-1) _ _ (by omega) ⟨i+1,false,by rw[Zc];rfl,by omega,by omega,rfl,by rw[<-hb];simp⟩
  |true=>
   obtain⟨j,o,rfl⟩:=dG.cD (by simp;omega);simp only[ae,aX,Zb (Zi ax),bu];rw[dG.dL (d:=ic (dp s)[i]) (by simp[hr])];unfold ic;simp only[aY];rw[Zk (ZsU (n+1) _ s2)];simp only[au,aq];exact aP (k-1) _ _ (by omega) ⟨i+1,_,by rw[Zc];rfl,by omega,by omega,rfl,by rw[<-hb];simp⟩
 .rw[aB (show ¬(i:Int)<((dp s).length:Int) by omega),af,Zd]
  rw[zK (by omega)]at hb;simp only[List.all_nil,wE]at hb;exact .mk ⟨s2,by rw[hb],aG⟩
theorem Zva (h:p<s.length):dp (s.drop p)=(dec s p).1::dp (s.drop (p+(dec s p).2)):=by
 rw[Lo (by simp;omega),ZwA,fT,jX]
theorem Zqs (n:Nat) (s:aj) (hn:s.length+12<=n) (hs:s.length<100000) (st:St):
  Ok (λo=>o=(.val [.bool (rI s)],st)) (run Bd n 26 [.str s] st):=by
 obtain⟨n,rfl⟩: ∃m,n=m+9:=⟨n-9,by omega⟩;rw[Ze,h.e26];unfold P3 kW oj JX az bd Lb BV Li;simp only[bP,aq];rw[Za];refine Zj _ (λk x s2=>∃(p c:Nat),x=[.int .i64 c,.nat p]/\p<=s.length/\s.length-p<=k/\s2=st/\c<=8/\(decide (0<c+(dp (s.drop p)).length)&&(decide (c+(dp (s.drop p)).length<=8)&&(dp (s.drop p)).all λr=>wm r))=rI s)
  ?_ s.length (n+8) _ _ ⟨0,0,rfl,cn _,by omega,rfl,by omega,by simp only[ej,dj];rfl⟩ (by omega)
 rintro k _ s2 ⟨p,c,rfl,hp,hk,rfl,hc,hb⟩ rec aP;simp only[av,J_n,aq];by_cases ax:p<s.length
 .have hw:=Cn s p
  have hle:=TU s p ax;rw[Zva ax]at hb;simp only[cH,tL]at hb;have UR:Nat.blt p s.length=true:=by rw[pd];exact ax
  simp only[UR,ae,CD,u7,Zc (x:=(c:Int)+1),Za,au,aq];by_cases h8:c=8
  .subst h8
   rw[aB (show ¬8+((dp (s.drop (p+(dec s p).2))).length+1)<=8 by omega)]at hb;simp only[eG,BG]at hb;have e:decide (((8:Nat):Int)+1>8)=true:=rfl;simp only[e,ae,Zd];exact .mk (by rw[hb])
  .have e:decide ((c:Int)+1>8)=false:=aB (by omega)
   simp only[e,af];rw[Zk (ZtT n _ s2)];simp only[au,aq];cases ho:wm ((dec s p).1:Int)with
   |false=>
    simp only[bp,ae,Zd];rw[ho]at hb;simp only[eG,BG]at hb;exact .mk (by rw[hb])
   |true=>
    simp only[bm,af];rw[ho]at hb;refine aP (s.length-(p+(dec s p).2)) _ _ (by omega) ⟨p+(dec s p).2,c+1,rfl,hle,by omega,rfl,by omega,?_⟩;rw[<-hb,show c+1+(dp (s.drop (p+(dec s p).2))).length=c+((dp (s.drop (p+(dec s p).2))).length+1) by omega];simp
 .have e:Nat.blt p s.length=false:=by rw[Bool.eq_false_iff];intro h;rw[pd]at h;exact ax h
  simp only[e,af,Zd];rw[zK (by omega),Tl]at hb;refine .mk ?_;rw[<-hb];have:decide ((c:Int)>0)=decide (0<c):=by rw[iQ];simp only[mJ];omega
  rw[this];simp[hc]
def wM (s:St):Prop:=∀(i:Nat) (b:Option bT),tabs[i]? =some b->s[i]? =some b
theorem wM.mono {s:St} (h:wM s) (k:aD s s'):wM s':=λi b e=>k.get (h i b e)
def abn:aj:=[48,49,50,51,52,53,54,55,56,57,97,98,99,100,101,102,103,104,105,106,107,108,109,110,111,112,113,114,115,116,117,118,119,120,121,122]
def dg (n:Nat):UInt8:=abn.getD n 0
theorem ZuM (cs:ah):ov cs []=cs:=by cases cs<;>rfl
theorem Cq (d:DV): ∀(cs:ah) (p:Nat),p<cs.length->cw cs p [d]=cs.set p d
 |[],p,h=>by cases h
 |c::cs,0,_=>by show d::ov cs []=_;rw[ZuM];rfl
 |c::cs,p+1,h=>by show c::cw cs p [d]=_;rw[Cq d cs p (by simpa using h)];rfl
theorem Zls: ∀(l:aj),sZ (ZU l)=some l
 |[]=>rfl
 |b::l=>by
  show(sZ (ZU l)).map (UInt8.ofNat _:: ·)=_;rw[Zls l];simp
theorem oh (l:aj) (K:aj->M β):kE (ZU l) K=K l:=by unfold kE;rw[Zls]
theorem Hj (h:o+n<=cs.length) (K:ah->M β):bS st.length o n K (st++[some ⟨false,cs⟩])=K ((cs.drop o).take n) (st++[some ⟨false,cs⟩]):=
 kC (f:=false) (all:=cs) (by simp) h K
end Go.Gv.F
namespace Go.Gv.F
theorem Zxf {Bd:Zh} {n g:Nat} {args:ah} {s:St} (h:Ok (λo=>∃s',o=(.val [.bool true],s')) (run Bd n g args s)): ∃n s',run Bd n g args s=some (.val [.bool true],s'):=by
 obtain⟨o,e,s',rfl⟩:=h;exact⟨n,s',e⟩
theorem wP {n:Int} (h:IntKind.min .i64<=n/\n<=IntKind.max .i64): -9223372036854775808<=n/\n<=9223372036854775807:=by
 have e1:IntKind.min .i64= -9223372036854775808:=by decide
 simp_all
def zn (r:Nat):DV:= .int .i32 (r:Int)
variable {Bd:Zh} [h:HA Bd]
theorem ZkQ (n:Nat) (s:aj) (hn:s.length+4<=n) (hs:s.length<1000000) (st:St):
  Ok (λo=>∃a s',o=(.val [.slice 1 a (dp s).length],s')/\aD st s'/\Sl s' a ((dp s).map zn)) (run Bd n 34 [.str s] st):=by
 obtain⟨n,rfl⟩: ∃m,n=m+1:=⟨n-1,by omega⟩;rw[Ze,h.e34];unfold QK kW gk JX bD BV;simp only[bP,aq,Z5];rw[Za];refine Zj _ (λk x s1=>∃(p:Nat) (a:ai) (z:Nat) (acc:al),x=[.slice z a acc.length,.nat p]/\(z=1\/a=none)/\p<=s.length/\s.length-p<=k/\acc.length<=p/\dp s=acc++dp (s.drop p)/\ba st s1 a (acc.map zn))
  ?_ s.length n _ _ ⟨0,none,0,[],rfl,.inr rfl,cn _,by omega,cn _,by rw[dj];rfl,ba.nil (.refl st)⟩ (by omega)
 rintro k _ s1 ⟨p,a,z,acc,rfl,hz,hp,hk,hl,hr,ho⟩ rec aP;simp only[J_n,Zg 1 z a _ hz,aq,bc];by_cases ax:p<s.length
 .have UR:Nat.blt p s.length=true:=by rw[pd];exact ax
  have hw:=Cn s p;have hle:=TU s p ax;rw[UR,ae];obtain⟨q,s2,c8,aZ⟩:=ho.push (β:=ah) (sz:=1) (n:=acc.length) (lim:=17592186044416) [zn (dec s p).1] (wI 0) (by simp) rfl (by omega);have:=aZ (λp1=>rec [.slice 1 p1 (acc.length+1),.nat (p+u7 s p)]);refine(congrArg (Ok _) this).mpr ?_;refine aP (s.length-(p+(dec s p).2)) _ _ (by omega) ⟨p+(dec s p).2,q,1,acc++[(dec s p).1],by simp[u7],.inl rfl,hle,by omega,by simp;omega,by rw[hr,Zva ax];simp,by simpa using c8⟩
 .have e:Nat.blt p s.length=false:=by rw[Bool.eq_false_iff];simp_all
  rw[e,af];rw[zK (by omega),Tl,gG]at hr;rw[Zs,hr];exact .mk ⟨a,_,rfl,Zu ho.1,ho.sl.fN _⟩
def cmpL:al->al->Int
 |[],[]=>0
 |[],_::_=> -1
 |_::_,[]=>1
 |a::l,b::m=>if a<b then-1 else if b<a then 1 else cmpL l m
theorem ZpV (l m:al) (i:Nat) (hl:i<l.length) (hm:i<m.length):cmpL (l.drop i) (m.drop i)=if l[i]<m[i]then-1 else if m[i]<l[i]then 1 else cmpL (l.drop (i+1)) (m.drop (i+1)):=by
 rw[iI hl,iI hm];rfl
theorem ZlS (n:Nat) (x:Int) (st:St):run Bd (n+1) 72 [.int .i32 x] st=some (.val [.bool false],st):=by
 rw[Ze,h.e72];unfold OJ Lb;simp[av,aq,rr,bm,Zd]
theorem Zpu (n:Nat) (x y:Nat) (st:St):run Bd (n+2) 64 [.int .i32 x,.int .i32 y] st=some (.val [.int .i64 (if x<y then-1 else if y<x then 1 else 0)],st):=by
 rw[Ze,h.e64];unfold Ow bd BV Li;simp only[av,aq];rw[Zk (ZlS n _ st)];simp only[au,aq];rw[Zk (ZlS n _ st)];simp only[au,aq,af];by_cases h1:x<y
 .rw[bw h1,aw (show(x:Int)<(y:Int) by omega),ae,Zd]
 .rw[aW h1,aB (show ¬(x:Int)<(y:Int) by omega),af]
  by_cases h2:y<x
  .rw[bw h2,aw (show(x:Int)>(y:Int) by omega),ae,Zd]
  .rw[aW h2,aB (show ¬(x:Int)>(y:Int) by omega),af,Zd]
theorem Zmq (n:Nat) (l m:al) (a b:ai) (st:St) (ha:Sl st a (l.map zn)) (hb:Sl st b (m.map zn)) (hn:l.length+4<=n) (hl:l.length<1000000):
  Ok (λo=>o=(.val [.int .i64 (cmpL l m)],st)) (run Bd n 57 [.slice 1 a l.length,.slice 1 b m.length] st):=by
 obtain⟨n,rfl⟩: ∃k,n=k+3:=⟨n-3,by omega⟩;rw[Ze,h.e57];unfold Ot ck Q_ cI N_ cQ Li;simp only[bc,aq];rw[Za];refine Zj _ (λk x s2=>∃i:Nat,x=[.int .i64 i]/\i<=l.length/\i<=m.length/\l.length-i<=k/\s2=st/\cmpL l m=cmpL (l.drop i) (m.drop i))
  ?_ l.length (n+2) _ _ (by grind) (by omega)
 rintro k _ s2 ⟨i,rfl,hi,Ig,hk,rfl,hc⟩ rec aP;simp only[av,aq];by_cases ax:i<l.length
 .rw[aw (show(i:Int)<(l.length:Int) by omega),ae]
  obtain⟨j,o,rfl⟩:=ha.cD (by simp;omega);simp only[aX,Zb (Zi ax),bu];rw[ha.dL (d:=zn l[i]) (by simp[ax])];unfold zn;simp only[aY];by_cases kb:i<m.length
  .rw[aB (show ¬(i:Int)>=(m.length:Int) by omega),af]
   obtain⟨j2,o2,rfl⟩:=hb.cD (by simp;omega);simp only[aX,Zb (Zi kb)];rw[hb.dL (d:=zn m[i]) (by simp[kb])];unfold zn;simp only[aY];rw[Zk (Zpu n l[i] m[i] s2)];simp only[av,aq];rw[ZpV l m i ax kb]at hc;by_cases h1:l[i]<m[i]
   .rw[bw h1]at hc⊢
    exact .mk (by rw[hc])
   .rw[aW h1]at hc⊢
    by_cases h2:m[i]<l[i]
    .rw[bw h2]at hc⊢
     exact .mk (by rw[hc])
    .rw[aW h2]at hc⊢
     have e:(!((0:Int)==0))=false:=rfl;rw[e,af,Zc];exact aP (k-1) _ _ (by omega) ⟨i+1,rfl,by omega,by omega,by omega,rfl,hc⟩
  .rw[aw (show(i:Int)>=(m.length:Int) by omega),ae,Zd]
   rw[iI ax,zK (by omega:m.length<=i)]at hc;exact .mk (by rw[hc];rfl)
 .rw[aB (show ¬(i:Int)<(l.length:Int) by omega),af]
  rw[zK (by omega:l.length<=i)]at hc;by_cases h2:l.length<m.length
  .rw[aw (show(l.length:Int)<(m.length:Int) by omega),ae,Zd]
   rw[iI (show i<m.length by omega)]at hc;exact .mk (by rw[hc];rfl)
  .rw[aB (show ¬(l.length:Int)<(m.length:Int) by omega),af,Zd]
   rw[zK (by omega:m.length<=i)]at hc;exact .mk (by rw[hc];rfl)
theorem Zn3 (n:Nat) (a b:aj) (hn:a.length+8<=n) (vR:b.length+8<=n) (ha:a.length<100000) (hb:b.length<100000) (st:St):
  Ok (λo=>∃s',o=(.val [.int .i64 (cmpL (dp a) (dp b))],s')/\aD st s') (run Bd n 39 [.str a,.str b] st):=by
 obtain⟨n,rfl⟩: ∃k,n=k+1:=⟨n-1,by omega⟩;rw[Ze,h.e39];unfold OZ kW mc cQ Ls uf Li;simp only[bP,aq];refine Ok.call (ZkQ n a (by omega) (by omega) st) ?_;rintro _ ⟨p,s1,rfl,aG,fm⟩;refine⟨_,s1,rfl,?_⟩;simp only[bc,aq];refine Ok.call (ZkQ n b (by omega) (by omega) s1) ?_;rintro _ ⟨q,s2,rfl,aZ,jN⟩;refine⟨_,s2,rfl,?_⟩;simp only[bc,aq];have hr:=LA a;refine Ok.call (Zmq n (dp a) (dp b) p q s2 (fm.mono aZ) jN (by omega) (by omega)) ?_;rintro _ rfl;refine⟨_,s2,rfl,?_⟩;simp only[av,aq,Zd];exact .mk ⟨s2,rfl,aG.trans aZ⟩
theorem Ziw (n:Nat) (a b:aj) (hn:a.length+8<=n) (vR:b.length+8<=n) (ha:a.length<100000) (hb:b.length<100000) (st:St):
  Ok (λo=>∃s',o=(.val [.int .i64 (cmpL (dp a) (dp b))],s')/\aD st s') (run Bd n 40 [.str a,.str b] st):=by
 obtain⟨n,rfl⟩: ∃k,n=k+1:=⟨n-1,by omega⟩;rw[Ze,h.e40];unfold Pg kW mc Q_ cI az Zn Ls Li Lb;simp only[bP,aq];refine Ok.call (O5 n a (by omega) (by omega) st) ?_;rintro _ ⟨p,s1,rfl,aG,fm⟩;refine⟨_,s1,rfl,?_⟩;simp only[bc,aq];refine Ok.call (O5 n b (by omega) (by omega) s1) ?_;rintro _ ⟨q,s2,rfl,aZ,jN⟩;refine⟨_,s2,rfl,?_⟩;have fm:=fm.mono aZ;have kf:=LA a;simp only[bc,aq];generalize hl:dp a=l at*
 generalize hm:dp b=m at*
 rw[Za];refine Zj _ (λk x s3=>∃i:Nat,x=[.int .i64 i]/\i<=l.length/\i<=m.length/\l.length-i<=k/\s3=s2/\cmpL l m=cmpL (l.drop i) (m.drop i))
  ?_ l.length n _ _ (by grind) (by omega)
 rintro k _ s3 ⟨i,rfl,hi,Ig,hk,rfl,hc⟩ rec aP;simp only[av,aq,KJ,au];by_cases ax:i<l.length
 .by_cases kb:i<m.length
  .rw[show(bif decide ((i:Int)<(l.length:Int))then decide ((i:Int)<(m.length:Int))else false)=true by rw[DG,aR,mJ,mJ];omega,ae]
   obtain⟨j,o,rfl⟩:=fm.cD (by simp;omega);obtain⟨j2,o2,rfl⟩:=jN.cD (by simp;omega);have g1: ∀K:DV->M ah,bG j (i*1+o) K s3=K (.int .i64 (l[i]:Int)) s3:=λK=>fm.dL (d:=ic l[i]) (by simp[ax]) K
   have g2: ∀K:DV->M ah,bG j2 (i*1+o2) K s3=K (.int .i64 (m[i]:Int)) s3:=λK=>jN.dL (d:=ic m[i]) (by simp[kb]) K
   simp only[aX,Zb (Zi ax),Zb (Zi kb),bu];rw[g1];simp only[aY];rw[g2];simp only[aY];rw[ZpV l m i ax kb]at hc;by_cases h1:l[i]<m[i]
   .rw[bw h1]at hc
    rw[aw (show(l[i]:Int)<(m[i]:Int) by omega),ae,Zd];exact .mk ⟨s3,by rw[hc],aG.trans aZ⟩
   .rw[aW h1]at hc
    rw[aB (show ¬(l[i]:Int)<(m[i]:Int) by omega),af,g1];simp only[aY];rw[g2];simp only[aY];by_cases h2:m[i]<l[i]
    .rw[bw h2]at hc
     rw[aw (show(l[i]:Int)>(m[i]:Int) by omega),ae,Zd];exact .mk ⟨s3,by rw[hc],aG.trans aZ⟩
    .rw[aW h2]at hc
     rw[aB (show ¬(l[i]:Int)>(m[i]:Int) by omega),af,Zc];exact aP (k-1) _ _ (by omega) ⟨i+1,rfl,by omega,by omega,by omega,rfl,hc⟩
  .rw[show(bif decide ((i:Int)<(l.length:Int))then decide ((i:Int)<(m.length:Int))else false)=false by rw[DG,Bool.and_eq_false_iff,ry,ry];omega,af]
   rw[iI ax,zK (by omega:m.length<=i)]at hc;rw[aB (show ¬(l.length:Int)<(m.length:Int) by omega),af,aw (show(l.length:Int)>(m.length:Int) by omega),ae,Zd];exact .mk ⟨s3,by rw[hc];rfl,aG.trans aZ⟩
 .rw[show(bif decide ((i:Int)<(l.length:Int))then decide ((i:Int)<(m.length:Int))else false)=false by rw[DG,Bool.and_eq_false_iff,ry,ry];omega,af]
  rw[zK (by omega:l.length<=i)]at hc;by_cases h2:l.length<m.length
  .rw[aw (show(l.length:Int)<(m.length:Int) by omega),ae,Zd]
   rw[iI (show i<m.length by omega)]at hc;exact .mk ⟨s3,by rw[hc];rfl,aG.trans aZ⟩
  .rw[aB (show ¬(l.length:Int)<(m.length:Int) by omega),af,aB (show ¬(l.length:Int)>(m.length:Int) by omega),af,Zd]
   rw[zK (by omega:m.length<=i)]at hc;exact .mk ⟨s3,by rw[hc];rfl,aG.trans aZ⟩
end Go.Gv.F
