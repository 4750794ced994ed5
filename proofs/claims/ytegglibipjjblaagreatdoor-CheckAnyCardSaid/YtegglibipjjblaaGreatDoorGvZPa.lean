/- Lines and words. -/
import Derived.Test.YtegglibipjjblaaGreatDoorGvBMn
import Derived.Test.YtegglibipjjblaaGreatDoorGvZLib
import Derived.Test.YtegglibipjjblaaGreatDoorGvZLaw
set_option linter.all false
namespace Go.Gv.F
variable {i k n o p:Nat} {s' st:St} {β:Type} {cs:ah} {s:aj}
theorem Zj (h:i<n:=by omega):aR (i:Int) n=true:=by unfold aR;simp;omega
theorem Zc {x:Int} (h1: -9223372036854775808<=x:=by omega) (h2:x<9223372036854775808:=by omega):ar x=x:=by
 unfold ar;exact IntWalk.i64_in _ (by omega)
variable {Bd:Zh} [h:HA Bd]
theorem Q4 (n:Nat) (s:aj) (k lo hi:Nat) (pz:0<lo) (st:St):
  run Bd (n+1) 19 [.t s,.i k,.u lo,.u hi] st=some (.val [.b (decide (lo<=oc s k/\oc s k<=hi))],st):=by
 rw[Ze,h.e19];unfold QU ZqJ aA Lb;simp only[bR,av,aq,Za,au,IB];by_cases hk:k<s.length
 .have e:decide ((k:Int)<(s.length:Int))=true:=by simpa using hk
  simp only[e,ae,Zb (Zj hk)];by_cases h1:lo<=oc s k
  .have e1:decide ((oc s k:Int)>=(lo:Int))=true:=by simpa using h1
   simp only[e1,ae,Zd];congr 5;simp[h1]
  .have e1:decide ((oc s k:Int)>=(lo:Int))=false:=by simpa using h1
   simp only[e1,af,Zd];simp[h1]
 .have e:decide ((k:Int)<(s.length:Int))=false:=by simpa using hk
  simp only[e,af,Zd];rw[Ny (by omega)];have: ¬lo<=0:=by omega
  simp[this]
theorem Zy3 (s:aj):ZS s 0=(oc s 0:Int):=IB s 0
theorem ZzA (s:aj):ZS s 1=(oc s 1:Int):=IB s 1
theorem Zy1 (s:aj):ZS s 2=(oc s 2:Int):=IB s 2
theorem ZyW (s:aj):ZS s 3=(oc s 3:Int):=IB s 3
theorem Uu (h:0<oc s k:=by omega):k<s.length:=by
 rcases jI k s.length with h'|h'
 .exact h'
 .rw[Ny h']at h;omega
theorem Zyp (h:1<n):aR 1 n=true:=Zj h
theorem ZyF (h:0<n):aR 0 n=true:=Zj h
theorem ZyK (h:2<n):aR 2 n=true:=Zj h
theorem ZxN (h:3<n):aR 3 n=true:=Zj h
theorem WG (a b c:Nat) (r2:224<=a/\a<=239) (h1:128<=b) (h2:b<=191) (h3:128<=c) (h4:c<=191) (st:St):
  (some (Out.val [DV.i (ar ((ar ((ar ((ar (IntKind.wrap .u8 ((a:Int)-224)))*4096))+(ar ((ar (IntKind.wrap .u8 ((b:Int)-128)))*64))))+(ar (IntKind.wrap .u8 ((c:Int)-128))))),.i 3],st):Option (Out ah×St))=
   some (.val [.i (((a-224)*4096+(b-128)*64+(c-128):Nat):Int),.i ((3:Nat):Int)],st):=by
 rw[IntWalk.u8_in _ (by omega),IntWalk.u8_in _ (by omega),IntWalk.u8_in _ (by omega),Zc (x:=(a:Int)-224),Zc (x:=(b:Int)-128),Zc (x:=(c:Int)-128),
  Zc (x:=((a:Int)-224)*4096),Zc (x:=((b:Int)-128)*64),Zc (x:=((a:Int)-224)*4096+((b:Int)-128)*64),Zc]
 have e:((a:Int)-224)*4096+((b:Int)-128)*64+((c:Int)-128)=(((a-224)*4096+(b-128)*64+(c-128):Nat):Int):=by omega
 rw[e];rfl
theorem WH (a b c d:Nat) (r3:240<=a/\a<=244) (h1:128<=b) (h2:b<=191) (h3:128<=c) (h4:c<=191) (h5:128<=d) (h6:d<=191) (st:St):
  (some (Out.val [DV.i (ar ((ar ((ar ((ar ((ar (IntKind.wrap .u8 ((a:Int)-240)))*262144))+(ar ((ar (IntKind.wrap .u8 ((b:Int)-128)))*4096))))+(ar ((ar (IntKind.wrap .u8 ((c:Int)-128)))*64))))+(ar (IntKind.wrap .u8 ((d:Int)-128))))),.i 4],st):Option (Out ah×St))=
   some (.val [.i (((a-240)*262144+(b-128)*4096+(c-128)*64+(d-128):Nat):Int),.i ((4:Nat):Int)],st):=by
 rw[IntWalk.u8_in _ (by omega),IntWalk.u8_in _ (by omega),IntWalk.u8_in _ (by omega),IntWalk.u8_in _ (by omega),Zc (x:=(a:Int)-240),Zc (x:=(b:Int)-128),Zc (x:=(c:Int)-128),Zc (x:=(d:Int)-128),
  Zc (x:=((a:Int)-240)*262144),Zc (x:=((b:Int)-128)*4096),Zc (x:=((c:Int)-128)*64),Zc (x:=((a:Int)-240)*262144+((b:Int)-128)*4096),Zc (x:=((a:Int)-240)*262144+((b:Int)-128)*4096+((c:Int)-128)*64),Zc]
 have e:((a:Int)-240)*262144+((b:Int)-128)*4096+((c:Int)-128)*64+((d:Int)-128)=(((a-240)*262144+(b-128)*4096+(c-128)*64+(d-128):Nat):Int):=by omega
 rw[e];rfl
theorem Zqq (n:Nat) (s:aj) (hs:0<s.length) (st:St):
  run Bd (n+2) 15 [.t s] st=some (.val [.i ((dec s 0).1:Int),.i ((dec s 0).2:Int)],st):=by
 have h0:=Pp s 0;have h1:=Pp s 1;have h2:=Pp s 2;have h3:=Pp s 3;have f1: ∀lo hi:Nat,0<lo->run Bd (n+1) 19 [.t s,.i 1,.u lo,.u hi] st=some (.val [.b (decide (lo<=oc s 1/\oc s 1<=hi))],st):=λlo hi pz=>Q4 n s 1 lo hi pz st
 have f2:run Bd (n+1) 19 [.t s,.i 2,.u 128,.u 191] st=some (.val [.b (decide (128<=oc s 2/\oc s 2<=191))],st):=Q4 n s 2 128 191 (by omega) st;have f3:run Bd (n+1) 19 [.t s,.i 3,.u 128,.u 191] st=some (.val [.b (decide (128<=oc s 3/\oc s 3<=191))],st):=Q4 n s 3 128 191 (by omega) st;have g1:run Bd (n+1) 19 [.t s,.i 1,.u 128,.u 191] st=_:=f1 128 191 (by omega);have g2:run Bd (n+1) 19 [.t s,.i 1,.u 160,.u 191] st=_:=f1 160 191 (by omega);have g3:run Bd (n+1) 19 [.t s,.i 1,.u 128,.u 159] st=_:=f1 128 159 (by omega);have g4:run Bd (n+1) 19 [.t s,.i 1,.u 144,.u 191] st=_:=f1 144 191 (by omega);have g5:run Bd (n+1) 19 [.t s,.i 1,.u 128,.u 143] st=_:=f1 128 143 (by omega);rw[Ze,h.e15];unfold Sb jK aA Q_ HO bq gJ Dz Lb lH;simp only[bR,aq,Zb (ZyF hs),Zy3,ZzA,Zy1,ZyW,Bool.cond_decide];rw[BS];simp only[eO];generalize oc s 0=a at*
 generalize hb:oc s 1=b at*
 generalize hc:oc s 2=c at*
 generalize hd:oc s 3=d at*
 have l1:0<b->aR 1 s.length=true:=λh=>Zyp (Uu)
 have l2:0<c->aR 2 s.length=true:=λh=>ZyK (Uu)
 have l3:0<d->aR 3 s.length=true:=λh=>ZxN (Uu)
 by_cases c0:a<128
 .rw[bE (by omega),bE c0,Zc];rfl
 rw[bj (by omega),bj c0];by_cases r1:194<=a/\a<=223
 .have e1:(a:Int)>=194:=by omega
  have e2:(a:Int)<=223:=by omega
  have e3: ¬(a:Int)>=224:=by omega
  have e4: ¬(a:Int)>=240:=by omega
  simp only[Za,au,aq,bE e1,ax e2,ae,Zk g1];by_cases k:128<=b/\b<=191
  .simp only[ax k,ae,Zb (l1 (by omega)),Zd]
   rw[bE ⟨r1,k⟩,IntWalk.u8_in _ (by omega),IntWalk.u8_in _ (by omega),Zc (x:=(a:Int)-192),Zc (x:=(b:Int)-128),Zc (x:=((a:Int)-192)*64),Zc];have:(a:Int)-192=((a-192:Nat):Int):=by omega
   have:(b:Int)-128=((b-128:Nat):Int):=by omega
   simp[*]
  .simp only[aF k,af,bj e3,bj e4,au,aq,Zd]
   rw[bj (by rintro⟨_,h⟩;exact k h),bj (by omega),bj (by omega)];rfl
 by_cases r2:224<=a/\a<=239
 .have e1:(a:Int)>=194:=by omega
  have e2: ¬(a:Int)<=223:=by omega
  have e3:(a:Int)>=224:=by omega
  have e4:(a:Int)<=239:=by omega
  by_cases y1:a=224
  .subst y1
   have x1:(((224:Nat):Int)==224)=true:=rfl;have x2:(((224:Nat):Int)==237)=false:=rfl;simp only[Za,au,av,aq,bE e1,aF e2,af,bE e3,ax e4,ae,x1,x2,Zk g2,Zd];by_cases k:160<=b/\b<=191
   .by_cases k2:128<=c/\c<=191
    .simp only[ax k,ax k2,ae,Zk f2,au,aq,Zb (l1 (by omega)),Zb (l2 (by omega)),Zd]
     rw[bj (by omega),bE ⟨r2,by simpa using k,k2⟩];exact WG 224 b c r2 (by omega) (by omega) (by omega) (by omega) st
    .simp only[ax k,aF k2,ae,af,Zk f2,au,aq,Zd]
     rw[bj (by omega),bj (by rintro⟨_,_,h⟩;exact k2 h),bj (by omega)];rfl
   .simp only[aF k,af,au,aq,Zd]
    rw[bj (by omega),bj (by rintro⟨_,h,_⟩;exact k (by simpa using h)),bj (by omega)];rfl
  .by_cases y2:a=237
   .subst y2
    have x1:(((237:Nat):Int)==224)=false:=rfl;have x2:(((237:Nat):Int)==237)=true:=rfl;simp only[Za,au,av,aq,bE e1,aF e2,af,bE e3,ax e4,ae,x1,x2,Zk g3,Zd];by_cases k:128<=b/\b<=159
    .by_cases k2:128<=c/\c<=191
     .simp only[ax k,ax k2,ae,Zk f2,au,aq,Zb (l1 (by omega)),Zb (l2 (by omega)),Zd]
      rw[bj (by omega),bE ⟨r2,by simpa using k,k2⟩];exact WG 237 b c r2 (by omega) (by omega) (by omega) (by omega) st
     .simp only[ax k,aF k2,ae,af,Zk f2,au,aq,Zd]
      rw[bj (by omega),bj (by rintro⟨_,_,h⟩;exact k2 h),bj (by omega)];rfl
    .simp only[aF k,af,au,aq,Zd]
     rw[bj (by omega),bj (by rintro⟨_,h,_⟩;exact k (by simpa using h)),bj (by omega)];rfl
   .have x1:((a:Int)==224)=false:=by rw[eG];omega
    have x2:((a:Int)==237)=false:=by rw[eG];omega
    simp only[Za,au,av,aq,bE e1,aF e2,af,bE e3,ax e4,ae,x1,x2,Zk g1,Zd,bj y1,bj y2];by_cases k:128<=b/\b<=191
    .by_cases k2:128<=c/\c<=191
     .simp only[ax k,ax k2,ae,Zk f2,au,aq,Zb (l1 (by omega)),Zb (l2 (by omega)),Zd]
      rw[bj (by omega),bE ⟨r2,k,k2⟩];exact WG a b c r2 (by omega) (by omega) (by omega) (by omega) st
     .simp only[ax k,aF k2,ae,af,Zk f2,au,aq,Zd]
      rw[bj (by omega),bj (by rintro⟨_,_,h⟩;exact k2 h),bj (by omega)];rfl
    .simp only[aF k,af,au,aq,Zd]
     rw[bj (by omega),bj (by rintro⟨_,h,_⟩;exact k h),bj (by omega)];rfl
 by_cases r3:240<=a/\a<=244
 .have e1:(a:Int)>=194:=by omega
  have e2: ¬(a:Int)<=223:=by omega
  have e3:(a:Int)>=224:=by omega
  have e4: ¬(a:Int)<=239:=by omega
  have e5:(a:Int)>=240:=by omega
  have e6:(a:Int)<=244:=by omega
  by_cases y1:a=240
  .subst y1
   have x1:(((240:Nat):Int)==240)=true:=rfl;have x2:(((240:Nat):Int)==244)=false:=rfl;simp only[Za,au,av,aq,bE e1,aF e2,af,bE e3,aF e4,bE e5,ax e6,ae,x1,x2,Zk g4,Zd];by_cases k:144<=b/\b<=191
   .by_cases k2:128<=c/\c<=191
    .by_cases k3:128<=d/\d<=191
     .simp only[ax k,ax k2,ax k3,ae,Zk f2,Zk f3,au,aq,Zb (l1 (by omega)),Zb (l2 (by omega)),Zb (l3 (by omega)),Zd]
      rw[bj (by omega),bj (by omega),bE ⟨r3,by simpa using k,k2,k3⟩];exact WH 240 b c d r3 (by omega) (by omega) (by omega) (by omega) (by omega) (by omega) st
     .simp only[ax k,ax k2,aF k3,ae,af,Zk f2,Zk f3,au,aq,Zd]
      rw[bj (by omega),bj (by omega),bj (by rintro⟨_,_,_,h⟩;exact k3 h)];rfl
    .simp only[ax k,aF k2,ae,af,Zk f2,au,aq,Zd]
     rw[bj (by omega),bj (by omega),bj (by rintro⟨_,_,h,_⟩;exact k2 h)];rfl
   .simp only[aF k,af,au,aq,Zd]
    rw[bj (by omega),bj (by omega),bj (by rintro⟨_,h,_⟩;exact k (by simpa using h))];rfl
  .by_cases y2:a=244
   .subst y2
    have x1:(((244:Nat):Int)==240)=false:=rfl;have x2:(((244:Nat):Int)==244)=true:=rfl;simp only[Za,au,av,aq,bE e1,aF e2,af,bE e3,aF e4,bE e5,ax e6,ae,x1,x2,Zk g5,Zd];by_cases k:128<=b/\b<=143
    .by_cases k2:128<=c/\c<=191
     .by_cases k3:128<=d/\d<=191
      .simp only[ax k,ax k2,ax k3,ae,Zk f2,Zk f3,au,aq,Zb (l1 (by omega)),Zb (l2 (by omega)),Zb (l3 (by omega)),Zd]
       rw[bj (by omega),bj (by omega),bE ⟨r3,by simpa using k,k2,k3⟩];exact WH 244 b c d r3 (by omega) (by omega) (by omega) (by omega) (by omega) (by omega) st
      .simp only[ax k,ax k2,aF k3,ae,af,Zk f2,Zk f3,au,aq,Zd]
       rw[bj (by omega),bj (by omega),bj (by rintro⟨_,_,_,h⟩;exact k3 h)];rfl
     .simp only[ax k,aF k2,ae,af,Zk f2,au,aq,Zd]
      rw[bj (by omega),bj (by omega),bj (by rintro⟨_,_,h,_⟩;exact k2 h)];rfl
    .simp only[aF k,af,au,aq,Zd]
     rw[bj (by omega),bj (by omega),bj (by rintro⟨_,h,_⟩;exact k (by simpa using h))];rfl
   .have x1:((a:Int)==240)=false:=by rw[eG];omega
    have x2:((a:Int)==244)=false:=by rw[eG];omega
    simp only[Za,au,av,aq,bE e1,aF e2,af,bE e3,aF e4,bE e5,ax e6,ae,x1,x2,Zk g1,Zd,bj y1,bj y2];by_cases k:128<=b/\b<=191
    .by_cases k2:128<=c/\c<=191
     .by_cases k3:128<=d/\d<=191
      .simp only[ax k,ax k2,ax k3,ae,Zk f2,Zk f3,au,aq,Zb (l1 (by omega)),Zb (l2 (by omega)),Zb (l3 (by omega)),Zd]
       rw[bj (by omega),bj (by omega),bE ⟨r3,k,k2,k3⟩];exact WH a b c d r3 (by omega) (by omega) (by omega) (by omega) (by omega) (by omega) st
      .simp only[ax k,ax k2,aF k3,ae,af,Zk f2,Zk f3,au,aq,Zd]
       rw[bj (by omega),bj (by omega),bj (by rintro⟨_,_,_,h⟩;exact k3 h)];rfl
     .simp only[ax k,aF k2,ae,af,Zk f2,au,aq,Zd]
      rw[bj (by omega),bj (by omega),bj (by rintro⟨_,_,h,_⟩;exact k2 h)];rfl
    .simp only[aF k,af,au,aq,Zd]
     rw[bj (by omega),bj (by omega),bj (by rintro⟨_,h,_⟩;exact k (h))];rfl
 .have e1:(a:Int)>=194\/¬(a:Int)>=194:=Classical.em _
  have e2: ¬(a:Int)<=223\/¬(a:Int)>=194:=by omega
  have e4: ¬(a:Int)<=239\/¬(a:Int)>=224:=by omega
  have e6: ¬(a:Int)<=244\/¬(a:Int)>=240:=by omega
  rw[bj (by omega),bj (by omega),bj (by omega)];simp only[Za,au,aq];rcases e2 with e|e<;>rcases e4 with f|f<;>rcases e6 with g|g<;>(simp only[e,f,g,decide_false,ng,af,ite_self,Zd];rfl)
def ic (r:Nat):DV:= .i (r:Int)
theorem Rv (n:Nat) (s:aj) (hn:s.length+4<=n) (hs:s.length<1000000) (st:St):
  Ok (λo=>∃a s',o=(.val [.s 1 a (dB s).length],s')/\aB st s'/\Sl s' a ((dB s).map ic)) (run Bd n 12 [.t s] st):=by
 obtain⟨n,rfl⟩: ∃m,n=m+3:=⟨n-3,by omega⟩;rw[Ze,h.WD];unfold Sa jK fB bV iX aZ Ls Li;simp only[bR,aq,ZM,Za];refine Zi _ (λk x s1=>∃(t:aj) (a:ai) (z:Nat) (acc:al),x=[.t t,.s z a acc.length]/\(z=1\/a=none)/\t.length<=k/\acc.length+t.length<=s.length/\dB s=acc++dB t/\bm st s1 a (acc.map ic))
  ?_ s.length (n+2) _ _ ⟨s,none,0,[],rfl,.inr rfl,aO _,by simp,rfl,bm.nil (.refl st)⟩ (by omega)
 rintro k _ s1 ⟨t,a,z,acc,rfl,hz,hk,hl,hr,ho⟩ rec aN;simp only[bR,Zg 1 z a _ hz,aq,Bool.cond_decide,aX];by_cases ht:(t.length:Int)>0
 .rw[bE ht]
  have wV:0<t.length:=by omega
  have hw:=F3 t 0;have hle:=Wb t 0 wV;rw[Zk (Zqq n t wV s1)];simp only[av,aq];obtain⟨p,s2,du,hp⟩:=ho.push (β:=ah) (sz:=1) (n:=acc.length) (lim:=8796093022208) [ic (dec t 0).1] (xp 0) (by simp) rfl (by omega);have:=hp (λp=>aC (decide (0<=((dec t 0).2:Int))&&decide (((dec t 0).2:Int)<=(t.length:Int))) (rec [.t (t.drop ((dec t 0).2:Int).toNat),.s 1 p (acc.length+1)]));refine(congrArg (Ok _) this).mpr ?_;rw[Zb (by simp;omega)];refine aN (t.length-1) _ _ (by omega) ⟨t.drop (dec t 0).2,p,1,acc++[(dec t 0).1],by simp,.inl rfl,by simp;omega,by simp;omega,by rw[hr,M9 wV];simp,by simpa using du⟩
 .rw[bj ht]
  have wV:t=[]:=E8 (by omega);subst wV;rw[V0,gz]at hr;rw[Zp,hr];exact .mk ⟨a,_,rfl,Zr ho.1,ho.sl.dQ _⟩
def ZAj (r:Nat):Bool:=(decide (r<32)&& !(r==9))||r==127||r==65533
theorem Zwk (a b:Nat):((a:Int)==(b:Int))=(a==b):=by rw[lE];simp only[uA];omega
def flush (w:aj):List (aj):=if w=[]then[]else[w]
def Ns:aj->aj->List (aj)
 |[],w=>flush w
 |c::r,w=>if c=35 then flush w else if c=32\/c=9 then flush w++Ns r []else Ns r (w++[c])
def ZuV (line:aj):Int×List (aj):=
 if (dB line).any ZAj then(41,[])else if (Ns line []).length>40 then(40,[])else(0,Ns line [])
def Zz4 (w:aj):Prop:=ZuV w=(0,[w])
instance (w:aj):Decidable (Zz4 w):=inferInstanceAs (Decidable (ZuV w=(0,[w])))
theorem Bz (F:(ah->M β)->ah->M β) (m:Nat) (st:ah):cS F (m+1) st=F (cS F m) st:=rfl
theorem bI (h:cs.length=n) (K:M β):bA cs n K=K:=by
 simp_all[bA]
def xb (r:Int):Bool:=(decide (r>=97)&&decide (r<=122))||((decide (r>=65)&&decide (r<=90))||((decide (r>=48)&&decide (r<=57))||(r==45||(r==95||(decide (r>=161)&&decide (r<=65519))))))
theorem Zuq (n:Nat) (r:Int) (st:St):run Bd (n+1) 29 [.i r] st=some (.val [.b (xb r)],st):=by
 rw[Ze,h.e29];unfold Uf cP aA Lb xb;simp only[av,aq,MI,au,Zd,Bool.cond_true_left,HB,Bool.or_assoc]
def z8:ah:=[.int .i32 97,.int .i32 122,.int .i32 65,.int .i32 90,.int .i32 48,.int .i32 57,.int .i32 45,.int .i32 45,.int .i32 95,.int .i32 95,.int .i32 161,.int .i32 65519]
theorem ZrN (n:Nat) (st:St):run Bd (n+1) 54 [] st=some (.val [.a z8],st):=by
 rw[Ze,h.e54];rfl
theorem Zvq (n:Nat) (r:Int) (st:St):run Bd (n+8) 28 [.int .i32 r] st=some (.val [.b (xb r)],st):=by
 rw[Ze,h.e28];unfold UI Q_ cN aA Lb Li
 try dsimp only
 rw[av,aq];rw[Zk (ZrN (n+6) st)];rw[cT,aq,bI (by rfl)];have step: ∀(rec:ah->M ah) (i:Nat) (lo hi:Int),i<6->(z8.drop (i*2)).take 2=[.int .i32 lo,.int .i32 hi]->
   (λ(x:Int)=>aC (aR x 6) (bA ((z8.drop (x.toNat*2)).take 2) 2 (eJ ((z8.drop (x.toNat*2)).take 2) 0 λd=>cY .i32 d λx1=>
    cK (λst=>gC st λb1 st=>aL st<|bif b1 then ay [.b true]else rec [.i (ar (x+1))]) λaI=>
    bif decide (r>=x1)then eJ ((z8.drop (x.toNat*2)).take 2) 1 λd1=>cY .i32 d1 λx2=>aI [.b (decide (r<=x2))]else aI [.b false]))) (i:Int)=
   bif (decide (r>=lo)&&decide (r<=hi))then ay [.b true]else rec [.i ((i+1:Nat):Int)]:=by
  intro rec i lo hi hi6 hd;simp only[bp,hd,Zb (Zj hi6),bI (by rfl),Zc (x:=(i:Int)+1)];unfold eJ;simp only[kY,qw,bg,MI,au,aq,HB];rfl
 have fin: ∀(l:List (Int×Int)) (i m:Nat),i+l.length=6->(∀(k:Nat) p,l[k]? =some p->(z8.drop ((i+k)*2)).take 2=[.int .i32 p.1,.int .i32 p.2])->l.length<m->
   cS (λ(aV:ah->M ah) st=>aD .i64 st λx st=>aL st<|bif decide (x<6)then aC (aR x 6) (bA ((z8.drop (x.toNat*2)).take 2) 2 (eJ ((z8.drop (x.toNat*2)).take 2) 0 λd=>cY .i32 d λx1=>
    cK (λst=>gC st λb1 st=>aL st<|bif b1 then ay [.b true]else aV [.i (ar (x+1))]) λaI=>
    bif decide (r>=x1)then eJ ((z8.drop (x.toNat*2)).take 2) 1 λd1=>cY .i32 d1 λx2=>aI [.b (decide (r<=x2))]else aI [.b false]))else(aL []<|ay [.b false])) m [.i (i:Int)] st
   =some (.val [.b (l.any λp=>decide (r>=p.1)&&decide (r<=p.2))],st):=by
  intro l;induction l with
  |nil=>
   intro i m hi _ hm;obtain⟨m,rfl⟩: ∃k,m=k+1:=by simp_all
   simp only[Bh,gV]at hi;subst hi;rw[Bz];rfl
  |cons p l ih=>
   intro i m hi hp hm;simp only[cO]at hi hm;obtain⟨m,rfl⟩: ∃k,m=k+1:=⟨m-1,by omega⟩;rw[Bz];rw[av,aq];rw[ax (show(i:Int)<6 by omega),ae];refine(congrFun (step _ i p.1 p.2 (by omega) (by have:=hp 0 p rfl;simpa using this)) st).trans ?_;rw[List.any_cons];cases hb:(decide (r>=p.1)&&decide (r<=p.2))with
   |true=>rfl
   |false=>
    rw[af,vR];exact ih (i+1) m (by omega) (λk q hq=>by have:=hp (k+1) q (by simpa using hq);rwa [show i+(k+1)=i+1+k by omega]at this) (by omega)
 have e:xb r=[((97:Int),(122:Int)),(65,90),(48,57),(45,45),(95,95),(161,65519)].any λp=>decide (r>=p.1)&&decide (r<=p.2):=by
  grind[xb]
 rw[e,Za];refine fin _ 0 (n+7) rfl (λk p hp=>?_) (by simp)
 match k,hp with
 |0,hp=>cases hp;rfl
 |1,hp=>cases hp;rfl
 |2,hp=>cases hp;rfl
 |3,hp=>cases hp;rfl
 |4,hp=>cases hp;rfl
 |5,hp=>cases hp;rfl
 |k+6,hp=>simp at hp
def qI (s:aj):Bool:=decide (0<(dB s).length)&&(decide ((dB s).length<=8)&&(dB s).all λr=>xb r)
theorem ZkH (n:Nat) (s:aj) (hn:s.length+6<=n) (hs:s.length<100000) (st:St):
  Ok (λo=>∃s',o=(.val [.b (qI s)],s')/\aB st s') (run Bd n 27 [.t s] st):=by
 obtain⟨n,rfl⟩: ∃m,n=m+3:=⟨n-3,by omega⟩;rw[Ze,h.e27];unfold RH jK iL aA cP Zn bq Ls Lb zH Li
 try dsimp only
 rw[bR,aq];refine Ok.call (Rv (n+2) s (by omega) (by omega) st) ?_;rintro _ ⟨a,s1,rfl,aH,dA⟩;refine⟨_,s1,rfl,?_⟩;have CC:=Nh s;simp only[aX,aq,MI,au];rw[Za];have e0:(bif decide (((dB s).length:Int)>0)then decide (((dB s).length:Int)<=8)else false)=(decide (0<(dB s).length)&&decide ((dB s).length<=8)):=by
  rw[HB];grind
 rw[e0];refine Zi _ (λk x s2=>∃(i:Nat) (b:Bool),x=[.b b,.i i]/\i<=(dB s).length/\(dB s).length-i<=k/\s2=s1/\(b&&((dB s).drop i).all λr=>xb r)=qI s)
  ?_ (dB s).length (n+2) _ _ ⟨0,_,rfl,cz _,by omega,rfl,by rw[dK];grind[qI]⟩ (by omega)
 rintro k _ s2 ⟨i,b,rfl,hi,hk,rfl,hb⟩ rec aN;simp only[au,av,aq];by_cases aw:i<(dB s).length
 .rw[ax (show(i:Int)<((dB s).length:Int) by omega),ae]
  have hr:(dB s)[i]? =some (dB s)[i]:=cq aw;rw[iV aw,vS]at hb;rw[Za];cases b with
  |false=>
   simp only[af,au,aq];exact aN (k-1) _ _ (by omega) ⟨i+1,false,by rw[Zc];rfl,by omega,by omega,rfl,by rw[<-hb];simp⟩
  |true=>
   obtain⟨j,o,rfl⟩:=dA.cH (by simp;omega);rw[ae,bd,Zb (Zj aw),bp];rw[dA.dJ (d:=ic (dB s)[i]) (by simp[hr])];unfold ic;rw[bg];rw[Zk (Zuq (n+1) _ s2)];rw[au,aq];exact aN (k-1) _ _ (by omega) ⟨i+1,_,by rw[Zc];rfl,by omega,by omega,rfl,by rw[<-hb];simp⟩
 .rw[aF (show ¬(i:Int)<((dB s).length:Int) by omega),af,Zd]
  rw[Be (by omega)]at hb;simp only[List.all_nil,vQ]at hb;exact .mk ⟨s2,by rw[hb],aH⟩
theorem Zxh (h:p<s.length):dB (s.drop p)=(dec s p).1::dB (s.drop (p+(dec s p).2)):=by
 rw[M9 (by simp;omega),ZyG,gV,kW]
theorem ZrA (n:Nat) (s:aj) (hn:s.length+12<=n) (hs:s.length<100000) (st:St):
  Ok (λo=>o=(.val [.b (qI s)],st)) (run Bd n 26 [.t s] st):=by
 obtain⟨n,rfl⟩: ∃m,n=m+9:=⟨n-9,by omega⟩;rw[Ze,h.e26];unfold Tu jK oL LH aA bq Lb Di Li
 try dsimp only
 rw[bR,aq];rw[Za];refine Zi _ (λk x s2=>∃(p c:Nat),x=[.i c,.nat p]/\p<=s.length/\s.length-p<=k/\s2=st/\c<=8/\(decide (0<c+(dB (s.drop p)).length)&&(decide (c+(dB (s.drop p)).length<=8)&&(dB (s.drop p)).all λr=>xb r))=qI s)
  ?_ s.length (n+8) _ _ ⟨0,0,rfl,cz _,by omega,rfl,by omega,by rw[eO,dK];rfl⟩ (by omega)
 rintro k _ s2 ⟨p,c,rfl,hp,hk,rfl,hc,hb⟩ rec aN;rw[av,J_n,aq];by_cases aw:p<s.length
 .have hw:=F3 s p
  have hle:=Wb s p aw;rw[Zxh aw]at hb;simp only[cO,vS]at hb;have Xd:Nat.blt p s.length=true:=by rw[qz];exact aw
  simp only[Xd,ae,DU,vL,Zc (x:=(c:Int)+1),Za,au,aq];by_cases h8:c=8
  .subst h8
   rw[aF (show ¬8+((dB (s.drop (p+(dec s p).2))).length+1)<=8 by omega)]at hb;simp only[gf,C5]at hb;have e:decide (((8:Nat):Int)+1>8)=true:=rfl;rw[e,ae,Zd];exact .mk (by rw[hb])
  .have e:decide ((c:Int)+1>8)=false:=aF (by omega)
   rw[e,af];rw[Zk (Zvq n _ s2)];rw[au,aq];cases ho:xb ((dec s p).1:Int)with
   |false=>
    rw[bn,ae,Zd];rw[ho]at hb;simp only[gf,C5]at hb;exact .mk (by rw[hb])
   |true=>
    rw[bu,af];rw[ho]at hb;refine aN (s.length-(p+(dec s p).2)) _ _ (by omega) ⟨p+(dec s p).2,c+1,rfl,hle,by omega,rfl,by omega,?_⟩;rw[<-hb,show c+1+(dB (s.drop (p+(dec s p).2))).length=c+((dB (s.drop (p+(dec s p).2))).length+1) by omega];simp
 .have e:Nat.blt p s.length=false:=by rw[Bool.eq_false_iff];simp_all
  simp only[e,af,Zd];rw[Be (by omega),V0]at hb;refine .mk ?_;rw[<-hb];simp_all
def sc (s:St):Prop:=∀(i:Nat) (b:Option bO),tabs[i]? =some b->s[i]? =some b
theorem sc.mono {s:St} (h:sc s) (k:aB s s'):sc s':=λi b e=>k.get (h i b e)
def aef:aj:=[48,49,50,51,52,53,54,55,56,57,97,98,99,100,101,102,103,104,105,106,107,108,109,110,111,112,113,114,115,116,117,118,119,120,121,122]
def dg (n:Nat):UInt8:=aef.getD n 0
theorem Zw5 (cs:ah):ov cs []=cs:=by cases cs<;>rfl
theorem BJ (d:DV): ∀(cs:ah) (p:Nat),p<cs.length->cE cs p [d]=cs.set p d
 |[],p,h=>by cases h
 |c::cs,0,_=>by show d::ov cs []=_;rw[Zw5];rfl
 |c::cs,p+1,h=>by show c::cE cs p [d]=_;rw[BJ d cs p (by simpa using h)];rfl
theorem Zmw: ∀(l:aj),tE (ZQ l)=some l
 |[]=>rfl
 |b::l=>by
  show(tE (ZQ l)).map (UInt8.ofNat _:: ·)=_;rw[Zmw l];simp
theorem oJ (l:aj) (K:aj->M β):ke (ZQ l) K=K l:=by unfold ke;rw[Zmw]
theorem Zq0 (d:DV) (hp:p<cs.length) (K:M β):dI st.length p [d] K (st++[some ⟨false,cs⟩])=K (st++[some ⟨false,cs.set p d⟩]):=by
 unfold dI St.ik;simp only[List.getElem?_concat_length,iK,gA (show p+1<=cs.length by omega),ae,BJ d cs p hp];rw[List.set_append_right _ _ (aO _),Bk];rfl
theorem IG (h:o+n<=cs.length) (K:ah->M β):bS st.length o n K (st++[some ⟨false,cs⟩])=K ((cs.drop o).take n) (st++[some ⟨false,cs⟩]):=
 Z8 (f:=false) (all:=cs) (by simp) h K
end Go.Gv.F
namespace Go.Gv.F
theorem Zzk {Bd:Zh} {n g:Nat} {args:ah} {s:St} (h:Ok (λo=>∃s',o=(.val [.b true],s')) (run Bd n g args s)): ∃n s',run Bd n g args s=some (.val [.b true],s'):=by
 obtain⟨o,e,s',rfl⟩:=h;exact⟨n,s',e⟩
def AP (r:Nat):DV:= .int .i32 (r:Int)
variable {Bd:Zh} [h:HA Bd]
theorem ZlJ (n:Nat) (s:aj) (hn:s.length+4<=n) (hs:s.length<1000000) (st:St):
  Ok (λo=>∃a s',o=(.val [.s 1 a (dB s).length],s')/\aB st s'/\Sl s' a ((dB s).map AP)) (run Bd n 34 [.t s] st):=by
 obtain _|n:=n;omega;rw[Ze,h.e34];unfold SF jK fB LH aZ Di
 try dsimp only
 rw[bR,aq,ZM];rw[Za];refine Zi _ (λk x s1=>∃(p:Nat) (a:ai) (z:Nat) (acc:al),x=[.s z a acc.length,.nat p]/\(z=1\/a=none)/\p<=s.length/\s.length-p<=k/\acc.length<=p/\dB s=acc++dB (s.drop p)/\bm st s1 a (acc.map AP))
  ?_ s.length n _ _ ⟨0,none,0,[],rfl,.inr rfl,cz _,by omega,cz _,by rw[dK];rfl,bm.nil (.refl st)⟩ (by omega)
 rintro k _ s1 ⟨p,a,z,acc,rfl,hz,hp,hk,hl,hr,ho⟩ rec aN;simp only[J_n,Zg 1 z a _ hz,aq,aX];by_cases aw:p<s.length
 .have Xd:Nat.blt p s.length=true:=by rw[qz];exact aw
  have hw:=F3 s p;have hle:=Wb s p aw;rw[Xd,ae];have⟨q,s2,du,aU⟩:=ho.push (β:=ah) (sz:=1) (n:=acc.length) (lim:=17592186044416) [AP (dec s p).1] (xp 0) (by simp) rfl (by omega);have:=aU (λp1=>rec [.s 1 p1 (acc.length+1),.nat (p+vL s p)]);refine(congrArg (Ok _) this).mpr ?_;refine aN (s.length-(p+(dec s p).2)) _ _ (by omega) ⟨p+(dec s p).2,q,1,acc++[(dec s p).1],by simp[vL],.inl rfl,hle,by omega,by simp;omega,by rw[hr,Zxh aw];simp,by simpa using du⟩
 .have e:Nat.blt p s.length=false:=by rw[Bool.eq_false_iff];simp_all
  rw[e,af];rw[Be (by omega),V0,gz]at hr;rw[Zp,hr];exact .mk ⟨a,_,rfl,Zr ho.1,ho.sl.dQ _⟩
def cmpL:al->al->Int
 |[],[]=>0
 |[],_::_=> -1
 |_::_,[]=>1
 |a::l,b::m=>if a<b then-1 else if b<a then 1 else cmpL l m
theorem Zrs (l m:al) (i:Nat) (hl:i<l.length) (hm:i<m.length):cmpL (l.drop i) (m.drop i)=if l[i]<m[i]then-1 else if m[i]<l[i]then 1 else cmpL (l.drop (i+1)) (m.drop (i+1)):=by
 rw[iV hl,iV hm];rfl
theorem ZmF (n:Nat) (x:Int) (st:St):run Bd (n+1) 72 [.int .i32 x] st=some (.val [.b false],st):=by
 rw[Ze,h.e72];unfold QZ Lb
 try dsimp only
 simp[av,aq,xq,bu,Zd]
theorem ZpA (n:Nat) (x y:Nat) (st:St):run Bd (n+2) 64 [.int .i32 x,.int .i32 y] st=some (.val [.i (if x<y then-1 else if y<x then 1 else 0)],st):=by
 rw[Ze,h.e64];unfold Qy bq Di Li;simp only[av,aq];rw[Zk (ZmF n _ st)];rw[au,aq];rw[Zk (ZmF n _ st)];simp only[au,aq,af];by_cases h1:x<y
 .rw[bE h1,ax (show(x:Int)<(y:Int) by omega),ae,Zd]
 .rw[bj h1,aF (show ¬(x:Int)<(y:Int) by omega),af]
  by_cases h2:y<x
  .rw[bE h2,ax (show(x:Int)>(y:Int) by omega),ae,Zd]
  .rw[bj h2,aF (show ¬(x:Int)>(y:Int) by omega),af,Zd]
theorem Zng (n:Nat) (l m:al) (a b:ai) (st:St) (ha:Sl st a (l.map AP)) (hb:Sl st b (m.map AP)) (hn:l.length+4<=n) (hl:l.length<1000000):
  Ok (λo=>o=(.val [.i (cmpL l m)],st)) (run Bd n 57 [.s 1 a l.length,.s 1 b m.length] st):=by
 obtain⟨n,rfl⟩: ∃k,n=k+3:=⟨n-3,by omega⟩;rw[Ze,h.e57];unfold Qi bV Q_ cN N_ cw Li;simp only[aX,aq];rw[Za];refine Zi _ (λk x s2=>∃i:Nat,x=[.i i]/\i<=l.length/\i<=m.length/\l.length-i<=k/\s2=st/\cmpL l m=cmpL (l.drop i) (m.drop i))
  ?_ l.length (n+2) _ _ (by grind) (by omega)
 rintro k _ s2 ⟨i,rfl,hi,JO,hk,rfl,hc⟩ rec aN;simp only[av,aq];by_cases aw:i<l.length
 .rw[ax (show(i:Int)<(l.length:Int) by omega),ae]
  obtain⟨j,o,rfl⟩:=ha.cH (by simp;omega);rw[bd,Zb (Zj aw),bp];rw[ha.dJ (d:=AP l[i]) (by simp[aw])];unfold AP;rw[bg];by_cases kM:i<m.length
  .rw[aF (show ¬(i:Int)>=(m.length:Int) by omega),af]
   obtain⟨j2,o2,rfl⟩:=hb.cH (by simp;omega);rw[bd,Zb (Zj kM)];rw[hb.dJ (d:=AP m[i]) (by simp[kM])];unfold AP;rw[bg];rw[Zk (ZpA n l[i] m[i] s2)];rw[av,aq];rw[Zrs l m i aw kM]at hc;by_cases h1:l[i]<m[i]
   .rw[bE h1]at hc⊢
    exact .mk (by rw[hc])
   .rw[bj h1]at hc⊢
    by_cases h2:m[i]<l[i]
    .rw[bE h2]at hc⊢
     exact .mk (by rw[hc])
    .rw[bj h2]at hc⊢
     have e:(!((0:Int)==0))=false:=rfl;rw[e,af,Zc];exact aN (k-1) _ _ (by omega) ⟨i+1,rfl,by omega,by omega,by omega,rfl,hc⟩
  .rw[ax (show(i:Int)>=(m.length:Int) by omega),ae,Zd]
   rw[iV aw,Be (by omega:m.length<=i)]at hc;exact .mk (by rw[hc];rfl)
 .rw[aF (show ¬(i:Int)<(l.length:Int) by omega),af]
  rw[Be (by omega:l.length<=i)]at hc;by_cases h2:l.length<m.length
  .rw[ax (show(l.length:Int)<(m.length:Int) by omega),ae,Zd]
   rw[iV (show i<m.length by omega)]at hc;exact .mk (by rw[hc];rfl)
  .rw[aF (show ¬(l.length:Int)<(m.length:Int) by omega),af,Zd]
   rw[Be (by omega:m.length<=i)]at hc;exact .mk (by rw[hc];rfl)
theorem Zpo (n:Nat) (a b:aj) (hn:a.length+8<=n) (wO:b.length+8<=n) (ha:a.length<100000) (hb:b.length<100000) (st:St):
  Ok (λo=>∃s',o=(.val [.i (cmpL (dB a) (dB b))],s')/\aB st s') (run Bd n 39 [.t a,.t b] st):=by
 obtain _|n:=n;omega;rw[Ze,h.e39];unfold Rj jK iL cw Ls wh Li;simp only[bR,aq];refine Ok.call (ZlJ n a (by omega) (by omega) st) ?_;rintro _ ⟨p,s1,rfl,aH,eX⟩;refine⟨_,s1,rfl,?_⟩;rw[aX,aq];refine Ok.call (ZlJ n b (by omega) (by omega) s1) ?_;rintro _ ⟨q,s2,rfl,aU,mw⟩;refine⟨_,s2,rfl,?_⟩;rw[aX,aq];have hr:=Nh a;refine Ok.call (Zng n (dB a) (dB b) p q s2 (eX.mono aU) mw (by omega) (by omega)) ?_;rintro _ rfl;refine⟨_,s2,rfl,?_⟩;rw[av,aq,Zd];exact .mk ⟨s2,rfl,aH.trans aU⟩
theorem Zir (n:Nat) (a b:aj) (hn:a.length+8<=n) (wO:b.length+8<=n) (ha:a.length<100000) (hb:b.length<100000) (st:St):
  Ok (λo=>∃s',o=(.val [.i (cmpL (dB a) (dB b))],s')/\aB st s') (run Bd n 40 [.t a,.t b] st):=by
 obtain _|n:=n;omega;rw[Ze,h.e40];unfold QJ jK iL Q_ cN aA Zn Ls Li Lb;simp only[bR,aq];refine Ok.call (Rv n a (by omega) (by omega) st) ?_;rintro _ ⟨p,s1,rfl,aH,eX⟩;refine⟨_,s1,rfl,?_⟩;rw[aX,aq];refine Ok.call (Rv n b (by omega) (by omega) s1) ?_;rintro _ ⟨q,s2,rfl,aU,mw⟩;refine⟨_,s2,rfl,?_⟩;have eX:=eX.mono aU;have j3:=Nh a;rw[aX,aq];generalize hl:dB a=l at*
 generalize hm:dB b=m at*
 rw[Za];refine Zi _ (λk x s3=>∃i:Nat,x=[.i i]/\i<=l.length/\i<=m.length/\l.length-i<=k/\s3=s2/\cmpL l m=cmpL (l.drop i) (m.drop i))
  ?_ l.length n _ _ (by grind) (by omega)
 rintro k _ s3 ⟨i,rfl,hi,JO,hk,rfl,hc⟩ rec aN;simp only[av,aq,MI,au];by_cases aw:i<l.length
 .by_cases kM:i<m.length
  .rw[show(bif decide ((i:Int)<(l.length:Int))then decide ((i:Int)<(m.length:Int))else false)=true by rw[HB,aY,zC,zC];omega,ae]
   obtain⟨j,o,rfl⟩:=eX.cH (by simp;omega);obtain⟨j2,o2,rfl⟩:=mw.cH (by simp;omega);have g1: ∀K:DV->M ah,bD j (i*1+o) K s3=K (.i (l[i]:Int)) s3:=λK=>eX.dJ (d:=ic l[i]) (by simp[aw]) K
   have g2: ∀K:DV->M ah,bD j2 (i*1+o2) K s3=K (.i (m[i]:Int)) s3:=λK=>mw.dJ (d:=ic m[i]) (by simp[kM]) K
   simp only[bd,Zb (Zj aw),Zb (Zj kM),bp];rw[g1];rw[bg];rw[g2];rw[bg];rw[Zrs l m i aw kM]at hc;by_cases h1:l[i]<m[i]
   .rw[bE h1]at hc
    rw[ax (show(l[i]:Int)<(m[i]:Int) by omega),ae,Zd];exact .mk ⟨s3,by rw[hc],aH.trans aU⟩
   .rw[bj h1]at hc
    rw[aF (show ¬(l[i]:Int)<(m[i]:Int) by omega),af,g1];rw[bg];rw[g2];rw[bg];by_cases h2:m[i]<l[i]
    .rw[bE h2]at hc
     rw[ax (show(l[i]:Int)>(m[i]:Int) by omega),ae,Zd];exact .mk ⟨s3,by rw[hc],aH.trans aU⟩
    .rw[bj h2]at hc
     rw[aF (show ¬(l[i]:Int)>(m[i]:Int) by omega),af,Zc];exact aN (k-1) _ _ (by omega) ⟨i+1,rfl,by omega,by omega,by omega,rfl,hc⟩
  .rw[show(bif decide ((i:Int)<(l.length:Int))then decide ((i:Int)<(m.length:Int))else false)=false by rw[HB,Bool.and_eq_false_iff,zB,zB];omega,af]
   rw[iV aw,Be (by omega:m.length<=i)]at hc;rw[aF (show ¬(l.length:Int)<(m.length:Int) by omega),af,ax (show(l.length:Int)>(m.length:Int) by omega),ae,Zd];exact .mk ⟨s3,by rw[hc];rfl,aH.trans aU⟩
 .rw[show(bif decide ((i:Int)<(l.length:Int))then decide ((i:Int)<(m.length:Int))else false)=false by rw[HB,Bool.and_eq_false_iff,zB,zB];omega,af]
  rw[Be (by omega:l.length<=i)]at hc;by_cases h2:l.length<m.length
  .rw[ax (show(l.length:Int)<(m.length:Int) by omega),ae,Zd]
   rw[iV (show i<m.length by omega)]at hc;exact .mk ⟨s3,by rw[hc];rfl,aH.trans aU⟩
  .rw[aF (show ¬(l.length:Int)<(m.length:Int) by omega),af,aF (show ¬(l.length:Int)>(m.length:Int) by omega),af,Zd]
   rw[Be (by omega:m.length<=i)]at hc;exact .mk ⟨s3,by rw[hc];rfl,aH.trans aU⟩
end Go.Gv.F
