/- Lines and words. -/
import Derived.Test.YtegglibipjjblaaGreatDoorGvBMn
import Derived.Test.YtegglibipjjblaaGreatDoorGvZLib
import Derived.Test.YtegglibipjjblaaGreatDoorGvZLaw
set_option linter.all false
namespace Go.Gv.F
variable {i k n o p:Nat} {s' st:St} {β:Type} {cs:ah} {s:aj}
theorem Zi (h:i<n:=by omega):aP (i:Int) n=true:=by unfold aP;simp;omega
theorem Zc {x:Int} (h1: -9223372036854775808<=x:=by omega) (h2:x<9223372036854775808:=by omega):ar x=x:=by
 unfold ar;exact IntWalk.i64_in _ AC
variable {Bd:Zh} [h:HA Bd]
theorem RJ (n:Nat) (s:aj) (k lo hi:Nat) (pX:0<lo) (st:St):
  run Bd (n+1) 19 [.str s,.i k,.u lo,.u hi] st=some (.val [.bool (decide (lo<=oc s k/\oc s k<=hi))],st):=by
 rw[Ze,h.e19];unfold Rs Na az Lb;simp only[bT,av,aq,Za,au,Jb];by_cases hk:k<s.length
 .have e:decide ((k:Int)<(s.length:Int))=true:=by simpa using hk
  simp only[e,ae,Zb (Zi hk)];by_cases h1:lo<=oc s k
  .have e1:decide ((oc s k:Int)>=(lo:Int))=true:=by simpa using h1
   simp only[e1,ae,Zd];congr 5;simp[h1]
  .have e1:decide ((oc s k:Int)>=(lo:Int))=false:=by simpa using h1
   simp only[e1,af,Zd];simp[h1]
 .have e:decide ((k:Int)<(s.length:Int))=false:=by simpa using hk
  simp only[e,af,Zd];rw[N7 AC];have: ¬lo<=0:=AC
  simp[this]
theorem ZzP (s:aj):ZV s 0=(oc s 0:Int):=Jb s 0
theorem Zz7 (s:aj):ZV s 1=(oc s 1:Int):=Jb s 1
theorem Zz4 (s:aj):ZV s 2=(oc s 2:Int):=Jb s 2
theorem ZAt (s:aj):ZV s 3=(oc s 3:Int):=Jb s 3
theorem Vp (h:0<oc s k:=by omega):k<s.length:=by
 rcases kz k s.length with h'|h'
 .exact h'
 .rw[N7 h']at h;omega
theorem Zzi (h:1<n):aP 1 n=true:=Zi h
theorem ZyE (h:0<n):aP 0 n=true:=Zi h
theorem ZyF (h:2<n):aP 2 n=true:=Zi h
theorem Zy5 (h:3<n):aP 3 n=true:=Zi h
theorem Xt (a b c:Nat) (r2:224<=a/\a<=239) (h1:128<=b) (h2:b<=191) (h3:128<=c) (h4:c<=191) (st:St):
  (some (Out.val [DV.int .i64 (ar ((ar ((ar ((ar (IntKind.wrap .u8 ((a:Int)-224)))*4096))+(ar ((ar (IntKind.wrap .u8 ((b:Int)-128)))*64))))+(ar (IntKind.wrap .u8 ((c:Int)-128))))),.i 3],st):Option (Out ah×St))=
   some (.val [.i (((a-224)*4096+(b-128)*64+(c-128):Nat):Int),.i ((3:Nat):Int)],st):=by
 rw[IntWalk.u8_in _ AC,IntWalk.u8_in _ AC,IntWalk.u8_in _ AC,Zc (x:=(a:Int)-224),Zc (x:=(b:Int)-128),Zc (x:=(c:Int)-128),
  Zc (x:=((a:Int)-224)*4096),Zc (x:=((b:Int)-128)*64),Zc (x:=((a:Int)-224)*4096+((b:Int)-128)*64),Zc]
 have e:((a:Int)-224)*4096+((b:Int)-128)*64+((c:Int)-128)=(((a-224)*4096+(b-128)*64+(c-128):Nat):Int):=AC
 rw[e];rfl
theorem Xu (a b c d:Nat) (r3:240<=a/\a<=244) (h1:128<=b) (h2:b<=191) (h3:128<=c) (h4:c<=191) (h5:128<=d) (h6:d<=191) (st:St):
  (some (Out.val [DV.int .i64 (ar ((ar ((ar ((ar ((ar (IntKind.wrap .u8 ((a:Int)-240)))*262144))+(ar ((ar (IntKind.wrap .u8 ((b:Int)-128)))*4096))))+(ar ((ar (IntKind.wrap .u8 ((c:Int)-128)))*64))))+(ar (IntKind.wrap .u8 ((d:Int)-128))))),.i 4],st):Option (Out ah×St))=
   some (.val [.i (((a-240)*262144+(b-128)*4096+(c-128)*64+(d-128):Nat):Int),.i ((4:Nat):Int)],st):=by
 rw[IntWalk.u8_in _ AC,IntWalk.u8_in _ AC,IntWalk.u8_in _ AC,IntWalk.u8_in _ AC,Zc (x:=(a:Int)-240),Zc (x:=(b:Int)-128),Zc (x:=(c:Int)-128),Zc (x:=(d:Int)-128),
  Zc (x:=((a:Int)-240)*262144),Zc (x:=((b:Int)-128)*4096),Zc (x:=((c:Int)-128)*64),Zc (x:=((a:Int)-240)*262144+((b:Int)-128)*4096),Zc (x:=((a:Int)-240)*262144+((b:Int)-128)*4096+((c:Int)-128)*64),Zc]
 have e:((a:Int)-240)*262144+((b:Int)-128)*4096+((c:Int)-128)*64+((d:Int)-128)=(((a-240)*262144+(b-128)*4096+(c-128)*64+(d-128):Nat):Int):=AC
 rw[e];rfl
theorem Zqm (n:Nat) (s:aj) (hs:0<s.length) (st:St):
  run Bd (n+2) 15 [.str s] st=some (.val [.i ((dec s 0).1:Int),.i ((dec s 0).2:Int)],st):=by
 have h0:=P9 s 0;have h1:=P9 s 1;have h2:=P9 s 2;have h3:=P9 s 3;have f1: ∀lo hi:Nat,0<lo->run Bd (n+1) 19 [.str s,.i 1,.u lo,.u hi] st=some (.val [.bool (decide (lo<=oc s 1/\oc s 1<=hi))],st):=λlo hi pX=>RJ n s 1 lo hi pX st
 have f2:run Bd (n+1) 19 [.str s,.i 2,.u 128,.u 191] st=some (.val [.bool (decide (128<=oc s 2/\oc s 2<=191))],st):=RJ n s 2 128 191 AC st;have f3:run Bd (n+1) 19 [.str s,.i 3,.u 128,.u 191] st=some (.val [.bool (decide (128<=oc s 3/\oc s 3<=191))],st):=RJ n s 3 128 191 AC st;have g1:run Bd (n+1) 19 [.str s,.i 1,.u 128,.u 191] st=_:=f1 128 191 AC;have g2:run Bd (n+1) 19 [.str s,.i 1,.u 160,.u 191] st=_:=f1 160 191 AC;have g3:run Bd (n+1) 19 [.str s,.i 1,.u 128,.u 159] st=_:=f1 128 159 AC;have g4:run Bd (n+1) 19 [.str s,.i 1,.u 144,.u 191] st=_:=f1 144 191 AC;have g5:run Bd (n+1) 19 [.str s,.i 1,.u 128,.u 143] st=_:=f1 128 143 AC;rw[Ze,h.e15];unfold SM jU az Q_ Im bu gA D3 Lb kM;simp only[bT,aq,Zb (ZyE hs),ZzP,Zz7,Zz4,ZAt,Bool.cond_decide];rw[Cu];simp only[eJ];generalize oc s 0=a at*
 generalize hb:oc s 1=b at*
 generalize hc:oc s 2=c at*
 generalize hd:oc s 3=d at*
 have l1:0<b->aP 1 s.length=true:=λh=>Zzi (Vp)
 have l2:0<c->aP 2 s.length=true:=λh=>ZyF (Vp)
 have l3:0<d->aP 3 s.length=true:=λh=>Zy5 (Vp)
 by_cases c0:a<128
 .rw[bG AC,bG c0,Zc];rfl
 rw[bq AC,bq c0];by_cases r1:194<=a/\a<=223
 .have e1:(a:Int)>=194:=AC
  have e2:(a:Int)<=223:=AC
  have e3: ¬(a:Int)>=224:=AC
  have e4: ¬(a:Int)>=240:=AC
  simp only[Za,au,aq,bG e1,aS e2,ae,Zk g1];by_cases k:128<=b/\b<=191
  .simp only[aS k,ae,Zb (l1 AC),Zd]
   rw[bG ⟨r1,k⟩,IntWalk.u8_in _ AC,IntWalk.u8_in _ AC,Zc (x:=(a:Int)-192),Zc (x:=(b:Int)-128),Zc (x:=((a:Int)-192)*64),Zc];have:(a:Int)-192=((a-192:Nat):Int):=AC
   have:(b:Int)-128=((b-128:Nat):Int):=AC
   simp[*]
  .simp only[bM k,af,bq e3,bq e4,au,aq,Zd]
   rw[bq (by rintro⟨_,h⟩;exact k h),bq AC,bq AC];rfl
 by_cases r2:224<=a/\a<=239
 .have e1:(a:Int)>=194:=AC
  have e2: ¬(a:Int)<=223:=AC
  have e3:(a:Int)>=224:=AC
  have e4:(a:Int)<=239:=AC
  by_cases y1:a=224
  .subst y1
   have x1:(((224:Nat):Int)==224)=true:=rfl;have x2:(((224:Nat):Int)==237)=false:=rfl;simp only[Za,au,av,aq,bG e1,bM e2,af,bG e3,aS e4,ae,x1,x2,Zk g2,Zd];by_cases k:160<=b/\b<=191
   .by_cases k2:128<=c/\c<=191
    .simp only[aS k,aS k2,ae,Zk f2,au,aq,Zb (l1 AC),Zb (l2 AC),Zd]
     rw[bq AC,bG ⟨r2,by simpa using k,k2⟩];exact Xt 224 b c r2 AC AC AC AC st
    .simp only[aS k,bM k2,ae,af,Zk f2,au,aq,Zd]
     rw[bq AC,bq (by rintro⟨_,_,h⟩;exact k2 h),bq AC];rfl
   .simp only[bM k,af,au,aq,Zd]
    rw[bq AC,bq (by rintro⟨_,h,_⟩;exact k (by simpa using h)),bq AC];rfl
  .by_cases y2:a=237
   .subst y2
    have x1:(((237:Nat):Int)==224)=false:=rfl;have x2:(((237:Nat):Int)==237)=true:=rfl;simp only[Za,au,av,aq,bG e1,bM e2,af,bG e3,aS e4,ae,x1,x2,Zk g3,Zd];by_cases k:128<=b/\b<=159
    .by_cases k2:128<=c/\c<=191
     .simp only[aS k,aS k2,ae,Zk f2,au,aq,Zb (l1 AC),Zb (l2 AC),Zd]
      rw[bq AC,bG ⟨r2,by simpa using k,k2⟩];exact Xt 237 b c r2 AC AC AC AC st
     .simp only[aS k,bM k2,ae,af,Zk f2,au,aq,Zd]
      rw[bq AC,bq (by rintro⟨_,_,h⟩;exact k2 h),bq AC];rfl
    .simp only[bM k,af,au,aq,Zd]
     rw[bq AC,bq (by rintro⟨_,h,_⟩;exact k (by simpa using h)),bq AC];rfl
   .have x1:((a:Int)==224)=false:=by rw[eN];omega
    have x2:((a:Int)==237)=false:=by rw[eN];omega
    simp only[Za,au,av,aq,bG e1,bM e2,af,bG e3,aS e4,ae,x1,x2,Zk g1,Zd,bq y1,bq y2];by_cases k:128<=b/\b<=191
    .by_cases k2:128<=c/\c<=191
     .simp only[aS k,aS k2,ae,Zk f2,au,aq,Zb (l1 AC),Zb (l2 AC),Zd]
      rw[bq AC,bG ⟨r2,k,k2⟩];exact Xt a b c r2 AC AC AC AC st
     .simp only[aS k,bM k2,ae,af,Zk f2,au,aq,Zd]
      rw[bq AC,bq (by rintro⟨_,_,h⟩;exact k2 h),bq AC];rfl
    .simp only[bM k,af,au,aq,Zd]
     rw[bq AC,bq (by rintro⟨_,h,_⟩;exact k h),bq AC];rfl
 by_cases r3:240<=a/\a<=244
 .have e1:(a:Int)>=194:=AC
  have e2: ¬(a:Int)<=223:=AC
  have e3:(a:Int)>=224:=AC
  have e4: ¬(a:Int)<=239:=AC
  have e5:(a:Int)>=240:=AC
  have e6:(a:Int)<=244:=AC
  by_cases y1:a=240
  .subst y1
   have x1:(((240:Nat):Int)==240)=true:=rfl;have x2:(((240:Nat):Int)==244)=false:=rfl;simp only[Za,au,av,aq,bG e1,bM e2,af,bG e3,bM e4,bG e5,aS e6,ae,x1,x2,Zk g4,Zd];by_cases k:144<=b/\b<=191
   .by_cases k2:128<=c/\c<=191
    .by_cases k3:128<=d/\d<=191
     .simp only[aS k,aS k2,aS k3,ae,Zk f2,Zk f3,au,aq,Zb (l1 AC),Zb (l2 AC),Zb (l3 AC),Zd]
      rw[bq AC,bq AC,bG ⟨r3,by simpa using k,k2,k3⟩];exact Xu 240 b c d r3 AC AC AC AC AC AC st
     .simp only[aS k,aS k2,bM k3,ae,af,Zk f2,Zk f3,au,aq,Zd]
      rw[bq AC,bq AC,bq (by rintro⟨_,_,_,h⟩;exact k3 h)];rfl
    .simp only[aS k,bM k2,ae,af,Zk f2,au,aq,Zd]
     rw[bq AC,bq AC,bq (by rintro⟨_,_,h,_⟩;exact k2 h)];rfl
   .simp only[bM k,af,au,aq,Zd]
    rw[bq AC,bq AC,bq (by rintro⟨_,h,_⟩;exact k (by simpa using h))];rfl
  .by_cases y2:a=244
   .subst y2
    have x1:(((244:Nat):Int)==240)=false:=rfl;have x2:(((244:Nat):Int)==244)=true:=rfl;simp only[Za,au,av,aq,bG e1,bM e2,af,bG e3,bM e4,bG e5,aS e6,ae,x1,x2,Zk g5,Zd];by_cases k:128<=b/\b<=143
    .by_cases k2:128<=c/\c<=191
     .by_cases k3:128<=d/\d<=191
      .simp only[aS k,aS k2,aS k3,ae,Zk f2,Zk f3,au,aq,Zb (l1 AC),Zb (l2 AC),Zb (l3 AC),Zd]
       rw[bq AC,bq AC,bG ⟨r3,by simpa using k,k2,k3⟩];exact Xu 244 b c d r3 AC AC AC AC AC AC st
      .simp only[aS k,aS k2,bM k3,ae,af,Zk f2,Zk f3,au,aq,Zd]
       rw[bq AC,bq AC,bq (by rintro⟨_,_,_,h⟩;exact k3 h)];rfl
     .simp only[aS k,bM k2,ae,af,Zk f2,au,aq,Zd]
      rw[bq AC,bq AC,bq (by rintro⟨_,_,h,_⟩;exact k2 h)];rfl
    .simp only[bM k,af,au,aq,Zd]
     rw[bq AC,bq AC,bq (by rintro⟨_,h,_⟩;exact k (by simpa using h))];rfl
   .have x1:((a:Int)==240)=false:=by rw[eN];omega
    have x2:((a:Int)==244)=false:=by rw[eN];omega
    simp only[Za,au,av,aq,bG e1,bM e2,af,bG e3,bM e4,bG e5,aS e6,ae,x1,x2,Zk g1,Zd,bq y1,bq y2];by_cases k:128<=b/\b<=191
    .by_cases k2:128<=c/\c<=191
     .by_cases k3:128<=d/\d<=191
      .simp only[aS k,aS k2,aS k3,ae,Zk f2,Zk f3,au,aq,Zb (l1 AC),Zb (l2 AC),Zb (l3 AC),Zd]
       rw[bq AC,bq AC,bG ⟨r3,k,k2,k3⟩];exact Xu a b c d r3 AC AC AC AC AC AC st
      .simp only[aS k,aS k2,bM k3,ae,af,Zk f2,Zk f3,au,aq,Zd]
       rw[bq AC,bq AC,bq (by rintro⟨_,_,_,h⟩;exact k3 h)];rfl
     .simp only[aS k,bM k2,ae,af,Zk f2,au,aq,Zd]
      rw[bq AC,bq AC,bq (by rintro⟨_,_,h,_⟩;exact k2 h)];rfl
    .simp only[bM k,af,au,aq,Zd]
     rw[bq AC,bq AC,bq (by rintro⟨_,h,_⟩;exact k (h))];rfl
 .have e1:(a:Int)>=194\/¬(a:Int)>=194:=Classical.em _
  have e2: ¬(a:Int)<=223\/¬(a:Int)>=194:=AC
  have e4: ¬(a:Int)<=239\/¬(a:Int)>=224:=AC
  have e6: ¬(a:Int)<=244\/¬(a:Int)>=240:=AC
  rw[bq AC,bq AC,bq AC];simp only[Za,au,aq];rcases e2 with e|e<;>rcases e4 with f|f<;>rcases e6 with g|g<;>(simp only[e,f,g,decide_false,nz,af,ite_self,Zd];rfl)
def ic (r:Nat):DV:= .i (r:Int)
theorem RO (n:Nat) (s:aj) (hn:s.length+4<=n) (hs:s.length<1000000) (st:St):
  Ok (λo=>∃a s',o=(.val [.slice 1 a (dM s).length],s')/\aA st s'/\Sl s' a ((dM s).map ic)) (run Bd n 12 [.str s] st):=by
 obtain⟨n,rfl⟩: ∃m,n=m+3:=⟨n-3,AC⟩;rw[Ze,h.Xr];unfold Sy jU fJ bZ je ba Ls Li;simp only[bT,aq,ZJ,Za];refine Zj _ (λk x s1=>∃(t:aj) (a:ai) (z:Nat) (acc:al),x=[.str t,.slice z a acc.length]/\(z=1\/a=none)/\t.length<=k/\acc.length+t.length<=s.length/\dM s=acc++dM t/\bg st s1 a (acc.map ic))
  ?_ s.length (n+2) _ _ ⟨s,none,0,[],rfl,.inr rfl,aM _,Do,rfl,bg.nil (.refl st)⟩ AC
 rintro k _ s1 ⟨t,a,z,acc,rfl,hz,hk,hl,hr,ho⟩ rec aL;simp only[bT,Zf 1 z a _ hz,aq,Bool.cond_decide,aV];by_cases ht:(t.length:Int)>0
 .rw[bG ht]
  have xu:0<t.length:=AC
  have hw:=Gz t 0;have hle:=WQ t 0 xu;rw[Zk (Zqm n t xu s1)];simp only[av,aq];obtain⟨p,s2,dj,hp⟩:=ho.push (β:=ah) (sz:=1) (n:=acc.length) (lim:=8796093022208) [ic (dec t 0).1] (xU 0) Do rfl AC;have:=hp (λp=>aB (decide (0<=((dec t 0).2:Int))&&decide (((dec t 0).2:Int)<=(t.length:Int))) (rec [.str (t.drop ((dec t 0).2:Int).toNat),.slice 1 p (acc.length+1)]));refine(congrArg (Ok _) this).mpr ?_;rw[Zb (by simp;omega)];refine aL (t.length-1) _ _ AC ⟨t.drop (dec t 0).2,p,1,acc++[(dec t 0).1],Do,.inl rfl,by simp;omega,by simp;omega,by rw[hr,Nz xu];simp,by simpa using dj⟩
 .rw[bq ht]
  have xu:t=[]:=zV AC;subst xu;rw[WE,gM]at hr;rw[Zp,hr];exact .mk ⟨a,_,rfl,Zq ho.1,ho.sl.dU _⟩
def ZAU (r:Nat):Bool:=(decide (r<32)&& !(r==9))||r==127||r==65533
theorem ZxU (a b:Nat):((a:Int)==(b:Int))=(a==b):=by rw[lS];simp only[va];omega
def flush (w:aj):List (aj):=if w=[]then[]else[w]
def N9:aj->aj->List (aj)
 |[],w=>flush w
 |c::r,w=>if c=35 then flush w else if c=32\/c=9 then flush w++N9 r []else N9 r (w++[c])
def Zvh (line:aj):Int×List (aj):=
 if (dM line).any ZAU then(41,[])else if (N9 line []).length>40 then(40,[])else(0,N9 line [])
def ZAK (w:aj):Prop:=Zvh w=(0,[w])
instance (w:aj):Decidable (ZAK w):=inferInstanceAs (Decidable (Zvh w=(0,[w])))
theorem B2 (F:(ah->M β)->ah->M β) (m:Nat) (st:ah):cY F (m+1) st=F (cY F m) st:=rfl
theorem bK (h:cs.length=n) (K:M β):bC cs n K=K:=by
 simp_all[bC]
def xG (r:Int):Bool:=(decide (r>=97)&&decide (r<=122))||((decide (r>=65)&&decide (r<=90))||((decide (r>=48)&&decide (r<=57))||(r==45||(r==95||(decide (r>=161)&&decide (r<=65519))))))
theorem Zuz (n:Nat) (r:Int) (st:St):run Bd (n+1) 29 [.i r] st=some (.val [.bool (xG r)],st):=by
 rw[Ze,h.e29];unfold U3 cW az Lb xG;simp only[av,aq,Np,au,Zd,Bool.cond_true_left,H6,Bool.or_assoc]
def AA:ah:=[.int .i32 97,.int .i32 122,.int .i32 65,.int .i32 90,.int .i32 48,.int .i32 57,.int .i32 45,.int .i32 45,.int .i32 95,.int .i32 95,.int .i32 161,.int .i32 65519]
theorem Zr3 (n:Nat) (st:St):run Bd (n+1) 54 [] st=some (.val [.agg AA],st):=by
 rw[Ze,h.e54];rfl
theorem Zwk (n:Nat) (r:Int) (st:St):run Bd (n+8) 28 [.int .i32 r] st=some (.val [.bool (xG r)],st):=by
 rw[Ze,h.e28];unfold U6 Q_ cN az Lb Li
 try dsimp only
 rw[av,aq,Zk (Zr3 (n+6) st),da,aq,bK FS];have step: ∀(rec:ah->M ah) (i:Nat) (lo hi:Int),i<6->(AA.drop (i*2)).take 2=[.int .i32 lo,.int .i32 hi]->
   (λ(x:Int)=>aB (aP x 6) (bC ((AA.drop (x.toNat*2)).take 2) 2 (eS ((AA.drop (x.toNat*2)).take 2) 0 λd=>de .i32 d λx1=>
    cT (λst=>gK st λb1 st=>aI st<|bif b1 then ax [.bool true]else rec [.i (ar (x+1))]) λaH=>
    bif decide (r>=x1)then eS ((AA.drop (x.toNat*2)).take 2) 1 λd1=>de .i32 d1 λx2=>aH [.bool (decide (r<=x2))]else aH [.bool false]))) (i:Int)=
   bif (decide (r>=lo)&&decide (r<=hi))then ax [.bool true]else rec [.i ((i+1:Nat):Int)]:=by
  intro rec i lo hi hi6 hd;simp only[br,hd,Zb (Zi hi6),bK FS,Zc (x:=(i:Int)+1)];unfold eS;simp only[lz,qV,bj,Np,au,aq,H6];rfl
 have fin: ∀(l:List (Int×Int)) (i m:Nat),i+l.length=6->(∀(k:Nat) p,l[k]? =some p->(AA.drop ((i+k)*2)).take 2=[.int .i32 p.1,.int .i32 p.2])->l.length<m->
   cY (λ(aQ:ah->M ah) st=>aC .i64 st λx st=>aI st<|bif decide (x<6)then aB (aP x 6) (bC ((AA.drop (x.toNat*2)).take 2) 2 (eS ((AA.drop (x.toNat*2)).take 2) 0 λd=>de .i32 d λx1=>
    cT (λst=>gK st λb1 st=>aI st<|bif b1 then ax [.bool true]else aQ [.i (ar (x+1))]) λaH=>
    bif decide (r>=x1)then eS ((AA.drop (x.toNat*2)).take 2) 1 λd1=>de .i32 d1 λx2=>aH [.bool (decide (r<=x2))]else aH [.bool false]))else(aI []<|ax [.bool false])) m [.i (i:Int)] st
   =some (.val [.bool (l.any λp=>decide (r>=p.1)&&decide (r<=p.2))],st):=by
  intro l;induction l with
  |nil=>
   intro i m hi _ hm;obtain⟨m,rfl⟩: ∃k,m=k+1:=by simp_all
   simp only[xS,gQ]at hi;subst hi;rw[B2];rfl
  |cons p l ih=>
   intro i m hi hp hm;simp only[cQ]at hi hm;obtain⟨m,rfl⟩: ∃k,m=k+1:=⟨m-1,AC⟩;rw[B2,av,aq,aX];refine(congrFun (step _ i p.1 p.2 AC (by have:=hp 0 p rfl;simpa using this)) st).trans ?_;rw[List.any_cons];cases hb:(decide (r>=p.1)&&decide (r<=p.2))with
   |true=>rfl
   |false=>
    rw[af,wD];exact ih (i+1) m AC (λk q hq=>by have:=hp (k+1) q (by simpa using hq);rwa [show i+(k+1)=i+1+k by omega]at this) AC
 have e:xG r=[((97:Int),(122:Int)),(65,90),(48,57),(45,45),(95,95),(161,65519)].any λp=>decide (r>=p.1)&&decide (r<=p.2):=by
  grind[xG]
 rw[e,Za];refine fin _ 0 (n+7) rfl (λk p hp=>?_) Do
 match k,hp with
 |0,hp=>cases hp;rfl
 |1,hp=>cases hp;rfl
 |2,hp=>cases hp;rfl
 |3,hp=>cases hp;rfl
 |4,hp=>cases hp;rfl
 |5,hp=>cases hp;rfl
 |k+6,hp=>simp at hp
def rF (s:aj):Bool:=decide (0<(dM s).length)&&(decide ((dM s).length<=8)&&(dM s).all λr=>xG r)
theorem Zk6 (n:Nat) (s:aj) (hn:s.length+6<=n) (hs:s.length<100000) (st:St):
  Ok (λo=>∃s',o=(.val [.bool (rF s)],s')/\aA st s') (run Bd n 27 [.str s] st):=by
 obtain⟨n,rfl⟩: ∃m,n=m+3:=⟨n-3,AC⟩;rw[Ze,h.e27];unfold Sw jU il az cW Zn bu Ls Lb Ad Li
 try dsimp only
 rw[bT,aq];refine Ok.call (RO (n+2) s AC AC st) ?_;rintro _ ⟨a,s1,rfl,aD,dI⟩;refine⟨_,s1,rfl,?_⟩;have De:=NU s;simp only[aV,aq,Np,au];rw[Za];have e0:(bif decide (((dM s).length:Int)>0)then decide (((dM s).length:Int)<=8)else false)=(decide (0<(dM s).length)&&decide ((dM s).length<=8)):=by
  rw[H6];grind
 rw[e0];refine Zj _ (λk x s2=>∃(i:Nat) (b:Bool),x=[.bool b,.i i]/\i<=(dM s).length/\(dM s).length-i<=k/\s2=s1/\(b&&((dM s).drop i).all λr=>xG r)=rF s)
  ?_ (dM s).length (n+2) _ _ ⟨0,_,rfl,cB _,AC,rfl,by rw[dE];grind[rF]⟩ AC
 rintro k _ s2 ⟨i,b,rfl,hi,hk,rfl,hb⟩ rec aL;simp only[au,av,aq];by_cases aw:i<(dM s).length
 .rw[aX]
  have hr:(dM s)[i]? =some (dM s)[i]:=cu aw;rw[jd aw,wE]at hb;rw[Za];cases b with
  |false=>
   simp only[af,au,aq];exact aL (k-1) _ _ AC ⟨i+1,false,by rw[Zc];rfl,AC,AC,rfl,by rw[<-hb];simp⟩
  |true=>
   obtain⟨j,o,rfl⟩:=dI.cF (by simp;omega);rw[ae,bc,Zb (Zi aw),br,dI.dO (d:=ic (dM s)[i]) (by simp[hr])];unfold ic;rw[bj,Zk (Zuz (n+1) _ s2),au,aq];exact aL (k-1) _ _ AC ⟨i+1,_,by rw[Zc];rfl,AC,AC,rfl,by rw[<-hb];simp⟩
 .rw[aZ,Zd]
  rw[BC AC]at hb;simp only[List.all_nil,wC]at hb;exact .mk ⟨s2,by rw[hb],aD⟩
theorem Zxj (h:p<s.length):dM (s.drop p)=(dec s p).1::dM (s.drop (p+(dec s p).2)):=by
 rw[Nz (by simp;omega),Zy0,gQ,jG]
theorem Zr9 (n:Nat) (s:aj) (hn:s.length+12<=n) (hs:s.length<100000) (st:St):
  Ok (λo=>o=(.val [.bool (rF s)],st)) (run Bd n 26 [.str s] st):=by
 obtain⟨n,rfl⟩: ∃m,n=m+9:=⟨n-9,AC⟩;rw[Ze,h.e26];unfold Ts jU pA Mo az bu Lb DM Li
 try dsimp only
 rw[bT,aq,Za];refine Zj _ (λk x s2=>∃(p c:Nat),x=[.i c,.nat p]/\p<=s.length/\s.length-p<=k/\s2=st/\c<=8/\(decide (0<c+(dM (s.drop p)).length)&&(decide (c+(dM (s.drop p)).length<=8)&&(dM (s.drop p)).all λr=>xG r))=rF s)
  ?_ s.length (n+8) _ _ ⟨0,0,rfl,cB _,AC,rfl,AC,by rw[eJ,dE];rfl⟩ AC
 rintro k _ s2 ⟨p,c,rfl,hp,hk,rfl,hc,hb⟩ rec aL;rw[av,J_n,aq];by_cases aw:p<s.length
 .have hw:=Gz s p
  have hle:=WQ s p aw;rw[Zxj aw]at hb;simp only[cQ,wE]at hb;have XV:Nat.blt p s.length=true:=by rw[qX];exact aw
  simp only[XV,ae,Eo,wv,Zc (x:=(c:Int)+1),Za,au,aq];by_cases h8:c=8
  .subst h8
   rw[bM (AC:¬8+((dM (s.drop (p+(dec s p).2))).length+1)<=8)]at hb;simp only[gu,DD]at hb;have e:decide (((8:Nat):Int)+1>8)=true:=rfl;rw[e,ae,Zd];exact .mk (by rw[hb])
  .have e:decide ((c:Int)+1>8)=false:=bM AC
   rw[e,af,Zk (Zwk n _ s2),au,aq];cases ho:xG ((dec s p).1:Int)with
   |false=>
    rw[bp,ae,Zd];rw[ho]at hb;simp only[gu,DD]at hb;exact .mk (by rw[hb])
   |true=>
    rw[bw,af];rw[ho]at hb;refine aL (s.length-(p+(dec s p).2)) _ _ AC ⟨p+(dec s p).2,c+1,rfl,hle,AC,rfl,AC,?_⟩;rw[<-hb,show c+1+(dM (s.drop (p+(dec s p).2))).length=c+((dM (s.drop (p+(dec s p).2))).length+1) by omega];simp
 .have e:Nat.blt p s.length=false:=by rw[Bool.eq_false_iff];simp_all
  simp only[e,af,Zd];rw[BC AC,WE]at hb;refine .mk ?_;rw[<-hb];simp_all
def sO (s:St):Prop:=∀(i:Nat) (b:Option bO),tabs[i]? =some b->s[i]? =some b
theorem sO.mono {s:St} (h:sO s) (k:aA s s'):sO s':=λi b e=>k.get (h i b e)
def ae0:aj:=[48,49,50,51,52,53,54,55,56,57,97,98,99,100,101,102,103,104,105,106,107,108,109,110,111,112,113,114,115,116,117,118,119,120,121,122]
def dg (n:Nat):UInt8:=ae0.getD n 0
theorem ZxB (cs:ah):ov cs []=cs:=by cases cs<;>rfl
theorem Ce (d:DV): ∀(cs:ah) (p:Nat),p<cs.length->cG cs p [d]=cs.set p d
 |[],p,h=>by cases h
 |c::cs,0,_=>by show d::ov cs []=_;rw[ZxB];rfl
 |c::cs,p+1,h=>by show c::cG cs p [d]=_;rw[Ce d cs p (by simpa using h)];rfl
theorem Zmk: ∀(l:aj),uq (ZM l)=some l
 |[]=>rfl
 |b::l=>by
  show(uq (ZM l)).map (UInt8.ofNat _:: ·)=_;rw[Zmk l];simp
theorem rf (l:aj) (K:aj->M β):lJ (ZM l) K=K l:=by unfold lJ;rw[Zmk]
theorem Zq8 (d:DV) (hp:p<cs.length) (K:M β):dG st.length p [d] K (st++[some ⟨false,cs⟩])=K (st++[some ⟨false,cs.set p d⟩]):=by
 unfold dG St.gP;simp only[List.getElem?_concat_length,iS,gz (AC:p+1<=cs.length),ae,Ce d cs p hp];rw[List.set_append_right _ _ (aM _),BK];rfl
theorem Jh (h:o+n<=cs.length) (K:ah->M β):bX st.length o n K (st++[some ⟨false,cs⟩])=K ((cs.drop o).take n) (st++[some ⟨false,cs⟩]):=
 Z9 (f:=false) (all:=cs) Do h K
end Go.Gv.F
namespace Go.Gv.F
theorem ZzL {Bd:Zh} {n g:Nat} {args:ah} {s:St} (h:Ok (λo=>∃s',o=(.val [.bool true],s')) (run Bd n g args s)): ∃n s',run Bd n g args s=some (.val [.bool true],s'):=by
 obtain⟨o,e,s',rfl⟩:=h;exact⟨n,s',e⟩
theorem yi {n:Int} (h:IntKind.min .i64<=n/\n<=IntKind.max .i64): -9223372036854775808<=n/\n<=9223372036854775807:=by
 have e1:IntKind.min .i64= -9223372036854775808:=EQ
 simp_all
def Bk (r:Nat):DV:= .int .i32 (r:Int)
variable {Bd:Zh} [h:HA Bd]
theorem Zl6 (n:Nat) (s:aj) (hn:s.length+4<=n) (hs:s.length<1000000) (st:St):
  Ok (λo=>∃a s',o=(.val [.slice 1 a (dM s).length],s')/\aA st s'/\Sl s' a ((dM s).map Bk)) (run Bd n 34 [.str s] st):=by
 obtain _|n:=n;omega;rw[Ze,h.e34];unfold TX jU fJ Mo ba DM
 try dsimp only
 rw[bT,aq,ZJ,Za];refine Zj _ (λk x s1=>∃(p:Nat) (a:ai) (z:Nat) (acc:al),x=[.slice z a acc.length,.nat p]/\(z=1\/a=none)/\p<=s.length/\s.length-p<=k/\acc.length<=p/\dM s=acc++dM (s.drop p)/\bg st s1 a (acc.map Bk))
  ?_ s.length n _ _ ⟨0,none,0,[],rfl,.inr rfl,cB _,AC,cB _,by rw[dE];rfl,bg.nil (.refl st)⟩ AC
 rintro k _ s1 ⟨p,a,z,acc,rfl,hz,hp,hk,hl,hr,ho⟩ rec aL;simp only[J_n,Zf 1 z a _ hz,aq,aV];by_cases aw:p<s.length
 .have XV:Nat.blt p s.length=true:=by rw[qX];exact aw
  have hw:=Gz s p;have hle:=WQ s p aw;rw[XV,ae];have⟨q,s2,dj,aU⟩:=ho.push (β:=ah) (sz:=1) (n:=acc.length) (lim:=17592186044416) [Bk (dec s p).1] (xU 0) Do rfl AC;have:=aU (λp1=>rec [.slice 1 p1 (acc.length+1),.nat (p+wv s p)]);refine(congrArg (Ok _) this).mpr ?_;refine aL (s.length-(p+(dec s p).2)) _ _ AC ⟨p+(dec s p).2,q,1,acc++[(dec s p).1],by simp[wv],.inl rfl,hle,AC,by simp;omega,by rw[hr,Zxj aw];simp,by simpa using dj⟩
 .have e:Nat.blt p s.length=false:=by rw[Bool.eq_false_iff];simp_all
  rw[e,af];rw[BC AC,WE,gM]at hr;rw[Zp,hr];exact .mk ⟨a,_,rfl,Zq ho.1,ho.sl.dU _⟩
def cmpL:al->al->Int
 |[],[]=>0
 |[],_::_=> -1
 |_::_,[]=>1
 |a::l,b::m=>if a<b then-1 else if b<a then 1 else cmpL l m
theorem Zq4 (l m:al) (i:Nat) (hl:i<l.length) (hm:i<m.length):cmpL (l.drop i) (m.drop i)=if l[i]<m[i]then-1 else if m[i]<l[i]then 1 else cmpL (l.drop (i+1)) (m.drop (i+1)):=by
 rw[jd hl,jd hm];rfl
theorem Zmz (n:Nat) (x:Int) (st:St):run Bd (n+1) 72 [.int .i32 x] st=some (.val [.bool false],st):=by
 rw[Ze,h.e72];unfold Ru Lb
 try dsimp only
 simp[av,aq,zZ,bw,Zd]
theorem Zqs (n:Nat) (x y:Nat) (st:St):run Bd (n+2) 64 [.int .i32 x,.int .i32 y] st=some (.val [.i (if x<y then-1 else if y<x then 1 else 0)],st):=by
 rw[Ze,h.e64];unfold Rc bu DM Li;simp only[av,aq];rw[Zk (Zmz n _ st),au,aq,Zk (Zmz n _ st)];simp only[au,aq,af];by_cases h1:x<y
 .rw[bG h1,aX,Zd]
 .rw[bq h1,aZ]
  by_cases h2:y<x
  .rw[bG h2,aX,Zd]
  .rw[bq h2,aZ,Zd]
theorem ZnB (n:Nat) (l m:al) (a b:ai) (st:St) (ha:Sl st a (l.map Bk)) (hb:Sl st b (m.map Bk)) (hn:l.length+4<=n) (hl:l.length<1000000):
  Ok (λo=>o=(.val [.i (cmpL l m)],st)) (run Bd n 57 [.slice 1 a l.length,.slice 1 b m.length] st):=by
 obtain⟨n,rfl⟩: ∃k,n=k+3:=⟨n-3,AC⟩;rw[Ze,h.e57];unfold QW bZ Q_ cN N_ cA Li;simp only[aV,aq];rw[Za];refine Zj _ (λk x s2=>∃i:Nat,x=[.i i]/\i<=l.length/\i<=m.length/\l.length-i<=k/\s2=st/\cmpL l m=cmpL (l.drop i) (m.drop i))
  ?_ l.length (n+2) _ _ Fd AC
 rintro k _ s2 ⟨i,rfl,hi,Ku,hk,rfl,hc⟩ rec aL;simp only[av,aq];by_cases aw:i<l.length
 .rw[aX]
  obtain⟨j,o,rfl⟩:=ha.cF (by simp;omega);rw[bc,Zb (Zi aw),br,ha.dO (d:=Bk l[i]) (by simp[aw])];unfold Bk;rw[bj];by_cases kX:i<m.length
  .rw[aZ]
   obtain⟨j2,o2,rfl⟩:=hb.cF (by simp;omega);rw[bc,Zb (Zi kX),hb.dO (d:=Bk m[i]) (by simp[kX])];unfold Bk;rw[bj,Zk (Zqs n l[i] m[i] s2),av,aq];rw[Zq4 l m i aw kX]at hc;by_cases h1:l[i]<m[i]
   .rw[bG h1]at hc⊢
    exact .mk (by rw[hc])
   .rw[bq h1]at hc⊢
    by_cases h2:m[i]<l[i]
    .rw[bG h2]at hc⊢
     exact .mk (by rw[hc])
    .rw[bq h2]at hc⊢
     have e:(!((0:Int)==0))=false:=rfl;rw[e,af,Zc];exact aL (k-1) _ _ AC ⟨i+1,rfl,AC,AC,AC,rfl,hc⟩
  .rw[aX,Zd]
   rw[jd aw,BC (by omega:m.length<=i)]at hc;exact .mk (by rw[hc];rfl)
 .rw[aZ]
  rw[BC (by omega:l.length<=i)]at hc;by_cases h2:l.length<m.length
  .rw[aX,Zd]
   rw[jd (AC:i<m.length)]at hc;exact .mk (by rw[hc];rfl)
  .rw[aZ,Zd]
   rw[BC (by omega:m.length<=i)]at hc;exact .mk (by rw[hc];rfl)
theorem ZpT (n:Nat) (a b:aj) (hn:a.length+8<=n) (xk:b.length+8<=n) (ha:a.length<100000) (hb:b.length<100000) (st:St):
  Ok (λo=>∃s',o=(.val [.i (cmpL (dM a) (dM b))],s')/\aA st s') (run Bd n 39 [.str a,.str b] st):=by
 obtain _|n:=n;omega;rw[Ze,h.e39];unfold Sq jU il cA Ls wP Li;simp only[bT,aq];refine Ok.call (Zl6 n a AC AC st) ?_;rintro _ ⟨p,s1,rfl,aD,eY⟩;refine⟨_,s1,rfl,?_⟩;rw[aV,aq];refine Ok.call (Zl6 n b AC AC s1) ?_;rintro _ ⟨q,s2,rfl,aU,lO⟩;refine⟨_,s2,rfl,?_⟩;rw[aV,aq];have hr:=NU a;refine Ok.call (ZnB n (dM a) (dM b) p q s2 (eY.mono aU) lO AC AC) ?_;rintro _ rfl;refine⟨_,s2,rfl,?_⟩;rw[av,aq,Zd];exact .mk ⟨s2,rfl,aD.trans aU⟩
theorem ZiJ (n:Nat) (a b:aj) (hn:a.length+8<=n) (xk:b.length+8<=n) (ha:a.length<100000) (hb:b.length<100000) (st:St):
  Ok (λo=>∃s',o=(.val [.i (cmpL (dM a) (dM b))],s')/\aA st s') (run Bd n 40 [.str a,.str b] st):=by
 obtain _|n:=n;omega;rw[Ze,h.e40];unfold Ry jU il Q_ cN az Zn Ls Li Lb;simp only[bT,aq];refine Ok.call (RO n a AC AC st) ?_;rintro _ ⟨p,s1,rfl,aD,eY⟩;refine⟨_,s1,rfl,?_⟩;rw[aV,aq];refine Ok.call (RO n b AC AC s1) ?_;rintro _ ⟨q,s2,rfl,aU,lO⟩;refine⟨_,s2,rfl,?_⟩;have eY:=eY.mono aU;have ke:=NU a;rw[aV,aq];generalize hl:dM a=l at*
 generalize hm:dM b=m at*
 rw[Za];refine Zj _ (λk x s3=>∃i:Nat,x=[.i i]/\i<=l.length/\i<=m.length/\l.length-i<=k/\s3=s2/\cmpL l m=cmpL (l.drop i) (m.drop i))
  ?_ l.length n _ _ Fd AC
 rintro k _ s3 ⟨i,rfl,hi,Ku,hk,rfl,hc⟩ rec aL;simp only[av,aq,Np,au];by_cases aw:i<l.length
 .by_cases kX:i<m.length
  .rw[show(bif decide ((i:Int)<(l.length:Int))then decide ((i:Int)<(m.length:Int))else false)=true by rw[H6,aY,z8,z8];omega,ae]
   obtain⟨j,o,rfl⟩:=eY.cF (by simp;omega);obtain⟨j2,o2,rfl⟩:=lO.cF (by simp;omega);have g1: ∀K:DV->M ah,bD j (i*1+o) K s3=K (.i (l[i]:Int)) s3:=λK=>eY.dO (d:=ic l[i]) (by simp[aw]) K
   have g2: ∀K:DV->M ah,bD j2 (i*1+o2) K s3=K (.i (m[i]:Int)) s3:=λK=>lO.dO (d:=ic m[i]) (by simp[kX]) K
   simp only[bc,Zb (Zi aw),Zb (Zi kX),br];rw[g1,bj,g2,bj];rw[Zq4 l m i aw kX]at hc;by_cases h1:l[i]<m[i]
   .rw[bG h1]at hc
    rw[aX,Zd];exact .mk ⟨s3,by rw[hc],aD.trans aU⟩
   .rw[bq h1]at hc
    rw[aZ,g1,bj,g2,bj];by_cases h2:m[i]<l[i]
    .rw[bG h2]at hc
     rw[aX,Zd];exact .mk ⟨s3,by rw[hc],aD.trans aU⟩
    .rw[bq h2]at hc
     rw[aZ,Zc];exact aL (k-1) _ _ AC ⟨i+1,rfl,AC,AC,AC,rfl,hc⟩
  .rw[show(bif decide ((i:Int)<(l.length:Int))then decide ((i:Int)<(m.length:Int))else false)=false by rw[H6,Bool.and_eq_false_iff,xV,xV];omega,af]
   rw[jd aw,BC (by omega:m.length<=i)]at hc;rw[aZ,aX,Zd];exact .mk ⟨s3,by rw[hc];rfl,aD.trans aU⟩
 .rw[show(bif decide ((i:Int)<(l.length:Int))then decide ((i:Int)<(m.length:Int))else false)=false by rw[H6,Bool.and_eq_false_iff,xV,xV];omega,af]
  rw[BC (by omega:l.length<=i)]at hc;by_cases h2:l.length<m.length
  .rw[aX,Zd]
   rw[jd (AC:i<m.length)]at hc;exact .mk ⟨s3,by rw[hc];rfl,aD.trans aU⟩
  .rw[aZ,aZ,Zd]
   rw[BC (by omega:m.length<=i)]at hc;exact .mk ⟨s3,by rw[hc];rfl,aD.trans aU⟩
end Go.Gv.F
