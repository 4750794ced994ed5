/- Lines and words. -/
import Derived.Test.YtegglibipjjblaaGreatDoorGvBMn
import Derived.Test.YtegglibipjjblaaGreatDoorGvZLib
import Derived.Test.YtegglibipjjblaaGreatDoorGvZLaw
set_option linter.all false
namespace Go.Gv.F
variable {i k n o p:Nat} {s' st:St} {Y:Type} {cs:ah} {s:aj}
theorem Zi (h:i<n:=by omega):aO (i:Int) n=true:=by unfold aO;simp;omega
theorem Zb {x:Int} (h1: -9223372036854775808<=x:=by omega) (h2:x<9223372036854775808:=by omega):aq x=x:=by
 unfold aq;exact IntWalk.i64_in _ AC
variable {Bd:Zg} [h:HA Bd]
theorem RD (n:Nat) (s:aj) (k lo hi:Nat) (qG:0<lo) (st:St):
  run Bd (n+1) 19 [.str s,.i k,.u lo,.u hi] st=some (.val [.bool (decide (lo<=oc s k/\oc s k<=hi))],st):=by
 rw[Ze,h.e19];unfold Rv Zq3 az Lb;simp only[bZ,au,ao,Za,ar,IS];by_cases hk:k<s.length
 .have e:decide ((k:Int)<(s.length:Int))=true:=by simpa using hk
  simp only[e,ae,Zc (Zi hk)];by_cases h1:lo<=oc s k
  .have e1:decide ((oc s k:Int)>=(lo:Int))=true:=by simpa using h1
   simp only[e1,ae,Zd];congr 5;simp[h1]
  .have e1:decide ((oc s k:Int)>=(lo:Int))=false:=by simpa using h1
   simp only[e1,af,Zd];simp[h1]
 .have e:decide ((k:Int)<(s.length:Int))=false:=by simpa using hk
  simp only[e,af,Zd];rw[Oc AC];have: ¬lo<=0:=AC
  simp[this]
theorem ZzX (s:aj):ZX s 0=(oc s 0:Int):=IS s 0
theorem ZAO (s:aj):ZX s 1=(oc s 1:Int):=IS s 1
theorem ZAy (s:aj):ZX s 2=(oc s 2:Int):=IS s 2
theorem ZAi (s:aj):ZX s 3=(oc s 3:Int):=IS s 3
theorem UH (h:0<oc s k:=by omega):k<s.length:=by
 rcases jw k s.length with h'|h'
 .exact h'
 .rw[Oc h']at h;omega
theorem Zzs (h:1<n):aO 1 n=true:=Zi h
theorem ZyT (h:0<n):aO 0 n=true:=Zi h
theorem Zzu (h:2<n):aO 2 n=true:=Zi h
theorem Zzw (h:3<n):aO 3 n=true:=Zi h
theorem XO (a b c:Nat) (r2:224<=a/\a<=239) (h1:128<=b) (h2:b<=191) (h3:128<=c) (h4:c<=191) (st:St):
  (some (Out.val [DV.int .i64 (aq ((aq ((aq ((aq (IntKind.wrap .u8 ((a:Int)-224)))*4096))+(aq ((aq (IntKind.wrap .u8 ((b:Int)-128)))*64))))+(aq (IntKind.wrap .u8 ((c:Int)-128))))),.i 3],st):Option (Out ah×St))=
   some (.val [.i (((a-224)*4096+(b-128)*64+(c-128):Nat):Int),.i ((3:Nat):Int)],st):=by
 rw[IntWalk.u8_in _ AC,IntWalk.u8_in _ AC,IntWalk.u8_in _ AC,Zb (x:=(a:Int)-224),Zb (x:=(b:Int)-128),Zb (x:=(c:Int)-128),
  Zb (x:=((a:Int)-224)*4096),Zb (x:=((b:Int)-128)*64),Zb (x:=((a:Int)-224)*4096+((b:Int)-128)*64),Zb]
 have e:((a:Int)-224)*4096+((b:Int)-128)*64+((c:Int)-128)=(((a-224)*4096+(b-128)*64+(c-128):Nat):Int):=AC
 rw[e];rfl
theorem XP (a b c d:Nat) (r3:240<=a/\a<=244) (h1:128<=b) (h2:b<=191) (h3:128<=c) (h4:c<=191) (h5:128<=d) (h6:d<=191) (st:St):
  (some (Out.val [DV.int .i64 (aq ((aq ((aq ((aq ((aq (IntKind.wrap .u8 ((a:Int)-240)))*262144))+(aq ((aq (IntKind.wrap .u8 ((b:Int)-128)))*4096))))+(aq ((aq (IntKind.wrap .u8 ((c:Int)-128)))*64))))+(aq (IntKind.wrap .u8 ((d:Int)-128))))),.i 4],st):Option (Out ah×St))=
   some (.val [.i (((a-240)*262144+(b-128)*4096+(c-128)*64+(d-128):Nat):Int),.i ((4:Nat):Int)],st):=by
 rw[IntWalk.u8_in _ AC,IntWalk.u8_in _ AC,IntWalk.u8_in _ AC,IntWalk.u8_in _ AC,Zb (x:=(a:Int)-240),Zb (x:=(b:Int)-128),Zb (x:=(c:Int)-128),Zb (x:=(d:Int)-128),
  Zb (x:=((a:Int)-240)*262144),Zb (x:=((b:Int)-128)*4096),Zb (x:=((c:Int)-128)*64),Zb (x:=((a:Int)-240)*262144+((b:Int)-128)*4096),Zb (x:=((a:Int)-240)*262144+((b:Int)-128)*4096+((c:Int)-128)*64),Zb]
 have e:((a:Int)-240)*262144+((b:Int)-128)*4096+((c:Int)-128)*64+((d:Int)-128)=(((a-240)*262144+(b-128)*4096+(c-128)*64+(d-128):Nat):Int):=AC
 rw[e];rfl
theorem ZqR (n:Nat) (s:aj) (hs:0<s.length) (st:St):
  run Bd (n+2) 15 [.str s] st=some (.val [.i ((dec s 0).1:Int),.i ((dec s 0).2:Int)],st):=by
 have h0:=Qd s 0;have h1:=Qd s 1;have h2:=Qd s 2;have h3:=Qd s 3;have f1: ∀lo hi:Nat,0<lo->run Bd (n+1) 19 [.str s,.i 1,.u lo,.u hi] st=some (.val [.bool (decide (lo<=oc s 1/\oc s 1<=hi))],st):=λlo hi qG=>RD n s 1 lo hi qG st
 have f2:run Bd (n+1) 19 [.str s,.i 2,.u 128,.u 191] st=some (.val [.bool (decide (128<=oc s 2/\oc s 2<=191))],st):=RD n s 2 128 191 AC st;have f3:run Bd (n+1) 19 [.str s,.i 3,.u 128,.u 191] st=some (.val [.bool (decide (128<=oc s 3/\oc s 3<=191))],st):=RD n s 3 128 191 AC st;have g1:run Bd (n+1) 19 [.str s,.i 1,.u 128,.u 191] st=_:=f1 128 191 AC;have g2:run Bd (n+1) 19 [.str s,.i 1,.u 160,.u 191] st=_:=f1 160 191 AC;have g3:run Bd (n+1) 19 [.str s,.i 1,.u 128,.u 159] st=_:=f1 128 159 AC;have g4:run Bd (n+1) 19 [.str s,.i 1,.u 144,.u 191] st=_:=f1 144 191 AC;have g5:run Bd (n+1) 19 [.str s,.i 1,.u 128,.u 143] st=_:=f1 128 143 AC;rw[Ze,h.e15];unfold SN mF az Q_ Ib bF gG DU Lb lA;simp only[bZ,ao,Zc (ZyT hs),ZzX,ZAO,ZAy,ZAi,Bool.cond_decide];rw[Cf];simp only[fq];generalize oc s 0=a at*
 generalize hb:oc s 1=b at*
 generalize hc:oc s 2=c at*
 generalize hd:oc s 3=d at*
 have l1:0<b->aO 1 s.length=true:=λh=>Zzs (UH)
 have l2:0<c->aO 2 s.length=true:=λh=>Zzu (UH)
 have l3:0<d->aO 3 s.length=true:=λh=>Zzw (UH)
 by_cases c0:a<128
 .rw[bx AC,bx c0,Zb];rfl
 rw[aY AC,aY c0];by_cases r1:194<=a/\a<=223
 .have e1:(a:Int)>=194:=AC
  have e2:(a:Int)<=223:=AC
  have e3: ¬(a:Int)>=224:=AC
  have e4: ¬(a:Int)>=240:=AC
  simp only[Za,ar,ao,bx e1,aQ e2,ae,Zk g1];by_cases k:128<=b/\b<=191
  .simp only[aQ k,ae,Zc (l1 AC),Zd]
   rw[bx ⟨r1,k⟩,IntWalk.u8_in _ AC,IntWalk.u8_in _ AC,Zb (x:=(a:Int)-192),Zb (x:=(b:Int)-128),Zb (x:=((a:Int)-192)*64),Zb];have:(a:Int)-192=((a-192:Nat):Int):=AC
   have:(b:Int)-128=((b-128:Nat):Int):=AC
   simp[*]
  .simp only[bP k,af,aY e3,aY e4,ar,ao,Zd]
   rw[aY (by rintro⟨_,h⟩;exact k h),aY AC,aY AC];rfl
 by_cases r2:224<=a/\a<=239
 .have e1:(a:Int)>=194:=AC
  have e2: ¬(a:Int)<=223:=AC
  have e3:(a:Int)>=224:=AC
  have e4:(a:Int)<=239:=AC
  by_cases y1:a=224
  .subst y1
   have x1:(((224:Nat):Int)==224)=true:=rfl;have x2:(((224:Nat):Int)==237)=false:=rfl;simp only[Za,ar,au,ao,bx e1,bP e2,af,bx e3,aQ e4,ae,x1,x2,Zk g2,Zd];by_cases k:160<=b/\b<=191
   .by_cases k2:128<=c/\c<=191
    .simp only[aQ k,aQ k2,ae,Zk f2,ar,ao,Zc (l1 AC),Zc (l2 AC),Zd]
     rw[aY AC,bx ⟨r2,by simpa using k,k2⟩];exact XO 224 b c r2 AC AC AC AC st
    .simp only[aQ k,bP k2,ae,af,Zk f2,ar,ao,Zd]
     rw[aY AC,aY (by rintro⟨_,_,h⟩;exact k2 h),aY AC];rfl
   .simp only[bP k,af,ar,ao,Zd]
    rw[aY AC,aY (by rintro⟨_,h,_⟩;exact k (by simpa using h)),aY AC];rfl
  .by_cases y2:a=237
   .subst y2
    have x1:(((237:Nat):Int)==224)=false:=rfl;have x2:(((237:Nat):Int)==237)=true:=rfl;simp only[Za,ar,au,ao,bx e1,bP e2,af,bx e3,aQ e4,ae,x1,x2,Zk g3,Zd];by_cases k:128<=b/\b<=159
    .by_cases k2:128<=c/\c<=191
     .simp only[aQ k,aQ k2,ae,Zk f2,ar,ao,Zc (l1 AC),Zc (l2 AC),Zd]
      rw[aY AC,bx ⟨r2,by simpa using k,k2⟩];exact XO 237 b c r2 AC AC AC AC st
     .simp only[aQ k,bP k2,ae,af,Zk f2,ar,ao,Zd]
      rw[aY AC,aY (by rintro⟨_,_,h⟩;exact k2 h),aY AC];rfl
    .simp only[bP k,af,ar,ao,Zd]
     rw[aY AC,aY (by rintro⟨_,h,_⟩;exact k (by simpa using h)),aY AC];rfl
   .have x1:((a:Int)==224)=false:=by rw[dM];omega
    have x2:((a:Int)==237)=false:=by rw[dM];omega
    simp only[Za,ar,au,ao,bx e1,bP e2,af,bx e3,aQ e4,ae,x1,x2,Zk g1,Zd,aY y1,aY y2];by_cases k:128<=b/\b<=191
    .by_cases k2:128<=c/\c<=191
     .simp only[aQ k,aQ k2,ae,Zk f2,ar,ao,Zc (l1 AC),Zc (l2 AC),Zd]
      rw[aY AC,bx ⟨r2,k,k2⟩];exact XO a b c r2 AC AC AC AC st
     .simp only[aQ k,bP k2,ae,af,Zk f2,ar,ao,Zd]
      rw[aY AC,aY (by rintro⟨_,_,h⟩;exact k2 h),aY AC];rfl
    .simp only[bP k,af,ar,ao,Zd]
     rw[aY AC,aY (by rintro⟨_,h,_⟩;exact k h),aY AC];rfl
 by_cases r3:240<=a/\a<=244
 .have e1:(a:Int)>=194:=AC
  have e2: ¬(a:Int)<=223:=AC
  have e3:(a:Int)>=224:=AC
  have e4: ¬(a:Int)<=239:=AC
  have e5:(a:Int)>=240:=AC
  have e6:(a:Int)<=244:=AC
  by_cases y1:a=240
  .subst y1
   have x1:(((240:Nat):Int)==240)=true:=rfl;have x2:(((240:Nat):Int)==244)=false:=rfl;simp only[Za,ar,au,ao,bx e1,bP e2,af,bx e3,bP e4,bx e5,aQ e6,ae,x1,x2,Zk g4,Zd];by_cases k:144<=b/\b<=191
   .by_cases k2:128<=c/\c<=191
    .by_cases k3:128<=d/\d<=191
     .simp only[aQ k,aQ k2,aQ k3,ae,Zk f2,Zk f3,ar,ao,Zc (l1 AC),Zc (l2 AC),Zc (l3 AC),Zd]
      rw[aY AC,aY AC,bx ⟨r3,by simpa using k,k2,k3⟩];exact XP 240 b c d r3 AC AC AC AC AC AC st
     .simp only[aQ k,aQ k2,bP k3,ae,af,Zk f2,Zk f3,ar,ao,Zd]
      rw[aY AC,aY AC,aY (by rintro⟨_,_,_,h⟩;exact k3 h)];rfl
    .simp only[aQ k,bP k2,ae,af,Zk f2,ar,ao,Zd]
     rw[aY AC,aY AC,aY (by rintro⟨_,_,h,_⟩;exact k2 h)];rfl
   .simp only[bP k,af,ar,ao,Zd]
    rw[aY AC,aY AC,aY (by rintro⟨_,h,_⟩;exact k (by simpa using h))];rfl
  .by_cases y2:a=244
   .subst y2
    have x1:(((244:Nat):Int)==240)=false:=rfl;have x2:(((244:Nat):Int)==244)=true:=rfl;simp only[Za,ar,au,ao,bx e1,bP e2,af,bx e3,bP e4,bx e5,aQ e6,ae,x1,x2,Zk g5,Zd];by_cases k:128<=b/\b<=143
    .by_cases k2:128<=c/\c<=191
     .by_cases k3:128<=d/\d<=191
      .simp only[aQ k,aQ k2,aQ k3,ae,Zk f2,Zk f3,ar,ao,Zc (l1 AC),Zc (l2 AC),Zc (l3 AC),Zd]
       rw[aY AC,aY AC,bx ⟨r3,by simpa using k,k2,k3⟩];exact XP 244 b c d r3 AC AC AC AC AC AC st
      .simp only[aQ k,aQ k2,bP k3,ae,af,Zk f2,Zk f3,ar,ao,Zd]
       rw[aY AC,aY AC,aY (by rintro⟨_,_,_,h⟩;exact k3 h)];rfl
     .simp only[aQ k,bP k2,ae,af,Zk f2,ar,ao,Zd]
      rw[aY AC,aY AC,aY (by rintro⟨_,_,h,_⟩;exact k2 h)];rfl
    .simp only[bP k,af,ar,ao,Zd]
     rw[aY AC,aY AC,aY (by rintro⟨_,h,_⟩;exact k (by simpa using h))];rfl
   .have x1:((a:Int)==240)=false:=by rw[dM];omega
    have x2:((a:Int)==244)=false:=by rw[dM];omega
    simp only[Za,ar,au,ao,bx e1,bP e2,af,bx e3,bP e4,bx e5,aQ e6,ae,x1,x2,Zk g1,Zd,aY y1,aY y2];by_cases k:128<=b/\b<=191
    .by_cases k2:128<=c/\c<=191
     .by_cases k3:128<=d/\d<=191
      .simp only[aQ k,aQ k2,aQ k3,ae,Zk f2,Zk f3,ar,ao,Zc (l1 AC),Zc (l2 AC),Zc (l3 AC),Zd]
       rw[aY AC,aY AC,bx ⟨r3,k,k2,k3⟩];exact XP a b c d r3 AC AC AC AC AC AC st
      .simp only[aQ k,aQ k2,bP k3,ae,af,Zk f2,Zk f3,ar,ao,Zd]
       rw[aY AC,aY AC,aY (by rintro⟨_,_,_,h⟩;exact k3 h)];rfl
     .simp only[aQ k,bP k2,ae,af,Zk f2,ar,ao,Zd]
      rw[aY AC,aY AC,aY (by rintro⟨_,_,h,_⟩;exact k2 h)];rfl
    .simp only[bP k,af,ar,ao,Zd]
     rw[aY AC,aY AC,aY (by rintro⟨_,h,_⟩;exact k (h))];rfl
 .have e1:(a:Int)>=194\/¬(a:Int)>=194:=Classical.em _
  have e2: ¬(a:Int)<=223\/¬(a:Int)>=194:=AC
  have e4: ¬(a:Int)<=239\/¬(a:Int)>=224:=AC
  have e6: ¬(a:Int)<=244\/¬(a:Int)>=240:=AC
  rw[aY AC,aY AC,aY AC];simp only[Za,ar,ao];rcases e2 with e|e<;>rcases e4 with f|f<;>rcases e6 with g|g<;>(simp only[e,f,g,decide_false,ot,af,ite_self,Zd];rfl)
def ic (r:Nat):DV:= .i (r:Int)
theorem Sc (n:Nat) (s:aj) (hn:s.length+4<=n) (hs:s.length<1000000) (st:St):
  Ok (λo=>∃a s',o=(.val [.slice 1 a (dK s).length],s')/\aB st s'/\Sl s' a ((dK s).map ic)) (run Bd n 12 [.str s] st):=by
 obtain⟨n,rfl⟩: ∃m,n=m+3:=⟨n-3,AC⟩;rw[Ze,h.XM];unfold SO mF gj ck jx bj Ls Li;simp only[bZ,ao,Z8,Za];refine Zj _ (λk x s1=>∃(t:aj) (a:ai) (z:Nat) (acc:al),x=[.str t,.slice z a acc.length]/\(z=1\/a=none)/\t.length<=k/\acc.length+t.length<=s.length/\dK s=acc++dK t/\bc st s1 a (acc.map ic))
  ?_ s.length (n+2) _ _ ⟨s,none,0,[],rfl,.inr rfl,aJ _,Do,rfl,bc.nil (.refl st)⟩ AC
 rintro k _ s1 ⟨t,a,z,acc,rfl,hz,hk,hl,hr,ho⟩ rec aN;simp only[bZ,Zh 1 z a _ hz,ao,Bool.cond_decide,aZ];by_cases ht:(t.length:Int)>0
 .rw[bx ht]
  have xR:0<t.length:=AC
  have hw:=Gy t 0;have hle:=Xe t 0 xR;rw[Zk (ZqR n t xR s1)];simp only[au,ao];obtain⟨p,s2,du,hp⟩:=ho.push (Y:=ah) (sz:=1) (n:=acc.length) (lim:=8796093022208) [ic (dec t 0).1] (yh 0) Do rfl AC;have:=hp (λp=>aA (decide (0<=((dec t 0).2:Int))&&decide (((dec t 0).2:Int)<=(t.length:Int))) (rec [.str (t.drop ((dec t 0).2:Int).toNat),.slice 1 p (acc.length+1)]));refine(congrArg (Ok _) this).mpr ?_;rw[Zc (by simp;omega)];refine aN (t.length-1) _ _ AC ⟨t.drop (dec t 0).2,p,1,acc++[(dec t 0).1],Do,.inl rfl,by simp;omega,by simp;omega,by rw[hr,NF xR];simp,by simpa using du⟩
 .rw[aY ht]
  have xR:t=[]:=BD AC;subst xR;rw[WG,fP]at hr;rw[Zs,hr];exact .mk ⟨a,_,rfl,Zx ho.1,ho.sl.gk _⟩
def ZA9 (r:Nat):Bool:=(decide (r<32)&& !(r==9))||r==127||r==65533
def flush (w:aj):List (aj):=if w=[]then[]else[w]
def Ot:aj->aj->List (aj)
 |[],w=>flush w
 |c::r,w=>if c=35 then flush w else if c=32\/c=9 then flush w++Ot r []else Ot r (w++[c])
def Zvi (line:aj):Int×List (aj):=
 if (dK line).any ZA9 then(41,[])else if (Ot line []).length>40 then(40,[])else(0,Ot line [])
def ZBk (w:aj):Prop:=Zvi w=(0,[w])
instance (w:aj):Decidable (ZBk w):=inferInstanceAs (Decidable (Zvi w=(0,[w])))
theorem BW (F:(ah->M Y)->ah->M Y) (m:Nat) (st:ah):dc F (m+1) st=F (dc F m) st:=rfl
theorem bN (h:cs.length=n) (K:M Y):bC cs n K=K:=by
 simp_all[bC]
def xY (r:Int):Bool:=(decide (r>=97)&&decide (r<=122))||((decide (r>=65)&&decide (r<=90))||((decide (r>=48)&&decide (r<=57))||(r==45||(r==95||(decide (r>=161)&&decide (r<=65519))))))
theorem ZuX (n:Nat) (r:Int) (st:St):run Bd (n+1) 29 [.i r] st=some (.val [.bool (xY r)],st):=by
 rw[Ze,h.e29];unfold Uv cT az Lb xY;simp only[au,ao,Ng,ar,Zd,Bool.cond_true_left,HW,Bool.or_assoc]
def AA:ah:=[.int .i32 97,.int .i32 122,.int .i32 65,.int .i32 90,.int .i32 48,.int .i32 57,.int .i32 45,.int .i32 45,.int .i32 95,.int .i32 95,.int .i32 161,.int .i32 65519]
theorem Zr7 (n:Nat) (st:St):run Bd (n+1) 54 [] st=some (.val [.agg AA],st):=by
 rw[Ze,h.e54];rfl
theorem ZwG (n:Nat) (r:Int) (st:St):run Bd (n+8) 28 [.int .i32 r] st=some (.val [.bool (xY r)],st):=by
 rw[Ze,h.e28];unfold Vm Q_ dj az Lb Li
 try dsimp only
 rw[au,ao,Zk (Zr7 (n+6) st),cX,ao,bN FS];have step: ∀(rec:ah->M ah) (i:Nat) (lo hi:Int),i<6->(AA.drop (i*2)).take 2=[.int .i32 lo,.int .i32 hi]->
   (λ(x:Int)=>aA (aO x 6) (bC ((AA.drop (x.toNat*2)).take 2) 2 (eW ((AA.drop (x.toNat*2)).take 2) 0 λd=>db .i32 d λx1=>
    cO (λst=>gT st λb1 st=>aF st<|bif b1 then aw [.bool true]else rec [.i (aq (x+1))]) λaG=>
    bif decide (r>=x1)then eW ((AA.drop (x.toNat*2)).take 2) 1 λd1=>db .i32 d1 λx2=>aG [.bool (decide (r<=x2))]else aG [.bool false]))) (i:Int)=
   bif (decide (r>=lo)&&decide (r<=hi))then aw [.bool true]else rec [.i ((i+1:Nat):Int)]:=by
  intro rec i lo hi hi6 hd;simp only[bn,hd,Zc (Zi hi6),bN FS,Zb (x:=(i:Int)+1)];unfold eW;simp only[ly,rO,bg,Ng,ar,ao,HW];rfl
 have fin: ∀(l:List (Int×Int)) (i m:Nat),i+l.length=6->(∀(k:Nat) p,l[k]? =some p->(AA.drop ((i+k)*2)).take 2=[.int .i32 p.1,.int .i32 p.2])->l.length<m->
   dc (λ(aV:ah->M ah) st=>aC .i64 st λx st=>aF st<|bif decide (x<6)then aA (aO x 6) (bC ((AA.drop (x.toNat*2)).take 2) 2 (eW ((AA.drop (x.toNat*2)).take 2) 0 λd=>db .i32 d λx1=>
    cO (λst=>gT st λb1 st=>aF st<|bif b1 then aw [.bool true]else aV [.i (aq (x+1))]) λaG=>
    bif decide (r>=x1)then eW ((AA.drop (x.toNat*2)).take 2) 1 λd1=>db .i32 d1 λx2=>aG [.bool (decide (r<=x2))]else aG [.bool false]))else(aF []<|aw [.bool false])) m [.i (i:Int)] st
   =some (.val [.bool (l.any λp=>decide (r>=p.1)&&decide (r<=p.2))],st):=by
  intro l;induction l with
  |nil=>
   intro i m hi _ hm;obtain⟨m,rfl⟩: ∃k,m=k+1:=by simp_all
   simp only[Aa,fE]at hi;subst hi;rw[BW];rfl
  |cons p l ih=>
   intro i m hi hp hm;simp only[cQ]at hi hm;obtain⟨m,rfl⟩: ∃k,m=k+1:=⟨m-1,AC⟩;rw[BW,au,ao,aR];refine(congrFun (step _ i p.1 p.2 AC (by have:=hp 0 p rfl;simpa using this)) st).trans ?_;rw[List.any_cons];cases hb:(decide (r>=p.1)&&decide (r<=p.2))
   .rw[af,wX];exact ih (i+1) m AC (λk q hq=>by have:=hp (k+1) q (by simpa using hq);rwa [show i+(k+1)=i+1+k by omega]at this) AC
   .rfl
 have e:xY r=[((97:Int),(122:Int)),(65,90),(48,57),(45,45),(95,95),(161,65519)].any λp=>decide (r>=p.1)&&decide (r<=p.2):=by
  grind[xY]
 rw[e,Za];refine fin _ 0 (n+7) rfl (λk p hp=>?_) Do
 match k,hp with
 |0,hp=>cases hp;rfl
 |1,hp=>cases hp;rfl
 |2,hp=>cases hp;rfl
 |3,hp=>cases hp;rfl
 |4,hp=>cases hp;rfl
 |5,hp=>cases hp;rfl
 |k+6,hp=>simp at hp
def pH (s:aj):Bool:=decide (0<(dK s).length)&&(decide ((dK s).length<=8)&&(dK s).all λr=>xY r)
theorem ZkE (n:Nat) (s:aj) (hn:s.length+6<=n) (hs:s.length<100000) (st:St):
  Ok (λo=>∃s',o=(.val [.bool (pH s)],s')/\aB st s') (run Bd n 27 [.str s] st):=by
 obtain⟨n,rfl⟩: ∃m,n=m+3:=⟨n-3,AC⟩;rw[Ze,h.e27];unfold Ss mF jL az cT Zo bF Ls Lb FO Li
 try dsimp only
 rw[bZ,ao];refine Ok.call (Sc (n+2) s AC AC st) ?_;rintro _ ⟨a,s1,rfl,aH,dR⟩;refine⟨_,s1,rfl,?_⟩;have C5:=N3 s;simp only[aZ,ao,Ng,ar];rw[Za];have e0:(bif decide (((dK s).length:Int)>0)then decide (((dK s).length:Int)<=8)else false)=(decide (0<(dK s).length)&&decide ((dK s).length<=8)):=by
  rw[HW];grind
 rw[e0];refine Zj _ (λk x s2=>∃(i:Nat) (b:Bool),x=[.bool b,.i i]/\i<=(dK s).length/\(dK s).length-i<=k/\s2=s1/\(b&&((dK s).drop i).all λr=>xY r)=pH s)
  ?_ (dK s).length (n+2) _ _ ⟨0,_,rfl,cN _,AC,rfl,by rw[dF];grind[pH]⟩ AC
 rintro k _ s2 ⟨i,b,rfl,hi,hk,rfl,hb⟩ rec aN;simp only[ar,au,ao];by_cases av:i<(dK s).length
 .rw[aR]
  have hr:(dK s)[i]? =some (dK s)[i]:=cc av;rw[iR av,wY]at hb;rw[Za];cases b
  .simp only[af,ar,ao];exact aN (k-1) _ _ AC ⟨i+1,false,by rw[Zb];rfl,AC,AC,rfl,by rw[<-hb];simp⟩
  .obtain⟨j,o,rfl⟩:=dR.cS (by simp;omega);rw[ae,bh,Zc (Zi av),bn,dR.dX (d:=ic (dK s)[i]) (by simp[hr])];unfold ic;rw[bg,Zk (ZuX (n+1) _ s2),ar,ao];exact aN (k-1) _ _ AC ⟨i+1,_,by rw[Zb];rfl,AC,AC,rfl,by rw[<-hb];simp⟩
 .rw[aU,Zd]
  rw[BB AC]at hb;simp only[List.all_nil,BA]at hb;exact .mk ⟨s2,by rw[hb],aH⟩
theorem Zyg (h:p<s.length):dK (s.drop p)=(dec s p).1::dK (s.drop (p+(dec s p).2)):=by
 rw[NF (by simp;omega),ZzI,fE,kd]
theorem Zr2 (n:Nat) (s:aj) (hn:s.length+12<=n) (hs:s.length<100000) (st:St):
  Ok (λo=>o=(.val [.bool (pH s)],st)) (run Bd n 26 [.str s] st):=by
 obtain⟨n,rfl⟩: ∃m,n=m+9:=⟨n-9,AC⟩;rw[Ze,h.e26];unfold S6 mF qg Ms az bF Lb DH Li
 try dsimp only
 rw[bZ,ao,Za];refine Zj _ (λk x s2=>∃(p c:Nat),x=[.i c,.nat p]/\p<=s.length/\s.length-p<=k/\s2=st/\c<=8/\(decide (0<c+(dK (s.drop p)).length)&&(decide (c+(dK (s.drop p)).length<=8)&&(dK (s.drop p)).all λr=>xY r))=pH s)
  ?_ s.length (n+8) _ _ ⟨0,0,rfl,cN _,AC,rfl,AC,by rw[fq,dF];rfl⟩ AC
 rintro k _ s2 ⟨p,c,rfl,hp,hk,rfl,hc,hb⟩ rec aN;rw[au,J_n,ao];by_cases av:p<s.length
 .have hw:=Gy s p
  have hle:=Xe s p av;rw[Zyg av]at hb;simp only[cQ,wY]at hb;have Yj:Nat.blt p s.length=true:=by rw[rR];exact av
  simp only[Yj,ae,Eg,wR,Zb (x:=(c:Int)+1),Za,ar,ao];by_cases h8:c=8
  .subst h8
   rw[bP (AC:¬8+((dK (s.drop (p+(dec s p).2))).length+1)<=8)]at hb;simp only[gF,Bz]at hb;have e:decide (((8:Nat):Int)+1>8)=true:=rfl;rw[e,ae,Zd];exact .mk (by rw[hb])
  .have e:decide ((c:Int)+1>8)=false:=bP AC
   rw[e,af,Zk (ZwG n _ s2),ar,ao];cases ho:xY ((dec s p).1:Int)
   .rw[bD,ae,Zd];rw[ho]at hb;simp only[gF,Bz]at hb;exact .mk (by rw[hb])
   .rw[bI,af];rw[ho]at hb;refine aN (s.length-(p+(dec s p).2)) _ _ AC ⟨p+(dec s p).2,c+1,rfl,hle,AC,rfl,AC,?_⟩;rw[<-hb,show c+1+(dK (s.drop (p+(dec s p).2))).length=c+((dK (s.drop (p+(dec s p).2))).length+1) by omega];simp
 .have e:Nat.blt p s.length=false:=by rw[Bool.eq_false_iff];simp_all
  simp only[e,af,Zd];rw[BB AC,WG]at hb;refine .mk ?_;rw[<-hb];simp_all
def xe (s:St):Prop:=∀(i:Nat) (b:Option bQ),tabs[i]? =some b->s[i]? =some b
theorem xe.mono {s:St} (h:xe s) (k:aB s s'):xe s':=λi b e=>k.get (h i b e)
def afL:aj:=[48,49,50,51,52,53,54,55,56,57,97,98,99,100,101,102,103,104,105,106,107,108,109,110,111,112,113,114,115,116,117,118,119,120,121,122]
def dg (n:Nat):UInt8:=afL.getD n 0
theorem Zym (cs:ah):ov cs []=cs:=by cases cs<;>rfl
theorem B6 (d:DV): ∀(cs:ah) (p:Nat),p<cs.length->cG cs p [d]=cs.set p d
 |[],p,h=>by cases h
 |c::cs,0,_=>by show d::ov cs []=_;rw[Zym];rfl
 |c::cs,p+1,h=>by show c::cG cs p [d]=_;rw[B6 d cs p (by simpa using h)];rfl
theorem ZmL: ∀(l:aj),uV (Z6 l)=some l
 |[]=>rfl
 |b::l=>by
  show(uV (Z6 l)).map (UInt8.ofNat _:: ·)=_;rw[ZmL l];simp
theorem uJ (l:aj) (K:aj->M Y):nr (Z6 l) K=K l:=by unfold nr;rw[ZmL]
theorem Zrm (d:DV) (hp:p<cs.length) (K:M Y):dE st.length p [d] K (st++[some ⟨false,cs⟩])=K (st++[some ⟨false,cs.set p d⟩]):=by
 unfold dE St.iB;simp only[List.getElem?_concat_length,iS,gO (AC:p+1<=cs.length),ae,B6 d cs p hp];rw[List.set_append_right _ _ (aJ _),yg];rfl
theorem Ja (h:o+n<=cs.length) (K:ah->M Y):bV st.length o n K (st++[some ⟨false,cs⟩])=K ((cs.drop o).take n) (st++[some ⟨false,cs⟩]):=
 kq (f:=false) (all:=cs) Do h K
end Go.Gv.F
namespace Go.Gv.F
theorem ZAE {Bd:Zg} {n g:Nat} {args:ah} {s:St} (h:Ok (λo=>∃s',o=(.val [.bool true],s')) (run Bd n g args s)): ∃n s',run Bd n g args s=some (.val [.bool true],s'):=by
 obtain⟨o,e,s',rfl⟩:=h;exact⟨n,s',e⟩
theorem BX {n:Int} (h:IntKind.min .i64<=n/\n<=IntKind.max .i64): -9223372036854775808<=n/\n<=9223372036854775807:=by
 have e1:IntKind.min .i64= -9223372036854775808:=EQ
 simp_all
def Bj (r:Nat):DV:= .int .i32 (r:Int)
variable {Bd:Zg} [h:HA Bd]
theorem ZlC (n:Nat) (s:aj) (hn:s.length+4<=n) (hs:s.length<1000000) (st:St):
  Ok (λo=>∃a s',o=(.val [.slice 1 a (dK s).length],s')/\aB st s'/\Sl s' a ((dK s).map Bj)) (run Bd n 34 [.str s] st):=by
 obtain _|n:=n;omega;rw[Ze,h.e34];unfold Te mF gj Ms bj DH
 try dsimp only
 rw[bZ,ao,Z8,Za];refine Zj _ (λk x s1=>∃(p:Nat) (a:ai) (z:Nat) (acc:al),x=[.slice z a acc.length,.nat p]/\(z=1\/a=none)/\p<=s.length/\s.length-p<=k/\acc.length<=p/\dK s=acc++dK (s.drop p)/\bc st s1 a (acc.map Bj))
  ?_ s.length n _ _ ⟨0,none,0,[],rfl,.inr rfl,cN _,AC,cN _,by rw[dF];rfl,bc.nil (.refl st)⟩ AC
 rintro k _ s1 ⟨p,a,z,acc,rfl,hz,hp,hk,hl,hr,ho⟩ rec aN;simp only[J_n,Zh 1 z a _ hz,ao,aZ];by_cases av:p<s.length
 .have Yj:Nat.blt p s.length=true:=by rw[rR];exact av
  have hw:=Gy s p;have hle:=Xe s p av;rw[Yj,ae];have⟨q,s2,du,bd⟩:=ho.push (Y:=ah) (sz:=1) (n:=acc.length) (lim:=17592186044416) [Bj (dec s p).1] (yh 0) Do rfl AC;have:=bd (λp1=>rec [.slice 1 p1 (acc.length+1),.nat (p+wR s p)]);refine(congrArg (Ok _) this).mpr ?_;refine aN (s.length-(p+(dec s p).2)) _ _ AC ⟨p+(dec s p).2,q,1,acc++[(dec s p).1],by simp[wR],.inl rfl,hle,AC,by simp;omega,by rw[hr,Zyg av];simp,by simpa using du⟩
 .have e:Nat.blt p s.length=false:=by rw[Bool.eq_false_iff];simp_all
  rw[e,af];rw[BB AC,WG,fP]at hr;rw[Zs,hr];exact .mk ⟨a,_,rfl,Zx ho.1,ho.sl.gk _⟩
def cmpL:al->al->Int
 |[],[]=>0
 |[],_::_=> -1
 |_::_,[]=>1
 |a::l,b::m=>if a<b then-1 else if b<a then 1 else cmpL l m
theorem Zrz (l m:al) (i:Nat) (hl:i<l.length) (hm:i<m.length):cmpL (l.drop i) (m.drop i)=if l[i]<m[i]then-1 else if m[i]<l[i]then 1 else cmpL (l.drop (i+1)) (m.drop (i+1)):=by
 rw[iR hl,iR hm];rfl
theorem Zmv (n:Nat) (x:Int) (st:St):run Bd (n+1) 72 [.int .i32 x] st=some (.val [.bool false],st):=by
 rw[Ze,h.e72];unfold RH Lb
 try dsimp only
 simp[au,ao,Ad,bI,Zd]
theorem ZqB (n:Nat) (x y:Nat) (st:St):run Bd (n+2) 64 [.int .i32 x,.int .i32 y] st=some (.val [.i (if x<y then-1 else if y<x then 1 else 0)],st):=by
 rw[Ze,h.e64];unfold Q9 bF DH Li;simp only[au,ao];rw[Zk (Zmv n _ st),ar,ao,Zk (Zmv n _ st)];simp only[ar,ao,af];by_cases h1:x<y
 .rw[bx h1,aR,Zd]
 .rw[aY h1,aU]
  by_cases h2:y<x
  .rw[bx h2,aR,Zd]
  .rw[aY h2,aU,Zd]
theorem Znk (n:Nat) (l m:al) (a b:ai) (st:St) (ha:Sl st a (l.map Bj)) (hb:Sl st b (m.map Bj)) (hn:l.length+4<=n) (hl:l.length<1000000):
  Ok (λo=>o=(.val [.i (cmpL l m)],st)) (run Bd n 57 [.slice 1 a l.length,.slice 1 b m.length] st):=by
 obtain⟨n,rfl⟩: ∃k,n=k+3:=⟨n-3,AC⟩;rw[Ze,h.e57];unfold QY ck Q_ dj N_ cK Li;simp only[aZ,ao];rw[Za];refine Zj _ (λk x s2=>∃i:Nat,x=[.i i]/\i<=l.length/\i<=m.length/\l.length-i<=k/\s2=st/\cmpL l m=cmpL (l.drop i) (m.drop i))
  ?_ l.length (n+2) _ _ Fd AC
 rintro k _ s2 ⟨i,rfl,hi,Ba,hk,rfl,hc⟩ rec aN;simp only[au,ao];by_cases av:i<l.length
 .rw[aR]
  obtain⟨j,o,rfl⟩:=ha.cS (by simp;omega);rw[bh,Zc (Zi av),bn,ha.dX (d:=Bj l[i]) (by simp[av])];unfold Bj;rw[bg];by_cases og:i<m.length
  .rw[aU]
   obtain⟨j2,o2,rfl⟩:=hb.cS (by simp;omega);rw[bh,Zc (Zi og),hb.dX (d:=Bj m[i]) (by simp[og])];unfold Bj;rw[bg,Zk (ZqB n l[i] m[i] s2),au,ao];rw[Zrz l m i av og]at hc;by_cases h1:l[i]<m[i]
   .rw[bx h1]at hc⊢
    exact .mk (by rw[hc])
   .rw[aY h1]at hc⊢
    by_cases h2:m[i]<l[i]
    .rw[bx h2]at hc⊢
     exact .mk (by rw[hc])
    .rw[aY h2]at hc⊢
     have e:(!((0:Int)==0))=false:=rfl;rw[e,af,Zb];exact aN (k-1) _ _ AC ⟨i+1,rfl,AC,AC,AC,rfl,hc⟩
  .rw[aR,Zd]
   rw[iR av,BB (by omega:m.length<=i)]at hc;exact .mk (by rw[hc];rfl)
 .rw[aU]
  rw[BB (by omega:l.length<=i)]at hc;by_cases h2:l.length<m.length
  .rw[aR,Zd]
   rw[iR (AC:i<m.length)]at hc;exact .mk (by rw[hc];rfl)
  .rw[aU,Zd]
   rw[BB (by omega:m.length<=i)]at hc;exact .mk (by rw[hc];rfl)
theorem Zph (n:Nat) (a b:aj) (hn:a.length+8<=n) (uc:b.length+8<=n) (ha:a.length<100000) (hb:b.length<100000) (st:St):
  Ok (λo=>∃s',o=(.val [.i (cmpL (dK a) (dK b))],s')/\aB st s') (run Bd n 39 [.str a,.str b] st):=by
 obtain _|n:=n;omega;rw[Ze,h.e39];unfold RT mF jL cK Ls Li;simp only[bZ,ao];refine Ok.call (ZlC n a AC AC st) ?_;rintro _ ⟨p,s1,rfl,aH,fW⟩;refine⟨_,s1,rfl,?_⟩;rw[aZ,ao];refine Ok.call (ZlC n b AC AC s1) ?_;rintro _ ⟨q,s2,rfl,bd,mo⟩;refine⟨_,s2,rfl,?_⟩;rw[aZ,ao];have hr:=N3 a;refine Ok.call (Znk n (dK a) (dK b) p q s2 (fW.mono bd) mo AC AC) ?_;rintro _ rfl;refine⟨_,s2,rfl,?_⟩;rw[au,ao,Zd];exact .mk ⟨s2,rfl,aH.trans bd⟩
theorem Zis (n:Nat) (a b:aj) (hn:a.length+8<=n) (uc:b.length+8<=n) (ha:a.length<100000) (hb:b.length<100000) (st:St):
  Ok (λo=>∃s',o=(.val [.i (cmpL (dK a) (dK b))],s')/\aB st s') (run Bd n 40 [.str a,.str b] st):=by
 obtain _|n:=n;omega;rw[Ze,h.e40];unfold RA mF jL Q_ dj az Zo Ls Li Lb;simp only[bZ,ao];refine Ok.call (Sc n a AC AC st) ?_;rintro _ ⟨p,s1,rfl,aH,fW⟩;refine⟨_,s1,rfl,?_⟩;rw[aZ,ao];refine Ok.call (Sc n b AC AC s1) ?_;rintro _ ⟨q,s2,rfl,bd,mo⟩;refine⟨_,s2,rfl,?_⟩;have fW:=fW.mono bd;have jG:=N3 a;rw[aZ,ao];generalize hl:dK a=l at*
 generalize hm:dK b=m at*
 rw[Za];refine Zj _ (λk x s3=>∃i:Nat,x=[.i i]/\i<=l.length/\i<=m.length/\l.length-i<=k/\s3=s2/\cmpL l m=cmpL (l.drop i) (m.drop i))
  ?_ l.length n _ _ Fd AC
 rintro k _ s3 ⟨i,rfl,hi,Ba,hk,rfl,hc⟩ rec aN;simp only[au,ao,Ng,ar];by_cases av:i<l.length
 .by_cases og:i<m.length
  .rw[show(bif decide ((i:Int)<(l.length:Int))then decide ((i:Int)<(m.length:Int))else false)=true by rw[HW,aS,yi,yi];omega,ae]
   obtain⟨j,o,rfl⟩:=fW.cS (by simp;omega);obtain⟨j2,o2,rfl⟩:=mo.cS (by simp;omega);have g1: ∀K:DV->M ah,bH j (i*1+o) K s3=K (.i (l[i]:Int)) s3:=λK=>fW.dX (d:=ic l[i]) (by simp[av]) K
   have g2: ∀K:DV->M ah,bH j2 (i*1+o2) K s3=K (.i (m[i]:Int)) s3:=λK=>mo.dX (d:=ic m[i]) (by simp[og]) K
   simp only[bh,Zc (Zi av),Zc (Zi og),bn];rw[g1,bg,g2,bg];rw[Zrz l m i av og]at hc;by_cases h1:l[i]<m[i]
   .rw[bx h1]at hc
    rw[aR,Zd];exact .mk ⟨s3,by rw[hc],aH.trans bd⟩
   .rw[aY h1]at hc
    rw[aU,g1,bg,g2,bg];by_cases h2:m[i]<l[i]
    .rw[bx h2]at hc
     rw[aR,Zd];exact .mk ⟨s3,by rw[hc],aH.trans bd⟩
    .rw[aY h2]at hc
     rw[aU,Zb];exact aN (k-1) _ _ AC ⟨i+1,rfl,AC,AC,AC,rfl,hc⟩
  .rw[show(bif decide ((i:Int)<(l.length:Int))then decide ((i:Int)<(m.length:Int))else false)=false by rw[HW,Bool.and_eq_false_iff,tp,tp];omega,af]
   rw[iR av,BB (by omega:m.length<=i)]at hc;rw[aU,aR,Zd];exact .mk ⟨s3,by rw[hc];rfl,aH.trans bd⟩
 .rw[show(bif decide ((i:Int)<(l.length:Int))then decide ((i:Int)<(m.length:Int))else false)=false by rw[HW,Bool.and_eq_false_iff,tp,tp];omega,af]
  rw[BB (by omega:l.length<=i)]at hc;by_cases h2:l.length<m.length
  .rw[aR,Zd]
   rw[iR (AC:i<m.length)]at hc;exact .mk ⟨s3,by rw[hc];rfl,aH.trans bd⟩
  .rw[aU,aU,Zd]
   rw[BB (by omega:m.length<=i)]at hc;exact .mk ⟨s3,by rw[hc];rfl,aH.trans bd⟩
