/- Lines and words. -/
import Derived.Test.YtegglibipjjblaaGreatDoorGvBMk
import Derived.Test.YtegglibipjjblaaGreatDoorGvZLib
import Derived.Test.YtegglibipjjblaaGreatDoorGvZLaw
import Derived.Test.YtegglibipjjblaaGreatDoorGvZBod
set_option linter.all false
namespace Go.Gv.F
set_option linter.unusedSimpArgs false
variable {i k n o p:Nat} {s' st:St} {β:Type} {cs:ah} {s:aj}
theorem Zi (h:i<n:=by omega):aP (i:Int) n=true:=by unfold aP;simp;omega
theorem Zc {x:Int} (h1: -9223372036854775808<=x:=by omega) (h2:x<9223372036854775808:=by omega):ar x=x:=by
 unfold ar;exact IntWalk.i64_in _ (by omega)
variable {Bd:Zh} [h:HA Bd]
theorem N7 (n:Nat) (s:aj) (k lo hi:Nat) (om:0<lo) (st:St):
  run Bd (n+1) 19 [.str s,.int .i64 k,.int .u8 lo,.int .u8 hi] st=some (.val [.bool (decide (lo<=oc s k/\oc s k<=hi))],st):=by
 rw[Ze,h.e19];unfold OK Zpw az Lb;simp only[bO,av,aq,Za,au,GH];by_cases hk:k<s.length
 .have e:decide ((k:Int)<(s.length:Int))=true:=by simpa using hk
  simp only[e,ae,Zb (Zi hk)];by_cases h1:lo<=oc s k
  .have e1:decide ((oc s k:Int)>=(lo:Int))=true:=by simpa using h1
   simp only[e1,ae,Zd];congr 5;simp[h1]
  .have e1:decide ((oc s k:Int)>=(lo:Int))=false:=by simpa using h1
   simp only[e1,af,Zd];simp[h1]
 .have e:decide ((k:Int)<(s.length:Int))=false:=by simpa using hk
  simp only[e,af,Zd];rw[Ld (by omega)];have: ¬lo<=0:=by omega
  simp[this]
theorem Zxp (s:aj):ZQ s 0=(oc s 0:Int):=GH s 0
theorem ZxL (s:aj):ZQ s 1=(oc s 1:Int):=GH s 1
theorem Zxv (s:aj):ZQ s 2=(oc s 2:Int):=GH s 2
theorem Zxo (s:aj):ZQ s 3=(oc s 3:Int):=GH s 3
theorem Ru (h:0<oc s k:=by omega):k<s.length:=by
 rcases jC k s.length with h'|h'
 .exact h'
 .rw[Ld h']at h;omega
theorem Zwl (h:1<n):aP 1 n=true:=Zi h
theorem Zwi (h:0<n):aP 0 n=true:=Zi h
theorem Zwu (h:2<n):aP 2 n=true:=Zi h
theorem ZvQ (h:3<n):aP 3 n=true:=Zi h
theorem TM (a b c:Nat) (r2:224<=a/\a<=239) (h1:128<=b) (h2:b<=191) (h3:128<=c) (h4:c<=191) (st:St):
  (some (Out.val [DV.int .i64 (ar ((ar ((ar ((ar (IntKind.wrap .u8 ((a:Int)-224)))*4096))+(ar ((ar (IntKind.wrap .u8 ((b:Int)-128)))*64))))+(ar (IntKind.wrap .u8 ((c:Int)-128))))),.int .i64 3],st):Option (Out ah×St))=
   some (.val [.int .i64 (((a-224)*4096+(b-128)*64+(c-128):Nat):Int),.int .i64 ((3:Nat):Int)],st):=by
 rw[IntWalk.u8_in _ (by omega),IntWalk.u8_in _ (by omega),IntWalk.u8_in _ (by omega),Zc (x:=(a:Int)-224),Zc (x:=(b:Int)-128),Zc (x:=(c:Int)-128),
  Zc (x:=((a:Int)-224)*4096),Zc (x:=((b:Int)-128)*64),Zc (x:=((a:Int)-224)*4096+((b:Int)-128)*64),Zc]
 have e:((a:Int)-224)*4096+((b:Int)-128)*64+((c:Int)-128)=(((a-224)*4096+(b-128)*64+(c-128):Nat):Int):=by omega
 rw[e];rfl
theorem TN (a b c d:Nat) (r3:240<=a/\a<=244) (h1:128<=b) (h2:b<=191) (h3:128<=c) (h4:c<=191) (h5:128<=d) (h6:d<=191) (st:St):
  (some (Out.val [DV.int .i64 (ar ((ar ((ar ((ar ((ar (IntKind.wrap .u8 ((a:Int)-240)))*262144))+(ar ((ar (IntKind.wrap .u8 ((b:Int)-128)))*4096))))+(ar ((ar (IntKind.wrap .u8 ((c:Int)-128)))*64))))+(ar (IntKind.wrap .u8 ((d:Int)-128))))),.int .i64 4],st):Option (Out ah×St))=
   some (.val [.int .i64 (((a-240)*262144+(b-128)*4096+(c-128)*64+(d-128):Nat):Int),.int .i64 ((4:Nat):Int)],st):=by
 rw[IntWalk.u8_in _ (by omega),IntWalk.u8_in _ (by omega),IntWalk.u8_in _ (by omega),IntWalk.u8_in _ (by omega),Zc (x:=(a:Int)-240),Zc (x:=(b:Int)-128),Zc (x:=(c:Int)-128),Zc (x:=(d:Int)-128),
  Zc (x:=((a:Int)-240)*262144),Zc (x:=((b:Int)-128)*4096),Zc (x:=((c:Int)-128)*64),Zc (x:=((a:Int)-240)*262144+((b:Int)-128)*4096),Zc (x:=((a:Int)-240)*262144+((b:Int)-128)*4096+((c:Int)-128)*64),Zc]
 have e:((a:Int)-240)*262144+((b:Int)-128)*4096+((c:Int)-128)*64+((d:Int)-128)=(((a-240)*262144+(b-128)*4096+(c-128)*64+(d-128):Nat):Int):=by omega
 rw[e];rfl
theorem ZoT (n:Nat) (s:aj) (hs:0<s.length) (st:St):
  run Bd (n+2) 15 [.str s] st=some (.val [.int .i64 ((dec s 0).1:Int),.int .i64 ((dec s 0).2:Int)],st):=by
 have h0:=MZ s 0;have h1:=MZ s 1;have h2:=MZ s 2;have h3:=MZ s 3;have f1: ∀lo hi:Nat,0<lo->run Bd (n+1) 19 [.str s,.int .i64 1,.int .u8 lo,.int .u8 hi] st=some (.val [.bool (decide (lo<=oc s 1/\oc s 1<=hi))],st):=λlo hi om=>N7 n s 1 lo hi om st
 have f2:run Bd (n+1) 19 [.str s,.int .i64 2,.int .u8 128,.int .u8 191] st=some (.val [.bool (decide (128<=oc s 2/\oc s 2<=191))],st):=N7 n s 2 128 191 (by omega) st;have f3:run Bd (n+1) 19 [.str s,.int .i64 3,.int .u8 128,.int .u8 191] st=some (.val [.bool (decide (128<=oc s 3/\oc s 3<=191))],st):=N7 n s 3 128 191 (by omega) st;have g1:run Bd (n+1) 19 [.str s,.int .i64 1,.int .u8 128,.int .u8 191] st=_:=f1 128 191 (by omega);have g2:run Bd (n+1) 19 [.str s,.int .i64 1,.int .u8 160,.int .u8 191] st=_:=f1 160 191 (by omega);have g3:run Bd (n+1) 19 [.str s,.int .i64 1,.int .u8 128,.int .u8 159] st=_:=f1 128 159 (by omega);have g4:run Bd (n+1) 19 [.str s,.int .i64 1,.int .u8 144,.int .u8 191] st=_:=f1 144 191 (by omega);have g5:run Bd (n+1) 19 [.str s,.int .i64 1,.int .u8 128,.int .u8 143] st=_:=f1 128 143 (by omega);rw[Ze,h.e15];unfold Pa kK az Q_ FZ aY fW BN Lb mj;simp only[bO,aq,Zb (Zwi hs),Zxp,ZxL,Zxv,Zxo,Bool.cond_decide];rw[zW];simp only[eW];generalize oc s 0=a at*
 generalize hb:oc s 1=b at*
 generalize hc:oc s 2=c at*
 generalize hd:oc s 3=d at*
 have l1:0<b->aP 1 s.length=true:=λh=>Zwl (Ru)
 have l2:0<c->aP 2 s.length=true:=λh=>Zwu (Ru)
 have l3:0<d->aP 3 s.length=true:=λh=>ZvQ (Ru)
 by_cases c0:a<128
 .rw[bG (by omega),bG c0,Zc];rfl
 rw[ba (by omega),ba c0];by_cases r1:194<=a/\a<=223
 .have e1:(a:Int)>=194:=by omega
  have e2:(a:Int)<=223:=by omega
  have e3: ¬(a:Int)>=224:=by omega
  have e4: ¬(a:Int)>=240:=by omega
  simp only[Za,au,aq,bG e1,aw e2,ae,Zk g1];by_cases k:128<=b/\b<=191
  .simp only[aw k,ae,Zb (l1 (by omega)),Zd]
   rw[bG ⟨r1,k⟩,IntWalk.u8_in _ (by omega),IntWalk.u8_in _ (by omega),Zc (x:=(a:Int)-192),Zc (x:=(b:Int)-128),Zc (x:=((a:Int)-192)*64),Zc];have:(a:Int)-192=((a-192:Nat):Int):=by omega
   have:(b:Int)-128=((b-128:Nat):Int):=by omega
   simp[*]
  .simp only[aD k,af,ba e3,ba e4,au,aq,Zd]
   rw[ba (by rintro⟨_,h⟩;exact k h),ba (by omega),ba (by omega)];rfl
 by_cases r2:224<=a/\a<=239
 .have e1:(a:Int)>=194:=by omega
  have e2: ¬(a:Int)<=223:=by omega
  have e3:(a:Int)>=224:=by omega
  have e4:(a:Int)<=239:=by omega
  by_cases y1:a=224
  .subst y1
   have x1:(((224:Nat):Int)==224)=true:=rfl;have x2:(((224:Nat):Int)==237)=false:=rfl;simp only[Za,au,av,aq,bG e1,aD e2,af,bG e3,aw e4,ae,x1,x2,Zk g2,Zd];by_cases k:160<=b/\b<=191
   .by_cases k2:128<=c/\c<=191
    .simp only[aw k,aw k2,ae,Zk f2,au,aq,Zb (l1 (by omega)),Zb (l2 (by omega)),Zd]
     rw[ba (by omega),bG ⟨r2,by simpa using k,k2⟩];exact TM 224 b c r2 (by omega) (by omega) (by omega) (by omega) st
    .simp only[aw k,aD k2,ae,af,Zk f2,au,aq,Zd]
     rw[ba (by omega),ba (by rintro⟨_,_,h⟩;exact k2 h),ba (by omega)];rfl
   .simp only[aD k,af,au,aq,Zd]
    rw[ba (by omega),ba (by rintro⟨_,h,_⟩;exact k (by simpa using h)),ba (by omega)];rfl
  .by_cases y2:a=237
   .subst y2
    have x1:(((237:Nat):Int)==224)=false:=rfl;have x2:(((237:Nat):Int)==237)=true:=rfl;simp only[Za,au,av,aq,bG e1,aD e2,af,bG e3,aw e4,ae,x1,x2,Zk g3,Zd];by_cases k:128<=b/\b<=159
    .by_cases k2:128<=c/\c<=191
     .simp only[aw k,aw k2,ae,Zk f2,au,aq,Zb (l1 (by omega)),Zb (l2 (by omega)),Zd]
      rw[ba (by omega),bG ⟨r2,by simpa using k,k2⟩];exact TM 237 b c r2 (by omega) (by omega) (by omega) (by omega) st
     .simp only[aw k,aD k2,ae,af,Zk f2,au,aq,Zd]
      rw[ba (by omega),ba (by rintro⟨_,_,h⟩;exact k2 h),ba (by omega)];rfl
    .simp only[aD k,af,au,aq,Zd]
     rw[ba (by omega),ba (by rintro⟨_,h,_⟩;exact k (by simpa using h)),ba (by omega)];rfl
   .have x1:((a:Int)==224)=false:=by rw[dX];omega
    have x2:((a:Int)==237)=false:=by rw[dX];omega
    simp only[Za,au,av,aq,bG e1,aD e2,af,bG e3,aw e4,ae,x1,x2,Zk g1,Zd,ba y1,ba y2];by_cases k:128<=b/\b<=191
    .by_cases k2:128<=c/\c<=191
     .simp only[aw k,aw k2,ae,Zk f2,au,aq,Zb (l1 (by omega)),Zb (l2 (by omega)),Zd]
      rw[ba (by omega),bG ⟨r2,k,k2⟩];exact TM a b c r2 (by omega) (by omega) (by omega) (by omega) st
     .simp only[aw k,aD k2,ae,af,Zk f2,au,aq,Zd]
      rw[ba (by omega),ba (by rintro⟨_,_,h⟩;exact k2 h),ba (by omega)];rfl
    .simp only[aD k,af,au,aq,Zd]
     rw[ba (by omega),ba (by rintro⟨_,h,_⟩;exact k h),ba (by omega)];rfl
 by_cases r3:240<=a/\a<=244
 .have e1:(a:Int)>=194:=by omega
  have e2: ¬(a:Int)<=223:=by omega
  have e3:(a:Int)>=224:=by omega
  have e4: ¬(a:Int)<=239:=by omega
  have e5:(a:Int)>=240:=by omega
  have e6:(a:Int)<=244:=by omega
  by_cases y1:a=240
  .subst y1
   have x1:(((240:Nat):Int)==240)=true:=rfl;have x2:(((240:Nat):Int)==244)=false:=rfl;simp only[Za,au,av,aq,bG e1,aD e2,af,bG e3,aD e4,bG e5,aw e6,ae,x1,x2,Zk g4,Zd];by_cases k:144<=b/\b<=191
   .by_cases k2:128<=c/\c<=191
    .by_cases k3:128<=d/\d<=191
     .simp only[aw k,aw k2,aw k3,ae,Zk f2,Zk f3,au,aq,Zb (l1 (by omega)),Zb (l2 (by omega)),Zb (l3 (by omega)),Zd]
      rw[ba (by omega),ba (by omega),bG ⟨r3,by simpa using k,k2,k3⟩];exact TN 240 b c d r3 (by omega) (by omega) (by omega) (by omega) (by omega) (by omega) st
     .simp only[aw k,aw k2,aD k3,ae,af,Zk f2,Zk f3,au,aq,Zd]
      rw[ba (by omega),ba (by omega),ba (by rintro⟨_,_,_,h⟩;exact k3 h)];rfl
    .simp only[aw k,aD k2,ae,af,Zk f2,au,aq,Zd]
     rw[ba (by omega),ba (by omega),ba (by rintro⟨_,_,h,_⟩;exact k2 h)];rfl
   .simp only[aD k,af,au,aq,Zd]
    rw[ba (by omega),ba (by omega),ba (by rintro⟨_,h,_⟩;exact k (by simpa using h))];rfl
  .by_cases y2:a=244
   .subst y2
    have x1:(((244:Nat):Int)==240)=false:=rfl;have x2:(((244:Nat):Int)==244)=true:=rfl;simp only[Za,au,av,aq,bG e1,aD e2,af,bG e3,aD e4,bG e5,aw e6,ae,x1,x2,Zk g5,Zd];by_cases k:128<=b/\b<=143
    .by_cases k2:128<=c/\c<=191
     .by_cases k3:128<=d/\d<=191
      .simp only[aw k,aw k2,aw k3,ae,Zk f2,Zk f3,au,aq,Zb (l1 (by omega)),Zb (l2 (by omega)),Zb (l3 (by omega)),Zd]
       rw[ba (by omega),ba (by omega),bG ⟨r3,by simpa using k,k2,k3⟩];exact TN 244 b c d r3 (by omega) (by omega) (by omega) (by omega) (by omega) (by omega) st
      .simp only[aw k,aw k2,aD k3,ae,af,Zk f2,Zk f3,au,aq,Zd]
       rw[ba (by omega),ba (by omega),ba (by rintro⟨_,_,_,h⟩;exact k3 h)];rfl
     .simp only[aw k,aD k2,ae,af,Zk f2,au,aq,Zd]
      rw[ba (by omega),ba (by omega),ba (by rintro⟨_,_,h,_⟩;exact k2 h)];rfl
    .simp only[aD k,af,au,aq,Zd]
     rw[ba (by omega),ba (by omega),ba (by rintro⟨_,h,_⟩;exact k (by simpa using h))];rfl
   .have x1:((a:Int)==240)=false:=by rw[dX];omega
    have x2:((a:Int)==244)=false:=by rw[dX];omega
    simp only[Za,au,av,aq,bG e1,aD e2,af,bG e3,aD e4,bG e5,aw e6,ae,x1,x2,Zk g1,Zd,ba y1,ba y2];by_cases k:128<=b/\b<=191
    .by_cases k2:128<=c/\c<=191
     .by_cases k3:128<=d/\d<=191
      .simp only[aw k,aw k2,aw k3,ae,Zk f2,Zk f3,au,aq,Zb (l1 (by omega)),Zb (l2 (by omega)),Zb (l3 (by omega)),Zd]
       rw[ba (by omega),ba (by omega),bG ⟨r3,k,k2,k3⟩];exact TN a b c d r3 (by omega) (by omega) (by omega) (by omega) (by omega) (by omega) st
      .simp only[aw k,aw k2,aD k3,ae,af,Zk f2,Zk f3,au,aq,Zd]
       rw[ba (by omega),ba (by omega),ba (by rintro⟨_,_,_,h⟩;exact k3 h)];rfl
     .simp only[aw k,aD k2,ae,af,Zk f2,au,aq,Zd]
      rw[ba (by omega),ba (by omega),ba (by rintro⟨_,_,h,_⟩;exact k2 h)];rfl
    .simp only[aD k,af,au,aq,Zd]
     rw[ba (by omega),ba (by omega),ba (by rintro⟨_,h,_⟩;exact k (h))];rfl
 .have e1:(a:Int)>=194\/¬(a:Int)>=194:=Classical.em _
  have e2: ¬(a:Int)<=223\/¬(a:Int)>=194:=by omega
  have e4: ¬(a:Int)<=239\/¬(a:Int)>=224:=by omega
  have e6: ¬(a:Int)<=244\/¬(a:Int)>=240:=by omega
  rw[ba (by omega),ba (by omega),ba (by omega)];simp only[Za,au,aq];rcases e2 with e|e<;>rcases e4 with f|f<;>rcases e6 with g|g<;>(simp only[e,f,g,decide_false,mg,af,ite_self,Zd];rfl)
def ic (r:Nat):DV:= .int .i64 (r:Int)
theorem Ol (n:Nat) (s:aj) (hn:s.length+4<=n) (hs:s.length<1000000) (st:St):
  Ok (λo=>∃a s',o=(.val [.slice 1 a (dh s).length],s')/\aC st s'/\Sl s' a ((dh s).map ic)) (run Bd n 12 [.str s] st):=by
 obtain⟨n,rfl⟩: ∃m,n=m+3:=⟨n-3,by omega⟩;rw[Ze,h.TK];unfold OZ kK fX cm gK bE Ls Li;simp only[bO,aq,kl,Za];refine Zj _ (λk x s1=>∃(t:aj) (a:ai) (z:Nat) (acc:al),x=[.str t,.slice z a acc.length]/\(z=1\/a=none)/\t.length<=k/\acc.length+t.length<=s.length/\dh s=acc++dh t/\bn st s1 a (acc.map ic))
  ?_ s.length (n+2) _ _ ⟨s,none,0,[],rfl,.inr rfl,aO _,by simp,rfl,bn.nil (.refl st)⟩ (by omega)
 rintro k _ s1 ⟨t,a,z,acc,rfl,hz,hk,hl,hr,ho⟩ rec aQ;simp only[bO,Zf 1 z a _ hz,aq,Bool.cond_decide,bd];by_cases ht:(t.length:Int)>0
 .rw[bG ht]
  have vC:0<t.length:=by omega
  have hw:=Eb t 0;have hle:=S9 t 0 vC;rw[Zk (ZoT n t vC s1)];simp only[av,aq];obtain⟨p,s2,df,hp⟩:=ho.push (β:=ah) (sz:=1) (n:=acc.length) (lim:=8796093022208) [ic (dec t 0).1] (we 0) (by simp) rfl (by omega);have:=hp (λp=>aB (decide (0<=((dec t 0).2:Int))&&decide (((dec t 0).2:Int)<=(t.length:Int))) (rec [.str (t.drop ((dec t 0).2:Int).toNat),.slice 1 p (acc.length+1)]));refine(congrArg (Ok _) this).mpr ?_;rw[Zb (by simp;omega)];refine aQ (t.length-1) _ _ (by omega) ⟨t.drop (dec t 0).2,p,1,acc++[(dec t 0).1],by simp,.inl rfl,by simp;omega,by simp;omega,by rw[hr,KU vC];simp,by simpa using df⟩
 .rw[ba ht]
  have vC:t=[]:=Bj (by omega);subst vC;rw[Si,gA]at hr;rw[Zu,hr];exact .mk ⟨a,_,rfl,Zv ho.1,ho.sl.fK _⟩
def Zx7 (r:Nat):Bool:=(decide (r<32)&& !(r==9))||r==127||r==65533
theorem ZuM (a b:Nat):((a:Int)==(b:Int))=(a==b):=by rw[lg];simp only[sd];omega
def flush (w:aj):List (aj):=if w=[]then[]else[w]
def Lc:aj->aj->List (aj)
 |[],w=>flush w
 |c::r,w=>if c=35 then flush w else if c=32\/c=9 then flush w++Lc r []else Lc r (w++[c])
def Zta (line:aj):Int×List (aj):=
 if (dh line).any Zx7 then(41,[])else if (Lc line []).length>40 then(40,[])else(0,Lc line [])
def Zx3 (w:aj):Prop:=Zta w=(0,[w])
instance (w:aj):Decidable (Zx3 w):=inferInstanceAs (Decidable (Zta w=(0,[w])))
theorem zO (F:(ah->M β)->ah->M β) (m:Nat) (st:ah):cW F (m+1) st=F (cW F m) st:=rfl
theorem bD (h:cs.length=n) (K:M β):bu cs n K=K:=by
 simp_all[bu]
def vQ (r:Int):Bool:=(decide (r>=97)&&decide (r<=122))||((decide (r>=65)&&decide (r<=90))||((decide (r>=48)&&decide (r<=57))||(r==45||(r==95||(decide (r>=161)&&decide (r<=65519))))))
theorem Zsn (n:Nat) (r:Int) (st:St):run Bd (n+1) 29 [.int .i64 r] st=some (.val [.bool (vQ r)],st):=by
 rw[Ze,h.e29];unfold Q2 cy az Lb vQ;simp only[av,aq,Ko,au,Zd,Bool.cond_true_left,FK,Bool.or_assoc]
def yf:ah:=[.int .i32 97,.int .i32 122,.int .i32 65,.int .i32 90,.int .i32 48,.int .i32 57,.int .i32 45,.int .i32 45,.int .i32 95,.int .i32 95,.int .i32 161,.int .i32 65519]
theorem Zp9 (n:Nat) (st:St):run Bd (n+1) 54 [] st=some (.val [.agg yf],st):=by
 rw[Ze,h.e54];rfl
theorem Zug (n:Nat) (r:Int) (st:St):run Bd (n+8) 28 [.int .i32 r] st=some (.val [.bool (vQ r)],st):=by
 rw[Ze,h.e28];unfold Ro Q_ cH az Lb Li;simp only[av,aq];rw[Zk (Zp9 (n+6) st)];simp only[cG,aq,bD (by rfl)];have step: ∀(rec:ah->M ah) (i:Nat) (lo hi:Int),i<6->(yf.drop (i*2)).take 2=[.int .i32 lo,.int .i32 hi]->
   (λ(x:Int)=>aB (aP x 6) (bu ((yf.drop (x.toNat*2)).take 2) 2 (ej ((yf.drop (x.toNat*2)).take 2) 0 λd=>cP .i32 d λx1=>
    cI (λst=>gP st λb1 st=>aJ st<|bif b1 then ay [.bool true]else rec [.int .i64 (ar (x+1))]) λaI=>
    bif decide (r>=x1)then ej ((yf.drop (x.toNat*2)).take 2) 1 λd1=>cP .i32 d1 λx2=>aI [.bool (decide (r<=x2))]else aI [.bool false]))) (i:Int)=
   bif (decide (r>=lo)&&decide (r<=hi))then ay [.bool true]else rec [.int .i64 ((i+1:Nat):Int)]:=by
  intro rec i lo hi hi6 hd;simp only[br,hd,Zb (Zi hi6),bD (by rfl),Zc (x:=(i:Int)+1)];unfold ej;simp only[lh,pE,aX,Ko,au,aq,FK];rfl
 have fin: ∀(l:List (Int×Int)) (i m:Nat),i+l.length=6->(∀(k:Nat) p,l[k]? =some p->(yf.drop ((i+k)*2)).take 2=[.int .i32 p.1,.int .i32 p.2])->l.length<m->
   cW (λ(aU:ah->M ah) st=>aF .i64 st λx st=>aJ st<|bif decide (x<6)then aB (aP x 6) (bu ((yf.drop (x.toNat*2)).take 2) 2 (ej ((yf.drop (x.toNat*2)).take 2) 0 λd=>cP .i32 d λx1=>
    cI (λst=>gP st λb1 st=>aJ st<|bif b1 then ay [.bool true]else aU [.int .i64 (ar (x+1))]) λaI=>
    bif decide (r>=x1)then ej ((yf.drop (x.toNat*2)).take 2) 1 λd1=>cP .i32 d1 λx2=>aI [.bool (decide (r<=x2))]else aI [.bool false]))else(aJ []<|ay [.bool false])) m [.int .i64 (i:Int)] st
   =some (.val [.bool (l.any λp=>decide (r>=p.1)&&decide (r<=p.2))],st):=by
  intro l;induction l with
  |nil=>
   intro i m hi _ hm;obtain⟨m,rfl⟩: ∃k,m=k+1:=by simp_all
   simp only[Dh,gV]at hi;subst hi;rw[zO];rfl
  |cons p l ih=>
   intro i m hi hp hm;simp only[cO]at hi hm;obtain⟨m,rfl⟩: ∃k,m=k+1:=⟨m-1,by omega⟩;rw[zO];simp only[av,aq];rw[aw (show(i:Int)<6 by omega),ae];refine(congrFun (step _ i p.1 p.2 (by omega) (by have:=hp 0 p rfl;simpa using this)) st).trans ?_;rw[List.any_cons];cases hb:(decide (r>=p.1)&&decide (r<=p.2))with
   |true=>rfl
   |false=>
    rw[af,zd];exact ih (i+1) m (by omega) (λk q hq=>by have:=hp (k+1) q (by simpa using hq);rwa [show i+(k+1)=i+1+k by omega]at this) (by omega)
 have e:vQ r=[((97:Int),(122:Int)),(65,90),(48,57),(45,45),(95,95),(161,65519)].any λp=>decide (r>=p.1)&&decide (r<=p.2):=by
  grind[vQ]
 rw[e,Za];refine fin _ 0 (n+7) rfl (λk p hp=>?_) (by simp)
 match k,hp with
 |0,hp=>cases hp;rfl
 |1,hp=>cases hp;rfl
 |2,hp=>cases hp;rfl
 |3,hp=>cases hp;rfl
 |4,hp=>cases hp;rfl
 |5,hp=>cases hp;rfl
 |k+6,hp=>simp at hp
def qU (s:aj):Bool:=decide (0<(dh s).length)&&(decide ((dh s).length<=8)&&(dh s).all λr=>vQ r)
theorem Zjy (n:Nat) (s:aj) (hn:s.length+6<=n) (hs:s.length<100000) (st:St):
  Ok (λo=>∃s',o=(.val [.bool (qU s)],s')/\aC st s') (run Bd n 27 [.str s] st):=by
 obtain⟨n,rfl⟩: ∃m,n=m+3:=⟨n-3,by omega⟩;rw[Ze,h.e27];unfold Pm kK lN az cy Zn aY Ls Lb Du Li;simp only[bO,aq];refine Ok.call (Ol (n+2) s (by omega) (by omega) st) ?_;rintro _ ⟨a,s1,rfl,aH,dN⟩;refine⟨_,s1,rfl,?_⟩;have CG:=KV s;simp only[bd,aq,Ko,au];rw[Za];have e0:(bif decide (((dh s).length:Int)>0)then decide (((dh s).length:Int)<=8)else false)=(decide (0<(dh s).length)&&decide ((dh s).length<=8)):=by
  rw[FK];grind
 rw[e0];refine Zj _ (λk x s2=>∃(i:Nat) (b:Bool),x=[.bool b,.int .i64 i]/\i<=(dh s).length/\(dh s).length-i<=k/\s2=s1/\(b&&((dh s).drop i).all λr=>vQ r)=qU s)
  ?_ (dh s).length (n+2) _ _ ⟨0,_,rfl,cE _,by omega,rfl,by rw[dA];grind[qU]⟩ (by omega)
 rintro k _ s2 ⟨i,b,rfl,hi,hk,rfl,hb⟩ rec aQ;simp only[au,av,aq];by_cases ax:i<(dh s).length
 .rw[aw (show(i:Int)<((dh s).length:Int) by omega),ae]
  have hr:(dh s)[i]? =some (dh s)[i]:=cg ax;rw[iC ax,uE]at hb;rw[Za];cases b with
  |false=>
   simp only[af,au,aq];exact aQ (k-1) _ _ (by omega) ⟨i+1,false,by rw[Zc];rfl,by omega,by omega,rfl,by rw[<-hb];simp⟩
  |true=>
   obtain⟨j,o,rfl⟩:=dN.cB (by simp;omega);simp only[ae,aZ,Zb (Zi ax),br];rw[dN.dF (d:=ic (dh s)[i]) (by simp[hr])];unfold ic;simp only[aX];rw[Zk (Zsn (n+1) _ s2)];simp only[au,aq];exact aQ (k-1) _ _ (by omega) ⟨i+1,_,by rw[Zc];rfl,by omega,by omega,rfl,by rw[<-hb];simp⟩
 .rw[aD (show ¬(i:Int)<((dh s).length:Int) by omega),af,Zd]
  rw[ze (by omega)]at hb;simp only[List.all_nil,y9]at hb;exact .mk ⟨s2,by rw[hb],aH⟩
theorem Zuz (h:p<s.length):dh (s.drop p)=(dec s p).1::dh (s.drop (p+(dec s p).2)):=by
 rw[KU (by simp;omega),Zv4,gV,kd]
theorem Zp8 (n:Nat) (s:aj) (hn:s.length+12<=n) (hs:s.length<100000) (st:St):
  Ok (λo=>o=(.val [.bool (qU s)],st)) (run Bd n 26 [.str s] st):=by
 obtain⟨n,rfl⟩: ∃m,n=m+9:=⟨n-9,by omega⟩;rw[Ze,h.e26];unfold Qc kK nM Ju az aY Lb Bu Li;simp only[bO,aq];rw[Za];refine Zj _ (λk x s2=>∃(p c:Nat),x=[.int .i64 c,.nat p]/\p<=s.length/\s.length-p<=k/\s2=st/\c<=8/\(decide (0<c+(dh (s.drop p)).length)&&(decide (c+(dh (s.drop p)).length<=8)&&(dh (s.drop p)).all λr=>vQ r))=qU s)
  ?_ s.length (n+8) _ _ ⟨0,0,rfl,cE _,by omega,rfl,by omega,by simp only[eW,dA];rfl⟩ (by omega)
 rintro k _ s2 ⟨p,c,rfl,hp,hk,rfl,hc,hb⟩ rec aQ;simp only[av,J_n,aq];by_cases ax:p<s.length
 .have hw:=Eb s p
  have hle:=S9 s p ax;rw[Zuz ax]at hb;simp only[cO,uE]at hb;have Uh:Nat.blt p s.length=true:=by rw[pG];exact ax
  simp only[Uh,ae,BX,uy,Zc (x:=(c:Int)+1),Za,au,aq];by_cases h8:c=8
  .subst h8
   rw[aD (show ¬8+((dh (s.drop (p+(dec s p).2))).length+1)<=8 by omega)]at hb;simp only[fP,Bg]at hb;have e:decide (((8:Nat):Int)+1>8)=true:=rfl;simp only[e,ae,Zd];exact .mk (by rw[hb])
  .have e:decide ((c:Int)+1>8)=false:=aD (by omega)
   simp only[e,af];rw[Zk (Zug n _ s2)];simp only[au,aq];cases ho:vQ ((dec s p).1:Int)with
   |false=>
    simp only[bm,ae,Zd];rw[ho]at hb;simp only[fP,Bg]at hb;exact .mk (by rw[hb])
   |true=>
    simp only[bp,af];rw[ho]at hb;refine aQ (s.length-(p+(dec s p).2)) _ _ (by omega) ⟨p+(dec s p).2,c+1,rfl,hle,by omega,rfl,by omega,?_⟩;rw[<-hb,show c+1+(dh (s.drop (p+(dec s p).2))).length=c+((dh (s.drop (p+(dec s p).2))).length+1) by omega];simp
 .have e:Nat.blt p s.length=false:=by rw[Bool.eq_false_iff];simp_all
  simp only[e,af,Zd];rw[ze (by omega),Si]at hb;refine .mk ?_;rw[<-hb];simp_all
def wo (s:St):Prop:=∀(i:Nat) (b:Option bT),tabs[i]? =some b->s[i]? =some b
theorem wo.mono {s:St} (h:wo s) (k:aC s s'):wo s':=λi b e=>k.get (h i b e)
def aaM:aj:=[48,49,50,51,52,53,54,55,56,57,97,98,99,100,101,102,103,104,105,106,107,108,109,110,111,112,113,114,115,116,117,118,119,120,121,122]
def dg (n:Nat):UInt8:=aaM.getD n 0
theorem ZuA (cs:ah):ov cs []=cs:=by cases cs<;>rfl
theorem BV (d:DV): ∀(cs:ah) (p:Nat),p<cs.length->cq cs p [d]=cs.set p d
 |[],p,h=>by cases h
 |c::cs,0,_=>by show d::ov cs []=_;rw[ZuA];rfl
 |c::cs,p+1,h=>by show c::cq cs p [d]=_;rw[BV d cs p (by simpa using h)];rfl
theorem ZlM: ∀(l:aj),sC (ZW l)=some l
 |[]=>rfl
 |b::l=>by
  show(sC (ZW l)).map (UInt8.ofNat _:: ·)=_;rw[ZlM l];simp
theorem nK (l:aj) (K:aj->M β):kq (ZW l) K=K l:=by unfold kq;rw[ZlM]
theorem GO (h:o+n<=cs.length) (K:ah->M β):bQ st.length o n K (st++[some ⟨false,cs⟩])=K ((cs.drop o).take n) (st++[some ⟨false,cs⟩]):=
 ko (f:=false) (all:=cs) (by simp) h K
end Go.Gv.F
namespace Go.Gv.F
theorem Zxg {Bd:Zh} {n g:Nat} {args:ah} {s:St} (h:Ok (λo=>∃s',o=(.val [.bool true],s')) (run Bd n g args s)): ∃n s',run Bd n g args s=some (.val [.bool true],s'):=by
 obtain⟨o,e,s',rfl⟩:=h;exact⟨n,s',e⟩
theorem zN {n:Int} (h:IntKind.min .i64<=n/\n<=IntKind.max .i64): -9223372036854775808<=n/\n<=9223372036854775807:=by
 have e1:IntKind.min .i64= -9223372036854775808:=by decide
 simp_all
def yQ (r:Nat):DV:= .int .i32 (r:Int)
variable {Bd:Zh} [h:HA Bd]
theorem ZkI (n:Nat) (s:aj) (hn:s.length+4<=n) (hs:s.length<1000000) (st:St):
  Ok (λo=>∃a s',o=(.val [.slice 1 a (dh s).length],s')/\aC st s'/\Sl s' a ((dh s).map yQ)) (run Bd n 34 [.str s] st):=by
 obtain⟨n,rfl⟩: ∃m,n=m+1:=⟨n-1,by omega⟩;rw[Ze,h.e34];unfold PE kK fX Ju bE Bu;simp only[bO,aq,kl];rw[Za];refine Zj _ (λk x s1=>∃(p:Nat) (a:ai) (z:Nat) (acc:al),x=[.slice z a acc.length,.nat p]/\(z=1\/a=none)/\p<=s.length/\s.length-p<=k/\acc.length<=p/\dh s=acc++dh (s.drop p)/\bn st s1 a (acc.map yQ))
  ?_ s.length n _ _ ⟨0,none,0,[],rfl,.inr rfl,cE _,by omega,cE _,by rw[dA];rfl,bn.nil (.refl st)⟩ (by omega)
 rintro k _ s1 ⟨p,a,z,acc,rfl,hz,hp,hk,hl,hr,ho⟩ rec aQ;simp only[J_n,Zf 1 z a _ hz,aq,bd];by_cases ax:p<s.length
 .have Uh:Nat.blt p s.length=true:=by rw[pG];exact ax
  have hw:=Eb s p;have hle:=S9 s p ax;rw[Uh,ae];obtain⟨q,s2,df,aV⟩:=ho.push (β:=ah) (sz:=1) (n:=acc.length) (lim:=17592186044416) [yQ (dec s p).1] (we 0) (by simp) rfl (by omega);have:=aV (λp1=>rec [.slice 1 p1 (acc.length+1),.nat (p+uy s p)]);refine(congrArg (Ok _) this).mpr ?_;refine aQ (s.length-(p+(dec s p).2)) _ _ (by omega) ⟨p+(dec s p).2,q,1,acc++[(dec s p).1],by simp[uy],.inl rfl,hle,by omega,by simp;omega,by rw[hr,Zuz ax];simp,by simpa using df⟩
 .have e:Nat.blt p s.length=false:=by rw[Bool.eq_false_iff];simp_all
  rw[e,af];rw[ze (by omega),Si,gA]at hr;rw[Zu,hr];exact .mk ⟨a,_,rfl,Zv ho.1,ho.sl.fK _⟩
def cmpL:al->al->Int
 |[],[]=>0
 |[],_::_=> -1
 |_::_,[]=>1
 |a::l,b::m=>if a<b then-1 else if b<a then 1 else cmpL l m
theorem Zp0 (l m:al) (i:Nat) (hl:i<l.length) (hm:i<m.length):cmpL (l.drop i) (m.drop i)=if l[i]<m[i]then-1 else if m[i]<l[i]then 1 else cmpL (l.drop (i+1)) (m.drop (i+1)):=by
 rw[iC hl,iC hm];rfl
theorem ZlX (n:Nat) (x:Int) (st:St):run Bd (n+1) 72 [.int .i32 x] st=some (.val [.bool false],st):=by
 rw[Ze,h.e72];unfold Ob Lb;simp[av,aq,Bo,bp,Zd]
theorem ZoP (n:Nat) (x y:Nat) (st:St):run Bd (n+2) 64 [.int .i32 x,.int .i32 y] st=some (.val [.int .i64 (if x<y then-1 else if y<x then 1 else 0)],st):=by
 rw[Ze,h.e64];unfold NT aY Bu Li;simp only[av,aq];rw[Zk (ZlX n _ st)];simp only[au,aq];rw[Zk (ZlX n _ st)];simp only[au,aq,af];by_cases h1:x<y
 .rw[bG h1,aw (show(x:Int)<(y:Int) by omega),ae,Zd]
 .rw[ba h1,aD (show ¬(x:Int)<(y:Int) by omega),af]
  by_cases h2:y<x
  .rw[bG h2,aw (show(x:Int)>(y:Int) by omega),ae,Zd]
  .rw[ba h2,aD (show ¬(x:Int)>(y:Int) by omega),af,Zd]
theorem Zma (n:Nat) (l m:al) (a b:ai) (st:St) (ha:Sl st a (l.map yQ)) (hb:Sl st b (m.map yQ)) (hn:l.length+4<=n) (hl:l.length<1000000):
  Ok (λo=>o=(.val [.int .i64 (cmpL l m)],st)) (run Bd n 57 [.slice 1 a l.length,.slice 1 b m.length] st):=by
 obtain⟨n,rfl⟩: ∃k,n=k+3:=⟨n-3,by omega⟩;rw[Ze,h.e57];unfold NQ cm Q_ cH N_ cM Li;simp only[bd,aq];rw[Za];refine Zj _ (λk x s2=>∃i:Nat,x=[.int .i64 i]/\i<=l.length/\i<=m.length/\l.length-i<=k/\s2=st/\cmpL l m=cmpL (l.drop i) (m.drop i))
  ?_ l.length (n+2) _ _ (by grind) (by omega)
 rintro k _ s2 ⟨i,rfl,hi,HS,hk,rfl,hc⟩ rec aQ;simp only[av,aq];by_cases ax:i<l.length
 .rw[aw (show(i:Int)<(l.length:Int) by omega),ae]
  obtain⟨j,o,rfl⟩:=ha.cB (by simp;omega);simp only[aZ,Zb (Zi ax),br];rw[ha.dF (d:=yQ l[i]) (by simp[ax])];unfold yQ;simp only[aX];by_cases jZ:i<m.length
  .rw[aD (show ¬(i:Int)>=(m.length:Int) by omega),af]
   obtain⟨j2,o2,rfl⟩:=hb.cB (by simp;omega);simp only[aZ,Zb (Zi jZ)];rw[hb.dF (d:=yQ m[i]) (by simp[jZ])];unfold yQ;simp only[aX];rw[Zk (ZoP n l[i] m[i] s2)];simp only[av,aq];rw[Zp0 l m i ax jZ]at hc;by_cases h1:l[i]<m[i]
   .rw[bG h1]at hc⊢
    exact .mk (by rw[hc])
   .rw[ba h1]at hc⊢
    by_cases h2:m[i]<l[i]
    .rw[bG h2]at hc⊢
     exact .mk (by rw[hc])
    .rw[ba h2]at hc⊢
     have e:(!((0:Int)==0))=false:=rfl;rw[e,af,Zc];exact aQ (k-1) _ _ (by omega) ⟨i+1,rfl,by omega,by omega,by omega,rfl,hc⟩
  .rw[aw (show(i:Int)>=(m.length:Int) by omega),ae,Zd]
   rw[iC ax,ze (by omega:m.length<=i)]at hc;exact .mk (by rw[hc];rfl)
 .rw[aD (show ¬(i:Int)<(l.length:Int) by omega),af]
  rw[ze (by omega:l.length<=i)]at hc;by_cases h2:l.length<m.length
  .rw[aw (show(l.length:Int)<(m.length:Int) by omega),ae,Zd]
   rw[iC (show i<m.length by omega)]at hc;exact .mk (by rw[hc];rfl)
  .rw[aD (show ¬(l.length:Int)<(m.length:Int) by omega),af,Zd]
   rw[ze (by omega:m.length<=i)]at hc;exact .mk (by rw[hc];rfl)
theorem Znk (n:Nat) (a b:aj) (hn:a.length+8<=n) (vx:b.length+8<=n) (ha:a.length<100000) (hb:b.length<100000) (st:St):
  Ok (λo=>∃s',o=(.val [.int .i64 (cmpL (dh a) (dh b))],s')/\aC st s') (run Bd n 39 [.str a,.str b] st):=by
 obtain⟨n,rfl⟩: ∃k,n=k+1:=⟨n-1,by omega⟩;rw[Ze,h.e39];unfold OB kK lN cM Ls tH Li;simp only[bO,aq];refine Ok.call (ZkI n a (by omega) (by omega) st) ?_;rintro _ ⟨p,s1,rfl,aH,fH⟩;refine⟨_,s1,rfl,?_⟩;simp only[bd,aq];refine Ok.call (ZkI n b (by omega) (by omega) s1) ?_;rintro _ ⟨q,s2,rfl,aV,kC⟩;refine⟨_,s2,rfl,?_⟩;simp only[bd,aq];have hr:=KV a;refine Ok.call (Zma n (dh a) (dh b) p q s2 (fH.mono aV) kC (by omega) (by omega)) ?_;rintro _ rfl;refine⟨_,s2,rfl,?_⟩;simp only[av,aq,Zd];exact .mk ⟨s2,rfl,aH.trans aV⟩
theorem Zh7 (n:Nat) (a b:aj) (hn:a.length+8<=n) (vx:b.length+8<=n) (ha:a.length<100000) (hb:b.length<100000) (st:St):
  Ok (λo=>∃s',o=(.val [.int .i64 (cmpL (dh a) (dh b))],s')/\aC st s') (run Bd n 40 [.str a,.str b] st):=by
 obtain⟨n,rfl⟩: ∃k,n=k+1:=⟨n-1,by omega⟩;rw[Ze,h.e40];unfold N4 kK lN Q_ cH az Zn Ls Li Lb;simp only[bO,aq];refine Ok.call (Ol n a (by omega) (by omega) st) ?_;rintro _ ⟨p,s1,rfl,aH,fH⟩;refine⟨_,s1,rfl,?_⟩;simp only[bd,aq];refine Ok.call (Ol n b (by omega) (by omega) s1) ?_;rintro _ ⟨q,s2,rfl,aV,kC⟩;refine⟨_,s2,rfl,?_⟩;have fH:=fH.mono aV;have j3:=KV a;simp only[bd,aq];generalize hl:dh a=l at*
 generalize hm:dh b=m at*
 rw[Za];refine Zj _ (λk x s3=>∃i:Nat,x=[.int .i64 i]/\i<=l.length/\i<=m.length/\l.length-i<=k/\s3=s2/\cmpL l m=cmpL (l.drop i) (m.drop i))
  ?_ l.length n _ _ (by grind) (by omega)
 rintro k _ s3 ⟨i,rfl,hi,HS,hk,rfl,hc⟩ rec aQ;simp only[av,aq,Ko,au];by_cases ax:i<l.length
 .by_cases jZ:i<m.length
  .rw[show(bif decide ((i:Int)<(l.length:Int))then decide ((i:Int)<(m.length:Int))else false)=true by rw[FK,aW,xP,xP];omega,ae]
   obtain⟨j,o,rfl⟩:=fH.cB (by simp;omega);obtain⟨j2,o2,rfl⟩:=kC.cB (by simp;omega);have g1: ∀K:DV->M ah,bF j (i*1+o) K s3=K (.int .i64 (l[i]:Int)) s3:=λK=>fH.dF (d:=ic l[i]) (by simp[ax]) K
   have g2: ∀K:DV->M ah,bF j2 (i*1+o2) K s3=K (.int .i64 (m[i]:Int)) s3:=λK=>kC.dF (d:=ic m[i]) (by simp[jZ]) K
   simp only[aZ,Zb (Zi ax),Zb (Zi jZ),br];rw[g1];simp only[aX];rw[g2];simp only[aX];rw[Zp0 l m i ax jZ]at hc;by_cases h1:l[i]<m[i]
   .rw[bG h1]at hc
    rw[aw (show(l[i]:Int)<(m[i]:Int) by omega),ae,Zd];exact .mk ⟨s3,by rw[hc],aH.trans aV⟩
   .rw[ba h1]at hc
    rw[aD (show ¬(l[i]:Int)<(m[i]:Int) by omega),af,g1];simp only[aX];rw[g2];simp only[aX];by_cases h2:m[i]<l[i]
    .rw[bG h2]at hc
     rw[aw (show(l[i]:Int)>(m[i]:Int) by omega),ae,Zd];exact .mk ⟨s3,by rw[hc],aH.trans aV⟩
    .rw[ba h2]at hc
     rw[aD (show ¬(l[i]:Int)>(m[i]:Int) by omega),af,Zc];exact aQ (k-1) _ _ (by omega) ⟨i+1,rfl,by omega,by omega,by omega,rfl,hc⟩
  .rw[show(bif decide ((i:Int)<(l.length:Int))then decide ((i:Int)<(m.length:Int))else false)=false by rw[FK,Bool.and_eq_false_iff,wg,wg];omega,af]
   rw[iC ax,ze (by omega:m.length<=i)]at hc;rw[aD (show ¬(l.length:Int)<(m.length:Int) by omega),af,aw (show(l.length:Int)>(m.length:Int) by omega),ae,Zd];exact .mk ⟨s3,by rw[hc];rfl,aH.trans aV⟩
 .rw[show(bif decide ((i:Int)<(l.length:Int))then decide ((i:Int)<(m.length:Int))else false)=false by rw[FK,Bool.and_eq_false_iff,wg,wg];omega,af]
  rw[ze (by omega:l.length<=i)]at hc;by_cases h2:l.length<m.length
  .rw[aw (show(l.length:Int)<(m.length:Int) by omega),ae,Zd]
   rw[iC (show i<m.length by omega)]at hc;exact .mk ⟨s3,by rw[hc];rfl,aH.trans aV⟩
  .rw[aD (show ¬(l.length:Int)<(m.length:Int) by omega),af,aD (show ¬(l.length:Int)>(m.length:Int) by omega),af,Zd]
   rw[ze (by omega:m.length<=i)]at hc;exact .mk ⟨s3,by rw[hc];rfl,aH.trans aV⟩
end Go.Gv.F
