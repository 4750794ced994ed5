/- Lines and words. -/
import Derived.Test.YtjcghijjmhhldaaGreatDoorGvBMd
import Derived.Test.YtjcghijjmhhldaaGreatDoorGvZLib
import Derived.Test.YtjcghijjmhhldaaGreatDoorGvZLaw
set_option linter.all false
namespace Go.Gv.F
variable {i n o p:Nat} {s' st:St} {β:Type}
theorem Zo (h:i<n:=by omega):bL (i:Int) n=true:=by unfold bL;simp;omega
theorem Zc {x:Int} (h1: -9223372036854775808<=x:=by omega) (h2:x<9223372036854775808:=by omega):aq x=x:=by
 unfold aq;exact IntWalk.i64_in _ AC
def ZtX (r:Nat):Bool:=(decide (r<32)&& !(r==9))||r==127||r==65533
def flush (w:aj):List (aj):=if w=[]then[]else[w]
def Fc:aj->aj->List (aj)
 |[],w=>flush w
 |c::r,w=>if c=35 then flush w else if c=32\/c=9 then flush w++Fc r []else Fc r (w++[c])
def ZqF (line:aj):Int×List (aj):=
 if (fZ line).any ZtX then(41,[])else if (Fc line []).length>40 then(40,[])else(0,Fc line [])
def Zt0 (w:aj):Prop:=ZqF w=(0,[w])
instance (w:aj):Decidable (Zt0 w):=inferInstanceAs (Decidable (ZqF w=(0,[w])))
theorem pN (F:(af->M β)->af->M β) (m:Nat) (st:af):dL F (m+1) st=F (dL F m) st:=rfl
theorem bV {cs:af} (h:cs.length=n) (K:M β):bK cs n K=K:=by
 simp_all[bK]
def zM (r:Int):Bool:=(decide (r>=97)&&decide (r<=122))||((decide (r>=65)&&decide (r<=90))||((decide (r>=48)&&decide (r<=57))||(r==45||(r==95||(decide (r>=161)&&decide (r<=65519))))))
def sX:af:=[.int .i32 97,.int .i32 122,.int .i32 65,.int .i32 90,.int .i32 48,.int .i32 57,.int .i32 45,.int .i32 45,.int .i32 95,.int .i32 95,.int .i32 161,.int .i32 65519]
variable {Bd:Ze} [h:HA Bd]
theorem Zoc (n:Nat) (st:St):run Bd (n+1) 54 [] st=some (.val [.agg sX],st):=by
 rw[Zb,h.e54];rfl
theorem ZqI (n:Nat) (r:Int) (st:St):run Bd (n+8) 28 [.int .i32 r] st=some (.val [.bool (zM r)],st):=by
 rw[Zb,h.e28];unfold KO Q_ bY aB Lb Li
 try dsimp only
 rw[ar,ao,Zj (Zoc (n+6) st),cU,ao,bV FS];have step: ∀(rec:af->M af) (i:Nat) (lo hi:Int),i<6->(sX.drop (i*2)).take 2=[.int .i32 lo,.int .i32 hi]->
   (λ(x:Int)=>aJ (bL x 6) (bK ((sX.drop (x.toNat*2)).take 2) 2 (fe ((sX.drop (x.toNat*2)).take 2) 0 λd=>dj .i32 d λx1=>
    dU (λst=>ko st λb1 st=>aL st<|bif b1 then au [.bool true]else rec [.i (aq (x+1))]) λaG=>
    bif decide (r>=x1)then fe ((sX.drop (x.toNat*2)).take 2) 1 λd1=>dj .i32 d1 λx2=>aG [.bool (decide (r<=x2))]else aG [.bool false]))) (i:Int)=
   bif (decide (r>=lo)&&decide (r<=hi))then au [.bool true]else rec [.i ((i+1:Nat):Int)]:=by
  intro rec i lo hi hi6 hd;simp only[bw,hd,Zg (Zo hi6),bV FS,Zc (x:=(i:Int)+1)];unfold fe;simp only[jI,nO,bm,Zsr,aA,ao,Bool.cond_false_right];rfl
 have fin: ∀(l:List (Int×Int)) (i m:Nat),i+l.length=6->(∀(k:Nat) p,l[k]? =some p->(sX.drop ((i+k)*2)).take 2=[.int .i32 p.1,.int .i32 p.2])->l.length<m->
   dL (λ(aV:af->M af) st=>az .i64 st λx st=>aL st<|bif decide (x<6)then aJ (bL x 6) (bK ((sX.drop (x.toNat*2)).take 2) 2 (fe ((sX.drop (x.toNat*2)).take 2) 0 λd=>dj .i32 d λx1=>
    dU (λst=>ko st λb1 st=>aL st<|bif b1 then au [.bool true]else aV [.i (aq (x+1))]) λaG=>
    bif decide (r>=x1)then fe ((sX.drop (x.toNat*2)).take 2) 1 λd1=>dj .i32 d1 λx2=>aG [.bool (decide (r<=x2))]else aG [.bool false]))else(aL []<|au [.bool false])) m [.i (i:Int)] st
   =some (.val [.bool (l.any λp=>decide (r>=p.1)&&decide (r<=p.2))],st):=by
  intro l;induction l with
  |nil=>
   intro i m hi _ hm;obtain⟨m,rfl⟩: ∃k,m=k+1:=by simp_all
   simp only[List.length_nil,dK]at hi;subst hi;rw[pN];rfl
  |cons p l ih=>
   intro i m hi hp hm;simp only[eK]at hi hm;obtain⟨m,rfl⟩: ∃k,m=k+1:=⟨m-1,AC⟩;rw[pN,ar,ao,aI (AC:(i:Int)<6),aa];refine(congrFun (step _ i p.1 p.2 AC (by have:=hp 0 p rfl;simpa using this)) st).trans ?_;rw[List.any_cons];cases hb:(decide (r>=p.1)&&decide (r<=p.2))with
   |true=>rfl
   |false=>
    rw[ae,ue];exact ih (i+1) m AC (λk q hq=>by have:=hp (k+1) q (by simpa using hq);rwa [show i+(k+1)=i+1+k by omega]at this) AC
 have e:zM r=[((97:Int),(122:Int)),(65,90),(48,57),(45,45),(95,95),(161,65519)].any λp=>decide (r>=p.1)&&decide (r<=p.2):=by
  grind[zM]
 rw[e,Zi];refine fin _ 0 (n+7) rfl (λk p hp=>?_) Do
 match k,hp with
 |0,hp=>cases hp;rfl
 |1,hp=>cases hp;rfl
 |2,hp=>cases hp;rfl
 |3,hp=>cases hp;rfl
 |4,hp=>cases hp;rfl
 |5,hp=>cases hp;rfl
 |k+6,hp=>simp at hp
def EX (s:aj):Bool:=decide (0<(fZ s).length)&&(decide ((fZ s).length<=8)&&(fZ s).all λr=>zM r)
theorem Zrw {s:aj} (h:p<s.length):fZ (s.drop p)=(dec s p).1::fZ (s.drop (p+(dec s p).2)):=by
 rw[ZoZ (by simp;omega),ZsU,dK,kd]
theorem Zn6 (n:Nat) (s:aj) (hn:s.length+12<=n) (hs:s.length<100000) (st:St):
  Ok (λo=>o=(.val [.bool (EX s)],st)) (run Bd n 26 [.str s] st):=by
 obtain⟨n,rfl⟩: ∃m,n=m+9:=⟨n-9,AC⟩;rw[Zb,h.e26];unfold Jn jg Dn aB bA Lb vG Li
 try dsimp only
 rw[fL,ao,Zi];refine Zn _ (λk x s2=>∃(p c:Nat),x=[.i c,.nat p]/\p<=s.length/\s.length-p<=k/\s2=st/\c<=8/\(decide (0<c+(fZ (s.drop p)).length)&&(decide (c+(fZ (s.drop p)).length<=8)&&(fZ (s.drop p)).all λr=>zM r))=EX s)
  ?_ s.length (n+8) _ _ ⟨0,0,rfl,eB _,AC,rfl,AC,by rw[ei,eG];rfl⟩ AC
 rintro k _ s2 ⟨p,c,rfl,hp,hk,rfl,hc,hb⟩ rec aQ;rw[ar,J_n,ao];by_cases aw:p<s.length
 .have hw:=EE s p
  have hle:=Zsp s p aw;rw[Zrw aw]at hb;simp only[eK,vu]at hb;have M4:Nat.blt p s.length=true:=by rw[lP];exact aw
  simp only[M4,aa,wb,pg,Zc (x:=(c:Int)+1),Zi,aA,ao];by_cases h8:c=8
  .subst h8
   rw[aK (AC:¬8+((fZ (s.drop (p+(dec s p).2))).length+1)<=8)]at hb;simp only[gN,zW]at hb;have e:decide (((8:Nat):Int)+1>8)=true:=rfl;rw[e,aa,Zh];exact .mk (by rw[hb])
  .have e:decide ((c:Int)+1>8)=false:=aK AC
   rw[e,ae,Zj (ZqI n _ s2),aA,ao];cases ho:zM ((dec s p).1:Int)with
   |false=>
    rw[cy,aa,Zh];rw[ho]at hb;simp only[gN,zW]at hb;exact .mk (by rw[hb])
   |true=>
    rw[bU,ae];rw[ho]at hb;refine aQ (s.length-(p+(dec s p).2)) _ _ AC ⟨p+(dec s p).2,c+1,rfl,hle,AC,rfl,AC,?_⟩;rw[<-hb,show c+1+(fZ (s.drop (p+(dec s p).2))).length=c+((fZ (s.drop (p+(dec s p).2))).length+1) by omega];simp
 .have e:Nat.blt p s.length=false:=by rw[Bool.eq_false_iff];simp_all
  simp only[e,ae,Zh];rw[sF AC,ZqD]at hb;refine .mk ?_;rw[<-hb];simp_all
def kL (s:St):Prop:=∀(i:Nat) (b:Option aH),tabs[i]? =some b->s[i]? =some b
theorem kL.mono {s:St} (h:kL s) (k:ax s s'):kL s':=λi b e=>k.get (h i b e)
def RS:aj:=[48,49,50,51,52,53,54,55,56,57,97,98,99,100,101,102,103,104,105,106,107,108,109,110,111,112,113,114,115,116,117,118,119,120,121,122]
def dg (n:Nat):UInt8:=RS.getD n 0
theorem Zso (cs:af):ov cs []=cs:=by cases cs<;>rfl
theorem yh (d:DV): ∀(cs:af) (p:Nat),p<cs.length->cT cs p [d]=cs.set p d
 |[],p,h=>by cases h
 |c::cs,0,_=>by show d::ov cs []=_;rw[Zso];rfl
 |c::cs,p+1,h=>by show c::cT cs p [d]=_;rw[yh d cs p (by simpa using h)];rfl
theorem J9: ∀(l:aj),na (ZR l)=some l
 |[]=>rfl
 |b::l=>by
  show(na (ZR l)).map (UInt8.ofNat _:: ·)=_;rw[J9 l];simp
theorem Dk (l:aj) (K:aj->M β):gI (ZR l) K=K l:=by unfold gI;rw[J9]
theorem AM {cs:af} (d:DV) (hp:p<cs.length) (K:M β):bB st.length p [d] K (st++[some ⟨false,cs⟩])=K (st++[some ⟨false,cs.set p d⟩]):=by
 unfold bB St.fJ;simp only[List.getElem?_concat_length,xu,fE (AC:p+1<=cs.length),aa,yh d cs p hp];rw[xx _ _ (aW _),mO];rfl
theorem AU {cs:af} (h:o+n<=cs.length) (K:af->M β):bP st.length o n K (st++[some ⟨false,cs⟩])=K ((cs.drop o).take n) (st++[some ⟨false,cs⟩]):=
 ZM (f:=false) (all:=cs) Do h K
end Go.Gv.F
namespace Go.Gv.F
theorem Zty {Bd:Ze} {n g:Nat} {args:af} {s:St} (h:Ok (λo=>∃s',o=(.val [.bool true],s')) (run Bd n g args s)): ∃n s',run Bd n g args s=some (.val [.bool true],s'):=by
 obtain⟨o,e,s',rfl⟩:=h;exact⟨n,s',e⟩
theorem Zr4 {n:Int} (h:IntKind.min .i64<=n/\n<=IntKind.max .i64): -9223372036854775808<=n/\n<=9223372036854775807:=by
 have e1:IntKind.min .i64= -9223372036854775808:=EQ
 simp_all
def tM (r:Nat):DV:= .int .i32 (r:Int)
variable {Bd:Ze} [h:HA Bd]
theorem Zjv (n:Nat) (s:aj) (hn:s.length+4<=n) (hs:s.length<1000000) (st:St):
  Ok (λo=>∃a s',o=(.val [.slice 1 a (fZ s).length],s')/\ax st s'/\Sl s' a ((fZ s).map tM)) (run Bd n 34 [.str s] st):=by
 obtain _|n:=n;omega;rw[Zb,h.e34];unfold Jt jx Dn bh vG
 try dsimp only
 rw[fL,ao,mW,Zi];refine Zn _ (λk x s1=>∃(p:Nat) (a:ah) (z:Nat) (acc:al),x=[.slice z a acc.length,.nat p]/\(z=1\/a=none)/\p<=s.length/\s.length-p<=k/\acc.length<=p/\fZ s=acc++fZ (s.drop p)/\bn st s1 a (acc.map tM))
  ?_ s.length n _ _ ⟨0,none,0,[],rfl,.inr rfl,eB _,AC,eB _,by rw[eG];rfl,bn.nil (.refl st)⟩ AC
 rintro k _ s1 ⟨p,a,z,acc,rfl,hz,hp,hk,hl,hr,ho⟩ rec aQ;simp only[J_n,Zr 1 z a _ hz,ao,bd];by_cases aw:p<s.length
 .have M4:Nat.blt p s.length=true:=by rw[lP];exact aw
  have hw:=EE s p;have hle:=Zsp s p aw;rw[M4,aa];have⟨q,s2,dA,bC⟩:=ho.push (β:=af) (sz:=1) (n:=acc.length) (lim:=17592186044416) [tM (dec s p).1] (vz 0) Do rfl AC;have:=bC (λp1=>rec [.slice 1 p1 (acc.length+1),.nat (p+pg s p)]);refine(congrArg (Ok _) this).mpr ?_;refine aQ (s.length-(p+(dec s p).2)) _ _ AC ⟨p+(dec s p).2,q,1,acc++[(dec s p).1],by simp[pg],.inl rfl,hle,AC,by simp;omega,by rw[hr,Zrw aw];simp,by simpa using dA⟩
 .have e:Nat.blt p s.length=false:=by rw[Bool.eq_false_iff];simp_all
  rw[e,ae];rw[sF AC,ZqD,gE]at hr;rw[ZE,hr];exact .mk ⟨a,_,rfl,ZK ho.1,ho.sl.jS _⟩
def cmpL:al->al->Int
 |[],[]=>0
 |[],_::_=> -1
 |_::_,[]=>1
 |a::l,b::m=>if a<b then-1 else if b<a then 1 else cmpL l m
theorem Zsg (l m:al) (i:Nat) (hl:i<l.length) (hm:i<m.length):cmpL (l.drop i) (m.drop i)=if l[i]<m[i]then-1 else if m[i]<l[i]then 1 else cmpL (l.drop (i+1)) (m.drop (i+1)):=by
 rw[il hl,il hm];rfl
theorem Zka (n:Nat) (x:Int) (st:St):run Bd (n+1) 72 [.int .i32 x] st=some (.val [.bool false],st):=by
 rw[Zb,h.e72];unfold Io Lb
 try dsimp only
 simp[ar,ao,Ad,bU,Zh]
theorem Zmv (n:Nat) (x y:Nat) (st:St):run Bd (n+2) 64 [.int .i32 x,.int .i32 y] st=some (.val [.i (if x<y then-1 else if y<x then 1 else 0)],st):=by
 rw[Zb,h.e64];unfold H2 bA vG Li;simp only[ar,ao];rw[Zj (Zka n _ st),aA,ao,Zj (Zka n _ st)];simp only[aA,ao,ae];by_cases h1:x<y
 .rw[bO h1,aI (AC:(x:Int)<(y:Int)),aa,Zh]
 .rw[cG h1,aK (AC:¬(x:Int)<(y:Int)),ae]
  by_cases h2:y<x
  .rw[bO h2,aI (AC:(x:Int)>(y:Int)),aa,Zh]
  .rw[cG h2,aK (AC:¬(x:Int)>(y:Int)),ae,Zh]
theorem ZkE (n:Nat) (l m:al) (a b:ah) (st:St) (ha:Sl st a (l.map tM)) (hb:Sl st b (m.map tM)) (hn:l.length+4<=n) (hl:l.length<1000000):
  Ok (λo=>o=(.val [.i (cmpL l m)],st)) (run Bd n 57 [.slice 1 a l.length,.slice 1 b m.length] st):=by
 obtain⟨n,rfl⟩: ∃k,n=k+3:=⟨n-3,AC⟩;rw[Zb,h.e57];unfold He bG Q_ bY N_ aX Li;simp only[bd,ao];rw[Zi];refine Zn _ (λk x s2=>∃i:Nat,x=[.i i]/\i<=l.length/\i<=m.length/\l.length-i<=k/\s2=st/\cmpL l m=cmpL (l.drop i) (m.drop i))
  ?_ l.length (n+2) _ _ Fd AC
 rintro k _ s2 ⟨i,rfl,hi,Np,hk,rfl,hc⟩ rec aQ;simp only[ar,ao];by_cases aw:i<l.length
 .rw[aI (AC:(i:Int)<(l.length:Int)),aa]
  obtain⟨j,o,rfl⟩:=ha.dP (by simp;omega);rw[aD,Zg (Zo aw),bw,ha.fj (d:=tM l[i]) (by simp[aw])];unfold tM;rw[bm];by_cases kX:i<m.length
  .rw[aK (AC:¬(i:Int)>=(m.length:Int)),ae]
   obtain⟨j2,o2,rfl⟩:=hb.dP (by simp;omega);rw[aD,Zg (Zo kX),hb.fj (d:=tM m[i]) (by simp[kX])];unfold tM;rw[bm,Zj (Zmv n l[i] m[i] s2),ar,ao];rw[Zsg l m i aw kX]at hc;by_cases h1:l[i]<m[i]
   .rw[bO h1]at hc⊢
    exact .mk (by rw[hc])
   .rw[cG h1]at hc⊢
    by_cases h2:m[i]<l[i]
    .rw[bO h2]at hc⊢
     exact .mk (by rw[hc])
    .rw[cG h2]at hc⊢
     have e:(!((0:Int)==0))=false:=rfl;rw[e,ae,Zc];exact aQ (k-1) _ _ AC ⟨i+1,rfl,AC,AC,AC,rfl,hc⟩
  .rw[aI (AC:(i:Int)>=(m.length:Int)),aa,Zh]
   rw[il aw,sF (by omega:m.length<=i)]at hc;exact .mk (by rw[hc];rfl)
 .rw[aK (AC:¬(i:Int)<(l.length:Int)),ae]
  rw[sF (by omega:l.length<=i)]at hc;by_cases h2:l.length<m.length
  .rw[aI (AC:(l.length:Int)<(m.length:Int)),aa,Zh]
   rw[il (AC:i<m.length)]at hc;exact .mk (by rw[hc];rfl)
  .rw[aK (AC:¬(l.length:Int)<(m.length:Int)),ae,Zh]
   rw[sF (by omega:m.length<=i)]at hc;exact .mk (by rw[hc];rfl)
theorem Zmh (n:Nat) (a b:aj) (hn:a.length+8<=n) (tG:b.length+8<=n) (ha:a.length<100000) (hb:b.length<100000) (st:St):
  Ok (λo=>∃s',o=(.val [.i (cmpL (fZ a) (fZ b))],s')/\ax st s') (run Bd n 39 [.str a,.str b] st):=by
 obtain _|n:=n;omega;rw[Zb,h.e39];unfold I3 dZ aX Ls Li;simp only[fL,ao];refine Ok.call (Zjv n a AC AC st) ?_;rintro _ ⟨p,s1,rfl,bj,ib⟩;refine⟨_,s1,rfl,?_⟩;rw[bd,ao];refine Ok.call (Zjv n b AC AC s1) ?_;rintro _ ⟨q,s2,rfl,bC,j3⟩;refine⟨_,s2,rfl,?_⟩;rw[bd,ao];have hr:=Zqv a;refine Ok.call (ZkE n (fZ a) (fZ b) p q s2 (ib.mono bC) j3 AC AC) ?_;rintro _ rfl;refine⟨_,s2,rfl,?_⟩;rw[ar,ao,Zh];exact .mk ⟨s2,rfl,bj.trans bC⟩
end Go.Gv.F
