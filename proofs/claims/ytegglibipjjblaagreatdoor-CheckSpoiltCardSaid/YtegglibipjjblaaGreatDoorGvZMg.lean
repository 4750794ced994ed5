/- Charts that were made are right. No program in sight. -/
import Derived.Test.YtegglibipjjblaaGreatDoorGvZMf
set_option linter.all false
namespace Go.Gv.F
open Go.Gv
variable {i j k lim m n p t:Nat} {s s0:St} {c:ZS} {cs ds:ah} {img l:aj} {V W:al}
theorem Zxq (hl:W.length=V.length) (hw: ∀w∈W,w<18446744073709551616) (hv: ∀w∈V,w<18446744073709551616) (h: ∀b,du W b=du V b):W=V:=by
 refine List.ext_getElem hl λi h1 h2=>DH λj=>?_
 have a1:=hw _ (ku h1);have a2:=hv _ (ku h2);rcases kz j 64 with hj|hj
 .have:=h (64*i+j)
  unfold du at this;rw[show(64*i+j)/64=i by omega,show(64*i+j)%64=j by omega,ef,ef,cu h1,cu h2,wM,wM]at this;exact this
 .rw[If (mo a1 (oh (n:=2) (i:=64) EQ hj)),If (mo a2 (oh (n:=2) (i:=64) EQ hj))]
theorem Ak {m:Nat} : ∀(ks:ak) {W:al},W.length=(m+63)/64->∀b:Nat,du (ks.foldl (bN m) W) b=true↔du W b=true\/((b:Int)∈ks/\b<m)
 |[],W,_,b=>by simp
 |a::ks,W,hl,b=>by
  rw[BF,Ak ks (by rw[pC];exact hl) b,rD hl,mm,aY,bn,eM];grind[fN]
theorem wO (l:ak) (b:Nat):du (jl m l) b=true↔(b:Int)∈l/\b<m:=by
 unfold jl;rw[Ak l Do b,ZzJ];simp
theorem ZAy {b:Nat} (h:du W b=true):b<64*W.length:=by
 rcases kz b (64*W.length)with h1|h1
 .exact h1
 .unfold du at h
  rw[ef,H8 AC]at h;simp_all[eI]
theorem pE {k:Int} :k∈dB W↔ ∃b:Nat,k=(b:Int)/\du W b=true:=by
 rw[ZrR];constructor
 .grind
 .rintro⟨b,rfl,hb⟩
  exact oW.2 ⟨b,FN.2 ⟨uY.2 (ZAy hb),hb⟩,rfl⟩
def tf (b:aj) (k:Nat):Bool:=eI (b.getD (k/8) 0).toNat (k%8)
theorem Zy8 {b:aj} (h:k/8<b.length):tf (yx b k) j=(tf b j||decide (j=k)):=by
 unfold tf yx;rw[wM,wM,ef];by_cases hq:k/8=j/8
 .rw[<-hq,lA h]
  rw[Option.getD_some];have aw:(b.getD (k/8) 0).toNat|||2^(k%8)<256:=Nat.or_lt_two_pow (n:=8) (UInt8.toNat_lt _) (Mh EQ AC);rw[UInt8.toNat_ofNat_of_lt' aw,Nat.testBit_or,Nat.testBit_two_pow];grind
 grind
theorem Vv (p:Nat): ∀(l:ak) (b:aj),b.length=48->∀j,j<384->tf (uj p b l) j=(tf b j||decide (((384*p+j:Nat):Int)∈l))
 |[],b,_,j,_=>by
  show tf b j=_;simp
 |x::r,b,hb,j,hj=>by
  unfold uj;cases hx:inPlace p x with
  |false=>
   rw[af,Vv p r b hb j hj];grind[inPlace]
  |true=>
   unfold inPlace at hx;rw[aY,bn,bn]at hx;rw[ae,Vv p r _ (by rw[MY];exact hb) j hj,Zy8 AC,Bool.or_assoc];grind
theorem ZxL (n j:Nat):tf (List.replicate n 0) j=false:=by
 unfold tf;rw[ef,L7];unfold eI;split<;>simp
theorem Wg (h:i<384):yQ c (c.no*384+i)=tf c.dR i:=by
 grind[yQ,tf]
theorem V0 {l:ak} (h:i<384):yQ (gx p l) (p*384+i)=decide (((384*p+i:Nat):Int)∈l):=by
 have:=Wg (c:=gx p l) h;rw[show(gx p l).no=p from rfl]at this;rw[this];show tf (uj p (List.replicate 48 0) l) i=_;rw[Vv p l _ Do i h,ZxL,wD]
theorem Nv {k:Int} :k∈ft c 384↔ ∃i,i<384/\k=((c.no*384+i:Nat):Int)/\yQ c (c.no*384+i)=true:=by
 grind[ft]
theorem Ztq {l:ak} {b:Nat} :(b:Int)∈ft (gx p l) 384↔(b:Int)∈l/\b/384=p:=by
 rw[Nv,show(gx p l).no=p from rfl];constructor
 .rintro⟨i,hi,e,hh⟩
  rw[V0 hi,bn]at hh;grind
 .rintro⟨h1,h2⟩
  refine⟨b%384,Nat.mod_lt _ EQ,AC,?_⟩;rw[V0 (Nat.mod_lt _ EQ),bn,show 384*p+b%384=b by omega];exact h1
theorem Zxk {l:ak} (h: ∀k∈l,k<(m:Int)):Ds m (gx p l)=false:=by
 unfold Ds;by_cases h0:0<(ft (gx p l) 384).length
 .rw[aX h0]
  refine bM λhc=>?_
  have dQ:ft (gx p l) 384≠[]:=Fd
  have hm:(ft (gx p l) 384).getLastD 0∈ft (gx p l) 384:=by
   rw[List.getLastD_eq_getLast?,List.getLast?_eq_some_getLast dQ];simp
  have⟨i,_,e,_⟩:=Nv.1 hm;rw[e]at hm hc;have:=h _ (Ztq.1 hm).1;omega
 grind
theorem Zrd {m:Nat} {l:ak} (h: ∀k∈l,k<(m:Int)): ∀(c i:Nat) (W:al),W.length=(m+63)/64->(∀w∈W,w<18446744073709551616)->
  ∃F,Cp m i ((List.range' i c).map λp=>gx p l) W=some F/\F.length=(m+63)/64/\(∀w∈F,w<18446744073709551616)/\∀b,du F b=true↔du W b=true\/((b:Int)∈l/\384*i<=b/\b<384*(i+c))
 |0,i,W,hl,hw=>⟨W,rfl,hl,hw,Fd⟩
 |c+1,i,W,hl,hw=>by
  have⟨q1,q2⟩:=ZE m (ft (gx i l) 384) W;have⟨F,f1,f2,f3,f4⟩:=Zrd h c (i+1) ((ft (gx i l) 384).foldl (bN m) W) (by rw[q1];exact hl) (q2 hw);refine⟨F,?_,f2,f3,λb=>?_⟩
  .rw[Me,oe]
   unfold Cp;rw[show(gx i l).no=i from rfl,aS rfl,Zxk h];exact f1
  .rw[f4 b,Ak _ hl b,Ztq]
   grind
variable {β:Type}
theorem bg.Ol {a:ai} (h:bg s0 s a cs) {sz:Nat} (hz:0<sz) (hn:cs.length=n*sz) (hd:ds.length=m*sz) (hl:n+m<=lim):
  ∃p s',bg s0 s' p (cs++ds)/\∀K:ai->M β,cw sz a n ds m lim K s=K p s':=by
 rcases BI m with rfl|hm
 .rw[oZ]at hd
  rw[zW.1 hd,gM];exact⟨a,s,h,λK=>rfl⟩
 .exact h.app hz hn hm hl
def kN (l:ak):Prop:=l.Pairwise (· < ·)
theorem kN.nodup {l:ak} (h:kN l):l.Nodup:=h.imp λh e=>by omega
theorem Ga: ∀ {l m:ak},kN l->kN m->(∀k,k∈l↔k∈m)->l=m
 |[],[],_,_,_=>rfl
 |[],b::m,_,_,h=>by cases(h b).2 tV
 |a::l,[],_,_,h=>by cases(h a).1 tV
 |a::l,b::m,hl,hm,h=>by
  have h1:=List.pairwise_cons.1 hl;have h2:=List.pairwise_cons.1 hm;have e:a=b:=by
   rcases eM.1 ((h a).1 tV)with e|e
   .exact e
   .rcases eM.1 ((h b).2 tV)with e'|e'
    .exact e'.symm
    grind
  subst e;rw[Ga h1.2 h2.2 λk=>⟨λhk=>?_,λhk=>?_⟩]
  .grind
  grind
theorem Zss {l:ak} {a:Int} (hr:kN l) (h1: ∀j (x:Int),k<=j->l[j]? =some x->a<x) (h2: ∀j (x:Int),j<k->l[j]? =some x->x<a):kN (l.take k++[a]++l.drop k)/\∀b,b∈l.take k++[a]++l.drop k↔b∈l\/b=a:=by
 have iZ:l=l.take k++l.drop k:=Do
 have ht: ∀x∈l.take k,x<a:=λx hx=>by
  have⟨j,hj⟩:=List.mem_iff_getElem?.1 hx;rw[xR]at hj;split at hj
  .grind
  .cases hj
 have hd: ∀x∈l.drop k,a<x:=λx hx=>by
  have⟨j,hj⟩:=List.mem_iff_getElem?.1 hx;rw[BG]at hj;grind
 refine⟨?_,λb=>?_⟩
 .unfold kN at hr⊢
  rw[iZ,Mb]at hr;rw[fR,Mb];grind
 grind
def Mj (st:St) (l:ak) (m a:Int) (o:Out ah×St):Prop:=∃(p:ai) (r:ak) (s':St),o=(.val [.slice 1 p r.length],s')/\aA st s'/\Sl s' p (ints r)/\kN r/\∀k,k∈r↔k∈l\/(k=a/\0<=a/\a<m)
variable {Bd:Zh} [h:HA Bd]
theorem Tl (n:Nat) (l:ak) (z:Nat) (p:ai) (m a:Int) (st:St) (hz:z=1\/p=none) (hs:Sl st p (ints l)) (hr:kN l) (hl:l.length<100000:=by omega) (hn:l.length+10<=n:=by omega):
  Ok (Mj st l m a) (run Bd n 205 [.slice z p l.length,.i m,.i a] st):=by
 obtain _|n:=n;omega;rw[Ze,h.afC];unfold Uc yv az pA cN Zm bu ba Li Lb ep;simp only[Zf 1 z p _ hz,av,aq,ZJ];have stay:(a∈l\/¬(0<=a/\a<m))->Ok (Mj st l m a) ((cc st.length [DV.slice 1 p l.length]:M ah) st):=λhc=>by
  rw[Zp];have hp:aA st (Z2 st.length st):=Zq (.refl st);refine .mk ⟨p,l,_,rfl,hp,hs.mono hp,hr,λk=>⟨.inl,λhk=>hk.elim id λhk=>?_⟩⟩;grind
 have j6:(ints l).length=l.length:=by simp[ints]
 rw[Za];have body:(0<=a/\a<m)->∀b,b=decide (a∈l)->Ok (Mj st l m a) ((bif b then(cc st.length [DV.slice 1 p l.length]:M ah)else
   cT (λaaT=>aC .i64 aaT λk aaU=>aI aaU<|
     aB (decide (0<=k)&&decide (k<=(l.length:Int)))<|
     dx p (k.toNat*1) λcs=>
     cw 1 none 0 cs k.toNat 8796093022208 λp2=>
     ck [.i a] λi=>
     bX i 0 1 λbQ=>
     cw 1 p2 (0+k.toNat) bQ 1 8796093022208 λp1=>
     aB (decide (0<=k)&&decide (k<=(l.length:Int)))<|
     dx (cK true p (k.toNat*1)) ((l.length-k.toNat)*1) λcI=>
     cw 1 p1 (0+k.toNat+1) cI (l.length-k.toNat) 8796093022208 λp2=>
     cc st.length [.slice 1 p2 (0+k.toNat+1+(l.length-k.toNat))]) λaW=>
    cY (λaQ st=>
     aC .i64 st λk1 st=>
     aI st<|
     cT (λst=>gK st λb3 st=>aI st<|
      bif b3 then
       aQ [.i (ar (k1-1))]
      else
       aW [.i k1]) λbA=>
     bif decide (k1>0)then
      bJ p λi1 o=>
      aB (aP (ar (k1-1)) l.length)<|
      bD i1 (((ar (k1-1)).toNat)*1+o) λd=>
      de .i64 d λx=>
      bA [.bool (decide (x>a))]
     else
      bA [.bool false]) n [.i (l.length:Int)]) st):=by
  intro Hz b hb;cases b with
  |true=>
   rw[ae];exact stay Fd
  |false=>
  rw[af];refine Ok.join λaW kW=>?_
  refine Zj _ (λq y t=>∃k:Nat,y=[.i (k:Int)]/\k<=l.length/\k<=q/\t=st/\∀j (x:Int),k<=j->l[j]? =some x->a<x) ?_ l.length n _ _ Fd AC;rintro q y t ⟨k,rfl,hk,hq,rfl,gf⟩ rec aL;rw[av,aq];have out:(∀j (x:Int),j<k->l[j]? =some x->x<a)->Ok (Mj t l m a) (aW [DV.int .i64 (k:Int)] t):=λpX=>by
   subst kW;simp only[av,aq,br];rw[Zb (by rw[aY,bn,bn];omega)];have h1:=hs.lu k;have AR:((ints l).take k).length=k*1:=by rw[cR,j6];omega
   have e1: ∀K:ah->M ah,dx p (k*1) K t=K ((ints l).take k) t:=λK=>by
    have:=iC h1 K;rwa [AR]at this
   rw[e1];have⟨r1,s1,sb,X2⟩:=(bg.nil (aA.refl t)).Ol (β:=ah) (sz:=1) (n:=0) (m:=k) (lim:=8796093022208) (ds:=(ints l).take k) AC rfl AR AC;rw[X2];rw[iG]at sb;have⟨r2,s2,dj,tt⟩:=sb.push (β:=ah) (sz:=1) (n:=0+k) (lim:=8796093022208) [.i a] AC (by rw[AR];omega) rfl AC;rw[tt,Zb (by rw[aY,bn,bn];omega)];have h2:=(hs.mono dj.1).cK (k:=k) AC;have AS:((ints l).drop k).length=(l.length-k)*1:=by rw[eH,j6];omega
   have e2: ∀K:ah->M ah,dx (cK true p (k*1)) ((l.length-k)*1) K s2=K ((ints l).drop k) s2:=λK=>by
    rw[cS k];have:=iC h2 K;rwa [AS]at this
   rw[e2];have⟨r3,s3,kY,X3⟩:=dj.Ol (β:=ah) (sz:=1) (n:=0+k+1) (m:=l.length-k) (lim:=8796093022208) (ds:=(ints l).drop k) AC (by rw[bz,AR,iS];omega) AS AC;rw[X3,Zp];have⟨c1,c2⟩:=Zss hr gf pX;have gT:(ints l).take k++[DV.int .i64 a]++(ints l).drop k=ints (l.take k++[a]++l.drop k):=by
    simp[ints,List.map_take,List.map_drop]
   rw[gT]at kY;have ER:(l.take k++[a]++l.drop k).length=0+k+1+(l.length-k):=by
    grind
   refine .mk ⟨r3,_,_,by rw[ER],Zq kY.1,kY.sl.dU _,c1,λb=>?_⟩;rw[c2];grind
  rw[Za];by_cases mg:k=0
  .rw[aZ]
   simp only[au,aq,af];grind
  .obtain⟨i1,o1,rfl⟩:=hs.cF (by rw[j6];omega)
   have kE:k-1<l.length:=AC
   have di:(ints l)[k-1]? =some (.i l[k-1]):=ZC kE;have xi:l[k-1]? =some l[k-1]:=cu kE;have gY:l[k-1]∈l:=ku kE;rw[aX,bc,Zc,show(k:Int)-1=((k-1:Nat):Int) by omega,Zb (Zi kE),br,hs.dO di];simp only[bj,au,aq];generalize l[k-1]=w at di xi gY;by_cases hw:w>a
   .rw[aX hw]
    refine aL (k-1) _ _ AC ⟨k-1,rfl,AC,aM _,rfl,λj x hj hx=>?_⟩;by_cases vU:j=k-1
    .rw[vU,xi]at hx
     grind
    grind
   .rw[aZ hw]
    refine out λj x hj hx=>?_
    by_cases vU:j=k-1
    .rw[vU,xi]at hx
     grind
    .have C6:=(eB.1 hx)
     have⟨Bb,Kv⟩:=C6;have⟨jy,hk3⟩:=eB.1 xi;have:=Mc.1 hr j (k-1) Bb jy AC;rw[Kv,hk3]at this;omega
 by_cases ha0:a<0
 .rw[aX ha0]
  simp only[au,aq];rw[Za,ae];simp only[au,aq];rw[ae];grind
 .rw[aZ ha0]
  simp only[au,aq];rw[Za];by_cases ham:a>=m
  .rw[aX ham]
   simp_all
  .rw[aZ ham]
   refine Ok.call (BY n 1 l a p st (.inl rfl) hs) ?_;rintro _ rfl;refine⟨_,st,rfl,?_⟩;rw[au,aq];exact body ⟨AC,AC⟩ _ rfl
def yy (l:aj):aj:=cZ (pN (l.drop 4)) 4++l.drop 4
theorem Zwg (h:4<=l.length):(yy l).length=l.length:=by
 grind[yy,bz,Zy,eH]
theorem bg.wr (h:bg s0 s (some (i,0)) (bI l)) (hl:0<l.length) (hk:k<=l.length) (t:aj):
  ∃s',bg s0 s' (some (i,0)) (bI (mQ l k t))/\s'.length=s.length/\∀K:M β,rK (some (i,k)) (bI (t.take (l.length-k))) K s=K s':=by
 rcases h.2 with⟨e,_⟩|⟨j,e,hj,hs⟩
 .cases e
 .cases e
  have dX:s.gP i=some (bI l):=by grind[St.gP]
  refine⟨s.set i (some ⟨false,bI (mQ l k t)⟩),⟨rB h.1 hj _,Fd⟩,Do,λK=>?_⟩;show dG i k _ K s=_;unfold dG;rw[dX];simp only;rw[gz (by rw[Zs,Zs,cR];omega),ae,WK t hk]
theorem Zqq (n:Nat) (p:ai) (l:aj) (st:St) (hs:c9 st p l) (hl:4<=l.length) (nN:l.length<100000) (hn:l.length+40<=n):
  Ok (λo=>∃q s',o=(.val [.slice 1 q l.length],s')/\aA st s'/\lC s' q (yy l)) (run Bd n 207 [.slice 1 p l.length] st):=by
 obtain _|n:=n;omega;rw[Ze,h.afE];unfold SK bZ ta iT ba ZA
 try dsimp only
 rw[aV,aq,ZJ,Zz];have aD:aA st (st++[some ⟨false,[]⟩]):= .new _ _;have eY:=hs.mono aD;have e1: ∀K:ah->M ah,dx p (l.length*1) K (st++[some ⟨false,[]⟩])=K (bI l) (st++[some ⟨false,[]⟩]):=λK=>by
  have:=iC (show Sl _ p (bI l)from eY) K;rwa [Zs,<-cS l.length]at this
 rw[e1];have fF:bg st (st++[some (⟨false,[]⟩:bO)]) (some (st.length,0)) []:=⟨aD,Do⟩;have⟨q,s2,ho,he⟩:=fF.app (β:=ah) (sz:=1) (n:=0) (m:=l.length) (lim:=70368744177664) (ds:=bI l) AC rfl AC AC;rw[he];rw[iG]at ho;rw[Zb (aS AC)];have h4:=(hs.mono ho.1).cK (k:=4) hl;have acY:=ZmD n (cK true p 4) (l.drop 4) s2 h4 (by rw[eH];omega) (by rw[eH];omega);rw[eH]at acY;refine Ok.call acY ?_;rintro _ rfl;refine⟨_,s2,rfl,?_⟩;have cO:=NV (l.drop 4);rw[av,aq];have hw:IntKind.wrap .u64 ((pN (l.drop 4):Nat):Int)=((pN (l.drop 4):Nat):Int):=IntWalk.u64_in _ AC;rw[hw];refine Ok.cv (sQ n (pN (l.drop 4)) 4 AC s2) λs3 cz=>?_
 rw[bT,aq];have kY:=ho.mono cz;obtain⟨i,rfl⟩: ∃i,q=some (i,0):=by
  rcases kY.2 with⟨_,e⟩|⟨i,e,_⟩
  .have:=congrArg List.length e
   rw[Zs,xS]at this;omega
  .exact⟨i,e⟩
 have⟨s4,oI,_,CX⟩:=kY.wr (β:=ah) AC (k:=0) (cB _) (cZ (pN (l.drop 4)) 4);rw[eJ,lH];rw[BL]at CX;rw[CX,Zp];have vY:mQ l 0 (cZ (pN (l.drop 4)) 4)=yy l:=by
  unfold mQ yy;rw[Ib,iG,BL,dF (by rw[Zy];omega),Zy,eJ]
 rw[vY]at oI;exact .mk ⟨_,_,rfl,Zq oI.1,oI.fz⟩
structure rG where
 line:Int
 dR:Int
 w:UInt8
 again:Bool
def Cm (x:rG):ah:=[.i x.line,.i x.dR,.u x.w.toNat,.bool x.again]
def vA (l:List rG):ah:=(l.map Cm).flatten
theorem Zug (l:List rG):(vA l).length=l.length*4:=by
 unfold vA;induction l with
 |nil=>rfl
 |cons x l ih=>rw[oe,BE,bz,ih,cQ];show 4+_=_;omega
theorem ZnF: ∀ {l:List rG} {j:Nat} {x:rG},l[j]? =some x->∀k,k<4->(vA l)[j*4+k]? =(Cm x)[k]?
 |[],_,_,h,_,_=>by cases h
 |y::l,0,x,h,k,hk=>by
  cases h;show(Cm y++vA l)[0*4+k]? =_;rw[oZ,eJ,mn (by show k<4;exact hk)]
 |y::l,j+1,x,h,k,hk=>by
  show(Cm y++vA l)[(j+1)*4+k]? =_;rw[kL (by show 4<=_;omega)];show(vA l)[(j+1)*4+k-4]? =_;rw[show(j+1)*4+k-4=j*4+k by omega];exact ZnF (by simpa using h) k hk
def Cl (x:rG) (n:Nat):Nat:=(x.line%((n/64:Nat):Int)).toNat
def Cs (B:aj) (x:rG):aj:=
 (λB1:aj=>bif x.again then mQ B1 (64*Cl x B.length) (yy ((B1.drop (64*Cl x B.length)).take 64))else B1) (B.set (64*Cl x B.length+(x.dR%64).toNat) x.w)
theorem Zrc (x:rG) (h:64<=n):Cl x n<n/64:=by
 unfold Cl;have h1:=Int.emod_lt_of_pos x.line (AC:(0:Int)<((n/64:Nat):Int));have h2:=Int.emod_nonneg x.line (AC:((n/64:Nat):Int)≠0);omega
theorem ZpS {B:aj} (x:rG) (h:64<=B.length):(Cs B x).length=B.length:=by
 have:=Zrc x h;unfold Cs;simp only;cases x.again with
 |false=>rw[af,lU]
 |true=>rw[ae,Jw _ (by rw[lU];omega),lU]
def AE (B:aj) (l:List rG):aj:=l.foldl Cs B
theorem M2: ∀(l:List rG) {B:aj},64<=B.length->(AE B l).length=B.length
 |[],_,_=>rfl
 |x::l,B,h=>by
  show(AE (Cs B x) l).length=_;rw[M2 l (by rw[ZpS x h];exact h),ZpS x h]
structure SpR (l:List rG):Prop where
 line: ∀x∈l, -9223372036854775808<=x.line/\x.line<=9223372036854775807
 dR: ∀x∈l, -9223372036854775808<=x.dR/\x.dR<=9223372036854775807
theorem ZyZ (l:aj) (k:Nat) (b:UInt8) (h:k<l.length):cG (bI l) k [.u b.toNat]=bI (l.set k b):=by
 have e:l=l.take k++([l[k]]++l.drop (k+1)):=Do
 have hl:(bI (l.take k)).length=k:=by rw[Zs,cR];omega
 have:=sV (bI (l.take k)) (bI [l[k]]) (bI (l.drop (k+1))) [.u b.toNat] (by rw[Zs];rfl);rw[hl,<-Ca,<-Ca,<-e]at this;rw[this,List.set_eq_take_append_cons_drop,bG h,Ca];rfl
theorem bg.st1 (h:bg s0 s (some (i,0)) (bI l)) (hk:k<l.length) (b:UInt8):
  ∃s',bg s0 s' (some (i,0)) (bI (l.set k b))/\s'.length=s.length/\∀K:M β,dG i k [.u b.toNat] K s=K s':=by
 rcases h.2 with⟨e,_⟩|⟨j,e,hj,hs⟩
 .cases e
 .cases e
  have dX:s.gP i=some (bI l):=by grind[St.gP]
  refine⟨s.set i (some ⟨false,bI (l.set k b)⟩),⟨rB h.1 hj _,Fd⟩,Do,λK=>?_⟩;unfold dG;rw[dX];simp only;rw[gz (by rw[Zs];show k+1<=_;omega),ae,ZyZ l k b hk]
theorem Zpc (n:Nat) (pb:ai) (B:aj) (ps:ai) (z:Nat) (l:List rG) (st:St) (hb:c9 st pb B) (hz:z=4\/ps=none) (hs:Sl st ps (vA l)) (hr:SpR l) (hB:64<=B.length) (OP:B.length<1000000) (hl:l.length<100000) (hn:l.length+300<=n):
  Ok (λo=>∃q s',o=(.val [.slice 1 q B.length],s')/\aA st s'/\lC s' q (AE B l)) (run Bd n 180 [.slice 1 pb B.length,.slice z ps l.length] st):=by
 obtain _|n:=n;omega;rw[Ze,h.afl];unfold RM Q_ cN Zn cA N_ Zm mc pJ bZ ba gA kM Li
 try dsimp only
 rw[aV,Zf 4 z ps _ hz,aq,ZJ,Zz];have aD:aA st (st++[some ⟨false,[]⟩]):= .new _ _;have e1: ∀K:ah->M ah,dx pb (B.length*1) K (st++[some ⟨false,[]⟩])=K (bI B) (st++[some ⟨false,[]⟩]):=λK=>by
  have:=iC (show Sl _ pb (bI B)from hb.mono aD) K;rwa [Zs,<-cS B.length]at this
 rw[e1];have fF:bg st (st++[some (⟨false,[]⟩:bO)]) (some (st.length,0)) []:=⟨aD,Do⟩;have⟨q,s2,ho,he⟩:=fF.app (β:=ah) (sz:=1) (n:=0) (m:=B.length) (lim:=70368744177664) (ds:=bI B) AC rfl AC AC;rw[he];rw[iG]at ho;obtain⟨i,rfl⟩: ∃i,q=some (i,0):=by
  rcases ho.2 with⟨_,e⟩|⟨i,e,_⟩
  .have:=congrArg List.length e
   rw[Zs,xS]at this;omega
  .exact⟨i,e⟩
 rw[eJ];refine Ok.join λay mK=>?_
 refine Zj _ (λc y t=>∃k:Nat,y=[.i (k:Int)]/\k<=l.length/\l.length-k<=c/\bg st t (some (i,0)) (bI (AE B (l.take k)))) ?_ l.length n _ _ ⟨0,rfl,cB _,AC,by rw[Ib];exact ho⟩ AC;rintro c y t ⟨k,rfl,hk,hq,ho⟩ rec aL;rw[av,aq];by_cases aw:k<l.length
 .obtain⟨i1,o1,rfl⟩:=hs.cF (by rw[Zug];omega)
  have hx:l[k]? =some l[k]:=cu aw;have gY:l[k]∈l:=ku aw;have fM:l.take (k+1)=l.take k++[l[k]]:=lV aw;generalize l[k]=x at hx gY fM;have mG:=λj hj=>ZnF hx j hj
  have⟨B1,OO⟩: ∃B1,AE B (l.take k)=B1:=⟨_,rfl⟩;have J7:B1.length=B.length:=by rw[<-OO];exact M2 _ hB
  have ahJ:AE B (l.take (k+1))=Cs B1 x:=by
   rw[fM];unfold AE at OO⊢;rw[xQ,OO];rfl
  rw[OO]at ho;have cd:=hs.mono ho.1;have ld: ∀(j:Nat) (d:DV) (K:DV->M ah) (t:St),Sl t (some (i1,o1)) (vA l)->j<4->(Cm x)[j]? =some d->bD i1 (k*4+o1+j) K t=K d t:=λj d K t cd hj hd=>by
   have:=cd.get (β:=ah) (j:=k*4+j) (d:=d) (by rw[mG j hj];exact hd) K;rw[show k*4+o1+j=k*4+j+o1 by omega];exact this
  have hm:=Zrc x (n:=B.length) hB;have tD:=hr.line x gY;have HC:=hr.dR x gY;have hlq:0<B.length/64:=AC
  rw[aX,bc,Zb (Zi aw),br];have Bm: ∀(K:DV->M ah),bD i1 (k*4+o1) K t=K (.i x.line) t:=λK=>ld 0 _ K t cd AC rfl
  rw[Bm,bj];have ediv:ar ((B.length:Int).tdiv 64)=((B.length/64:Nat):Int):=by
   rw[show(B.length:Int).tdiv 64=((B.length/64:Nat):Int)from rfl];exact Zc
  rw[ediv];obtain _|n:=n;omega;have em:x.line%((B.length/64:Nat):Int)=(Cl x B.length:Int):=by
   unfold Cl;rw[Int.toNat_of_nonneg (Int.emod_nonneg _ AC)]
  rw[Zk (SB n x.line (B.length/64) hlq AC tD t),em,av,aq,bc,Zb (Zi aw),ld 1 _ _ t cd AC rfl,bj];have⟨oc,Po⟩: ∃oc:Nat,(x.dR%64).toNat=oc:=⟨_,rfl⟩;have eo:x.dR%((64:Nat):Int)=(oc:Int):=AC
  rw[show(DV.int .i64 64)=DV.int .i64 ((64:Nat):Int)from rfl,Zk (SB n x.dR 64 AC AC HC t),eo,av,aq,bc,Zb (Zi aw),ld 2 _ _ t cd AC rfl,bj];have⟨a,ha⟩: ∃a,Cl x B.length=a:=⟨_,rfl⟩;rw[ha]at hm⊢;rw[Zc (x:=64*(a:Int)),Zc (x:=64*(a:Int)+(oc:Int)),Zc (x:=64*(a:Int)+64),show(64*(a:Int)+(oc:Int))=((64*a+oc:Nat):Int) by omega,show(64*(a:Int)+64)=((64*a+64:Nat):Int) by omega,show(64*(a:Int))=((64*a:Nat):Int) by omega,bc,Zb (Zi)];simp only[br,cS,gQ];have⟨t2,dj,_,tt⟩:=ho.st1 (β:=ah) (k:=64*a+oc) AC x.w;rw[tt];have Ff:=hs.mono dj.1;rw[bc,Zb (Zi aw),ld 3 _ _ t2 Ff AC rfl,sH,Za];have dp:(B1.set (64*a+oc) x.w).length=B.length:=by rw[lU,J7]
  have iZ:Cs B1 x=(bif x.again then mQ (B1.set (64*a+oc) x.w) (64*a) (yy (((B1.set (64*a+oc) x.w).drop (64*a)).take 64))else B1.set (64*a+oc) x.w):=by
   unfold Cs;rw[J7,ha,Po]
  have go: ∀(t3:St),bg st t3 (some (i,0)) (bI (Cs B1 x))->Ok (λo=>∃q s',o=(.val [.slice 1 q B.length],s')/\aA st s'/\lC s' q (AE B l)) (rec [DV.int .i64 (ar ((k:Int)+1))] t3):=λt3 kY=>by
   rw[Zc];exact aL (l.length-(k+1)) _ _ AC ⟨k+1,rfl,AC,aM _,by rw[ahJ];exact kY⟩
  cases cC:x.again with
  |false=>
   rw[cC,af]at iZ;rw[af];simp only[aq];grind
  |true=>
   rw[cC,ae]at iZ;rw[ae];have⟨C,hC⟩: ∃C,B1.set (64*a+oc) x.w=C:=⟨_,rfl⟩;rw[hC]at dj iZ dp;rw[Zb (by rw[aY,bn,bn];omega),Zb (by rw[aY,bn,bn];omega),Zb (by rw[aY,bn,bn];omega),Zb (by rw[aY,bn,bn];omega),show 64*a+64-64*a=64 by omega];have qE:c9 t2 (cK true (some (i,0)) (64*a)) ((C.drop (64*a)).take 64):=(c9.cK (l:=C) dj.sl AC).lu 64;have hZ:((C.drop (64*a)).take 64).length=64:=by rw[cR,eH];omega
   have cC:=Zqq (n+1) (cK true (some (i,0)) (64*a)) ((C.drop (64*a)).take 64) t2 qE AC AC AC;rw[hZ]at cC;refine Ok.JR cC ?_;rintro _ ⟨q4,s4,rfl,fe,EJ⟩;refine⟨_,s4,rfl,?_⟩;rw[aV,aq];have xc:(yy ((C.drop (64*a)).take 64)).length=64:=by rw[Zwg AC,hZ]
   have e4: ∀K:ah->M ah,dx q4 (min 64 64) K s4=K (bI (yy ((C.drop (64*a)).take 64))) s4:=λK=>by
    have:=iC (show Sl _ q4 (bI _)from EJ.1) K;rwa [Zs,xc]at this
   rw[e4];have⟨t5,oJ,_,CY⟩:=(dj.mono fe).wr (β:=ah) AC (k:=64*a) AC (yy ((C.drop (64*a)).take 64));rw[dF AC]at CY;show Ok _ (rK (some (i,64*a+0)) _ _ s4);rw[gQ,CY];exact go t5 (by rw[iZ];exact oJ)
 .rw[aZ,mK]
  simp only[aq,Zp];rw[dF AC]at ho;exact .mk ⟨_,_,rfl,Zq ho.1,ho.fz⟩
def jC (img:aj) (k:Int):Option (aj):=if k<0\/((img.length/64:Nat):Int)<=k then none else some (nU img k.toNat)
theorem F6 (n:Nat) (img:aj) (k:Int) (st:St) (hl:img.length<1000000):
  Ok (λo=>∃s',aA st s'/\match jC img k with
   |none=>o=(.val [.slice 0 none 0,.bool false],s')
   |some l=>∃p,o=(.val [.slice 1 p 64,.bool true],s')/\lC s' p l/\l.length=64) (run Bd (n+1) 208 [.str img,.i k] st):=by
 rw[Ze,h.afF];unfold Tp oi az vi Lb
 try dsimp only
 rw[bT,av,aq,ZJ,Za];have ediv:ar ((img.length:Int).tdiv 64)=((img.length/64:Nat):Int):=by
  rw[show(img.length:Int).tdiv 64=((img.length/64:Nat):Int)from rfl];exact Zc
 unfold jC;by_cases h0:k<0
 .rw[aX h0,bG (.inl h0)]
  simp only[au,aq];rw[ae,Zp];exact .mk ⟨_,Zq (.refl st),rfl⟩
 .rw[aZ h0,ediv]
  simp only[au,aq];by_cases h1:k>=((img.length/64:Nat):Int)
  .rw[aX h1,bG (.inr h1),Zp]
   exact .mk ⟨_,Zq (.refl st),rfl⟩
  .rw[aZ h1,bq AC]
   obtain⟨a,rfl⟩: ∃a:Nat,k=(a:Int):=⟨k.toNat,AC⟩;rw[Zc (x:=64*(a:Int)),Zc (x:=64*(a:Int)+64),show(64*(a:Int)+64)=((64*a+64:Nat):Int) by omega,show(64*(a:Int))=((64*a:Nat):Int) by omega];simp only[br];rw[Zb (by rw[aY,bn,bn];omega),Zb (by rw[aY,bn,bn];omega)];have Yw:(img.take (64*a+64)).drop (64*a)=nU img a:=by
    grind[nU]
   have Pd:(nU img a).length=64:=by
    grind
   rw[Yw,Zz,Zp];have ho:bg st (st++[some (⟨false,bI (nU img a)⟩:bO)]) (some (st.length,0)) (bI (nU img a)):=⟨.new _ _,Do⟩;exact .mk ⟨_,Zq ho.1,_,by rw[Pd];rfl,ho.fz,Pd⟩
def DQ (m:Int) (l cs r:ak):Prop:=kN r/\∀k,k∈r↔k∈l\/(k∈cs/\0<=k/\k<m)
def VP (img:aj) (x:cy) (l:ak):Prop:=(∀c∈x.aJ,c∉l)/\∃r,DQ x.blocks l x.aJ r/\∀i c,x.aJ[i]? =some c->jC img c=some (ui (gx i r))
theorem Zon (n:Nat) (img:aj) (x:cy) (pc:ai) (l:ak) (p:ai) (st:St) (hc:Sl st pc (ints x.aJ)) (hs:Sl st p (ints l)) (hr:kN l) (hl:l.length<50000) (hx: ∀k∈l,0<=k/\k<1000000) (hm:x.blocks<1000000) (cO:x.aJ.length<1000) (j6:img.length<1000000) (hn:l.length+x.aJ.length+1000<=n):
  Ok (λo=>∃b s',o=(.val [.bool b],s')/\aA st s'/\(b=true↔VP img x l)) (run Bd n 178 [.str img,.agg (dq x pc),.slice 1 p l.length] st):=by
 obtain _|n:=n;omega;rw[Ze,h.afj];unfold Sj Z6 bZ fJ Q_ cN Zn qh az jI kB bu il Lb eQ Li vh ep Z7 ba
 try dsimp only
 rw[bT,dY];unfold dq;simp only[av,aV,aq];refine Ok.join λay mK=>?_
 refine Zj _ (λq y t=>∃(i:Nat) (r:ak) (p':ai),y=[.slice 1 p' r.length,.i (i:Int)]/\i<=x.aJ.length/\x.aJ.length-i<=q/\aA st t/\Sl t p' (ints r)/\kN r/\r.length<=l.length+i/\(∀c∈x.aJ.take i,c∉l)/\∀k,k∈r↔k∈l\/(k∈x.aJ.take i/\0<=k/\k<x.blocks)) ?_ x.aJ.length n _ _ ⟨0,l,p,rfl,cB _,AC,.refl _,hs,hr,AC,λc hc=>by simp at hc,λk=>Do⟩ AC;rintro q y t ⟨i,r,p',rfl,hi,hq,hp,hf,HB,De,cD,gY⟩ rec aL;rw[aV,av,aq];by_cases aw:i<x.aJ.length
 .obtain⟨i1,o1,rfl⟩:=hc.cF (by simp[ints];omega)
  have di:(ints x.aJ)[i]? =some (.i x.aJ[i]):=ZC aw;have xi:x.aJ[i]? =some x.aJ[i]:=cu aw;have fM:x.aJ.take (i+1)=x.aJ.take i++[x.aJ[i]]:=lV aw;have hmc:x.aJ[i]∈x.aJ:=ku aw;rw[aX,bc,Zb (Zi aw),br,(hc.mono hp).dO di,bj];generalize x.aJ[i]=w at di xi fM hmc;refine Ok.call (BY n 1 l w p t (.inl rfl) (hs.mono hp)) ?_;rintro _ rfl;refine⟨_,t,rfl,?_⟩;rw[au,aq];by_cases hw:w∈l
  .rw[aX hw,Zd]
   refine .mk ⟨false,t,rfl,hp,⟨λe=>(by cases e),λhP=>absurd hw (hP.1 w hmc)⟩⟩
  .rw[aZ hw,bc,Zb (Zi aw),(hc.mono hp).dO di]
   rw[bj];refine Ok.call (Tl n r 1 p' x.blocks w t (.inl rfl) hf HB) ?_;rintro _ ⟨p2,r2,s2,rfl,aU,nj,iB,fE⟩;refine⟨_,s2,rfl,?_⟩;rw[aV,aq,Zc];refine aL (x.aJ.length-(i+1)) _ _ AC ⟨i+1,r2,p2,rfl,AC,aM _,hp.trans aU,nj,iB,?_,λc hc=>?_,λk=>?_⟩
   .have:r2.length<=(w::r).length:=yp iB.nodup λk hk=>by
     grind
    rw[cQ]at this;omega
   .rw[fM]at hc
    grind
   .rw[fE,gY,fM,gI,cE]
    constructor
    .grind
    grind
 .rw[aZ,mK]
  rw[dF AC]at cD gY;have hW:DQ x.blocks l x.aJ r:=⟨HB,gY⟩;have ajI: ∀r',DQ x.blocks l x.aJ r'->r'=r:=λr' h'=>Ga h'.1 HB λk=>by rw[h'.2,gY]
  have tD: ∀k∈r,0<=k/\k<1000000:=λk hk=>by
   grind
  simp only[aV,aq];refine Ok.join λaH j7=>?_
  refine Zj _ (λq y u=>∃j:Nat,y=[.i (j:Int)]/\j<=x.aJ.length/\x.aJ.length-j<=q/\aA st u/\Sl u p' (ints r)/\∀i c,i<j->x.aJ[i]? =some c->jC img c=some (ui (gx i r))) ?_ x.aJ.length n _ _ ⟨0,rfl,cB _,AC,hp,hf,λi c hi=>AC⟩ AC;rintro q2 y2 u ⟨j,rfl,hj,Fa,KU,fS,dt⟩ dC kf;rw[av,aq];have He: ∀(c:Int) (u':St),x.aJ[j]? =some c->jC img c≠some (ui (gx j r))->aA st u'->Ok (λo=>∃b s',o=(.val [.bool b],s')/\aA st s'/\(b=true↔VP img x l)) ((ax [.bool false]:M ah) u'):=λc u' hcj dQ ajd=>by
   rw[Zd];refine .mk ⟨false,u',rfl,ajd,⟨λe=>(by cases e),?_⟩⟩;rintro⟨_,r',h1,h2⟩;rw[ajI r' h1]at h2;exact absurd (h2 j c hcj) dQ
  by_cases kX:j<x.aJ.length
  .obtain⟨i1,o1,rfl⟩:=hc.cF (by simp[ints];omega)
   have di:(ints x.aJ)[j]? =some (.i x.aJ[j]):=ZC kX;have xi:x.aJ[j]? =some x.aJ[j]:=cu kX;rw[aX,bc,Zb (Zi kX),br,(hc.mono KU).dO di,bj];generalize x.aJ[j]=w at di xi;obtain _|n:=n;omega;refine Ok.call (F6 n img w u j6) ?_;rintro o ⟨u2,aU,ho⟩;cases nO:jC img w with
   |none=>
    rw[nO]at ho;simp only at ho;subst ho;refine⟨_,u2,rfl,?_⟩;rw[Zf 1 0 none _ (.inr rfl),au,aq,Za,bp,ae];simp only[au,aq];rw[ae];exact He w u2 xi (by rw[nO];intro e;cases e) (KU.trans aU)
   |some b=>
    rw[nO]at ho;simp only at ho;obtain⟨pl,rfl,eE,hZ⟩:=ho;refine⟨_,u2,rfl,?_⟩;rw[aV,au,aq,Za,bw,af];have erd: ∀K:ah->M ah,dx pl 64 K u2=K (bI b) u2:=λK=>by
     have:=iC (show Sl _ pl (bI b)from eE.1) K;rwa [Zs,hZ]at this
    rw[erd,<-lH,rf];refine Ok.Ow (ZlY (n+1) j r p' 1 u2 (.inl rfl) (fS.mono aU) AC AC tD AC) ?_;rintro _ rfl;refine⟨_,u2,rfl,.refl _,?_⟩;rw[dY];unfold Z0;have w9:(gx j r).dR.length=48:=by
     show(uj j (List.replicate 48 0) r).length=48;rw[IJ];simp
    rw[av];unfold bC;rw[Zs,w9,oA FS,aq];refine Ok.cx (ZmY (n+1) (gx j r) w9 u2) λu3 cz=>?_
    simp only[bT,au,aq];cases uD:(b==ui (gx j r))with
    |true=>
     have uD:=eq_of_beq uD;rw[bw,af,Zc];refine kf (x.aJ.length-(j+1)) _ _ AC ⟨j+1,rfl,AC,aM _,KU.trans (aU.trans cz),fS.mono (aU.trans cz),λi c hi Hn=>?_⟩;by_cases mI:i=j
     .subst mI
      rw[xi]at Hn;cases Hn;rw[nO,uD]
     .exact dt i c AC Hn
    |false=>
     rw[bp,ae];refine He w u3 xi (λe=>?_) (KU.trans (aU.trans cz));rw[nO]at e;rw[Ih e,zZ]at uD;cases uD
  .rw[aZ,j7]
   simp only[aq,Zd];refine .mk ⟨true,u,rfl,KU,⟨λ_=>⟨cD,r,hW,λi c Hn=>dt i c ?_ Hn⟩,λ_=>rfl⟩⟩;have:=(eB.1 Hn).1;omega
theorem U0 (h:ZD l=true):l=l9 l.length:=by
 unfold ZD at h;rw[wF]at h;unfold l9;exact List.eq_replicate_iff.2 Fd
theorem ZsW (c:UInt8):sw (c.toNat:Int)=c:=by
 unfold sw;have:((c.toNat:Int)%256).toNat=c.toNat:=by
  have:=c.toNat_lt;omega
 rw[this,UInt8.ofNat_toNat]
theorem sP {b:aj} (h:fU l=some (k,t,b)):l=ja k t b/\b.length=56/\k<256/\t<256:=by
 unfold fU at h;cases hr:uo l with
 |false=>rw[hr]at h;cases h
 |true=>
  rw[hr,ae]at h;cases h;unfold uo at hr;rw[aY,aY,aY,bn,bn]at hr;have⟨rU,_,h2,h3⟩:=hr;have hb:(l.drop 8).length=56:=by rw[eH];omega
  have hf:j3 (l.drop 8) 56=l.drop 8:=by
   simp_all[j3,l9]
  have hz:=U0 h2;have sf:((l.drop 6).take 2).length=2:=by rw[cR,eH];omega
  rw[sf]at hz;have hS:qb ((l.getD 4 0).toNat:Nat) ((l.getD 5 0).toNat:Nat) (l.drop 8)=l.drop 4:=by
   unfold qb;rw[ZsW,ZsW,hf];have e1:l.drop 4=l.getD 4 0::l.getD 5 0::l.drop 6:=by
    rw[jd AC,jd (AC:4+1<l.length),ef,ef,cu AC,cu AC];rfl
   have e2:l.drop 6=[0,0]++l.drop 8:=by
    have:=oX 2 (l.drop 6);rw[hz,jG]at this;exact this.symm
   rw[e1,e2];rfl
  refine⟨?_,hb,UInt8.toNat_lt _,UInt8.toNat_lt _⟩;unfold ja;rw[hS,h3];have h4:(l.take 4).length=4:=by rw[cR];omega
  have:=NC (l.take 4);rw[h4]at this;rw[this,oX]
theorem Zuq (h:yr l=some c):l=ui c/\c.dR.length=48/\c.no<8:=by
 unfold yr at h;cases ho:fU l with
 |none=>rw[ho]at h;cases h
 |some q=>
  have⟨k,t,b⟩:=q;rw[ho]at h;simp only at h;have⟨h1,h2,h3,h4⟩:=sP ho;cases hc:(decide (k=4)&&(decide (t<8)&&ZD (b.drop 48)))with
  |false=>rw[hc]at h;cases h
  |true=>
   rw[hc,ae]at h;cases h;rw[aY,aY,bn,bn]at hc;obtain⟨rfl,h5,h6⟩:=hc;refine⟨?_,by rw[cR];omega,h5⟩;have hz:=U0 h6;have sf:(b.drop 48).length=8:=by rw[eH];omega
   rw[sf]at hz;have hf:j3 (b.take 48) 56=j3 b 56:=by
    unfold j3;have hl:(b.take 48).length=48:=by rw[cR];omega
    rw[hl,h2,<-hz,oX];simp[l9]
   rw[h1];grind[ui,ja,qb]
theorem Zyo {a b:aj} (ha:a.length=48) (hb:b.length=48) (h: ∀j,j<384->tf a j=tf b j):a=b:=by
 refine List.ext_getElem AC λi h1 h2=>?_
 refine Ii.1 (DH λj=>?_);have l1:=a[i].toNat_lt;have l2:=b[i].toNat_lt;rcases kz j 8 with hj|hj
 .have:=h (8*i+j) AC
  unfold tf at this;rw[show(8*i+j)/8=i by omega,show(8*i+j)%8=j by omega,ef,ef,cu h1,cu h2,wM,wM]at this;exact this
 .rw[If (mo l1 (oh (n:=2) (i:=8) EQ hj)),If (mo l2 (oh (n:=2) (i:=8) EQ hj))]
theorem Nl {img:aj} {m:Nat} {W:al} : ∀ {ks:ak} {cs:List ZS},w8 img m W ks=some cs↔(cs.length=ks.length/\∀(i:Nat) (k:Int),ks[i]? =some k->∃c,cs[i]? =some c/\yr (ZG img k.toNat)=some c/\(fN m k&&du W k.toNat)=false)
 |[],cs=>by
  constructor
  .intro h
   cases h;simp
  .rintro⟨h,_⟩
   rw[zW.1 h];rfl
 |k::ks,cs=>by
  unfold w8;constructor
  .intro h
   cases hg:yr (ZG img k.toNat)with
   |none=>rw[hg]at h;cases h
   |some c=>
    rw[hg]at h;simp only at h;cases hb:(fN m k&&du W k.toNat)with
    |true=>rw[hb]at h;cases h
    |false=>
     rw[hb,af]at h;cases hr:w8 img m W ks with
     |none=>rw[hr]at h;cases h
     |some cs'=>
      rw[hr]at h;cases h;have⟨h1,h2⟩:=Nl.1 hr;grind
  .rintro⟨h1,h2⟩
   cases cs with
   |nil=>cases h1
   |cons c cs=>
    have⟨c',e1,e2,e3⟩:=h2 0 k rfl;cases e1;rw[e2];simp only;rw[e3,af,Nl.2 ⟨by simpa using h1,λi k' nM=>h2 (i+1) k' (by simpa using nM)⟩];rfl
theorem Zy6 {k:Int} (h:k∈ft c 384): ∃b:Nat,k=(b:Int)/\b/384=c.no/\yQ c b=true:=by
 obtain⟨i,hi,rfl,hh⟩:=Nv.1 h;grind
theorem Zt8 (c:ZS):(ft c 384).Pairwise (· < ·):=by
 unfold ft;rw[Ia];refine List.Pairwise.imp (λ{a b} h=>?_) (List.Pairwise.sublist List.filter_sublist List.pairwise_lt_range);omega
theorem Zym :Ds m c=false↔ ∀k∈ft c 384,k<(m:Int):=by
 unfold Ds;by_cases h0:0<(ft c 384).length
 .rw[aX h0,xV]
  have dQ:ft c 384≠[]:=Fd
  have hl:(ft c 384).getLastD 0=(ft c 384).getLast dQ:=by rw[List.getLastD_eq_getLast?,List.getLast?_eq_some_getLast dQ];rfl
  rw[hl];constructor
  .intro h k hk
   have⟨i,hi⟩:=List.mem_iff_getElem?.1 hk;have⟨Kt,Ku⟩:=eB.1 hi;have Kz:(ft c 384).getLast dQ=(ft c 384)[(ft c 384).length-1]' AC:=List.getLast_eq_getElem dQ;rw[Kz]at h;rcases kz i ((ft c 384).length-1)with h1|h1
   .have:=Mc.1 (Zt8 c) i ((ft c 384).length-1) Kt AC h1
    omega
   grind
  simp_all
 grind
theorem Zo9 {m:Nat} : ∀ {cs:List ZS} {i:Nat} {W F:al},W.length=(m+63)/64->(∀w∈W,w<18446744073709551616)->Cp m i cs W=some F->
  F.length=(m+63)/64/\(∀w∈F,w<18446744073709551616)/\(∀j c,cs[j]? =some c->c.no=i+j/\∀k∈ft c 384,k<(m:Int))/\∀b:Nat,du F b=true↔du W b=true\/∃(j:Nat) (c:ZS),cs[j]? =some c/\(b:Int)∈ft c 384
 |[],i,W,F,hl,hw,h=>by
  cases h;grind
 |c::cs,i,W,F,hl,hw,h=>by
  unfold Cp at h;cases hb:(decide (c.no=i)&& !Ds m c)with
  |false=>rw[hb]at h;cases h
  |true=>
   rw[hb,ae]at h;rw[aY,bn,lT]at hb;have⟨h1,h2⟩:=hb;have h2:=Zym.1 h2;have⟨q1,q2⟩:=ZE m (ft c 384) W;have⟨f1,f2,f3,f4⟩:=Zo9 (by rw[q1];exact hl) (q2 hw) h;refine⟨f1,f2,λj c' hc'=>?_,λb=>?_⟩
   .grind
   .rw[f4 b,Ak _ hl b]
    constructor
    .rintro((h3|⟨h3,_⟩)|⟨j,c',h3,h4⟩)
     .exact .inl h3
     .exact .inr ⟨0,c,rfl,h3⟩
     .exact .inr ⟨j+1,c',by simpa using h3,h4⟩
    grind
theorem yb (W:al):kN (dB W):=by
 rw[ZrR];unfold kN;rw[Ia];refine List.Pairwise.imp (λ{a b} h=>?_) (List.Pairwise.sublist List.filter_sublist List.pairwise_lt_range);omega
theorem ZAc (h:m<=3072):qS (m:Int) 384=(((m+383)/384:Nat):Int):=by
 unfold qS;rw[Zc (x:=(m:Int)+384),Zc (x:=(m:Int)+384-1),show((m:Int)+384-1)=((m+383:Nat):Int) by omega,show(((m+383:Nat):Int).tdiv 384)=(((m+383)/384:Nat):Int)from rfl];exact Zc
theorem ZuR {x:cy} (hx:pB x) (hl:W.length=(x.blocks.toNat+63)/64) (hw: ∀w∈W,w<18446744073709551616) (hm: ∀b,du W b=true->b<x.blocks.toNat) (EN:x.blocks<=((img.length/64:Nat):Int)):Aw img x W=true↔VP img x (dB W):=by
 have⟨g1,g2,_⟩:=ZR hx.g;have⟨m,lM⟩: ∃m:Nat,x.blocks=(m:Int):=Fd
 have j8:x.blocks.toNat=m:=AC
 rw[j8]at hl hm;have cO:x.aJ.length=(m+383)/384:=by
  have:=hx.len;rw[UF hx.g,j8]at this;omega
 have j5: ∀i (k:Int),x.aJ[i]? =some k->2<=k/\k<(m:Int):=λi k hk=>by
  have hi:=(eB.1 hk).1;have h1:=(hx.ch i hi).1;rw[ef,hk]at h1;have:=(V6 x _).1 h1;rw[lM]at this;exact this
 have acz: ∀i (k:Int),x.aJ[i]? =some k->jC img k=some (ZG img k.toNat):=λi k hk=>by
  have:=j5 i k hk;grind[jC,adf]
 have h0:(jl m []).length=(m+63)/64:=by unfold jl;simp
 have J6: ∀w∈jl m [],w<18446744073709551616:=λw hw=>by
  grind[jl]
 have⟨q1,q2⟩:=ZE m (dB (jl m x.aJ)) W;have hR: ∀b:Nat,du ((dB (jl m x.aJ)).foldl (bN m) W) b=true↔du W b=true\/((b:Int)∈x.aJ/\b<m):=λb=>by
  rw[Ak _ hl b,pE];constructor
  .rintro(h|⟨⟨b',e,h⟩,h2⟩)
   .exact .inl h
   .have:b'=b:=AC
    subst this;exact .inr ((wO _ _).1 h)
  .rintro(h|h)
   .exact .inl h
   .exact .inr ⟨⟨b,rfl,(wO _ _).2 h⟩,h.2⟩
 have hWP: ∀r,DQ x.blocks (dB W) x.aJ r->∀b:Nat,(b:Int)∈r↔du W b=true\/((b:Int)∈x.aJ/\b<m):=λr hr b=>by
  rw[hr.2,pE,lM];constructor
  .rintro(⟨b',e,h⟩|⟨h1,_,h3⟩)
   .grind
   grind
  grind
 unfold Aw;rw[j8];constructor
 .intro h
  cases hg:w8 img m W x.aJ with
  |none=>rw[hg]at h;cases h
  |some cs=>
   rw[hg]at h;simp only at h;have⟨alb,ni⟩:=Nl.1 hg;cases hf:CL m cs with
   |none=>rw[hf]at h;cases h
   |some F=>
    rw[hf]at h;simp only at h;have hFe:=mW h;unfold CL at hf;cases hd:decide ((cs.length:Int)=qS (m:Int) 384)with
    |false=>rw[hd]at hf;cases hf
    |true=>
     rw[hd,ae]at hf;have⟨f1,f2,f3,f4⟩:=Zo9 h0 J6 hf;have hF: ∀b:Nat,du F b=true↔ ∃(j:Nat) (c:ZS),cs[j]? =some c/\(b:Int)∈ft c 384:=λb=>by
      rw[f4 b,wO];constructor
      .rintro(⟨h1,_⟩|h1)
       .cases h1
       .exact h1
      .exact .inr
     have ajM:DQ x.blocks (dB W) x.aJ (dB F):=by
      refine⟨yb F,λk=>?_⟩;rw[pE,pE];constructor
      .grind
      .rintro(⟨b,rfl,hb⟩|⟨h1,h2,h3⟩)
       .grind
       .refine⟨k.toNat,AC,?_⟩
        rw[hFe];refine(hR _).2 (.inr ⟨?_,AC⟩);rw[Int.toNat_of_nonneg h2];exact h1
     refine⟨λc hc gY=>?_,dB F,ajM,λi k hk=>?_⟩
     .have⟨i,hi⟩:=List.mem_iff_getElem?.1 hc
      have⟨c',_,_,e3⟩:=ni i c hi;obtain⟨b,rfl,hb⟩:=pE.1 gY;rw[br,hb,wC]at e3;unfold fN at e3;have:=j5 i _ hi;rw[aS (AC:(0:Int)<=(b:Int)),aS (AC:(b:Int)<(m:Int))]at e3;cases e3
     .have⟨c,e1,e2,e3⟩:=ni i k hk
      have⟨a1,a2,a3⟩:=Zuq e2;have⟨b1,b2⟩:=f3 i c e1;rw[eJ]at b1;rw[acz i k hk,a1];have hce:c=gx i (dB F):=by
       have w9:(gx i (dB F)).dR.length=48:=by
        show(uj i (List.replicate 48 0) (dB F)).length=48;rw[IJ];simp
       have acI:c.dR=(gx i (dB F)).dR:=by
        refine Zyo a2 w9 λj hj=>?_
        have e4:=Wg (c:=c) hj;have e5:=V0 (p:=i) (l:=dB F) hj;have e6:=Wg (c:=gx i (dB F)) hj;rw[show(gx i (dB F)).no=i from rfl]at e6;rw[<-e4,<-e6,e5,b1,lS,bn,pE];constructor
        .intro hh
         refine⟨384*i+j,rfl,(hF _).2 ⟨i,c,e1,Nv.2 ⟨j,hj,by rw[b1,DJ],by rw[b1];exact hh⟩⟩⟩
        .rintro⟨b,e,hb⟩
         have:b=384*i+j:=AC
         subst this;have⟨i',c',e7,e8⟩:=(hF _).1 hb;have⟨b',e9,J0,e11⟩:=Zy6 e8;have⟨b3,_⟩:=f3 i' c' e7;have:b'=384*i+j:=AC
         subst this;have:i'=i:=AC
         grind
       cases c with
       |mk no dR=>
        simp only at b1 acI;rw[b1,acI];rfl
      rw[<-hce]
 .rintro⟨cD,r,hr,nN⟩
  have hrm: ∀k∈r,k<(m:Int):=λk hk=>by
   rcases(hr.2 k).1 hk with h1|h1
   .obtain⟨b,rfl,hb⟩:=pE.1 h1
    have:=hm b hb;omega
   .omega
  have aii:w8 img m W x.aJ=some ((List.range' 0 x.aJ.length).map λp=>gx p r):=by
   refine Nl.2 ⟨Do,λi k hk=>?_⟩;have hi:=(eB.1 hk).1;refine⟨gx i r,?_,?_,?_⟩
   .rw[sC,List.getElem?_range' hi]
    grind
   .have h1:=nN i k hk
    rw[acz i k hk]at h1;rw[Ih h1];exact(Zwj (by show i<8;omega) (by show(uj i (List.replicate 48 0) r).length=48;rw[IJ];simp)).2
   .cases gT:du W k.toNat with
    |false=>exact DD _
    |true=>
     have:=j5 i k hk;exact absurd (pE.2 ⟨k.toNat,AC,gT⟩) (cD k (sD hk))
  have⟨F,f1,f2,f3,f4⟩:=Zrd hrm x.aJ.length 0 (jl m []) h0 J6;rw[aii];simp only;unfold CL;rw[lB,List.length_range',ZAc AC,cO,aX rfl,<-cO,f1];refine aS (Zxq (by rw[f2,q1,hl]) f3 (q2 hw) λb=>?_);rw[lS,f4 b,hR b,wO,hWP r hr b];constructor
  .grind
  .intro h1
   refine .inr ⟨h1,AC,?_⟩;rcases h1 with h1|h1
   .have:=hm b h1
    omega
   .omega
end Go.Gv.F
