/- A device made of octets: the program's layer 5, as far as it is read. -/
import Derived.Test.YtjcghijjmhhldaaGreatDoorGvZMe
set_option linter.all false
namespace Go.Gv.F
open Go.Gv
variable {β:Type}
variable {Bd:Ze} [h:HA Bd]
theorem Zm2 (n:Nat) (a:ah) (l:aj) (st:St) (ha:cC st a l) (hl:8<=l.length) (hn:12<=n):
  run Bd n 285 [.slice 1 a l.length] st=some (.val [.w (da (l.take 8))],st):=by
 have ht:(l.take 8).length=8:=by rw[dh];omega
 have h8:=Z4 n a (l.take 8) st (ha.js 8) AC hn;obtain _|n:=n;omega;rw[Zb,h.Pu]at h8⊢;unfold DI bG uG sQ cV ZD at h8⊢
 try dsimp only
 rw[ht]at h8;simp only[bd,ao]at h8⊢;have e1:(if (8:Int)<((8:Nat):Int)then(8:Int)else((8:Nat):Int))=8:=EQ
 have e2:(if (8:Int)<(l.length:Int)then(8:Int)else(l.length:Int))=8:=by
  by_cases h9:(8:Int)<(l.length:Int)
  .rw[bO h9]
  omega
 simp only[e1]at h8;rw[e2];rw[Zg EQ]at h8;rw[Zg (by rw[aZ,bD,bD];omega)];exact h8
def Zy (l:aj) (k:Nat):al:=(List.range k).map λi=>da ((l.drop (8*i)).take 8)
theorem Z1 (l:aj) (k:Nat):(Zy l k).length=k:=by simp[Zy]
theorem ZkP (l:aj) (k:Nat):Zy l (k+1)=Zy l k++[da ((l.drop (8*k)).take 8)]:=by
 simp[Zy,lN,fb]
variable {f:Bool} {R S d i k m n z:Nat} {r:Option db} {s s' st:St} {c cp:ah} {l t:aj}
theorem xW (h:i<k):(Zy l k)[i]? =some (da ((l.drop (8*i)).take 8)):=by
 grind[Zy]
theorem Kl (l m:al):Zm (l++m)=Zm l++Zm m:=by simp[Zm]
theorem Au (l:al):(Zm l).length=l.length:=by simp[Zm]
theorem Im (n:Nat) (a:ah) (l:aj) (k:Nat) (st:St) (ha:cC st a l) (hk:l.length=8*k:=by omega) (hl:l.length<1000000:=by omega) (hn:k+20<=n:=by omega):
  Ok (λo=>∃p s',o=(.val [.slice 1 p k],s')/\ax st s'/\Fz s' p (Zm (Zy l k))) (run Bd n 328 [.slice 1 a l.length] st):=by
 obtain _|n:=n;omega;rw[Zb,h.TD];unfold IN bG jx kR bh cV
 try dsimp only
 rw[bd,ao,mW,Zi];refine Zn _ (λq y s=>∃(i z:Nat) (b p:ah),y=[.slice 1 b (l.length-8*i),.slice z p i]/\(z=1\/p=none)/\i<=k/\k-i<=q/\cC st b (l.drop (8*i))/\bn st s p (Zm (Zy l i))) ?_ k n _ _ ⟨0,0,a,none,by rw[Nat.mul_zero,Nat.sub_zero],.inr rfl,eB _,AC,ha,bn.nil (.refl st)⟩ AC;rintro q _ s ⟨i,z,b,p,rfl,hz,hi,hq,hb,ho⟩ rec aQ;simp only[bd,Zr 1 z p _ hz,ao];by_cases aw:i<k
 .have iy:(l.drop (8*i)).length=l.length-8*i:=ft
  rw[aI (AC:((l.length-8*i:Nat):Int)>=8),aa];have hr:=Zm2 n b (l.drop (8*i)) s (hb.mono ho.1) AC AC;rw[iy]at hr;rw[Zj hr,ar,ao];have⟨p',s',h1,h2⟩:=ho.push (β:=af) (sz:=1) (n:=i) (lim:=8796093022208) [.w (da ((l.drop (8*i)).take 8):Nat)] AC (by rw[Au,Z1,cL]) rfl AC;rw[h2,Zg rfl];refine aQ (k-(i+1)) _ _ AC ⟨i+1,1,cR true b 8,p',by rw[show l.length-8*i-8=l.length-8*(i+1) by omega],.inl rfl,AC,AC,?_,?_⟩
  .have:=hb.cR (k:=8) AC
   rwa [kd,show 8*i+8=8*(i+1) by omega]at this
  .rw[ZkP,Kl];exact h1
 .rw[aK (AC:¬((l.length-8*i:Nat):Int)>=8),ae,ZE]
  have:i=k:=AC
  subst this;exact .mk ⟨p,_,rfl,ZK ho.1,ho.fz⟩
structure aU where
 l:Nat
 s:Nat
 t:Nat
 f:Bool
def od (c:aU):af:=[.w c.l,.w c.s,.w c.t,.bool c.f]
def ZG (cs:List aU):af:=(cs.map od).flatten
theorem Zq5 (l m:List aU):ZG (l++m)=ZG l++ZG m:=by simp[ZG]
theorem qX: ∀(l:List aU),(ZG l).length=l.length*4
 |[]=>rfl
 |w::r=>by
  have:=qX r;grind[ZG,od]
theorem ux {c:aU} {k:Nat} (hk:k<4): ∀ {l:List aU} {i:Nat},l[i]? =some c->(ZG l)[i*4+k]? =(od c)[k]?
 |[],i,h=>by simp at h
 |x::r,0,h=>by
  rw[jI,eO]at h;subst h;show(od x++ZG r)[0*4+k]? =_;rw[vA,ei,lj (by simpa [od]using hk)]
 |x::r,i+1,h=>by
  have:=ux hk (l:=r) (i:=i) (by simpa using h);show(od x++ZG r)[(i+1)*4+k]? =_;rw[iO (by show 4<=_;omega),<-this];congr 1;show(i+1)*4+k-4=_;omega
def lG (w:Nat):aU:=⟨w,w,0,false⟩
def By (z:Nat) (c:ah) (n:Nat):af:=[.slice z c n,.slice 0 none 0,.i 0,.bool false,.bool false,.i 0,.i 0]
def qR (s:St) (d:Nat) (ws:al):Prop:=∃(f:Bool) (z:Nat) (c:ah) (x1 x2 x4 x5 x6:DV) (cs:List aU),s[d]? =some (some ⟨f,[.slice z c ws.length,x1,x2,.bool false,x4,x5,x6]⟩)/\(z=4\/c=none)/\Sl s c (ZG cs)/\cs.map aU.s=ws
theorem qR.mono {s s':St} {d:Nat} {ws:al} (h:qR s d ws) (k:ax s s'):qR s' d ws:=by
 have⟨f,z,c,x1,x2,x4,x5,x6,cs,h1,h2,h3,h4⟩:=h;exact⟨f,z,c,x1,x2,x4,x5,x6,cs,k.get h1,h2,h3.mono k,h4⟩
structure ay where
 cs:List aU
 bT:ak
 at_:Nat
 off:Bool
 fN:Bool
 left:Int
 steps:Nat
def gm (z zp:Nat) (c p:ah) (D:ay):af:=[.slice z c D.cs.length,.slice zp p D.bT.length,.i D.at_,.bool D.off,.bool D.fN,.i D.left,.i (aq D.steps)]
def Dj (s:St) (d b:Nat) (c:ah) (cs:List aU):Prop:=(c=none/\cs=[])\/(c=some (b,0)/\b≠d/\s[b]? =some (some ⟨false,ZG cs⟩))
def cQ (s:St) (d b:Nat) (D:ay):Prop:=∃(z zp:Nat) (c p:ah),s[d]? =some (some ⟨false,gm z zp c p D⟩)/\(z=4\/c=none)/\(zp=1\/p=none)/\Fz s p (ints D.bT)/\Dj s d b c D.cs
theorem Dj.sl {b:Nat} {cs:List aU} (h:Dj s d b c cs):Sl s c (ZG cs):=by
 rcases h with⟨rfl,rfl⟩|⟨rfl,_,h⟩
 .rfl
 .exact⟨false,_,h,Do,Do⟩
theorem cQ.RR {b:Nat} {D:ay} (h:cQ s d b D) (ho:D.off=false):qR s d (D.cs.map aU.s):=by
 have⟨z,zp,c,p,h1,h2,_,_,h5⟩:=h;refine⟨false,z,c,.slice zp p D.bT.length,.i D.at_,.bool D.fN,.i D.left,.i (aq D.steps),D.cs,?_,h2,h5.sl,rfl⟩;rw[dE,h1,gm,ho]
def mg (cs:List aU):ay:=⟨cs,[],0,false,false,0,0⟩
theorem Zom (n:Nat) (a:ah) (l:aj) (st:St) (ha:cC st a l) (hl:l.length<262144) (hn:40000<=n):
  Ok (λo=>∃d b s',o=(.val [.ptr (some (d,0))],s')/\ax st s'/\st.length<=d/\st.length<=b/\b<s'.length/\cQ s' d b (mg ((Zy l (8*(l.length/64))).map lG))) (run Bd n 325 [.slice 1 a l.length] st):=by
 obtain _|n:=n;omega;rw[Zb,h.TA];unfold JX bG dZ Q_ bY ZF bh Lp Li
 try dsimp only
 rw[bd,ao,Zv];have⟨k,hk⟩: ∃k,l.length/64=k:=⟨_,rfl⟩;have e1:aq (Int.tdiv (l.length:Int) 64)=(k:Int):=by
  rw[Int.tdiv_eq_ediv_of_nonneg AC];exact(Zc).trans AC
 have e2:(if (4096:Int)<(k:Int)then(4096:Int)else(k:Int))=(k:Int):=cG AC;have e3:aq ((k:Int)*64)=((64*k:Nat):Int):=by
  rw[show((k:Int)*64)=((64*k:Nat):Int) by omega];exact Zc
 rw[e1,e2,e3,bw,Zg (by rw[aZ,bD,bD];omega)];have jY:=ax.new st (some (⟨false,[.slice 0 none 0,.slice 0 none 0,.i 0,.bool false,.bool false,.i 0,.i 0]⟩:aH));have rI:(st++[some (⟨false,[.slice 0 none 0,.slice 0 none 0,.i 0,.bool false,.bool false,.i 0,.i 0]⟩:aH)])[st.length]? =some (some ⟨false,By 0 none 0⟩):=by simp[By]
 generalize (st++[some (⟨false,[.slice 0 none 0,.slice 0 none 0,.i 0,.bool false,.bool false,.i 0,.i 0]⟩:aH)])=s1 at jY rI;have wR:(l.take (64*k)).length=64*k:=by rw[dh];omega
 have hw:=Im n a (l.take (64*k)) (8*k) s1 ((ha.mono jY).js _);rw[wR]at hw;refine Ok.call hw ?_;rintro _ ⟨p,s2,rfl,bC,jV⟩;refine⟨_,s2,rfl,?_⟩;have ew:Zy (l.take (64*k)) (8*k)=Zy l (8*k):=by
  unfold Zy;refine List.map_congr_left λi hi=>?_
  rw[vw]at hi;rw[xm,List.take_take,je AC]
 rw[ew]at jV;rw[bd,ao,Zi];refine Zn _ (λq y s=>∃(i z:Nat) (c:ah),y=[.i i]/\i<=8*k/\8*k-i<=q/\Fz s p (Zm (Zy l (8*k)))/\s[st.length]? =some (some ⟨false,By z c i⟩)/\(z=4\/c=none)/\bn st s c (ZG ((Zy l i).map lG))/\∀o,c≠some (st.length,o)) ?_ (8*k) n _ _ ⟨0,0,none,rfl,eB _,AC,jV,bC.get rI,.inr rfl,bn.nil (jY.trans bC),λo e=>by cases e⟩ AC;rintro q _ s ⟨i,z,c,rfl,hi,hq,hf,hd,hz,ho,cS⟩ rec aQ;simp only[ar,ao];by_cases aw:i<8*k
 .rw[aI (AC:(i:Int)<((8*k:Nat):Int)),aa]
  obtain⟨i1,o1,rfl⟩:=hf.1.dP (by rw[Au,Z1];omega);have hg:=xW (l:=l) aw;have rL:(Zm (Zy l (8*k)))[i]? =some (.w (da ((l.drop (8*i)).take 8):Nat)):=by unfold Zm;rw[jJ,hg];rfl
  rw[aD,Zg (Zo aw),bw,hf.1.fj rL,bm,Zf (d:= .slice z c i) hd rfl,Zu 4 z c i hz];have⟨c',s',h0,h1,h2,h3,h4⟩:=ho.GM (β:=af) (sz:=4) (n:=i) (lim:=2199023255552) [.w (da ((l.drop (8*i)).take 8):Nat),.w (da ((l.drop (8*i)).take 8):Nat),.w 0,.bool false] AC (by rw[qX,dE,Z1]) rfl AC;rw[h4];have dO:s'[st.length]? =some (some ⟨false,By z c i⟩):=h3 st.length _ hd cS;have zk:st.length<s.length:=Fd
  rw[Zs dO (by show 0<7;omega),Zc];have fV:s'[c']? =some (some ⟨false,ZG ((Zy l i).map lG)++[.w (da ((l.drop (8*i)).take 8):Nat),.w (da ((l.drop (8*i)).take 8):Nat),.w 0,.bool false]⟩):=by
   rcases h1.2 with⟨e,_⟩|⟨j,e,_,h5⟩
   .cases e
   .cases e;exact h5
  refine aQ (8*k-(i+1)) _ _ AC ⟨i+1,4,some (c',0),rfl,AC,AC,(hf.kp h2).kp (Kp.set dO _),?_,.inl rfl,?_,λo e=>by cases e;omega⟩
  .rw[eJ (cF.1 dO).1]
   rfl
  .refine⟨kP h1.1 (aW _) _,.inr ⟨c',rfl,AC,?_⟩⟩
   rw[cz AC,fV,ZkP,fb,Zq5];rfl
 .rw[aK (AC:¬(i:Int)<((8*k:Nat):Int)),ae,Zh]
  have:i=8*k:=AC
  subst this;rw[hk];have fy:((Zy l (8*k)).map lG).length=8*k:=by rw[dE,Z1]
  have dO:s[st.length]? =some (some ⟨false,gm z 0 c none (mg ((Zy l (8*k)).map lG))⟩):=by
   rw[hd];unfold gm By mg;rw[fy];rfl
  rcases ho.2 with⟨h1,h2⟩|⟨b,rfl,h1,h2⟩
  .have:=congrArg List.length h2
   rw[qX,fy]at this;exact .mk ⟨st.length,st.length,s,rfl,ho.1,aW _,aW _,(cF.1 hd).1,z,0,c,none,dO,hz,.inr rfl,Fz.nil s,.inl ⟨h1,vv (by show((Zy l (8*k)).map lG).length=0;rw[fy];simp at this;omega)⟩⟩
  .exact .mk ⟨st.length,b,s,rfl,ho.1,aW _,h1,(cF.1 h2).1,z,0,_,none,dO,hz,.inr rfl,Fz.nil s,.inr ⟨rfl,λe=>cS 0 (by rw[e]),h2⟩⟩
theorem Dz (n d:Nat) {r:af} (st:St) (h1:st[d]? =some (some ⟨f,.slice z c m::r⟩)) (h2:z=4\/c=none) (hl:m<1000000):run Bd (n+1) 335 [.ptr (some (d,0))] st=some (.val [.i ((m/8:Nat):Int)],st):=by
 rw[Zb,h.TK];unfold HC ck Li
 try dsimp only
 rw[bF,ao,aD,Zf (d:= .slice z c m) h1 rfl,Zu 4 z c _ h2,Zh];have:aq (Int.tdiv (m:Int) 8)=((m/8:Nat):Int):=by
  rw[Int.tdiv_eq_ediv_of_nonneg AC];exact(Zc).trans AC
 rw[this]
theorem DE (n d:Nat) (x y:Int) {o:Bool} {x0 x1 x2:DV} {r:af} (st:St) (h1:st[d]? =some (some ⟨f,x0::x1::x2:: .bool o::r⟩)):run Bd (n+1) 336 [.ptr (some (d,0)),.i x,.i y] st=some (.val [.i (bif o then 3 else bif decide (x<0)||decide (x>=y)then 2 else 0)],st):=by
 rw[Zb,h.TL];unfold HO uD lW aB Li Lb;simp only[bF,ar,ao,aD];rw[Zf (d:= .bool o) h1 rfl];simp only[qQ,Zi,aA,ao];cases o with
 |true=>rfl
 |false=>
  rw[ae,ae];cases decide (x<0)with
  |true=>rfl
  |false=>
   rw[ae,ue];cases decide (x>=y)<;>rfl
theorem ZmB (n d:Nat) (ws:al) (i w:Nat) (st:St) (hd:qR st d ws) (hi:ws[i]? =some w):run Bd (n+2) 333 [.ptr (some (d,0)),.i i] st=some (.val [.w w,.i 0],st):=by
 have aw:i<ws.length:=Fd
 have⟨f,z,c,_,_,_,_,_,cs,h1,h2,h3,h4⟩:=hd;have hm:=DE n d i ws.length st h1;rw[Zb,h.TI];unfold Hm gy aX N_ ZL kf ZD
 try dsimp only
 rw[bF,ar,ao,aD,Zf (d:= .slice z c ws.length) h1 rfl,Zu 4 z c _ h2,Zj hm,aK (AC:¬(i:Int)<0),aK (AC:¬(i:Int)>=(ws.length:Int)),xl,ae,ae,ar,ao];show bc d 0 _ st=_;rw[Zf (d:= .slice z c ws.length) h1 rfl,Zu 4 z c _ h2];have eu:cs.length=ws.length:=by rw[<-h4,dE]
 obtain⟨i1,o1,rfl⟩:=h3.dP (by rw[qX];omega);have⟨x,hx⟩: ∃x,cs[i]? =some x:=⟨_,dt AC⟩;have hw:x.s=w:=by rw[<-h4,jJ,hx]at hi;cases hi;rfl
 subst hw;rw[aD,Zg (Zo aw),bw,show i*4+o1+1=(i*4+1)+o1 by omega,h3.get ((ux EQ hx).trans rfl)];rfl
theorem Zkb (n d:Nat) (x:Int) {r:af} (st:St) (h1:st[d]? =some (some ⟨f,.slice z c m::r⟩)) (h2:z=4\/c=none) (hl:m<1000000):run Bd (n+2) 331 [.ptr (some (d,0)),.i x] st=some (.val [.i (bif decide (x<0)||decide (x>=((m/8:Nat):Int))then 2 else 0)],st):=by
 rw[Zb,h.TG];unfold JE gy aB aX Li Lb Lp;simp only[bF,ar,ao,Zi,pF,ae,aA];cases decide (x<0)with
 |true=>rfl
 |false=>
  rw[ae,ue,Zj (Dz n d st h1 h2 hl),ar,ao];cases decide (x>=((m/8:Nat):Int))<;>rfl
theorem Zqf (v i:Nat):cI v (i+1)=cI v i++[UInt8.ofNat (v/256^i)]:=by rw[Lj];rfl
theorem Zqs (w:Nat):IntKind.wrap .u8 (w:Int)=((UInt8.ofNat w).toNat:Int):=by
 rfl
theorem Ll {A:af} {z d:DV} (h:A.length=i) (hi:i<n):(A++List.replicate (n-i) z).set i d=(A++[d])++List.replicate (n-(i+1)) z:=by
 rw[xx _ _ AC,h,mO,show n-i=(n-(i+1))+1 by omega,List.replicate_succ,List.set_cons_zero,gX];rfl
theorem DH (n v k:Nat) (st:St) (hk:k<=8:=by omega) (hn:12<=n:=by omega):
  Ok (λo=>∃p s',o=(.val [.slice 1 p k],s')/\ax st s'/\jv s' p (cI v k)) (run Bd n 337 [.w v,.i k] st):=by
 obtain _|n:=n;omega;rw[Zb,h.TM];unfold JR uA aB Q_ sQ iP bh ZD Lb;simp only[ar,aA,ao,mW,Zi];rw[aK (AC:¬(k:Int)<0),aK (AC:¬(k:Int)>8),ae,ae,Zg (by rw[aZ,aZ,bD,bD,bD];omega),Zv,bw,qZ];refine Zn _ (λq y s=>∃i:Nat,y=[.w ((v/256^i:Nat):Int),.i i]/\i<=k/\k-i<=q/\s=st++[some ⟨false,aN (cI v i)++List.replicate (k-i) (.u 0)⟩]) ?_ k n _ _ ⟨0,Do,AC,AC,by simp[aN,cI]⟩ AC;rintro q _ s ⟨i,rfl,hi,hq,rfl⟩ rec aQ;simp only[ar,ao];have dY:(aN (cI v i)).length=i:=by rw[Zp,ZH]
 by_cases aw:i<k
 .rw[aI (AC:(i:Int)<(k:Int)),aa,Zg (Zo aw),bw,cL,AM _ (by rw[cq,dY,qO];omega),Ll dY aw,Zc,show((2:Int)^8)=((256:Nat):Int) by decide,vY]
  refine aQ (k-(i+1)) _ _ AC ⟨i+1,by rw[Nat.div_div_eq_div_mul,<-Nat.pow_succ];rfl,AC,AC,?_⟩;rw[Zqf,pJ,Zqs];rfl
 .rw[aK (AC:¬(i:Int)<(k:Int)),ae,ZE]
  have:i=k:=AC
  subst this;have wO:=ax.new st (some (⟨false,aN (cI v i)++List.replicate (i-i) (.u 0)⟩:aH));have Cf:bn st (st++[some (⟨false,aN (cI v i)++List.replicate (i-i) (.u 0)⟩:aH)]) (some (st.length,0)) (aN (cI v i)):=⟨wO,Do⟩;exact .mk ⟨_,_,rfl,ZK wO,Cf.fz⟩
def df (W:al):aj:=(W.map λw=>cI w 8).flatten
theorem ye: ∀(W:al),(df W).length=8*W.length
 |[]=>rfl
 |w::r=>by
  have:=ye r;unfold df at this⊢;rw[pC,zZ,cq,this,ZH,eK];omega
theorem Znp (V W:al):df (V++W)=df V++df W:=by simp[df]
theorem Iw (n:Nat) (a:ah) (W:al) (st:St) (ha:Sl st a (Zm W)) (hl:W.length<1000000) (hn:W.length+20<=n):
  Ok (λo=>∃p s',o=(.val [.slice 1 p (8*W.length)],s')/\bn st s' p (aN (df W))) (run Bd n 332 [.slice 1 a W.length] st):=by
 obtain _|n:=n;omega;rw[Zb,h.TH];unfold H9 bG jx oG ZF dZ bh ZD gj lT;simp only[bd,ao,Zi];refine Zn _ (λq y s=>∃(i z:Nat) (p:ah),y=[.slice z p (8*i),.i i]/\(z=1\/p=none)/\i<=W.length/\W.length-i<=q/\bn st s p (aN (df (W.take i)))) ?_ W.length n _ _ ⟨0,0,none,rfl,.inr rfl,eB _,AC,bn.nil (.refl st)⟩ AC;rintro q _ s ⟨i,z,p,rfl,hz,hi,hq,ho⟩ rec aQ;rw[Zr 1 z p _ hz,ar,ao];by_cases aw:i<W.length
 .obtain⟨i1,o1,rfl⟩:=ha.dP (by rw[Au];omega)
  have rL:(Zm W)[i]? =some (.w (W[i]:Nat)):=by grind[Zm]
  rw[aI (AC:(i:Int)<(W.length:Int)),aa,aD,Zg (Zo aw),bw,(ha.mono ho.1).fj rL,bm];refine Ok.call (DH n W[i] 8 s) ?_;rintro _ ⟨p',s1,rfl,bj,hf⟩;refine⟨_,s1,rfl,?_⟩;rw[bd,ao];have Ny:(aN (cI W[i] 8)).length=8*1:=by rw[Zp,ZH]
  have dG:=kA (β:=af) hf.l9;rw[Ny]at dG;rw[dG];have⟨p2,s2,h1,h2⟩:=(ho.mono bj).app (β:=af) (sz:=1) (n:=8*i) (m:=8) (lim:=70368744177664) (ds:=aN (cI W[i] 8)) AC (by rw[Zp,ye,dh];omega) AC AC;rw[h2,Zc];refine aQ (W.length-(i+1)) _ _ AC ⟨i+1,1,p2,rfl,.inl rfl,AC,AC,?_⟩;rw[xy,dt aw,Znp,pJ,show df (some W[i]).toList=cI W[i] 8 by simp[df]];exact h1
 .rw[aK (AC:¬(i:Int)<(W.length:Int)),ae,Zh]
  have:i=W.length:=AC
  subst this;rw[lO]at ho;exact .mk ⟨p,_,rfl,ho⟩
theorem Zro: ∀(l:aj) (k:Nat),8*k<=l.length->((List.range k).map λi=>(l.drop (8*i)).take 8).flatten=l.take (8*k)
 |l,0,_=>by simp
 |l,k+1,h=>by
  rw[lN,fb,List.flatten_append,Zro l k AC,show 8*(k+1)=8*k+8 by omega,List.take_add];simp
theorem ZpV (h:8*k<=l.length):df (Zy l k)=l.take (8*k):=by
 rw[<-Zro l k h];unfold df Zy;rw[List.map_map];congr 1;refine List.map_congr_left λi hi=>?_
 rw[vw]at hi;have:((l.drop (8*i)).take 8).length=8:=by rw[dh,ft];omega
 show cI (da ((l.drop (8*i)).take 8)) 8=_;have h2:=ZpA ((l.drop (8*i)).take 8);rwa [this]at h2
def tP (l:aj) (k:Nat):aj:=(l.drop (64*k)).take 64
theorem ZnY (n d:Nat) (l:aj) (at':Nat) (st:St) (hd:qR st d (Zy l (8*(l.length/64)))) (hl:l.length<262144) (oS:at'<1000000) (hn:100<=n):
  Ok (λo=>∃s',ax st s'/\if at'<l.length/64 then ∃p,o=(.val [.slice 1 p 64,.i 0],s')/\cC s' p (tP l at')else o=(.val [.slice 0 none 0,.i 2],s')) (run Bd n 329 [.ptr (some (d,0)),.i at'] st):=by
 obtain⟨n,rfl⟩: ∃m,n=m+3:=⟨n-3,AC⟩;have⟨_,_,_,_,_,_,_,_,_,g1,g2,_⟩:=hd;have hm:=Zkb n d at' st g1 g2 (by rw[Z1];omega);rw[Zb,h.TE];unfold J8 gy aX Q_ dZ bY uA cP lT bh gj cV Li
 try dsimp only
 rw[bF,ar,ao,Zj hm,Z1,Nat.mul_div_cancel_left _ AC,aK (AC:¬(at':Int)<0),ue,ar,ao];by_cases aw:at'<l.length/64
 .rw[aK (AC:¬(at':Int)>=((l.length/64:Nat):Int)),ae,show(!((0:Int)==0))=false from rfl,ae,Zv]
  simp only[bO aw,Zi];have tr:([.w 0,.w 0,.w 0,.w 0,.w 0,.w 0,.w 0,.w 0]:af)=List.replicate 8 (.w 0):=rfl;rw[tr];have⟨W,hW⟩: ∃W,Zy (tP l at') 8=W:=⟨_,rfl⟩;have qg:W.length=8:=by rw[<-hW,Z1]
  have iT: ∀i,i<8->(Zy l (8*(l.length/64)))[at'*8+i]? =W[i]? :=λi hi=>by
   rw[<-hW,xW AC,xW hi];grind[tP,xm,kd]
  refine Zn _ (λq y s=>∃i:Nat,y=[.i i]/\i<=8/\8-i<=q/\s=st++[some ⟨false,Zm (W.take i)++List.replicate (8-i) (.w 0)⟩]) ?_ 8 (n+2) _ _ ⟨0,rfl,AC,AC,by simp[Zm]⟩ AC;rintro q _ s ⟨i,rfl,hi,hq,rfl⟩ rec aQ;simp only[ar,ao];have mB:(Zm (W.take i)).length=i:=by rw[Au,dh];omega
  by_cases Nq:i<8
  .have M1:W[i]? =some (W[i]' AC):=dt _
   generalize W[i]' AC=w at M1;have BZ:=ZmB n d _ (at'*8+i) w _ (hd.mono (ax.new st (some (⟨false,Zm (W.take i)++List.replicate (8-i) (.w 0)⟩:aH)))) (by rw[iT i Nq];exact M1);have e1:aq (aq ((at':Int)*8)+(i:Int))=((at'*8+i:Nat):Int):=by
    have:aq ((at':Int)*8)=((at'*8:Nat):Int):=by
     rw[show(at':Int)*8=((at'*8:Nat):Int) by omega];exact Zc
    rw[this,<-Int.natCast_add];exact Zc
   rw[aI (AC:(i:Int)<8),aa,e1,Zj BZ];simp only[ar,ao];rw[show(!((0:Int)==0))=false from rfl,ae,Zg (Zo Nq),bw,cL,dK,AM _ (by rw[cq,mB,qO];omega),Ll mB Nq,Zc];refine aQ (8-(i+1)) _ _ AC ⟨i+1,rfl,AC,AC,?_⟩;rw[xy,M1,Kl];rfl
  .have:i=8:=AC
   subst this;rw[aK (AC:¬((8:Nat):Int)<8),ae];have ht:W.take 8=W:=Fd
   rw[ht];have wO:=ax.new st (some (⟨false,Zm W++List.replicate (8-8) (.w 0)⟩:aH));have tB:(st++[some (⟨false,Zm W++List.replicate (8-8) (.w 0)⟩:aH)])[st.length]? =some (some ⟨false,Zm W⟩):=Do
   generalize (st++[some (⟨false,Zm W++List.replicate (8-8) (.w 0)⟩:aH)])=s1 at wO tB;have Cv:(Zm W).length=8:=by rw[Au];exact qg
   rw[ZM tB AC];have eD:Sl s1 (some (st.length,0)) (Zm W):=⟨false,_,tB,AC,by rw[eG,dJ AC]⟩;have ho:=Iw (n+2) (some (st.length,0)) W s1 eD AC AC;rw[qg]at ho;refine Ok.call ho ?_;rintro _ ⟨p,s2,rfl,hf⟩;refine⟨_,s2,rfl,?_⟩;rw[bd,ao,Zh];refine .mk ⟨s2,wO.trans hf.1,p,rfl,?_⟩;have iL:(tP l at').length=64:=by unfold tP;rw[dh,ft];omega
   rw[<-hW,ZpV AC,dJ AC]at hf;exact hf.sl
 .rw[aI (AC:(at':Int)>=((l.length/64:Nat):Int)),aa,show(!((2:Int)==0))=true from rfl,aa,Zh]
  simp only[cG aw];exact .mk ⟨st,.refl st,rfl⟩
def qI (t:aj) (n:Nat):db where
 seq:=bZ t 0 8
 blocks:=bZ t 8 4
 ef:=bZ t 12 4
 g:=bZ t 16 4
 de:=bZ t 28 2
 used:=bZ t 20 4
 free:=bZ t 24 4
 dir:=bZ t 30 2
 bg:=(List.range n).map λj=>bZ t (32+2*j) 2
def yU (l:aj):Option db:=match lH l with
 |none=>none
 |some (k,n,t)=>bif decide (k=7)&&decide (n<=8)then(bif lV (qI t n)&&ZV (t.drop (32+2*n))then some (qI t n)else none)else none
structure Gs (t:List UInt8) (S R:Nat) (st s:St) (cs:List DV) (k:Nat):Prop where
 pre:ax st s
 le:st.length<=S/\st.length<=R/\S≠R
 cl:s[S]? =some (some ⟨false,cs⟩)
 rd: ∃y,s[R]? =some (some ⟨false,[.slice 1 y (56-k)]⟩)/\jv s y (t.drop k)
theorem AS (n:Nat) {cs:af} (g:Gs t S R st s cs k) (j:Nat) (x:Int) (hx:x=(j:Int)) (ht:t.length=56) (hj:j<=8:=by omega) (hk:k+j<=56:=by omega) (hn:20<=n:=by omega):
  ∃s',run Bd n 334 [.ptr (some (R,0)),.i x] s=some (.val [.i (bZ t k j)],s')/\Gs t S R st s' cs (k+j)/\Kp s s'/\s'.length=s.length/\∀b,b≠R->s'[b]? =s[b]? :=by
 subst hx;obtain _|n:=n;omega;have⟨y,hr,hf⟩:=g.rd;have iy:(t.drop k).length=56-k:=by rw[ft,ht]
 refine⟨s.set R (some ⟨false,[.slice 1 (cR true y j) (56-k-j)]⟩),?_,⟨kP g.pre g.le.2.1 _,g.le,?_,cR true y j,?_,?_⟩,Kp.set hr _,kH,Fd⟩
 .rw[Zb,h.TJ]
  unfold Hl gy kR bh Li;simp only[bF,ar,ao,aD];rw[Zf (d:= .slice 1 y (56-k)) hr rfl,eH,Zg (by rw[aZ,bD,bD];omega),bw];have zA:((t.drop k).take j).length=j:=by rw[dh];omega
  have dG:=Z4 n y ((t.drop k).take j) s (hf.l9.js j);rw[zA]at dG;rw[Zj dG,ar,ao,Zf (d:= .slice 1 y (56-k)) hr rfl,eH,Zg (by rw[aZ,bD,bD];omega),cL,Zs hr (by show 0<1;omega)];rfl
 .rw[cz (λe=>g.le.2.2 e.symm)];exact g.cl
 .rw[eJ (cF.1 hr).1,show 56-(k+j)=56-k-j by omega]
 .have:=(hf.kp (Kp.set hr (some ⟨false,[.slice 1 (cR true y j) (56-k-j)]⟩))).cR (k:=j) AC
  rwa [kd]at this
theorem Gs.store {cs:af} (g:Gs t S R st s cs k) (j:Nat) (d:DV) (hj:j<cs.length):
  ∃s',(∀K:M β,bB S j [d] K s=K s')/\Gs t S R st s' (cs.set j d) k/\Kp s s'/\s'.length=s.length/\∀b,b≠S->s'[b]? =s[b]? :=by
 have⟨y,hr,hf⟩:=g.rd;refine⟨s.set S (some ⟨false,cs.set j d⟩),λK=>Zs g.cl hj K,⟨kP g.pre g.le.1 _,g.le,eJ (cF.1 g.cl).1,y,?_,hf.kp (Kp.set g.cl _)⟩,Kp.set g.cl _,kH,Fd⟩;rw[cz g.le.2.2];exact hr
def Da (z:Nat):af:=[.i 0,.i 0,.i 0,.i 0,.i 0,.i 0,.i 0,.i 0,.slice z none 0]
def mZ:af:=Da 0
def qU (st:St) (r:Option db) (o:Out af×St):Prop:=∃s',ax st s'/\match r with
 |none=>∃z,o=(.val [.agg (Da z),.bool false],s')
 |some x=>∃p,o=(.val [.agg (cN x p),.bool true],s')/\Sl s' p (ints x.bg)
theorem Gs.but {cs:af} (g:Gs t S R st s cs k) (hp:ax st s') (hk:Kp s s') (hb:mQ cp s s') (h1: ∀o,cp≠some (S,o)) (h2: ∀o,cp≠some (R,o)):Gs t S R st s' cs k:=by
 have⟨y,hr,hf⟩:=g.rd;exact⟨hp,g.le,hb S _ g.cl h1,y,hb R _ hr h2,hf.kp hk⟩
def wj (i:Nat):Nat:=[1,2,3,5,6].getD i 0
def G0 (t:aj) (i:Nat):af:=[.i (bZ t 0 8),.i (bif Nat.blt 0 i then bZ t 8 4 else 0),.i (bif Nat.blt 1 i then bZ t 12 4 else 0),.i (bif Nat.blt 2 i then bZ t 16 4 else 0),.i 0,.i (bif Nat.blt 3 i then bZ t 20 4 else 0),.i (bif Nat.blt 4 i then bZ t 24 4 else 0),.i 0,.slice 0 none 0]
theorem Zr6 (t:aj) (S:Nat) (h:i<5):(G0 t i).set (wj i) (.i (bZ t (8+4*i) 4))=G0 t (i+1)/\wj i<9/\([.ptr (some (S,1)),.ptr (some (S,2)),.ptr (some (S,3)),.ptr (some (S,5)),.ptr (some (S,6))]:af)[i*1]? =some (.ptr (some (S,wj i))):=by
 match i,h with
 |0,_=>exact⟨rfl,EQ,rfl⟩
 |1,_=>exact⟨rfl,EQ,rfl⟩
 |2,_=>exact⟨rfl,EQ,rfl⟩
 |3,_=>exact⟨rfl,EQ,rfl⟩
 |4,_=>exact⟨rfl,EQ,rfl⟩
def zR (t:aj) (z:Nat) (c:ah) (n:Nat):af:=[.i (bZ t 0 8),.i (bZ t 8 4),.i (bZ t 12 4),.i (bZ t 16 4),.i (bZ t 28 2),.i (bZ t 20 4),.i (bZ t 24 4),.i (bZ t 30 2),.slice z c n]
def vR (t:aj) (n:Nat):ak:=(List.range n).map λj=>bZ t (32+2*j) 2
theorem ZkL (t:aj) (n:Nat):(vR t n).length=n:=by simp[vR]
theorem Zpb (t:aj) (n:Nat):vR t (n+1)=vR t n++[bZ t (32+2*n) 2]:=by
 simp[vR,lN,fb]
theorem Zry (l:ak):(ints l).length=l.length:=by simp[ints]
theorem Zse (l m:ak):ints (l++m)=ints l++ints m:=by simp[ints]
theorem ZtM {α:Type} {m:M α} {ds:α} (h:m s=some (.val ds,s')) (hk:s'[i]? =s[i]?):Bp i m s=some (.val ds,s'):=by
 grind[Bp]
theorem Zot (n:Nat) (a:ah) (l:aj) (st:St) (ha:cC st a l) (hl:l.length<1000000) (hn:200<=n):
  Ok (qU st (yU l)) (run Bd n 330 [.slice 1 a l.length] st):=by
 obtain _|n:=n;omega;have⟨r,hr⟩: ∃r,yU l=r:=⟨_,rfl⟩;rw[hr,Zb,h.TF];unfold J2 bG mX aB aX Q_ ZA bA bY nR bh xL cP Li ZO Lb ZY
 try dsimp only
 rw[bd,ao,mW];refine Ok.call (vL n a l st ha hl) ?_;rintro o ⟨s0,jY,hm⟩;have no: ∀s',ax st s'->r=none->Ok (qU st r) (some (Out.val [.agg mZ,.bool false],ZX st.length s')):=λs' hp e=>by
  rw[e];exact .mk ⟨_,ZK hp,0,rfl⟩
 cases cX:lH l with
 |none=>
  rw[cX]at hm;simp only at hm;subst hm;refine⟨_,s0,rfl,?_⟩;simp only[ar,Zr 1 0 none _ (.inr rfl),aA,ao,Zi,cy,aa,ZE];exact no s0 jY (by rw[<-hr];unfold yU;rw[cX])
 |some q=>
  have⟨k,c,t⟩:=q;rw[cX]at hm;simp only at hm;obtain⟨p,rfl,hf,ht,hk,hc⟩:=hm;refine⟨_,s0,rfl,?_⟩;simp only[ar,bd,aA,ao,bU,ae];refine Ok.join λav h1=>?_
  have A1: ∀b,(!decide (k=7))=b->Ok (qU st r) (av [.bool b] s0):=by
   intro b1 e1;rw[h1];simp only[aA,ao];refine Ok.join λaG h2=>?_
   have A2: ∀b,(b1|| !decide (c<=8))=b->Ok (qU st r) (aG [.bool b] s0):=by
    intro b2 e2;rw[h2];simp only[aA,ao];cases b2 with
    |true=>
     rw[aa,ZE];refine no s0 jY ?_;rw[<-hr];unfold yU;rw[cX];grind
    |false=>
     have hkc:k=7/\c<=8:=by
      rw[<-e1,xk,Bool.not_eq_false',Bool.not_eq_false',bD,bD]at e2;exact e2
     have j1:r=bif lV (qI t c)&&ZV (t.drop (32+2*c))then some (qI t c)else none:=by
      rw[<-hr];unfold yU;rw[cX];grind
     rw[ae,Zv,Zv,show([.i 0,.i 0,.i 0,.i 0,.i 0,.i 0,.i 0,.i 0,.slice 0 none 0]:af)=mZ from rfl];have⟨hk7,wz⟩:=hkc;have bC:ax s0 (s0++[some (⟨false,mZ⟩:aH)]++[some (⟨false,[.slice 0 none 0]⟩:aH)]):=(ax.new _ _).trans (.new _ _);have hS:(s0++[some (⟨false,mZ⟩:aH)]++[some (⟨false,[.slice 0 none 0]⟩:aH)])[s0.length]? =some (some ⟨false,mZ⟩):=by
      rw[gX,iO (aW _),mO];rfl
     have hR:(s0++[some (⟨false,mZ⟩:aH)]++[some (⟨false,[.slice 0 none 0]⟩:aH)])[(s0++[some (⟨false,mZ⟩:aH)]).length]? =some (some ⟨false,[.slice 0 none 0]⟩):=by
      rw[iO (aW _),mO];rfl
     have FP:s0.length≠(s0++[some (⟨false,mZ⟩:aH)]).length:=by rw[cq];grind
     have Pz:s0.length<=(s0++[some (⟨false,mZ⟩:aH)]).length:=(ax.new _ _).len;change Ok (qU st r) (bB (s0++[some (⟨false,mZ⟩:aH)]).length 0 [.slice 1 p 56] _ (s0++[some (⟨false,mZ⟩:aH)]++[some (⟨false,[.slice 0 none 0]⟩:aH)]));generalize (s0++[some (⟨false,mZ⟩:aH)]++[some (⟨false,[.slice 0 none 0]⟩:aH)])=s2 at bC hS hR;generalize (s0++[some (⟨false,mZ⟩:aH)]).length=R at hR FP Pz;have⟨S,hSe⟩: ∃S,s0.length=S:=⟨_,rfl⟩;rw[hSe]at hS FP Pz;have BY:=jY.len;rw[Zs hR (by show 0<1;omega)];have g0:Gs t S R st (s2.set R (some ⟨false,[.slice 1 p 56]⟩)) mZ 0:=by
      refine⟨kP (jY.trans bC) AC _,⟨AC,AC,FP⟩,?_,p,?_,?_⟩
      .rw[cz (λe=>FP e.symm)];exact hS
      .grind
      .rw[eG];exact(hf.pre bC).kp (Kp.set hR _)
     change Ok (qU st r) (cK _ _ (s2.set R (some ⟨false,[.slice 1 p 56]⟩)));generalize (s2.set R (some ⟨false,[.slice 1 p 56]⟩))=s3 at g0;have⟨s4,e4,g4,_⟩:=AS n g0 8 8 rfl ht;rw[Zj e4,ar,ao,hSe];have⟨s5,e5,g5,_⟩:=g4.store (β:=af) 0 (.i (bZ t 0 8)) (by show 0<9;omega);rw[e5];have g6:Gs t S R st s5 (G0 t 0) 8:=g5;refine Ok.join λbp h3=>?_
     refine Zn _ (λq y s=>∃i:Nat,y=[.i i]/\i<=5/\5-i<=q/\Gs t S R st s (G0 t i) (8+4*i)) ?_ 5 n _ _ ⟨0,rfl,AC,AC,g6⟩ AC;rintro q _ s ⟨i,rfl,hi,hq,g⟩ rec aQ;rw[ar,ao];by_cases aw:i<5
     .have⟨w1,w2,w3⟩:=Zr6 t S aw
      rw[aI (AC:(i:Int)<5),aa,Zg (Zo aw),bw,lq w3,Dl];have⟨s',e',g',_⟩:=AS n g 4 4 rfl ht;rw[Zj e',ar,ao,aD];have⟨GP,e'',FB,_⟩:=g'.store (β:=af) (wj i) (.i (bZ t (8+4*i) 4)) w2;rw[e'',Zc];rw[w1,show 8+4*i+4=8+4*(i+1) by omega]at FB;exact aQ (5-(i+1)) _ _ AC ⟨i+1,rfl,AC,AC,FB⟩
     .rw[aK (AC:¬(i:Int)<5),ae,h3]
      have:i=5:=AC
      subst this;simp only[ao];have⟨s7,e7,g7,_⟩:=AS n g 2 2 rfl ht;rw[Zj e7,ar,ao];have⟨s8,e8,g8,_⟩:=AS n g7 2 2 rfl ht;rw[Zj e8,ar,ao];have⟨s9,e9,g9,_⟩:=g8.store (β:=af) 4 (.i (bZ t 28 2)) (by show 4<9;omega);rw[e9];have⟨sc,rB,g10,_⟩:=g9.store (β:=af) 7 (.i (bZ t 30 2)) (by show 7<9;omega);rw[rB];have g11:Gs t S R st sc (zR t 0 none 0) 32:=g10;refine Ok.join λbR h4=>?_
      refine Zn _ (λq y s=>∃(i z:Nat) (cp:ah),y=[.i i]/\i<=c/\c-i<=q/\Gs t S R st s (zR t z cp i) (32+2*i)/\(z=1\/cp=none)/\bn st s cp (ints (vR t i))/\(∀o,cp≠some (S,o))/\∀o,cp≠some (R,o)) ?_ c n _ _ ⟨0,0,none,rfl,AC,AC,g11,.inr rfl,bn.nil g11.pre,λo e=>(by cases e),λo e=>(by cases e)⟩ AC;clear aQ g g4 g5 g6 g7 g8 g9 g10 g11 e4 e5 e7 e8 e9 rB;rintro q _ s ⟨i,z,cp,rfl,hi,hq,g,hz,ho,hnS,hnR⟩ rec aQ;rw[ar,ao];by_cases aw:i<c
      .rw[aI AC,aa,Zf (d:= .slice z cp i) g.cl rfl,Zu 1 z cp i hz]
       have⟨s',e',g',k',l',o'⟩:=AS n g 2 2 rfl ht;rw[vU (ZtM e' (o' S g.le.2.2)),ar,ao];have zm:bn st s' cp (ints (vR t i)):=by
        refine⟨g'.pre,ho.2.imp id λ⟨j,e1,e2,e3⟩=>⟨j,e1,e2,?_⟩⟩;rw[o' j (λe=>hnR 0 (by rw[e1,e]))];exact e3
       have⟨b,GP,h0,i1,i2,i3,i4⟩:=zm.GM (β:=af) (sz:=1) (n:=i) (lim:=8796093022208) [.i (bZ t (32+2*i) 2)] AC (by rw[Zry,ZkL,cL]) rfl AC;rw[i4];have FB:=g'.but i1.1 i2 i3 hnS hnR;have⟨s3',e3',g3',k3',l3',o3'⟩:=FB.store (β:=af) 8 (.slice 1 (some (b,0)) (i+1)) (by show 8<9;omega);rw[e3',Zc];have hbS:b≠S:=by have:=(cF.1 g'.cl).1;omega
       have hbR:b≠R:=by
        have⟨y,iB,_⟩:=g'.rd;have:=(cF.1 iB).1;omega
       refine aQ (c-(i+1)) _ _ AC ⟨i+1,1,some (b,0),rfl,AC,AC,by rw[show 32+2*(i+1)=32+2*i+2 by omega];exact g3',.inl rfl,?_,λo e=>(by cases e;exact hbS rfl),λo e=>(by cases e;exact hbR rfl)⟩;rcases i1.2 with⟨e,_⟩|⟨j,e,e2,e3⟩
       .cases e
       .cases e
        exact⟨g3'.pre,.inr ⟨b,rfl,e2,by rw[o3' b hbS,e3,Zpb,Zse];rfl⟩⟩
      .rw[aK AC,ae,h4]
       have:i=c:=AC
       subst this;simp only[ao];rw[ZM g.cl (by show 0+9<=9;omega)];have qo:(List.drop 0 (zR t z cp i)).take 9=zR t z cp i:=rfl;rw[qo];unfold zR;simp only[ar,Zr 1 z cp _ hz,ao];have rV:(qI t i).bg.length=i:=ZkL t i;have hRt:=Ib n (qI t i) cp s ho.sl (by rw[rV];omega) (by rw[rV];omega);have gp:([.i (bZ t 0 8),.i (bZ t 8 4),.i (bZ t 12 4),.i (bZ t 16 4),.i (bZ t 28 2),.i (bZ t 20 4),.i (bZ t 24 4),.i (bZ t 30 2),.slice 1 cp i]:af)=cN (qI t i) cp:=by
        unfold cN;rw[rV];rfl
       rw[gp,Zj hRt,aA,ao];have jZ:=ax.new s (some (⟨false,cN (qI t i) cp⟩:aH));generalize (s++[some (⟨false,cN (qI t i) cp⟩:aH)])=sN at jZ;have gcl:=jZ.get g.cl;have⟨y,iB,hfy⟩:=g.rd;have gr':=jZ.get iB;refine Ok.join λdC h5=>?_
       have A5: ∀b,(!(lV (qI t i)&&ZV (t.drop (32+2*i))))=b->Ok (qU st r) (dC [.bool b] sN):=by
        intro b e;rw[h5];simp only[aA,ao];cases b with
        |true=>
         rw[aa,ZE];refine no sN (g.pre.trans jZ) ?_;rw[j1];rw[nN]at e;rw[e,ae]
        |false=>
         rw[Bool.not_eq_false']at e;rw[e,aa]at j1;rw[ae,ZM gcl (by show 0+9<=9;omega),qo];unfold zR;simp only[ar,Zr 1 z cp _ hz,ao,ZE];rw[gp,j1];exact .mk ⟨_,ZK (g.pre.trans jZ),cp,rfl,(ho.sl.mono jZ).jS _⟩
       cases tJ:lV (qI t i)with
       |false=>
        rw[cy,aa];exact A5 true (by rw[tJ];rfl)
       |true=>
        rw[bU,ae,Zf (d:= .slice 1 y (56-(32+2*i))) gr' rfl,eH,Zf (d:= .slice 1 y (56-(32+2*i))) gr' rfl,eH];have iy:(t.drop (32+2*i)).length=56-(32+2*i):=by rw[ft,ht]
        have dq:=vM n y (t.drop (32+2*i)) 0 (56-(32+2*i)) sN (hfy.l9.mono jZ);rw[iy]at dq;rw[show(0:Int)=((0:Nat):Int)from rfl,Zj dq,aA,ao];refine A5 _ ?_;rw[tJ,ez,eG,dJ AC]
   grind
  grind
def la (aM:aj) (k:Nat):Option db:=bif decide (k<aM.length/64)then yU (tP aM k)else none
def zQ:Option db->Option db->Option db
 |b,none=>b
 |none,some y=>some y
 |some x,some y=>bif decide (y.seq>x.seq)then some y else some x
def zO (aM:aj):Option db:=zQ (zQ none (la aM 0)) (la aM 1)
theorem Rg (x:db) (p:ah) (l:af) (K:af->af->M β):bW (.agg (cN x p)::l) K=K (cN x p) l:=rfl
theorem pZ (cs l:af) (K:af->af->M β):bW (.agg cs::l) K=K cs l:=rfl
theorem ZjY (n d:Nat) (l:aj) (k:Nat) (st:St) (hd:qR st d (Zy l (8*(l.length/64)))) (hl:l.length<262144) (hk:k<2) (hn:300<=n:=by omega):
  Ok (qU st (la l k)) (run Bd n 327 [.ptr (some (d,0)),.i k] st):=by
 obtain _|n:=n;omega;have⟨r,hr⟩: ∃r,la l k=r:=⟨_,rfl⟩;rw[hr];unfold la at hr;rw[Zb,h.TC];unfold JZ gy aB bQ xN xL cP bh Lb
 try dsimp only
 rw[bF,ar,ao,Zi,aK (AC:¬(k:Int)<0),ae,aK (AC:¬(k:Int)>=2)];simp only[aA,ao,ae];refine Ok.call (ZnY n d l k st hd hl AC AC) ?_;rintro o ⟨s1,bj,ho⟩;by_cases aw:k<l.length/64
 .rw[bO aw]at ho
  obtain⟨p,rfl,hf⟩:=ho;rw[aI aw,aa]at hr;refine⟨_,s1,rfl,?_⟩;rw[bd,ar,ao,show(!((0:Int)==0))=false from rfl,ae];have iL:(tP l k).length=64:=by grind[tP]
  have hg:=Zot n p (tP l k) s1 hf AC AC;rw[iL,hr]at hg;refine Ok.call hg ?_;rintro o ⟨s2,bC,ho⟩;cases r with
  |none=>
   obtain⟨z,rfl⟩:=ho;refine⟨_,s2,rfl,?_⟩;rw[pZ];unfold Da;simp only[ar,Zr 1 z none _ (.inr rfl),aA,ao,Zh];exact .mk ⟨s2,bj.trans bC,1,rfl⟩
  |some x=>
   simp only at ho;obtain⟨q,rfl,hq⟩:=ho;refine⟨_,s2,rfl,?_⟩;rw[Rg];unfold cN;simp only[ar,bd,aA,ao,Zh];exact .mk ⟨s2,bj.trans bC,q,rfl,hq⟩
 .rw[cG aw]at ho
  subst ho;rw[aK aw,ae]at hr;refine⟨_,s1,rfl,?_⟩;rw[Zr 1 0 none _ (.inr rfl),ar,ao,show(!((2:Int)==0))=true from rfl,aa,Zh,<-hr];exact .mk ⟨s1,bj,0,rfl⟩
def nT (s:St) (r:Option db) (cs:af) (b:Bool):Prop:=match r with
 |none=>(∃z,cs=Da z)/\b=false
 |some x=>∃p,cs=cN x p/\b=true/\Sl s p (ints x.bg)
theorem nT.mono {s s':St} {r:Option db} {cs:af} {b:Bool} (h:nT s r cs b) (k:ax s s'):nT s' r cs b:=by
 cases r with
 |none=>exact h
 |some x=>have⟨p,h1,h2,h3⟩:=h;exact⟨p,h1,h2,h3.mono k⟩
def GH (a1 a2 a3 a4 a5 a6 a7 a8:Int) (z:Nat) (p:ah) (n:Nat):af:=[.i a1,.i a2,.i a3,.i a4,.i a5,.i a6,.i a7,.i a8,.slice z p n]
theorem nT.nine {cs:af} {b:Bool} (h:nT s r cs b): ∃a1 a2 a3 a4 a5 a6 a7 a8 z p n,cs=GH a1 a2 a3 a4 a5 a6 a7 a8 z p n/\(z=1\/p=none)/\(∀x,r=some x->a1=x.seq)/\nT s r (GH a1 a2 a3 a4 a5 a6 a7 a8 1 p n) b:=by
 cases r with
 |none=>
  obtain⟨⟨z,rfl⟩,rfl⟩:=h;exact⟨0,0,0,0,0,0,0,0,z,none,0,rfl,.inr rfl,λx e=>(by cases e),⟨1,rfl⟩,rfl⟩
 |some x=>
  obtain⟨p,rfl,rfl,h3⟩:=h;exact⟨_,_,_,_,_,_,_,_,1,p,_,rfl,.inl rfl,λx e=>(by cases e;rfl),p,rfl,rfl,h3⟩
theorem qU.out {o:Out af×St} (h:qU st r o): ∃s' cs b,o=(.val [.agg cs,.bool b],s')/\ax st s'/\nT s' r cs b:=by
 have⟨s',hp,h⟩:=h;cases r with
 |none=>have⟨z,h⟩:=h;exact⟨s',_,_,h,hp,⟨z,rfl⟩,rfl⟩
 |some x=>have⟨p,h1,h2⟩:=h;exact⟨s',_,_,h1,hp,p,rfl,rfl,h2⟩
theorem nT.b {s:St} {r:Option db} {cs:af} {b:Bool} (h:nT s r cs b):b=r.isSome:=by
 cases r with
 |none=>exact h.2
 |some x=>have⟨p,_,h2,_⟩:=h;exact h2
def OY (st:St) (r:Option db) (k:Int) (o:Out af×St):Prop:=∃s' cs b,o=(.val [.agg cs,.i k,.bool b],s')/\ax st s'/\nT s' r cs b
def rq (l:aj):Nat->Option db
 |0=>none
 |i+1=>zQ (rq l i) (la l i)
def ng (l:aj):Nat->Int
 |0=>0
 |i+1=>match rq l i,la l i with
  |_,none=>ng l i
  |none,some _=>i
  |some x,some y=>bif decide (y.seq>x.seq)then(i:Int)else ng l i
theorem Zo0 (n d:Nat) (l:aj) (st:St) (hd:qR st d (Zy l (8*(l.length/64)))) (hl:l.length<262144) (hn:400<=n):
  Ok (OY st (zO l) (ng l 2)) (run Bd n 326 [.ptr (some (d,0))] st):=by
 obtain⟨n,rfl⟩: ∃m,n=m+4:=⟨n-4,AC⟩;rw[Zb,h.TB];unfold J3 ck HK ZA Zru xN aB Ag cP Lb
 try dsimp only
 rw[bF,ao];refine Ok.join λav h1=>?_
 refine Zn _ (λq y s=>∃(i:Nat) (cs:af) (b:Bool),y=[.agg cs,.i (ng l i),.bool b,.i i]/\i<=2/\2-i<=q/\ax st s/\nT s (rq l i) cs b) ?_ 2 (n+3) _ _ ⟨0,_,false,rfl,AC,AC,.refl st,⟨0,rfl⟩,rfl⟩ AC;rintro q _ s ⟨i,cs,b,rfl,hi,hq,hp,hm⟩ rec aQ;obtain⟨a1,a2,a3,a4,a5,a6,a7,a8,z,p,m,rfl,hz,VO,hm1⟩:=hm.nine;rw[pZ];unfold GH;simp only[ar,Zr 1 z p _ hz,aA,ao];by_cases aw:i<2
 .rw[aI (AC:(i:Int)<2),aa]
  refine Ok.call (ZjY (n+3) d l i s (hd.mono hp) hl aw) ?_;intro o ho;obtain⟨s1,bM,b1,rfl,bj,oY⟩:=ho.out;refine⟨_,s1,rfl,?_⟩;obtain⟨c1,c2,c3,c4,c5,c6,c7,c8,z',p',m',rfl,u9,VP,B1⟩:=oY.nine;rw[pZ];unfold GH;simp only[ar,Zr 1 z' p' _ u9,aA,ao];have hw:aq ((i:Int)+1)=((i+1:Nat):Int):=Zc;refine Ok.join λaG h2=>?_
  have A2: ∀c r,zQ (rq l i) (la l i)=(bif c then la l i else rq l i)->ng l (i+1)=(bif c then(i:Int)else ng l i)->r=c->(c=true->b1=true)->Ok (OY st (zO l) (ng l 2)) (aG [.bool r] s1):=by
   intro c r e ea er ht;subst er;rw[h2];simp only[aA,ao,Zi];cases r with
   |true=>
    rw[aa,pZ];simp only[ar,bd,aA,ao];rw[hw];rw[aa]at e ea;refine aQ (2-(i+1)) _ _ AC ⟨i+1,_,true,by rw[ea],AC,AC,hp.trans bj,?_⟩;show nT s1 (zQ (rq l i) (la l i)) _ _;rw[e];rw[ht rfl]at B1;exact B1
   |false=>
    rw[ae,pZ];simp only[ar,bd,aA,ao];rw[hw];rw[ae]at e ea;refine aQ (2-(i+1)) _ _ AC ⟨i+1,_,b,by rw[ea],AC,AC,hp.trans bj,?_⟩;show nT s1 (zQ (rq l i) (la l i)) _ _;rw[e];exact hm1.mono bj
  have hZ:=oY.b;have hb:=hm.b;cases hr:la l i with
  |none=>
   rw[hr]at hZ;subst hZ;rw[show(Option.isSome (none:Option db))=false from rfl,ae];exact A2 false false (by rw[hr];cases rq l i<;>rfl) (by rw[ng,hr];cases rq l i<;>rfl) rfl (λe=>by cases e)
  |some y=>
   rw[hr]at hZ;subst hZ;rw[show(Option.isSome (some y))=true from rfl,aa,Zi];cases wy:rq l i with
   |none=>
    rw[wy]at hb;subst hb;rw[show(!Option.isSome (none:Option db))=true from rfl,aa];simp only[aA,ao];exact A2 true true (by rw[hr,wy];rfl) (by rw[ng,hr,wy];rfl) rfl (λ_=>rfl)
   |some x=>
    rw[wy]at hb;subst hb;rw[show(!Option.isSome (some x))=false from rfl,ae];simp only[aA,ao];refine A2 (decide (y.seq>x.seq)) _ (by rw[hr,wy];rfl) (by rw[ng,hr,wy]) ?_ (λ_=>rfl);rw[VP y hr,VO x wy]
 .rw[aK (AC:¬(i:Int)<2),ae,h1]
  have:i=2:=AC
  subst this;simp only[pZ,ar,bd,aA,ao,Zh];exact .mk ⟨s,_,b,rfl,hp,hm1⟩
end Go.Gv.F
