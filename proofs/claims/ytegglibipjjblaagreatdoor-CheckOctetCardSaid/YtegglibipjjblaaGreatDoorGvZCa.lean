/- A device made of octets: the program's layer 5, as far as it is read. -/
import Derived.Test.YtegglibipjjblaaGreatDoorGvZMf
set_option linter.all false
namespace Go.Gv.F
open Go.Gv
variable {Y:Type}
variable {Bd:Zg} [h:HA Bd]
theorem Zql (n:Nat) (a:ai) (l:aj) (st:St) (ha:dD st a l) (hl:8<=l.length) (hn:12<=n):
  run Bd n 285 [.slice 1 a l.length] st=some (.val [.w (ef (l.take 8))],st):=by
 have ht:(l.take 8).length=8:=by rw[cB];omega
 have h8:=yu n a (l.take 8) st (ha.mu 8) AC hn;obtain _|n:=n;omega;rw[Ze,h.acE]at h8⊢;unfold MK ck Cj Aw mN lX ZF at h8⊢
 try dsimp only
 rw[ht]at h8;simp only[aZ,ao]at h8⊢;have e1:(if (8:Int)<((8:Nat):Int)then(8:Int)else((8:Nat):Int))=8:=EQ
 have e2:(if (8:Int)<(l.length:Int)then(8:Int)else(l.length:Int))=8:=by
  by_cases h9:(8:Int)<(l.length:Int)
  .rw[bx h9]
  omega
 simp only[e1]at h8;rw[e2];rw[Zc EQ]at h8;rw[Zc (by rw[aS,bq,bq];omega)];exact h8
def jX (l:aj) (k:Nat):al:=(List.range k).map λi=>ef ((l.drop (8*i)).take 8)
theorem DR (l:aj) (k:Nat):(jX l k).length=k:=by simp[jX]
theorem Znl (l:aj) (k:Nat):jX l (k+1)=jX l k++[ef ((l.drop (8*k)).take 8)]:=by
 simp[jX,tl,eV]
variable {f f':Bool} {R S d i j k m n z:Nat} {r:Option cm} {s s' st:St} {A cs:ah} {c cp p:ai} {l t:aj}
theorem Ux (h:i<k):(jX l k)[i]? =some (ef ((l.drop (8*i)).take 8)):=by
 grind[jX]
theorem ZpL (l m:al):Zu (l++m)=Zu l++Zu m:=by simp[Zu]
theorem BS (l:al):(Zu l).length=l.length:=by simp[Zu]
theorem Zp0 (n:Nat) (a:ai) (l:aj) (k:Nat) (st:St) (ha:dD st a l) (hk:l.length=8*k) (hl:l.length<1000000) (hn:k+20<=n):
  Ok (λo=>∃p s',o=(.val [.slice 1 p k],s')/\aB st s'/\Fz s' p (Zu (jX l k))) (run Bd n 328 [.slice 1 a l.length] st):=by
 obtain _|n:=n;omega;rw[Ze,h.ahW];unfold SP ck gj vW bj lX
 try dsimp only
 rw[aZ,ao,Z8,Za];refine Zj _ (λq y s=>∃(i z:Nat) (b p:ai),y=[.slice 1 b (l.length-8*i),.slice z p i]/\(z=1\/p=none)/\i<=k/\k-i<=q/\dD st b (l.drop (8*i))/\bc st s p (Zu (jX l i))) ?_ k n _ _ ⟨0,0,a,none,by rw[Nat.mul_zero,w9],.inr rfl,cN _,AC,ha,bc.nil (.refl st)⟩ AC;rintro q _ s ⟨i,z,b,p,rfl,hz,hi,hq,hb,ho⟩ rec aN;simp only[aZ,Zh 1 z p _ hz,ao];by_cases av:i<k
 .have j1:(l.drop (8*i)).length=l.length-8*i:=dY
  rw[aQ (AC:((l.length-8*i:Nat):Int)>=8),ae];have hr:=Zql n b (l.drop (8*i)) s (hb.mono ho.1) AC AC;rw[j1]at hr;rw[Zk hr,au,ao];have⟨p',s',h1,h2⟩:=ho.push (Y:=ah) (sz:=1) (n:=i) (lim:=8796093022208) [.w (ef ((l.drop (8*i)).take 8):Nat)] AC (by rw[BS,DR,cR]) rfl AC;rw[h2,Zc rfl];refine aN (k-(i+1)) _ _ AC ⟨i+1,1,cY true b 8,p',by rw[show l.length-8*i-8=l.length-8*(i+1) by omega],.inl rfl,AC,AC,?_,?_⟩
  .have:=hb.cY (k:=8) AC
   rwa [kd,show 8*i+8=8*(i+1) by omega]at this
  .rw[Znl,ZpL];exact h1
 .rw[bP (AC:¬((l.length-8*i:Nat):Int)>=8),af,Zs]
  have:i=k:=AC
  subst this;exact .mk ⟨p,_,rfl,Zx ho.1,ho.fz⟩
structure qR where
 l:Nat
 s:Nat
 t:Nat
 f:Bool
def GN (c:qR):ah:=[.w c.l,.w c.s,.w c.t,.bool c.f]
def tK (cs:List qR):ah:=(cs.map GN).flatten
theorem Zv7 (l m:List qR):tK (l++m)=tK l++tK m:=by simp[tK]
theorem M5: ∀(l:List qR),(tK l).length=l.length*4
 |[]=>rfl
 |w::r=>by
  have:=M5 r;grind[tK,GN]
theorem Zo7 {c:qR} {k:Nat} (hk:k<4): ∀ {l:List qR} {i:Nat},l[i]? =some c->(tK l)[i*4+k]? =(GN c)[k]?
 |[],i,h=>by simp at h
 |x::r,0,h=>by
  rw[ly,gf]at h;subst h;show(GN x++tK r)[0*4+k]? =_;rw[rU,fq,nc (by simpa [GN]using hk)]
 |x::r,i+1,h=>by
  have:=Zo7 hk (l:=r) (i:=i) (by simpa using h);show(GN x++tK r)[(i+1)*4+k]? =_;rw[kO (by show 4<=_;omega),<-this];congr 1;show(i+1)*4+k-4=_;omega
def Dj (w:Nat):qR:=⟨w,w,0,false⟩
def JK (z:Nat) (c:ai) (n:Nat):ah:=[.slice z c n,.slice 0 none 0,.i 0,.bool false,.bool false,.i 0,.i 0]
def BJ (s:St) (d:Nat) (ws:al):Prop:=∃(f:Bool) (z:Nat) (c:ai) (x1 x2 x4 x5 x6:DV) (cs:List qR),s[d]? =some (some ⟨f,[.slice z c ws.length,x1,x2,.bool false,x4,x5,x6]⟩)/\(z=4\/c=none)/\Sl s c (tK cs)/\cs.map qR.s=ws
theorem BJ.mono {s s':St} {d:Nat} {ws:al} (h:BJ s d ws) (k:aB s s'):BJ s' d ws:=by
 have⟨f,z,c,x1,x2,x4,x5,x6,cs,h1,h2,h3,h4⟩:=h;exact⟨f,z,c,x1,x2,x4,x5,x6,cs,k.get h1,h2,h3.mono k,h4⟩
structure Mp where
 cs:List qR
 abh:ak
 at_:Nat
 off:Bool
 acf:Bool
 left:Int
 steps:Nat
def OF (z zp:Nat) (c p:ai) (D:Mp):ah:=[.slice z c D.cs.length,.slice zp p D.abh.length,.i D.at_,.bool D.off,.bool D.acf,.i D.left,.i (aq D.steps)]
def QL (s:St) (d b:Nat) (c:ai) (cs:List qR):Prop:=(c=none/\cs=[])\/(c=some (b,0)/\b≠d/\s[b]? =some (some ⟨false,tK cs⟩))
def QP (s:St) (d b:Nat) (D:Mp):Prop:=∃(z zp:Nat) (c p:ai),s[d]? =some (some ⟨false,OF z zp c p D⟩)/\(z=4\/c=none)/\(zp=1\/p=none)/\Fz s p (ints D.abh)/\QL s d b c D.cs
theorem QL.sl {b:Nat} {cs:List qR} (h:QL s d b c cs):Sl s c (tK cs):=by
 rcases h with⟨rfl,rfl⟩|⟨rfl,_,h⟩
 .rfl
 .exact⟨false,_,h,Do,Do⟩
theorem QP.afK {b:Nat} {D:Mp} (h:QP s d b D) (ho:D.off=false):BJ s d (D.cs.map qR.s):=by
 have⟨z,zp,c,p,h1,h2,_,_,h5⟩:=h;refine⟨false,z,c,.slice zp p D.abh.length,.i D.at_,.bool D.acf,.i D.left,.i (aq D.steps),D.cs,?_,h2,h5.sl,rfl⟩;rw[mC,h1,OF,ho]
def OE (cs:List qR):Mp:=⟨cs,[],0,false,false,0,0⟩
theorem ZBd (ws:al):(OE (ws.map Dj)).cs.map qR.s=ws:=by
 show(ws.map Dj).map qR.s=ws;rw[uF];exact List.map_id ws
theorem Zug (n:Nat) (a:ai) (l:aj) (st:St) (ha:dD st a l) (hl:l.length<262144) (hn:40000<=n):
  Ok (λo=>∃d b s',o=(.val [.ptr (some (d,0))],s')/\aB st s'/\st.length<=d/\st.length<=b/\QP s' d b (OE ((jX l (8*(l.length/64))).map Dj))) (run Bd n 325 [.slice 1 a l.length] st):=by
 obtain _|n:=n;omega;rw[Ze,h.ahT];unfold T4 ck jL Q_ dj xj bj Lp tx Li
 try dsimp only
 rw[aZ,ao,ZD];have⟨k,hk⟩: ∃k,l.length/64=k:=⟨_,rfl⟩;have e1:aq (Int.tdiv (l.length:Int) 64)=(k:Int):=by
  rw[L9 AC];exact(Zb).trans AC
 have e2:(if (4096:Int)<(k:Int)then(4096:Int)else(k:Int))=(k:Int):=aY AC;have e3:aq ((k:Int)*64)=((64*k:Nat):Int):=by
  rw[show((k:Int)*64)=((64*k:Nat):Int) by omega];exact Zb
 rw[e1,e2,e3,bn,Zc (by rw[aS,bq,bq];omega)];have pU:=aB.new st (some (⟨false,[.slice 0 none 0,.slice 0 none 0,.i 0,.bool false,.bool false,.i 0,.i 0]⟩:bQ));have zd:(st++[some (⟨false,[.slice 0 none 0,.slice 0 none 0,.i 0,.bool false,.bool false,.i 0,.i 0]⟩:bQ)])[st.length]? =some (some ⟨false,JK 0 none 0⟩):=by simp[JK]
 generalize (st++[some (⟨false,[.slice 0 none 0,.slice 0 none 0,.i 0,.bool false,.bool false,.i 0,.i 0]⟩:bQ)])=s1 at pU zd;have rG:(l.take (64*k)).length=64*k:=by rw[cB];omega
 have hw:=Zp0 n a (l.take (64*k)) (8*k) s1 ((ha.mono pU).mu _) AC AC AC;rw[rG]at hw;refine Ok.call hw ?_;rintro _ ⟨p,s2,rfl,bd,ua⟩;refine⟨_,s2,rfl,?_⟩;have ew:jX (l.take (64*k)) (8*k)=jX l (8*k):=by
  unfold jX;refine FB λi hi=>?_
  rw[uG]at hi;rw[BC,H2,pA AC]
 rw[ew]at ua;rw[aZ,ao,Za];refine Zj _ (λq y s=>∃(i z:Nat) (c:ai),y=[.i i]/\i<=8*k/\8*k-i<=q/\Fz s p (Zu (jX l (8*k)))/\s[st.length]? =some (some ⟨false,JK z c i⟩)/\(z=4\/c=none)/\bc st s c (tK ((jX l i).map Dj))/\∀o,c≠some (st.length,o)) ?_ (8*k) n _ _ ⟨0,0,none,rfl,cN _,AC,ua,bd.get zd,.inr rfl,bc.nil (pU.trans bd),λo e=>by cases e⟩ AC;rintro q _ s ⟨i,z,c,rfl,hi,hq,hf,hd,hz,ho,cV⟩ rec aN;simp only[au,ao];by_cases av:i<8*k
 .rw[aQ (AC:(i:Int)<((8*k:Nat):Int)),ae]
  obtain⟨i1,o1,rfl⟩:=hf.1.cS (by rw[BS,DR];omega);have hg:=Ux (l:=l) av;have Hk:(Zu (jX l (8*k)))[i]? =some (.w (ef ((l.drop (8*i)).take 8):Nat)):=by unfold Zu;rw[nf,hg];rfl
  rw[bh,Zc (Zi av),bn,hf.1.dX Hk,bg,Zn (d:= .slice z c i) hd rfl,Z5 4 z c i hz];have⟨c',s',h0,h1,h2,h3,h4⟩:=ho.Qj (Y:=ah) (sz:=4) (n:=i) (lim:=2199023255552) [.w (ef ((l.drop (8*i)).take 8):Nat),.w (ef ((l.drop (8*i)).take 8):Nat),.w 0,.bool false] AC (by rw[M5,mC,DR]) rfl AC;rw[h4];have lL:s'[st.length]? =some (some ⟨false,JK z c i⟩):=h3 st.length _ hd cV;have vv:st.length<s.length:=Fd
  rw[sa lL (by show 0<7;omega),Zb];have cZ:s'[c']? =some (some ⟨false,tK ((jX l i).map Dj)++[.w (ef ((l.drop (8*i)).take 8):Nat),.w (ef ((l.drop (8*i)).take 8):Nat),.w 0,.bool false]⟩):=by
   rcases h1.2 with⟨e,_⟩|⟨j,e,_,h5⟩
   .cases e
   .cases e;exact h5
  refine aN (8*k-(i+1)) _ _ AC ⟨i+1,4,some (c',0),rfl,AC,AC,(hf.kp h2).kp (Kp.set lL _),?_,.inl rfl,?_,λo e=>by cases e;omega⟩
  .rw[ke (eE.1 lL).1]
   rfl
  .refine⟨tH h1.1 (aJ _) _,.inr ⟨c',rfl,AC,?_⟩⟩
   rw[ig AC,cZ,Znl,eV,Zv7];rfl
 .rw[bP (AC:¬(i:Int)<((8*k:Nat):Int)),af,Zd]
  have:i=8*k:=AC
  subst this;rw[hk];have Kj:((jX l (8*k)).map Dj).length=8*k:=by rw[mC,DR]
  have lL:s[st.length]? =some (some ⟨false,OF z 0 c none (OE ((jX l (8*k)).map Dj))⟩):=by
   rw[hd];unfold OF JK OE;rw[Kj];rfl
  rcases ho.2 with⟨h1,h2⟩|⟨b,rfl,h1,h2⟩
  .have:=congrArg List.length h2
   rw[M5,Kj]at this;exact .mk ⟨st.length,st.length,s,rfl,ho.1,aJ _,aJ _,z,0,c,none,lL,hz,.inr rfl,Fz.nil s,.inl ⟨h1,BD (by show((jX l (8*k)).map Dj).length=0;rw[Kj];simp at this;omega)⟩⟩
  .exact .mk ⟨st.length,b,s,rfl,ho.1,aJ _,h1,z,0,_,none,lL,hz,.inr rfl,Fz.nil s,.inr ⟨rfl,λe=>cV 0 (by rw[e]),h2⟩⟩
theorem Zpt (n d:Nat) {r:ah} (st:St) (h1:st[d]? =some (some ⟨f,.slice z c m::r⟩)) (h2:z=4\/c=none) (hl:m<1000000):run Bd (n+1) 335 [.ptr (some (d,0))] st=some (.val [.i ((m/8:Nat):Int)],st):=by
 rw[Ze,h.ah3];unfold Re jO Li
 try dsimp only
 rw[fw,ao,bh,Zn (d:= .slice z c m) h1 rfl,Z5 4 z c _ h2,Zd];have:aq (Int.tdiv (m:Int) 8)=((m/8:Nat):Int):=by
  rw[L9 AC];exact(Zb).trans AC
 rw[this]
theorem Zsl (n d:Nat) (x y:Int) {o:Bool} {x0 x1 x2:DV} {r:ah} (st:St) (h1:st[d]? =some (some ⟨f,x0::x1::x2:: .bool o::r⟩)):run Bd (n+1) 336 [.ptr (some (d,0)),.i x,.i y] st=some (.val [.i (bif o then 3 else bif decide (x<0)||decide (x>=y)then 2 else 0)],st):=by
 rw[Ze,h.ah4];unfold Q6 GH si az Li Lb;simp only[fw,au,ao,bh];rw[Zn (d:= .bool o) h1 rfl];simp only[uI,Za,ar,ao];cases o
 .rw[af,af];cases decide (x<0)
  .rw[af,wX];cases decide (x>=y)<;>rfl
  .rfl
 .rfl
theorem ZqS (n d:Nat) (ws:al) (i w:Nat) (st:St) (hd:BJ st d ws) (hi:ws[i]? =some w):run Bd (n+2) 333 [.ptr (some (d,0)),.i i] st=some (.val [.w w,.i 0],st):=by
 have av:i<ws.length:=Fd
 have⟨f,z,c,_,_,_,_,_,cs,h1,h2,h3,h4⟩:=hd;have hm:=Zsl n d i ws.length st h1;rw[Ze,h.ah1];unfold Q7 qU cK N_ ZF
 try dsimp only
 rw[fw,au,ao,bh,Zn (d:= .slice z c ws.length) h1 rfl,Z5 4 z c _ h2,Zk hm,bP (AC:¬(i:Int)<0),bP (AC:¬(i:Int)>=(ws.length:Int)),Bool.or_false,af,af,au,ao];show bH d 0 _ st=_;rw[Zn (d:= .slice z c ws.length) h1 rfl,Z5 4 z c _ h2];have cU:cs.length=ws.length:=by rw[<-h4,mC]
 obtain⟨i1,o1,rfl⟩:=h3.cS (by rw[M5];omega);have⟨x,hx⟩: ∃x,cs[i]? =some x:=⟨_,cc AC⟩;have hw:x.s=w:=by rw[<-h4,nf,hx]at hi;cases hi;rfl
 subst hw;rw[bh,Zc (Zi av),bn,show i*4+o1+1=(i*4+1)+o1 by omega,h3.get ((Zo7 EQ hx).trans rfl)];rfl
theorem Ztv (n d:Nat) (x:Int) {r:ah} (st:St) (h1:st[d]? =some (some ⟨f,.slice z c m::r⟩)) (h2:z=4\/c=none) (hl:m<1000000):run Bd (n+2) 331 [.ptr (some (d,0)),.i x] st=some (.val [.i (bif decide (x<0)||decide (x>=((m/8:Nat):Int))then 2 else 0)],st):=by
 rw[Ze,h.ahZ];unfold TX qU az cK Li Lb Lp;simp only[fw,au,ao,Za,Option.isNone_some,af,ar];cases decide (x<0)
 .rw[af,wX,Zk (Zpt n d st h1 h2 hl),au,ao];cases decide (x>=((m/8:Nat):Int))<;>rfl
 .rfl
theorem ZAW (v i:Nat):bB v (i+1)=bB v i++[UInt8.ofNat (v/256^i)]:=by rw[Wc];rfl
theorem ZAC (w:Nat):IntKind.wrap .u8 (w:Int)=((UInt8.ofNat w).toNat:Int):=by
 rfl
theorem Ztd {z d:DV} (h:A.length=i) (hi:i<n):(A++List.replicate (n-i) z).set i d=(A++[d])++List.replicate (n-(i+1)) z:=by
 rw[List.set_append_right _ _ AC,h,yg,show n-i=(n-(i+1))+1 by omega,List.replicate_succ,List.set_cons_zero,dL];rfl
theorem ZsL (n v k:Nat) (st:St) (hk:k<=8:=by omega) (hn:12<=n:=by omega):
  Ok (λo=>∃p s',o=(.val [.slice 1 p k],s')/\aB st s'/\nN s' p (bB v k)) (run Bd n 337 [.w v,.i k] st):=by
 obtain _|n:=n;omega;rw[Ze,h.ah5];unfold TQ B3 az Q_ Aw lA bj ZF Lb;simp only[au,ar,ao,Z8,Za];rw[bP (AC:¬(k:Int)<0),bP (AC:¬(k:Int)>8),af,af,Zc (by rw[aS,aS,bq,bq,bq];omega),ZD,bn,D4];refine Zj _ (λq y s=>∃i:Nat,y=[.w ((v/256^i:Nat):Int),.i i]/\i<=k/\k-i<=q/\s=st++[some ⟨false,bT (bB v i)++List.replicate (k-i) (.u 0)⟩]) ?_ k n _ _ ⟨0,Do,AC,AC,by simp[bT,bB]⟩ AC;rintro q _ s ⟨i,rfl,hi,hq,rfl⟩ rec aN;simp only[au,ao];have iz:(bT (bB v i)).length=i:=by rw[Zw,Zr]
 by_cases av:i<k
 .rw[aQ (AC:(i:Int)<(k:Int)),ae,Zc (Zi av),bn,cR,Zrm _ (by rw[ba,iz,pw];omega),Ztd iz av,Zb,show((2:Int)^8)=((256:Nat):Int) by decide,Ea]
  refine aN (k-(i+1)) _ _ AC ⟨i+1,by rw[H3,<-tn];rfl,AC,AC,?_⟩;rw[ZAW,B2,ZAC];rfl
 .rw[bP (AC:¬(i:Int)<(k:Int)),af,Zs]
  have:i=k:=AC
  subst this;have EP:=aB.new st (some (⟨false,bT (bB v i)++List.replicate (i-i) (.u 0)⟩:bQ));have gW:bc st (st++[some (⟨false,bT (bB v i)++List.replicate (i-i) (.u 0)⟩:bQ)]) (some (st.length,0)) (bT (bB v i)):=⟨EP,Do⟩;exact .mk ⟨_,_,rfl,Zx EP,gW.fz⟩
def wN (W:al):aj:=(W.map λw=>bB w 8).flatten
theorem ZqV: ∀(W:al),(wN W).length=8*W.length
 |[]=>rfl
 |w::r=>by
  have:=ZqV r;unfold wN at this⊢;rw[kf,vH,ba,this,Zr,cQ];omega
theorem Zyh (V W:al):wN (V++W)=wN V++wN W:=by simp[wN]
theorem Zpi (n:Nat) (a:ai) (W:al) (st:St) (ha:Sl st a (Zu W)) (hl:W.length<1000000) (hn:W.length+20<=n):
  Ok (λo=>∃p s',o=(.val [.slice 1 p (8*W.length)],s')/\aB st s'/\nN s' p (wN W)) (run Bd n 332 [.slice 1 a W.length] st):=by
 obtain _|n:=n;omega;rw[Ze,h.ah0];unfold Sa ck gj l9 xj jL bj ZF fj jy;simp only[aZ,ao,Z8,Za];refine Zj _ (λq y s=>∃(i z:Nat) (p:ai),y=[.slice z p (8*i),.i i]/\(z=1\/p=none)/\i<=W.length/\W.length-i<=q/\bc st s p (bT (wN (W.take i)))) ?_ W.length n _ _ ⟨0,0,none,rfl,.inr rfl,cN _,AC,bc.nil (.refl st)⟩ AC;rintro q _ s ⟨i,z,p,rfl,hz,hi,hq,ho⟩ rec aN;rw[Zh 1 z p _ hz,au,ao];by_cases av:i<W.length
 .obtain⟨i1,o1,rfl⟩:=ha.cS (by rw[BS];omega)
  have Hk:(Zu W)[i]? =some (.w (W[i]:Nat)):=by grind[Zu]
  rw[aQ (AC:(i:Int)<(W.length:Int)),ae,bh,Zc (Zi av),bn,(ha.mono ho.1).dX Hk,bg];refine Ok.call (ZsL n W[i] 8 s) ?_;rintro _ ⟨p',s1,rfl,aH,hf⟩;refine⟨_,s1,rfl,?_⟩;rw[aZ,ao];have hl8:(bT (bB W[i] 8)).length=8*1:=by rw[Zw,Zr]
  have j5:=j9 (Y:=ah) hf.tM;rw[hl8]at j5;rw[j5];have⟨p2,s2,h1,h2⟩:=(ho.mono aH).app (Y:=ah) (sz:=1) (n:=8*i) (m:=8) (lim:=70368744177664) (ds:=bT (bB W[i] 8)) AC (by rw[Zw,ZqV,cB];omega) AC AC;rw[h2,Zb];refine aN (W.length-(i+1)) _ _ AC ⟨i+1,1,p2,rfl,.inl rfl,AC,AC,?_⟩;rw[Mi,cc av,Zyh,B2,show wN (some W[i]).toList=bB W[i] 8 by simp[wN]];exact h1
 .rw[bP (AC:¬(i:Int)<(W.length:Int)),af,Zs]
  have:i=W.length:=AC
  subst this;rw[rQ]at ho;exact .mk ⟨p,_,rfl,Zx ho.1,ho.fz⟩
theorem ZxJ: ∀(l:aj) (k:Nat),8*k<=l.length->((List.range k).map λi=>(l.drop (8*i)).take 8).flatten=l.take (8*k)
 |l,0,_=>by simp
 |l,k+1,h=>by
  rw[tl,eV,Fu,ZxJ l k AC,show 8*(k+1)=8*k+8 by omega,uH];simp
theorem ZuB (h:8*k<=l.length):wN (jX l k)=l.take (8*k):=by
 rw[<-ZxJ l k h];unfold wN jX;rw[uF];congr 1;refine FB λi hi=>?_
 rw[uG]at hi;have:((l.drop (8*i)).take 8).length=8:=by rw[cB,dY];omega
 show bB (ef ((l.drop (8*i)).take 8)) 8=_;have h2:=Gq ((l.drop (8*i)).take 8);rwa [this]at h2
def vA (l:aj) (k:Nat):aj:=(l.drop (64*k)).take 64
theorem Zr1 (n d:Nat) (l:aj) (at':Nat) (st:St) (hd:BJ st d (jX l (8*(l.length/64)))) (hl:l.length<262144) (CH:at'<1000000) (hn:100<=n):
  Ok (λo=>∃s',aB st s'/\if at'<l.length/64 then ∃p,o=(.val [.slice 1 p 64,.i 0],s')/\nN s' p (vA l at')else o=(.val [.slice 0 none 0,.i 2],s')) (run Bd n 329 [.ptr (some (d,0)),.i at'] st):=by
 obtain⟨n,rfl⟩: ∃m,n=m+3:=⟨n-3,AC⟩;have⟨_,_,_,_,_,_,_,_,_,g1,g2,_⟩:=hd;have hm:=Ztv n d at' st g1 g2 (by rw[DR];omega);rw[Ze,h.ahX];unfold S7 qU cK Q_ jL dj B3 iT jy bj fj lX Li
 try dsimp only
 rw[fw,au,ao,Zk hm,DR,Nat.mul_div_cancel_left _ AC,bP (AC:¬(at':Int)<0),wX,au,ao];by_cases av:at'<l.length/64
 .rw[bP (AC:¬(at':Int)>=((l.length/64:Nat):Int)),af,show(!((0:Int)==0))=false from rfl,af,ZD]
  simp only[bx av,Za];have qC:([.w 0,.w 0,.w 0,.w 0,.w 0,.w 0,.w 0,.w 0]:ah)=List.replicate 8 (.w 0):=rfl;rw[qC];have⟨W,hW⟩: ∃W,jX (vA l at') 8=W:=⟨_,rfl⟩;have Ha:W.length=8:=by rw[<-hW,DR]
  have da: ∀i,i<8->(jX l (8*(l.length/64)))[at'*8+i]? =W[i]? :=λi hi=>by
   rw[<-hW,Ux AC,Ux hi];grind[vA,BC,kd]
  refine Zj _ (λq y s=>∃i:Nat,y=[.i i]/\i<=8/\8-i<=q/\s=st++[some ⟨false,Zu (W.take i)++List.replicate (8-i) (.w 0)⟩]) ?_ 8 (n+2) _ _ ⟨0,rfl,AC,AC,by simp[Zu]⟩ AC;rintro q _ s ⟨i,rfl,hi,hq,rfl⟩ rec aN;simp only[au,ao];have mq:(Zu (W.take i)).length=i:=by rw[BS,cB];omega
  by_cases YR:i<8
  .have Yd:W[i]? =some (W[i]' AC):=cc _
   generalize W[i]' AC=w at Yd;have Y5:=ZqS n d _ (at'*8+i) w _ (hd.mono (aB.new st (some (⟨false,Zu (W.take i)++List.replicate (8-i) (.w 0)⟩:bQ)))) (by rw[da i YR];exact Yd);have e1:aq (aq ((at':Int)*8)+(i:Int))=((at'*8+i:Nat):Int):=by
    have:aq ((at':Int)*8)=((at'*8:Nat):Int):=by
     rw[show(at':Int)*8=((at'*8:Nat):Int) by omega];exact Zb
    rw[this,<-Int.natCast_add];exact Zb
   rw[aQ (AC:(i:Int)<8),ae,e1,Zk Y5];simp only[au,ao];rw[show(!((0:Int)==0))=false from rfl,af,Zc (Zi YR),bn,cR,fE,Zrm _ (by rw[ba,mq,pw];omega),Ztd mq YR,Zb];refine aN (8-(i+1)) _ _ AC ⟨i+1,rfl,AC,AC,?_⟩;rw[Mi,Yd,ZpL];rfl
  .have:i=8:=AC
   subst this;rw[bP (AC:¬((8:Nat):Int)<8),af];have ht:W.take 8=W:=Fd
   rw[ht];have EP:=aB.new st (some (⟨false,Zu W++List.replicate (8-8) (.w 0)⟩:bQ));have Kd:(st++[some (⟨false,Zu W++List.replicate (8-8) (.w 0)⟩:bQ)])[st.length]? =some (some ⟨false,Zu W⟩):=Do
   generalize (st++[some (⟨false,Zu W++List.replicate (8-8) (.w 0)⟩:bQ)])=s1 at EP Kd;have hw8:(Zu W).length=8:=by rw[BS];exact Ha
   rw[kq Kd AC];have dR:Sl s1 (some (st.length,0)) (Zu W):=⟨false,_,Kd,AC,by rw[dF,dG AC]⟩;have ho:=Zpi (n+2) (some (st.length,0)) W s1 dR AC AC;rw[Ha]at ho;refine Ok.call ho ?_;rintro _ ⟨p,s2,rfl,bd,hf⟩;refine⟨_,s2,rfl,?_⟩;rw[aZ,ao,Zd];refine .mk ⟨s2,EP.trans bd,p,rfl,?_⟩;have fV:(vA l at').length=64:=by unfold vA;rw[cB,dY];omega
   rw[<-hW,ZuB AC,dG AC]at hf;exact hf
 .rw[aQ (AC:(at':Int)>=((l.length/64:Nat):Int)),ae,show(!((2:Int)==0))=true from rfl,ae,Zd]
  simp only[aY av];exact .mk ⟨st,.refl st,rfl⟩
def sX (t:aj) (n:Nat):cm where
 seq:=bL t 0 8
 blocks:=bL t 8 4
 cW:=bL t 12 4
 g:=bL t 16 4
 bY:=bL t 28 2
 used:=bL t 20 4
 free:=bL t 24 4
 dir:=bL t 30 2
 aK:=(List.range n).map λj=>bL t (32+2*j) 2
def rk (l:aj):Option cm:=match eK l with
 |none=>none
 |some (k,n,t)=>bif decide (k=7)&&decide (n<=8)then(bif ZP (sX t n)&&ZB (t.drop (32+2*n))then some (sX t n)else none)else none
structure Gs (t:List UInt8) (S R:Nat) (st s:St) (cs:List DV) (k:Nat):Prop where
 pre:aB st s
 le:st.length<=S/\st.length<=R/\S≠R
 cl:s[S]? =some (some ⟨false,cs⟩)
 rd: ∃y,s[R]? =some (some ⟨false,[.slice 1 y (56-k)]⟩)/\nN s y (t.drop k)
theorem I7 (n:Nat) (g:Gs t S R st s cs k) (j:Nat) (x:Int) (hx:x=(j:Int)) (ht:t.length=56) (hj:j<=8:=by omega) (hk:k+j<=56:=by omega) (hn:20<=n:=by omega):
  ∃s',run Bd n 334 [.ptr (some (R,0)),.i x] s=some (.val [.i (bL t k j)],s')/\Gs t S R st s' cs (k+j)/\Kp s s'/\s'.length=s.length/\∀b,b≠R->s'[b]? =s[b]? :=by
 subst hx;obtain _|n:=n;omega;have⟨y,hr,hf⟩:=g.rd;have j1:(t.drop k).length=56-k:=by rw[dY,ht]
 refine⟨s.set R (some ⟨false,[.slice 1 (cY true y j) (56-k-j)]⟩),?_,⟨tH g.pre g.le.2.1 _,g.le,?_,cY true y j,?_,?_⟩,Kp.set hr _,lz,Fd⟩
 .rw[Ze,h.ah2]
  unfold Rf qU vW bj Li;simp only[fw,au,ao,bh];rw[Zn (d:= .slice 1 y (56-k)) hr rfl,kP,Zc (by rw[aS,bq,bq];omega),bn];have vx:((t.drop k).take j).length=j:=by rw[cB];omega
  have j5:=yu n y ((t.drop k).take j) s (hf.tM.mu j);rw[vx]at j5;rw[Zk j5,au,ao,Zn (d:= .slice 1 y (56-k)) hr rfl,kP,Zc (by rw[aS,bq,bq];omega),cR,sa hr (by show 0<1;omega)];rfl
 .rw[ig (λe=>g.le.2.2 e.symm)];exact g.cl
 .rw[ke (eE.1 hr).1,show 56-(k+j)=56-k-j by omega]
 .have:=(hf.kp (Kp.set hr (some ⟨false,[.slice 1 (cY true y j) (56-k-j)]⟩))).cY (k:=j) AC
  rwa [kd]at this
theorem Gs.store (g:Gs t S R st s cs k) (j:Nat) (d:DV) (hj:j<cs.length):
  ∃s',(∀K:M Y,dE S j [d] K s=K s')/\Gs t S R st s' (cs.set j d) k/\Kp s s'/\s'.length=s.length/\∀b,b≠S->s'[b]? =s[b]? :=by
 have⟨y,hr,hf⟩:=g.rd;refine⟨s.set S (some ⟨false,cs.set j d⟩),λK=>sa g.cl hj K,⟨tH g.pre g.le.1 _,g.le,ke (eE.1 g.cl).1,y,?_,hf.kp (Kp.set g.cl _)⟩,Kp.set g.cl _,lz,Fd⟩;rw[ig g.le.2.2];exact hr
def L5 (z:Nat):ah:=[.i 0,.i 0,.i 0,.i 0,.i 0,.i 0,.i 0,.i 0,.slice z none 0]
def tB:ah:=L5 0
def yl (st:St) (r:Option cm) (o:Out ah×St):Prop:=∃s',aB st s'/\match r with
 |none=>∃z,o=(.val [.agg (L5 z),.bool false],s')
 |some x=>∃p,o=(.val [.agg (dI x p),.bool true],s')/\Sl s' p (ints x.aK)
theorem Gs.but (g:Gs t S R st s cs k) (hp:aB st s') (hk:Kp s s') (hb:tr cp s s') (h1: ∀o,cp≠some (S,o)) (h2: ∀o,cp≠some (R,o)):Gs t S R st s' cs k:=by
 have⟨y,hr,hf⟩:=g.rd;exact⟨hp,g.le,hb S _ g.cl h1,y,hb R _ hr h2,hf.kp hk⟩
def wj (i:Nat):Nat:=[1,2,3,5,6].getD i 0
def Qv (t:aj) (i:Nat):ah:=[.i (bL t 0 8),.i (bif Nat.blt 0 i then bL t 8 4 else 0),.i (bif Nat.blt 1 i then bL t 12 4 else 0),.i (bif Nat.blt 2 i then bL t 16 4 else 0),.i 0,.i (bif Nat.blt 3 i then bL t 20 4 else 0),.i (bif Nat.blt 4 i then bL t 24 4 else 0),.i 0,.slice 0 none 0]
theorem ZxA (t:aj) (S:Nat) (h:i<5):(Qv t i).set (wj i) (.i (bL t (8+4*i) 4))=Qv t (i+1)/\wj i<9/\([.ptr (some (S,1)),.ptr (some (S,2)),.ptr (some (S,3)),.ptr (some (S,5)),.ptr (some (S,6))]:ah)[i*1]? =some (.ptr (some (S,wj i))):=by
 match i,h with
 |0,_=>exact⟨rfl,EQ,rfl⟩
 |1,_=>exact⟨rfl,EQ,rfl⟩
 |2,_=>exact⟨rfl,EQ,rfl⟩
 |3,_=>exact⟨rfl,EQ,rfl⟩
 |4,_=>exact⟨rfl,EQ,rfl⟩
def HR (t:aj) (z:Nat) (c:ai) (n:Nat):ah:=[.i (bL t 0 8),.i (bL t 8 4),.i (bL t 12 4),.i (bL t 16 4),.i (bL t 28 2),.i (bL t 20 4),.i (bL t 24 4),.i (bL t 30 2),.slice z c n]
def D8 (t:aj) (n:Nat):ak:=(List.range n).map λj=>bL t (32+2*j) 2
theorem T7 (t:aj) (n:Nat):(D8 t n).length=n:=by simp[D8]
theorem Zta (t:aj) (n:Nat):D8 t (n+1)=D8 t n++[bL t (32+2*n) 2]:=by
 simp[D8,tl,eV]
theorem Zrt (l:ak):(ints l).length=l.length:=by simp[ints]
theorem Zx8 (l m:ak):ints (l++m)=ints l++ints m:=by simp[ints]
theorem ZAo {α:Type} {m:M α} {ds:α} (h:m s=some (.val ds,s')) (hk:s'[i]? =s[i]?):Jy i m s=some (.val ds,s'):=by
 grind[Jy]
theorem ZtK (n:Nat) (a:ai) (l:aj) (st:St) (ha:dD st a l) (hl:l.length<1000000) (hn:200<=n):
  Ok (yl st (rk l)) (run Bd n 330 [.slice 1 a l.length] st):=by
 obtain _|n:=n;omega;have⟨r,hr⟩: ∃r,rk l=r:=⟨_,rfl⟩;rw[hr,Ze,h.ahY];unfold Ud ck tE az cK Q_ ZU bF dj nh bj FW iT Li yr Lb jA
 try dsimp only
 rw[aZ,ao,Z8];refine Ok.call (DO n a l st ha hl) ?_;rintro o ⟨s0,pU,hm⟩;have no: ∀s',aB st s'->r=none->Ok (yl st r) (some (Out.val [.agg tB,.bool false],lE st.length s')):=λs' hp e=>by
  rw[e];exact .mk ⟨_,Zx hp,0,rfl⟩
 cases eD:eK l
 .rw[eD]at hm;simp only at hm;subst hm;refine⟨_,s0,rfl,?_⟩;simp only[au,Zh 1 0 none _ (.inr rfl),ar,ao,Za,bD,ae,Zs];exact no s0 pU (by rw[<-hr];unfold rk;rw[eD])
 .rename_i q;have⟨k,c,t⟩:=q;rw[eD]at hm;simp only at hm;obtain⟨p,rfl,hf,ht,hk,hc⟩:=hm;refine⟨_,s0,rfl,?_⟩;simp only[au,aZ,ar,ao,bI,af];refine Ok.join λax h1=>?_
  have A1: ∀b,(!decide (k=7))=b->Ok (yl st r) (ax [.bool b] s0):=by
   intro b1 e1;rw[h1];simp only[ar,ao];refine Ok.join λaG h2=>?_
   have A2: ∀b,(b1|| !decide (c<=8))=b->Ok (yl st r) (aG [.bool b] s0):=by
    intro b2 e2;rw[h2];simp only[ar,ao];cases b2
    .have YY:k=7/\c<=8:=by
      rw[<-e1,yf,L8,L8,bq,bq]at e2;exact e2
     have iH:r=bif ZP (sX t c)&&ZB (t.drop (32+2*c))then some (sX t c)else none:=by
      rw[<-hr];unfold rk;rw[eD];grind
     rw[af,ZD,ZD,show([.i 0,.i 0,.i 0,.i 0,.i 0,.i 0,.i 0,.i 0,.slice 0 none 0]:ah)=tB from rfl];have⟨hk7,J4⟩:=YY;have bd:aB s0 (s0++[some (⟨false,tB⟩:bQ)]++[some (⟨false,[.slice 0 none 0]⟩:bQ)]):=(aB.new _ _).trans (.new _ _);have hS:(s0++[some (⟨false,tB⟩:bQ)]++[some (⟨false,[.slice 0 none 0]⟩:bQ)])[s0.length]? =some (some ⟨false,tB⟩):=by
      rw[dL,kO (aJ _),yg];rfl
     have hR:(s0++[some (⟨false,tB⟩:bQ)]++[some (⟨false,[.slice 0 none 0]⟩:bQ)])[(s0++[some (⟨false,tB⟩:bQ)]).length]? =some (some ⟨false,[.slice 0 none 0]⟩):=by
      rw[kO (aJ _),yg];rfl
     have O5:s0.length≠(s0++[some (⟨false,tB⟩:bQ)]).length:=by rw[ba];grind
     have acJ:s0.length<=(s0++[some (⟨false,tB⟩:bQ)]).length:=(aB.new _ _).len;change Ok (yl st r) (dE (s0++[some (⟨false,tB⟩:bQ)]).length 0 [.slice 1 p 56] _ (s0++[some (⟨false,tB⟩:bQ)]++[some (⟨false,[.slice 0 none 0]⟩:bQ)]));generalize (s0++[some (⟨false,tB⟩:bQ)]++[some (⟨false,[.slice 0 none 0]⟩:bQ)])=s2 at bd hS hR;generalize (s0++[some (⟨false,tB⟩:bQ)]).length=R at hR O5 acJ;have⟨S,G8⟩: ∃S,s0.length=S:=⟨_,rfl⟩;rw[G8]at hS O5 acJ;have wG:=pU.len;rw[sa hR (by show 0<1;omega)];have g0:Gs t S R st (s2.set R (some ⟨false,[.slice 1 p 56]⟩)) tB 0:=by
      refine⟨tH (pU.trans bd) AC _,⟨AC,AC,O5⟩,?_,p,?_,?_⟩
      .rw[ig (λe=>O5 e.symm)];exact hS
      .grind
      .rw[dF];exact(hf.pre bd).kp (Kp.set hR _)
     change Ok (yl st r) (c9 _ _ (s2.set R (some ⟨false,[.slice 1 p 56]⟩)));generalize (s2.set R (some ⟨false,[.slice 1 p 56]⟩))=s3 at g0;have⟨s4,e4,g4,_⟩:=I7 n g0 8 8 rfl ht;rw[Zk e4,au,ao,G8];have⟨s5,e5,g5,_⟩:=g4.store (Y:=ah) 0 (.i (bL t 0 8)) (by show 0<9;omega);rw[e5];have g6:Gs t S R st s5 (Qv t 0) 8:=g5;refine Ok.join λaW h3=>?_
     refine Zj _ (λq y s=>∃i:Nat,y=[.i i]/\i<=5/\5-i<=q/\Gs t S R st s (Qv t i) (8+4*i)) ?_ 5 n _ _ ⟨0,rfl,AC,AC,g6⟩ AC;rintro q _ s ⟨i,rfl,hi,hq,g⟩ rec aN;rw[au,ao];by_cases av:i<5
     .have⟨w1,w2,w3⟩:=ZxA t S av
      rw[aR,Zc (Zi av),bn,iI w3,Mo];have⟨s',e',g',_⟩:=I7 n g 4 4 rfl ht;rw[Zk e',au,ao,bh];have⟨rM,e'',OP,_⟩:=g'.store (Y:=ah) (wj i) (.i (bL t (8+4*i) 4)) w2;rw[e'',Zb];rw[w1,show 8+4*i+4=8+4*(i+1) by omega]at OP;exact aN (5-(i+1)) _ _ AC ⟨i+1,rfl,AC,AC,OP⟩
     .rw[aU,h3]
      have:i=5:=AC
      subst this;simp only[ao];have⟨s7,e7,g7,_⟩:=I7 n g 2 2 rfl ht;rw[Zk e7,au,ao];have⟨s8,e8,g8,_⟩:=I7 n g7 2 2 rfl ht;rw[Zk e8,au,ao];have⟨s9,e9,g9,_⟩:=g8.store (Y:=ah) 4 (.i (bL t 28 2)) (by show 4<9;omega);rw[e9];have⟨LI,JM,g10,_⟩:=g9.store (Y:=ah) 7 (.i (bL t 30 2)) (by show 7<9;omega);rw[JM];have g11:Gs t S R st LI (HR t 0 none 0) 32:=g10;refine Ok.join λbG h4=>?_
      refine Zj _ (λq y s=>∃(i z:Nat) (cp:ai),y=[.i i]/\i<=c/\c-i<=q/\Gs t S R st s (HR t z cp i) (32+2*i)/\(z=1\/cp=none)/\bc st s cp (ints (D8 t i))/\(∀o,cp≠some (S,o))/\∀o,cp≠some (R,o)) ?_ c n _ _ ⟨0,0,none,rfl,AC,AC,g11,.inr rfl,bc.nil g11.pre,λo e=>(by cases e),λo e=>(by cases e)⟩ AC;clear aN g g4 g5 g6 g7 g8 g9 g10 g11 e4 e5 e7 e8 e9 JM;rintro q _ s ⟨i,z,cp,rfl,hi,hq,g,hz,ho,hnS,hnR⟩ rec aN;rw[au,ao];by_cases av:i<c
      .rw[aR,Zn (d:= .slice z cp i) g.cl rfl,Z5 1 z cp i hz]
       have⟨s',e',g',k',l',o'⟩:=I7 n g 2 2 rfl ht;rw[xr (ZAo e' (o' S g.le.2.2)),au,ao];have oh:bc st s' cp (ints (D8 t i)):=by
        refine⟨g'.pre,ho.2.imp id λ⟨j,e1,e2,e3⟩=>⟨j,e1,e2,?_⟩⟩;rw[o' j (λe=>hnR 0 (by rw[e1,e]))];exact e3
       have⟨b,rM,h0,i1,i2,i3,i4⟩:=oh.Qj (Y:=ah) (sz:=1) (n:=i) (lim:=8796093022208) [.i (bL t (32+2*i) 2)] AC (by rw[Zrt,T7,cR]) rfl AC;rw[i4];have OP:=g'.but i1.1 i2 i3 hnS hnR;have⟨s3',e3',g3',k3',l3',o3'⟩:=OP.store (Y:=ah) 8 (.slice 1 (some (b,0)) (i+1)) (by show 8<9;omega);rw[e3',Zb];have hbS:b≠S:=by have:=(eE.1 g'.cl).1;omega
       have hbR:b≠R:=by
        have⟨y,kX,_⟩:=g'.rd;have:=(eE.1 kX).1;omega
       refine aN (c-(i+1)) _ _ AC ⟨i+1,1,some (b,0),rfl,AC,AC,by rw[show 32+2*(i+1)=32+2*i+2 by omega];exact g3',.inl rfl,?_,λo e=>(by cases e;exact hbS rfl),λo e=>(by cases e;exact hbR rfl)⟩;rcases i1.2 with⟨e,_⟩|⟨j,e,e2,e3⟩
       .cases e
       .cases e
        exact⟨g3'.pre,.inr ⟨b,rfl,e2,by rw[o3' b hbS,e3,Zta,Zx8];rfl⟩⟩
      .rw[aU,h4]
       have:i=c:=AC
       subst this;simp only[ao];rw[kq g.cl (by show 0+9<=9;omega)];have rB:(List.drop 0 (HR t z cp i)).take 9=HR t z cp i:=rfl;rw[rB];unfold HR;simp only[au,Zh 1 z cp _ hz,ao];have zF:(sX t i).aK.length=i:=T7 t i;have hRt:=Zkw n (sX t i) cp s ho.sl (by rw[zF];omega) (by rw[zF];omega);have df:([.i (bL t 0 8),.i (bL t 8 4),.i (bL t 12 4),.i (bL t 16 4),.i (bL t 28 2),.i (bL t 20 4),.i (bL t 24 4),.i (bL t 30 2),.slice 1 cp i]:ah)=dI (sX t i) cp:=by
        unfold dI;rw[zF];rfl
       rw[df,Zk hRt,ar,ao];have iM:=aB.new s (some (⟨false,dI (sX t i) cp⟩:bQ));generalize (s++[some (⟨false,dI (sX t i) cp⟩:bQ)])=sN at iM;have gcl:=iM.get g.cl;have⟨y,kX,hfy⟩:=g.rd;have gr':=iM.get kX;refine Ok.join λcA h5=>?_
       have A5: ∀b,(!(ZP (sX t i)&&ZB (t.drop (32+2*i))))=b->Ok (yl st r) (cA [.bool b] sN):=by
        intro b e;rw[h5];simp only[ar,ao];cases b
        .rw[L8]at e;rw[e,ae]at iH;rw[af,kq gcl (by show 0+9<=9;omega),rB];unfold HR;simp only[au,Zh 1 z cp _ hz,ao,Zs];rw[df,iH];exact .mk ⟨_,Zx (g.pre.trans iM),cp,rfl,(ho.sl.mono iM).gk _⟩
        .rw[ae,Zs];refine no sN (g.pre.trans iM) ?_;rw[iH];rw[kN]at e;rw[e,af]
       cases oM:ZP (sX t i)
       .rw[bD,ae];exact A5 true (by rw[oM];rfl)
       .rw[bI,af,Zn (d:= .slice 1 y (56-(32+2*i))) gr' rfl,kP,Zn (d:= .slice 1 y (56-(32+2*i))) gr' rfl,kP];have j1:(t.drop (32+2*i)).length=56-(32+2*i):=by rw[dY,ht]
        have cC:=DM n y (t.drop (32+2*i)) 0 (56-(32+2*i)) sN (hfy.tM.mono iM);rw[j1]at cC;rw[show(0:Int)=((0:Nat):Int)from rfl,Zk cC,ar,ao];refine A5 _ ?_;rw[oM,dt,dF,dG AC]
    .rw[ae,Zs];refine no s0 pU ?_;rw[<-hr];unfold rk;rw[eD];grind
   grind
  grind
def lS (img:aj) (k:Nat):Option cm:=bif decide (k<img.length/64)then rk (vA img k)else none
def Bt:Option cm->Option cm->Option cm
 |b,none=>b
 |none,some y=>some y
 |some x,some y=>bif decide (y.seq>x.seq)then some y else some x
def sT (img:aj):Option cm:=Bt (Bt none (lS img 0)) (lS img 1)
theorem aeX (x:cm) (p:ai) (l:ah) (K:ah->ah->M Y):bp (.agg (dI x p)::l) K=K (dI x p) l:=rfl
theorem lB (cs l:ah) (K:ah->ah->M Y):bp (.agg cs::l) K=K cs l:=rfl
theorem Zs3 (n d:Nat) (l:aj) (k:Nat) (st:St) (hd:BJ st d (jX l (8*(l.length/64)))) (hl:l.length<262144) (hk:k<2) (hn:300<=n):
  Ok (yl st (lS l k)) (run Bd n 327 [.ptr (some (d,0)),.i k] st):=by
 obtain _|n:=n;omega;have⟨r,hr⟩: ∃r,lS l k=r:=⟨_,rfl⟩;rw[hr];unfold lS at hr;rw[Ze,h.ahV];unfold Ua qU az q9 ME FW iT bj Lb
 try dsimp only
 rw[fw,au,ao,Za,bP (AC:¬(k:Int)<0),af,bP (AC:¬(k:Int)>=2)];simp only[ar,ao,af];refine Ok.call (Zr1 n d l k st hd hl AC AC) ?_;rintro o ⟨s1,aH,ho⟩;by_cases av:k<l.length/64
 .rw[bx av]at ho
  obtain⟨p,rfl,hf⟩:=ho;rw[aQ av,ae]at hr;refine⟨_,s1,rfl,?_⟩;rw[aZ,au,ao,show(!((0:Int)==0))=false from rfl,af];have fV:(vA l k).length=64:=by grind[vA]
  have hg:=ZtK n p (vA l k) s1 hf.tM AC AC;rw[fV,hr]at hg;refine Ok.call hg ?_;rintro o ⟨s2,bd,ho⟩;cases r with
  |none=>
   obtain⟨z,rfl⟩:=ho;refine⟨_,s2,rfl,?_⟩;rw[lB];unfold L5;simp only[au,Zh 1 z none _ (.inr rfl),ar,ao,Zd];exact .mk ⟨s2,aH.trans bd,1,rfl⟩
  |some x=>
   simp only at ho;obtain⟨q,rfl,hq⟩:=ho;refine⟨_,s2,rfl,?_⟩;rw[aeX];unfold dI;simp only[au,aZ,ar,ao,Zd];exact .mk ⟨s2,aH.trans bd,q,rfl,hq⟩
 .rw[aY av]at ho
  subst ho;rw[bP av,af]at hr;refine⟨_,s1,rfl,?_⟩;rw[Zh 1 0 none _ (.inr rfl),au,ao,show(!((2:Int)==0))=true from rfl,ae,Zd,<-hr];exact .mk ⟨s1,aH,0,rfl⟩
def uM (s:St) (r:Option cm) (cs:ah) (b:Bool):Prop:=match r with
 |none=>(∃z,cs=L5 z)/\b=false
 |some x=>∃p,cs=dI x p/\b=true/\Sl s p (ints x.aK)
theorem uM.mono {s s':St} {r:Option cm} {cs:ah} {b:Bool} (h:uM s r cs b) (k:aB s s'):uM s' r cs b:=by
 cases r with
 |none=>exact h
 |some x=>have⟨p,h1,h2,h3⟩:=h;exact⟨p,h1,h2,h3.mono k⟩
def Qc (a1 a2 a3 a4 a5 a6 a7 a8:Int) (z:Nat) (p:ai) (n:Nat):ah:=[.i a1,.i a2,.i a3,.i a4,.i a5,.i a6,.i a7,.i a8,.slice z p n]
theorem uM.nine {b:Bool} (h:uM s r cs b): ∃a1 a2 a3 a4 a5 a6 a7 a8 z p n,cs=Qc a1 a2 a3 a4 a5 a6 a7 a8 z p n/\(z=1\/p=none)/\(∀x,r=some x->a1=x.seq)/\uM s r (Qc a1 a2 a3 a4 a5 a6 a7 a8 1 p n) b:=by
 cases r with
 |none=>
  obtain⟨⟨z,rfl⟩,rfl⟩:=h;exact⟨0,0,0,0,0,0,0,0,z,none,0,rfl,.inr rfl,λx e=>(by cases e),⟨1,rfl⟩,rfl⟩
 |some x=>
  obtain⟨p,rfl,rfl,h3⟩:=h;exact⟨_,_,_,_,_,_,_,_,1,p,_,rfl,.inl rfl,λx e=>(by cases e;rfl),p,rfl,rfl,h3⟩
theorem yl.out {o:Out ah×St} (h:yl st r o): ∃s' cs b,o=(.val [.agg cs,.bool b],s')/\aB st s'/\uM s' r cs b:=by
 have⟨s',hp,h⟩:=h;cases r with
 |none=>have⟨z,h⟩:=h;exact⟨s',_,_,h,hp,⟨z,rfl⟩,rfl⟩
 |some x=>have⟨p,h1,h2⟩:=h;exact⟨s',_,_,h1,hp,p,rfl,rfl,h2⟩
theorem uM.b {s:St} {r:Option cm} {cs:ah} {b:Bool} (h:uM s r cs b):b=r.isSome:=by
 cases r with
 |none=>exact h.2
 |some x=>have⟨p,_,h2,_⟩:=h;exact h2
def ab3 (st:St) (r:Option cm) (o:Out ah×St):Prop:=∃s' cs k b,o=(.val [.agg cs,.i k,.bool b],s')/\aB st s'/\uM s' r cs b
def Cp (l:aj):Nat->Option cm
 |0=>none
 |i+1=>Bt (Cp l i) (lS l i)
theorem Zue (n d:Nat) (l:aj) (st:St) (hd:BJ st d (jX l (8*(l.length/64)))) (hl:l.length<262144) (hn:400<=n):
  Ok (ab3 st (sT l)) (run Bd n 326 [.ptr (some (d,0))] st):=by
 obtain⟨n,rfl⟩: ∃m,n=m+4:=⟨n-4,AC⟩;rw[Ze,h.ahU];unfold Ub jO RC ZU Zxd ME az Iq iT Lb
 try dsimp only
 rw[fw,ao];refine Ok.join λax h1=>?_
 refine Zj _ (λq y s=>∃(i:Nat) (cs:ah) (k:Int) (b:Bool),y=[.agg cs,.i k,.bool b,.i i]/\i<=2/\2-i<=q/\aB st s/\uM s (Cp l i) cs b) ?_ 2 (n+3) _ _ ⟨0,_,0,false,rfl,AC,AC,.refl st,⟨0,rfl⟩,rfl⟩ AC;rintro q _ s ⟨i,cs,k,b,rfl,hi,hq,hp,hm⟩ rec aN;obtain⟨a1,a2,a3,a4,a5,a6,a7,a8,z,p,m,rfl,hz,aj1,fS⟩:=hm.nine;rw[lB];unfold Qc;simp only[au,Zh 1 z p _ hz,ar,ao];by_cases av:i<2
 .rw[aQ (AC:(i:Int)<2),ae]
  refine Ok.call (Zs3 (n+3) d l i s (hd.mono hp) hl av AC) ?_;intro o ho;obtain⟨s1,bU,b1,rfl,aH,eG⟩:=ho.out;refine⟨_,s1,rfl,?_⟩;obtain⟨c1,c2,c3,c4,c5,c6,c7,c8,z',p',m',rfl,Dd,aj2,xL⟩:=eG.nine;rw[lB];unfold Qc;simp only[au,Zh 1 z' p' _ Dd,ar,ao];have hw:aq ((i:Int)+1)=((i+1:Nat):Int):=Zb;refine Ok.join λaG h2=>?_
  have A2: ∀c r,Bt (Cp l i) (lS l i)=(bif c then lS l i else Cp l i)->r=c->(c=true->b1=true)->Ok (ab3 st (sT l)) (aG [.bool r] s1):=by
   intro c r e er ht;subst er;rw[h2];simp only[ar,ao,Za];cases r
   .rw[af,lB];simp only[au,aZ,ar,ao];rw[hw];refine aN (2-(i+1)) _ _ AC ⟨i+1,_,_,b,rfl,AC,AC,hp.trans aH,?_⟩;rw[af]at e;show uM s1 (Bt (Cp l i) (lS l i)) _ _;rw[e];exact fS.mono aH
   .rw[ae,lB];simp only[au,aZ,ar,ao];rw[hw];refine aN (2-(i+1)) _ _ AC ⟨i+1,_,_,true,rfl,AC,AC,hp.trans aH,?_⟩;rw[ae]at e;show uM s1 (Bt (Cp l i) (lS l i)) _ _;rw[e];rw[ht rfl]at xL;exact xL
  have lK:=eG.b;have hb:=hm.b;cases hr:lS l i
  .rw[hr]at lK;subst lK;rw[show(Option.isSome (none:Option cm))=false from rfl,af];exact A2 false false (by rw[hr];cases Cp l i<;>rfl) rfl (λe=>by cases e)
  .rename_i y;rw[hr]at lK;subst lK;rw[show(Option.isSome (some y))=true from rfl,ae,Za];cases JZ:Cp l i
   .rw[JZ]at hb;subst hb;rw[show(!Option.isSome (none:Option cm))=true from rfl,ae];simp only[ar,ao];exact A2 true true (by rw[hr,JZ];rfl) rfl (λ_=>rfl)
   .rename_i x;rw[JZ]at hb;subst hb;rw[show(!Option.isSome (some x))=false from rfl,af];simp only[ar,ao];refine A2 (decide (y.seq>x.seq)) _ (by rw[hr,JZ];rfl) ?_ (λ_=>rfl);rw[aj2 y hr,aj1 x JZ]
 .rw[bP (AC:¬(i:Int)<2),af,h1]
  have:i=2:=AC
  subst this;simp only[lB,au,aZ,ar,ao,Zd];exact .mk ⟨s,_,k,b,rfl,hp,fS⟩
theorem Zxg {x:cm} (h:rk l=some x):ZP x=true/\x.aK.length<=8:=by
 unfold rk at h;cases ho:eK l
 .rw[ho]at h;cases h
 .rename_i q;have⟨k,n,t⟩:=q;rw[ho]at h;simp only at h;cases h1:decide (k=7)&&decide (n<=8)
  .rw[h1]at h;cases h
  .rw[h1,ae]at h;rw[aS,bq,bq]at h1;cases h2:ZP (sX t n)&&ZB (t.drop (32+2*n))
   .rw[h2]at h;cases h
   .rw[h2,ae]at h;cases h;rw[aS]at h2;exact⟨h2.1,by rw[show(sX t n).aK.length=n from T7 t n];exact h1.2⟩
theorem ZwR {x:cm} (h:lS l k=some x):k<l.length/64/\rk (vA l k)=some x:=by
 grind[lS]
theorem ZoU {a b:Option cm} {x:cm} (h:Bt a b=some x):a=some x\/b=some x:=by
 cases a with
 |none=>cases b with
  |none=>cases h
  |some y=>exact .inr h
 |some z=>cases b with
  |none=>exact .inl h
  |some y=>
   have h:(bif decide (y.seq>z.seq)then some y else some z)=some x:=h;grind
theorem Zv6 {x:cm} (h:sT l=some x): ∃k,k<2/\lS l k=some x:=by
 unfold sT at h;rcases ZoU h with h|h
 .rcases ZoU h with h|h
  .cases h
  grind
 grind
def nW (img:aj):Option (cm×aI)×Int:=match sT img with
 |none=>(none,30)
 |some x=>match nb (jJ img x)with
  |some (some v)=>bif uP img x v.W then(some (x,v),0)else(none,32)
  |_=>(none,31)
def ZA7 (st:St) (r:Option (cm×aI)×Int) (o:Out ah×St):Prop:=∃s',aB st s'/\match r with
 |(none,e)=>o=(.val [.agg (fa ux 0 none 0 none 0 none),.ptr none,.i e],s')/\e≠0
 |(some (x,v),_)=>∃z2 p2 z3 p3 z4 p4 i j,o=(.val [.agg (fa (na x v) z2 p2 z3 p3 z4 p4),.ptr (some (i,0)),.i 0],s')/\(z2=2\/p2=none)/\(z3=1\/p3=none)/\(z4=1\/p4=none)/\qh s' (na x v) p2 p3 p4/\gP s' false i j x.blocks.toNat (x.aK.foldl (bA x.blocks.toNat) v.W)
theorem Sl.words {W W':al} (hj:s[j]? =some (some ⟨f,Zu W⟩)) (hl:W'.length=W.length) (h:Sl s p cs) (hn: ∀(d:DV) (r:ah) (w:Nat),cs=d::r->d≠ .w w):Sl (s.set j (some ⟨f',Zu W'⟩)) p cs:=by
 cases p with
 |none=>exact h
 |some q=>
  have⟨i,o⟩:=q;have⟨g,all,h1,h2,h3⟩:=h;by_cases oI:i=j
  .subst oI
   rw[hj]at h1;cases h1;have hc:cs=[]:=by
    cases cs with
    |nil=>rfl
    |cons d r=>
     exfalso;have av:o<(Zu W).length:=by
      rw[cQ]at h2;omega
     have h4:(Zu W)[o]? =some d:=by
      have:=congrArg (λl:ah=>l[0]?) h3;simpa using this
     rw[BS]at av;have h5:(Zu W)[o]? =some (.w (W[o]:Nat)):=by
      unfold Zu;rw[nf,cc av];rfl
     rw[h5]at h4;grind
   subst hc;refine⟨f',_,ke (eE.1 hj).1,?_,rfl⟩;rw[BS,hl,<-BS];exact h2
  .exact⟨g,all,by rw[ig (λe=>oI e.symm)];exact h1,h2,h3⟩
theorem qh.words {s:St} {j:Nat} {f f':Bool} {W W':al} (hj:s[j]? =some (some ⟨f,Zu W⟩)) (hl:W'.length=W.length) {x:dW} {p1 p2 p3:ai} (h:qh s x p1 p2 p3):qh (s.set j (some ⟨f',Zu W'⟩)) x p1 p2 p3:=by
 have hi: ∀(l:ak) (d:DV) (r:ah) (w:Nat),ints l=d::r->d≠ .w w:=λl d r w e=>by
  cases l with
  |nil=>cases e
  |cons a l=>cases e;intro e;cases e
 have⟨ds,h1,h2⟩:=h.hp;refine⟨⟨ds,h1.words hj hl λd r w e=>?_,h2.bz λp es k=>k.words hj hl λd r w e=>?_⟩,h.gn.words hj hl (hi _),h.fr.words hj hl (hi _)⟩
 .cases hh:x.aD with
  |nil=>rw[hh]at h2;rw[show ds=[]from h2]at e;cases e
  |cons y t=>
   rw[hh]at h2;have⟨z,p,t',_,h3,_⟩:=h2;rw[h3]at e;cases e;intro e;cases e
 .cases es with
  |nil=>cases e
  |cons a l=>cases e;intro e;cases e
theorem Zqa (n:Nat) (a:ai) (img:aj) (st:St) (ht:xe st) (ha:dD st a img) (hl:img.length<262144) (hn:50000<=n):
  Ok (ZA7 st (nW img)) (run Bd n 324 [.slice 1 a img.length] st):=by
 obtain _|n:=n;omega;have⟨R,hR⟩: ∃R,nW img=R:=⟨_,rfl⟩;rw[hR];unfold nW at hR;rw[Ze,h.ahS];unfold SC ck Ae ZU ab1 FU bF C_ bj Lp
 try dsimp only
 rw[aZ,ao];refine Ok.call (Zug n a img st ha hl AC) ?_;rintro _ ⟨d,_,s1,rfl,aH,_,_,hd⟩;have hd:=hd.afK rfl;rw[ZBd]at hd;refine⟨_,s1,rfl,?_⟩;rw[fw,ao];refine Ok.call (Zue n d img s1 hd hl AC) ?_;rintro _ ⟨s2,cs,k,b,rfl,bd,hm⟩;refine⟨_,s2,rfl,?_⟩;have hb:=hm.b;cases jS:sT img with
 |none=>
  rw[jS]at hm hb hR;subst hb;obtain⟨⟨z,rfl⟩,_⟩:=hm;rw[lB];unfold L5;simp only[au,Zh 1 z none _ (.inr rfl),ar,ao];rw[show(!Option.isSome (none:Option cm))=true from rfl,ae,Zd,<-hR];exact .mk ⟨s2,aH.trans bd,rfl,AC⟩
 |some x=>
 rw[jS]at hm hb hR;simp only at hR;subst hb;obtain⟨q,rfl,_,hq⟩:=hm;have⟨kx,_,zy⟩:=Zv6 jS;have⟨oM,cU⟩:=Zxg (ZwR zy).2;rw[lB];unfold dI;simp only[au,aZ,ar,ao];rw[show(!Option.isSome (some x))=false from rfl,af];have C9:([.i x.seq,.i x.blocks,.i x.cW,.i x.g,.i x.bY,.i x.used,.i x.free,.i x.dir,.slice 1 q x.aK.length]:ah)=dI x q:=rfl;rw[C9];have sI:=aH.trans bd;have AU:=ha.mono sI;refine Ok.call (ZlF n a img x q s2 AU hq AC AC) ?_;intro o ho;cases hw:nb (jJ img x)with
 |none=>
  rw[hw]at ho hR;obtain⟨s3,rfl,dh⟩:=ho;refine⟨_,s3,rfl,?_⟩;rw[lB];unfold fa;simp only[au,Zh 2 0 none _ (.inr rfl),Zh 1 0 none _ (.inr rfl),fw,ao];rw[show(!((2:Int)==0))=true from rfl,ae,Zd,<-hR];exact .mk ⟨s3,sI.trans dh,rfl,AC⟩
 |some w=>
 cases w with
 |none=>
  rw[hw]at ho hR;obtain⟨s3,rfl,dh⟩:=ho;refine⟨_,s3,rfl,?_⟩;rw[lB];unfold fa;simp only[au,Zh 2 0 none _ (.inr rfl),Zh 1 0 none _ (.inr rfl),fw,ao];rw[show(!((31:Int)==0))=true from rfl,ae,Zd,<-hR];exact .mk ⟨s3,sI.trans dh,rfl,AC⟩
 |some v=>
 rw[hw]at ho hR;simp only at hR;obtain⟨s3,z2,p2,z3,p3,z4,p4,i,j,rfl,dh,iN,nF,E9,cq,dy,hj,oI⟩:=ho;refine⟨_,s3,rfl,?_⟩;rw[lB];unfold fa;simp only[au,Zh 2 z2 p2 _ iN,Zh 1 z3 p3 _ nF,Zh 1 z4 p4 _ E9,fw,ao];rw[show(!((0:Int)==0))=false from rfl,af];have EO:=sI.trans dh;refine Ok.cv (ZoY n a img x q (some (x.blocks.toNat,v.W)) (some (i,0)) s3 (ht.mono EO) (AU.mono dh) (hq.mono dh) ⟨false,i,j,rfl,dy⟩ AC AC AC) λs4 hJ=>?_
 have wx:Jf img x (some (x.blocks.toNat,v.W))=uP img x v.W:=by
  unfold Jf;rw[hw];simp
 rw[wx,ar,ao];cases y9:uP img x v.W
 .rw[y9,af]at hR;rw[bD,ae,Zd,<-hR];exact .mk ⟨s4,EO.trans hJ,rfl,AC⟩
 .rw[y9,ae]at hR;rw[bI,af];have EM:mG [j] q:=λb o e hm=>by
   subst e;have:=Sl.lt hq;rw[cH]at hm;omega
  have HE:=dy.pre hJ;rw[Zk (Iu n x.aK q s4 HE oI (hq.mono (dh.trans hJ)) EM),ao,Zd,<-hR];have hf:=ZG x.blocks.toNat x.aK v.W;have h2:=bd.len;have h1:=aH.len;refine .mk ⟨_,tH (EO.trans hJ) AC _,2,p2,1,p3,1,p4,i,j,rfl,.inl rfl,.inl rfl,.inl rfl,(cq.pre hJ).words HE.wd hf.1,HE.add oI _ hf.1 (hf.2 dy.lt)⟩
def GA (l:List dw) (a:Int):Int:=l.foldl (λa h=>aq (a+(h.bz.length:Nat))) a
def ZyD (x:cm) (v:aI):ah:=[.i (GA v.aD 0),.i (v.aD.length:Nat),.i (v.free.length:Nat),.i (aq (aq ((v.gens.length:Int)-GA v.aD 0)-(v.free.length:Int))),.i (GC (x.aK.foldl (bA x.blocks.toNat) v.W))]
def N4:ah:=[.i 0,.i 0,.i 0,.i 0,.i 0]
def ZA4 (st:St) (r:Option (cm×aI)×Int) (o:Out ah×St):Prop:=∃s',aB st s'/\match r with
 |(none,e)=>o=(.val [.agg N4,.i e],s')
 |(some (x,v),_)=>o=(.val [.agg (ZyD x v),.i 0],s')
theorem RQ (n:Nat) (a:ai) (img:aj) (st:St) (ht:xe st) (ha:dD st a img) (hl:img.length<262144) (hh: ∀x v e,nW img=(some (x,v),e)->v.aD.length<1000) (hn:50010<=n:=by omega):
  Ok (ZA4 st (nW img)) (run Bd n 323 [.slice 1 a img.length] st):=by
 obtain _|n:=n;omega;rw[Ze,h.acF];unfold Sj ck FU rW We cT N_ bj I5 Lp
 try dsimp only
 rw[aZ,ao];refine Ok.call (Zqa n a img st ht ha hl AC) ?_;rintro o ⟨s1,aH,ho⟩;have⟨R,hR⟩: ∃R,nW img=R:=⟨_,rfl⟩;rw[hR]at ho⊢;have⟨r,e⟩:=R;cases r with
 |none=>
  simp only at ho;obtain⟨rfl,he⟩:=ho;refine⟨_,s1,rfl,?_⟩;rw[lB];unfold fa;simp only[au,Zh 2 0 none _ (.inr rfl),Zh 1 0 none _ (.inr rfl),fw,ao];rw[show(!(e==0))=true by rw[dM.2 he];rfl,ae,Zd];exact .mk ⟨s1,aH,rfl⟩
 |some q=>
  have⟨x,v⟩:=q;have sB:=hh x v e hR;simp only at ho;obtain⟨z2,p2,z3,p3,z4,p4,i,j,rfl,iN,nF,E9,cq,dy⟩:=ho;refine⟨_,s1,rfl,?_⟩;rw[lB];unfold fa;simp only[au,Zh 2 z2 p2 _ iN,Zh 1 z3 p3 _ nF,Zh 1 z4 p4 _ E9,fw,ao];rw[show(!((0:Int)==0))=false from rfl,af];have CL:run Bd n 183 [.ptr (some (i,0))] s1=some (.val [.i (GC (x.aK.foldl (bA x.blocks.toNat) v.W))],s1):=ok_eq (Zso n s1 dy AC);rw[qY CL (.refl s1),au,ao,Za];have e1:(na x v).aD=v.aD:=rfl;have e2:(na x v).gens=v.gens:=rfl;have e3:(na x v).free=v.free:=rfl;have⟨ds,hs,YO⟩:=cq.hp;rw[e1]at YO;rw[e1,e2,e3];refine Zj _ (λq y s=>∃k:Nat,y=[.agg [.i (GA (v.aD.take k) 0),.i (v.aD.length:Nat),.i (v.free.length:Nat),.i 0,.i (GC (x.aK.foldl (bA x.blocks.toNat) v.W))],.i k]/\k<=v.aD.length/\v.aD.length-k<=q/\s=s1) ?_ v.aD.length n _ _ ⟨0,rfl,cN _,AC,rfl⟩ AC;rintro q _ s ⟨k,rfl,hk,hq,rfl⟩ rec aN;rw[lB];simp only[au,ao];by_cases av:k<v.aD.length
  .obtain⟨i1,o1,rfl⟩:=hs.cS (by rw[YO.len];omega)
   have eg:v.aD[k]? =some v.aD[k]:=cc av;have⟨za,pa,hza,hpa,la⟩:=Zxp (Y:=ah) hs YO eg;rw[aQ (AC:(k:Int)<(v.aD.length:Int)),ae,bh,Zc (Zi av),bn,la];unfold mS;rw[bZ,Zh 4 za pa _ hza,ao,Zb (x:=(k:Int)+1)];refine aN (v.aD.length-(k+1)) _ _ AC ⟨k+1,?_,AC,AC,rfl⟩;rw[oq av];unfold GA;rw[wZ];rfl
  .rw[bP (AC:¬(k:Int)<(v.aD.length:Int)),af,lB]
   simp only[au,ao,Zd];have:k=v.aD.length:=AC
   subst this;rw[rQ];exact .mk ⟨s,aH,rfl⟩
theorem ZyA {x:cm} (h:ox x):sX (ez (zT x) 56) x.aK.length=x:=by
 have⟨g1,g2,g3,g4,g5,g6⟩:=ZM h.g;have a0:=h.s0;have a1:=h.s1;have a3:=h.u1;have a4:=h.f0;have a5:=h.f1;have alQ:0<=x.bY/\x.bY<3072:=by
  by_cases hu:x.used=0
  .rw[h.t0 hu];omega
  .have:=(DY x x.bY).1 (h.t1 AC);omega
 have J6:0<=x.dir/\x.dir<3072:=by
  by_cases hu:x.dir=0
  .rw[hu];omega
  .have:=(DY x x.dir).1 (h.d hu);omega
 have⟨b,hb⟩: ∃b,ez (zT x) 56=b:=⟨_,rfl⟩;rw[hb];have S:b=bB (bM x.seq) 8++(bB (bM x.blocks) 4++(bB (bM x.cW) 4++(bB (bM x.g) 4++(bB (bM x.used) 4++(bB (bM x.free) 4++(bB (bM x.bY) 2++(bB (bM x.dir) 2++(dJ x.aK++ZR (56-(zT x).length))))))))):=by
  rw[<-hb];rfl
 have n8: ∀v,(bB v 8).length=8:=λv=>Zr v 8
 have n4: ∀v,(bB v 4).length=4:=λv=>Zr v 4
 have n2: ∀v,(bB v 2).length=2:=λv=>Zr v 2
 have k0:bL b 0 8=x.seq:=VC (A:=[]) S rfl AC;have u1:=vS (v:=x.blocks);have u2:=vS (v:=x.cW);have u3:=vS (v:=x.g);have u4:=vS (v:=x.used);have u5:=vS (v:=x.free);have u6:=vS (v:=x.bY);have u7:=vS (v:=x.dir);have k1:bL b 8 4=(bM x.blocks:Int):=vU (A:=bB (bM x.seq) 8) S (n8 _);have k2:bL b 12 4=(bM x.cW:Int):=vU (A:=bB (bM x.seq) 8++bB (bM x.blocks) 4) (by rw[S,dL]) (by rw[ba,n8,n4]);have k3:bL b 16 4=(bM x.g:Int):=vU (A:=bB (bM x.seq) 8++(bB (bM x.blocks) 4++bB (bM x.cW) 4)) (by rw[S,dL];rfl) (by simp only[ba,n8,n4]);have k4:bL b 20 4=(bM x.used:Int):=vU (A:=bB (bM x.seq) 8++(bB (bM x.blocks) 4++(bB (bM x.cW) 4++bB (bM x.g) 4))) (by rw[S,dL];rfl) (by simp only[ba,n8,n4]);have k5:bL b 24 4=(bM x.free:Int):=vU (A:=bB (bM x.seq) 8++(bB (bM x.blocks) 4++(bB (bM x.cW) 4++(bB (bM x.g) 4++bB (bM x.used) 4)))) (by rw[S,dL];rfl) (by simp only[ba,n8,n4]);have k6:bL b 28 2=(bM x.bY:Int):=vU (A:=bB (bM x.seq) 8++(bB (bM x.blocks) 4++(bB (bM x.cW) 4++(bB (bM x.g) 4++(bB (bM x.used) 4++bB (bM x.free) 4))))) (by rw[S,dL];rfl) (by simp only[ba,n8,n4]);have k7:bL b 30 2=(bM x.dir:Int):=vU (A:=bB (bM x.seq) 8++(bB (bM x.blocks) 4++(bB (bM x.cW) 4++(bB (bM x.g) 4++(bB (bM x.used) 4++(bB (bM x.free) 4++bB (bM x.bY) 2)))))) (by rw[S,dL];rfl) (by simp only[ba,n8,n4,n2]);have kc:(List.range x.aK.length).map (λj=>bL b (32+2*j) 2)=x.aK:=by
  refine IQ (A:=bB (bM x.seq) 8++(bB (bM x.blocks) 4++(bB (bM x.cW) 4++(bB (bM x.g) 4++(bB (bM x.used) 4++(bB (bM x.free) 4++(bB (bM x.bY) 2++bB (bM x.dir) 2))))))) (D:=ZR (56-(zT x).length)) x.aK (λk hk=>?_) (by rw[S];grind) (by simp only[ba,n8,n4,n2]);obtain⟨i,hi,rfl⟩:=BE hk;have:=(h.ch i hi).1;rw[cz,cc hi]at this;have:=(DY x x.aK[i]).1 this;omega
 unfold sX;rw[k0,k1,k2,k3,k4,k5,k6,k7,kc,u1,u2,u3,u4,u5,u6,u7]
theorem Zs1 {x:cm} (h:ZP x=true):rk (wb x)=some x:=by
 have hs:=(xk x).1 h;unfold rk;rw[ZuU hs];simp only;rw[ZyA hs,h,aQ (M3 hs)];have cC:ZB ((ez (zT x) 56).drop (32+2*x.aK.length))=true:=by
  unfold ez;rw[<-VY,uD];exact DP _
 rw[cC];rfl
theorem Zwi {x:dW} {e p:Int} {B:aj} {s:cm} (h:vY x e p=some (B,s)):s=eS x e/\ZP s=true/\B=qK (ku (kL x) (lP x) 0 (fN x).2).B (64*(p%2).toNat) (wb s)/\((kL x).length:Int)<=x.blocks:=by
 grind[vY]
theorem ZrA (x:dW):(ku (kL x) (lP x) 0 (fN x).2).B.length=64*x.blocks.toNat:=by
 rw[(Ex.all x).len];simp[jd,ZR]
theorem ZxU (h:64*k+64<=n):fX (ZR n) k=ZR 64:=by
 grind[fX,ZR]
theorem Zri:rk (ZR 64)=none:=by
 rfl
def Cy:dW:=⟨16,2,1,[],[],[]⟩
theorem ZAb:lY Cy where
 Cz:=EQ
 cW:=EQ
 En:=EQ
 right:=λh hh=>nomatch hh
 order:=λi a b h1 h2=>by cases h1
 nodup:=EQ
 range:=EQ
 gen:=λe he=>nomatch he
 low:=λk hk=>nomatch hk
 gens:=EQ
 rest:=λi hi hn=>by
  have:Cy.gens.length=0:=rfl;omega
def Xj (x:cm) (v:aI):ak:=[GA v.aD 0,(v.aD.length:Nat),(v.free.length:Nat),aq (aq ((v.gens.length:Int)-GA v.aD 0)-(v.free.length:Int)),GC (x.aK.foldl (bA x.blocks.toNat) v.W)]
theorem Zu6 (x:cm) (v:aI):ZyD x v=ints (Xj x v):=rfl
def aeC:Bool:=match vY Cy 1 0 with
 |none=>false
 |some (B,_)=>match nW B with
  |(some (x,v),_)=>decide (Xj x v=[0,0,0,0,3])&&(decide (v.aD.length=0)&&decide (B.length=1024))
  |_=>false
theorem ZvT:aeC=true:=by decide+kernel
theorem Zu3: ∃B s x v e,vY Cy 1 0=some (B,s)/\nW B=(some (x,v),e)/\Xj x v=[0,0,0,0,3]/\v.aD.length=0/\B.length=1024:=by
 have h:=ZvT;unfold aeC at h;grind
theorem Zrb:nW []=(none,30):=by
 rfl
