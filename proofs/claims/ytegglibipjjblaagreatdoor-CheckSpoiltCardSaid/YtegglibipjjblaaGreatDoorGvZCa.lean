/- A device made of octets: the program's layer 5, as far as it is read. -/
import Derived.Test.YtegglibipjjblaaGreatDoorGvZMf
set_option linter.all false
namespace Go.Gv.F
open Go.Gv
variable {β:Type}
variable {Bd:Zh} [h:HA Bd]
theorem Zqg (n:Nat) (a:ai) (l:aj) (st:St) (ha:c9 st a l) (hl:8<=l.length) (hn:12<=n):
  run Bd n 285 [.slice 1 a l.length] st=some (.val [.w (eG (l.take 8))],st):=by
 have ht:(l.take 8).length=8:=by rw[cR];omega
 have h8:=ya n a (l.take 8) st (ha.lu 8) AC hn;obtain _|n:=n;omega;rw[Ze,h.abS]at h8⊢;unfold MQ bZ Co Ar mc lE ZA at h8⊢
 try dsimp only
 rw[ht]at h8;simp only[aV,aq]at h8⊢;have e1:(if (8:Int)<((8:Nat):Int)then(8:Int)else((8:Nat):Int))=8:=EQ
 have e2:(if (8:Int)<(l.length:Int)then(8:Int)else(l.length:Int))=8:=by
  by_cases h9:(8:Int)<(l.length:Int)
  .rw[bG h9]
  omega
 simp only[e1]at h8;rw[e2];rw[Zb EQ]at h8;rw[Zb (by rw[aY,bn,bn];omega)];exact h8
def jL (l:aj) (k:Nat):al:=(List.range k).map λi=>eG ((l.drop (8*i)).take 8)
theorem DX (l:aj) (k:Nat):(jL l k).length=k:=by simp[jL]
theorem ZnR (l:aj) (k:Nat):jL l (k+1)=jL l k++[eG ((l.drop (8*k)).take 8)]:=by
 simp[jL,qW,fB]
variable {f f':Bool} {R S d i j k m n z:Nat} {r:Option cy} {s s' st:St} {A cs:ah} {c cp p:ai} {l t:aj}
theorem UK (h:i<k):(jL l k)[i]? =some (eG ((l.drop (8*i)).take 8)):=by
 grind[jL]
theorem Zpm (l m:al):Zv (l++m)=Zv l++Zv m:=by simp[Zv]
theorem BW (l:al):(Zv l).length=l.length:=by simp[Zv]
theorem ZqW (n:Nat) (a:ai) (l:aj) (k:Nat) (st:St) (ha:c9 st a l) (hk:l.length=8*k) (hl:l.length<1000000) (hn:k+20<=n):
  Ok (λo=>∃p s',o=(.val [.slice 1 p k],s')/\aA st s'/\Fz s' p (Zv (jL l k))) (run Bd n 328 [.slice 1 a l.length] st):=by
 obtain _|n:=n;omega;rw[Ze,h.ahg];unfold SP bZ fJ vv ba lE wP
 try dsimp only
 rw[aV,aq,ZJ,Za];refine Zj _ (λq y s=>∃(i z:Nat) (b p:ai),y=[.slice 1 b (l.length-8*i),.slice z p i]/\(z=1\/p=none)/\i<=k/\k-i<=q/\c9 st b (l.drop (8*i))/\bg st s p (Zv (jL l i))) ?_ k n _ _ ⟨0,0,a,none,by rw[Nat.mul_zero,BL],.inr rfl,cB _,AC,ha,bg.nil (.refl st)⟩ AC;rintro q _ s ⟨i,z,b,p,rfl,hz,hi,hq,hb,ho⟩ rec aL;simp only[aV,Zf 1 z p _ hz,aq];by_cases aw:i<k
 .have jM:(l.drop (8*i)).length=l.length-8*i:=eH
  rw[aS (AC:((l.length-8*i:Nat):Int)>=8),ae];have hr:=Zqg n b (l.drop (8*i)) s (hb.mono ho.1) AC AC;rw[jM]at hr;rw[Zk hr,av,aq];have⟨p',s',h1,h2⟩:=ho.push (β:=ah) (sz:=1) (n:=i) (lim:=8796093022208) [.w (eG ((l.drop (8*i)).take 8):Nat)] AC (by rw[BW,DX,cS]) rfl AC;rw[h2,Zb rfl];refine aL (k-(i+1)) _ _ AC ⟨i+1,1,cK true b 8,p',by rw[show l.length-8*i-8=l.length-8*(i+1) by omega],.inl rfl,AC,AC,?_,?_⟩
  .have:=hb.cK (k:=8) AC
   rwa [jG,show 8*i+8=8*(i+1) by omega]at this
  .rw[ZnR,Zpm];exact h1
 .rw[bM (AC:¬((l.length-8*i:Nat):Int)>=8),af,Zp]
  have:i=k:=AC
  subst this;exact .mk ⟨p,_,rfl,Zq ho.1,ho.fz⟩
structure qi where
 l:Nat
 s:Nat
 t:Nat
 f:Bool
def GO (c:qi):ah:=[.w c.l,.w c.s,.w c.t,.bool c.f]
def sY (cs:List qi):ah:=(cs.map GO).flatten
theorem Zwc (l m:List qi):sY (l++m)=sY l++sY m:=by simp[sY]
theorem MW: ∀(l:List qi),(sY l).length=l.length*4
 |[]=>rfl
 |w::r=>by
  have:=MW r;grind[sY,GO]
theorem ZpJ {c:qi} {k:Nat} (hk:k<4): ∀ {l:List qi} {i:Nat},l[i]? =some c->(sY l)[i*4+k]? =(GO c)[k]?
 |[],i,h=>by simp at h
 |x::r,0,h=>by
  rw[lz,fZ]at h;subst h;show(GO x++sY r)[0*4+k]? =_;rw[oZ,eJ,mn (by simpa [GO]using hk)]
 |x::r,i+1,h=>by
  have:=ZpJ hk (l:=r) (i:=i) (by simpa using h);show(GO x++sY r)[(i+1)*4+k]? =_;rw[kL (by show 4<=_;omega),<-this];congr 1;show(i+1)*4+k-4=_;omega
def Dm (w:Nat):qi:=⟨w,w,0,false⟩
def JY (z:Nat) (c:ai) (n:Nat):ah:=[.slice z c n,.slice 0 none 0,.i 0,.bool false,.bool false,.i 0,.i 0]
def BM (s:St) (d:Nat) (ws:al):Prop:=∃(f:Bool) (z:Nat) (c:ai) (x1 x2 x4 x5 x6:DV) (cs:List qi),s[d]? =some (some ⟨f,[.slice z c ws.length,x1,x2,.bool false,x4,x5,x6]⟩)/\(z=4\/c=none)/\Sl s c (sY cs)/\cs.map qi.s=ws
theorem BM.mono {s s':St} {d:Nat} {ws:al} (h:BM s d ws) (k:aA s s'):BM s' d ws:=by
 have⟨f,z,c,x1,x2,x4,x5,x6,cs,h1,h2,h3,h4⟩:=h;exact⟨f,z,c,x1,x2,x4,x5,x6,cs,k.get h1,h2,h3.mono k,h4⟩
structure Ml where
 cs:List qi
 aaI:ak
 at_:Nat
 off:Bool
 abv:Bool
 left:Int
 steps:Nat
def Oy (z zp:Nat) (c p:ai) (D:Ml):ah:=[.slice z c D.cs.length,.slice zp p D.aaI.length,.i D.at_,.bool D.off,.bool D.abv,.i D.left,.i (ar D.steps)]
def QM (s:St) (d b:Nat) (c:ai) (cs:List qi):Prop:=(c=none/\cs=[])\/(c=some (b,0)/\b≠d/\s[b]? =some (some ⟨false,sY cs⟩))
def QR (s:St) (d b:Nat) (D:Ml):Prop:=∃(z zp:Nat) (c p:ai),s[d]? =some (some ⟨false,Oy z zp c p D⟩)/\(z=4\/c=none)/\(zp=1\/p=none)/\Fz s p (ints D.aaI)/\QM s d b c D.cs
theorem QM.sl {b:Nat} {cs:List qi} (h:QM s d b c cs):Sl s c (sY cs):=by
 rcases h with⟨rfl,rfl⟩|⟨rfl,_,h⟩
 .rfl
 .exact⟨false,_,h,Do,Do⟩
theorem QR.aeZ {b:Nat} {D:Ml} (h:QR s d b D) (ho:D.off=false):BM s d (D.cs.map qi.s):=by
 have⟨z,zp,c,p,h1,h2,_,_,h5⟩:=h;refine⟨false,z,c,.slice zp p D.aaI.length,.i D.at_,.bool D.abv,.i D.left,.i (ar D.steps),D.cs,?_,h2,h5.sl,rfl⟩;rw[lB,h1,Oy,ho]
def Ox (cs:List qi):Ml:=⟨cs,[],0,false,false,0,0⟩
theorem ZAI (ws:al):(Ox (ws.map Dm)).cs.map qi.s=ws:=by
 show(ws.map Dm).map qi.s=ws;rw[zX];exact List.map_id ws
theorem ZsT (n:Nat) (a:ai) (l:aj) (st:St) (ha:c9 st a l) (hl:l.length<262144) (hn:40000<=n):
  Ok (λo=>∃d b s',o=(.val [.ptr (some (d,0))],s')/\aA st s'/\st.length<=d/\st.length<=b/\QR s' d b (Ox ((jL l (8*(l.length/64))).map Dm))) (run Bd n 325 [.slice 1 a l.length] st):=by
 obtain _|n:=n;omega;rw[Ze,h.ahd];unfold Ud bZ il Q_ cN wN ba Lp sJ Li
 try dsimp only
 rw[aV,aq,Zz];have⟨k,hk⟩: ∃k,l.length/64=k:=⟨_,rfl⟩;have e1:ar (Int.tdiv (l.length:Int) 64)=(k:Int):=by
  rw[Int.tdiv_eq_ediv_of_nonneg AC];exact(Zc).trans AC
 have e2:(if (4096:Int)<(k:Int)then(4096:Int)else(k:Int))=(k:Int):=bq AC;have e3:ar ((k:Int)*64)=((64*k:Nat):Int):=by
  rw[show((k:Int)*64)=((64*k:Nat):Int) by omega];exact Zc
 rw[e1,e2,e3,br,Zb (by rw[aY,bn,bn];omega)];have oK:=aA.new st (some (⟨false,[.slice 0 none 0,.slice 0 none 0,.i 0,.bool false,.bool false,.i 0,.i 0]⟩:bO));have yU:(st++[some (⟨false,[.slice 0 none 0,.slice 0 none 0,.i 0,.bool false,.bool false,.i 0,.i 0]⟩:bO)])[st.length]? =some (some ⟨false,JY 0 none 0⟩):=by simp[JY]
 generalize (st++[some (⟨false,[.slice 0 none 0,.slice 0 none 0,.i 0,.bool false,.bool false,.i 0,.i 0]⟩:bO)])=s1 at oK yU;have uQ:(l.take (64*k)).length=64*k:=by rw[cR];omega
 have hw:=ZqW n a (l.take (64*k)) (8*k) s1 ((ha.mono oK).lu _) AC AC AC;rw[uQ]at hw;refine Ok.call hw ?_;rintro _ ⟨p,s2,rfl,aU,tz⟩;refine⟨_,s2,rfl,?_⟩;have ew:jL (l.take (64*k)) (8*k)=jL l (8*k):=by
  unfold jL;refine L9 λi hi=>?_
  rw[uY]at hi;rw[BD,BH,og AC]
 rw[ew]at tz;rw[aV,aq,Za];refine Zj _ (λq y s=>∃(i z:Nat) (c:ai),y=[.i i]/\i<=8*k/\8*k-i<=q/\Fz s p (Zv (jL l (8*k)))/\s[st.length]? =some (some ⟨false,JY z c i⟩)/\(z=4\/c=none)/\bg st s c (sY ((jL l i).map Dm))/\∀o,c≠some (st.length,o)) ?_ (8*k) n _ _ ⟨0,0,none,rfl,cB _,AC,tz,aU.get yU,.inr rfl,bg.nil (oK.trans aU),λo e=>by cases e⟩ AC;rintro q _ s ⟨i,z,c,rfl,hi,hq,hf,hd,hz,ho,dQ⟩ rec aL;simp only[av,aq];by_cases aw:i<8*k
 .rw[aS (AC:(i:Int)<((8*k:Nat):Int)),ae]
  obtain⟨i1,o1,rfl⟩:=hf.1.cF (by rw[BW,DX];omega);have hg:=UK (l:=l) aw;have Hk:(Zv (jL l (8*k)))[i]? =some (.w (eG ((l.drop (8*i)).take 8):Nat)):=by unfold Zv;rw[sC,hg];rfl
  rw[bc,Zb (Zi aw),br,hf.1.dO Hk,bj,Zo (d:= .slice z c i) hd rfl,Z3 4 z c i hz];have⟨c',s',h0,h1,h2,h3,h4⟩:=ho.Qi (β:=ah) (sz:=4) (n:=i) (lim:=2199023255552) [.w (eG ((l.drop (8*i)).take 8):Nat),.w (eG ((l.drop (8*i)).take 8):Nat),.w 0,.bool false] AC (by rw[MW,lB,DX]) rfl AC;rw[h4];have kV:s'[st.length]? =some (some ⟨false,JY z c i⟩):=h3 st.length _ hd dQ;have uM:st.length<s.length:=Fd
  rw[rk kV (by show 0<7;omega),Zc];have dh:s'[c']? =some (some ⟨false,sY ((jL l i).map Dm)++[.w (eG ((l.drop (8*i)).take 8):Nat),.w (eG ((l.drop (8*i)).take 8):Nat),.w 0,.bool false]⟩):=by
   rcases h1.2 with⟨e,_⟩|⟨j,e,_,h5⟩
   .cases e
   .cases e;exact h5
  refine aL (8*k-(i+1)) _ _ AC ⟨i+1,4,some (c',0),rfl,AC,AC,(hf.kp h2).kp (Kp.set kV _),?_,.inl rfl,?_,λo e=>by cases e;omega⟩
  .rw[lA (eB.1 kV).1]
   rfl
  .refine⟨rB h1.1 (aM _) _,.inr ⟨c',rfl,AC,?_⟩⟩
   rw[jH AC,dh,ZnR,fB,Zwc];rfl
 .rw[bM (AC:¬(i:Int)<((8*k:Nat):Int)),af,Zd]
  have:i=8*k:=AC
  subst this;rw[hk];have Ky:((jL l (8*k)).map Dm).length=8*k:=by rw[lB,DX]
  have kV:s[st.length]? =some (some ⟨false,Oy z 0 c none (Ox ((jL l (8*k)).map Dm))⟩):=by
   rw[hd];unfold Oy JY Ox;rw[Ky];rfl
  rcases ho.2 with⟨h1,h2⟩|⟨b,rfl,h1,h2⟩
  .have:=congrArg List.length h2
   rw[MW,Ky]at this;exact .mk ⟨st.length,st.length,s,rfl,ho.1,aM _,aM _,z,0,c,none,kV,hz,.inr rfl,Fz.nil s,.inl ⟨h1,zV (by show((jL l (8*k)).map Dm).length=0;rw[Ky];simp at this;omega)⟩⟩
  .exact .mk ⟨st.length,b,s,rfl,ho.1,aM _,h1,z,0,_,none,kV,hz,.inr rfl,Fz.nil s,.inr ⟨rfl,λe=>dQ 0 (by rw[e]),h2⟩⟩
theorem Zpn (n d:Nat) {r:ah} (st:St) (h1:st[d]? =some (some ⟨f,.slice z c m::r⟩)) (h2:z=4\/c=none) (hl:m<1000000):run Bd (n+1) 335 [.ptr (some (d,0))] st=some (.val [.i ((m/8:Nat):Int)],st):=by
 rw[Ze,h.ahn];unfold Rl jt Li
 try dsimp only
 rw[eO,aq,bc,Zo (d:= .slice z c m) h1 rfl,Z3 4 z c _ h2,Zd];have:ar (Int.tdiv (m:Int) 8)=((m/8:Nat):Int):=by
  rw[Int.tdiv_eq_ediv_of_nonneg AC];exact(Zc).trans AC
 rw[this]
theorem Zr4 (n d:Nat) (x y:Int) {o:Bool} {x0 x1 x2:DV} {r:ah} (st:St) (h1:st[d]? =some (some ⟨f,x0::x1::x2:: .bool o::r⟩)):run Bd (n+1) 336 [.ptr (some (d,0)),.i x,.i y] st=some (.val [.i (bif o then 3 else bif decide (x<0)||decide (x>=y)then 2 else 0)],st):=by
 rw[Ze,h.aho];unfold Q6 GI pJ az Li Lb;simp only[eO,av,aq,bc];rw[Zo (d:= .bool o) h1 rfl];simp only[sH,Za,au,aq];cases o with
 |true=>rfl
 |false=>
  rw[af,af];cases decide (x<0)with
  |true=>rfl
  |false=>
   rw[af,wD];cases decide (x>=y)<;>rfl
theorem Zqv (n d:Nat) (ws:al) (i w:Nat) (st:St) (hd:BM st d ws) (hi:ws[i]? =some w):run Bd (n+2) 333 [.ptr (some (d,0)),.i i] st=some (.val [.w w,.i 0],st):=by
 have aw:i<ws.length:=Fd
 have⟨f,z,c,_,_,_,_,_,cs,h1,h2,h3,h4⟩:=hd;have hm:=Zr4 n d i ws.length st h1;rw[Ze,h.ahl];unfold Re ql cA N_ ZA
 try dsimp only
 rw[eO,av,aq,bc,Zo (d:= .slice z c ws.length) h1 rfl,Z3 4 z c _ h2,Zk hm,bM (AC:¬(i:Int)<0),bM (AC:¬(i:Int)>=(ws.length:Int)),Bool.or_false,af,af,av,aq];show bD d 0 _ st=_;rw[Zo (d:= .slice z c ws.length) h1 rfl,Z3 4 z c _ h2];have cO:cs.length=ws.length:=by rw[<-h4,lB]
 obtain⟨i1,o1,rfl⟩:=h3.cF (by rw[MW];omega);have⟨x,hx⟩: ∃x,cs[i]? =some x:=⟨_,cu AC⟩;have hw:x.s=w:=by rw[<-h4,sC,hx]at hi;cases hi;rfl
 subst hw;rw[bc,Zb (Zi aw),br,show i*4+o1+1=(i*4+1)+o1 by omega,h3.get ((ZpJ EQ hx).trans rfl)];rfl
theorem ZsV (n d:Nat) (x:Int) {r:ah} (st:St) (h1:st[d]? =some (some ⟨f,.slice z c m::r⟩)) (h2:z=4\/c=none) (hl:m<1000000):run Bd (n+2) 331 [.ptr (some (d,0)),.i x] st=some (.val [.i (bif decide (x<0)||decide (x>=((m/8:Nat):Int))then 2 else 0)],st):=by
 rw[Ze,h.ahj];unfold TI ql az cA Li Lb Lp;simp only[eO,av,aq,Za,Option.isNone_some,af,au];cases decide (x<0)with
 |true=>rfl
 |false=>
  rw[af,wD,Zk (Zpn n d st h1 h2 hl),av,aq];cases decide (x>=((m/8:Nat):Int))<;>rfl
theorem Zzq (v i:Nat):cZ v (i+1)=cZ v i++[UInt8.ofNat (v/256^i)]:=by rw[VQ];rfl
theorem ZzK (w:Nat):IntKind.wrap .u8 (w:Int)=((UInt8.ofNat w).toNat:Int):=by
 rfl
theorem ZtS {z d:DV} (h:A.length=i) (hi:i<n):(A++List.replicate (n-i) z).set i d=(A++[d])++List.replicate (n-(i+1)) z:=by
 rw[List.set_append_right _ _ AC,h,BK,show n-i=(n-(i+1))+1 by omega,List.replicate_succ,List.set_cons_zero,fR];rfl
theorem ZtM (n v k:Nat) (st:St) (hk:k<=8:=by omega) (hn:12<=n:=by omega):
  Ok (λo=>∃p s',o=(.val [.slice 1 p k],s')/\aA st s'/\lC s' p (cZ v k)) (run Bd n 337 [.w v,.i k] st):=by
 obtain _|n:=n;omega;rw[Ze,h.ahp];unfold Ut Cd az Q_ Ar kM ba ZA Lb;simp only[av,au,aq,ZJ,Za];rw[bM (AC:¬(k:Int)<0),bM (AC:¬(k:Int)>8),af,af,Zb (by rw[aY,aY,bn,bn,bn];omega),Zz,br,Ec];refine Zj _ (λq y s=>∃i:Nat,y=[.w ((v/256^i:Nat):Int),.i i]/\i<=k/\k-i<=q/\s=st++[some ⟨false,bI (cZ v i)++List.replicate (k-i) (.u 0)⟩]) ?_ k n _ _ ⟨0,Do,AC,AC,by simp[bI,cZ]⟩ AC;rintro q _ s ⟨i,rfl,hi,hq,rfl⟩ rec aL;simp only[av,aq];have iz:(bI (cZ v i)).length=i:=by rw[Zs,Zy]
 by_cases aw:i<k
 .rw[aS (AC:(i:Int)<(k:Int)),ae,Zb (Zi aw),br,cS,Zq8 _ (by rw[bz,iz,oV];omega),ZtS iz aw,Zc,show((2:Int)^8)=((256:Nat):Int) by decide,uh]
  refine aL (k-(i+1)) _ _ AC ⟨i+1,by rw[FQ,<-u7];rfl,AC,AC,?_⟩;rw[Zzq,Ca,ZzK];rfl
 .rw[bM (AC:¬(i:Int)<(k:Int)),af,Zp]
  have:i=k:=AC
  subst this;have E8:=aA.new st (some (⟨false,bI (cZ v i)++List.replicate (i-i) (.u 0)⟩:bO));have fF:bg st (st++[some (⟨false,bI (cZ v i)++List.replicate (i-i) (.u 0)⟩:bO)]) (some (st.length,0)) (bI (cZ v i)):=⟨E8,Do⟩;exact .mk ⟨_,_,rfl,Zq E8,fF.fz⟩
def wi (W:al):aj:=(W.map λw=>cZ w 8).flatten
theorem Zrx: ∀(W:al),(wi W).length=8*W.length
 |[]=>rfl
 |w::r=>by
  have:=Zrx r;unfold wi at this⊢;rw[oe,BE,bz,this,Zy,cQ];omega
theorem Zxy (V W:al):wi (V++W)=wi V++wi W:=by simp[wi]
theorem ZpI (n:Nat) (a:ai) (W:al) (st:St) (ha:Sl st a (Zv W)) (hl:W.length<1000000) (hn:W.length+20<=n):
  Ok (λo=>∃p s',o=(.val [.slice 1 p (8*W.length)],s')/\aA st s'/\lC s' p (wi W)) (run Bd n 332 [.slice 1 a W.length] st):=by
 obtain _|n:=n;omega;rw[Ze,h.ahk];unfold RY bZ fJ kB wN il ba ZA ep iH;simp only[aV,aq,ZJ,Za];refine Zj _ (λq y s=>∃(i z:Nat) (p:ai),y=[.slice z p (8*i),.i i]/\(z=1\/p=none)/\i<=W.length/\W.length-i<=q/\bg st s p (bI (wi (W.take i)))) ?_ W.length n _ _ ⟨0,0,none,rfl,.inr rfl,cB _,AC,bg.nil (.refl st)⟩ AC;rintro q _ s ⟨i,z,p,rfl,hz,hi,hq,ho⟩ rec aL;rw[Zf 1 z p _ hz,av,aq];by_cases aw:i<W.length
 .obtain⟨i1,o1,rfl⟩:=ha.cF (by rw[BW];omega)
  have Hk:(Zv W)[i]? =some (.w (W[i]:Nat)):=by grind[Zv]
  rw[aS (AC:(i:Int)<(W.length:Int)),ae,bc,Zb (Zi aw),br,(ha.mono ho.1).dO Hk,bj];refine Ok.call (ZtM n W[i] 8 s) ?_;rintro _ ⟨p',s1,rfl,aD,hf⟩;refine⟨_,s1,rfl,?_⟩;rw[aV,aq];have hl8:(bI (cZ W[i] 8)).length=8*1:=by rw[Zs,Zy]
  have nP:=iC (β:=ah) hf.rM;rw[hl8]at nP;rw[nP];have⟨p2,s2,h1,h2⟩:=(ho.mono aD).app (β:=ah) (sz:=1) (n:=8*i) (m:=8) (lim:=70368744177664) (ds:=bI (cZ W[i] 8)) AC (by rw[Zs,Zrx,cR];omega) AC AC;rw[h2,Zc];refine aL (W.length-(i+1)) _ _ AC ⟨i+1,1,p2,rfl,.inl rfl,AC,AC,?_⟩;rw[Mf,cu aw,Zxy,Ca,show wi (some W[i]).toList=cZ W[i] 8 by simp[wi]];exact h1
 .rw[bM (AC:¬(i:Int)<(W.length:Int)),af,Zp]
  have:i=W.length:=AC
  subst this;rw[oY]at ho;exact .mk ⟨p,_,rfl,Zq ho.1,ho.fz⟩
theorem Zx5: ∀(l:aj) (k:Nat),8*k<=l.length->((List.range k).map λi=>(l.drop (8*i)).take 8).flatten=l.take (8*k)
 |l,0,_=>by simp
 |l,k+1,h=>by
  rw[qW,fB,H7,Zx5 l k AC,show 8*(k+1)=8*k+8 by omega,nx];simp
theorem ZuQ (h:8*k<=l.length):wi (jL l k)=l.take (8*k):=by
 rw[<-Zx5 l k h];unfold wi jL;rw[zX];congr 1;refine L9 λi hi=>?_
 rw[uY]at hi;have:((l.drop (8*i)).take 8).length=8:=by rw[cR,eH];omega
 show cZ (eG ((l.drop (8*i)).take 8)) 8=_;have h2:=NC ((l.drop (8*i)).take 8);rwa [this]at h2
def p8 (l:aj) (k:Nat):aj:=(l.drop (64*k)).take 64
theorem ZrZ (n d:Nat) (l:aj) (at':Nat) (st:St) (hd:BM st d (jL l (8*(l.length/64)))) (hl:l.length<262144) (hat:at'<1000000) (hn:100<=n):
  Ok (λo=>∃s',aA st s'/\if at'<l.length/64 then ∃p,o=(.val [.slice 1 p 64,.i 0],s')/\lC s' p (p8 l at')else o=(.val [.slice 0 none 0,.i 2],s')) (run Bd n 329 [.ptr (some (d,0)),.i at'] st):=by
 obtain⟨n,rfl⟩: ∃m,n=m+3:=⟨n-3,AC⟩;have⟨_,_,_,_,_,_,_,_,_,g1,g2,_⟩:=hd;have hm:=ZsV n d at' st g1 g2 (by rw[DX];omega);rw[Ze,h.ahh];unfold TB ql cA Q_ il cN Cd iI iH ba ep lE Li
 try dsimp only
 rw[eO,av,aq,Zk hm,DX,Nat.mul_div_cancel_left _ AC,bM (AC:¬(at':Int)<0),wD,av,aq];by_cases aw:at'<l.length/64
 .rw[bM (AC:¬(at':Int)>=((l.length/64:Nat):Int)),af,show(!((0:Int)==0))=false from rfl,af,Zz]
  simp only[bG aw,Za];have mG:([.w 0,.w 0,.w 0,.w 0,.w 0,.w 0,.w 0,.w 0]:ah)=List.replicate 8 (.w 0):=rfl;rw[mG];have⟨W,hW⟩: ∃W,jL (p8 l at') 8=W:=⟨_,rfl⟩;have Hb:W.length=8:=by rw[<-hW,DX]
  have di: ∀i,i<8->(jL l (8*(l.length/64)))[at'*8+i]? =W[i]? :=λi hi=>by
   rw[<-hW,UK AC,UK hi];grind[p8,BD,BH,jG]
  refine Zj _ (λq y s=>∃i:Nat,y=[.i i]/\i<=8/\8-i<=q/\s=st++[some ⟨false,Zv (W.take i)++List.replicate (8-i) (.w 0)⟩]) ?_ 8 (n+2) _ _ ⟨0,rfl,AC,AC,by simp[Zv]⟩ AC;rintro q _ s ⟨i,rfl,hi,hq,rfl⟩ rec aL;simp only[av,aq];have oM:(Zv (W.take i)).length=i:=by rw[BW,cR];omega
  by_cases Yn:i<8
  .have XO:W[i]? =some (W[i]' AC):=cu _
   generalize W[i]' AC=w at XO;have Yx:=Zqv n d _ (at'*8+i) w _ (hd.mono (aA.new st (some (⟨false,Zv (W.take i)++List.replicate (8-i) (.w 0)⟩:bO)))) (by rw[di i Yn];exact XO);have e1:ar (ar ((at':Int)*8)+(i:Int))=((at'*8+i:Nat):Int):=by
    have:ar ((at':Int)*8)=((at'*8:Nat):Int):=by
     rw[show(at':Int)*8=((at'*8:Nat):Int) by omega];exact Zc
    rw[this,<-DE];exact Zc
   rw[aS (AC:(i:Int)<8),ae,e1,Zk Yx];simp only[av,aq];rw[show(!((0:Int)==0))=false from rfl,af,Zb (Zi Yn),br,cS,gQ,Zq8 _ (by rw[bz,oM,oV];omega),ZtS oM Yn,Zc];refine aL (8-(i+1)) _ _ AC ⟨i+1,rfl,AC,AC,?_⟩;rw[Mf,XO,Zpm];rfl
  .have:i=8:=AC
   subst this;rw[bM (AC:¬((8:Nat):Int)<8),af];have ht:W.take 8=W:=Fd
   rw[ht];have E8:=aA.new st (some (⟨false,Zv W++List.replicate (8-8) (.w 0)⟩:bO));have Kr:(st++[some (⟨false,Zv W++List.replicate (8-8) (.w 0)⟩:bO)])[st.length]? =some (some ⟨false,Zv W⟩):=Do
   generalize (st++[some (⟨false,Zv W++List.replicate (8-8) (.w 0)⟩:bO)])=s1 at E8 Kr;have Y6:(Zv W).length=8:=by rw[BW];exact Hb
   rw[Z9 Kr AC];have dI:Sl s1 (some (st.length,0)) (Zv W):=⟨false,_,Kr,AC,by rw[dE,dF AC]⟩;have ho:=ZpI (n+2) (some (st.length,0)) W s1 dI AC AC;rw[Hb]at ho;refine Ok.call ho ?_;rintro _ ⟨p,s2,rfl,aU,hf⟩;refine⟨_,s2,rfl,?_⟩;rw[aV,aq,Zd];refine .mk ⟨s2,E8.trans aU,p,rfl,?_⟩;have gD:(p8 l at').length=64:=by unfold p8;rw[cR,eH];omega
   rw[<-hW,ZuQ AC,dF AC]at hf;exact hf
 .rw[aS (AC:(at':Int)>=((l.length/64:Nat):Int)),ae,show(!((2:Int)==0))=true from rfl,ae,Zd]
  simp only[bq aw];exact .mk ⟨st,.refl st,rfl⟩
def jR (t:aj) (n:Nat):cy where
 seq:=bR t 0 8
 blocks:=bR t 8 4
 dc:=bR t 12 4
 g:=bR t 16 4
 cm:=bR t 28 2
 used:=bR t 20 4
 free:=bR t 24 4
 dir:=bR t 30 2
 aJ:=(List.range n).map λj=>bR t (32+2*j) 2
def nh (l:aj):Option cy:=match fU l with
 |none=>none
 |some (k,n,t)=>bif decide (k=7)&&decide (n<=8)then(bif ZT (jR t n)&&ZD (t.drop (32+2*n))then some (jR t n)else none)else none
structure Gs (t:List UInt8) (S R:Nat) (st s:St) (cs:List DV) (k:Nat):Prop where
 pre:aA st s
 le:st.length<=S/\st.length<=R/\S≠R
 cl:s[S]? =some (some ⟨false,cs⟩)
 rd: ∃y,s[R]? =some (some ⟨false,[.slice 1 y (56-k)]⟩)/\lC s y (t.drop k)
theorem Jn (n:Nat) (g:Gs t S R st s cs k) (j:Nat) (x:Int) (hx:x=(j:Int)) (ht:t.length=56) (hj:j<=8:=by omega) (hk:k+j<=56:=by omega) (hn:20<=n:=by omega):
  ∃s',run Bd n 334 [.ptr (some (R,0)),.i x] s=some (.val [.i (bR t k j)],s')/\Gs t S R st s' cs (k+j)/\Kp s s'/\s'.length=s.length/\∀b,b≠R->s'[b]? =s[b]? :=by
 subst hx;obtain _|n:=n;omega;have⟨y,hr,hf⟩:=g.rd;have jM:(t.drop k).length=56-k:=by rw[eH,ht]
 refine⟨s.set R (some ⟨false,[.slice 1 (cK true y j) (56-k-j)]⟩),?_,⟨rB g.pre g.le.2.1 _,g.le,?_,cK true y j,?_,?_⟩,Kp.set hr _,lU,Fd⟩
 .rw[Ze,h.ahm]
  unfold Rj ql vv ba Li;simp only[eO,av,aq,bc];rw[Zo (d:= .slice 1 y (56-k)) hr rfl,kA,Zb (by rw[aY,bn,bn];omega),br];have uP:((t.drop k).take j).length=j:=by rw[cR];omega
  have nP:=ya n y ((t.drop k).take j) s (hf.rM.lu j);rw[uP]at nP;rw[Zk nP,av,aq,Zo (d:= .slice 1 y (56-k)) hr rfl,kA,Zb (by rw[aY,bn,bn];omega),cS,rk hr (by show 0<1;omega)];rfl
 .rw[jH (λe=>g.le.2.2 e.symm)];exact g.cl
 .rw[lA (eB.1 hr).1,show 56-(k+j)=56-k-j by omega]
 .have:=(hf.kp (Kp.set hr (some ⟨false,[.slice 1 (cK true y j) (56-k-j)]⟩))).cK (k:=j) AC
  rwa [jG]at this
theorem Gs.store (g:Gs t S R st s cs k) (j:Nat) (d:DV) (hj:j<cs.length):
  ∃s',(∀K:M β,dG S j [d] K s=K s')/\Gs t S R st s' (cs.set j d) k/\Kp s s'/\s'.length=s.length/\∀b,b≠S->s'[b]? =s[b]? :=by
 have⟨y,hr,hf⟩:=g.rd;refine⟨s.set S (some ⟨false,cs.set j d⟩),λK=>rk g.cl hj K,⟨rB g.pre g.le.1 _,g.le,lA (eB.1 g.cl).1,y,?_,hf.kp (Kp.set g.cl _)⟩,Kp.set g.cl _,lU,Fd⟩;rw[jH g.le.2.2];exact hr
def H4 (z:Nat):ah:=[.i 0,.i 0,.i 0,.i 0,.i 0,.i 0,.i 0,.i 0,.slice z none 0]
def ry:ah:=H4 0
def ub (st:St) (r:Option cy) (o:Out ah×St):Prop:=∃s',aA st s'/\match r with
 |none=>∃z,o=(.val [.agg (H4 z),.bool false],s')
 |some x=>∃p,o=(.val [.agg (dq x p),.bool true],s')/\Sl s' p (ints x.aJ)
theorem Gs.but (g:Gs t S R st s cs k) (hp:aA st s') (hk:Kp s s') (hb:sG cp s s') (h1: ∀o,cp≠some (S,o)) (h2: ∀o,cp≠some (R,o)):Gs t S R st s' cs k:=by
 have⟨y,hr,hf⟩:=g.rd;exact⟨hp,g.le,hb S _ g.cl h1,y,hb R _ hr h2,hf.kp hk⟩
def wj (i:Nat):Nat:=[1,2,3,5,6].getD i 0
def Qu (t:aj) (i:Nat):ah:=[.i (bR t 0 8),.i (bif Nat.blt 0 i then bR t 8 4 else 0),.i (bif Nat.blt 1 i then bR t 12 4 else 0),.i (bif Nat.blt 2 i then bR t 16 4 else 0),.i 0,.i (bif Nat.blt 3 i then bR t 20 4 else 0),.i (bif Nat.blt 4 i then bR t 24 4 else 0),.i 0,.slice 0 none 0]
theorem ZxW (t:aj) (S:Nat) (h:i<5):(Qu t i).set (wj i) (.i (bR t (8+4*i) 4))=Qu t (i+1)/\wj i<9/\([.ptr (some (S,1)),.ptr (some (S,2)),.ptr (some (S,3)),.ptr (some (S,5)),.ptr (some (S,6))]:ah)[i*1]? =some (.ptr (some (S,wj i))):=by
 match i,h with
 |0,_=>exact⟨rfl,EQ,rfl⟩
 |1,_=>exact⟨rfl,EQ,rfl⟩
 |2,_=>exact⟨rfl,EQ,rfl⟩
 |3,_=>exact⟨rfl,EQ,rfl⟩
 |4,_=>exact⟨rfl,EQ,rfl⟩
def Dw (t:aj) (z:Nat) (c:ai) (n:Nat):ah:=[.i (bR t 0 8),.i (bR t 8 4),.i (bR t 12 4),.i (bR t 16 4),.i (bR t 28 2),.i (bR t 20 4),.i (bR t 24 4),.i (bR t 30 2),.slice z c n]
def Ax (t:aj) (n:Nat):ak:=(List.range n).map λj=>bR t (32+2*j) 2
theorem IL (t:aj) (n:Nat):(Ax t n).length=n:=by simp[Ax]
theorem Zmm (t:aj) (n:Nat):Ax t (n+1)=Ax t n++[bR t (32+2*n) 2]:=by
 simp[Ax,qW,fB]
theorem Zrv (l:ak):(ints l).length=l.length:=by simp[ints]
theorem Zry (l m:ak):ints (l++m)=ints l++ints m:=by simp[ints]
theorem Zzv {α:Type} {m:M α} {ds:α} (h:m s=some (.val ds,s')) (hk:s'[i]? =s[i]?):JI i m s=some (.val ds,s'):=by
 grind[JI]
theorem Ztu (n:Nat) (a:ai) (l:aj) (st:St) (ha:c9 st a l) (hl:l.length<1000000) (hn:200<=n):
  Ok (ub st (nh l)) (run Bd n 330 [.slice 1 a l.length] st):=by
 obtain _|n:=n;omega;have⟨r,hr⟩: ∃r,nh l=r:=⟨_,rfl⟩;rw[hr,Ze,h.ahi];unfold Up bZ sR az cA Q_ Z6 bu cN mq ba wL iI Li ZP BU Lb Z7
 try dsimp only
 rw[aV,aq,ZJ];refine Ok.call (DU n a l st ha hl) ?_;rintro o ⟨s0,oK,hm⟩;have no: ∀s',aA st s'->r=none->Ok (ub st r) (some (Out.val [.agg ry,.bool false],Z2 st.length s')):=λs' hp e=>by
  rw[e];exact .mk ⟨_,Zq hp,0,rfl⟩
 cases dX:fU l with
 |none=>
  rw[dX]at hm;simp only at hm;subst hm;refine⟨_,s0,rfl,?_⟩;simp only[av,Zf 1 0 none _ (.inr rfl),au,aq,Za,bp,ae,Zp];exact no s0 oK (by rw[<-hr];unfold nh;rw[dX])
 |some q=>
  have⟨k,c,t⟩:=q;rw[dX]at hm;simp only at hm;obtain⟨p,rfl,hf,ht,hk,hc⟩:=hm;refine⟨_,s0,rfl,?_⟩;simp only[av,aV,au,aq,bw,af];refine Ok.join λay h1=>?_
  have A1: ∀b,(!decide (k=7))=b->Ok (ub st r) (ay [.bool b] s0):=by
   intro b1 e1;rw[h1];simp only[au,aq];refine Ok.join λaH h2=>?_
   have A2: ∀b,(b1|| !decide (c<=8))=b->Ok (ub st r) (aH [.bool b] s0):=by
    intro b2 e2;rw[h2];simp only[au,aq];cases b2 with
    |true=>
     rw[ae,Zp];refine no s0 oK ?_;rw[<-hr];unfold nh;rw[dX];grind
    |false=>
     have hkc:k=7/\c<=8:=by
      rw[<-e1,BB,L5,L5,bn,bn]at e2;exact e2
     have iB:r=bif ZT (jR t c)&&ZD (t.drop (32+2*c))then some (jR t c)else none:=by
      rw[<-hr];unfold nh;rw[dX];grind
     rw[af,Zz,Zz,show([.i 0,.i 0,.i 0,.i 0,.i 0,.i 0,.i 0,.i 0,.slice 0 none 0]:ah)=ry from rfl];have⟨hk7,Ki⟩:=hkc;have aU:aA s0 (s0++[some (⟨false,ry⟩:bO)]++[some (⟨false,[.slice 0 none 0]⟩:bO)]):=(aA.new _ _).trans (.new _ _);have hS:(s0++[some (⟨false,ry⟩:bO)]++[some (⟨false,[.slice 0 none 0]⟩:bO)])[s0.length]? =some (some ⟨false,ry⟩):=by
      rw[fR,kL (aM _),BK];rfl
     have hR:(s0++[some (⟨false,ry⟩:bO)]++[some (⟨false,[.slice 0 none 0]⟩:bO)])[(s0++[some (⟨false,ry⟩:bO)]).length]? =some (some ⟨false,[.slice 0 none 0]⟩):=by
      rw[kL (aM _),BK];rfl
     have OV:s0.length≠(s0++[some (⟨false,ry⟩:bO)]).length:=by rw[bz];grind
     have abX:s0.length<=(s0++[some (⟨false,ry⟩:bO)]).length:=(aA.new _ _).len;change Ok (ub st r) (dG (s0++[some (⟨false,ry⟩:bO)]).length 0 [.slice 1 p 56] _ (s0++[some (⟨false,ry⟩:bO)]++[some (⟨false,[.slice 0 none 0]⟩:bO)]));generalize (s0++[some (⟨false,ry⟩:bO)]++[some (⟨false,[.slice 0 none 0]⟩:bO)])=s2 at aU hS hR;generalize (s0++[some (⟨false,ry⟩:bO)]).length=R at hR OV abX;have⟨S,G9⟩: ∃S,s0.length=S:=⟨_,rfl⟩;rw[G9]at hS OV abX;have vW:=oK.len;rw[rk hR (by show 0<1;omega)];have g0:Gs t S R st (s2.set R (some ⟨false,[.slice 1 p 56]⟩)) ry 0:=by
      refine⟨rB (oK.trans aU) AC _,⟨AC,AC,OV⟩,?_,p,?_,?_⟩
      .rw[jH (λe=>OV e.symm)];exact hS
      .grind
      .rw[dE];exact(hf.pre aU).kp (Kp.set hR _)
     change Ok (ub st r) (cV _ _ (s2.set R (some ⟨false,[.slice 1 p 56]⟩)));generalize (s2.set R (some ⟨false,[.slice 1 p 56]⟩))=s3 at g0;have⟨s4,e4,g4,_⟩:=Jn n g0 8 8 rfl ht;rw[Zk e4,av,aq,G9];have⟨s5,e5,g5,_⟩:=g4.store (β:=ah) 0 (.i (bR t 0 8)) (by show 0<9;omega);rw[e5];have g6:Gs t S R st s5 (Qu t 0) 8:=g5;refine Ok.join λaW h3=>?_
     refine Zj _ (λq y s=>∃i:Nat,y=[.i i]/\i<=5/\5-i<=q/\Gs t S R st s (Qu t i) (8+4*i)) ?_ 5 n _ _ ⟨0,rfl,AC,AC,g6⟩ AC;rintro q _ s ⟨i,rfl,hi,hq,g⟩ rec aL;rw[av,aq];by_cases aw:i<5
     .have⟨w1,w2,w3⟩:=ZxW t S aw
      rw[aX,Zb (Zi aw),br,iu w3,Mk];have⟨s',e',g',_⟩:=Jn n g 4 4 rfl ht;rw[Zk e',av,aq,bc];have⟨qQ,e'',OH,_⟩:=g'.store (β:=ah) (wj i) (.i (bR t (8+4*i) 4)) w2;rw[e'',Zc];rw[w1,show 8+4*i+4=8+4*(i+1) by omega]at OH;exact aL (5-(i+1)) _ _ AC ⟨i+1,rfl,AC,AC,OH⟩
     .rw[aZ,h3]
      have:i=5:=AC
      subst this;simp only[aq];have⟨s7,e7,g7,_⟩:=Jn n g 2 2 rfl ht;rw[Zk e7,av,aq];have⟨s8,e8,g8,_⟩:=Jn n g7 2 2 rfl ht;rw[Zk e8,av,aq];have⟨s9,e9,g9,_⟩:=g8.store (β:=ah) 4 (.i (bR t 28 2)) (by show 4<9;omega);rw[e9];have⟨Dv,J0,g10,_⟩:=g9.store (β:=ah) 7 (.i (bR t 30 2)) (by show 7<9;omega);rw[J0];have g11:Gs t S R st Dv (Dw t 0 none 0) 32:=g10;refine Ok.join λbA h4=>?_
      refine Zj _ (λq y s=>∃(i z:Nat) (cp:ai),y=[.i i]/\i<=c/\c-i<=q/\Gs t S R st s (Dw t z cp i) (32+2*i)/\(z=1\/cp=none)/\bg st s cp (ints (Ax t i))/\(∀o,cp≠some (S,o))/\∀o,cp≠some (R,o)) ?_ c n _ _ ⟨0,0,none,rfl,AC,AC,g11,.inr rfl,bg.nil g11.pre,λo e=>(by cases e),λo e=>(by cases e)⟩ AC;clear aL g g4 g5 g6 g7 g8 g9 g10 g11 e4 e5 e7 e8 e9 J0;rintro q _ s ⟨i,z,cp,rfl,hi,hq,g,hz,ho,hnS,hnR⟩ rec aL;rw[av,aq];by_cases aw:i<c
      .rw[aX,Zo (d:= .slice z cp i) g.cl rfl,Z3 1 z cp i hz]
       have⟨s',e',g',k',l',o'⟩:=Jn n g 2 2 rfl ht;rw[wS (Zzv e' (o' S g.le.2.2)),av,aq];have uN:bg st s' cp (ints (Ax t i)):=by
        refine⟨g'.pre,ho.2.imp id λ⟨j,e1,e2,e3⟩=>⟨j,e1,e2,?_⟩⟩;rw[o' j (λe=>hnR 0 (by rw[e1,e]))];exact e3
       have⟨b,qQ,h0,i1,i2,i3,i4⟩:=uN.Qi (β:=ah) (sz:=1) (n:=i) (lim:=8796093022208) [.i (bR t (32+2*i) 2)] AC (by rw[Zrv,IL,cS]) rfl AC;rw[i4];have OH:=g'.but i1.1 i2 i3 hnS hnR;have⟨Qn,e3',g3',k3',l3',o3'⟩:=OH.store (β:=ah) 8 (.slice 1 (some (b,0)) (i+1)) (by show 8<9;omega);rw[e3',Zc];have hbS:b≠S:=by have:=(eB.1 g'.cl).1;omega
       have hbR:b≠R:=by
        have⟨y,kZ,_⟩:=g'.rd;have:=(eB.1 kZ).1;omega
       refine aL (c-(i+1)) _ _ AC ⟨i+1,1,some (b,0),rfl,AC,AC,by rw[show 32+2*(i+1)=32+2*i+2 by omega];exact g3',.inl rfl,?_,λo e=>(by cases e;exact hbS rfl),λo e=>(by cases e;exact hbR rfl)⟩;rcases i1.2 with⟨e,_⟩|⟨j,e,e2,e3⟩
       .cases e
       .cases e
        exact⟨g3'.pre,.inr ⟨b,rfl,e2,by rw[o3' b hbS,e3,Zmm,Zry];rfl⟩⟩
      .rw[aZ,h4]
       have:i=c:=AC
       subst this;simp only[aq];rw[Z9 g.cl (by show 0+9<=9;omega)];have qI:(List.drop 0 (Dw t z cp i)).take 9=Dw t z cp i:=rfl;rw[qI];unfold Dw;simp only[av,Zf 1 z cp _ hz,aq];have zm:(jR t i).aJ.length=i:=IL t i;have hRt:=Zk1 n (jR t i) cp s ho.sl (by rw[zm];omega) (by rw[zm];omega);have cC:([.i (bR t 0 8),.i (bR t 8 4),.i (bR t 12 4),.i (bR t 16 4),.i (bR t 28 2),.i (bR t 20 4),.i (bR t 24 4),.i (bR t 30 2),.slice 1 cp i]:ah)=dq (jR t i) cp:=by
        unfold dq;rw[zm];rfl
       rw[cC,Zk hRt,au,aq];have iA:=aA.new s (some (⟨false,dq (jR t i) cp⟩:bO));generalize (s++[some (⟨false,dq (jR t i) cp⟩:bO)])=sN at iA;have gcl:=iA.get g.cl;have⟨y,kZ,hfy⟩:=g.rd;have gr':=iA.get kZ;refine Ok.join λcq h5=>?_
       have A5: ∀b,(!(ZT (jR t i)&&ZD (t.drop (32+2*i))))=b->Ok (ub st r) (cq [.bool b] sN):=by
        intro b e;rw[h5];simp only[au,aq];cases b with
        |true=>
         rw[ae,Zp];refine no sN (g.pre.trans iA) ?_;rw[iB];rw[lT]at e;rw[e,af]
        |false=>
         rw[L5]at e;rw[e,ae]at iB;rw[af,Z9 gcl (by show 0+9<=9;omega),qI];unfold Dw;simp only[av,Zf 1 z cp _ hz,aq,Zp];rw[cC,iB];exact .mk ⟨_,Zq (g.pre.trans iA),cp,rfl,(ho.sl.mono iA).dU _⟩
       cases pZ:ZT (jR t i)with
       |false=>
        rw[bp,ae];exact A5 true (by rw[pZ];rfl)
       |true=>
        rw[bw,af,Zo (d:= .slice 1 y (56-(32+2*i))) gr' rfl,kA,Zo (d:= .slice 1 y (56-(32+2*i))) gr' rfl,kA];have jM:(t.drop (32+2*i)).length=56-(32+2*i):=by rw[eH,ht]
        have cD:=DS n y (t.drop (32+2*i)) 0 (56-(32+2*i)) sN (hfy.rM.mono iA);rw[jM]at cD;rw[show(0:Int)=((0:Nat):Int)from rfl,Zk cD,au,aq];refine A5 _ ?_;rw[pZ,dL,dE,dF AC]
   grind
  grind
def lP (img:aj) (k:Nat):Option cy:=bif decide (k<img.length/64)then nh (p8 img k)else none
def xM:Option cy->Option cy->Option cy
 |b,none=>b
 |none,some y=>some y
 |some x,some y=>bif decide (y.seq>x.seq)then some y else some x
def wm (img:aj):Option cy:=xM (xM none (lP img 0)) (lP img 1)
theorem ad8 (x:cy) (p:ai) (l:ah) (K:ah->ah->M β):bh (.agg (dq x p)::l) K=K (dq x p) l:=rfl
theorem ZI (cs l:ah) (K:ah->ah->M β):bh (.agg cs::l) K=K cs l:=rfl
theorem ZsD (n d:Nat) (l:aj) (k:Nat) (st:St) (hd:BM st d (jL l (8*(l.length/64)))) (hl:l.length<262144) (hk:k<2) (hn:300<=n):
  Ok (ub st (lP l k)) (run Bd n 327 [.ptr (some (d,0)),.i k] st):=by
 obtain _|n:=n;omega;have⟨r,hr⟩: ∃r,lP l k=r:=⟨_,rfl⟩;rw[hr];unfold lP at hr;rw[Ze,h.ahf];unfold Ua ql az oq Ah wL iI ba BU Lb
 try dsimp only
 rw[eO,av,aq,Za,bM (AC:¬(k:Int)<0),af,bM (AC:¬(k:Int)>=2)];simp only[au,aq,af];refine Ok.call (ZrZ n d l k st hd hl AC AC) ?_;rintro o ⟨s1,aD,ho⟩;by_cases aw:k<l.length/64
 .rw[bG aw]at ho
  obtain⟨p,rfl,hf⟩:=ho;rw[aS aw,ae]at hr;refine⟨_,s1,rfl,?_⟩;rw[aV,av,aq,show(!((0:Int)==0))=false from rfl,af];have gD:(p8 l k).length=64:=by grind[p8]
  have hg:=Ztu n p (p8 l k) s1 hf.rM AC AC;rw[gD,hr]at hg;refine Ok.call hg ?_;rintro o ⟨s2,aU,ho⟩;cases r with
  |none=>
   obtain⟨z,rfl⟩:=ho;refine⟨_,s2,rfl,?_⟩;rw[ZI];unfold H4;simp only[av,Zf 1 z none _ (.inr rfl),au,aq,Zd];exact .mk ⟨s2,aD.trans aU,1,rfl⟩
  |some x=>
   simp only at ho;obtain⟨q,rfl,hq⟩:=ho;refine⟨_,s2,rfl,?_⟩;rw[ad8];unfold dq;simp only[av,aV,au,aq,Zd];exact .mk ⟨s2,aD.trans aU,q,rfl,hq⟩
 .rw[bq aw]at ho
  subst ho;rw[bM aw,af]at hr;refine⟨_,s1,rfl,?_⟩;rw[Zf 1 0 none _ (.inr rfl),av,aq,show(!((2:Int)==0))=true from rfl,ae,Zd,<-hr];exact .mk ⟨s1,aD,0,rfl⟩
def qo (s:St) (r:Option cy) (cs:ah) (b:Bool):Prop:=match r with
 |none=>(∃z,cs=H4 z)/\b=false
 |some x=>∃p,cs=dq x p/\b=true/\Sl s p (ints x.aJ)
theorem qo.mono {s s':St} {r:Option cy} {cs:ah} {b:Bool} (h:qo s r cs b) (k:aA s s'):qo s' r cs b:=by
 cases r with
 |none=>exact h
 |some x=>have⟨p,h1,h2,h3⟩:=h;exact⟨p,h1,h2,h3.mono k⟩
def Bp (a1 a2 a3 a4 a5 a6 a7 a8:Int) (z:Nat) (p:ai) (n:Nat):ah:=[.i a1,.i a2,.i a3,.i a4,.i a5,.i a6,.i a7,.i a8,.slice z p n]
theorem qo.nine {b:Bool} (h:qo s r cs b): ∃a1 a2 a3 a4 a5 a6 a7 a8 z p n,cs=Bp a1 a2 a3 a4 a5 a6 a7 a8 z p n/\(z=1\/p=none)/\(∀x,r=some x->a1=x.seq)/\qo s r (Bp a1 a2 a3 a4 a5 a6 a7 a8 1 p n) b:=by
 cases r with
 |none=>
  obtain⟨⟨z,rfl⟩,rfl⟩:=h;exact⟨0,0,0,0,0,0,0,0,z,none,0,rfl,.inr rfl,λx e=>(by cases e),⟨1,rfl⟩,rfl⟩
 |some x=>
  obtain⟨p,rfl,rfl,h3⟩:=h;exact⟨_,_,_,_,_,_,_,_,1,p,_,rfl,.inl rfl,λx e=>(by cases e;rfl),p,rfl,rfl,h3⟩
theorem ub.out {o:Out ah×St} (h:ub st r o): ∃s' cs b,o=(.val [.agg cs,.bool b],s')/\aA st s'/\qo s' r cs b:=by
 have⟨s',hp,h⟩:=h;cases r with
 |none=>have⟨z,h⟩:=h;exact⟨s',_,_,h,hp,⟨z,rfl⟩,rfl⟩
 |some x=>have⟨p,h1,h2⟩:=h;exact⟨s',_,_,h1,hp,p,rfl,rfl,h2⟩
theorem qo.b {s:St} {r:Option cy} {cs:ah} {b:Bool} (h:qo s r cs b):b=r.isSome:=by
 cases r with
 |none=>exact h.2
 |some x=>have⟨p,_,h2,_⟩:=h;exact h2
def QS (st:St) (r:Option cy) (o:Out ah×St):Prop:=∃s' cs k b,o=(.val [.agg cs,.i k,.bool b],s')/\aA st s'/\qo s' r cs b
def CA (l:aj):Nat->Option cy
 |0=>none
 |i+1=>xM (CA l i) (lP l i)
theorem ZsR (n d:Nat) (l:aj) (st:St) (hd:BM st d (jL l (8*(l.length/64)))) (hl:l.length<262144) (hn:400<=n):
  Ok (QS st (wm l)) (run Bd n 326 [.ptr (some (d,0))] st):=by
 obtain⟨n,rfl⟩: ∃m,n=m+4:=⟨n-4,AC⟩;rw[Ze,h.ahe];unfold Uj jt RI Z6 ZwR Ah az BT iI Lb
 try dsimp only
 rw[eO,aq];refine Ok.join λay h1=>?_
 refine Zj _ (λq y s=>∃(i:Nat) (cs:ah) (k:Int) (b:Bool),y=[.agg cs,.i k,.bool b,.i i]/\i<=2/\2-i<=q/\aA st s/\qo s (CA l i) cs b) ?_ 2 (n+3) _ _ ⟨0,_,0,false,rfl,AC,AC,.refl st,⟨0,rfl⟩,rfl⟩ AC;rintro q _ s ⟨i,cs,k,b,rfl,hi,hq,hp,hm⟩ rec aL;obtain⟨a1,a2,a3,a4,a5,a6,a7,a8,z,p,m,rfl,hz,ajt,mL⟩:=hm.nine;rw[ZI];unfold Bp;simp only[av,Zf 1 z p _ hz,au,aq];by_cases aw:i<2
 .rw[aS (AC:(i:Int)<2),ae]
  refine Ok.call (ZsD (n+3) d l i s (hd.mono hp) hl aw AC) ?_;intro o ho;obtain⟨s1,bQ,b1,rfl,aD,fE⟩:=ho.out;refine⟨_,s1,rfl,?_⟩;obtain⟨c1,c2,c3,c4,c5,c6,c7,c8,z',p',m',rfl,Dg,aju,tA⟩:=fE.nine;rw[ZI];unfold Bp;simp only[av,Zf 1 z' p' _ Dg,au,aq];have hw:ar ((i:Int)+1)=((i+1:Nat):Int):=Zc;refine Ok.join λaH h2=>?_
  have A2: ∀c r,xM (CA l i) (lP l i)=(bif c then lP l i else CA l i)->r=c->(c=true->b1=true)->Ok (QS st (wm l)) (aH [.bool r] s1):=by
   intro c r e er ht;subst er;rw[h2];simp only[au,aq,Za];cases r with
   |true=>
    rw[ae,ZI];simp only[av,aV,au,aq];rw[hw];refine aL (2-(i+1)) _ _ AC ⟨i+1,_,_,true,rfl,AC,AC,hp.trans aD,?_⟩;rw[ae]at e;show qo s1 (xM (CA l i) (lP l i)) _ _;rw[e];rw[ht rfl]at tA;exact tA
   |false=>
    rw[af,ZI];simp only[av,aV,au,aq];rw[hw];refine aL (2-(i+1)) _ _ AC ⟨i+1,_,_,b,rfl,AC,AC,hp.trans aD,?_⟩;rw[af]at e;show qo s1 (xM (CA l i) (lP l i)) _ _;rw[e];exact mL.mono aD
  have kT:=fE.b;have hb:=hm.b;cases hr:lP l i with
  |none=>
   rw[hr]at kT;subst kT;rw[show(Option.isSome (none:Option cy))=false from rfl,af];exact A2 false false (by rw[hr];cases CA l i<;>rfl) rfl (λe=>by cases e)
  |some y=>
   rw[hr]at kT;subst kT;rw[show(Option.isSome (some y))=true from rfl,ae,Za];cases uD:CA l i with
   |none=>
    rw[uD]at hb;subst hb;rw[show(!Option.isSome (none:Option cy))=true from rfl,ae];simp only[au,aq];exact A2 true true (by rw[hr,uD];rfl) rfl (λ_=>rfl)
   |some x=>
    rw[uD]at hb;subst hb;rw[show(!Option.isSome (some x))=false from rfl,af];simp only[au,aq];refine A2 (decide (y.seq>x.seq)) _ (by rw[hr,uD];rfl) ?_ (λ_=>rfl);rw[aju y hr,ajt x uD]
 .rw[bM (AC:¬(i:Int)<2),af,h1]
  have:i=2:=AC
  subst this;simp only[ZI,av,aV,au,aq,Zd];exact .mk ⟨s,_,k,b,rfl,hp,mL⟩
theorem Zxr {x:cy} (h:nh l=some x):ZT x=true/\x.aJ.length<=8:=by
 unfold nh at h;cases ho:fU l with
 |none=>rw[ho]at h;cases h
 |some q=>
  have⟨k,n,t⟩:=q;rw[ho]at h;simp only at h;cases h1:decide (k=7)&&decide (n<=8)with
  |false=>rw[h1]at h;cases h
  |true=>
   rw[h1,ae]at h;rw[aY,bn,bn]at h1;cases h2:ZT (jR t n)&&ZD (t.drop (32+2*n))with
   |false=>rw[h2]at h;cases h
   |true=>
    rw[h2,ae]at h;cases h;rw[aY]at h2;exact⟨h2.1,by rw[show(jR t n).aJ.length=n from IL t n];exact h1.2⟩
theorem ZvA {x:cy} (h:lP l k=some x):k<l.length/64/\nh (p8 l k)=some x:=by
 grind[lP]
theorem ZoT {a b:Option cy} {x:cy} (h:xM a b=some x):a=some x\/b=some x:=by
 cases a with
 |none=>cases b with
  |none=>cases h
  |some y=>exact .inr h
 |some z=>cases b with
  |none=>exact .inl h
  |some y=>
   have h:(bif decide (y.seq>z.seq)then some y else some z)=some x:=h;grind
theorem ZvH {x:cy} (h:wm l=some x): ∃k,k<2/\lP l k=some x:=by
 unfold wm at h;rcases ZoT h with h|h
 .rcases ZoT h with h|h
  .cases h
  grind
 grind
def mB (img:aj):Option (cy×aR)×Int:=match wm img with
 |none=>(none,30)
 |some x=>match sy (qU img x)with
  |some (some v)=>bif Aw img x v.W then(some (x,v),0)else(none,32)
  |_=>(none,31)
def ZA2 (st:St) (r:Option (cy×aR)×Int) (o:Out ah×St):Prop:=∃s',aA st s'/\match r with
 |(none,e)=>o=(.val [.agg (dw nX 0 none 0 none 0 none),.ptr none,.i e],s')/\e≠0
 |(some (x,v),_)=>∃z2 p2 z3 p3 z4 p4 i j,o=(.val [.agg (dw (fw x v) z2 p2 z3 p3 z4 p4),.ptr (some (i,0)),.i 0],s')/\(z2=2\/p2=none)/\(z3=1\/p3=none)/\(z4=1\/p4=none)/\jK s' (fw x v) p2 p3 p4/\gJ s' false i j x.blocks.toNat (x.aJ.foldl (bN x.blocks.toNat) v.W)
theorem Sl.words {W W':al} (hj:s[j]? =some (some ⟨f,Zv W⟩)) (hl:W'.length=W.length) (h:Sl s p cs) (hn: ∀(d:DV) (r:ah) (w:Nat),cs=d::r->d≠ .w w):Sl (s.set j (some ⟨f',Zv W'⟩)) p cs:=by
 cases p with
 |none=>exact h
 |some q=>
  have⟨i,o⟩:=q;have⟨g,all,h1,h2,h3⟩:=h;by_cases mI:i=j
  .subst mI
   rw[hj]at h1;cases h1;have hc:cs=[]:=by
    cases cs with
    |nil=>rfl
    |cons d r=>
     exfalso;have aw:o<(Zv W).length:=by
      rw[cQ]at h2;omega
     have h4:(Zv W)[o]? =some d:=by
      have:=congrArg (λl:ah=>l[0]?) h3;simpa using this
     rw[BW]at aw;have h5:(Zv W)[o]? =some (.w (W[o]:Nat)):=by
      unfold Zv;rw[sC,cu aw];rfl
     rw[h5]at h4;grind
   subst hc;refine⟨f',_,lA (eB.1 hj).1,?_,rfl⟩;rw[BW,hl,<-BW];exact h2
  .exact⟨g,all,by rw[jH (λe=>mI e.symm)];exact h1,h2,h3⟩
theorem jK.words {s:St} {j:Nat} {f f':Bool} {W W':al} (hj:s[j]? =some (some ⟨f,Zv W⟩)) (hl:W'.length=W.length) {x:eR} {p1 p2 p3:ai} (h:jK s x p1 p2 p3):jK (s.set j (some ⟨f',Zv W'⟩)) x p1 p2 p3:=by
 have hi: ∀(l:ak) (d:DV) (r:ah) (w:Nat),ints l=d::r->d≠ .w w:=λl d r w e=>by
  cases l with
  |nil=>cases e
  |cons a l=>cases e;intro e;cases e
 have⟨ds,h1,h2⟩:=h.hp;refine⟨⟨ds,h1.words hj hl λd r w e=>?_,h2.cg λp es k=>k.words hj hl λd r w e=>?_⟩,h.gn.words hj hl (hi _),h.fr.words hj hl (hi _)⟩
 .cases hh:x.aK with
  |nil=>rw[hh]at h2;rw[show ds=[]from h2]at e;cases e
  |cons y t=>
   rw[hh]at h2;have⟨z,p,t',_,h3,_⟩:=h2;rw[h3]at e;cases e;intro e;cases e
 .cases es with
  |nil=>cases e
  |cons a l=>cases e;intro e;cases e
theorem RS (n:Nat) (a:ai) (img:aj) (st:St) (ht:sO st) (ha:c9 st a img) (hl:img.length<262144) (hn:50000<=n:=by omega):
  Ok (ZA2 st (mB img)) (run Bd n 324 [.slice 1 a img.length] st):=by
 obtain _|n:=n;omega;have⟨R,hR⟩: ∃R,mB img=R:=⟨_,rfl⟩;rw[hR];unfold mB at hR;rw[Ze,h.ahc];unfold S6 bZ Ab My yf bu C_ ba Lp
 try dsimp only
 rw[aV,aq];refine Ok.call (ZsT n a img st ha hl AC) ?_;rintro _ ⟨d,_,s1,rfl,aD,_,_,hd⟩;have hd:=hd.aeZ rfl;rw[ZAI]at hd;refine⟨_,s1,rfl,?_⟩;rw[eO,aq];refine Ok.call (ZsR n d img s1 hd hl AC) ?_;rintro _ ⟨s2,cs,k,b,rfl,aU,hm⟩;refine⟨_,s2,rfl,?_⟩;have hb:=hm.b;cases kd:wm img with
 |none=>
  rw[kd]at hm hb hR;subst hb;obtain⟨⟨z,rfl⟩,_⟩:=hm;rw[ZI];unfold H4;simp only[av,Zf 1 z none _ (.inr rfl),au,aq];rw[show(!Option.isSome (none:Option cy))=true from rfl,ae,Zd,<-hR];exact .mk ⟨s2,aD.trans aU,rfl,AC⟩
 |some x=>
 rw[kd]at hm hb hR;simp only at hR;subst hb;obtain⟨q,rfl,_,hq⟩:=hm;have⟨kx,_,tD⟩:=ZvH kd;have⟨pZ,cO⟩:=Zxr (ZvA tD).2;rw[ZI];unfold dq;simp only[av,aV,au,aq];rw[show(!Option.isSome (some x))=false from rfl,af];have ze:([.i x.seq,.i x.blocks,.i x.dc,.i x.g,.i x.cm,.i x.used,.i x.free,.i x.dir,.slice 1 q x.aJ.length]:ah)=dq x q:=rfl;rw[ze];have iX:=aD.trans aU;have AV:=ha.mono iX;refine Ok.call (Zl1 n a img x q s2 AV hq AC AC) ?_;intro o ho;cases hw:sy (qU img x)with
 |none=>
  rw[hw]at ho hR;obtain⟨s3,rfl,cz⟩:=ho;refine⟨_,s3,rfl,?_⟩;rw[ZI];unfold dw;simp only[av,Zf 2 0 none _ (.inr rfl),Zf 1 0 none _ (.inr rfl),eO,aq];rw[show(!((2:Int)==0))=true from rfl,ae,Zd,<-hR];exact .mk ⟨s3,iX.trans cz,rfl,AC⟩
 |some w=>
 cases w with
 |none=>
  rw[hw]at ho hR;obtain⟨s3,rfl,cz⟩:=ho;refine⟨_,s3,rfl,?_⟩;rw[ZI];unfold dw;simp only[av,Zf 2 0 none _ (.inr rfl),Zf 1 0 none _ (.inr rfl),eO,aq];rw[show(!((31:Int)==0))=true from rfl,ae,Zd,<-hR];exact .mk ⟨s3,iX.trans cz,rfl,AC⟩
 |some v=>
 rw[hw]at ho hR;simp only at hR;obtain⟨s3,z2,p2,z3,p3,z4,p4,i,j,rfl,cz,gp,jP,xx,cd,dp,hj,mI⟩:=ho;refine⟨_,s3,rfl,?_⟩;rw[ZI];unfold dw;simp only[av,Zf 2 z2 p2 _ gp,Zf 1 z3 p3 _ jP,Zf 1 z4 p4 _ xx,eO,aq];rw[show(!((0:Int)==0))=false from rfl,af];have uO:=iX.trans cz;refine Ok.cv (ZpD n a img x q (some (x.blocks.toNat,v.W)) (some (i,0)) s3 (ht.mono uO) (AV.mono cz) (hq.mono cz) ⟨false,i,j,rfl,dp⟩ AC AC AC) λs4 fe=>?_
 have uG:Jp img x (some (x.blocks.toNat,v.W))=Aw img x v.W:=by
  unfold Jp;rw[hw];simp
 rw[uG,au,aq];cases EG:Aw img x v.W with
 |false=>
  rw[EG,af]at hR;rw[bp,ae,Zd,<-hR];exact .mk ⟨s4,uO.trans fe,rfl,AC⟩
 |true=>
  rw[EG,ae]at hR;rw[bw,af];have EX:lW [j] q:=λb o e hm=>by
   subst e;have:=Sl.lt hq;rw[cE]at hm;omega
  have HF:=dp.pre fe;rw[Zk (IQ n x.aJ q s4 HF mI (hq.mono (cz.trans fe)) EX),aq,Zd,<-hR];have hf:=ZE x.blocks.toNat x.aJ v.W;have h2:=aU.len;have h1:=aD.len;refine .mk ⟨_,rB (uO.trans fe) AC _,2,p2,1,p3,1,p4,i,j,rfl,.inl rfl,.inl rfl,.inl rfl,(cd.pre fe).words HF.wd hf.1,HF.add mI _ hf.1 (hf.2 dp.lt)⟩
def ym (l:List dJ) (a:Int):Int:=l.foldl (λa h=>ar (a+(h.cg.length:Nat))) a
def JG (x:cy) (v:aR):ah:=[.i (ym v.aK 0),.i (v.aK.length:Nat),.i (v.free.length:Nat),.i (ar (ar ((v.aF.length:Int)-ym v.aK 0)-(v.free.length:Int))),.i (Cn (x.aJ.foldl (bN x.blocks.toNat) v.W))]
def Wc:ah:=[.i 0,.i 0,.i 0,.i 0,.i 0]
def ZAN (st:St) (r:Option (cy×aR)×Int) (o:Out ah×St):Prop:=∃s',aA st s'/\match r with
 |(none,e)=>o=(.val [.agg Wc,.i e],s')
 |(some (x,v),_)=>o=(.val [.agg (JG x v),.i 0],s')
theorem RR (n:Nat) (a:ai) (img:aj) (st:St) (ht:sO st) (ha:c9 st a img) (hl:img.length<262144) (hh: ∀x v e,mB img=(some (x,v),e)->v.aK.length<1000) (hn:50010<=n:=by omega):
  Ok (ZAN st (mB img)) (run Bd n 323 [.slice 1 a img.length] st):=by
 obtain _|n:=n;omega;rw[Ze,h.abT];unfold SG bZ yf tY D0 MI N_ ba B3 Lp yq
 try dsimp only
 rw[aV,aq];refine Ok.call (RS n a img st ht ha hl) ?_;rintro o ⟨s1,aD,ho⟩;have⟨R,hR⟩: ∃R,mB img=R:=⟨_,rfl⟩;rw[hR]at ho⊢;have⟨r,e⟩:=R;cases r with
 |none=>
  simp only at ho;obtain⟨rfl,he⟩:=ho;refine⟨_,s1,rfl,?_⟩;rw[ZI];unfold dw;simp only[av,Zf 2 0 none _ (.inr rfl),Zf 1 0 none _ (.inr rfl),eO,aq];rw[show(!(e==0))=true by rw[eN.2 he];rfl,ae,Zd];exact .mk ⟨s1,aD,rfl⟩
 |some q=>
  have⟨x,v⟩:=q;have uK:=hh x v e hR;simp only at ho;obtain⟨z2,p2,z3,p3,z4,p4,i,j,rfl,gp,jP,xx,cd,dp⟩:=ho;refine⟨_,s1,rfl,?_⟩;rw[ZI];unfold dw;simp only[av,Zf 2 z2 p2 _ gp,Zf 1 z3 p3 _ jP,Zf 1 z4 p4 _ xx,eO,aq];rw[show(!((0:Int)==0))=false from rfl,af];have CV:run Bd n 183 [.ptr (some (i,0))] s1=some (.val [.i (Cn (x.aJ.foldl (bN x.blocks.toNat) v.W))],s1):=ok_eq (Zr2 n s1 dp AC);rw[rj CV (.refl s1),av,aq,Za];have e1:(fw x v).aK=v.aK:=rfl;have e2:(fw x v).aF=v.aF:=rfl;have e3:(fw x v).free=v.free:=rfl;have⟨ds,hs,Yk⟩:=cd.hp;rw[e1]at Yk;rw[e1,e2,e3];refine Zj _ (λq y s=>∃k:Nat,y=[.agg [.i (ym (v.aK.take k) 0),.i (v.aK.length:Nat),.i (v.free.length:Nat),.i 0,.i (Cn (x.aJ.foldl (bN x.blocks.toNat) v.W))],.i k]/\k<=v.aK.length/\v.aK.length-k<=q/\s=s1) ?_ v.aK.length n _ _ ⟨0,rfl,cB _,AC,rfl⟩ AC;rintro q _ s ⟨k,rfl,hk,hq,rfl⟩ rec aL;rw[ZI];simp only[av,aq];by_cases aw:k<v.aK.length
  .obtain⟨i1,o1,rfl⟩:=hs.cF (by rw[Yk.len];omega)
   have eg:v.aK[k]? =some v.aK[k]:=cu aw;have⟨za,pa,Lg,hpa,la⟩:=Zx6 (β:=ah) hs Yk eg;rw[aS (AC:(k:Int)<(v.aK.length:Int)),ae,bc,Zb (Zi aw),br,la];unfold me;rw[bT,Zf 4 za pa _ Lg,aq,Zc (x:=(k:Int)+1)];refine aL (v.aK.length-(k+1)) _ _ AC ⟨k+1,?_,AC,AC,rfl⟩;rw[lV aw];unfold ym;rw[xQ];rfl
  .rw[bM (AC:¬(k:Int)<(v.aK.length:Int)),af,ZI]
   simp only[av,aq,Zd];have:k=v.aK.length:=AC
   subst this;rw[oY];exact .mk ⟨s,aD,rfl⟩
end Go.Gv.F
namespace Go.Gv.F
open Go.Gv
def CK:eR:=⟨16,2,1,[],[],[]⟩
theorem ZzW:sL CK where
 J3:=EQ
 dc:=EQ
 Ez:=EQ
 right:=λh hh=>nomatch hh
 order:=λi a b h1 h2=>by cases h1
 nodup:=EQ
 range:=EQ
 gen:=λe he=>nomatch he
 low:=λk hk=>nomatch hk
 aF:=EQ
 rest:=λi hi hn=>by
  have:CK.aF.length=0:=rfl;omega
def WR (x:cy) (v:aR):ak:=[ym v.aK 0,(v.aK.length:Nat),(v.free.length:Nat),ar (ar ((v.aF.length:Int)-ym v.aK 0)-(v.free.length:Int)),Cn (x.aJ.foldl (bN x.blocks.toNat) v.W)]
theorem ZuG (x:cy) (v:aR):JG x v=ints (WR x v):=rfl
def adM:Bool:=match Cq CK 1 0 with
 |none=>false
 |some (B,_)=>match mB B with
  |(some (x,v),_)=>decide (WR x v=[0,0,0,0,3])&&(decide (v.aK.length=0)&&decide (B.length=1024))
  |_=>false
theorem ZvX:adM=true:=by decide+kernel
theorem Zuo: ∃B s x v e,Cq CK 1 0=some (B,s)/\mB B=(some (x,v),e)/\WR x v=[0,0,0,0,3]/\v.aK.length=0/\B.length=1024:=by
 have h:=ZvX;unfold adM at h;grind
theorem ZrQ:mB []=(none,30):=by
 rfl
end Go.Gv.F
