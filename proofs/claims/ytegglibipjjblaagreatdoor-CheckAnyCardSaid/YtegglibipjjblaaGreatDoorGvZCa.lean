/- A device made of octets: the program's layer 5, as far as it is read. -/
import Derived.Test.YtegglibipjjblaaGreatDoorGvZMf
set_option linter.all false
namespace Go.Gv.F
open Go.Gv
variable {β:Type}
variable {Bd:Zh} [h:HA Bd]
theorem ZpZ (n:Nat) (a:ai) (l:aj) (st:St) (ha:dc st a l) (hl:8<=l.length) (hn:12<=n):
  run Bd n 285 [.s 1 a l.length] st=some (.val [.w (ez (l.take 8))],st):=by
 have ht:(l.take 8).length=8:=by rw[cX];omega
 have h8:=xz n a (l.take 8) st (ha.lC 8) (by omega) hn;obtain _|n:=n;omega;rw[Ze,h.abb]at h8⊢;unfold LZ bV BU zS mS lg ZC at h8⊢
 try dsimp only
 rw[ht]at h8;simp only[aX,aq]at h8⊢;have e1:(if (8:Int)<((8:Nat):Int)then(8:Int)else((8:Nat):Int))=8:=by decide
 have e2:(if (8:Int)<(l.length:Int)then(8:Int)else(l.length:Int))=8:=by
  by_cases h9:(8:Int)<(l.length:Int)
  .rw[bE h9]
  omega
 simp only[e1]at h8;rw[e2];rw[Zb (by decide)]at h8;rw[Zb (by rw[aY,br,br];omega)];exact h8
def jy (l:aj) (k:Nat):al:=(List.range k).map λi=>ez ((l.drop (8*i)).take 8)
theorem Du (l:aj) (k:Nat):(jy l k).length=k:=by simp[jy]
theorem ZnI (l:aj) (k:Nat):jy l (k+1)=jy l k++[ez ((l.drop (8*k)).take 8)]:=by
 simp[jy,qy,fq]
variable {f f':Bool} {R S d i j k m n z:Nat} {r:Option cy} {s s' st:St} {A cs:ah} {c cp p:ai} {l t:aj}
theorem TF (h:i<k):(jy l k)[i]? =some (ez ((l.drop (8*i)).take 8)):=by
 grind[jy]
theorem Zpx (l m:al):Zv (l++m)=Zv l++Zv m:=by simp[Zv]
theorem Bw (l:al):(Zv l).length=l.length:=by simp[Zv]
theorem Zqt (n:Nat) (a:ai) (l:aj) (k:Nat) (st:St) (ha:dc st a l) (hk:l.length=8*k) (hl:l.length<1000000) (hn:k+20<=n):
  Ok (λo=>∃p s',o=(.val [.s 1 p k],s')/\aB st s'/\Fz s' p (Zv (jy l k))) (run Bd n 328 [.s 1 a l.length] st):=by
 obtain _|n:=n;omega;rw[Ze,h.ags];unfold RG bV fB uT aZ lg wh
 try dsimp only
 rw[aX,aq,ZM,Za];refine Zi _ (λq y s=>∃(i z:Nat) (b p:ai),y=[.s 1 b (l.length-8*i),.s z p i]/\(z=1\/p=none)/\i<=k/\k-i<=q/\dc st b (l.drop (8*i))/\bm st s p (Zv (jy l i))) ?_ k n _ _ ⟨0,0,a,none,by rw[Nat.mul_zero,Fi],.inr rfl,cz _,by omega,ha,bm.nil (.refl st)⟩ (by omega);rintro q _ s ⟨i,z,b,p,rfl,hz,hi,hq,hb,ho⟩ rec aN;simp only[aX,Zg 1 z p _ hz,aq];by_cases aw:i<k
 .have jz:(l.drop (8*i)).length=l.length-8*i:=fa
  rw[ax (show((l.length-8*i:Nat):Int)>=8 by omega),ae];have hr:=ZpZ n b (l.drop (8*i)) s (hb.mono ho.1) (by omega) (by omega);rw[jz]at hr;rw[Zk hr];rw[av,aq];have⟨p',s',h1,h2⟩:=ho.push (β:=ah) (sz:=1) (n:=i) (lim:=8796093022208) [.w (ez ((l.drop (8*i)).take 8):Nat)] (by omega) (by rw[Bw,Du,cR]) rfl (by omega);rw[h2];rw[Zb rfl];refine aN (k-(i+1)) _ _ (by omega) ⟨i+1,1,cU true b 8,p',by rw[show l.length-8*i-8=l.length-8*(i+1) by omega],.inl rfl,by omega,by omega,?_,?_⟩
  .have:=hb.cU (k:=8) (by omega)
   rwa [kW,show 8*i+8=8*(i+1) by omega]at this
  .rw[ZnI,Zpx];exact h1
 .rw[aF (show ¬((l.length-8*i:Nat):Int)>=8 by omega),af,Zp]
  have:i=k:=by omega
  subst this;exact .mk ⟨p,_,rfl,Zr ho.1,ho.fz⟩
structure pM where
 l:Nat
 s:Nat
 t:Nat
 f:Bool
def Gh (c:pM):ah:=[.w c.l,.w c.s,.w c.t,.b c.f]
def sr (cs:List pM):ah:=(cs.map Gh).flatten
theorem ZvP (l m:List pM):sr (l++m)=sr l++sr m:=by simp[sr]
theorem Mj: ∀(l:List pM),(sr l).length=l.length*4
 |[]=>rfl
 |w::r=>by
  have:=Mj r;grind[sr,Gh]
theorem ZoA {c:pM} {k:Nat} (hk:k<4): ∀ {l:List pM} {i:Nat},l[i]? =some c->(sr l)[i*4+k]? =(Gh c)[k]?
 |[],i,h=>by simp at h
 |x::r,0,h=>by
  rw[kY,fT]at h;subst h;show(Gh x++sr r)[0*4+k]? =_;rw[tn,eO,mH (by simpa [Gh]using hk)]
 |x::r,i+1,h=>by
  have:=ZoA hk (l:=r) (i:=i) (by simpa using h);show(Gh x++sr r)[(i+1)*4+k]? =_;rw[kX (by show 4<=_;omega),<-this];congr 1;show(i+1)*4+k-4=_;omega
def CM (w:Nat):pM:=⟨w,w,0,false⟩
def Jo (z:Nat) (c:ai) (n:Nat):ah:=[.s z c n,.s 0 none 0,.i 0,.b false,.b false,.i 0,.i 0]
def Bl (s:St) (d:Nat) (ws:al):Prop:=∃(f:Bool) (z:Nat) (c:ai) (x1 x2 x4 x5 x6:DV) (cs:List pM),s[d]? =some (some ⟨f,[.s z c ws.length,x1,x2,.b false,x4,x5,x6]⟩)/\(z=4\/c=none)/\Sl s c (sr cs)/\cs.map pM.s=ws
theorem Bl.mono {s s':St} {d:Nat} {ws:al} (h:Bl s d ws) (k:aB s s'):Bl s' d ws:=by
 have⟨f,z,c,x1,x2,x4,x5,x6,cs,h1,h2,h3,h4⟩:=h;exact⟨f,z,c,x1,x2,x4,x5,x6,cs,k.get h1,h2,h3.mono k,h4⟩
structure LD where
 cs:List pM
 Y1:ak
 at_:Nat
 off:Bool
 aaO:Bool
 left:Int
 steps:Nat
def NS (z zp:Nat) (c p:ai) (D:LD):ah:=[.s z c D.cs.length,.s zp p D.Y1.length,.i D.at_,.b D.off,.b D.aaO,.i D.left,.i (ar D.steps)]
def P9 (s:St) (d b:Nat) (c:ai) (cs:List pM):Prop:=(c=none/\cs=[])\/(c=some (b,0)/\b≠d/\s[b]? =some (some ⟨false,sr cs⟩))
def Qd (s:St) (d b:Nat) (D:LD):Prop:=∃(z zp:Nat) (c p:ai),s[d]? =some (some ⟨false,NS z zp c p D⟩)/\(z=4\/c=none)/\(zp=1\/p=none)/\Fz s p (ints D.Y1)/\P9 s d b c D.cs
theorem P9.sl {b:Nat} {cs:List pM} (h:P9 s d b c cs):Sl s c (sr cs):=by
 rcases h with⟨rfl,rfl⟩|⟨rfl,_,h⟩
 .rfl
 .exact⟨false,_,h,by simp,by simp⟩
theorem Qd.aee {b:Nat} {D:LD} (h:Qd s d b D) (ho:D.off=false):Bl s d (D.cs.map pM.s):=by
 have⟨z,zp,c,p,h1,h2,_,_,h5⟩:=h;refine⟨false,z,c,.s zp p D.Y1.length,.i D.at_,.b D.aaO,.i D.left,.i (ar D.steps),D.cs,?_,h2,h5.sl,rfl⟩;rw[lG,h1,NS,ho]
def NR (cs:List pM):LD:=⟨cs,[],0,false,false,0,0⟩
theorem Zz5 (ws:al):(NR (ws.map CM)).cs.map pM.s=ws:=by
 show(ws.map CM).map pM.s=ws;rw[zw];exact List.map_id ws
theorem Ztd (n:Nat) (a:ai) (l:aj) (st:St) (ha:dc st a l) (hl:l.length<262144) (hn:40000<=n):
  Ok (λo=>∃d b s',o=(.val [.p (some (d,0))],s')/\aB st s'/\st.length<=d/\st.length<=b/\Qd s' d b (NR ((jy l (8*(l.length/64))).map CM))) (run Bd n 325 [.s 1 a l.length] st):=by
 obtain _|n:=n;omega;rw[Ze,h.agp];unfold TX bV iL Q_ cN wb aZ Lp rY Li
 try dsimp only
 rw[aX,aq];rw[Zz];have⟨k,hk⟩: ∃k,l.length/64=k:=⟨_,rfl⟩;have e1:ar (Int.tdiv (l.length:Int) 64)=(k:Int):=by
  rw[Int.tdiv_eq_ediv_of_nonneg (by omega)];exact(Zc).trans (by omega)
 have e2:(if (4096:Int)<(k:Int)then(4096:Int)else(k:Int))=(k:Int):=bj (by omega);have e3:ar ((k:Int)*64)=((64*k:Nat):Int):=by
  rw[show((k:Int)*64)=((64*k:Nat):Int) by omega];exact Zc
 rw[e1,e2,e3,bp];rw[Zb (by rw[aY,br,br];omega)];have ou:=aB.new st (some (⟨false,[.s 0 none 0,.s 0 none 0,.i 0,.b false,.b false,.i 0,.i 0]⟩:bO));have yu:(st++[some (⟨false,[.s 0 none 0,.s 0 none 0,.i 0,.b false,.b false,.i 0,.i 0]⟩:bO)])[st.length]? =some (some ⟨false,Jo 0 none 0⟩):=by simp[Jo]
 generalize (st++[some (⟨false,[.s 0 none 0,.s 0 none 0,.i 0,.b false,.b false,.i 0,.i 0]⟩:bO)])=s1 at ou yu;have ui:(l.take (64*k)).length=64*k:=by rw[cX];omega
 have hw:=Zqt n a (l.take (64*k)) (8*k) s1 ((ha.mono ou).lC _) (by omega) (by omega) (by omega);rw[ui]at hw;refine Ok.call hw ?_;rintro _ ⟨p,s2,rfl,aU,vp⟩;refine⟨_,s2,rfl,?_⟩;have ew:jy (l.take (64*k)) (8*k)=jy l (8*k):=by
  unfold jy;refine Lo λi hi=>?_
  rw[ux]at hi;rw[C9,Db,nS (by omega)]
 rw[ew]at vp;rw[aX,aq,Za];refine Zi _ (λq y s=>∃(i z:Nat) (c:ai),y=[.i i]/\i<=8*k/\8*k-i<=q/\Fz s p (Zv (jy l (8*k)))/\s[st.length]? =some (some ⟨false,Jo z c i⟩)/\(z=4\/c=none)/\bm st s c (sr ((jy l i).map CM))/\∀o,c≠some (st.length,o)) ?_ (8*k) n _ _ ⟨0,0,none,rfl,cz _,by omega,vp,aU.get yu,.inr rfl,bm.nil (ou.trans aU),λo e=>by cases e⟩ (by omega);rintro q _ s ⟨i,z,c,rfl,hi,hq,hf,hd,hz,ho,dM⟩ rec aN;simp only[av,aq];by_cases aw:i<8*k
 .rw[ax (show(i:Int)<((8*k:Nat):Int) by omega),ae]
  obtain⟨i1,o1,rfl⟩:=hf.1.cH (by rw[Bw,Du];omega);have hg:=TF (l:=l) aw;have GN:(Zv (jy l (8*k)))[i]? =some (.w (ez ((l.drop (8*i)).take 8):Nat)):=by unfold Zv;rw[rQ,hg];rfl
  rw[bd,Zb (Zj aw),bp,hf.1.dJ GN];rw[bg];rw[Zo (d:= .s z c i) hd rfl,Z3 4 z c i hz];have⟨c',s',h0,h1,h2,h3,h4⟩:=ho.Pz (β:=ah) (sz:=4) (n:=i) (lim:=2199023255552) [.w (ez ((l.drop (8*i)).take 8):Nat),.w (ez ((l.drop (8*i)).take 8):Nat),.w 0,.b false] (by omega) (by rw[Mj,lG,Du]) rfl (by omega);rw[h4];have kK:s'[st.length]? =some (some ⟨false,Jo z c i⟩):=h3 st.length _ hd dM;have ue:st.length<s.length:=by grind
  rw[qE kK (by show 0<7;omega),Zc];have c9:s'[c']? =some (some ⟨false,sr ((jy l i).map CM)++[.w (ez ((l.drop (8*i)).take 8):Nat),.w (ez ((l.drop (8*i)).take 8):Nat),.w 0,.b false]⟩):=by
   rcases h1.2 with⟨e,_⟩|⟨j,e,_,h5⟩
   .cases e
   .cases e;exact h5
  refine aN (8*k-(i+1)) _ _ (by omega) ⟨i+1,4,some (c',0),rfl,by omega,by omega,(hf.kp h2).kp (Kp.set kK _),?_,.inl rfl,?_,λo e=>by cases e;omega⟩
  .rw[kZ (ef.1 kK).1]
   rfl
  .refine⟨tA h1.1 (aO _) _,.inr ⟨c',rfl,by omega,?_⟩⟩
   rw[jv (by omega),c9,ZnI,fq,ZvP];rfl
 .rw[aF (show ¬(i:Int)<((8*k:Nat):Int) by omega),af,Zd]
  have:i=8*k:=by omega
  subst this;rw[hk];have JT:((jy l (8*k)).map CM).length=8*k:=by rw[lG,Du]
  have kK:s[st.length]? =some (some ⟨false,NS z 0 c none (NR ((jy l (8*k)).map CM))⟩):=by
   rw[hd];unfold NS Jo NR;rw[JT];rfl
  rcases ho.2 with⟨h1,h2⟩|⟨b,rfl,h1,h2⟩
  .have:=congrArg List.length h2
   rw[Mj,JT]at this;exact .mk ⟨st.length,st.length,s,rfl,ho.1,aO _,aO _,z,0,c,none,kK,hz,.inr rfl,Fz.nil s,.inl ⟨h1,E8 (by show((jy l (8*k)).map CM).length=0;rw[JT];simp at this;omega)⟩⟩
  .exact .mk ⟨st.length,b,s,rfl,ho.1,aO _,h1,z,0,_,none,kK,hz,.inr rfl,Fz.nil s,.inr ⟨rfl,λe=>dM 0 (by rw[e]),h2⟩⟩
theorem ZoE (n d:Nat) {r:ah} (st:St) (h1:st[d]? =some (some ⟨f,.s z c m::r⟩)) (h2:z=4\/c=none) (hl:m<1000000):run Bd (n+1) 335 [.p (some (d,0))] st=some (.val [.i ((m/8:Nat):Int)],st):=by
 rw[Ze,h.agz];unfold QC jh Li
 try dsimp only
 rw[eH,aq,bd];rw[Zo (d:= .s z c m) h1 rfl,Z3 4 z c _ h2,Zd];have:ar (Int.tdiv (m:Int) 8)=((m/8:Nat):Int):=by
  rw[Int.tdiv_eq_ediv_of_nonneg (by omega)];exact(Zc).trans (by omega)
 rw[this]
theorem ZrG (n d:Nat) (x y:Int) {o:Bool} {x0 x1 x2:DV} {r:ah} (st:St) (h1:st[d]? =some (some ⟨f,x0::x1::x2:: .b o::r⟩)):run Bd (n+1) 336 [.p (some (d,0)),.i x,.i y] st=some (.val [.i (bif o then 3 else bif decide (x<0)||decide (x>=y)then 2 else 0)],st):=by
 rw[Ze,h.agA];unfold Qr F5 qK aA Li Lb;simp only[eH,av,aq,bd];rw[Zo (d:= .b o) h1 rfl];simp only[tq,Za,au,aq];cases o with
 |true=>rfl
 |false=>
  rw[af,af];cases decide (x<0)with
  |true=>rfl
  |false=>
   rw[af,vR];cases decide (x>=y)<;>rfl
theorem ZpX (n d:Nat) (ws:al) (i w:Nat) (st:St) (hd:Bl st d ws) (hi:ws[i]? =some w):run Bd (n+2) 333 [.p (some (d,0)),.i i] st=some (.val [.w w,.i 0],st):=by
 have aw:i<ws.length:=by grind
 have⟨f,z,c,_,_,_,_,_,cs,h1,h2,h3,h4⟩:=hd;have hm:=ZrG n d i ws.length st h1;rw[Ze,h.agx];unfold QE pP cw N_ ZC
 try dsimp only
 rw[eH,av,aq,bd];rw[Zo (d:= .s z c ws.length) h1 rfl,Z3 4 z c _ h2];rw[Zk hm];rw[aF (show ¬(i:Int)<0 by omega),aF (show ¬(i:Int)>=(ws.length:Int) by omega)];rw[Bool.or_false,af,af,av,aq];show bD d 0 _ st=_;rw[Zo (d:= .s z c ws.length) h1 rfl,Z3 4 z c _ h2];have cL:cs.length=ws.length:=by rw[<-h4,lG]
 obtain⟨i1,o1,rfl⟩:=h3.cH (by rw[Mj];omega);have⟨x,hx⟩: ∃x,cs[i]? =some x:=⟨_,cq (by omega)⟩;have hw:x.s=w:=by rw[<-h4,rQ,hx]at hi;cases hi;rfl
 subst hw;rw[bd,Zb (Zj aw),bp,show i*4+o1+1=(i*4+1)+o1 by omega,h3.get ((ZoA (by decide) hx).trans rfl)];rfl
theorem ZsL (n d:Nat) (x:Int) {r:ah} (st:St) (h1:st[d]? =some (some ⟨f,.s z c m::r⟩)) (h2:z=4\/c=none) (hl:m<1000000):run Bd (n+2) 331 [.p (some (d,0)),.i x] st=some (.val [.i (bif decide (x<0)||decide (x>=((m/8:Nat):Int))then 2 else 0)],st):=by
 rw[Ze,h.agv];unfold S8 pP aA cw Li Lb Lp;simp only[eH,av,aq,Za,Option.isNone_some,af,au];cases decide (x<0)with
 |true=>rfl
 |false=>
  rw[af,vR,Zk (ZoE n d st h1 h2 hl)];rw[av,aq];cases decide (x>=((m/8:Nat):Int))<;>rfl
theorem Zzw (v i:Nat):db v (i+1)=db v i++[UInt8.ofNat (v/256^i)]:=by rw[Vj];rfl
theorem Zzs (w:Nat):IntKind.wrap .u8 (w:Int)=((UInt8.ofNat w).toNat:Int):=by
 rfl
theorem Zsw {z d:DV} (h:A.length=i) (hi:i<n):(A++List.replicate (n-i) z).set i d=(A++[d])++List.replicate (n-(i+1)) z:=by
 rw[List.set_append_right _ _ (by omega),h,Bk,show n-i=(n-(i+1))+1 by omega,List.replicate_succ,List.set_cons_zero,fI];rfl
theorem Zs8 (n v k:Nat) (st:St) (hk:k<=8:=by omega) (hn:12<=n:=by omega):
  Ok (λo=>∃p s',o=(.val [.s 1 p k],s')/\aB st s'/\mL s' p (db v k)) (run Bd n 337 [.w v,.i k] st):=by
 obtain _|n:=n;omega;rw[Ze,h.agB];unfold Ti BH aA Q_ zS lH aZ ZC Lb;simp only[av,au,aq,ZM,Za];rw[aF (show ¬(k:Int)<0 by omega),aF (show ¬(k:Int)>8 by omega),af,af,Zb (by rw[aY,aY,br,br,br];omega),Zz,bp,DK];refine Zi _ (λq y s=>∃i:Nat,y=[.w ((v/256^i:Nat):Int),.i i]/\i<=k/\k-i<=q/\s=st++[some ⟨false,bU (db v i)++List.replicate (k-i) (.u 0)⟩]) ?_ k n _ _ ⟨0,by simp,by omega,by omega,by simp[bU,db]⟩ (by omega);rintro q _ s ⟨i,rfl,hi,hq,rfl⟩ rec aN;simp only[av,aq];have hZ:(bU (db v i)).length=i:=by rw[Zu,ZA]
 by_cases aw:i<k
 .rw[ax (show(i:Int)<(k:Int) by omega),ae,Zb (Zj aw),bp,cR,Zq0 _ (by rw[bB,hZ,oF];omega),Zsw hZ aw,Zc,show((2:Int)^8)=((256:Nat):Int) by decide,tB]
  refine aN (k-(i+1)) _ _ (by omega) ⟨i+1,by rw[Ff,<-uz];rfl,by omega,by omega,?_⟩;rw[Zzw,IJ,Zzs];rfl
 .rw[aF (show ¬(i:Int)<(k:Int) by omega),af,Zp]
  have:i=k:=by omega
  subst this;have Eu:=aB.new st (some (⟨false,bU (db v i)++List.replicate (i-i) (.u 0)⟩:bO));have gq:bm st (st++[some (⟨false,bU (db v i)++List.replicate (i-i) (.u 0)⟩:bO)]) (some (st.length,0)) (bU (db v i)):=⟨Eu,(by simp)⟩;exact .mk ⟨_,_,rfl,Zr Eu,gq.fz⟩
def vG (W:al):aj:=(W.map λw=>db w 8).flatten
theorem Zq9: ∀(W:al),(vG W).length=8*W.length
 |[]=>rfl
 |w::r=>by
  have:=Zq9 r;unfold vG at this⊢;rw[oG,Da,bB,this,ZA,cO];omega
theorem Zxx (V W:al):vG (V++W)=vG V++vG W:=by simp[vG]
theorem Zo4 (n:Nat) (a:ai) (W:al) (st:St) (ha:Sl st a (Zv W)) (hl:W.length<1000000) (hn:W.length+20<=n):
  Ok (λo=>∃p s',o=(.val [.s 1 p (8*W.length)],s')/\aB st s'/\mL s' p (vG W)) (run Bd n 332 [.s 1 a W.length] st):=by
 obtain _|n:=n;omega;rw[Ze,h.agw];unfold Rc bV fB kd wb iL aZ ZC dY iw;simp only[aX,aq,ZM,Za];refine Zi _ (λq y s=>∃(i z:Nat) (p:ai),y=[.s z p (8*i),.i i]/\(z=1\/p=none)/\i<=W.length/\W.length-i<=q/\bm st s p (bU (vG (W.take i)))) ?_ W.length n _ _ ⟨0,0,none,rfl,.inr rfl,cz _,by omega,bm.nil (.refl st)⟩ (by omega);rintro q _ s ⟨i,z,p,rfl,hz,hi,hq,ho⟩ rec aN;rw[Zg 1 z p _ hz,av,aq];by_cases aw:i<W.length
 .obtain⟨i1,o1,rfl⟩:=ha.cH (by rw[Bw];omega)
  have GN:(Zv W)[i]? =some (.w (W[i]:Nat)):=by grind[Zv]
  rw[ax (show(i:Int)<(W.length:Int) by omega),ae,bd,Zb (Zj aw),bp,(ha.mono ho.1).dJ GN];rw[bg];refine Ok.call (Zs8 n W[i] 8 s) ?_;rintro _ ⟨p',s1,rfl,aH,hf⟩;refine⟨_,s1,rfl,?_⟩;rw[aX,aq];have hl8:(bU (db W[i] 8)).length=8*1:=by rw[Zu,ZA]
  have lQ:=iR (β:=ah) hf.sw;rw[hl8]at lQ;rw[lQ];have⟨p2,s2,h1,h2⟩:=(ho.mono aH).app (β:=ah) (sz:=1) (n:=8*i) (m:=8) (lim:=70368744177664) (ds:=bU (db W[i] 8)) (by omega) (by rw[Zu,Zq9,cX];omega) (by omega) (by omega);rw[h2,Zc];refine aN (W.length-(i+1)) _ _ (by omega) ⟨i+1,1,p2,rfl,.inl rfl,by omega,by omega,?_⟩;rw[Lx,cq aw,Zxx,IJ];rw[show vG (some W[i]).toList=db W[i] 8 by simp[vG]];exact h1
 .rw[aF (show ¬(i:Int)<(W.length:Int) by omega),af,Zp]
  have:i=W.length:=by omega
  subst this;rw[rU]at ho;exact .mk ⟨p,_,rfl,Zr ho.1,ho.fz⟩
theorem Zxp: ∀(l:aj) (k:Nat),8*k<=l.length->((List.range k).map λi=>(l.drop (8*i)).take 8).flatten=l.take (8*k)
 |l,0,_=>by simp
 |l,k+1,h=>by
  rw[qy,fq,HC,Zxp l k (by omega),show 8*(k+1)=8*k+8 by omega,nc];simp
theorem Zud (h:8*k<=l.length):vG (jy l k)=l.take (8*k):=by
 rw[<-Zxp l k h];unfold vG jy;rw[zw];congr 1;refine Lo λi hi=>?_
 rw[ux]at hi;have:((l.drop (8*i)).take 8).length=8:=by rw[cX,fa];omega
 show db (ez ((l.drop (8*i)).take 8)) 8=_;have h2:=M5 ((l.drop (8*i)).take 8);rwa [this]at h2
def pD (l:aj) (k:Nat):aj:=(l.drop (64*k)).take 64
theorem Zr7 (n d:Nat) (l:aj) (at':Nat) (st:St) (hd:Bl st d (jy l (8*(l.length/64)))) (hl:l.length<262144) (hat:at'<1000000) (hn:100<=n):
  Ok (λo=>∃s',aB st s'/\if at'<l.length/64 then ∃p,o=(.val [.s 1 p 64,.i 0],s')/\mL s' p (pD l at')else o=(.val [.s 0 none 0,.i 2],s')) (run Bd n 329 [.p (some (d,0)),.i at'] st):=by
 obtain⟨n,rfl⟩: ∃m,n=m+3:=⟨n-3,by omega⟩;have⟨_,_,_,_,_,_,_,_,_,g1,g2,_⟩:=hd;have hm:=ZsL n d at' st g1 g2 (by rw[Du];omega);rw[Ze,h.agt];unfold SI pP cw Q_ iL cN BH ix iw aZ dY lg Li
 try dsimp only
 rw[eH,av,aq];rw[Zk hm,Du,Nat.mul_div_cancel_left _ (by omega),aF (show ¬(at':Int)<0 by omega),vR];rw[av,aq];by_cases aw:at'<l.length/64
 .rw[aF (show ¬(at':Int)>=((l.length/64:Nat):Int) by omega),af,show(!((0:Int)==0))=false from rfl,af,Zz]
  simp only[bE aw,Za];have ny:([.w 0,.w 0,.w 0,.w 0,.w 0,.w 0,.w 0,.w 0]:ah)=List.replicate 8 (.w 0):=rfl;rw[ny];have⟨W,hW⟩: ∃W,jy (pD l at') 8=W:=⟨_,rfl⟩;have GC:W.length=8:=by rw[<-hW,Du]
  have da: ∀i,i<8->(jy l (8*(l.length/64)))[at'*8+i]? =W[i]? :=λi hi=>by
   rw[<-hW,TF (by omega),TF hi];grind[pD,C9,Db,kW]
  refine Zi _ (λq y s=>∃i:Nat,y=[.i i]/\i<=8/\8-i<=q/\s=st++[some ⟨false,Zv (W.take i)++List.replicate (8-i) (.w 0)⟩]) ?_ 8 (n+2) _ _ ⟨0,rfl,by omega,by omega,by simp[Zv]⟩ (by omega);rintro q _ s ⟨i,rfl,hi,hq,rfl⟩ rec aN;simp only[av,aq];have ox:(Zv (W.take i)).length=i:=by rw[Bw,cX];omega
  by_cases XF:i<8
  .have W6:W[i]? =some (W[i]'(by omega)):=cq _
   generalize W[i]'(by omega)=w at W6;have XP:=ZpX n d _ (at'*8+i) w _ (hd.mono (aB.new st (some (⟨false,Zv (W.take i)++List.replicate (8-i) (.w 0)⟩:bO)))) (by rw[da i XF];exact W6);have e1:ar (ar ((at':Int)*8)+(i:Int))=((at'*8+i:Nat):Int):=by
    have:ar ((at':Int)*8)=((at'*8:Nat):Int):=by
     rw[show(at':Int)*8=((at'*8:Nat):Int) by omega];exact Zc
    rw[this,<-C7];exact Zc
   rw[ax (show(i:Int)<8 by omega),ae,e1,Zk XP];simp only[av,aq];rw[show(!((0:Int)==0))=false from rfl,af,Zb (Zj XF),bp,cR,gV,Zq0 _ (by rw[bB,ox,oF];omega),Zsw ox XF,Zc];refine aN (8-(i+1)) _ _ (by omega) ⟨i+1,rfl,by omega,by omega,?_⟩;rw[Lx,W6,Zpx];rfl
  .have:i=8:=by omega
   subst this;rw[aF (show ¬((8:Nat):Int)<8 by omega),af];have ht:W.take 8=W:=by grind
   rw[ht];have Eu:=aB.new st (some (⟨false,Zv W++List.replicate (8-8) (.w 0)⟩:bO));have JM:(st++[some (⟨false,Zv W++List.replicate (8-8) (.w 0)⟩:bO)])[st.length]? =some (some ⟨false,Zv W⟩):=by simp
   generalize (st++[some (⟨false,Zv W++List.replicate (8-8) (.w 0)⟩:bO)])=s1 at Eu JM;have Yp:(Zv W).length=8:=by rw[Bw];exact GC
   rw[Z8 JM (by omega)];have dA:Sl s1 (some (st.length,0)) (Zv W):=⟨false,_,JM,by omega,by rw[dK,dG (by omega)]⟩;have ho:=Zo4 (n+2) (some (st.length,0)) W s1 dA (by omega) (by omega);rw[GC]at ho;refine Ok.call ho ?_;rintro _ ⟨p,s2,rfl,aU,hf⟩;refine⟨_,s2,rfl,?_⟩;rw[aX,aq,Zd];refine .mk ⟨s2,Eu.trans aU,p,rfl,?_⟩;have gp:(pD l at').length=64:=by unfold pD;rw[cX,fa];omega
   rw[<-hW,Zud (by omega),dG (by omega)]at hf;exact hf
 .rw[ax (show(at':Int)>=((l.length/64:Nat):Int) by omega),ae,show(!((2:Int)==0))=true from rfl,ae,Zd]
  simp only[bj aw];exact .mk ⟨st,.refl st,rfl⟩
def jD (t:aj) (n:Nat):cy where
 seq:=bN t 0 8
 blocks:=bN t 8 4
 de:=bN t 12 4
 g:=bN t 16 4
 cc:=bN t 28 2
 used:=bN t 20 4
 free:=bN t 24 4
 dir:=bN t 30 2
 aJ:=(List.range n).map λj=>bN t (32+2*j) 2
def mU (l:aj):Option cy:=match fM l with
 |none=>none
 |some (k,n,t)=>bif decide (k=7)&&decide (n<=8)then(bif ZU (jD t n)&&ZE (t.drop (32+2*n))then some (jD t n)else none)else none
structure Gs (t:List UInt8) (S R:Nat) (st s:St) (cs:List DV) (k:Nat):Prop where
 pre:aB st s
 le:st.length<=S/\st.length<=R/\S≠R
 cl:s[S]? =some (some ⟨false,cs⟩)
 rd: ∃y,s[R]? =some (some ⟨false,[.s 1 y (56-k)]⟩)/\mL s y (t.drop k)
theorem II (n:Nat) (g:Gs t S R st s cs k) (j:Nat) (x:Int) (hx:x=(j:Int)) (ht:t.length=56) (hj:j<=8:=by omega) (hk:k+j<=56:=by omega) (hn:20<=n:=by omega):
  ∃s',run Bd n 334 [.p (some (R,0)),.i x] s=some (.val [.i (bN t k j)],s')/\Gs t S R st s' cs (k+j)/\Kp s s'/\s'.length=s.length/\∀b,b≠R->s'[b]? =s[b]? :=by
 subst hx;obtain _|n:=n;omega;have⟨y,hr,hf⟩:=g.rd;have jz:(t.drop k).length=56-k:=by rw[fa,ht]
 refine⟨s.set R (some ⟨false,[.s 1 (cU true y j) (56-k-j)]⟩),?_,⟨tA g.pre g.le.2.1 _,g.le,?_,cU true y j,?_,?_⟩,Kp.set hr _,nR,by grind⟩
 .rw[Ze,h.agy]
  unfold QA pP uT aZ Li;simp only[eH,av,aq,bd];rw[Zo (d:= .s 1 y (56-k)) hr rfl];rw[kb];rw[Zb (by rw[aY,br,br];omega),bp];have uh:((t.drop k).take j).length=j:=by rw[cX];omega
  have lQ:=xz n y ((t.drop k).take j) s (hf.sw.lC j);rw[uh]at lQ;rw[Zk lQ];rw[av,aq];rw[Zo (d:= .s 1 y (56-k)) hr rfl];rw[kb];rw[Zb (by rw[aY,br,br];omega),cR,qE hr (by show 0<1;omega)];rfl
 .rw[jv (λe=>g.le.2.2 e.symm)];exact g.cl
 .rw[kZ (ef.1 hr).1,show 56-(k+j)=56-k-j by omega]
 .have:=(hf.kp (Kp.set hr (some ⟨false,[.s 1 (cU true y j) (56-k-j)]⟩))).cU (k:=j) (by omega)
  rwa [kW]at this
theorem Gs.store (g:Gs t S R st s cs k) (j:Nat) (d:DV) (hj:j<cs.length):
  ∃s',(∀K:M β,dI S j [d] K s=K s')/\Gs t S R st s' (cs.set j d) k/\Kp s s'/\s'.length=s.length/\∀b,b≠S->s'[b]? =s[b]? :=by
 have⟨y,hr,hf⟩:=g.rd;refine⟨s.set S (some ⟨false,cs.set j d⟩),λK=>qE g.cl hj K,⟨tA g.pre g.le.1 _,g.le,kZ (ef.1 g.cl).1,y,?_,hf.kp (Kp.set g.cl _)⟩,Kp.set g.cl _,nR,by grind⟩;rw[jv g.le.2.2];exact hr
def Hy (z:Nat):ah:=[.i 0,.i 0,.i 0,.i 0,.i 0,.i 0,.i 0,.i 0,.s z none 0]
def qO:ah:=Hy 0
def tw (st:St) (r:Option cy) (o:Out ah×St):Prop:=∃s',aB st s'/\match r with
 |none=>∃z,o=(.val [.a (Hy z),.b false],s')
 |some x=>∃p,o=(.val [.a (dj x p),.b true],s')/\Sl s' p (ints x.aJ)
theorem Gs.but (g:Gs t S R st s cs k) (hp:aB st s') (hk:Kp s s') (hb:rW cp s s') (h1: ∀o,cp≠some (S,o)) (h2: ∀o,cp≠some (R,o)):Gs t S R st s' cs k:=by
 have⟨y,hr,hf⟩:=g.rd;exact⟨hp,g.le,hb S _ g.cl h1,y,hb R _ hr h2,hf.kp hk⟩
def wj (i:Nat):Nat:=[1,2,3,5,6].getD i 0
def PN (t:aj) (i:Nat):ah:=[.i (bN t 0 8),.i (bif Nat.blt 0 i then bN t 8 4 else 0),.i (bif Nat.blt 1 i then bN t 12 4 else 0),.i (bif Nat.blt 2 i then bN t 16 4 else 0),.i 0,.i (bif Nat.blt 3 i then bN t 20 4 else 0),.i (bif Nat.blt 4 i then bN t 24 4 else 0),.i 0,.s 0 none 0]
theorem Zv3 (t:aj) (S:Nat) (h:i<5):(PN t i).set (wj i) (.i (bN t (8+4*i) 4))=PN t (i+1)/\wj i<9/\([.p (some (S,1)),.p (some (S,2)),.p (some (S,3)),.p (some (S,5)),.p (some (S,6))]:ah)[i*1]? =some (.p (some (S,wj i))):=by
 match i,h with
 |0,_=>exact⟨rfl,by decide,rfl⟩
 |1,_=>exact⟨rfl,by decide,rfl⟩
 |2,_=>exact⟨rfl,by decide,rfl⟩
 |3,_=>exact⟨rfl,by decide,rfl⟩
 |4,_=>exact⟨rfl,by decide,rfl⟩
def CY (t:aj) (z:Nat) (c:ai) (n:Nat):ah:=[.i (bN t 0 8),.i (bN t 8 4),.i (bN t 12 4),.i (bN t 16 4),.i (bN t 28 2),.i (bN t 20 4),.i (bN t 24 4),.i (bN t 30 2),.s z c n]
def zY (t:aj) (n:Nat):ak:=(List.range n).map λj=>bN t (32+2*j) 2
theorem Ik (t:aj) (n:Nat):(zY t n).length=n:=by simp[zY]
theorem Zmq (t:aj) (n:Nat):zY t (n+1)=zY t n++[bN t (32+2*n) 2]:=by
 simp[zY,qy,fq]
theorem Zq5 (l:ak):(ints l).length=l.length:=by simp[ints]
theorem ZqZ (l m:ak):ints (l++m)=ints l++ints m:=by simp[ints]
theorem Zzt {α:Type} {m:M α} {ds:α} (h:m s=some (.val ds,s')) (hk:s'[i]? =s[i]?):Ja i m s=some (.val ds,s'):=by
 grind[Ja]
theorem Ztv (n:Nat) (a:ai) (l:aj) (st:St) (ha:dc st a l) (hl:l.length<1000000) (hn:200<=n):
  Ok (tw st (mU l)) (run Bd n 330 [.s 1 a l.length] st):=by
 obtain _|n:=n;omega;have⟨r,hr⟩: ∃r,mU l=r:=⟨_,rfl⟩;rw[hr];rw[Ze,h.agu];unfold Tj bV sm aA cw Q_ Z6 bq cN lY aZ vZ ix Li ZX Br Lb Z7
 try dsimp only
 rw[aX,aq,ZM];refine Ok.call (Dt n a l st ha hl) ?_;rintro o ⟨s0,ou,hm⟩;have no: ∀s',aB st s'->r=none->Ok (tw st r) (some (Out.val [.a qO,.b false],Z1 st.length s')):=λs' hp e=>by
  rw[e];exact .mk ⟨_,Zr hp,0,rfl⟩
 cases eC:fM l with
 |none=>
  rw[eC]at hm;simp only at hm;subst hm;refine⟨_,s0,rfl,?_⟩;simp only[av,Zg 1 0 none _ (.inr rfl),au,aq,Za,bn,ae,Zp];exact no s0 ou (by rw[<-hr];unfold mU;rw[eC])
 |some q=>
  have⟨k,c,t⟩:=q;rw[eC]at hm;simp only at hm;obtain⟨p,rfl,hf,ht,hk,hc⟩:=hm;refine⟨_,s0,rfl,?_⟩;simp only[av,aX,au,aq,bu,af];refine Ok.join λaz h1=>?_
  have A1: ∀b,(!decide (k=7))=b->Ok (tw st r) (az [.b b] s0):=by
   intro b1 e1;rw[h1];simp only[au,aq];refine Ok.join λaI h2=>?_
   have A2: ∀b,(b1|| !decide (c<=8))=b->Ok (tw st r) (aI [.b b] s0):=by
    intro b2 e2;rw[h2];simp only[au,aq];cases b2 with
    |true=>
     rw[ae,Zp];refine no s0 ou ?_;rw[<-hr];unfold mU;rw[eC];grind
    |false=>
     have hkc:k=7/\c<=8:=by
      rw[<-e1,C6,Bool.not_eq_false',Bool.not_eq_false',br,br]at e2;exact e2
     have ij:r=bif ZU (jD t c)&&ZE (t.drop (32+2*c))then some (jD t c)else none:=by
      rw[<-hr];unfold mU;rw[eC];grind
     rw[af,Zz,Zz];rw[show([.i 0,.i 0,.i 0,.i 0,.i 0,.i 0,.i 0,.i 0,.s 0 none 0]:ah)=qO from rfl];have⟨hk7,JE⟩:=hkc;have aU:aB s0 (s0++[some (⟨false,qO⟩:bO)]++[some (⟨false,[.s 0 none 0]⟩:bO)]):=(aB.new _ _).trans (.new _ _);have hS:(s0++[some (⟨false,qO⟩:bO)]++[some (⟨false,[.s 0 none 0]⟩:bO)])[s0.length]? =some (some ⟨false,qO⟩):=by
      rw[fI,kX (aO _),Bk];rfl
     have hR:(s0++[some (⟨false,qO⟩:bO)]++[some (⟨false,[.s 0 none 0]⟩:bO)])[(s0++[some (⟨false,qO⟩:bO)]).length]? =some (some ⟨false,[.s 0 none 0]⟩):=by
      rw[kX (aO _),Bk];rfl
     have Ob:s0.length≠(s0++[some (⟨false,qO⟩:bO)]).length:=by rw[bB];grind
     have abg:s0.length<=(s0++[some (⟨false,qO⟩:bO)]).length:=(aB.new _ _).len;change Ok (tw st r) (dI (s0++[some (⟨false,qO⟩:bO)]).length 0 [.s 1 p 56] _ (s0++[some (⟨false,qO⟩:bO)]++[some (⟨false,[.s 0 none 0]⟩:bO)]));generalize (s0++[some (⟨false,qO⟩:bO)]++[some (⟨false,[.s 0 none 0]⟩:bO)])=s2 at aU hS hR;generalize (s0++[some (⟨false,qO⟩:bO)]).length=R at hR Ob abg;have⟨S,GA⟩: ∃S,s0.length=S:=⟨_,rfl⟩;rw[GA]at hS Ob abg;have vw:=ou.len;rw[qE hR (by show 0<1;omega)];have g0:Gs t S R st (s2.set R (some ⟨false,[.s 1 p 56]⟩)) qO 0:=by
      refine⟨tA (ou.trans aU) (by omega) _,⟨by omega,by omega,Ob⟩,?_,p,?_,?_⟩
      .rw[jv (λe=>Ob e.symm)];exact hS
      .grind
      .rw[dK];exact(hf.pre aU).kp (Kp.set hR _)
     change Ok (tw st r) (cQ _ _ (s2.set R (some ⟨false,[.s 1 p 56]⟩)));generalize (s2.set R (some ⟨false,[.s 1 p 56]⟩))=s3 at g0;have⟨s4,e4,g4,_⟩:=II n g0 8 8 rfl ht;rw[Zk e4];rw[av,aq];rw[GA];have⟨s5,e5,g5,_⟩:=g4.store (β:=ah) 0 (.i (bN t 0 8)) (by show 0<9;omega);rw[e5];have g6:Gs t S R st s5 (PN t 0) 8:=g5;refine Ok.join λaW h3=>?_
     refine Zi _ (λq y s=>∃i:Nat,y=[.i i]/\i<=5/\5-i<=q/\Gs t S R st s (PN t i) (8+4*i)) ?_ 5 n _ _ ⟨0,rfl,by omega,by omega,g6⟩ (by omega);rintro q _ s ⟨i,rfl,hi,hq,g⟩ rec aN;rw[av,aq];by_cases aw:i<5
     .have⟨w1,w2,w3⟩:=Zv3 t S aw
      rw[ax (show(i:Int)<5 by omega),ae,Zb (Zj aw),bp,gZ w3,LC];have⟨s',e',g',_⟩:=II n g 4 4 rfl ht;rw[Zk e'];rw[av,aq,bd];have⟨ql,e'',NZ,_⟩:=g'.store (β:=ah) (wj i) (.i (bN t (8+4*i) 4)) w2;rw[e'',Zc];rw[w1,show 8+4*i+4=8+4*(i+1) by omega]at NZ;exact aN (5-(i+1)) _ _ (by omega) ⟨i+1,rfl,by omega,by omega,NZ⟩
     .rw[aF (show ¬(i:Int)<5 by omega),af,h3]
      have:i=5:=by omega
      subst this;simp only[aq];have⟨s7,e7,g7,_⟩:=II n g 2 2 rfl ht;rw[Zk e7];rw[av,aq];have⟨s8,e8,g8,_⟩:=II n g7 2 2 rfl ht;rw[Zk e8];rw[av,aq];have⟨s9,e9,g9,_⟩:=g8.store (β:=ah) 4 (.i (bN t 28 2)) (by show 4<9;omega);rw[e9];have⟨CX,Jq,g10,_⟩:=g9.store (β:=ah) 7 (.i (bN t 30 2)) (by show 7<9;omega);rw[Jq];have g11:Gs t S R st CX (CY t 0 none 0) 32:=g10;refine Ok.join λbz h4=>?_
      refine Zi _ (λq y s=>∃(i z:Nat) (cp:ai),y=[.i i]/\i<=c/\c-i<=q/\Gs t S R st s (CY t z cp i) (32+2*i)/\(z=1\/cp=none)/\bm st s cp (ints (zY t i))/\(∀o,cp≠some (S,o))/\∀o,cp≠some (R,o)) ?_ c n _ _ ⟨0,0,none,rfl,by omega,by omega,g11,.inr rfl,bm.nil g11.pre,λo e=>(by cases e),λo e=>(by cases e)⟩ (by omega);clear aN g g4 g5 g6 g7 g8 g9 g10 g11 e4 e5 e7 e8 e9 Jq;rintro q _ s ⟨i,z,cp,rfl,hi,hq,g,hz,ho,hnS,hnR⟩ rec aN;rw[av,aq];by_cases aw:i<c
      .rw[ax (by omega),ae,Zo (d:= .s z cp i) g.cl rfl,Z3 1 z cp i hz]
       have⟨s',e',g',k',l',o'⟩:=II n g 2 2 rfl ht;rw[v8 (Zzt e' (o' S g.le.2.2))];rw[av,aq];have uf:bm st s' cp (ints (zY t i)):=by
        refine⟨g'.pre,ho.2.imp id λ⟨j,e1,e2,e3⟩=>⟨j,e1,e2,?_⟩⟩;rw[o' j (λe=>hnR 0 (by rw[e1,e]))];exact e3
       have⟨b,ql,h0,i1,i2,i3,i4⟩:=uf.Pz (β:=ah) (sz:=1) (n:=i) (lim:=8796093022208) [.i (bN t (32+2*i) 2)] (by omega) (by rw[Zq5,Ik,cR]) rfl (by omega);rw[i4];have NZ:=g'.but i1.1 i2 i3 hnS hnR;have⟨PE,e3',g3',k3',l3',o3'⟩:=NZ.store (β:=ah) 8 (.s 1 (some (b,0)) (i+1)) (by show 8<9;omega);rw[e3',Zc];have hbS:b≠S:=by have:=(ef.1 g'.cl).1;omega
       have hbR:b≠R:=by
        have⟨y,kN,_⟩:=g'.rd;have:=(ef.1 kN).1;omega
       refine aN (c-(i+1)) _ _ (by omega) ⟨i+1,1,some (b,0),rfl,by omega,by omega,by rw[show 32+2*(i+1)=32+2*i+2 by omega];exact g3',.inl rfl,?_,λo e=>(by cases e;exact hbS rfl),λo e=>(by cases e;exact hbR rfl)⟩;rcases i1.2 with⟨e,_⟩|⟨j,e,e2,e3⟩
       .cases e
       .cases e
        exact⟨g3'.pre,.inr ⟨b,rfl,e2,by rw[o3' b hbS,e3,Zmq,ZqZ];rfl⟩⟩
      .rw[aF (by omega),af,h4]
       have:i=c:=by omega
       subst this;simp only[aq];rw[Z8 g.cl (by show 0+9<=9;omega)];have qa:(List.drop 0 (CY t z cp i)).take 9=CY t z cp i:=rfl;rw[qa];unfold CY;simp only[av,Zg 1 z cp _ hz,aq];have yI:(jD t i).aJ.length=i:=Ik t i;have hRt:=ZkD n (jD t i) cp s ho.sl (by rw[yI];omega) (by rw[yI];omega);have cI:([.i (bN t 0 8),.i (bN t 8 4),.i (bN t 12 4),.i (bN t 16 4),.i (bN t 28 2),.i (bN t 20 4),.i (bN t 24 4),.i (bN t 30 2),.s 1 cp i]:ah)=dj (jD t i) cp:=by
        unfold dj;rw[yI];rfl
       rw[cI,Zk hRt];rw[au,aq];have ig:=aB.new s (some (⟨false,dj (jD t i) cp⟩:bO));generalize (s++[some (⟨false,dj (jD t i) cp⟩:bO)])=sN at ig;have gcl:=ig.get g.cl;have⟨y,kN,hfy⟩:=g.rd;have gr':=ig.get kN;refine Ok.join λck h5=>?_
       have A5: ∀b,(!(ZU (jD t i)&&ZE (t.drop (32+2*i))))=b->Ok (tw st r) (ck [.b b] sN):=by
        intro b e;rw[h5];simp only[au,aq];cases b with
        |true=>
         rw[ae,Zp];refine no sN (g.pre.trans ig) ?_;rw[ij];rw[lF]at e;rw[e,af]
        |false=>
         rw[Bool.not_eq_false']at e;rw[e,ae]at ij;rw[af,Z8 gcl (by show 0+9<=9;omega),qa];unfold CY;simp only[av,Zg 1 z cp _ hz,aq,Zp];rw[cI,ij];exact .mk ⟨_,Zr (g.pre.trans ig),cp,rfl,(ho.sl.mono ig).dQ _⟩
       cases pB:ZU (jD t i)with
       |false=>
        rw[bn,ae];exact A5 true (by rw[pB];rfl)
       |true=>
        rw[bu,af,Zo (d:= .s 1 y (56-(32+2*i))) gr' rfl];rw[kb];rw[Zo (d:= .s 1 y (56-(32+2*i))) gr' rfl];rw[kb];have jz:(t.drop (32+2*i)).length=56-(32+2*i):=by rw[fa,ht]
        have cA:=Dr n y (t.drop (32+2*i)) 0 (56-(32+2*i)) sN (hfy.sw.mono ig);rw[jz]at cA;rw[show(0:Int)=((0:Nat):Int)from rfl,Zk cA];rw[au,aq];refine A5 _ ?_;rw[pB,dF,dK,dG (by omega)]
   grind
  grind
def lA (img:aj) (k:Nat):Option cy:=bif decide (k<img.length/64)then mU (pD img k)else none
def xj:Option cy->Option cy->Option cy
 |b,none=>b
 |none,some y=>some y
 |some x,some y=>bif decide (y.seq>x.seq)then some y else some x
def vH (img:aj):Option cy:=xj (xj none (lA img 0)) (lA img 1)
theorem ado (x:cy) (p:ai) (l:ah) (K:ah->ah->M β):ba (.a (dj x p)::l) K=K (dj x p) l:=rfl
theorem ZN (cs l:ah) (K:ah->ah->M β):ba (.a cs::l) K=K cs l:=rfl
theorem ZsR (n d:Nat) (l:aj) (k:Nat) (st:St) (hd:Bl st d (jy l (8*(l.length/64)))) (hl:l.length<262144) (hk:k<2) (hn:300<=n):
  Ok (tw st (lA l k)) (run Bd n 327 [.p (some (d,0)),.i k] st):=by
 obtain _|n:=n;omega;have⟨r,hr⟩: ∃r,lA l k=r:=⟨_,rfl⟩;rw[hr];unfold lA at hr;rw[Ze,h.agr];unfold TH pP aA oe zL vZ ix aZ Br Lb
 try dsimp only
 rw[eH,av,aq,Za];rw[aF (show ¬(k:Int)<0 by omega),af,aF (show ¬(k:Int)>=2 by omega)];simp only[au,aq,af];refine Ok.call (Zr7 n d l k st hd hl (by omega) (by omega)) ?_;rintro o ⟨s1,aH,ho⟩;by_cases aw:k<l.length/64
 .rw[bE aw]at ho
  obtain⟨p,rfl,hf⟩:=ho;rw[ax aw,ae]at hr;refine⟨_,s1,rfl,?_⟩;rw[aX,av,aq];rw[show(!((0:Int)==0))=false from rfl,af];have gp:(pD l k).length=64:=by grind[pD]
  have hg:=Ztv n p (pD l k) s1 hf.sw (by omega) (by omega);rw[gp,hr]at hg;refine Ok.call hg ?_;rintro o ⟨s2,aU,ho⟩;cases r with
  |none=>
   obtain⟨z,rfl⟩:=ho;refine⟨_,s2,rfl,?_⟩;rw[ZN];unfold Hy;simp only[av,Zg 1 z none _ (.inr rfl),au,aq,Zd];exact .mk ⟨s2,aH.trans aU,1,rfl⟩
  |some x=>
   simp only at ho;obtain⟨q,rfl,hq⟩:=ho;refine⟨_,s2,rfl,?_⟩;rw[ado];unfold dj;simp only[av,aX,au,aq,Zd];exact .mk ⟨s2,aH.trans aU,q,rfl,hq⟩
 .rw[bj aw]at ho
  subst ho;rw[aF aw,af]at hr;refine⟨_,s1,rfl,?_⟩;rw[Zg 1 0 none _ (.inr rfl),av,aq];rw[show(!((2:Int)==0))=true from rfl,ae,Zd,<-hr];exact .mk ⟨s1,aH,0,rfl⟩
def pR (s:St) (r:Option cy) (cs:ah) (b:Bool):Prop:=match r with
 |none=>(∃z,cs=Hy z)/\b=false
 |some x=>∃p,cs=dj x p/\b=true/\Sl s p (ints x.aJ)
theorem pR.mono {s s':St} {r:Option cy} {cs:ah} {b:Bool} (h:pR s r cs b) (k:aB s s'):pR s' r cs b:=by
 cases r with
 |none=>exact h
 |some x=>have⟨p,h1,h2,h3⟩:=h;exact⟨p,h1,h2,h3.mono k⟩
def AT (a1 a2 a3 a4 a5 a6 a7 a8:Int) (z:Nat) (p:ai) (n:Nat):ah:=[.i a1,.i a2,.i a3,.i a4,.i a5,.i a6,.i a7,.i a8,.s z p n]
theorem pR.nine {b:Bool} (h:pR s r cs b): ∃a1 a2 a3 a4 a5 a6 a7 a8 z p n,cs=AT a1 a2 a3 a4 a5 a6 a7 a8 z p n/\(z=1\/p=none)/\(∀x,r=some x->a1=x.seq)/\pR s r (AT a1 a2 a3 a4 a5 a6 a7 a8 1 p n) b:=by
 cases r with
 |none=>
  obtain⟨⟨z,rfl⟩,rfl⟩:=h;exact⟨0,0,0,0,0,0,0,0,z,none,0,rfl,.inr rfl,λx e=>(by cases e),⟨1,rfl⟩,rfl⟩
 |some x=>
  obtain⟨p,rfl,rfl,h3⟩:=h;exact⟨_,_,_,_,_,_,_,_,1,p,_,rfl,.inl rfl,λx e=>(by cases e;rfl),p,rfl,rfl,h3⟩
theorem tw.out {o:Out ah×St} (h:tw st r o): ∃s' cs b,o=(.val [.a cs,.b b],s')/\aB st s'/\pR s' r cs b:=by
 have⟨s',hp,h⟩:=h;cases r with
 |none=>have⟨z,h⟩:=h;exact⟨s',_,_,h,hp,⟨z,rfl⟩,rfl⟩
 |some x=>have⟨p,h1,h2⟩:=h;exact⟨s',_,_,h1,hp,p,rfl,rfl,h2⟩
theorem pR.b {s:St} {r:Option cy} {cs:ah} {b:Bool} (h:pR s r cs b):b=r.isSome:=by
 cases r with
 |none=>exact h.2
 |some x=>have⟨p,_,h2,_⟩:=h;exact h2
def Qe (st:St) (r:Option cy) (o:Out ah×St):Prop:=∃s' cs k b,o=(.val [.a cs,.i k,.b b],s')/\aB st s'/\pR s' r cs b
def B0 (l:aj):Nat->Option cy
 |0=>none
 |i+1=>xj (B0 l i) (lA l i)
theorem Zsj (n d:Nat) (l:aj) (st:St) (hd:Bl st d (jy l (8*(l.length/64)))) (hl:l.length<262144) (hn:400<=n):
  Ok (Qe st (vH l)) (run Bd n 326 [.p (some (d,0))] st):=by
 obtain⟨n,rfl⟩: ∃m,n=m+4:=⟨n-4,by omega⟩;rw[Ze,h.agq];unfold S9 jh QV Z6 Zwx zL aA Bq ix Lb
 try dsimp only
 rw[eH,aq];refine Ok.join λaz h1=>?_
 refine Zi _ (λq y s=>∃(i:Nat) (cs:ah) (k:Int) (b:Bool),y=[.a cs,.i k,.b b,.i i]/\i<=2/\2-i<=q/\aB st s/\pR s (B0 l i) cs b) ?_ 2 (n+3) _ _ ⟨0,_,0,false,rfl,by omega,by omega,.refl st,⟨0,rfl⟩,rfl⟩ (by omega);rintro q _ s ⟨i,cs,k,b,rfl,hi,hq,hp,hm⟩ rec aN;obtain⟨a1,a2,a3,a4,a5,a6,a7,a8,z,p,m,rfl,hz,aiC,mo⟩:=hm.nine;rw[ZN];unfold AT;simp only[av,Zg 1 z p _ hz,au,aq];by_cases aw:i<2
 .rw[ax (show(i:Int)<2 by omega),ae]
  refine Ok.call (ZsR (n+3) d l i s (hd.mono hp) hl aw (by omega)) ?_;intro o ho;obtain⟨s1,bM,b1,rfl,aH,fw⟩:=ho.out;refine⟨_,s1,rfl,?_⟩;obtain⟨c1,c2,c3,c4,c5,c6,c7,c8,z',p',m',rfl,CF,aiD,sL⟩:=fw.nine;rw[ZN];unfold AT;simp only[av,Zg 1 z' p' _ CF,au,aq];have hw:ar ((i:Int)+1)=((i+1:Nat):Int):=Zc;refine Ok.join λaI h2=>?_
  have A2: ∀c r,xj (B0 l i) (lA l i)=(bif c then lA l i else B0 l i)->r=c->(c=true->b1=true)->Ok (Qe st (vH l)) (aI [.b r] s1):=by
   intro c r e er ht;subst er;rw[h2];simp only[au,aq,Za];cases r with
   |true=>
    rw[ae,ZN];simp only[av,aX,au,aq];rw[hw];refine aN (2-(i+1)) _ _ (by omega) ⟨i+1,_,_,true,rfl,by omega,by omega,hp.trans aH,?_⟩;rw[ae]at e;show pR s1 (xj (B0 l i) (lA l i)) _ _;rw[e];rw[ht rfl]at sL;exact sL
   |false=>
    rw[af,ZN];simp only[av,aX,au,aq];rw[hw];refine aN (2-(i+1)) _ _ (by omega) ⟨i+1,_,_,b,rfl,by omega,by omega,hp.trans aH,?_⟩;rw[af]at e;show pR s1 (xj (B0 l i) (lA l i)) _ _;rw[e];exact mo.mono aH
  have kI:=fw.b;have hb:=hm.b;cases hr:lA l i with
  |none=>
   rw[hr]at kI;subst kI;rw[show(Option.isSome (none:Option cy))=false from rfl,af];exact A2 false false (by rw[hr];cases B0 l i<;>rfl) rfl (λe=>by cases e)
  |some y=>
   rw[hr]at kI;subst kI;rw[show(Option.isSome (some y))=true from rfl,ae,Za];cases tU:B0 l i with
   |none=>
    rw[tU]at hb;subst hb;rw[show(!Option.isSome (none:Option cy))=true from rfl,ae];simp only[au,aq];exact A2 true true (by rw[hr,tU];rfl) rfl (λ_=>rfl)
   |some x=>
    rw[tU]at hb;subst hb;rw[show(!Option.isSome (some x))=false from rfl,af];simp only[au,aq];refine A2 (decide (y.seq>x.seq)) _ (by rw[hr,tU];rfl) ?_ (λ_=>rfl);rw[aiD y hr,aiC x tU]
 .rw[aF (show ¬(i:Int)<2 by omega),af,h1]
  have:i=2:=by omega
  subst this;simp only[ZN,av,aX,au,aq,Zd];exact .mk ⟨s,_,k,b,rfl,hp,mo⟩
theorem Zxn {x:cy} (h:mU l=some x):ZU x=true/\x.aJ.length<=8:=by
 unfold mU at h;cases ho:fM l with
 |none=>rw[ho]at h;cases h
 |some q=>
  have⟨k,n,t⟩:=q;rw[ho]at h;simp only at h;cases h1:decide (k=7)&&decide (n<=8)with
  |false=>rw[h1]at h;cases h
  |true=>
   rw[h1,ae]at h;rw[aY,br,br]at h1;cases h2:ZU (jD t n)&&ZE (t.drop (32+2*n))with
   |false=>rw[h2]at h;cases h
   |true=>
    rw[h2,ae]at h;cases h;rw[aY]at h2;exact⟨h2.1,by rw[show(jD t n).aJ.length=n from Ik t n];exact h1.2⟩
theorem Zvf {x:cy} (h:lA l k=some x):k<l.length/64/\mU (pD l k)=some x:=by
 grind[lA]
theorem Zpe {a b:Option cy} {x:cy} (h:xj a b=some x):a=some x\/b=some x:=by
 cases a with
 |none=>cases b with
  |none=>cases h
  |some y=>exact .inr h
 |some z=>cases b with
  |none=>exact .inl h
  |some y=>
   have h:(bif decide (y.seq>z.seq)then some y else some z)=some x:=h;grind
theorem ZvT {x:cy} (h:vH l=some x): ∃k,k<2/\lA l k=some x:=by
 unfold vH at h;rcases Zpe h with h|h
 .rcases Zpe h with h|h
  .cases h
  grind
 grind
def mb (img:aj):Option (cy×aS)×Int:=match vH img with
 |none=>(none,30)
 |some x=>match rL (qu img x)with
  |some (some v)=>bif zR img x v.W then(some (x,v),0)else(none,32)
  |_=>(none,31)
def ZAf (st:St) (r:Option (cy×aS)×Int) (o:Out ah×St):Prop:=∃s',aB st s'/\match r with
 |(none,e)=>o=(.val [.a (dE nL 0 none 0 none 0 none),.p none,.i e],s')/\e≠0
 |(some (x,v),_)=>∃z2 p2 z3 p3 z4 p4 i j,o=(.val [.a (dE (fh x v) z2 p2 z3 p3 z4 p4),.p (some (i,0)),.i 0],s')/\(z2=2\/p2=none)/\(z3=1\/p3=none)/\(z4=1\/p4=none)/\lh s' (fh x v) p2 p3 p4/\gy s' false i j x.blocks.toNat (x.aJ.foldl (bK x.blocks.toNat) v.W)
theorem Sl.words {W W':al} (hj:s[j]? =some (some ⟨f,Zv W⟩)) (hl:W'.length=W.length) (h:Sl s p cs) (hn: ∀(d:DV) (r:ah) (w:Nat),cs=d::r->d≠ .w w):Sl (s.set j (some ⟨f',Zv W'⟩)) p cs:=by
 cases p with
 |none=>exact h
 |some q=>
  have⟨i,o⟩:=q;have⟨g,all,h1,h2,h3⟩:=h;by_cases mn:i=j
  .subst mn
   rw[hj]at h1;cases h1;have hc:cs=[]:=by
    cases cs with
    |nil=>rfl
    |cons d r=>
     exfalso;have aw:o<(Zv W).length:=by
      rw[cO]at h2;omega
     have h4:(Zv W)[o]? =some d:=by
      have:=congrArg (λl:ah=>l[0]?) h3;simpa using this
     rw[Bw]at aw;have h5:(Zv W)[o]? =some (.w (W[o]:Nat)):=by
      unfold Zv;rw[rQ,cq aw];rfl
     rw[h5]at h4;grind
   subst hc;refine⟨f',_,kZ (ef.1 hj).1,?_,rfl⟩;rw[Bw,hl,<-Bw];exact h2
  .exact⟨g,all,by rw[jv (λe=>mn e.symm)];exact h1,h2,h3⟩
theorem lh.words {s:St} {j:Nat} {f f':Bool} {W W':al} (hj:s[j]? =some (some ⟨f,Zv W⟩)) (hl:W'.length=W.length) {x:fJ} {p1 p2 p3:ai} (h:lh s x p1 p2 p3):lh (s.set j (some ⟨f',Zv W'⟩)) x p1 p2 p3:=by
 have hi: ∀(l:ak) (d:DV) (r:ah) (w:Nat),ints l=d::r->d≠ .w w:=λl d r w e=>by
  cases l with
  |nil=>cases e
  |cons a l=>cases e;intro e;cases e
 have⟨ds,h1,h2⟩:=h.hp;refine⟨⟨ds,h1.words hj hl λd r w e=>?_,h2.cj λp es k=>k.words hj hl λd r w e=>?_⟩,h.gn.words hj hl (hi _),h.fr.words hj hl (hi _)⟩
 .cases hh:x.aM with
  |nil=>rw[hh]at h2;rw[show ds=[]from h2]at e;cases e
  |cons y t=>
   rw[hh]at h2;have⟨z,p,t',_,h3,_⟩:=h2;rw[h3]at e;cases e;intro e;cases e
 .cases es with
  |nil=>cases e
  |cons a l=>cases e;intro e;cases e
theorem Rp (n:Nat) (a:ai) (img:aj) (st:St) (ht:sc st) (ha:dc st a img) (hl:img.length<262144) (hn:50000<=n:=by omega):
  Ok (ZAf st (mb img)) (run Bd n 324 [.s 1 a img.length] st):=by
 obtain _|n:=n;omega;have⟨R,hR⟩: ∃R,mb img=R:=⟨_,rfl⟩;rw[hR];unfold mb at hR;rw[Ze,h.ago];unfold Sg bV zD LQ xC bq C_ aZ Lp
 try dsimp only
 rw[aX,aq];refine Ok.call (Ztd n a img st ha hl (by omega)) ?_;rintro _ ⟨d,_,s1,rfl,aH,_,_,hd⟩;have hd:=hd.aee rfl;rw[Zz5]at hd;refine⟨_,s1,rfl,?_⟩;rw[eH,aq];refine Ok.call (Zsj n d img s1 hd hl (by omega)) ?_;rintro _ ⟨s2,cs,k,b,rfl,aU,hm⟩;refine⟨_,s2,rfl,?_⟩;have hb:=hm.b;cases j1:vH img with
 |none=>
  rw[j1]at hm hb hR;subst hb;obtain⟨⟨z,rfl⟩,_⟩:=hm;rw[ZN];unfold Hy;simp only[av,Zg 1 z none _ (.inr rfl),au,aq];rw[show(!Option.isSome (none:Option cy))=true from rfl,ae,Zd,<-hR];exact .mk ⟨s2,aH.trans aU,rfl,by omega⟩
 |some x=>
 rw[j1]at hm hb hR;simp only at hR;subst hb;obtain⟨q,rfl,_,hq⟩:=hm;have⟨kx,_,vB⟩:=ZvT j1;have⟨pB,cL⟩:=Zxn (Zvf vB).2;rw[ZN];unfold dj;simp only[av,aX,au,aq];rw[show(!Option.isSome (some x))=false from rfl,af];have CD:([.i x.seq,.i x.blocks,.i x.de,.i x.g,.i x.cc,.i x.used,.i x.free,.i x.dir,.s 1 q x.aJ.length]:ah)=dj x q:=rfl;rw[CD];have iP:=aH.trans aU;have Av:=ha.mono iP;refine Ok.call (ZlN n a img x q s2 Av hq (by omega) (by omega)) ?_;intro o ho;cases hw:rL (qu img x)with
 |none=>
  rw[hw]at ho hR;obtain⟨s3,rfl,cu⟩:=ho;refine⟨_,s3,rfl,?_⟩;rw[ZN];unfold dE;simp only[av,Zg 2 0 none _ (.inr rfl),Zg 1 0 none _ (.inr rfl),eH,aq];rw[show(!((2:Int)==0))=true from rfl,ae,Zd,<-hR];exact .mk ⟨s3,iP.trans cu,rfl,by omega⟩
 |some w=>
 cases w with
 |none=>
  rw[hw]at ho hR;obtain⟨s3,rfl,cu⟩:=ho;refine⟨_,s3,rfl,?_⟩;rw[ZN];unfold dE;simp only[av,Zg 2 0 none _ (.inr rfl),Zg 1 0 none _ (.inr rfl),eH,aq];rw[show(!((31:Int)==0))=true from rfl,ae,Zd,<-hR];exact .mk ⟨s3,iP.trans cu,rfl,by omega⟩
 |some v=>
 rw[hw]at ho hR;simp only at hR;obtain⟨s3,z2,p2,z3,p3,z4,p4,i,j,rfl,cu,gS,mB,wX,cg,dh,hj,mn⟩:=ho;refine⟨_,s3,rfl,?_⟩;rw[ZN];unfold dE;simp only[av,Zg 2 z2 p2 _ gS,Zg 1 z3 p3 _ mB,Zg 1 z4 p4 _ wX,eH,aq];rw[show(!((0:Int)==0))=false from rfl,af];have ug:=iP.trans cu;refine Ok.cv (Zoz n a img x q (some (x.blocks.toNat,v.W)) (some (i,0)) s3 (ht.mono ug) (Av.mono cu) (hq.mono cu) ⟨false,i,j,rfl,dh⟩ (by omega) (by omega) (by omega)) λs4 fy=>?_
 have tX:IM img x (some (x.blocks.toNat,v.W))=zR img x v.W:=by
  unfold IM;rw[hw];simp
 rw[tX];rw[au,aq];cases Eb:zR img x v.W with
 |false=>
  rw[Eb,af]at hR;rw[bn,ae,Zd,<-hR];exact .mk ⟨s4,ug.trans fy,rfl,by omega⟩
 |true=>
  rw[Eb,ae]at hR;rw[bu,af];have Er:lI [j] q:=λb o e hm=>by
   subst e;have:=Sl.lt hq;rw[cB]at hm;omega
  have Hb:=dh.pre fy;rw[Zk (H3 n x.aJ q s4 Hb mn (hq.mono (cu.trans fy)) Er)];rw[aq,Zd];rw[<-hR];have hf:=ZF x.blocks.toNat x.aJ v.W;have h2:=aU.len;have h1:=aH.len;refine .mk ⟨_,tA (ug.trans fy) (by omega) _,2,p2,1,p3,1,p4,i,j,rfl,.inl rfl,.inl rfl,.inl rfl,(cg.pre fy).words Hb.wd hf.1,Hb.add mn _ hf.1 (hf.2 dh.lt)⟩
def xH (l:List dP) (a:Int):Int:=l.foldl (λa h=>ar (a+(h.cj.length:Nat))) a
def I7 (x:cy) (v:aS):ah:=[.i (xH v.aM 0),.i (v.aM.length:Nat),.i (v.free.length:Nat),.i (ar (ar ((v.aK.length:Int)-xH v.aM 0)-(v.free.length:Int))),.i (BP (x.aJ.foldl (bK x.blocks.toNat) v.W))]
def VS:ah:=[.i 0,.i 0,.i 0,.i 0,.i 0]
def ZAo (st:St) (r:Option (cy×aS)×Int) (o:Out ah×St):Prop:=∃s',aB st s'/\match r with
 |(none,e)=>o=(.val [.a VS,.i e],s')
 |(some (x,v),_)=>o=(.val [.a (I7 x v),.i 0],s')
theorem Rf (n:Nat) (a:ai) (img:aj) (st:St) (ht:sc st) (ha:dc st a img) (hl:img.length<262144) (hh: ∀x v e,mb img=(some (x,v),e)->v.aM.length<1000) (hn:50010<=n:=by omega):
  Ok (ZAo st (mb img)) (run Bd n 323 [.s 1 a img.length] st):=by
 obtain _|n:=n;omega;rw[Ze,h.abc];unfold R8 bV xC tp DB Mb N_ aZ BA Lp xM
 try dsimp only
 rw[aX,aq];refine Ok.call (Rp n a img st ht ha hl) ?_;rintro o ⟨s1,aH,ho⟩;have⟨R,hR⟩: ∃R,mb img=R:=⟨_,rfl⟩;rw[hR]at ho⊢;have⟨r,e⟩:=R;cases r with
 |none=>
  simp only at ho;obtain⟨rfl,he⟩:=ho;refine⟨_,s1,rfl,?_⟩;rw[ZN];unfold dE;simp only[av,Zg 2 0 none _ (.inr rfl),Zg 1 0 none _ (.inr rfl),eH,aq];rw[show(!(e==0))=true by rw[eG.2 he];rfl,ae,Zd];exact .mk ⟨s1,aH,rfl⟩
 |some q=>
  have⟨x,v⟩:=q;have ub:=hh x v e hR;simp only at ho;obtain⟨z2,p2,z3,p3,z4,p4,i,j,rfl,gS,mB,wX,cg,dh⟩:=ho;refine⟨_,s1,rfl,?_⟩;rw[ZN];unfold dE;simp only[av,Zg 2 z2 p2 _ gS,Zg 1 z3 p3 _ mB,Zg 1 z4 p4 _ wX,eH,aq];rw[show(!((0:Int)==0))=false from rfl,af];have Cl:run Bd n 183 [.p (some (i,0))] s1=some (.val [.i (BP (x.aJ.foldl (bK x.blocks.toNat) v.W))],s1):=ok_eq (ZrW n s1 dh (by omega));rw[qG Cl (.refl s1)];rw[av,aq,Za];have e1:(fh x v).aM=v.aM:=rfl;have e2:(fh x v).aK=v.aK:=rfl;have e3:(fh x v).free=v.free:=rfl;have⟨ds,hs,XC⟩:=cg.hp;rw[e1]at XC;rw[e1,e2,e3];refine Zi _ (λq y s=>∃k:Nat,y=[.a [.i (xH (v.aM.take k) 0),.i (v.aM.length:Nat),.i (v.free.length:Nat),.i 0,.i (BP (x.aJ.foldl (bK x.blocks.toNat) v.W))],.i k]/\k<=v.aM.length/\v.aM.length-k<=q/\s=s1) ?_ v.aM.length n _ _ ⟨0,rfl,cz _,by omega,rfl⟩ (by omega);rintro q _ s ⟨k,rfl,hk,hq,rfl⟩ rec aN;rw[ZN];simp only[av,aq];by_cases aw:k<v.aM.length
  .obtain⟨i1,o1,rfl⟩:=hs.cH (by rw[XC.len];omega)
   have eg:v.aM[k]? =some v.aM[k]:=cq aw;have⟨za,pa,KD,hpa,la⟩:=Zw6 (β:=ah) hs XC eg;rw[ax (show(k:Int)<(v.aM.length:Int) by omega),ae,bd,Zb (Zj aw),bp,la];unfold ml;rw[bR,Zg 4 za pa _ KD,aq];rw[Zc (x:=(k:Int)+1)];refine aN (v.aM.length-(k+1)) _ _ (by omega) ⟨k+1,?_,by omega,by omega,rfl⟩;rw[lX aw];unfold xH;rw[zs];rfl
  .rw[aF (show ¬(k:Int)<(v.aM.length:Int) by omega),af,ZN]
   simp only[av,aq,Zd];have:k=v.aM.length:=by omega
   subst this;rw[rU];exact .mk ⟨s,aH,rfl⟩
end Go.Gv.F
namespace Go.Gv.F
open Go.Gv
def Cb:fJ:=⟨16,2,1,[],[],[]⟩
theorem ZyX:sa Cb where
 N2:=by decide
 de:=by decide
 D4:=by decide
 right:=λh hh=>nomatch hh
 order:=λi a b h1 h2=>by cases h1
 nodup:=by decide
 range:=by decide
 gen:=λe he=>nomatch he
 low:=λk hk=>nomatch hk
 aK:=by decide
 rest:=λi hi hn=>by
  have:Cb.aK.length=0:=rfl;omega
def Wf (x:cy) (v:aS):ak:=[xH v.aM 0,(v.aM.length:Nat),(v.free.length:Nat),ar (ar ((v.aK.length:Int)-xH v.aM 0)-(v.free.length:Int)),BP (x.aJ.foldl (bK x.blocks.toNat) v.W)]
theorem Zuj (x:cy) (v:aS):I7 x v=ints (Wf x v):=rfl
def ac0:Bool:=match F6 Cb 1 0 with
 |none=>false
 |some (B,_)=>match mb B with
  |(some (x,v),_)=>decide (Wf x v=[0,0,0,0,3])&&(decide (v.aM.length=0)&&decide (B.length=1024))
  |_=>false
theorem Zvp:ac0=true:=by decide+kernel
theorem Zt5: ∃B s x v e,F6 Cb 1 0=some (B,s)/\mb B=(some (x,v),e)/\Wf x v=[0,0,0,0,3]/\v.aM.length=0/\B.length=1024:=by
 have h:=Zvp;unfold ac0 at h;grind
theorem ZqF:mb []=(none,30):=by
 rfl
end Go.Gv.F
