/- A device made of octets: the program's layer 5, as far as it is read. -/
import Derived.Test.YtegglibipjjblaaGreatDoorGvZMf
set_option linter.all false
namespace Go.Gv.F
open Go.Gv
variable {β:Type}
variable {Bd:Zh} [h:HA Bd]
def Zqq (n:Nat) (a:ai) (l:aj) (st:St) (ha:dc st a l) (hl:8<=l.length) (hn:12<=n):
  run Bd n 285 [.slice 1 a l.length] st=some (.val [.int .u64 (ez (l.take 8))],st):=by
 have ht:(l.take 8).length=8:=by rw[cX];omega
 have h8:=xz n a (l.take 8) st (ha.lA 8) (by omega) hn;obtain⟨n,rfl⟩: ∃m,n=m+1:=⟨n-1,by omega⟩;rw[Ze,h.aaZ]at h8⊢;unfold LU bV BP zT mP kZ ZC at h8⊢;rw[ht]at h8;simp only[aX,aq]at h8⊢;have e1:(if (8:Int)<((8:Nat):Int)then(8:Int)else((8:Nat):Int))=8:=by decide
 have e2:(if (8:Int)<(l.length:Int)then(8:Int)else(l.length:Int))=8:=by
  by_cases h9:(8:Int)<(l.length:Int)
  .rw[bE h9]
  omega
 simp only[e1]at h8;simp only[e2];rw[Zb (by decide)]at h8;rw[Zb (by rw[aY,bu,bu];omega)];exact h8
def kC (l:aj) (k:Nat):al:=(List.range k).map λi=>ez ((l.drop (8*i)).take 8)
def Dq (l:aj) (k:Nat):(kC l k).length=k:=by simp[kC]
def ZnM (l:aj) (k:Nat):kC l (k+1)=kC l k++[ez ((l.drop (8*k)).take 8)]:=by
 simp[kC,qw,fA]
variable {R S i j k n:Nat} {r:Option cy} {s s' st:St} {A cs:ah} {cp p:ai} {l t:aj}
def Ue (h:i<k):(kC l k)[i]? =some (ez ((l.drop (8*i)).take 8)):=by
 grind[kC]
def ZoF (l m:al):Zv (l++m)=Zv l++Zv m:=by simp[Zv]
def Bs (l:al):(Zv l).length=l.length:=by simp[Zv]
def ZpB (n:Nat) (a:ai) (l:aj) (k:Nat) (st:St) (ha:dc st a l) (hk:l.length=8*k) (hl:l.length<1000000) (hn:k+20<=n):
  Ok (λo=>∃p s',o=(.val [.slice 1 p k],s')/\aB st s'/\Fz s' p (Zv (kC l k))) (run Bd n 328 [.slice 1 a l.length] st):=by
 obtain⟨n,rfl⟩: ∃m,n=m+1:=⟨n-1,by omega⟩;rw[Ze,h.age];unfold RY bV fB uP aZ kZ we;simp only[aX,aq,ZL,Za];refine Zi _ (λq y s=>∃(i z:Nat) (b p:ai),y=[.slice 1 b (l.length-8*i),.slice z p i]/\(z=1\/p=none)/\i<=k/\k-i<=q/\dc st b (l.drop (8*i))/\bm st s p (Zv (kC l i))) ?_ k n _ _ ⟨0,0,a,none,by rw[Nat.mul_zero,Fb],.inr rfl,cz _,by omega,ha,bm.nil (.refl st)⟩ (by omega);rintro q _ s ⟨i,z,b,p,rfl,hz,hi,hq,hb,ho⟩ rec aN;simp only[aX,Zg 1 z p _ hz,aq];by_cases aw:i<k
 .have jy:(l.drop (8*i)).length=l.length-8*i:=fa
  rw[ax (show((l.length-8*i:Nat):Int)>=8 by omega),ae];have hr:=Zqq n b (l.drop (8*i)) s (hb.mono ho.1) (by omega) (by omega);rw[jy]at hr;rw[Zk hr];simp only[av,aq];obtain⟨p',s',h1,h2⟩:=ho.push (β:=ah) (sz:=1) (n:=i) (lim:=8796093022208) [.int .u64 (ez ((l.drop (8*i)).take 8):Nat)] (by omega) (by rw[Bs,Dq,cR]) rfl (by omega);rw[h2];rw[Zb rfl];refine aN (k-(i+1)) _ _ (by omega) ⟨i+1,1,cU true b 8,p',by rw[show l.length-8*i-8=l.length-8*(i+1) by omega],.inl rfl,by omega,by omega,?_,?_⟩
  .have:=hb.cU (k:=8) (by omega)
   rwa [kV,show 8*i+8=8*(i+1) by omega]at this
  .rw[ZnM,ZoF];exact h1
 .rw[aF (show ¬((l.length-8*i:Nat):Int)>=8 by omega),af,Zp]
  have:i=k:=by omega
  subst this;exact .mk ⟨p,_,rfl,Zr ho.1,ho.fz⟩
def wm (ws:al):ah:=(ws.map λw=>[.int .u64 (w:Nat),.int .u64 (w:Nat),.int .u64 0,.bool false]).flatten
def ZvH (l m:al):wm (l++m)=wm l++wm m:=by simp[wm]
def Tx: ∀(l:al),(wm l).length=l.length*4
 |[]=>rfl
 |w::r=>by
  have:=Tx r;grind[wm]
def ZoB: ∀ {l:al} {i w:Nat},l[i]? =some w->(wm l)[i*4+1]? =some (.int .u64 w)
 |[],i,w,h=>by simp at h
 |x::r,0,w,h=>by
  simp only[kW,fT]at h;subst h;rfl
 |x::r,i+1,w,h=>by
  have:=ZoB (l:=r) (i:=i) (by simpa using h);grind[wm]
def Jj (z:Nat) (c:ai) (n:Nat):ah:=[.slice z c n,.slice 0 none 0,.int .i64 0,.bool false,.bool false,.int .i64 0,.int .i64 0]
def vT (s:St) (d:Nat) (ws:al):Prop:=∃(f:Bool) (z:Nat) (c:ai),s[d]? =some (some ⟨f,Jj z c ws.length⟩)/\(z=4\/c=none)/\Sl s c (wm ws)
def vT.mono {s s':St} {d:Nat} {ws:al} (h:vT s d ws) (k:aB s s'):vT s' d ws:=by
 obtain⟨f,z,c,h1,h2,h3⟩:=h;exact⟨f,z,c,k.get h1,h2,h3.mono k⟩
def ZsF (n:Nat) (a:ai) (l:aj) (st:St) (ha:dc st a l) (hl:l.length<262144) (hn:40000<=n):
  Ok (λo=>∃d s',o=(.val [.ptr (some (d,0))],s')/\aB st s'/\vT s' d (kC l (8*(l.length/64)))) (run Bd n 325 [.slice 1 a l.length] st):=by
 obtain⟨n,rfl⟩: ∃m,n=m+1:=⟨n-1,by omega⟩;rw[Ze,h.agb];unfold TL bV iL Q_ cM wb aZ Lp rW Li;simp only[aX,aq];rw[Zz];obtain⟨k,hk⟩: ∃k,l.length/64=k:=⟨_,rfl⟩;have e1:ar (Int.tdiv ((l.length:Nat):Int) 64)=(k:Int):=by
  rw[Int.tdiv_eq_ediv_of_nonneg (by omega)];exact(Zc).trans (by omega)
 have e2:(if (4096:Int)<(k:Int)then(4096:Int)else(k:Int))=(k:Int):=bj (by omega);have e3:ar ((k:Int)*64)=((64*k:Nat):Int):=by
  rw[show((k:Int)*64)=((64*k:Nat):Int) by omega];exact Zc
 simp only[e1,e2,e3,bp];rw[Zb (by rw[aY,bu,bu];omega)];have ou:=aB.new st (some (⟨false,[.slice 0 none 0,.slice 0 none 0,.int .i64 0,.bool false,.bool false,.int .i64 0,.int .i64 0]⟩:bO));have yr:(st++[some (⟨false,[.slice 0 none 0,.slice 0 none 0,.int .i64 0,.bool false,.bool false,.int .i64 0,.int .i64 0]⟩:bO)])[st.length]? =some (some ⟨false,Jj 0 none 0⟩):=by simp[Jj]
 generalize (st++[some (⟨false,[.slice 0 none 0,.slice 0 none 0,.int .i64 0,.bool false,.bool false,.int .i64 0,.int .i64 0]⟩:bO)])=s1 at ou yr;have uf:(l.take (64*k)).length=64*k:=by rw[cX];omega
 have hw:=ZpB n a (l.take (64*k)) (8*k) s1 ((ha.mono ou).lA _) (by omega) (by omega) (by omega);rw[uf]at hw;refine Ok.call hw ?_;rintro _ ⟨p,s2,rfl,aU,vn⟩;refine⟨_,s2,rfl,?_⟩;have ew:kC (l.take (64*k)) (8*k)=kC l (8*k):=by
  unfold kC;refine Lg λi hi=>?_
  rw[uu]at hi;rw[C5,C7,nS (by omega)]
 rw[ew]at vn;simp only[aX,aq,Za];refine Zi _ (λq y s=>∃(i z:Nat) (c:ai),y=[.int .i64 i]/\i<=8*k/\8*k-i<=q/\Fz s p (Zv (kC l (8*k)))/\s[st.length]? =some (some ⟨false,Jj z c i⟩)/\(z=4\/c=none)/\bm st s c (wm (kC l i))/\∀o,c≠some (st.length,o)) ?_ (8*k) n _ _ ⟨0,0,none,rfl,cz _,by omega,vn,aU.get yr,.inr rfl,bm.nil (ou.trans aU),λo e=>by cases e⟩ (by omega);rintro q _ s ⟨i,z,c,rfl,hi,hq,hf,hd,hz,ho,dP⟩ rec aN;simp only[av,aq];by_cases aw:i<8*k
 .rw[ax (show(i:Int)<((8*k:Nat):Int) by omega),ae]
  obtain⟨i1,o1,rfl⟩:=hf.1.cH (by rw[Bs,Dq];omega);have hg:=Ue (l:=l) aw;have GG:(Zv (kC l (8*k)))[i]? =some (.int .u64 (ez ((l.drop (8*i)).take 8):Nat)):=by unfold Zv;rw[th,hg];rfl
  rw[bd,Zb (Zj aw),bp,hf.1.dJ GG];simp only[bg];rw[Zo (d:= .slice z c i) hd rfl,Z2 4 z c i hz];obtain⟨c',s',h0,h1,h2,h3,h4⟩:=ho.Po (β:=ah) (sz:=4) (n:=i) (lim:=2199023255552) [.int .u64 (ez ((l.drop (8*i)).take 8):Nat),.int .u64 (ez ((l.drop (8*i)).take 8):Nat),.int .u64 0,.bool false] (by omega) (by rw[Tx,Dq]) rfl (by omega);rw[h4];have mh:s'[st.length]? =some (some ⟨false,Jj z c i⟩):=h3 st.length _ hd dP;have ua:st.length<s.length:=by grind
  rw[qD mh (by show 0<7;omega),Zc];have c9:s'[c']? =some (some ⟨false,wm (kC l i)++[.int .u64 (ez ((l.drop (8*i)).take 8):Nat),.int .u64 (ez ((l.drop (8*i)).take 8):Nat),.int .u64 0,.bool false]⟩):=by
   rcases h1.2 with⟨e,_⟩|⟨j,e,_,h5⟩
   .cases e
   .cases e;exact h5
  refine aN (8*k-(i+1)) _ _ (by omega) ⟨i+1,4,some (c',0),rfl,by omega,by omega,(hf.kp h2).kp (Kp.set mh _),?_,.inl rfl,?_,λo e=>by cases e;omega⟩
  .rw[kX (ef.1 mh).1]
   rfl
  .refine⟨tC h1.1 (aQ _) _,.inr ⟨c',rfl,by omega,?_⟩⟩
   rw[jv (by omega),c9,ZnM,ZvH];rfl
 .rw[aF (show ¬(i:Int)<((8*k:Nat):Int) by omega),af,Zd]
  have:i=8*k:=by omega
  subst this;refine .mk ⟨st.length,s,rfl,ho.1,?_⟩;rw[hk];exact⟨false,z,c,by rw[Dq];exact hd,hz,ho.sl⟩
def Zo4 (n d:Nat) (ws:al) (st:St) (hd:vT st d ws) (hl:ws.length<1000000):run Bd (n+1) 335 [.ptr (some (d,0))] st=some (.val [.int .i64 ((ws.length/8:Nat):Int)],st):=by
 obtain⟨f,z,c,h1,h2,h3⟩:=hd;rw[Ze,h.agm];unfold Qq jh Li;simp only[eH,aq,bd];rw[Zo (d:= .slice z c ws.length) h1 rfl,Z2 4 z c _ h2,Zd];have:ar (Int.tdiv ((ws.length:Nat):Int) 8)=((ws.length/8:Nat):Int):=by
  rw[Int.tdiv_eq_ediv_of_nonneg (by omega)];exact(Zc).trans (by omega)
 rw[this]
def ZrR (n d:Nat) (ws:al) (x y:Int) (st:St) (hd:vT st d ws):run Bd (n+1) 336 [.ptr (some (d,0)),.int .i64 x,.int .i64 y] st=some (.val [.int .i64 (bif decide (x<0)||decide (x>=y)then 2 else 0)],st):=by
 obtain⟨f,z,c,h1,h2,h3⟩:=hd;rw[Ze,h.agn];unfold Qf F5 qQ aA Li Lb;simp only[eH,av,aq,bd];rw[Zo (d:= .bool false) h1 rfl];simp only[tm,af,Za,au,aq];cases decide (x<0)with
 |true=>rfl
 |false=>
  rw[af,vP];cases decide (x>=y)<;>rfl
def ZqC (n d:Nat) (ws:al) (i w:Nat) (st:St) (hd:vT st d ws) (hi:ws[i]? =some w):run Bd (n+2) 333 [.ptr (some (d,0)),.int .i64 i] st=some (.val [.int .u64 w,.int .i64 0],st):=by
 have aw:i<ws.length:=by grind
 have hm:=ZrR n d ws i ws.length st hd;obtain⟨f,z,c,h1,h2,h3⟩:=hd;rw[Ze,h.agk];unfold Qr pO cw N_ ZC;simp only[eH,av,aq,bd];rw[Zo (d:= .slice z c ws.length) h1 rfl,Z2 4 z c _ h2];rw[Zk hm];rw[aF (show ¬(i:Int)<0 by omega),aF (show ¬(i:Int)>=(ws.length:Int) by omega)];simp only[Bool.or_false,af,av,aq];show bD d 0 _ st=_;rw[Zo (d:= .slice z c ws.length) h1 rfl,Z2 4 z c _ h2];obtain⟨i1,o1,rfl⟩:=h3.cH (by rw[Tx];omega);rw[bd,Zb (Zj aw),bp,show i*4+o1+1=(i*4+1)+o1 by omega,h3.get (ZoB hi)];rfl
def ZsM (n d:Nat) (ws:al) (x:Int) (st:St) (hd:vT st d ws) (hl:ws.length<1000000):run Bd (n+2) 331 [.ptr (some (d,0)),.int .i64 x] st=some (.val [.int .i64 (bif decide (x<0)||decide (x>=((ws.length/8:Nat):Int))then 2 else 0)],st):=by
 rw[Ze,h.agi];unfold TC pO aA cw Li Lb Lp;simp only[eH,av,aq,Za,Option.isNone_some,af,au];cases decide (x<0)with
 |true=>rfl
 |false=>
  rw[af,vP,Zk (Zo4 n d ws st hd hl)];simp only[av,aq];cases decide (x>=((ws.length/8:Nat):Int))<;>rfl
def TV (v i:Nat):db v (i+1)=db v i++[UInt8.ofNat (v/256^i)]:=by rw[UQ];rfl
def Zzy (w:Nat):IntKind.wrap .u8 (w:Int)=((UInt8.ofNat w).toNat:Int):=by
 rfl
def ZsS {z d:DV} (h:A.length=i) (hi:i<n):(A++List.replicate (n-i) z).set i d=(A++[d])++List.replicate (n-(i+1)) z:=by
 rw[List.set_append_right _ _ (by omega),h,Bi,show n-i=(n-(i+1))+1 by omega,List.replicate_succ,List.set_cons_zero,fI];rfl
def ZtO (n v:Nat) (st:St) (hn:12<=n):
  Ok (λo=>∃p s',o=(.val [.slice 1 p 8],s')/\aB st s'/\mJ s' p (db v 8)) (run Bd n 337 [.int .u64 v,.int .i64 8] st):=by
 obtain⟨n,rfl⟩: ∃m,n=m+1:=⟨n-1,by omega⟩;rw[Ze,h.ago];unfold TD BE aA Q_ zT lF aZ ZC Lb;simp only[av,au,aq,ZL,Za];rw[show decide ((8:Int)<0)=false from rfl,show decide ((8:Int)>8)=false from rfl,af,af,Zb (by decide),Zz];have h8:(8:Int).toNat=8:=rfl;rw[h8,show gY 8 [DV.int .u8 0]=List.replicate 8 (DV.int .u8 0)from rfl];refine Zi _ (λq y s=>∃i:Nat,y=[.int .u64 ((v/256^i:Nat):Int),.int .i64 i]/\i<=8/\8-i<=q/\s=st++[some ⟨false,bU (db v i)++List.replicate (8-i) (.int .u8 0)⟩]) ?_ 8 n _ _ ⟨0,by simp,by omega,by omega,by simp[bU,db]⟩ (by omega);rintro q _ s ⟨i,rfl,hi,hq,rfl⟩ rec aN;simp only[av,aq];have ig:(bU (db v i)).length=i:=by rw[Zu,ZA]
 by_cases aw:i<8
 .rw[ax (show(i:Int)<((8:Nat):Int) by omega),ae,Zb (Zj aw),bp,cR,Zrj _ (by rw[bB,ig,oF];omega),ZsS ig aw,Zc,show((2:Int)^8)=((256:Nat):Int) by decide,tz]
  refine aN (8-(i+1)) _ _ (by omega) ⟨i+1,by rw[E8,<-uw];rfl,by omega,by omega,?_⟩;rw[TV,IB,Zzy];rfl
 .rw[aF (show ¬(i:Int)<((8:Nat):Int) by omega),af,Zp]
  have:i=8:=by omega
  subst this;have Eo:=aB.new st (some (⟨false,bU (db v 8)++List.replicate (8-8) (.int .u8 0)⟩:bO));have gq:bm st (st++[some (⟨false,bU (db v 8)++List.replicate (8-8) (.int .u8 0)⟩:bO)]) (some (st.length,0)) (bU (db v 8)):=⟨Eo,(by simp)⟩;exact .mk ⟨_,_,rfl,Zr Eo,gq.fz⟩
def vE (W:al):aj:=(W.map λw=>db w 8).flatten
def Zq4: ∀(W:al),(vE W).length=8*W.length
 |[]=>rfl
 |w::r=>by
  have:=Zq4 r;unfold vE at this⊢;rw[oG,C6,bB,this,ZA,cO];omega
def Zw2 (V W:al):vE (V++W)=vE V++vE W:=by simp[vE]
def ZoU (n:Nat) (a:ai) (W:al) (st:St) (ha:Sl st a (Zv W)) (hl:W.length<1000000) (hn:W.length+20<=n):
  Ok (λo=>∃p s',o=(.val [.slice 1 p (8*W.length)],s')/\aB st s'/\mJ s' p (vE W)) (run Bd n 332 [.slice 1 a W.length] st):=by
 obtain⟨n,rfl⟩: ∃m,n=m+1:=⟨n-1,by omega⟩;rw[Ze,h.agj];unfold Rh bV fB kb wb iL aZ ZC dY iw;simp only[aX,aq,ZL,Za];refine Zi _ (λq y s=>∃(i z:Nat) (p:ai),y=[.slice z p (8*i),.int .i64 i]/\(z=1\/p=none)/\i<=W.length/\W.length-i<=q/\bm st s p (bU (vE (W.take i)))) ?_ W.length n _ _ ⟨0,0,none,rfl,.inr rfl,cz _,by omega,bm.nil (.refl st)⟩ (by omega);rintro q _ s ⟨i,z,p,rfl,hz,hi,hq,ho⟩ rec aN;simp only[Zg 1 z p _ hz,av,aq];by_cases aw:i<W.length
 .obtain⟨i1,o1,rfl⟩:=ha.cH (by rw[Bs];omega)
  have GG:(Zv W)[i]? =some (.int .u64 (W[i]:Nat)):=by grind[Zv]
  rw[ax (show(i:Int)<(W.length:Int) by omega),ae,bd,Zb (Zj aw),bp,(ha.mono ho.1).dJ GG];simp only[bg];refine Ok.call (ZtO n W[i] s (by omega)) ?_;rintro _ ⟨p',s1,rfl,aH,hf⟩;refine⟨_,s1,rfl,?_⟩;simp only[aX,aq];have hl8:(bU (db W[i] 8)).length=8*1:=by rw[Zu,ZA]
  have lO:=iR (β:=ah) hf.sr;rw[hl8]at lO;rw[lO];obtain⟨p2,s2,h1,h2⟩:=(ho.mono aH).app (β:=ah) (sz:=1) (n:=8*i) (m:=8) (lim:=70368744177664) (ds:=bU (db W[i] 8)) (by omega) (by rw[Zu,Zq4,cX];omega) (by omega) (by omega);rw[h2,Zc];refine aN (W.length-(i+1)) _ _ (by omega) ⟨i+1,1,p2,rfl,.inl rfl,by omega,by omega,?_⟩;rw[Ln,cq aw,Zw2,IB];rw[show vE (some W[i]).toList=db W[i] 8 by simp[vE]];exact h1
 .rw[aF (show ¬(i:Int)<(W.length:Int) by omega),af,Zp]
  have:i=W.length:=by omega
  subst this;rw[rR]at ho;exact .mk ⟨p,_,rfl,Zr ho.1,ho.fz⟩
def Zv6: ∀(l:aj) (k:Nat),8*k<=l.length->((List.range k).map λi=>(l.drop (8*i)).take 8).flatten=l.take (8*k)
 |l,0,_=>by simp
 |l,k+1,h=>by
  rw[qw,fA,Hw,Zv6 l k (by omega),show 8*(k+1)=8*k+8 by omega,nb];simp
def Zuj (h:8*k<=l.length):vE (kC l k)=l.take (8*k):=by
 rw[<-Zv6 l k h];unfold vE kC;rw[Bf];congr 1;refine Lg λi hi=>?_
 rw[uu]at hi;have:((l.drop (8*i)).take 8).length=8:=by rw[cX,fa];omega
 show db (ez ((l.drop (8*i)).take 8)) 8=_;have h2:=MS ((l.drop (8*i)).take 8);rwa [this]at h2
def pD (l:aj) (k:Nat):aj:=(l.drop (64*k)).take 64
def ZrT (n d:Nat) (l:aj) (at':Nat) (st:St) (hd:vT st d (kC l (8*(l.length/64)))) (hl:l.length<262144) (hat:at'<1000000) (hn:100<=n):
  Ok (λo=>∃s',aB st s'/\if at'<l.length/64 then ∃p,o=(.val [.slice 1 p 64,.int .i64 0],s')/\mJ s' p (pD l at')else o=(.val [.slice 0 none 0,.int .i64 2],s')) (run Bd n 329 [.ptr (some (d,0)),.int .i64 at'] st):=by
 obtain⟨n,rfl⟩: ∃m,n=m+3:=⟨n-3,by omega⟩;have hm:=ZsM n d _ at' st hd (by rw[Dq];omega);rw[Ze,h.agf];unfold SG pO cw Q_ iL cM BE ix iw aZ dY kZ Li;simp only[eH,av,aq];rw[Zk hm,Dq,Nat.mul_div_cancel_left _ (by omega),aF (show ¬(at':Int)<0 by omega),vP];simp only[av,aq];by_cases aw:at'<l.length/64
 .rw[aF (show ¬(at':Int)>=((l.length/64:Nat):Int) by omega),af,show(!((0:Int)==0))=false from rfl,af,Zz]
  simp only[bE aw,Za];have nx:([.int .u64 0,.int .u64 0,.int .u64 0,.int .u64 0,.int .u64 0,.int .u64 0,.int .u64 0,.int .u64 0]:ah)=List.replicate 8 (.int .u64 0):=rfl;rw[nx];obtain⟨W,hW⟩: ∃W,kC (pD l at') 8=W:=⟨_,rfl⟩;have Gw:W.length=8:=by rw[<-hW,Dq]
  have da: ∀i,i<8->(kC l (8*(l.length/64)))[at'*8+i]? =W[i]? :=λi hi=>by
   rw[<-hW,Ue (by omega),Ue hi];grind[pD,C5,C7,kV]
  refine Zi _ (λq y s=>∃i:Nat,y=[.int .i64 i]/\i<=8/\8-i<=q/\s=st++[some ⟨false,Zv (W.take i)++List.replicate (8-i) (.int .u64 0)⟩]) ?_ 8 (n+2) _ _ ⟨0,rfl,by omega,by omega,by simp[Zv]⟩ (by omega);rintro q _ s ⟨i,rfl,hi,hq,rfl⟩ rec aN;simp only[av,aq];have ox:(Zv (W.take i)).length=i:=by rw[Bs,cX];omega
  by_cases Xv:i<8
  .have WU:W[i]? =some (W[i]'(by omega)):=cq _
   generalize W[i]'(by omega)=w at WU;have XF:=ZqC n d _ (at'*8+i) w _ (hd.mono (aB.new st (some (⟨false,Zv (W.take i)++List.replicate (8-i) (.int .u64 0)⟩:bO)))) (by rw[da i Xv];exact WU);have e1:ar (ar ((at':Int)*8)+(i:Int))=((at'*8+i:Nat):Int):=by
    have:ar ((at':Int)*8)=((at'*8:Nat):Int):=by
     rw[show(at':Int)*8=((at'*8:Nat):Int) by omega];exact Zc
    rw[this,<-C3];exact Zc
   rw[ax (show(i:Int)<8 by omega),ae,e1,Zk XF];simp only[av,aq];rw[show(!((0:Int)==0))=false from rfl,af,Zb (Zj Xv),bp,cR,gV,Zrj _ (by rw[bB,ox,oF];omega),ZsS ox Xv,Zc];refine aN (8-(i+1)) _ _ (by omega) ⟨i+1,rfl,by omega,by omega,?_⟩;rw[Ln,WU,ZoF];rfl
  .have:i=8:=by omega
   subst this;rw[aF (show ¬((8:Nat):Int)<8 by omega),af];have ht:W.take 8=W:=by grind
   rw[ht];have Eo:=aB.new st (some (⟨false,Zv W++List.replicate (8-8) (.int .u64 0)⟩:bO));have JH:(st++[some (⟨false,Zv W++List.replicate (8-8) (.int .u64 0)⟩:bO)])[st.length]? =some (some ⟨false,Zv W⟩):=by simp
   generalize (st++[some (⟨false,Zv W++List.replicate (8-8) (.int .u64 0)⟩:bO)])=s1 at Eo JH;have Yf:(Zv W).length=8:=by rw[Bs];exact Gw
   rw[jL JH (by omega)];have dA:Sl s1 (some (st.length,0)) (Zv W):=⟨false,_,JH,by omega,by rw[dK,dG (by omega)]⟩;have ho:=ZoU (n+2) (some (st.length,0)) W s1 dA (by omega) (by omega);rw[Gw]at ho;refine Ok.call ho ?_;rintro _ ⟨p,s2,rfl,aU,hf⟩;refine⟨_,s2,rfl,?_⟩;simp only[aX,aq,Zd];refine .mk ⟨s2,Eo.trans aU,p,rfl,?_⟩;have gp:(pD l at').length=64:=by unfold pD;rw[cX,fa];omega
   rw[<-hW,Zuj (by omega),dG (by omega)]at hf;exact hf
 .rw[ax (show(at':Int)>=((l.length/64:Nat):Int) by omega),ae,show(!((2:Int)==0))=true from rfl,ae,Zd]
  simp only[bj aw];exact .mk ⟨st,.refl st,rfl⟩
def jC (t:aj) (n:Nat):cy where
 seq:=bN t 0 8
 blocks:=bN t 8 4
 de:=bN t 12 4
 g:=bN t 16 4
 cc:=bN t 28 2
 used:=bN t 20 4
 free:=bN t 24 4
 dir:=bN t 30 2
 aJ:=(List.range n).map λj=>bN t (32+2*j) 2
def mS (l:aj):Option cy:=match fM l with
 |none=>none
 |some (k,n,t)=>bif decide (k=7)&&decide (n<=8)then(bif ZU (jC t n)&&ZE (t.drop (32+2*n))then some (jC t n)else none)else none
structure Gs (t:List UInt8) (S R:Nat) (st s:St) (cs:List DV) (k:Nat):Prop where
 pre:aB st s
 le:st.length<=S/\st.length<=R/\S≠R
 cl:s[S]? =some (some ⟨false,cs⟩)
 rd: ∃y,s[R]? =some (some ⟨false,[.slice 1 y (56-k)]⟩)/\mJ s y (t.drop k)
def ID (n:Nat) (g:Gs t S R st s cs k) (j:Nat) (x:Int) (hx:x=(j:Int)) (ht:t.length=56) (hj:j<=8:=by omega) (hk:k+j<=56:=by omega) (hn:20<=n:=by omega):
  ∃s',run Bd n 334 [.ptr (some (R,0)),.int .i64 x] s=some (.val [.int .i64 (bN t k j)],s')/\Gs t S R st s' cs (k+j)/\Kp s s'/\s'.length=s.length/\∀b,b≠R->s'[b]? =s[b]? :=by
 subst hx;obtain⟨n,rfl⟩: ∃m,n=m+1:=⟨n-1,by omega⟩;obtain⟨y,hr,hf⟩:=g.rd;have jy:(t.drop k).length=56-k:=by rw[fa,ht]
 refine⟨s.set R (some ⟨false,[.slice 1 (cU true y j) (56-k-j)]⟩),?_,⟨tC g.pre g.le.2.1 _,g.le,?_,cU true y j,?_,?_⟩,Kp.set hr _,nR,by grind⟩
 .rw[Ze,h.agl]
  unfold Qn pO uP aZ Li;simp only[eH,av,aq,bd];rw[Zo (d:= .slice 1 y (56-k)) hr rfl];simp only[j9];rw[Zb (by rw[aY,bu,bu];omega),bp];have ue:((t.drop k).take j).length=j:=by rw[cX];omega
  have lO:=xz n y ((t.drop k).take j) s (hf.sr.lA j);rw[ue]at lO;rw[Zk lO];simp only[av,aq];rw[Zo (d:= .slice 1 y (56-k)) hr rfl];simp only[j9];rw[Zb (by rw[aY,bu,bu];omega),cR,qD hr (by show 0<1;omega)];rfl
 .rw[jv (λe=>g.le.2.2 e.symm)];exact g.cl
 .rw[kX (ef.1 hr).1,show 56-(k+j)=56-k-j by omega]
 .have:=(hf.kp (Kp.set hr (some ⟨false,[.slice 1 (cU true y j) (56-k-j)]⟩))).cU (k:=j) (by omega)
  rwa [kV]at this
def Gs.store (g:Gs t S R st s cs k) (j:Nat) (d:DV) (hj:j<cs.length):
  ∃s',(∀K:M β,dI S j [d] K s=K s')/\Gs t S R st s' (cs.set j d) k/\Kp s s'/\s'.length=s.length/\∀b,b≠S->s'[b]? =s[b]? :=by
 obtain⟨y,hr,hf⟩:=g.rd;refine⟨s.set S (some ⟨false,cs.set j d⟩),λK=>qD g.cl hj K,⟨tC g.pre g.le.1 _,g.le,kX (ef.1 g.cl).1,y,?_,hf.kp (Kp.set g.cl _)⟩,Kp.set g.cl _,nR,by grind⟩;rw[jv g.le.2.2];exact hr
def Hs (z:Nat):ah:=[.int .i64 0,.int .i64 0,.int .i64 0,.int .i64 0,.int .i64 0,.int .i64 0,.int .i64 0,.int .i64 0,.slice z none 0]
def qK:ah:=Hs 0
def tq (st:St) (r:Option cy) (o:Out ah×St):Prop:=∃s',aB st s'/\match r with
 |none=>∃z,o=(.val [.agg (Hs z),.bool false],s')
 |some x=>∃p,o=(.val [.agg (dj x p),.bool true],s')/\Sl s' p (ints x.aJ)
def Gs.but (g:Gs t S R st s cs k) (hp:aB st s') (hk:Kp s s') (hb:rU cp s s') (h1: ∀o,cp≠some (S,o)) (h2: ∀o,cp≠some (R,o)):Gs t S R st s' cs k:=by
 obtain⟨y,hr,hf⟩:=g.rd;exact⟨hp,g.le,hb S _ g.cl h1,y,hb R _ hr h2,hf.kp hk⟩
def wj (i:Nat):Nat:=[1,2,3,5,6].getD i 0
def PC (t:aj) (i:Nat):ah:=[.int .i64 (bN t 0 8),.int .i64 (bif Nat.blt 0 i then bN t 8 4 else 0),.int .i64 (bif Nat.blt 1 i then bN t 12 4 else 0),.int .i64 (bif Nat.blt 2 i then bN t 16 4 else 0),.int .i64 0,.int .i64 (bif Nat.blt 3 i then bN t 20 4 else 0),.int .i64 (bif Nat.blt 4 i then bN t 24 4 else 0),.int .i64 0,.slice 0 none 0]
def Zww (t:aj) (S:Nat) (h:i<5):(PC t i).set (wj i) (.int .i64 (bN t (8+4*i) 4))=PC t (i+1)/\wj i<9/\([.ptr (some (S,1)),.ptr (some (S,2)),.ptr (some (S,3)),.ptr (some (S,5)),.ptr (some (S,6))]:ah)[i*1]? =some (.ptr (some (S,wj i))):=by
 match i,h with
 |0,_=>exact⟨rfl,by decide,rfl⟩
 |1,_=>exact⟨rfl,by decide,rfl⟩
 |2,_=>exact⟨rfl,by decide,rfl⟩
 |3,_=>exact⟨rfl,by decide,rfl⟩
 |4,_=>exact⟨rfl,by decide,rfl⟩
def CU (t:aj) (z:Nat) (c:ai) (n:Nat):ah:=[.int .i64 (bN t 0 8),.int .i64 (bN t 8 4),.int .i64 (bN t 12 4),.int .i64 (bN t 16 4),.int .i64 (bN t 28 2),.int .i64 (bN t 20 4),.int .i64 (bN t 24 4),.int .i64 (bN t 30 2),.slice z c n]
def zW (t:aj) (n:Nat):ak:=(List.range n).map λj=>bN t (32+2*j) 2
def If (t:aj) (n:Nat):(zW t n).length=n:=by simp[zW]
def ZmO (t:aj) (n:Nat):zW t (n+1)=zW t n++[bN t (32+2*n) 2]:=by
 simp[zW,qw,fA]
def Zru (l:ak):(ints l).length=l.length:=by simp[ints]
def ZqG (l m:ak):ints (l++m)=ints l++ints m:=by simp[ints]
def Zzx {α:Type} {m:M α} {ds:α} (h:m s=some (.val ds,s')) (hk:s'[i]? =s[i]?):I5 i m s=some (.val ds,s'):=by
 grind[I5]
def ZsW (n:Nat) (a:ai) (l:aj) (st:St) (ha:dc st a l) (hl:l.length<1000000) (hn:200<=n):
  Ok (tq st (mS l)) (run Bd n 330 [.slice 1 a l.length] st):=by
 obtain⟨n,rfl⟩: ∃m,n=m+1:=⟨n-1,by omega⟩;obtain⟨r,hr⟩: ∃r,mS l=r:=⟨_,rfl⟩;rw[hr];rw[Ze,h.agh];unfold SU bV sf aA cw Q_ Z6 bq cM lW aZ vY ix Li ZZ Bp Lb Z7;simp only[aX,aq,ZL];refine Ok.call (Dp n a l st ha hl) ?_;rintro o ⟨s0,ou,hm⟩;have no: ∀s',aB st s'->r=none->Ok (tq st r) (some (Out.val [.agg qK,.bool false],Z1 st.length s')):=λs' hp e=>by
  rw[e];exact .mk ⟨_,Zr hp,0,rfl⟩
 cases eC:fM l with
 |none=>
  rw[eC]at hm;simp only at hm;subst hm;refine⟨_,s0,rfl,?_⟩;simp only[av,Zg 1 0 none _ (.inr rfl),au,aq,Za,bn,ae,Zp];exact no s0 ou (by rw[<-hr];unfold mS;rw[eC])
 |some q=>
  obtain⟨k,c,t⟩:=q;rw[eC]at hm;simp only at hm;obtain⟨p,rfl,hf,ht,hk,hc⟩:=hm;refine⟨_,s0,rfl,?_⟩;simp only[av,aX,au,aq,br,af];refine Ok.join λaz h1=>?_
  have A1: ∀b,(!decide (k=7))=b->Ok (tq st r) (az [.bool b] s0):=by
   intro b1 e1;rw[h1];simp only[au,aq];refine Ok.join λaI h2=>?_
   have A2: ∀b,(b1|| !decide (c<=8))=b->Ok (tq st r) (aI [.bool b] s0):=by
    intro b2 e2;rw[h2];simp only[au,aq];cases b2 with
    |true=>
     rw[ae,Zp];refine no s0 ou ?_;rw[<-hr];unfold mS;rw[eC];grind
    |false=>
     have hkc:k=7/\c<=8:=by
      rw[<-e1,C2,Bool.not_eq_false',Bool.not_eq_false',bu,bu]at e2;exact e2
     have ik:r=bif ZU (jC t c)&&ZE (t.drop (32+2*c))then some (jC t c)else none:=by
      rw[<-hr];unfold mS;rw[eC];grind
     rw[af,Zz,Zz];rw[show([.int .i64 0,.int .i64 0,.int .i64 0,.int .i64 0,.int .i64 0,.int .i64 0,.int .i64 0,.int .i64 0,.slice 0 none 0]:ah)=qK from rfl];obtain⟨hk7,Jz⟩:=hkc;have aU:aB s0 (s0++[some (⟨false,qK⟩:bO)]++[some (⟨false,[.slice 0 none 0]⟩:bO)]):=(aB.new _ _).trans (.new _ _);have hS:(s0++[some (⟨false,qK⟩:bO)]++[some (⟨false,[.slice 0 none 0]⟩:bO)])[s0.length]? =some (some ⟨false,qK⟩):=by
      rw[fI,lE (aQ _),Bi];rfl
     have hR:(s0++[some (⟨false,qK⟩:bO)]++[some (⟨false,[.slice 0 none 0]⟩:bO)])[(s0++[some (⟨false,qK⟩:bO)]).length]? =some (some ⟨false,[.slice 0 none 0]⟩):=by
      rw[lE (aQ _),Bi];rfl
     have N1:s0.length≠(s0++[some (⟨false,qK⟩:bO)]).length:=by rw[bB];grind
     have aa4:s0.length<=(s0++[some (⟨false,qK⟩:bO)]).length:=(aB.new _ _).len;change Ok (tq st r) (dI (s0++[some (⟨false,qK⟩:bO)]).length 0 [.slice 1 p 56] _ (s0++[some (⟨false,qK⟩:bO)]++[some (⟨false,[.slice 0 none 0]⟩:bO)]));generalize (s0++[some (⟨false,qK⟩:bO)]++[some (⟨false,[.slice 0 none 0]⟩:bO)])=s2 at aU hS hR;generalize (s0++[some (⟨false,qK⟩:bO)]).length=R at hR N1 aa4;obtain⟨S,Gt⟩: ∃S,s0.length=S:=⟨_,rfl⟩;rw[Gt]at hS N1 aa4;have vu:=ou.len;rw[qD hR (by show 0<1;omega)];have g0:Gs t S R st (s2.set R (some ⟨false,[.slice 1 p 56]⟩)) qK 0:=by
      refine⟨tC (ou.trans aU) (by omega) _,⟨by omega,by omega,N1⟩,?_,p,?_,?_⟩
      .rw[jv (λe=>N1 e.symm)];exact hS
      .grind
      .rw[dK];exact(hf.pre aU).kp (Kp.set hR _)
     change Ok (tq st r) (cQ _ _ (s2.set R (some ⟨false,[.slice 1 p 56]⟩)));generalize (s2.set R (some ⟨false,[.slice 1 p 56]⟩))=s3 at g0;obtain⟨s4,e4,g4,_⟩:=ID n g0 8 8 rfl ht;rw[Zk e4];simp only[av,aq];rw[Gt];obtain⟨s5,e5,g5,_⟩:=g4.store (β:=ah) 0 (.int .i64 (bN t 0 8)) (by show 0<9;omega);rw[e5];have g6:Gs t S R st s5 (PC t 0) 8:=g5;refine Ok.join λaW h3=>?_
     refine Zi _ (λq y s=>∃i:Nat,y=[.int .i64 i]/\i<=5/\5-i<=q/\Gs t S R st s (PC t i) (8+4*i)) ?_ 5 n _ _ ⟨0,rfl,by omega,by omega,g6⟩ (by omega);rintro q _ s ⟨i,rfl,hi,hq,g⟩ rec aN;simp only[av,aq];by_cases aw:i<5
     .obtain⟨w1,w2,w3⟩:=Zww t S aw
      rw[ax (show(i:Int)<5 by omega),ae,Zb (Zj aw),bp,hJ w3,Lv];obtain⟨s',e',g',_⟩:=ID n g 4 4 rfl ht;rw[Zk e'];simp only[av,aq,bd];obtain⟨qk,e'',NP,_⟩:=g'.store (β:=ah) (wj i) (.int .i64 (bN t (8+4*i) 4)) w2;rw[e'',Zc];rw[w1,show 8+4*i+4=8+4*(i+1) by omega]at NP;exact aN (5-(i+1)) _ _ (by omega) ⟨i+1,rfl,by omega,by omega,NP⟩
     .rw[aF (show ¬(i:Int)<5 by omega),af,h3]
      have:i=5:=by omega
      subst this;simp only[aq];obtain⟨s7,e7,g7,_⟩:=ID n g 2 2 rfl ht;rw[Zk e7];simp only[av,aq];obtain⟨s8,e8,g8,_⟩:=ID n g7 2 2 rfl ht;rw[Zk e8];simp only[av,aq];obtain⟨s9,e9,g9,_⟩:=g8.store (β:=ah) 4 (.int .i64 (bN t 28 2)) (by show 4<9;omega);rw[e9];obtain⟨CT,Jl,g10,_⟩:=g9.store (β:=ah) 7 (.int .i64 (bN t 30 2)) (by show 7<9;omega);rw[Jl];have g11:Gs t S R st CT (CU t 0 none 0) 32:=g10;refine Ok.join λbz h4=>?_
      refine Zi _ (λq y s=>∃(i z:Nat) (cp:ai),y=[.int .i64 i]/\i<=c/\c-i<=q/\Gs t S R st s (CU t z cp i) (32+2*i)/\(z=1\/cp=none)/\bm st s cp (ints (zW t i))/\(∀o,cp≠some (S,o))/\∀o,cp≠some (R,o)) ?_ c n _ _ ⟨0,0,none,rfl,by omega,by omega,g11,.inr rfl,bm.nil g11.pre,λo e=>(by cases e),λo e=>(by cases e)⟩ (by omega);clear aN g g4 g5 g6 g7 g8 g9 g10 g11 e4 e5 e7 e8 e9 Jl;rintro q _ s ⟨i,z,cp,rfl,hi,hq,g,hz,ho,hnS,hnR⟩ rec aN;simp only[av,aq];by_cases aw:i<c
      .rw[ax (by omega),ae,Zo (d:= .slice z cp i) g.cl rfl,Z2 1 z cp i hz]
       obtain⟨s',e',g',k',l',o'⟩:=ID n g 2 2 rfl ht;rw[vZ (Zzx e' (o' S g.le.2.2))];simp only[av,aq];have ub:bm st s' cp (ints (zW t i)):=by
        refine⟨g'.pre,ho.2.imp id λ⟨j,e1,e2,e3⟩=>⟨j,e1,e2,?_⟩⟩;rw[o' j (λe=>hnR 0 (by rw[e1,e]))];exact e3
       obtain⟨b,qk,h0,i1,i2,i3,i4⟩:=ub.Po (β:=ah) (sz:=1) (n:=i) (lim:=8796093022208) [.int .i64 (bN t (32+2*i) 2)] (by omega) (by rw[Zru,If,cR]) rfl (by omega);rw[i4];have NP:=g'.but i1.1 i2 i3 hnS hnR;obtain⟨Pu,e3',g3',k3',l3',o3'⟩:=NP.store (β:=ah) 8 (.slice 1 (some (b,0)) (i+1)) (by show 8<9;omega);rw[e3',Zc];have hbS:b≠S:=by have:=(ef.1 g'.cl).1;omega
       have hbR:b≠R:=by
        obtain⟨y,kM,_⟩:=g'.rd;have:=(ef.1 kM).1;omega
       refine aN (c-(i+1)) _ _ (by omega) ⟨i+1,1,some (b,0),rfl,by omega,by omega,by rw[show 32+2*(i+1)=32+2*i+2 by omega];exact g3',.inl rfl,?_,λo e=>(by cases e;exact hbS rfl),λo e=>(by cases e;exact hbR rfl)⟩;rcases i1.2 with⟨e,_⟩|⟨j,e,e2,e3⟩
       .cases e
       .cases e
        exact⟨g3'.pre,.inr ⟨b,rfl,e2,by rw[o3' b hbS,e3,ZmO,ZqG];rfl⟩⟩
      .rw[aF (by omega),af,h4]
       have:i=c:=by omega
       subst this;simp only[aq];rw[jL g.cl (by show 0+9<=9;omega)];have p9:(List.drop 0 (CU t z cp i)).take 9=CU t z cp i:=rfl;rw[p9];unfold CU;simp only[av,Zg 1 z cp _ hz,aq];have yH:(jC t i).aJ.length=i:=If t i;have hRt:=ZkI n (jC t i) cp s ho.sl (by rw[yH];omega) (by rw[yH];omega);have cI:([.int .i64 (bN t 0 8),.int .i64 (bN t 8 4),.int .i64 (bN t 12 4),.int .i64 (bN t 16 4),.int .i64 (bN t 28 2),.int .i64 (bN t 20 4),.int .i64 (bN t 24 4),.int .i64 (bN t 30 2),.slice 1 cp i]:ah)=dj (jC t i) cp:=by
        unfold dj;rw[yH];rfl
       rw[cI,Zk hRt];simp only[au,aq];have ij:=aB.new s (some (⟨false,dj (jC t i) cp⟩:bO));generalize (s++[some (⟨false,dj (jC t i) cp⟩:bO)])=sN at ij;have gcl:=ij.get g.cl;obtain⟨y,kM,hfy⟩:=g.rd;have gr':=ij.get kM;refine Ok.join λck h5=>?_
       have A5: ∀b,(!(ZU (jC t i)&&ZE (t.drop (32+2*i))))=b->Ok (tq st r) (ck [.bool b] sN):=by
        intro b e;rw[h5];simp only[au,aq];cases b with
        |true=>
         rw[ae,Zp];refine no sN (g.pre.trans ij) ?_;rw[ik];rw[lD]at e;rw[e,af]
        |false=>
         rw[Bool.not_eq_false']at e;rw[e,ae]at ik;rw[af,jL gcl (by show 0+9<=9;omega),p9];unfold CU;simp only[av,Zg 1 z cp _ hz,aq,Zp];rw[cI,ik];exact .mk ⟨_,Zr (g.pre.trans ij),cp,rfl,(ho.sl.mono ij).dQ _⟩
       cases pB:ZU (jC t i)with
       |false=>
        rw[bn,ae];exact A5 true (by rw[pB];rfl)
       |true=>
        rw[br,af,Zo (d:= .slice 1 y (56-(32+2*i))) gr' rfl];simp only[j9];rw[Zo (d:= .slice 1 y (56-(32+2*i))) gr' rfl];simp only[j9];have jy:(t.drop (32+2*i)).length=56-(32+2*i):=by rw[fa,ht]
        have cA:=Dm n y (t.drop (32+2*i)) 0 (56-(32+2*i)) sN (hfy.sr.mono ij);rw[jy]at cA;rw[show(0:Int)=((0:Nat):Int)from rfl,Zk cA];simp only[au,aq];refine A5 _ ?_;rw[pB,dF,dK,dG (by omega)]
   grind
  grind
def ly (img:aj) (k:Nat):Option cy:=bif decide (k<img.length/64)then mS (pD img k)else none
def xj:Option cy->Option cy->Option cy
 |b,none=>b
 |none,some y=>some y
 |some x,some y=>bif decide (y.seq>x.seq)then some y else some x
def vF (img:aj):Option cy:=xj (xj none (ly img 0)) (ly img 1)
def ada (x:cy) (p:ai) (l:ah) (K:ah->ah->M β):ba (.agg (dj x p)::l) K=K (dj x p) l:=rfl
def ZN (cs l:ah) (K:ah->ah->M β):ba (.agg cs::l) K=K cs l:=rfl
def Zs3 (n d:Nat) (l:aj) (k:Nat) (st:St) (hd:vT st d (kC l (8*(l.length/64)))) (hl:l.length<262144) (hk:k<2) (hn:300<=n):
  Ok (tq st (ly l k)) (run Bd n 327 [.ptr (some (d,0)),.int .i64 k] st):=by
 obtain⟨n,rfl⟩: ∃m,n=m+1:=⟨n-1,by omega⟩;obtain⟨r,hr⟩: ∃r,ly l k=r:=⟨_,rfl⟩;rw[hr];unfold ly at hr;rw[Ze,h.agd];unfold Ta pO aA oe zI vY ix aZ Bp Lb;simp only[eH,av,aq,Za];rw[aF (show ¬(k:Int)<0 by omega),af,aF (show ¬(k:Int)>=2 by omega)];simp only[au,aq,af];refine Ok.call (ZrT n d l k st hd hl (by omega) (by omega)) ?_;rintro o ⟨s1,aH,ho⟩;by_cases aw:k<l.length/64
 .rw[bE aw]at ho
  obtain⟨p,rfl,hf⟩:=ho;rw[ax aw,ae]at hr;refine⟨_,s1,rfl,?_⟩;simp only[aX,av,aq];rw[show(!((0:Int)==0))=false from rfl,af];have gp:(pD l k).length=64:=by grind[pD]
  have hg:=ZsW n p (pD l k) s1 hf.sr (by omega) (by omega);rw[gp,hr]at hg;refine Ok.call hg ?_;rintro o ⟨s2,aU,ho⟩;cases r with
  |none=>
   obtain⟨z,rfl⟩:=ho;refine⟨_,s2,rfl,?_⟩;rw[ZN];unfold Hs;simp only[av,Zg 1 z none _ (.inr rfl),au,aq,Zd];exact .mk ⟨s2,aH.trans aU,1,rfl⟩
  |some x=>
   simp only at ho;obtain⟨q,rfl,hq⟩:=ho;refine⟨_,s2,rfl,?_⟩;rw[ada];unfold dj;simp only[av,aX,au,aq,Zd];exact .mk ⟨s2,aH.trans aU,q,rfl,hq⟩
 .rw[bj aw]at ho
  subst ho;rw[aF aw,af]at hr;refine⟨_,s1,rfl,?_⟩;simp only[Zg 1 0 none _ (.inr rfl),av,aq];rw[show(!((2:Int)==0))=true from rfl,ae,Zd,<-hr];exact .mk ⟨s1,aH,0,rfl⟩
def pQ (s:St) (r:Option cy) (cs:ah) (b:Bool):Prop:=match r with
 |none=>(∃z,cs=Hs z)/\b=false
 |some x=>∃p,cs=dj x p/\b=true/\Sl s p (ints x.aJ)
def pQ.mono {s s':St} {r:Option cy} {cs:ah} {b:Bool} (h:pQ s r cs b) (k:aB s s'):pQ s' r cs b:=by
 cases r with
 |none=>exact h
 |some x=>obtain⟨p,h1,h2,h3⟩:=h;exact⟨p,h1,h2,h3.mono k⟩
def AQ (a1 a2 a3 a4 a5 a6 a7 a8:Int) (z:Nat) (p:ai) (n:Nat):ah:=[.int .i64 a1,.int .i64 a2,.int .i64 a3,.int .i64 a4,.int .i64 a5,.int .i64 a6,.int .i64 a7,.int .i64 a8,.slice z p n]
def pQ.nine {b:Bool} (h:pQ s r cs b): ∃a1 a2 a3 a4 a5 a6 a7 a8 z p n,cs=AQ a1 a2 a3 a4 a5 a6 a7 a8 z p n/\(z=1\/p=none)/\(∀x,r=some x->a1=x.seq)/\pQ s r (AQ a1 a2 a3 a4 a5 a6 a7 a8 1 p n) b:=by
 cases r with
 |none=>
  obtain⟨⟨z,rfl⟩,rfl⟩:=h;exact⟨0,0,0,0,0,0,0,0,z,none,0,rfl,.inr rfl,λx e=>(by cases e),⟨1,rfl⟩,rfl⟩
 |some x=>
  obtain⟨p,rfl,rfl,h3⟩:=h;exact⟨_,_,_,_,_,_,_,_,1,p,_,rfl,.inl rfl,λx e=>(by cases e;rfl),p,rfl,rfl,h3⟩
def tq.out {o:Out ah×St} (h:tq st r o): ∃s' cs b,o=(.val [.agg cs,.bool b],s')/\aB st s'/\pQ s' r cs b:=by
 obtain⟨s',hp,h⟩:=h;cases r with
 |none=>obtain⟨z,h⟩:=h;exact⟨s',_,_,h,hp,⟨z,rfl⟩,rfl⟩
 |some x=>obtain⟨p,h1,h2⟩:=h;exact⟨s',_,_,h1,hp,p,rfl,rfl,h2⟩
def pQ.b {s:St} {r:Option cy} {cs:ah} {b:Bool} (h:pQ s r cs b):b=r.isSome:=by
 cases r with
 |none=>exact h.2
 |some x=>obtain⟨p,_,h2,_⟩:=h;exact h2
def PY (st:St) (r:Option cy) (o:Out ah×St):Prop:=∃s' cs k b,o=(.val [.agg cs,.int .i64 k,.bool b],s')/\aB st s'/\pQ s' r cs b
def BX (l:aj):Nat->Option cy
 |0=>none
 |i+1=>xj (BX l i) (ly l i)
def ZsT (n d:Nat) (l:aj) (st:St) (hd:vT st d (kC l (8*(l.length/64)))) (hl:l.length<262144) (hn:400<=n):
  Ok (PY st (vF l)) (run Bd n 326 [.ptr (some (d,0))] st):=by
 obtain⟨n,rfl⟩: ∃m,n=m+4:=⟨n-4,by omega⟩;rw[Ze,h.agc];unfold TF jh QJ Z6 ZxC zI aA Bn ix Lb;simp only[eH,aq];refine Ok.join λaz h1=>?_
 refine Zi _ (λq y s=>∃(i:Nat) (cs:ah) (k:Int) (b:Bool),y=[.agg cs,.int .i64 k,.bool b,.int .i64 i]/\i<=2/\2-i<=q/\aB st s/\pQ s (BX l i) cs b) ?_ 2 (n+3) _ _ ⟨0,_,0,false,rfl,by omega,by omega,.refl st,⟨0,rfl⟩,rfl⟩ (by omega);rintro q _ s ⟨i,cs,k,b,rfl,hi,hq,hp,hm⟩ rec aN;obtain⟨a1,a2,a3,a4,a5,a6,a7,a8,z,p,m,rfl,hz,aip,mn⟩:=hm.nine;rw[ZN];unfold AQ;simp only[av,Zg 1 z p _ hz,au,aq];by_cases aw:i<2
 .rw[ax (show(i:Int)<2 by omega),ae]
  refine Ok.call (Zs3 (n+3) d l i s (hd.mono hp) hl aw (by omega)) ?_;intro o ho;obtain⟨s1,bM,b1,rfl,aH,fu⟩:=ho.out;refine⟨_,s1,rfl,?_⟩;obtain⟨c1,c2,c3,c4,c5,c6,c7,c8,z',p',m',rfl,CC,aiq,sI⟩:=fu.nine;rw[ZN];unfold AQ;simp only[av,Zg 1 z' p' _ CC,au,aq];have hw:ar ((i:Int)+1)=((i+1:Nat):Int):=Zc;refine Ok.join λaI h2=>?_
  have A2: ∀c r,xj (BX l i) (ly l i)=(bif c then ly l i else BX l i)->r=c->(c=true->b1=true)->Ok (PY st (vF l)) (aI [.bool r] s1):=by
   intro c r e er ht;subst er;rw[h2];simp only[au,aq,Za];cases r with
   |true=>
    rw[ae,ZN];simp only[av,aX,au,aq];rw[hw];refine aN (2-(i+1)) _ _ (by omega) ⟨i+1,_,_,true,rfl,by omega,by omega,hp.trans aH,?_⟩;rw[ae]at e;show pQ s1 (xj (BX l i) (ly l i)) _ _;rw[e];rw[ht rfl]at sI;exact sI
   |false=>
    rw[af,ZN];simp only[av,aX,au,aq];rw[hw];refine aN (2-(i+1)) _ _ (by omega) ⟨i+1,_,_,b,rfl,by omega,by omega,hp.trans aH,?_⟩;rw[af]at e;show pQ s1 (xj (BX l i) (ly l i)) _ _;rw[e];exact mn.mono aH
  have kI:=fu.b;have hb:=hm.b;cases hr:ly l i with
  |none=>
   rw[hr]at kI;subst kI;rw[show(Option.isSome (none:Option cy))=false from rfl,af];exact A2 false false (by rw[hr];cases BX l i<;>rfl) rfl (λe=>by cases e)
  |some y=>
   rw[hr]at kI;subst kI;rw[show(Option.isSome (some y))=true from rfl,ae,Za];cases tR:BX l i with
   |none=>
    rw[tR]at hb;subst hb;rw[show(!Option.isSome (none:Option cy))=true from rfl,ae];simp only[au,aq];exact A2 true true (by rw[hr,tR];rfl) rfl (λ_=>rfl)
   |some x=>
    rw[tR]at hb;subst hb;rw[show(!Option.isSome (some x))=false from rfl,af];simp only[au,aq];refine A2 (decide (y.seq>x.seq)) _ (by rw[hr,tR];rfl) ?_ (λ_=>rfl);rw[aiq y hr,aip x tR]
 .rw[aF (show ¬(i:Int)<2 by omega),af,h1]
  have:i=2:=by omega
  subst this;simp only[ZN,av,aX,au,aq,Zd];exact .mk ⟨s,_,k,b,rfl,hp,mn⟩
def Zwl {x:cy} (h:mS l=some x):ZU x=true/\x.aJ.length<=8:=by
 unfold mS at h;cases ho:fM l with
 |none=>rw[ho]at h;cases h
 |some q=>
  obtain⟨k,n,t⟩:=q;rw[ho]at h;simp only at h;cases h1:decide (k=7)&&decide (n<=8)with
  |false=>rw[h1]at h;cases h
  |true=>
   rw[h1,ae]at h;rw[aY,bu,bu]at h1;cases h2:ZU (jC t n)&&ZE (t.drop (32+2*n))with
   |false=>rw[h2]at h;cases h
   |true=>
    rw[h2,ae]at h;cases h;rw[aY]at h2;exact⟨h2.1,by rw[show(jC t n).aJ.length=n from If t n];exact h1.2⟩
def Zu8 {x:cy} (h:ly l k=some x):k<l.length/64/\mS (pD l k)=some x:=by
 grind[ly]
def ZoP {a b:Option cy} {x:cy} (h:xj a b=some x):a=some x\/b=some x:=by
 cases a with
 |none=>cases b with
  |none=>cases h
  |some y=>exact .inr h
 |some z=>cases b with
  |none=>exact .inl h
  |some y=>
   have h:(bif decide (y.seq>z.seq)then some y else some z)=some x:=h;grind
def ZvF {x:cy} (h:vF l=some x): ∃k,k<2/\ly l k=some x:=by
 unfold vF at h;rcases ZoP h with h|h
 .rcases ZoP h with h|h
  .cases h
  grind
 grind
def l8 (img:aj):Option (cy×aS)×Int:=match vF img with
 |none=>(none,30)
 |some x=>match rK (qo img x)with
  |some (some v)=>bif zR img x v.W then(some (x,v),0)else(none,32)
  |_=>(none,31)
def Zz8 (st:St) (r:Option (cy×aS)×Int) (o:Out ah×St):Prop:=∃s',aB st s'/\match r with
 |(none,e)=>o=(.val [.agg (dE nK 0 none 0 none 0 none),.ptr none,.int .i64 e],s')/\e≠0
 |(some (x,v),_)=>∃z2 p2 z3 p3 z4 p4 i j,o=(.val [.agg (dE (fh x v) z2 p2 z3 p3 z4 p4),.ptr (some (i,0)),.int .i64 0],s')/\(z2=2\/p2=none)/\(z3=1\/p3=none)/\(z4=1\/p4=none)/\lf s' (fh x v) p2 p3 p4/\gy s' false i j x.blocks.toNat (x.aJ.foldl (bK x.blocks.toNat) v.W)
def Sl.words {f f':Bool} {W W':al} (hj:s[j]? =some (some ⟨f,Zv W⟩)) (hl:W'.length=W.length) (h:Sl s p cs) (hn: ∀(d:DV) (r:ah) (w:Nat),cs=d::r->d≠ .int .u64 w):Sl (s.set j (some ⟨f',Zv W'⟩)) p cs:=by
 cases p with
 |none=>exact h
 |some q=>
  obtain⟨i,o⟩:=q;obtain⟨g,all,h1,h2,h3⟩:=h;by_cases mm:i=j
  .subst mm
   rw[hj]at h1;cases h1;have hc:cs=[]:=by
    cases cs with
    |nil=>rfl
    |cons d r=>
     exfalso;have aw:o<(Zv W).length:=by
      rw[cO]at h2;omega
     have h4:(Zv W)[o]? =some d:=by
      have:=congrArg (λl:ah=>l[0]?) h3;simpa using this
     rw[Bs]at aw;have h5:(Zv W)[o]? =some (.int .u64 (W[o]:Nat)):=by
      unfold Zv;rw[th,cq aw];rfl
     rw[h5]at h4;grind
   subst hc;refine⟨f',_,kX (ef.1 hj).1,?_,rfl⟩;rw[Bs,hl,<-Bs];exact h2
  .exact⟨g,all,by rw[jv (λe=>mm e.symm)];exact h1,h2,h3⟩
def lf.words {s:St} {j:Nat} {f f':Bool} {W W':al} (hj:s[j]? =some (some ⟨f,Zv W⟩)) (hl:W'.length=W.length) {x:fJ} {p1 p2 p3:ai} (h:lf s x p1 p2 p3):lf (s.set j (some ⟨f',Zv W'⟩)) x p1 p2 p3:=by
 have hi: ∀(l:ak) (d:DV) (r:ah) (w:Nat),ints l=d::r->d≠ .int .u64 w:=λl d r w e=>by
  cases l with
  |nil=>cases e
  |cons a l=>cases e;intro e;cases e
 obtain⟨ds,h1,h2⟩:=h.hp;refine⟨⟨ds,h1.words hj hl λd r w e=>?_,h2.cj λp es k=>k.words hj hl λd r w e=>?_⟩,h.gn.words hj hl (hi _),h.fr.words hj hl (hi _)⟩
 .cases hh:x.aM with
  |nil=>rw[hh]at h2;rw[show ds=[]from h2]at e;cases e
  |cons y t=>
   rw[hh]at h2;obtain⟨z,p,t',_,h3,_⟩:=h2;rw[h3]at e;cases e;intro e;cases e
 .cases es with
  |nil=>cases e
  |cons a l=>cases e;intro e;cases e
def QW (n:Nat) (a:ai) (img:aj) (st:St) (ht:sa st) (ha:dc st a img) (hl:img.length<262144) (hn:50000<=n:=by omega):
  Ok (Zz8 st (l8 img)) (run Bd n 324 [.slice 1 a img.length] st):=by
 obtain⟨n,rfl⟩: ∃m,n=m+1:=⟨n-1,by omega⟩;obtain⟨R,hR⟩: ∃R,l8 img=R:=⟨_,rfl⟩;rw[hR];unfold l8 at hR;rw[Ze,h.aga];unfold R8 bV zA LL xD bq C_ aZ Lp;simp only[aX,aq];refine Ok.call (ZsF n a img st ha hl (by omega)) ?_;rintro _ ⟨d,s1,rfl,aH,hd⟩;refine⟨_,s1,rfl,?_⟩;simp only[eH,aq];refine Ok.call (ZsT n d img s1 hd hl (by omega)) ?_;rintro _ ⟨s2,cs,k,b,rfl,aU,hm⟩;refine⟨_,s2,rfl,?_⟩;have hb:=hm.b;cases jZ:vF img with
 |none=>
  rw[jZ]at hm hb hR;subst hb;obtain⟨⟨z,rfl⟩,_⟩:=hm;rw[ZN];unfold Hs;simp only[av,Zg 1 z none _ (.inr rfl),au,aq];rw[show(!Option.isSome (none:Option cy))=true from rfl,ae,Zd,<-hR];exact .mk ⟨s2,aH.trans aU,rfl,by omega⟩
 |some x=>
 rw[jZ]at hm hb hR;simp only at hR;subst hb;obtain⟨q,rfl,_,hq⟩:=hm;obtain⟨kx,_,vz⟩:=ZvF jZ;obtain⟨pB,cN⟩:=Zwl (Zu8 vz).2;rw[ZN];unfold dj;simp only[av,aX,au,aq];rw[show(!Option.isSome (some x))=false from rfl,af];have Cz:([.int .i64 x.seq,.int .i64 x.blocks,.int .i64 x.de,.int .i64 x.g,.int .i64 x.cc,.int .i64 x.used,.int .i64 x.free,.int .i64 x.dir,.slice 1 q x.aJ.length]:ah)=dj x q:=rfl;simp only[Cz];have iP:=aH.trans aU;have Ar:=ha.mono iP;refine Ok.call (ZlN n a img x q s2 Ar hq (by omega) (by omega)) ?_;intro o ho;cases hw:rK (qo img x)with
 |none=>
  rw[hw]at ho hR;obtain⟨s3,rfl,cu⟩:=ho;refine⟨_,s3,rfl,?_⟩;rw[ZN];unfold dE;simp only[av,Zg 2 0 none _ (.inr rfl),Zg 1 0 none _ (.inr rfl),eH,aq];rw[show(!((2:Int)==0))=true from rfl,ae,Zd,<-hR];exact .mk ⟨s3,iP.trans cu,rfl,by omega⟩
 |some w=>
 cases w with
 |none=>
  rw[hw]at ho hR;obtain⟨s3,rfl,cu⟩:=ho;refine⟨_,s3,rfl,?_⟩;rw[ZN];unfold dE;simp only[av,Zg 2 0 none _ (.inr rfl),Zg 1 0 none _ (.inr rfl),eH,aq];rw[show(!((31:Int)==0))=true from rfl,ae,Zd,<-hR];exact .mk ⟨s3,iP.trans cu,rfl,by omega⟩
 |some v=>
 rw[hw]at ho hR;simp only at hR;obtain⟨s3,z2,p2,z3,p3,z4,p4,i,j,rfl,cu,gS,mA,wX,cg,dh,hj,mm⟩:=ho;refine⟨_,s3,rfl,?_⟩;rw[ZN];unfold dE;simp only[av,Zg 2 z2 p2 _ gS,Zg 1 z3 p3 _ mA,Zg 1 z4 p4 _ wX,eH,aq];rw[show(!((0:Int)==0))=false from rfl,af];have uc:=iP.trans cu;refine Ok.cv (ZoX n a img x q (some (x.blocks.toNat,v.W)) (some (i,0)) s3 (ht.mono uc) (Ar.mono cu) (hq.mono cu) ⟨false,i,j,rfl,dh⟩ (by omega) (by omega) (by omega)) λs4 fw=>?_
 have tU:IC img x (some (x.blocks.toNat,v.W))=zR img x v.W:=by
  unfold IC;rw[hw];simp
 rw[tU];simp only[au,aq];cases D6:zR img x v.W with
 |false=>
  rw[D6,af]at hR;rw[bn,ae,Zd,<-hR];exact .mk ⟨s4,uc.trans fw,rfl,by omega⟩
 |true=>
  rw[D6,ae]at hR;rw[br,af];have El:lG [j] q:=λb o e hm=>by
   subst e;have:=Sl.lt hq;rw[cB]at hm;omega
  have G5:=dh.pre fw;rw[Zk (Ia n x.aJ q s4 G5 mm (hq.mono (cu.trans fw)) El)];simp only[aq,Zd];rw[<-hR];have hf:=ZF x.blocks.toNat x.aJ v.W;have h2:=aU.len;have h1:=aH.len;refine .mk ⟨_,tC (uc.trans fw) (by omega) _,2,p2,1,p3,1,p4,i,j,rfl,.inl rfl,.inl rfl,.inl rfl,(cg.pre fw).words G5.wd hf.1,G5.add mm _ hf.1 (hf.2 dh.lt)⟩
def xL (l:List dO) (a:Int):Int:=l.foldl (λa h=>ar (a+(h.cj.length:Nat))) a
def IX (x:cy) (v:aS):ah:=[.int .i64 (xL v.aM 0),.int .i64 (v.aM.length:Nat),.int .i64 (v.free.length:Nat),.int .i64 (ar (ar (((v.aK.length:Nat):Int)-xL v.aM 0)-((v.free.length:Nat):Int))),.int .i64 (BQ (x.aJ.foldl (bK x.blocks.toNat) v.W))]
def Vm:ah:=[.int .i64 0,.int .i64 0,.int .i64 0,.int .i64 0,.int .i64 0]
def Zz5 (st:St) (r:Option (cy×aS)×Int) (o:Out ah×St):Prop:=∃s',aB st s'/\match r with
 |(none,e)=>o=(.val [.agg Vm,.int .i64 e],s')
 |(some (x,v),_)=>o=(.val [.agg (IX x v),.int .i64 0],s')
def Q2 (n:Nat) (a:ai) (img:aj) (st:St) (ht:sa st) (ha:dc st a img) (hl:img.length<262144) (hh: ∀x v e,l8 img=(some (x,v),e)->v.aM.length<1000) (hn:50010<=n:=by omega):
  Ok (Zz5 st (l8 img)) (run Bd n 323 [.slice 1 a img.length] st):=by
 obtain⟨n,rfl⟩: ∃m,n=m+1:=⟨n-1,by omega⟩;rw[Ze,h.aa0];unfold RK bV xD tl Dx L9 N_ aZ Bw Lp xN;simp only[aX,aq];refine Ok.call (QW n a img st ht ha hl) ?_;rintro o ⟨s1,aH,ho⟩;obtain⟨R,hR⟩: ∃R,l8 img=R:=⟨_,rfl⟩;rw[hR]at ho⊢;obtain⟨r,e⟩:=R;cases r with
 |none=>
  simp only at ho;obtain⟨rfl,he⟩:=ho;refine⟨_,s1,rfl,?_⟩;rw[ZN];unfold dE;simp only[av,Zg 2 0 none _ (.inr rfl),Zg 1 0 none _ (.inr rfl),eH,aq];rw[show(!(e==0))=true by rw[eG.2 he];rfl,ae,Zd];exact .mk ⟨s1,aH,rfl⟩
 |some q=>
  obtain⟨x,v⟩:=q;have tY:=hh x v e hR;simp only at ho;obtain⟨z2,p2,z3,p3,z4,p4,i,j,rfl,gS,mA,wX,cg,dh⟩:=ho;refine⟨_,s1,rfl,?_⟩;rw[ZN];unfold dE;simp only[av,Zg 2 z2 p2 _ gS,Zg 1 z3 p3 _ mA,Zg 1 z4 p4 _ wX,eH,aq];rw[show(!((0:Int)==0))=false from rfl,af];have Ch:run Bd n 183 [.ptr (some (i,0))] s1=some (.val [.int .i64 (BQ (x.aJ.foldl (bK x.blocks.toNat) v.W))],s1):=ok_eq (ZrE n s1 dh (by omega));rw[qF Ch (.refl s1)];simp only[av,aq,Za];have e1:(fh x v).aM=v.aM:=rfl;have e2:(fh x v).aK=v.aK:=rfl;have e3:(fh x v).free=v.free:=rfl;obtain⟨ds,hs,Xs⟩:=cg.hp;rw[e1]at Xs;rw[e1,e2,e3];refine Zi _ (λq y s=>∃k:Nat,y=[.agg [.int .i64 (xL (v.aM.take k) 0),.int .i64 (v.aM.length:Nat),.int .i64 (v.free.length:Nat),.int .i64 0,.int .i64 (BQ (x.aJ.foldl (bK x.blocks.toNat) v.W))],.int .i64 k]/\k<=v.aM.length/\v.aM.length-k<=q/\s=s1) ?_ v.aM.length n _ _ ⟨0,rfl,cz _,by omega,rfl⟩ (by omega);rintro q _ s ⟨k,rfl,hk,hq,rfl⟩ rec aN;rw[ZN];simp only[av,aq];by_cases aw:k<v.aM.length
  .obtain⟨i1,o1,rfl⟩:=hs.cH (by rw[Xs.len];omega)
   have eg:v.aM[k]? =some v.aM[k]:=cq aw;obtain⟨za,pa,Kx,hpa,la⟩:=ZwF (β:=ah) hs Xs eg;rw[ax (show(k:Int)<(v.aM.length:Int) by omega),ae,bd,Zb (Zj aw),bp,la];unfold mj;simp only[bR,Zg 4 za pa _ Kx,aq];rw[Zc (x:=(k:Int)+1)];refine aN (v.aM.length-(k+1)) _ _ (by omega) ⟨k+1,?_,by omega,by omega,rfl⟩;rw[lV aw];unfold xL;rw[zn];rfl
  .rw[aF (show ¬(k:Int)<(v.aM.length:Int) by omega),af,ZN]
   simp only[av,aq,Zd];have:k=v.aM.length:=by omega
   subst this;rw[rR];exact .mk ⟨s,aH,rfl⟩
end Go.Gv.F
namespace Go.Gv.F
open Go.Gv
def B5:fJ:=⟨16,2,1,[],[],[]⟩
def ZzS:rY B5 where
 NS:=by decide
 de:=by decide
 DZ:=by decide
 right:=λh hh=>nomatch hh
 order:=λi a b h1 h2=>by cases h1
 nodup:=by decide
 range:=by decide
 gen:=λe he=>nomatch he
 low:=λk hk=>nomatch hk
 aK:=by decide
 rest:=λi hi hn=>by
  have:B5.aK.length=0:=rfl;omega
def VU (x:cy) (v:aS):ak:=[xL v.aM 0,(v.aM.length:Nat),(v.free.length:Nat),ar (ar (((v.aK.length:Nat):Int)-xL v.aM 0)-((v.free.length:Nat):Int)),BQ (x.aJ.foldl (bK x.blocks.toNat) v.W)]
def ZtZ (x:cy) (v:aS):IX x v=ints (VU x v):=rfl
def acO:Bool:=match FY B5 1 0 with
 |none=>false
 |some (B,_)=>match l8 B with
  |(some (x,v),_)=>decide (VU x v=[0,0,0,0,3])&&(decide (v.aM.length=0)&&decide (B.length=1024))
  |_=>false
def Zu5:acO=true:=by decide+kernel
def Zt4: ∃B s x v e,FY B5 1 0=some (B,s)/\l8 B=(some (x,v),e)/\VU x v=[0,0,0,0,3]/\v.aM.length=0/\B.length=1024:=by
 have h:=Zu5;unfold acO at h;grind
def ZqT:l8 []=(none,30):=by
 rfl
end Go.Gv.F
