/- A block of an image, taken once: the walker's first steps. -/
import Derived.Test.YtegglibipjjblaaGreatDoorGvZMa
namespace Go.Gv.F
open Go.Gv
variable {β:Type}
theorem Zz1 {α:Type} {m:M α} {K:α->M β} {s s':St} (h:m s=some (.cC,s')):M.call m K s=some (.cC,s'):=by unfold M.call;rw[h]
theorem Ok.r8 {α:Type} {P:Out α×St->Prop} {Q:Out β×St->Prop} {m:M α} {K:α->M β} {s:St} (h:Ok P (m s))
  (k1: ∀s',P (.cC,s')->Q (.cC,s')) (k2: ∀ds s',P (.val ds,s')->Ok Q (K ds s')):Ok Q (M.call m K s):=by
 obtain⟨⟨o,s'⟩,e,hp⟩:=h;unfold M.call;rw[e];cases o with
 |val ds=>exact k2 ds s' hp
 |cC=>exact .mk (k1 s' hp)
theorem LZ (p:Option (Nat×Nat)) (K:Option (Nat×Nat)->M β):D.ptr (.ptr p) K=K p:=rfl
theorem ZzK (s:St):ZV s.length s=s:=by unfold ZV;simp
theorem Zw7 {Bd:Za} (h:ZZ Bd) (n:Nat) (b:Bool) (st:St):run Bd (n+1) 225 [.bool b] st=some (bif b then(.val [],st)else(.cC,st)):=by
 rw[Zf,h.eq];unfold Ih;simp only[ai,ae,Zc];cases b<;>rfl
theorem pC {Bd:Za} (h:ZZ Bd) (n:Nat) {b:Bool} (hb:b=true) (st:St) (K:List DV->M β):M.call (run Bd (n+1) 225 [.bool b]) K st=K [] st:=by
 rw[hb];exact Zi (Zw7 h n true st)
theorem ZN {Bd:Za} (h:ZZ Bd) (n:Nat) {b:Bool} (hb:b=false) (st:St) (K:List DV->M β):M.call (run Bd (n+1) 225 [.bool b]) K st=some (.cC,st):=by
 rw[hb];exact Zz1 (Zw7 h n false st)
def Z7 (img:List UInt8) (k:Nat):List UInt8:=(img.drop (k*64)).take 64
theorem Zmh {Bd:Za} (h:HV Bd) (n:Nat) (a:Option (Nat×Nat)) (len k:Nat) (st:St) (hl:len<1000000) (hk:(k+1)*64<=len):
  run Bd (n+1) 203 [.slice 1 a len,.int .i64 k] st=some (.val [.slice 1 (cy true a (k*64)) 64],st):=by
 rw[Zf,h.eq];unfold Ip;simp only[bh,al,ae];rw[ni];have h1:af ((k:Int)+1)=((k+1:Nat):Int):=Zb (by omega) (by omega);have h2:af (((k+1:Nat):Int)*64)=(((k+1)*64:Nat):Int):=by rw[Zb (by omega) (by omega)];omega
 have h3:af ((k:Int)*64)=((k*64:Nat):Int):=by rw[Zb (by omega) (by omega)];omega
 simp only[h1,h2,h3,aX,di];rw[Zd (by rw[aH,bc,bc];omega),Zd (by rw[aH,bc,bc];omega),ZE,ZzK,show(k+1)*64-k*64=64 by omega]
inductive xY where
 |node (x:jL)
 |leaf (x:List bL)
 |cE (x:List Int)
 |queue (x:pH)
 |dir (x:List Int)
 |none
def ZK (l:List UInt8):xY:=
 match tt l with
 |some x=> .node x
 |none=>match qE l with
  |some x=> .leaf x
  |none=>match tj l with
   |some x=> .cE x
   |none=>match rO l with
    |some x=> .queue x
    |none=>match AW l with
     |some x=> .dir x
     |none=> .none
def LX (s:St):xY->DV->Prop
 | .node x,d=>∃p,d= .iface 6 (.agg (vH x 1 p))/\Fz s p (ints x.kids)/\mF x=true/\x.kids.length<=12
 | .leaf x,d=>d= .iface 5 (.agg (bV x))/\x.length=7
 | .cE x,d=>d= .iface 2 (.agg (ints x))/\x.length=16
 | .queue x,d=>d= .iface 4 (.agg (rV x))/\x.cY.length=12
 | .dir x,d=>∃p,d= .iface 3 (.agg [.slice 1 p x.length])/\Fz s p (ints x)/\x.length<=16
 | .none,d=>d= .nilIface
theorem NB {l:List UInt8} {x:List bL} (h:qE l=some x):x.length=7:=by
 unfold qE at h;split at h
 ·cases h
 ·rename_i k t b _
  cases e:(decide (k=2)&&decide (t<128))with
  |false=>rw[e]at h;cases h
  |true=>
   rw[e]at h;cases e2:(kF b t 7).all ZM with
   |false=>rw[e2]at h;cases h
   |true=>rw[e2]at h;cases h;exact NZ b t 7
theorem Zsv {Bd:Za} (h:Nn Bd) (n:Nat) (a:Option (Nat×Nat)) (l:List UInt8) (st:St) (ha:dp st a l) (hl:l.length<1000000) (hn:161<=n):
  Ok (fun o=>∃d s',o=(.val [d],s')/\ar st s'/\LX s' (ZK l) d) (run Bd n 256 [.slice 1 a l.length] st):=by
 obtain⟨n,rfl⟩: ∃m,n=m+1:=⟨n-1,by omega⟩;rw[Zf,h.eq];unfold Hz ZK;simp only[bh,ae];refine Ok.call (Zwf h.aal n a l st ha hl (by omega)) ?_;rintro _ ⟨s1,aI,vr⟩;cases pS:tt l with
 |some x=>
  rw[pS]at vr;obtain⟨p,rfl,hf⟩:=vr;refine⟨_,s1,rfl,?_⟩;unfold vH fN;simp only[kz,fe,bZ,al,bh,ai,ae,cond_true,Ze];exact .mk ⟨_,s1,rfl,aI,p,rfl,hf,(Pe pS).1,(Pe pS).2⟩
 |none=>
 rw[pS]at vr;subst vr;refine⟨_,s1,rfl,?_⟩;simp only[bZ,al,ai,ae,Zm 1 0 none _ (.inr rfl),cond_false];have pM:=ha.mono aI;refine Ok.call (Zp2 h.q54 n a l s1 pM hl (by omega)) ?_;rintro _ ⟨s2,bd,cK⟩;cases sf:qE l with
 |some x=>
  rw[sf]at cK;subst cK;refine⟨_,s2,rfl,?_⟩;have hlen:(bV x).length=21:=by rw[ZT,NB sf]
  simp only[bZ,ai,ae,cond_true];rw[bF hlen,bF hlen,Ze];exact .mk ⟨_,s2,rfl,aI.trans bd,rfl,NB sf⟩
 |none=>
 rw[sf]at cK;subst cK;refine⟨_,s2,rfl,?_⟩;simp only[bZ,ai,ae,cond_false];rw[bF (cs:=bV vF) (n:=21) rfl,bF (cs:=bV vF) (n:=21) rfl];have Br:=pM.mono bd;refine Ok.call (ZrG h.q68 n a l s2 Br hl (by omega)) ?_;rintro _ ⟨s3,cn,nN⟩;cases DP:tj l with
 |some x=>
  rw[DP]at nN;obtain⟨rfl,hx⟩:=nN;refine⟨_,s3,rfl,?_⟩;have hlen:(ints x).length=16:=by simp[ints,hx]
  simp only[bZ,ai,ae,cond_true];rw[bF hlen,bF hlen,Ze];exact .mk ⟨_,s3,rfl,(aI.trans bd).trans cn,rfl,hx⟩
 |none=>
 rw[DP]at nN;subst nN;refine⟨_,s3,rfl,?_⟩;simp only[bZ,ai,ae,cond_false];rw[bF (cs:=ints (List.replicate 16 0)) (n:=16) rfl,bF (cs:=ints (List.replicate 16 0)) (n:=16) rfl];have ha3:=Br.mono cn;refine Ok.call (ZnI h.q31 n a l s3 ha3 hl (by omega)) ?_;rintro _ ⟨s4,gA,tL⟩;cases hg4:rO l with
 |some x=>
  rw[hg4]at tL;obtain⟨rfl,hx⟩:=tL;refine⟨_,s4,rfl,?_⟩;have hlen:(ints x.cY).length=12:=by simp[ints,hx]
  unfold rV;simp only[bZ,bU,al,ai,ae,cond_true];rw[bF hlen,bF (by simp[hlen]),Ze];exact .mk ⟨_,s4,rfl,((aI.trans bd).trans cn).trans gA,rfl,hx⟩
 |none=>
 rw[hg4]at tL;subst tL;refine⟨_,s4,rfl,?_⟩;unfold rV;simp only[bZ,bU,al,ai,ae,cond_false];rw[bF (cs:=ints Zyo.cY) (n:=12) rfl,bF (n:=14) rfl];have ha4:=ha3.mono gA;refine Ok.call (ZpB h.q49 n a l s4 ha4 hl (by omega)) ?_;rintro _ ⟨s5,ik,BI⟩;cases hg5:AW l with
 |some x=>
  rw[hg5]at BI;obtain⟨p,rfl,hf,hx⟩:=BI;refine⟨_,s5,rfl,?_⟩;simp only[bZ,bh,ai,ae,cond_true,Ze];exact .mk ⟨_,s5,rfl,(((aI.trans bd).trans cn).trans gA).trans ik,p,rfl,hf,hx⟩
 |none=>
 rw[hg5]at BI;subst BI;refine⟨_,s5,rfl,?_⟩;simp only[bZ,Zm 1 0 none _ (.inr rfl),ai,ae,cond_false,Ze];exact .mk ⟨_,s5,rfl,(((aI.trans bd).trans cn).trans gA).trans ik,rfl⟩
def pK (m:Nat) (W:List Nat) (k:Int):Bool:=decide (k>=2)&&(gG m k&& !cR W k.toNat)
theorem ZBa {Bd:Za} (h:Z3 Bd) (n w:Nat) (a:Option (Nat×Nat)) (img:List UInt8) {i j m:Nat} {W:List Nat} (k:Int) (st:St) {cs:List DV}
  (hw:st[w]? =some (some ⟨false,cs⟩)) (h0:cs[0]? =some (.slice 1 a img.length)) (h2:cs[2]? =some (.int .i64 m)) (Bm:cs[10]? =some (.ptr (some (i,0))))
  (hs:eY st false i j m W) (nK:i≠j) (hjw:w≠j) (ha:dp st a img) (D9:j6 [j] a) (hm:m*64<=img.length) (hl:img.length<1000000) (hn:170<=n):
  Ok (fun o=>bif pK m W k then ∃d s',o=(.val [d],s')/\Fx [j] st s'/\eY s' false i j m (da m W k)/\LX s' (ZK (Z7 img k.toNat)) d else o=(.cC,st)) (run Bd n 228 [.ptr (some (w,0)),.int .i64 k] st):=by
 obtain⟨n,rfl⟩: ∃k,n=k+4:=⟨n-4,by omega⟩;rw[Zf,h.eq];unfold Gc pK;simp only[fm,al,ae,Zc,aV];by_cases gX:k>=2;rotate_left
 ·rw[ao gX,cond_false]
  simp only[ai,ae,cond_false,eL];rw[ZN h.fC (n+2) rfl];exact .mk rfl
 rw[ah gX,cond_true,Zn hw h2];simp only[aM,ai,ae,cI];have U8:gG m k=decide (k<(m:Int)):=by unfold gG;rw[ah (show(0:Int)<=k by omega),cI]
 rw[U8];by_cases DX:k<(m:Int);rotate_left
 ·rw[ao DX,cond_false]
  simp only[eL,cond_false];rw[ZN h.fC (n+2) rfl];exact .mk rfl
 rw[ah DX,cond_true,Zn hw Bm];simp only[LZ,cI];rw[Zi (ZnM h.Tx (n+1) k st hs),U8,ah DX,cI];simp only[ai,ae];cases fq:cR W k.toNat with
 |true=>
  simp only[bx,cond_false];rw[ZN h.fC (n+2) rfl];exact .mk rfl
 |false=>
  simp only[bD,cond_true];rw[pC h.fC (n+2) rfl];simp only[ae];rw[Zn hw Bm];simp only[LZ];rw[Zw];have aI:=ar.new st (some (⟨false,[DV.int .i64 k]⟩:bq));have ga:Sl (st++[some (⟨false,[DV.int .i64 k]⟩:bq)]) (some (st.length,0)) (ints [k]):=Dc st [DV.int .i64 k];have df:j6 [j] (some (st.length,0)):=by
   intro b o e hb;cases e;have:=(cd.1 hs.wd).1;rw[bK.1 hb]at this;omega
  generalize st++[some (⟨false,[DV.int .i64 k]⟩:bq)]=s1 at aI ga;have kL:=hs.pre aI;have Uy:=Ij h.zy (n+3) [k] (some (st.length,0)) s1 kL nK ga df (by simp) (by simp;omega);rw[show[k].length=1 from rfl]at Uy;rw[Zi Uy];simp only[ae];have VA:=kL.add nK (da m W k) (sV _ _ _) (AK kL.lt);have bQ:Fx [j] st (s1.set j (some ⟨false,ZG (da m W k)⟩)):=(Fx.pre [j] aI).trans (Fx.set s1 j _);have e1:[k].foldl (da m) W=da m W k:=rfl;rw[e1];generalize s1.set j (some ⟨false,ZG (da m W k)⟩)=s2 at VA bQ;have fU:=bQ.2 w _ (by simpa using hjw) hw;have Br:dp s2 a img:=Sl.fx ha bQ D9;rw[Zn fU h0];simp only[jJ];obtain⟨kk,rfl⟩: ∃kk:Nat,k=kk:=⟨k.toNat,by omega⟩;rw[Zi (Zmh h.To (n+2) a img.length kk s2 hl (by omega))];simp only[bh,ae];have yR:dp s2 (cy true a (kk*64)) (Z7 img kk):=(Br.cy (k:=kk*64) (by omega)).kt 64;have KT:(Z7 img kk).length=64:=by unfold Z7;rw[bW,dt];omega
  have hb:=Zsv h.q88 (n+3) _ (Z7 img kk) s2 yR (by omega) (by omega);rw[KT]at hb;refine Ok.call hb ?_;rintro _ ⟨d,s3,rfl,cn,hblk⟩;refine⟨_,s3,rfl,?_⟩;simp only[xZ,ae,Ze];exact .mk ⟨d,s3,rfl,bQ.trans (Fx.pre [j] cn),VA.pre cn,hblk⟩
end Go.Gv.F
namespace Go.Gv.F
open Go.Gv
variable {β:Type}
structure eU where
 seq:Int
 blocks:Int
 cu:Int
 g:Int
 cE:Int
 used:Int
 free:Int
 dir:Int
 az:List Int
structure aW where
 W:List Nat
 aw:List bL
 aB:List cN
 gens:List Int
 free:List Int
 nodes:Int
structure bA where
 w:Nat
 i:Nat
 j:Nat
 m:Nat
 a:Option (Nat×Nat)
 img:List UInt8
 sup:eU
 pc:Option (Nat×Nat)
def cD (z:Nat) (p:Option (Nat×Nat)) (n:Nat):DV:= .slice z p n
def oa (K:bA) (v:aW) (c11 c15 c16 c17:DV):List DV:=
 [.slice 1 K.a K.img.length,.int .i64 K.sup.seq,.int .i64 K.sup.blocks,.int .i64 K.sup.cu,.int .i64 K.sup.g,.int .i64 K.sup.cE,.int .i64 K.sup.used,.int .i64 K.sup.free,.int .i64 K.sup.dir,.slice 1 K.pc K.sup.az.length,
  .ptr (some (K.i,0)),c11,.int .i64 K.sup.blocks,.int .i64 K.sup.cu,.int .i64 K.sup.g,c15,c16,c17,.int .i64 v.nodes]
def aF:Option (Nat×Nat)->List Nat
 |none=>[]
 |some (b,_)=>[b]
theorem j6.aF {L:List Nat} {a:Option (Nat×Nat)} (h: ∀b∈aF a,b∉L):j6 L a:=by
 intro b o e;subst e;exact h b (by simp[F.aF])
theorem aY.fx {T:List Nat} {s s':St} {a:Option (Nat×Nat)} {cs:List DV} (h:aY [] s a cs) (k:Fx T s s') (n: ∀b∈aF a,b∉T):aY [] s' a cs:=by
 refine⟨⟨s',rfl⟩,?_⟩;rcases h.2 with h1|⟨i,rfl,h2,h3⟩
 ·exact .inl h1
 ·exact .inr ⟨i,rfl,h2,k.2 i _ (n i (by simp[aF])) h3⟩
theorem aY.Ba {s:St} {a:Option (Nat×Nat)} {cs:List DV} (h:aY [] s a cs): ∀b∈aF a,b<s.length:=by
 rcases h.2 with⟨rfl,_⟩|⟨i,rfl,_,h3⟩
 ·intro b hb;cases hb
 ·intro b hb;rw[bK.1 hb];exact(cd.1 h3).1
theorem uH {s:St} {a:Option (Nat×Nat)} {cs:List DV} (h:aY [] s a cs) {sz n lim:Nat} (ds:List DV) (hz:0<sz) (hn:cs.length=n*sz) (hd:ds.length=sz) (hl:n+1<=lim):
  ∃b s',s.length<=b/\aY [] s' (some (b,0)) (cs++ds)/\Fx (aF a) s s'/\∀K:Option (Nat×Nat)->M β,(M.new ds fun i=>M.load i 0 sz fun cs'=>M.app sz a n cs' 1 lim K) s=K (some (b,0)) s':=by
 obtain⟨b,s',h1,h2,_,h4,h5⟩:=h.V8 (β:=β) ds hz hn hd hl;refine⟨b,s',h1,h2,⟨?_,fun i x hi e=>h4 i x e ?_⟩,h5⟩
 ·have:=aY.Ba h2 b (by simp[aF]);omega
 ·rintro o rfl
  exact hi (by simp[aF])
def oj (s:St) (L:List Nat):List DV->List cN->Prop
 |ds,[]=>ds=[]
 |ds,x::r=>∃z p t,(z=4\/p=none)/\ds=lG x z p++t/\Sl s p (bP x.aN)/\j6 L p/\oj s L t r
theorem oj.fx {s s':St} {L L':List Nat} (k:Fx L s s') (hL: ∀x∈L',x∈L\/s.length<=x): ∀ {ds:List DV} {xs:List cN},oj s L ds xs->oj s' L' ds xs
 |_,[],h=>h
 |_,_::_,⟨z,p,t,hz,h1,h2,h3,h4⟩=>⟨z,p,t,hz,h1,h2.fx k h3,h3.new h2 hL,h4.fx k hL⟩
theorem oj.aB {s:St} {L:List Nat} : ∀ {ds:List DV} {xs:List cN},oj s L ds xs->iz s ds xs
 |_,[],h=>h
 |_,_::_,⟨z,p,t,hz,h1,h2,_,h4⟩=>⟨z,p,t,hz,h1,h2,h4.aB⟩
theorem oj.push {s:St} {L:List Nat} {x:cN} {z:Nat} {p:Option (Nat×Nat)} (hz:z=4\/p=none) (hs:Sl s p (bP x.aN)) (ho:j6 L p): ∀ {ds:List DV} {xs:List cN},oj s L ds xs->oj s L (ds++lG x z p) (xs++[x])
 |ds,[],h=>⟨z,p,[],hz,by rw[show ds=[]from h];rfl,hs,ho,rfl⟩
 |_,_::_,⟨z',p',t,xx,h1,h2,h3,h4⟩=>⟨z',p',t++lG x z p,xx,by rw[h1,dD],h2,h3,h4.push hz hs ho⟩
structure c9 (K:bA) (s:St) (v:aW) (L:List Nat) (z1:Nat) (p1:Option (Nat×Nat)) (z2:Nat) (p2:Option (Nat×Nat)) (z3:Nat) (p3:Option (Nat×Nat)) (z4:Nat) (p4:Option (Nat×Nat)) (hd:List DV):Prop where
 cell:s[K.w]? =some (some ⟨false,oa K v (cD z1 p1 v.aw.length) (cD z2 p2 v.aB.length) (cD z3 p3 v.gens.length) (cD z4 p4 v.free.length)⟩)
 e1:z1=3\/p1=none
 e2:z2=2\/p2=none
 e3:z3=1\/p3=none
 e4:z4=1\/p4=none
 o1:aY [] s p1 (bV v.aw)
 o2:aY [] s p2 hd
 o3:aY [] s p3 (ints v.gens)
 o4:aY [] s p4 (ints v.free)
 aB:oj s L hd v.aB
 set:eY s false K.i K.j K.m v.W
 img:dp s K.a K.img
 off:j6 L K.a
 own:L=K.w::K.i::K.j::(aF p1++(aF p2++(aF p3++aF p4)))
 nodup:L.Nodup
def Wk (K:bA) (s:St) (v:aW) (L:List Nat):Prop:=∃z1 p1 z2 p2 z3 p3 z4 p4 hd,c9 K s v L z1 p1 z2 p2 z3 p3 z4 p4 hd
def Nw (L:List Nat) (s:St) (L':List Nat):Prop:=∀x∈L',x∈L\/s.length<=x
theorem Nw.refl (L:List Nat) (s:St):Nw L s L:=fun _ h=> .inl h
theorem Nw.trans {L L' L'':List Nat} {s s':St} (h:Nw L s L') (hs:s.length<=s'.length) (k:Nw L' s' L''):Nw L s L'':=fun x hx=>by
 rcases k x hx with h1|h1
 ·exact h x h1
 ·exact .inr (by omega)
theorem IJ {A B C:List Nat} {b n:Nat} (h:(A++(B++C)).Nodup) (hl: ∀x∈A++(B++C),x<n) (hb:n<=b):(A++([b]++C)).Nodup:=by
 rw[hY]at h⊢;obtain⟨h1,h2,h3⟩:=h;rw[hY]at h2;obtain⟨_,h4,_⟩:=h2;refine⟨h1,?_,?_⟩
 ·rw[List.singleton_append,qo]
  refine⟨fun hm=>?_,h4⟩;have:=hl b (by simp[hm]);omega
 ·intro x hx y hy
  rcases cW.1 hy with hy|hy
  ·rw[bK.1 hy]
   have:=hl x (by simp[hx]);omega
  ·exact h3 x hx y (cW.2 (.inr hy))
variable {K:bA} {s:St} {v:aW} {L:List Nat} {z1 z2 z3 z4:Nat} {p1 p2 p3 p4:Option (Nat×Nat)} {hd:List DV}
theorem c9.lt (h:c9 K s v L z1 p1 z2 p2 z3 p3 z4 p4 hd): ∀x∈L,x<s.length:=by
 intro x hx;rw[h.own]at hx;simp only[bX,cW]at hx;rcases hx with rfl|rfl|rfl|hx|hx|hx|hx
 ·exact(cd.1 h.cell).1
 ·exact(cd.1 h.set.hd).1
 ·exact(cd.1 h.set.wd).1
 ·exact aY.Ba h.o1 x hx
 ·exact aY.Ba h.o2 x hx
 ·exact aY.Ba h.o3 x hx
 ·exact aY.Ba h.o4 x hx
theorem c9.zn (h:c9 K s v L z1 p1 z2 p2 z3 p3 z4 p4 hd):K.w∈L:=by rw[h.own];simp
theorem c9.sw (h:c9 K s v L z1 p1 z2 p2 z3 p3 z4 p4 hd):K.j∈L:=by rw[h.own];simp
theorem c9.ne (h:c9 K s v L z1 p1 z2 p2 z3 p3 z4 p4 hd):K.w≠K.i/\K.w≠K.j/\K.i≠K.j/\(∀x∈aF p1++(aF p2++(aF p3++aF p4)),x≠K.w/\x≠K.i/\x≠K.j):=by
 have hn:=h.nodup;rw[h.own]at hn;simp only[qo,bX,not_or]at hn;obtain⟨⟨a1,a2,a3⟩,⟨b1,b2⟩,c1,_⟩:=hn;exact⟨a1,a2,b1,fun x hx=>⟨fun e=>a3 (e▸hx),fun e=>b2 (e▸hx),fun e=>c1 (e▸hx)⟩⟩
theorem c9.gF {s':St} {T:List Nat} (h:c9 K s v L z1 p1 z2 p2 z3 p3 z4 p4 hd) (k:Fx T s s') (hT: ∀x∈T,x∉L) (ha:j6 T K.a) (hh:oj s' L hd v.aB):c9 K s' v L z1 p1 z2 p2 z3 p3 z4 p4 hd:=by
 have hm: ∀x∈L,x∉T:=fun x hx Ll=>hT x Ll hx
 have ho:=h.own;refine⟨k.2 _ _ (hm _ h.zn) h.cell,h.e1,h.e2,h.e3,h.e4,h.o1.fx k fun b hb=>hm b ?_,h.o2.fx k fun b hb=>hm b ?_,h.o3.fx k fun b hb=>hm b ?_,h.o4.fx k fun b hb=>hm b ?_,hh,h.set.fx k (hm _ (by rw[ho];simp)) (hm _ h.sw),Sl.fx h.img k ha,h.off,ho,h.nodup⟩
 all_goals rw[ho];simp[hb]
theorem c9.pre {s':St} (h:c9 K s v L z1 p1 z2 p2 z3 p3 z4 p4 hd) (k:ar s s'):c9 K s' v L z1 p1 z2 p2 z3 p3 z4 p4 hd:=
 h.gF (Fx.pre [] k) (fun _ h=>by cases h) (fun _ _ _ h=>by cases h) (h.aB.fx (Fx.pre L k) (Nw.refl L s))
theorem c9.aav {s':St} {W':List Nat} (h:c9 K s v L z1 p1 z2 p2 z3 p3 z4 p4 hd) (k:Fx [K.j] s s') (hs:eY s' false K.i K.j K.m W'):c9 K s' { v with W:=W' } L z1 p1 z2 p2 z3 p3 z4 p4 hd:=by
 have bn:=h.ne;refine⟨k.2 _ _ (by simpa using bn.2.1) h.cell,h.e1,h.e2,h.e3,h.e4,h.o1.fx k fun b hb=>?_,h.o2.fx k fun b hb=>?_,h.o3.fx k fun b hb=>?_,h.o4.fx k fun b hb=>?_,h.aB.fx (k.mono fun x hx=>by rw[bK.1 hx];exact h.sw) (Nw.refl L s),hs,Sl.fx h.img k fun b o e hb=>h.off b o e (by rw[bK.1 hb];exact h.sw),h.off,h.own,h.nodup⟩
 all_goals simpa using (bn.2.2.2 b (by simp[hb])).2.2
def dh (K:bA) (k:Int) (v:aW):Option (xY×aW):=bif pK K.m v.W k then some (ZK (Z7 K.img k.toNat), { v with W:=da K.m v.W k })else none
theorem c9.take {Bd:Za} (hB:Z3 Bd) (n:Nat) (k:Int) (hm:K.sup.blocks=(K.m:Int)) (hi:K.m*64<=K.img.length) (hl:K.img.length<1000000) (hn:170<=n) (h:c9 K s v L z1 p1 z2 p2 z3 p3 z4 p4 hd):
  Ok (fun o=>match dh K k v with
   |none=>o=(.cC,s)
   |some (b,v')=>∃d s',o=(.val [d],s')/\c9 K s' v' L z1 p1 z2 p2 z3 p3 z4 p4 hd/\Fx [K.j] s s'/\LX s' b d) (run Bd n 228 [.ptr (some (K.w,0)),.int .i64 k] s):=by
 have bn:=h.ne;refine(ZBa hB n K.w K.a K.img k s h.cell rfl (by rw[<-hm];rfl) rfl h.set bn.2.2.1 bn.2.1 h.img (fun b o e hb=>h.off b o e (by rw[bK.1 hb];exact h.sw)) hi hl hn).mono ?_;intro o ho;unfold dh;cases hf:pK K.m v.W k with
 |false=>rw[hf]at ho;exact ho
 |true=>
  rw[hf]at ho;obtain⟨d,s',rfl,bQ,hs,hb⟩:=ho;exact⟨d,s',rfl,h.aav bQ hs,bQ,hb⟩
end Go.Gv.F
namespace Go.Gv.F
open Go.Gv
variable {β:Type}
theorem Jd: ∀ {l:List bL} {j:Nat} {x:bL},l[j]? =some x->((bV l).drop (j*3)).take 3=gk x
 |[],j,e,h=>by simp at h
 |x::l,0,e,h=>by
  simp only[gV,cX]at h;subst h;rfl
 |x::l,j+1,e,h=>by
  have e2:bV (x::l)=gk x++bV l:=rfl;rw[e2,show(j+1)*3=(gk x).length+j*3 by show _=3+_;omega,<-iK,qm];exact Jd (by simpa using h)
def om (K:bA) (s:St) (L:List Nat) (r:Option aW) (ds:List DV) (o:Out (List DV)×St):Prop:=match r with
 |none=>∃s',o=(.cC,s')/\Fx L s s'
 |some v=>∃s' L',o=(.val ds,s')/\Wk K s' v L'/\Fx L s s'/\Nw L s L'
variable {K:bA} {s:St} {v:aW} {L:List Nat} {z1 z2 z3 z4:Nat} {p1 p2 p3 p4:Option (Nat×Nat)} {hd:List DV}
theorem c9.Y2 (h:c9 K s v L z1 p1 z2 p2 z3 p3 z4 p4 hd) (x:bL) (hl:v.aw.length<1000000):
  ∃b s1 s2 L',(∀Kc:Option (Nat×Nat)->M β,(M.new (gk x) fun i=>M.load i 0 3 fun cs'=>M.app 3 p1 v.aw.length cs' 1 2932031007402 Kc) s=Kc (some (b,0)) s1)/\
   (∀Kc:M β,M.store K.w 11 [.slice 3 (some (b,0)) (v.aw.length+1)] Kc s1=Kc s2)/\Wk K s2 { v with aw:=v.aw++[x] } L'/\Fx L s s2/\Nw L s L':=by
 obtain⟨b,s1,hb,ho,bQ,he⟩:=uH (β:=β) (lim:=2932031007402) h.o1 (sz:=3) (n:=v.aw.length) (gk x) (by omega) (ZT _) rfl (by omega);have bn:=h.ne;have cj:=bQ.2 K.w _ (fun hm=>(bn.2.2.2 K.w (by simp[hm])).1 rfl) h.cell;have yF: ∀x∈aF p1,x∈L:=fun x hx=>by rw[h.own];simp[hx]
 let L':=K.w::K.i::K.j::(aF (some (b,0))++(aF p2++(aF p3++aF p4)))
 have eG:Fx L s (s1.set K.w (some ⟨false,oa K { v with aw:=v.aw++[x] } (cD 3 (some (b,0)) (v.aw.length+1)) (cD z2 p2 v.aB.length) (cD z3 p3 v.gens.length) (cD z4 p4 v.free.length)⟩)):=
  (bQ.mono yF).trans ((Fx.set s1 K.w _).mono fun y hy=>by rw[bK.1 hy];exact h.zn)
 have cZ:=h.nodup;rw[h.own]at cZ;have yT:(K.w::K.i::K.j::(aF (some (b,0))++(aF p2++(aF p3++aF p4)))).Nodup:=IJ (A:=[K.w,K.i,K.j]) (B:=aF p1) cZ (fun y hy=>h.lt y (by rw[h.own];exact hy)) hb;have eV:Nw L s L':=fun y hy=>by
  have mR:y∈K.w::K.i::K.j::([b]++(aF p2++(aF p3++aF p4))):=hy;rw[h.own];simp only[bX,cW,List.mem_nil_iff,iN]at mR⊢;rcases mR with h1|h1|h1|h1|h1
  ·exact .inl (.inl h1)
  ·exact .inl (.inr (.inl h1))
  ·exact .inl (.inr (.inr (.inl h1)))
  ·exact .inr (by omega)
  ·exact .inl (.inr (.inr (.inr (.inr h1))))
 have Yw: ∀y,y∉aF p1->y≠K.w->∀c,s[y]? =some c->(s1.set K.w (some ⟨false,oa K { v with aw:=v.aw++[x] } (cD 3 (some (b,0)) (v.aw.length+1)) (cD z2 p2 v.aB.length) (cD z3 p3 v.gens.length) (cD z4 p4 v.free.length)⟩))[y]? =some c:=fun y h1 h2 c hc=>by
  rw[eu (by omega)];exact bQ.2 y c h1 hc
 have ee:Fx (K.w::aF p1) s (s1.set K.w (some ⟨false,oa K { v with aw:=v.aw++[x] } (cD 3 (some (b,0)) (v.aw.length+1)) (cD z2 p2 v.aB.length) (cD z3 p3 v.gens.length) (cD z4 p4 v.free.length)⟩)):=
  ⟨eG.1,fun y c hy hc=>Yw y (fun hm=>hy (by simp[hm])) (fun e=>hy (by simp[e])) c hc⟩
 have jx: ∀y,y∈aF p2++(aF p3++aF p4)->y∉K.w::aF p1:=fun y hy hm=>by
  rcases bX.1 hm with e|e
  ·exact(bn.2.2.2 y (cW.2 (.inr hy))).1 e
  ·have mN:=cZ
   simp only[qo,hY]at mN;exact mN.2.2.2.2.2 y e y (by simpa using hy) rfl
 have qU:b≠K.w:=fun e=>by have:=(cd.1 h.cell).1;omega
 refine⟨b,s1,_,L',he,fun Kc=>?_,⟨3,some (b,0),z2,p2,z3,p3,z4,p4,hd,⟨?_,.inl rfl,h.e2,h.e3,h.e4,?_,?_,?_,?_,?_,?_,?_,?_,rfl,yT⟩⟩,eG,eV⟩
 ·rw[rK cj (by show 11<19;omega)]
  rfl
 ·rw[fJ (by have:=(cd.1 cj).1;exact this),bg];rfl
 ·rw[Zr5]
  exact(show aY [] s1 (some (b,0)) (bV v.aw++bV [x])from ho).fx (Fx.set s1 K.w _) (fun y hy=>by
   rw[bK.1 hy,bK];exact qU)
 ·exact h.o2.fx ee fun y hy=>jx y (by simp[hy])
 ·exact h.o3.fx ee fun y hy=>jx y (by simp[hy])
 ·exact h.o4.fx ee fun y hy=>jx y (by simp[hy])
 ·exact h.aB.fx eG eV
 ·exact h.set.fx ee (fun hm=>by
   rcases bX.1 hm with e|e
   ·exact bn.1 e.symm
   ·exact(bn.2.2.2 K.i (cW.2 (.inl e))).2.1 rfl) (fun hm=>by
   rcases bX.1 hm with e|e
   ·exact bn.2.1 e.symm
   ·exact(bn.2.2.2 K.j (cW.2 (.inl e))).2.2 rfl)
 ·exact Sl.fx h.img eG h.off
 ·exact h.off.new h.img eV
def tf (sup:eU) (x:bL):Bool:=(bif decide (x.gen>=1)then decide (x.gen<=sup.g)else false)&&(bif (bif x.live then true else decide (x.gen<sup.g))then true else x.block==0)
def yy (x:bL):Bool:=(x.live==false)&&((x.gen==0)&&((x.block==0)&&true))
def oy (K:bA) (k:Int) (x:bL) (v:aW):Option aW:=
 bif decide (k>=K.sup.used)then(bif yy x then some v else none)
 else(bif tf K.sup x then some { v with aw:=v.aw++[x] } else none)
def lu (K:bA):Int->List bL->aW->Option aW
 |_,[],v=>some v
 |k,x::r,v=>match oy K k x v with
  |none=>none
  |some v'=>lu K (k+1) r v'
def kQ (K:bA) (k slot:Int) (v:aW):Option aW:=match dh K k v with
 |some (.leaf x,v')=>lu K slot x v'
 |_=>none
theorem ZtI {K:bA} {k:Int} {x:bL} {v v':aW} (h:oy K k x v=some v'):v'.aw.length<=v.aw.length+1:=by
 unfold oy at h;cases h1:decide (k>=K.sup.used)with
 |true=>
  rw[h1,cond_true]at h;cases h2:yy x with
  |true=>rw[h2]at h;cases h;omega
  |false=>rw[h2]at h;cases h
 |false=>
  rw[h1,cond_false]at h;cases h2:tf K.sup x with
  |true=>rw[h2]at h;cases h;simp
  |false=>rw[h2]at h;cases h
theorem Zqo {K:bA} : ∀ {x:List bL} {k:Int} {v v':aW},lu K k x v=some v'->v'.aw.length<=v.aw.length+x.length
 |[],_,_,_,h=>by cases h;simp
 |x::r,k,v,v',h=>by
  unfold lu at h;cases h1:oy K k x v with
  |none=>rw[h1]at h;cases h
  |some w=>
   rw[h1]at h;have:=ZtI h1;have:=Zqo h;simp;omega
structure yb (K:bA):Prop where
 m:K.sup.blocks=(K.m:Int)
 A9:K.m*64<=K.img.length
 len:K.img.length<1000000
theorem c9.wk (h:c9 K s v L z1 p1 z2 p2 z3 p3 z4 p4 hd):Wk K s v L:=⟨_,_,_,_,_,_,_,_,_,h⟩
theorem ZAu {Bd:Za} (h:Gd Bd) (n:Nat) (hK:yb K) (k slot:Int) (SC:0<=slot) (ga:slot<=100000) (hW:Wk K s v L) (hl:v.aw.length<100000) (hn:180<=n):
  Ok (om K s L (kQ K k slot v) []) (run Bd n 229 [.ptr (some (K.w,0)),.int .i64 k,.int .i64 slot] s):=by
 obtain⟨n,rfl⟩: ∃k,n=k+2:=⟨n-2,by omega⟩;rw[Zf,h.eq];unfold FZ kQ;simp only[fm,al,ae,Zc];obtain⟨z1,p1,z2,p2,z3,p3,z4,p4,hd,hW⟩:=hW;refine Ok.r8 (hW.take h.vL (n+1) k hK.m hK.A9 hK.len (by omega)) ?_ ?_
 ·intro s' hp
  cases ht:dh K k v with
  |none=>rw[ht]at hp;cases hp;exact⟨s,rfl,.refl L s⟩
  |some q=>rw[ht]at hp;obtain⟨d,s2,e,_⟩:=hp;cases e
 intro ds s1 hp;cases ht:dh K k v with
 |none=>rw[ht]at hp;cases hp
 |some q=>
  obtain⟨b,v1⟩:=q;rw[ht]at hp;obtain⟨d,s2,e,gz,bQ,hb⟩:=hp;cases e;have nQ:v1.aw=v.aw:=by
   unfold dh at ht;cases hf:pK K.m v.W k with
   |false=>rw[hf]at ht;cases ht
   |true=>rw[hf]at ht;cases ht;rfl
  have mL:Fx L s s1:=bQ.mono fun y hy=>by rw[bK.1 hy];exact hW.sw
  simp only[xZ,ae];cases b with
  |node x=>obtain⟨p,rfl,_⟩:=hb;exact .mk ⟨s1,rfl,mL⟩
  |cE x=>obtain⟨rfl,_⟩:=hb;exact .mk ⟨s1,rfl,mL⟩
  |queue x=>obtain⟨rfl,_⟩:=hb;exact .mk ⟨s1,rfl,mL⟩
  |dir x=>obtain⟨p,rfl,_⟩:=hb;exact .mk ⟨s1,rfl,mL⟩
  |none=>cases hb;exact .mk ⟨s1,rfl,mL⟩
  |leaf x=>
   obtain⟨rfl,hx⟩:=hb;have hlen:(bV x).length=21:=by rw[ZT,hx]
   show Ok (om K s L (lu K slot x v1) []) (D.len (bV x) 21 _ _);obtain⟨R,hR⟩: ∃R,lu K slot x v1=R:=⟨_,rfl⟩;rw[hR];rw[bF hlen,show(bV x).take 21=bV x from cA (by omega)];refine Zl _ (fun q y t=>∃(i:Nat) (u:aW) (Lu:List Nat),y=[.int .i64 i]/\i<=7/\7-i<=q/\Wk K t u Lu/\Fx L s t/\Nw L s Lu/\u.aw.length<=v.aw.length+i/\lu K (slot+i) (x.drop i) u=R) ?_ 7 (n+1) _ _ ⟨0,v1,L,rfl,by omega,by omega,gz.wk,mL,.refl L s,by rw[nQ];omega,by simp[hR]⟩ (by omega);rintro q _ t ⟨i,u,Lu,rfl,hi,hq,cF,eD,gP,xu,aA⟩ rec aD;simp only[al,ae];by_cases aj:i<7
   ·rw[ah (show(i:Int)<7 by omega),cond_true,Zd (show av (i:Int) 7=true from Zk aj),aX]
    have jm:x[i]? =some (x[i]'(by omega)):=ba (by omega);rw[Jd jm];have jy:x.drop i=(x[i]'(by omega))::x.drop (i+1):=gT (by omega);rw[jy]at aA;generalize x[i]'(by omega)=e at aA;obtain⟨z1,p1,z2,p2,z3,p3,z4,p4,hd,cF⟩:=cF;rw[bF (cs:=gk e) (n:=3) rfl,aV,Zn cF.cell rfl];simp only[aM];have cj:af (slot+(i:Int))=slot+i:=Zb (by omega) (by omega);have fU:af ((i:Int)+1)=((i+1:Nat):Int):=Zb (by omega) (by omega);rw[cj,fU];unfold lu oy at aA;have nG:slot+((i+1:Nat):Int)=slot+i+1:=by omega
    cases hk:decide (slot+(i:Int)>=K.sup.used)with
    |true=>
     rw[hk,cond_true]at aA;rw[cond_true];show Ok _ (M.call (run Bd (n+1) 225 [.bool (yy e)]) _ t);cases h0:yy e with
     |true=>
      rw[h0]at aA;rw[pC h.fC n rfl];simp only[ae];exact aD (7-(i+1)) _ _ (by omega) ⟨i+1,u,Lu,rfl,by omega,ay _,cF.wk,eD,gP,by omega,by rw[nG];exact aA⟩
     |false=>
      rw[h0]at aA;rw[ZN h.fC n rfl];simp only[cond_false]at aA;rw[<-aA];exact .mk ⟨t,rfl,eD⟩
    |false=>
     rw[hk,cond_false]at aA;rw[cond_false];have pS:oa K u (cD z1 p1 u.aw.length) (cD z2 p2 u.aB.length) (cD z3 p3 u.gens.length) (cD z4 p4 u.free.length)=oa K u (cD z1 p1 u.aw.length) (cD z2 p2 u.aB.length) (cD z3 p3 u.gens.length) (cD z4 p4 u.free.length):=rfl;clear pS;have je:Ok (om K s L R []) (M.call (run Bd (n+1) 225 [.bool (tf K.sup e)]) (fun ds=>D.nil ds<|M.nn (some (K.w,0)) fun i1 o1=>M.au i1 (o1+11) fun d3=>D.slice 3 d3 fun x4 cO=>D.len (gk e) 3<|M.new (gk e) fun i2=>M.load i2 0 3 fun bw=>M.app 3 x4 cO bw 1 2932031007402 fun p=>M.nn (some (K.w,0)) fun i3 o2=>M.store i3 (o2+11) [.slice 3 p (cO+1)]<|rec [.int .i64 ((i+1:Nat):Int)]) t):=by
      cases h0:tf K.sup e with
      |true=>
       rw[h0]at aA;rw[pC h.fC n rfl];simp only[ae,aV];rw[Zn cF.cell rfl];show Ok _ (D.slice 3 (.slice z1 p1 u.aw.length) _ t);rw[Z5 3 z1 p1 _ cF.e1,bF (cs:=gk e) (n:=3) rfl];obtain⟨b,t1,t2,L2,g1,g2,g3,g4,g5⟩:=cF.Y2 (β:=List DV) e (by omega);rw[g1,dj,g2];exact aD (7-(i+1)) _ _ (by omega) ⟨i+1,_,L2,rfl,by omega,ay _,g3,eD.step g4 gP,gP.trans eD.1 g5,by simp;omega,by rw[nG];exact aA⟩
      |false=>
       rw[h0]at aA;rw[ZN h.fC n rfl];simp only[cond_false]at aA;rw[<-aA];exact .mk ⟨t,rfl,eD⟩
     unfold tf at je;rw[kB (i:=1) (d:= .int .i64 e.gen) rfl];simp only[aM];have pV: ∀Kc:DV->M (List DV),M.au K.w (0+4) Kc t=Kc (.int .i64 K.sup.g) t:=fun Kc=>Zn cF.cell rfl Kc
     cases pS:decide (e.gen>=1)with
     |false=>
      simp only[pS,cond_false,eL]at je;simp only[cond_false,ai,ae];exact je
     |true=>
      simp only[pS,cond_true]at je;rw[cond_true,kB (i:=1) (d:= .int .i64 e.gen) rfl];simp only[aM,aV];rw[pV];simp only[aM,ai,ae];cases sf:decide (e.gen<=K.sup.g)with
      |false=>
       simp only[sf,eL]at je;simp only[cond_false];exact je
      |true=>
       simp only[sf,cI]at je;rw[cond_true,kB (i:=0) (d:= .bool e.live) rfl];simp only[vW];cases gE:e.live with
       |true=>
        simp only[gE,cond_true]at je;rw[cond_true];simp only[cond_true];exact je
       |false=>
        simp only[gE,cond_false]at je;rw[cond_false,kB (i:=1) (d:= .int .i64 e.gen) rfl];simp only[aM];rw[pV];simp only[aM];cases DP:decide (e.gen<K.sup.g)with
        |true=>
         simp only[DP,cond_true]at je;rw[cond_true];exact je
        |false=>
         simp only[DP,cond_false]at je;rw[cond_false,kB (i:=2) (d:= .int .i64 e.block) rfl];simp only[aM];exact je
   ·rw[ao (show ¬(i:Int)<7 by omega),cond_false]
    rw[mZ (by omega)]at aA;simp only[Ze];rw[<-aA];exact .mk ⟨t,Lu,rfl,cF,eD,gP⟩
end Go.Gv.F
namespace Go.Gv.F
open Go.Gv
variable {β:Type}
variable {K:bA} {s:St} {v:aW} {L:List Nat} {z1 z2 z3 z4:Nat} {p1 p2 p3 p4:Option (Nat×Nat)} {hd:List DV}
theorem Zn6 {l:List UInt8} {x:List bL} (h:ZK l= .leaf x):x.length=7:=by
 unfold ZK at h;split at h
 ·cases h
 ·split at h
  ·rename_i e;cases h;exact NB e
  ·split at h
   ·cases h
   ·split at h
    ·cases h
    ·split at h<;>cases h
theorem ZY {K:bA} {k:Int} {v v':aW} {b:xY} (h:dh K k v=some (b,v')):v'.aw=v.aw/\v'.aB=v.aB/\v'.gens=v.gens/\v'.free=v.free/\v'.nodes=v.nodes/\b=ZK (Z7 K.img k.toNat):=by
 unfold dh at h;cases hf:pK K.m v.W k with
 |false=>rw[hf]at h;cases h
 |true=>rw[hf]at h;cases h;exact⟨rfl,rfl,rfl,rfl,rfl,rfl⟩
theorem Zr1 {K:bA} {k slot:Int} {v v':aW} (h:kQ K k slot v=some v'):v'.aw.length<=v.aw.length+7:=by
 unfold kQ at h;cases ht:dh K k v with
 |none=>rw[ht]at h;cases h
 |some q=>
  obtain⟨b,v1⟩:=q;rw[ht]at h;obtain⟨h1,_,_,_,_,h2⟩:=ZY ht;cases b with
  |leaf x=>
   have:=Zqo h;rw[h1,Zn6 h2.symm]at this;exact this
  |node x=>cases h
  |cE x=>cases h
  |queue x=>cases h
  |dir x=>cases h
  |none=>cases h
def jt (K:bA) (cnt x5:Int):Int->List Int->aW->Option aW
 |_,[],v=>some v
 |k,y::r,v=>bif (!(y==0))==decide (x5*16+k<cnt)then(bif !(y==0)then(match kQ K y ((x5*16+k)*7) v with
   |none=>none
   |some v'=>jt K cnt x5 (k+1) r v')else jt K cnt x5 (k+1) r v)else none
def mb (K:bA) (cnt:Int):Int->List Int->aW->Option aW
 |_,[],v=>some v
 |k,y::r,v=>bif (!(y==0))==decide (k*16<cnt)then(bif y==0 then mb K cnt (k+1) r v else(match dh K y v with
   |some (.cE x,v')=>(match jt K cnt k 0 x v' with
    |none=>none
    |some v''=>mb K cnt (k+1) r v'')
   |_=>none))else none
def nu (K:bA) (v:aW):Option aW:=bif K.sup.used==0 then some v else(match dh K K.sup.cE v with
 |some (.cE x,v')=>mb K (wq K.sup.used) 0 x v'
 |_=>none)
theorem OD {K:bA} {cnt x5:Int} : ∀ {x:List Int} {k:Int} {v v':aW},jt K cnt x5 k x v=some v'->v'.aw.length<=v.aw.length+7*x.length
 |[],_,_,_,h=>by cases h;simp
 |y::r,k,v,v',h=>by
  unfold jt at h;cases h1:((!(y==0))==decide (x5*16+k<cnt))with
  |false=>rw[h1]at h;cases h
  |true=>
   rw[h1,cond_true]at h;cases h2:(!(y==0))with
   |false=>
    rw[h2,cond_false]at h;have:=OD h;simp;omega
   |true=>
    rw[h2,cond_true]at h;cases h3:kQ K y ((x5*16+k)*7) v with
    |none=>rw[h3]at h;cases h
    |some w=>
     rw[h3]at h;have:=OD h;have:=Zr1 h3;simp;omega
theorem ZAC {Bd:Za} (hL:Gd Bd) (hM:ZZ Bd) (n:Nat) (hK:yb K) (cnt:Int) (i5:Nat) (h5:i5<16) (x:List Int) (hx:x.length=16) (hn:181<=n) (s:St) (L:List Nat) (t0:St) (L0:List Nat) (v0:aW)
  (hW:Wk K t0 v0 L0) (hf:Fx L s t0) (eV:Nw L s L0) (hl:v0.aw.length<10000)
  (R:Option aW) (Kn:M (List DV)) (aA: ∀w,jt K cnt (i5:Int) 0 x v0=some w->∀t Lw,Wk K t w Lw->Fx L s t->Nw L s Lw->Ok (om K s L R []) (Kn t)) (bz:jt K cnt (i5:Int) 0 x v0=none->R=none):
  Ok (om K s L R []) (M.loop (fun dO st=>
      J.i .i64 st fun x8 st=>
      D.nil st<|
      bif decide (x8<16)then
       M.ak (av x8 16)<|
      D.nth ((ints x).take 16) (x8.toNat*1) fun d6=>
      D.int .i64 d6 fun x9=>
      M.call (run Bd n 225 [.bool ((!(x9==0))==(decide (af ((af ((i5:Int)*16))+x8)<cnt)))]) fun ds=>
      D.nil ds<|
      bif !(x9==0)then
       M.call (run Bd n 229 [.ptr (some (K.w,0)),.int .i64 x9,.int .i64 (af ((af ((af ((i5:Int)*16))+x8))*7))]) fun ds=>
      D.nil ds<|
      dO [.int .i64 (af (x8+1))]
      else
       dO [.int .i64 (af (x8+1))]
      else
       Kn) n [.int .i64 0] t0):=by
 obtain⟨n,rfl⟩: ∃k,n=k+1:=⟨n-1,by omega⟩;rw[show(ints x).take 16=ints x from cA (by simp[ints,hx])];obtain⟨G,hG⟩: ∃G,jt K cnt (i5:Int) 0 x v0=G:=⟨_,rfl⟩;rw[hG]at aA bz;refine Zl _ (fun q y t=>∃(i:Nat) (u:aW) (Lu:List Nat),y=[.int .i64 i]/\i<=16/\16-i<=q/\Wk K t u Lu/\Fx L s t/\Nw L s Lu/\u.aw.length<=v0.aw.length+7*i/\jt K cnt i5 i (x.drop i) u=G) ?_ 16 (n+1) _ _ ⟨0,v0,L0,rfl,by omega,by omega,hW,hf,eV,by omega,by simpa using hG⟩ (by omega);rintro q _ t ⟨i,u,Lu,rfl,hi,hq,cF,eD,gP,xu,cG⟩ rec aD;simp only[al,ae];by_cases aj:i<16
 ·have jm:x[i]? =some (x[i]'(by omega)):=ba (by omega)
  have jy:x.drop i=(x[i]'(by omega))::x.drop (i+1):=gT (by omega);rw[jy]at cG;rw[ah (show(i:Int)<16 by omega),cond_true,Zd (show av (i:Int) 16=true from Zk aj),aX,di,kB (Zu (by omega))];simp only[aM];generalize x[i]'(by omega)=y at cG;have cj:af ((i5:Int)*16)=(i5:Int)*16:=Zb (by omega) (by omega);have fU:af ((i5:Int)*16+i)=(i5:Int)*16+i:=Zb (by omega) (by omega);have nR:af (((i5:Int)*16+i)*7)=((i5:Int)*16+i)*7:=Zb (by omega) (by omega);have oM:af ((i:Int)+1)=((i+1:Nat):Int):=Zb (by omega) (by omega);rw[cj,fU,nR,oM];have nG:((i+1:Nat):Int)=(i:Int)+1:=by omega
  unfold jt at cG;cases h1:((!(y==0))==decide ((i5:Int)*16+i<cnt))with
  |false=>
   rw[h1,cond_false]at cG;rw[ZN hM n rfl];rw[bz cG.symm];exact .mk ⟨t,rfl,eD⟩
  |true=>
   rw[h1,cond_true]at cG;rw[pC hM n rfl];simp only[ae];cases h2:(!(y==0))with
   |false=>
    rw[h2,cond_false]at cG;rw[cond_false];exact aD (16-(i+1)) _ _ (by omega) ⟨i+1,u,Lu,rfl,by omega,ay _,cF,eD,gP,by omega,by rw[nG];exact cG⟩
   |true=>
    rw[h2,cond_true]at cG;rw[cond_true];refine Ok.r8 (ZAu hL (n+1) hK y (((i5:Int)*16+i)*7) (by omega) (by omega) cF (by omega) (by omega)) ?_ ?_
    ·intro t' hp
     cases h3:kQ K y (((i5:Int)*16+i)*7) u with
     |some w=>rw[h3]at hp;obtain⟨_,_,e,_⟩:=hp;cases e
     |none=>
      rw[h3]at hp cG;obtain⟨t2,e,se⟩:=hp;cases e;rw[bz cG.symm];exact⟨t',rfl,eD.step se gP⟩
    ·intro ds t' hp
     cases h3:kQ K y (((i5:Int)*16+i)*7) u with
     |none=>rw[h3]at hp;obtain⟨_,e,_⟩:=hp;cases e
     |some w=>
      rw[h3]at hp cG;obtain⟨t2,L2,e,jN,se,mN⟩:=hp;cases e;simp only[ae];have iD:=Zr1 h3;exact aD (16-(i+1)) _ _ (by omega) ⟨i+1,w,L2,rfl,by omega,ay _,jN,eD.step se gP,gP.trans eD.1 mN,by omega,by rw[nG];exact cG⟩
 ·rw[ao (show ¬(i:Int)<16 by omega),cond_false]
  rw[mZ (by omega)]at cG;exact aA u cG.symm t Lu cF eD gP
theorem ZzV {Bd:Za} (h:Mq Bd) (n:Nat) (hK:yb K) (hW:Wk K s v L) (hl:v.aw.length<1000) (hn:190<=n):
  Ok (om K s L (nu K v) []) (run Bd n 226 [.ptr (some (K.w,0))] s):=by
 obtain⟨n,rfl⟩: ∃k,n=k+2:=⟨n-2,by omega⟩;rw[Zf,h.eq];unfold Gi nu;simp only[fm,ae,Zc,aV];obtain⟨z1,p1,z2,p2,z3,p3,z4,p4,hd,hW⟩:=hW;rw[Zn hW.cell rfl];simp only[aM];cases hu:(K.sup.used==0)with
 |true=>
  rw[cond_true,cond_true,Ze];exact .mk ⟨s,L,rfl,hW.wk,.refl L s,.refl L s⟩
 |false=>
  rw[cond_false,cond_false,Zn hW.cell rfl];simp only[aM];have vi:=ZqQ h.q62 (n-1) K.sup.used s;rw[show n-1+2=n+1 by omega]at vi;rw[Zi vi];simp only[al,ae];rw[Zn hW.cell rfl];simp only[aM];generalize wq K.sup.used=cnt;refine Ok.r8 (hW.take h.vL (n+1) K.sup.cE hK.m hK.A9 hK.len (by omega)) ?_ ?_
  ·intro s' hp
   cases ht:dh K K.sup.cE v with
   |none=>rw[ht]at hp;cases hp;exact⟨s,rfl,.refl L s⟩
   |some q=>rw[ht]at hp;obtain⟨d,s2,e,_⟩:=hp;cases e
  intro ds s1 hp;cases ht:dh K K.sup.cE v with
  |none=>rw[ht]at hp;cases hp
  |some q=>
   obtain⟨b,v1⟩:=q;rw[ht]at hp;obtain⟨d,s2,e,gz,bQ,hb⟩:=hp;cases e;have nQ:=(ZY ht).1;have mL:Fx L s s1:=bQ.mono fun y hy=>by rw[bK.1 hy];exact hW.sw
   simp only[xZ,ae];cases b with
   |node x=>obtain⟨p,rfl,_⟩:=hb;exact .mk ⟨s1,rfl,mL⟩
   |leaf x=>obtain⟨rfl,_⟩:=hb;exact .mk ⟨s1,rfl,mL⟩
   |queue x=>obtain⟨rfl,_⟩:=hb;exact .mk ⟨s1,rfl,mL⟩
   |dir x=>obtain⟨p,rfl,_⟩:=hb;exact .mk ⟨s1,rfl,mL⟩
   |none=>cases hb;exact .mk ⟨s1,rfl,mL⟩
   |cE x=>
    obtain⟨rfl,hx⟩:=hb;have hlen:(ints x).length=16:=by simp[ints,hx]
    show Ok (om K s L (mb K cnt 0 x v1) []) (D.len (ints x) 16 _ _);obtain⟨R,hR⟩: ∃R,mb K cnt 0 x v1=R:=⟨_,rfl⟩;rw[hR,bF hlen,show(ints x).take 16=ints x from cA (by omega)];refine Zl _ (fun q y t=>∃(i:Nat) (u:aW) (Lu:List Nat),y=[.int .i64 i]/\i<=16/\16-i<=q/\Wk K t u Lu/\Fx L s t/\Nw L s Lu/\u.aw.length<=v.aw.length+112*i/\mb K cnt i (x.drop i) u=R) ?_ 16 (n+1) _ _ ⟨0,v1,L,rfl,by omega,by omega,gz.wk,mL,.refl L s,by rw[nQ];omega,by simpa using hR⟩ (by omega);rintro q _ t ⟨i,u,Lu,rfl,hi,hq,cF,eD,gP,xu,aA⟩ rec aD;simp only[al,ae];by_cases aj:i<16
    ·have jm:x[i]? =some (x[i]'(by omega)):=ba (by omega)
     have jy:x.drop i=(x[i]'(by omega))::x.drop (i+1):=gT (by omega);rw[jy]at aA;rw[ah (show(i:Int)<16 by omega),cond_true,Zd (show av (i:Int) 16=true from Zk aj),aX,di,kB (Zu (by omega))];simp only[aM];generalize x[i]'(by omega)=y at aA;have cj:af ((i:Int)*16)=(i:Int)*16:=Zb (by omega) (by omega);have oM:af ((i:Int)+1)=((i+1:Nat):Int):=Zb (by omega) (by omega);have nG:((i+1:Nat):Int)=(i:Int)+1:=by omega
     rw[show decide (af ((i:Int)*16)<cnt)=decide ((i:Int)*16<cnt) by rw[cj]];unfold mb at aA;cases h1:((!(y==0))==decide ((i:Int)*16<cnt))with
     |false=>
      rw[h1,cond_false]at aA;rw[ZN h.fC n rfl,<-aA];exact .mk ⟨t,rfl,eD⟩
     |true=>
      rw[h1,cond_true]at aA;rw[pC h.fC n rfl];simp only[ae];cases h2:(y==0)with
      |true=>
       rw[h2,cond_true]at aA;rw[cond_true,oM];exact aD (16-(i+1)) _ _ (by omega) ⟨i+1,u,Lu,rfl,by omega,ay _,cF,eD,gP,by omega,by rw[nG];exact aA⟩
      |false=>
       rw[h2,cond_false]at aA;rw[cond_false];obtain⟨z1,p1,z2,p2,z3,p3,z4,p4,hd,cF⟩:=cF;refine Ok.r8 (cF.take h.vL (n+1) y hK.m hK.A9 hK.len (by omega)) ?_ ?_
       ·intro s' hp
        cases ht:dh K y u with
        |none=>rw[ht]at hp aA;cases hp;rw[<-aA];exact⟨t,rfl,eD⟩
        |some q=>rw[ht]at hp;obtain⟨d,s2,e,_⟩:=hp;cases e
       intro ds t1 hp;cases ht:dh K y u with
       |none=>rw[ht]at hp;cases hp
       |some q=>
        obtain⟨b,u1⟩:=q;rw[ht]at hp aA;obtain⟨d,s2,e,jN,eG,hb⟩:=hp;cases e;have BL:=(ZY ht).1;have oF:Fx L s t1:=eD.step (eG.mono (T':=Lu) fun y hy=>by rw[bK.1 hy];exact cF.sw) gP;simp only[xZ,ae];cases b with
        |node x=>obtain⟨p,rfl,_⟩:=hb;rw[<-aA];exact .mk ⟨t1,rfl,oF⟩
        |leaf x=>obtain⟨rfl,_⟩:=hb;rw[<-aA];exact .mk ⟨t1,rfl,oF⟩
        |queue x=>obtain⟨rfl,_⟩:=hb;rw[<-aA];exact .mk ⟨t1,rfl,oF⟩
        |dir x=>obtain⟨p,rfl,_⟩:=hb;rw[<-aA];exact .mk ⟨t1,rfl,oF⟩
        |none=>cases hb;rw[<-aA];exact .mk ⟨t1,rfl,oF⟩
        |cE x2=>
         obtain⟨rfl,nS⟩:=hb;have BD:(ints x2).length=16:=by simp[ints,nS]
         show Ok _ (D.len (ints x2) 16 _ _);rw[bF BD];refine ZAC h.q20 h.fC (n+1) hK cnt i aj x2 nS (by omega) s L t1 Lu u1 jN.wk oF gP (by rw[BL];omega) R (rec [.int .i64 (af ((i:Int)+1))]) ?_ ?_
         ·intro w hw t2 Lw hWw KM eV
          have iD:=OD hw;simp only at aA;rw[hw]at aA;rw[oM];refine aD (16-(i+1)) _ _ (by omega) ⟨i+1,w,Lw,rfl,by omega,ay _,hWw,KM,eV,?_,by rw[nG];exact aA⟩;rw[BL]at iD;omega
         ·intro hw
          simp only at aA;rw[hw]at aA;exact aA.symm
    ·rw[ao (show ¬(i:Int)<16 by omega),cond_false]
     rw[mZ (by omega)]at aA;rw[Ze,<-aA];exact .mk ⟨t,Lu,rfl,cF,eD,gP⟩
end Go.Gv.F
namespace Go.Gv.F
open Go.Gv
variable {β:Type}
variable {K:bA} {s:St} {v:aW} {L:List Nat} {z1 z2 z3 z4:Nat} {p1 p2 p3 p4:Option (Nat×Nat)} {hd:List DV}
theorem O4 {A B C:List Nat} (h:(A++(B++C)).Nodup): ∀y∈A++C,y∉B:=by
 rw[hY,hY]at h;obtain⟨_,⟨_,_,h2⟩,h3⟩:=h;intro y hy hm;rcases cW.1 hy with h|h
 ·exact h3 y h y (cW.2 (.inl hm)) rfl
 ·exact h2 y hm y h rfl
theorem c9.YZ (h:c9 K s v L z1 p1 z2 p2 z3 p3 z4 p4 hd) (x:Int) (hl:v.free.length<1000000):
  ∃b s1 s2 L',(∀Kc:Option (Nat×Nat)->M β,(M.new [DV.int .i64 x] fun i=>M.load i 0 1 fun cs'=>M.app 1 p4 v.free.length cs' 1 8796093022208 Kc) s=Kc (some (b,0)) s1)/\
   (∀Kc:M β,M.store K.w 17 [.slice 1 (some (b,0)) (v.free.length+1)] Kc s1=Kc s2)/\c9 K s2 { v with free:=v.free++[x] } L' z1 p1 z2 p2 z3 p3 1 (some (b,0)) (hd)/\Fx L s s2/\Nw L s L'/\Fx (K.w::aF p4) s s2:=by
 obtain⟨b,s1,hb,ho,bQ,he⟩:=uH (β:=β) (lim:=8796093022208) h.o4 (sz:=1) (n:=v.free.length) [DV.int .i64 x] (by omega) (by simp[ints]) rfl (by omega);have bn:=h.ne;have cj:=bQ.2 K.w _ (fun hm=>(bn.2.2.2 K.w (by simp[hm])).1 rfl) h.cell;have yF: ∀x∈aF p4,x∈L:=fun x hx=>by rw[h.own];simp[hx]
 let L':=K.w::K.i::K.j::(aF p1++(aF p2++(aF p3++aF (some (b,0)))))
 let S':=s1.set K.w (some ⟨false,oa K { v with free:=v.free++[x] } (cD z1 p1 v.aw.length) (cD z2 p2 v.aB.length) (cD z3 p3 v.gens.length) (cD 1 (some (b,0)) (v.free.length+1))⟩)
 have eG:Fx L s S':=
  (bQ.mono yF).trans ((Fx.set s1 K.w _).mono fun y hy=>by rw[bK.1 hy];exact h.zn)
 have cZ:((K.w::K.i::K.j::(aF p1++(aF p2++aF p3)))++(aF p4++([]:List Nat))).Nodup:=by
  have:=h.nodup;rw[h.own]at this;simpa only[dD,kz,fe,ez]using this
 have D2: ∀y∈(K.w::K.i::K.j::(aF p1++(aF p2++aF p3)))++(aF p4++([]:List Nat)),y<s.length:=fun y hy=>h.lt y (by
  rw[h.own];simpa only[dD,kz,fe,ez]using hy)
 have yT:L'.Nodup:=by
  have:=IJ cZ D2 hb;show(K.w::K.i::K.j::(aF p1++(aF p2++(aF p3++aF (some (b,0)))))).Nodup;simpa only[dD,kz,fe,ez,aF]using this
 have eV:Nw L s L':=fun y hy=>by
  have mR:y∈K.w::K.i::K.j::(aF p1++(aF p2++(aF p3++aF (some (b,0))))):=hy;rw[h.own];by_cases e:y=b
  ·exact .inr (by omega)
  ·refine .inl ?_
   simp only[bX,cW,aF,List.mem_nil_iff,iN]at mR⊢;simp only[e,iN]at mR;rcases mR with h1|h1|h1|h1
   ·exact .inl h1
   ·exact .inr (.inl h1)
   ·exact .inr (.inr (.inl h1))
   ·exact .inr (.inr (.inr (by rcases h1 with h1|h1|h1<;>simp[h1])))
 have ee:Fx (K.w::aF p4) s S':=
  ⟨eG.1,fun y c hy hc=>by
   simp only[bX,not_or]at hy;show(s1.set K.w _)[y]? =_;rw[eu (by omega)];exact bQ.2 y c hy.2 hc⟩
 have D4:=O4 cZ;have jx: ∀y,y∈aF p1++(aF p2++aF p3)->y∉K.w::aF p4:=fun y hy hm=>by
  rcases bX.1 hm with e|e
  ·refine(bn.2.2.2 y ?_).1 e
   simp only[cW]at hy⊢;rcases hy with e|e|e
   ·exact .inl e
   ·exact .inr (.inl e)
   ·exact .inr (.inr (.inl e))
  ·exact D4 y (by simp only[cW,bX]at hy⊢;rcases hy with e|e|e<;>simp[e]) e
 have qU:b≠K.w:=fun e=>by have:=(cd.1 h.cell).1;omega
 refine⟨b,s1,S',L',he,fun Kc=>?_,⟨?_,h.e1,h.e2,h.e3,.inl rfl,?_,?_,?_,?_,?_,?_,?_,?_,rfl,yT⟩,eG,eV,ee⟩
 ·rw[rK cj (by show 17<19;omega)]
  rfl
 ·show(s1.set K.w _)[K.w]? =_
  rw[fJ (by have:=(cd.1 cj).1;exact this),bg];rfl
 ·exact h.o1.fx ee fun y hy=>jx y (by simp[hy])
 ·exact h.o2.fx ee fun y hy=>jx y (by simp[hy])
 ·exact h.o3.fx ee fun y hy=>jx y (by simp[hy])
 ·rw[show ints (v.free++[x])=ints v.free++[.int .i64 x] by unfold ints;rw[dL];rfl]
  exact(show aY [] s1 (some (b,0)) _ from ho).fx (Fx.set s1 K.w _) (fun y hy=>by
   rw[bK.1 hy,bK];exact qU)
 ·exact h.aB.fx eG eV
 ·exact h.set.fx ee (fun hm=>by
   rcases bX.1 hm with e|e
   ·exact bn.1 e.symm
   ·exact(bn.2.2.2 K.i (by simp only[cW];exact .inr (.inr (.inr e)))).2.1 rfl) (fun hm=>by
   rcases bX.1 hm with e|e
   ·exact bn.2.1 e.symm
   ·exact(bn.2.2.2 K.j (by simp only[cW];exact .inr (.inr (.inr e)))).2.2 rfl)
 ·exact Sl.fx h.img eG h.off
 ·exact h.off.new h.img eV
theorem c9.Y0 (h:c9 K s v L z1 p1 z2 p2 z3 p3 z4 p4 hd) (x:Int) (hl:v.gens.length<1000000):
  ∃b s1 s2 L',(∀Kc:Option (Nat×Nat)->M β,(M.new [DV.int .i64 x] fun i=>M.load i 0 1 fun cs'=>M.app 1 p3 v.gens.length cs' 1 8796093022208 Kc) s=Kc (some (b,0)) s1)/\
   (∀Kc:M β,M.store K.w 16 [.slice 1 (some (b,0)) (v.gens.length+1)] Kc s1=Kc s2)/\c9 K s2 { v with gens:=v.gens++[x] } L' z1 p1 z2 p2 1 (some (b,0)) z4 p4 (hd)/\Fx L s s2/\Nw L s L'/\Fx (K.w::aF p3) s s2:=by
 obtain⟨b,s1,hb,ho,bQ,he⟩:=uH (β:=β) (lim:=8796093022208) h.o3 (sz:=1) (n:=v.gens.length) [DV.int .i64 x] (by omega) (by simp[ints]) rfl (by omega);have bn:=h.ne;have cj:=bQ.2 K.w _ (fun hm=>(bn.2.2.2 K.w (by simp[hm])).1 rfl) h.cell;have yF: ∀x∈aF p3,x∈L:=fun x hx=>by rw[h.own];simp[hx]
 let L':=K.w::K.i::K.j::(aF p1++(aF p2++(aF (some (b,0))++aF p4)))
 let S':=s1.set K.w (some ⟨false,oa K { v with gens:=v.gens++[x] } (cD z1 p1 v.aw.length) (cD z2 p2 v.aB.length) (cD 1 (some (b,0)) (v.gens.length+1)) (cD z4 p4 v.free.length)⟩)
 have eG:Fx L s S':=
  (bQ.mono yF).trans ((Fx.set s1 K.w _).mono fun y hy=>by rw[bK.1 hy];exact h.zn)
 have cZ:((K.w::K.i::K.j::(aF p1++aF p2))++(aF p3++aF p4)).Nodup:=by
  have:=h.nodup;rw[h.own]at this;simpa only[dD,kz,fe,ez]using this
 have D2: ∀y∈(K.w::K.i::K.j::(aF p1++aF p2))++(aF p3++aF p4),y<s.length:=fun y hy=>h.lt y (by
  rw[h.own];simpa only[dD,kz,fe,ez]using hy)
 have yT:L'.Nodup:=by
  have:=IJ cZ D2 hb;show(K.w::K.i::K.j::(aF p1++(aF p2++(aF (some (b,0))++aF p4)))).Nodup;simpa only[dD,kz,fe,ez,aF]using this
 have eV:Nw L s L':=fun y hy=>by
  have mR:y∈K.w::K.i::K.j::(aF p1++(aF p2++(aF (some (b,0))++aF p4))):=hy;rw[h.own];by_cases e:y=b
  ·exact .inr (by omega)
  ·refine .inl ?_
   simp only[bX,cW,aF,List.mem_nil_iff,iN]at mR⊢;simp only[e,false_or]at mR;rcases mR with h1|h1|h1|h1
   ·exact .inl h1
   ·exact .inr (.inl h1)
   ·exact .inr (.inr (.inl h1))
   ·exact .inr (.inr (.inr (by rcases h1 with h1|h1|h1<;>simp[h1])))
 have ee:Fx (K.w::aF p3) s S':=
  ⟨eG.1,fun y c hy hc=>by
   simp only[bX,not_or]at hy;show(s1.set K.w _)[y]? =_;rw[eu (by omega)];exact bQ.2 y c hy.2 hc⟩
 have D4:=O4 cZ;have jx: ∀y,y∈aF p1++(aF p2++aF p4)->y∉K.w::aF p3:=fun y hy hm=>by
  rcases bX.1 hm with e|e
  ·refine(bn.2.2.2 y ?_).1 e
   simp only[cW]at hy⊢;rcases hy with e|e|e
   ·exact .inl e
   ·exact .inr (.inl e)
   ·exact .inr (.inr (.inr e))
  ·exact D4 y (by simp only[cW,bX]at hy⊢;rcases hy with e|e|e<;>simp[e]) e
 have qU:b≠K.w:=fun e=>by have:=(cd.1 h.cell).1;omega
 refine⟨b,s1,S',L',he,fun Kc=>?_,⟨?_,h.e1,h.e2,.inl rfl,h.e4,?_,?_,?_,?_,?_,?_,?_,?_,rfl,yT⟩,eG,eV,ee⟩
 ·rw[rK cj (by show 16<19;omega)]
  rfl
 ·show(s1.set K.w _)[K.w]? =_
  rw[fJ (by have:=(cd.1 cj).1;exact this),bg];rfl
 ·exact h.o1.fx ee fun y hy=>jx y (by simp[hy])
 ·exact h.o2.fx ee fun y hy=>jx y (by simp[hy])
 ·rw[show ints (v.gens++[x])=ints v.gens++[.int .i64 x] by unfold ints;rw[dL];rfl]
  exact(show aY [] s1 (some (b,0)) _ from ho).fx (Fx.set s1 K.w _) (fun y hy=>by
   rw[bK.1 hy,bK];exact qU)
 ·exact h.o4.fx ee fun y hy=>jx y (by simp[hy])
 ·exact h.aB.fx eG eV
 ·exact h.set.fx ee (fun hm=>by
   rcases bX.1 hm with e|e
   ·exact bn.1 e.symm
   ·exact(bn.2.2.2 K.i (by simp only[cW];exact .inr (.inr (.inl e)))).2.1 rfl) (fun hm=>by
   rcases bX.1 hm with e|e
   ·exact bn.2.1 e.symm
   ·exact(bn.2.2.2 K.j (by simp only[cW];exact .inr (.inr (.inl e)))).2.2 rfl)
 ·exact Sl.fx h.img eG h.off
 ·exact h.off.new h.img eV
theorem c9.Y1 (h:c9 K s v L z1 p1 z2 p2 z3 p3 z4 p4 hd) (x:cN) (hl:v.aB.length<1000000) {z:Nat} {p:Option (Nat×Nat)} (hz:z=4\/p=none) (hs:Sl s p (bP x.aN)) (K8:j6 L p):
  ∃b s1 s2 L',(∀Kc:Option (Nat×Nat)->M β,(M.new (lG x z p) fun i=>M.load i 0 2 fun cs'=>M.app 2 p2 v.aB.length cs' 1 1759218604441 Kc) s=Kc (some (b,0)) s1)/\
   (∀Kc:M β,M.store K.w 15 [.slice 2 (some (b,0)) (v.aB.length+1)] Kc s1=Kc s2)/\c9 K s2 { v with aB:=v.aB++[x] } L' z1 p1 2 (some (b,0)) z3 p3 z4 p4 (hd++lG x z p)/\Fx L s s2/\Nw L s L'/\Fx (K.w::aF p2) s s2:=by
 obtain⟨b,s1,hb,ho,bQ,he⟩:=uH (β:=β) (lim:=1759218604441) h.o2 (sz:=2) (n:=v.aB.length) (lG x z p) (by omega) h.aB.aB.len rfl (by omega);have bn:=h.ne;have cj:=bQ.2 K.w _ (fun hm=>(bn.2.2.2 K.w (by simp[hm])).1 rfl) h.cell;have yF: ∀x∈aF p2,x∈L:=fun x hx=>by rw[h.own];simp[hx]
 let L':=K.w::K.i::K.j::(aF p1++(aF (some (b,0))++(aF p3++aF p4)))
 let S':=s1.set K.w (some ⟨false,oa K { v with aB:=v.aB++[x] } (cD z1 p1 v.aw.length) (cD 2 (some (b,0)) (v.aB.length+1)) (cD z3 p3 v.gens.length) (cD z4 p4 v.free.length)⟩)
 have eG:Fx L s S':=
  (bQ.mono yF).trans ((Fx.set s1 K.w _).mono fun y hy=>by rw[bK.1 hy];exact h.zn)
 have cZ:((K.w::K.i::K.j::aF p1)++(aF p2++(aF p3++aF p4))).Nodup:=by
  have:=h.nodup;rw[h.own]at this;simpa only[dD,kz,fe,ez]using this
 have D2: ∀y∈(K.w::K.i::K.j::aF p1)++(aF p2++(aF p3++aF p4)),y<s.length:=fun y hy=>h.lt y (by
  rw[h.own];simpa only[dD,kz,fe,ez]using hy)
 have yT:L'.Nodup:=by
  have:=IJ cZ D2 hb;show(K.w::K.i::K.j::(aF p1++(aF (some (b,0))++(aF p3++aF p4)))).Nodup;simpa only[dD,kz,fe,ez,aF]using this
 have eV:Nw L s L':=fun y hy=>by
  have mR:y∈K.w::K.i::K.j::(aF p1++(aF (some (b,0))++(aF p3++aF p4))):=hy;rw[h.own];by_cases e:y=b
  ·exact .inr (by omega)
  ·refine .inl ?_
   simp only[bX,cW,aF,List.mem_nil_iff,iN]at mR⊢;simp only[e,false_or]at mR;rcases mR with h1|h1|h1|h1
   ·exact .inl h1
   ·exact .inr (.inl h1)
   ·exact .inr (.inr (.inl h1))
   ·exact .inr (.inr (.inr (by rcases h1 with h1|h1|h1<;>simp[h1])))
 have ee:Fx (K.w::aF p2) s S':=
  ⟨eG.1,fun y c hy hc=>by
   simp only[bX,not_or]at hy;show(s1.set K.w _)[y]? =_;rw[eu (by omega)];exact bQ.2 y c hy.2 hc⟩
 have D4:=O4 cZ;have jx: ∀y,y∈aF p1++(aF p3++aF p4)->y∉K.w::aF p2:=fun y hy hm=>by
  rcases bX.1 hm with e|e
  ·refine(bn.2.2.2 y ?_).1 e
   simp only[cW]at hy⊢;rcases hy with e|e|e
   ·exact .inl e
   ·exact .inr (.inr (.inl e))
   ·exact .inr (.inr (.inr e))
  ·exact D4 y (by simp only[cW,bX]at hy⊢;rcases hy with e|e|e<;>simp[e]) e
 have qU:b≠K.w:=fun e=>by have:=(cd.1 h.cell).1;omega
 refine⟨b,s1,S',L',he,fun Kc=>?_,⟨?_,h.e1,.inl rfl,h.e3,h.e4,?_,?_,?_,?_,?_,?_,?_,?_,rfl,yT⟩,eG,eV,ee⟩
 ·rw[rK cj (by show 15<19;omega)]
  rfl
 ·show(s1.set K.w _)[K.w]? =_
  rw[fJ (by have:=(cd.1 cj).1;exact this),bg];rfl
 ·exact h.o1.fx ee fun y hy=>jx y (by simp[hy])
 ·skip
  exact(show aY [] s1 (some (b,0)) _ from ho).fx (Fx.set s1 K.w _) (fun y hy=>by
   rw[bK.1 hy,bK];exact qU)
 ·exact h.o3.fx ee fun y hy=>jx y (by simp[hy])
 ·exact h.o4.fx ee fun y hy=>jx y (by simp[hy])
 ·exact(h.aB.fx eG eV).push hz (hs.fx eG K8) (K8.new hs eV)
 ·exact h.set.fx ee (fun hm=>by
   rcases bX.1 hm with e|e
   ·exact bn.1 e.symm
   ·exact(bn.2.2.2 K.i (by simp only[cW];exact .inr (.inl e))).2.1 rfl) (fun hm=>by
   rcases bX.1 hm with e|e
   ·exact bn.2.1 e.symm
   ·exact(bn.2.2.2 K.j (by simp only[cW];exact .inr (.inl e))).2.2 rfl)
 ·exact Sl.fx h.img eG h.off
 ·exact h.off.new h.img eV
end Go.Gv.F
namespace Go.Gv.F
open Go.Gv
variable {β:Type}
variable {K:bA} {s:St} {v:aW} {L:List Nat} {z1 z2 z3 z4:Nat} {p1 p2 p3 p4:Option (Nat×Nat)} {hd:List DV}
def pF (K:bA) (v:aW) (k:Int):Prop:=(v.aw.length:Int)=(if k<=K.sup.used then k else K.sup.used)/\∀x∈v.aw,ZM x=true
theorem ZvM {K:bA} {k:Int} {x:bL} {v v':aW} (hx:ZM x=true) (_h0:0<=K.sup.used) (h:oy K k x v=some v') (ha:pF K v k):pF K v' (k+1):=by
 unfold oy at h;by_cases hk:k>=K.sup.used
 ·rw[ah hk,cond_true]at h
  cases h2:yy x with
  |false=>rw[h2]at h;cases h
  |true=>
   rw[h2]at h;cases h;refine⟨?_,ha.2⟩;rw[ha.1];split<;>split<;>omega
 ·rw[ao hk,cond_false]at h
  cases h2:tf K.sup x with
  |false=>rw[h2]at h;cases h
  |true=>
   rw[h2]at h;cases h;refine⟨?_,fun y hy=>?_⟩
   ·have:=ha.1
    rw[aG (by omega)]at this;rw[aG (by omega)];simp;omega
   ·rcases cW.1 hy with h|h
    ·exact ha.2 y h
    ·rw[bK.1 h];exact hx
theorem ZrQ {K:bA} (h0:0<=K.sup.used): ∀ {x:List bL} {k:Int} {v v':aW},(∀y∈x,ZM y=true)->lu K k x v=some v'->pF K v k->pF K v' (k+x.length)
 |[],k,_,_,_,h,ha=>by cases h;simpa using ha
 |y::r,k,v,v',hr,h,ha=>by
  unfold lu at h;cases h1:oy K k y v with
  |none=>rw[h1]at h;cases h
  |some w=>
   rw[h1]at h;have:=ZrQ h0 (fun z hz=>hr z (by simp[hz])) h (ZvM (hr y (by simp)) h0 h1 ha)
   rwa [show k+((y::r).length:Int)=k+1+r.length by simp;omega]
theorem ZsL {l:List UInt8} {x:List bL} (h:qE l=some x): ∀y∈x,ZM y=true:=by
 unfold qE at h;split at h
 ·cases h
 ·rename_i k t b _
  cases e:(decide (k=2)&&decide (t<128))with
  |false=>rw[e]at h;cases h
  |true=>
   rw[e]at h;cases e2:(kF b t 7).all ZM with
   |false=>rw[e2]at h;cases h
   |true=>rw[e2]at h;cases h;exact gv.1 e2
theorem ZtM {l:List UInt8} {x:List bL} (h:ZK l= .leaf x): ∀y∈x,ZM y=true:=by
 unfold ZK at h;split at h
 ·cases h
 ·split at h
  ·rename_i e;cases h;exact ZsL e
  ·split at h
   ·cases h
   ·split at h
    ·cases h
    ·split at h<;>cases h
theorem Zzp {K:bA} (h0:0<=K.sup.used) {k slot:Int} {v v':aW} (h:kQ K k slot v=some v') (ha:pF K v slot):pF K v' (slot+7):=by
 unfold kQ at h;cases ht:dh K k v with
 |none=>rw[ht]at h;cases h
 |some q=>
  obtain⟨b,v1⟩:=q;rw[ht]at h;obtain⟨h1,_,_,_,_,h2⟩:=ZY ht;cases b with
  |leaf x=>
   have:=ZrQ h0 (ZtM h2.symm) h (by unfold pF;rw[h1];exact ha)
   rwa [Zn6 h2.symm]at this
  |node x=>cases h
  |cE x=>cases h
  |queue x=>cases h
  |dir x=>cases h
  |none=>cases h
theorem OY {K:bA} (h0:0<=K.sup.used) {cnt x5:Int} (hc:K.sup.used<=cnt*7): ∀ {x:List Int} {k:Int} {v v':aW},jt K cnt x5 k x v=some v'->pF K v ((x5*16+k)*7)->pF K v' ((x5*16+k+x.length)*7)
 |[],_,_,_,h,ha=>by cases h;simpa using ha
 |y::r,k,v,v',h,ha=>by
  unfold jt at h;have e:(x5*16+k+((y::r).length:Int))*7=(x5*16+(k+1)+r.length)*7:=by simp;omega
  rw[e];cases h1:((!(y==0))==decide (x5*16+k<cnt))with
  |false=>rw[h1]at h;cases h
  |true=>
   rw[h1,cond_true]at h;cases h2:(!(y==0))with
   |false=>
    rw[h2]at h h1;have hk: ¬(x5*16+k<cnt):=by
     intro hh;rw[ah hh]at h1;cases h1
    refine OY h0 hc h ⟨?_,ha.2⟩;rw[ha.1];split<;>split<;>omega
   |true=>
    rw[h2,cond_true]at h;cases h3:kQ K y ((x5*16+k)*7) v with
    |none=>rw[h3]at h;cases h
    |some w=>
     rw[h3]at h;have:=Zzp h0 h3 ha;rw[show(x5*16+k)*7+7=(x5*16+(k+1))*7 by omega]at this;exact OY h0 hc h this
theorem ZxL {l:List UInt8} {x:List Int} (h:tj l=some x):x.length=16:=by
 unfold tj at h;split at h
 ·cases h
 ·rename_i k t b _
  cases e:(decide (k=3)&&(decide (t=0)&&Zy (b.drop 32)))with
  |false=>rw[e]at h;cases h
  |true=>
   rw[e]at h;cases e2:AE (gD b 16)with
   |false=>rw[e2]at h;cases h
   |true=>rw[e2]at h;cases h;exact rJ b 16
theorem Zpa {l:List UInt8} {x:List Int} (h:ZK l= .cE x):x.length=16:=by
 unfold ZK at h;split at h
 ·cases h
 ·split at h
  ·cases h
  ·split at h
   ·rename_i e;cases h;exact ZxL e
   ·split at h
    ·cases h
    ·split at h<;>cases h
theorem OJ {K:bA} (h0:0<=K.sup.used) {cnt:Int} (hc:K.sup.used<=cnt*7): ∀ {x:List Int} {k:Int} {v v':aW},mb K cnt k x v=some v'->pF K v (k*112)->pF K v' ((k+x.length)*112)
 |[],_,_,_,h,ha=>by cases h;simpa using ha
 |y::r,k,v,v',h,ha=>by
  unfold mb at h;have e:(k+((y::r).length:Int))*112=(k+1+r.length)*112:=by simp;omega
  rw[e];cases h1:((!(y==0))==decide (k*16<cnt))with
  |false=>rw[h1]at h;cases h
  |true=>
   rw[h1,cond_true]at h;cases h2:(y==0)with
   |true=>
    rw[h2]at h h1;have hk: ¬(k*16<cnt):=by
     intro hh;rw[ah hh]at h1;cases h1
    refine OJ h0 hc h ⟨?_,ha.2⟩;rw[ha.1];split<;>split<;>omega
   |false=>
    rw[h2,cond_false]at h;cases ht:dh K y v with
    |none=>rw[ht]at h;cases h
    |some q=>
     obtain⟨b,v1⟩:=q;rw[ht]at h;obtain⟨g1,_,_,_,_,g2⟩:=ZY ht;cases b with
     |leaf x=>cases h
     |node x=>cases h
     |queue x=>cases h
     |dir x=>cases h
     |none=>cases h
     |cE x2=>
      simp only at h;cases h3:jt K cnt k 0 x2 v1 with
      |none=>rw[h3]at h;cases h
      |some w=>
       rw[h3]at h;have hb:=Zpa g2.symm;have:=OY h0 hc h3 (by unfold pF;rw[g1,show(k*16+0)*7=k*112 by omega];exact ha);rw[hb,show(k*16+0+((16:Nat):Int))*7=(k+1)*112 by omega]at this;exact OJ h0 hc h this
theorem Zxe {u:Int} (h0:0<=u) (h1:u<=1792):u<=wq u*7:=by
 unfold wq lN;rw[ah (show u>=0 from h0),ah h1,vQ,cond_true,Zb (x:=u+7) (by omega) (by omega),Zb (x:=u+7-1) (by omega) (by omega)];obtain⟨k,rfl⟩: ∃k:Nat,u=k:=⟨u.toNat,by omega⟩;rw[show(((k:Nat):Int)+7-1)=((k+6:Nat):Int) by omega,show(((k+6:Nat):Int).tdiv 7)=(((k+6)/7:Nat):Int)from rfl,Zb (by omega) (by omega)];omega
theorem Zy7 {K:bA} (h0:0<=K.sup.used) (h1:K.sup.used<=1792) {v v':aW} (hv:v.aw=[]) (h:nu K v=some v'):(v'.aw.length:Int)=K.sup.used/\∀x∈v'.aw,ZM x=true:=by
 unfold nu at h;cases hu:(K.sup.used==0)with
 |true=>
  rw[hu]at h;cases h;rw[hv];exact⟨by have:=eq_of_beq hu;simp;omega,fun _ h=>by cases h⟩
 |false=>
  rw[hu,cond_false]at h;cases ht:dh K K.sup.cE v with
  |none=>rw[ht]at h;cases h
  |some q=>
   obtain⟨b,v1⟩:=q;rw[ht]at h;obtain⟨g1,_,_,_,_,g2⟩:=ZY ht;cases b with
   |leaf x=>cases h
   |node x=>cases h
   |queue x=>cases h
   |dir x=>cases h
   |none=>cases h
   |cE x=>
    have:=OJ h0 (Zxe h0 h1) h (by unfold pF;rw[g1,hv];exact⟨by rw[aG (by omega)];rfl,fun _ h=>by cases h⟩);rw[Zpa g2.symm]at this;have h2:=this.1;refine⟨?_,this.2⟩;rw[h2];split<;>omega
end Go.Gv.F
namespace Go.Gv.F
open Go.Gv
variable {β:Type}
variable {K:bA} {s:St} {v:aW} {L:List Nat} {z1 z2 z3 z4:Nat} {p1 p2 p3 p4:Option (Nat×Nat)} {hd:List DV}
def np (K:bA):Nat->List Bool->Int->aW->Option (List Bool×aW)
 |0,_,_,_=>none
 |f+1,fl,next,v=>bif next==0 then some (fl,v)else(bif decide (next<=K.sup.used)then
   (match v.aw[(next-1).toNat]? with
   |none=>none
   |some x=>bif (bif (bif !x.live then decide (x.gen<K.sup.g)else false)then !fl.getD (next-1).toNat false else false)then np K f (fl.set (next-1).toNat true) x.block { v with free:=v.free++[next-1] } else none)
  else none)
def AS (K:bA) (b:Bool) (x:bL):Bool:=bif (bif x.live then true else x.gen==K.sup.g)then true else b
def rU (K:bA):List Bool->List bL->Bool
 |_,[]=>true
 |fl,x::r=>AS K (fl.getD 0 false) x&&rU K (fl.drop 1) r
def yq (K:bA):Option (List Bool×aW)->Option aW
 |none=>none
 |some (fl,v)=>bif rU K fl v.aw then some v else none
def qS (K:bA) (v:aW):Option aW:=yq K (np K (K.sup.used.toNat+1) (List.replicate K.sup.used.toNat false) K.sup.free v)
theorem Zr0: ∀ {l:List Bool} {k:Nat},l.getD k true=false->(l.set k true).count false+1=l.count false
 |[],k,h=>by simp at h
 |b::l,0,h=>by
  simp at h;subst h;simp
 |b::l,k+1,h=>by
  have:=Zr0 (l:=l) (k:=k) (by simpa using h);simp only[List.set_cons_succ,List.count_cons];omega
theorem aY.ck {s:St} {a:Option (Nat×Nat)} {cs:List DV} (h:aY [] s a cs) (hn:0<cs.length): ∃b,a=some (b,0)/\s[b]? =some (some ⟨false,cs⟩):=by
 rcases h.2 with⟨_,rfl⟩|⟨i,rfl,_,h3⟩
 ·cases hn
 ·exact⟨i,rfl,h3⟩
theorem ID {s:St} {b:Nat} {l:List bL} {x:bL} {k:Nat} (h:s[b]? =some (some ⟨false,bV l⟩)) (hx:l[k]? =some x) (Kc:List DV->M β):M.load b (k*3+0) 3 Kc s=Kc (gk x) s:=by
 have hk:k<l.length:=(cd.1 hx).1;rw[dG,lA h (by rw[ZT];omega),Jd hx]
theorem ZA8 {Bd:Za} (hM:ZZ Bd) (n:Nat) (i1:Nat) (fl:List Bool) (s0:St) (L0:List Nat) (R:Option aW) (hW:Wk K s v L) (hf:s[i1]? =some (some ⟨false,fl.map .bool⟩)) (hl:fl.length=v.aw.length) (hlen:v.aw.length<2000) (bQ:Fx L0 s0 s) (eV:Nw L0 s0 L) (hR:yq K (some (fl,v))=R) (X:Nat) (hX:X=v.aw.length) (hn:2010<=n):
  Ok (om K s0 L0 R []) ((M.nn (some (K.w,0)) fun i3 o2=>
  M.au i3 (o2+11) fun d2=>
  D.slice 3 d2 fun x2 dJ=>
  M.join (fun st=>
   D.nil st<|
   M.ret []) fun aC=>
  M.loop (fun aK st=>
   J.i .i64 st fun x3 st=>
   D.nil st<|
   bif decide (x3<(dJ:Int))then
    M.nn x2 fun i4 o3=>
    M.ak (av x3 dJ)<|
    M.load i4 (x3.toNat*3+o3) 3 fun cs=>
    J.b cs fun x4 r=>
    J.i .i64 r fun x5 r=>
    J.i .i64 r fun _x6 r=>
    D.nil r<|
    M.join (fun st=>J.b st fun b1 st=>D.nil st<|
     M.join (fun st=>J.b st fun b2 st=>D.nil st<|
      M.call (run Bd n 225 [.bool b2]) fun ds=>
      D.nil ds<|
      aK [.int .i64 (af (x3+1))]) fun bu=>
     bif b1 then
      bu [.bool true]
     else
      M.ak (av x3 X)<|
      M.au i1 (x3.toNat*1) fun d3=>
      D.bool d3 fun x7=>
      bu [.bool x7]) fun aU=>
    bif x4 then
     aU [.bool true]
    else
     M.nn (some (K.w,0)) fun i5 o4=>
     M.au i5 (o4+4) fun d4=>
     D.int .i64 d4 fun x8=>
     aU [.bool (x5==x8)]
   else
    aC []) n [.int .i64 0]) s):=by
 subst hX;obtain⟨n,rfl⟩: ∃k,n=k+1:=⟨n-1,by omega⟩;obtain⟨z1,p1,z2,p2,z3,p3,z4,p4,hd,hW⟩:=hW;rw[aV,Zn hW.cell rfl];show Ok _ (D.slice 3 (.slice z1 p1 v.aw.length) _ s);rw[Z5 3 z1 p1 _ hW.e1];simp only[Zc];refine Zl _ (fun q y t=>∃i:Nat,y=[.int .i64 i]/\i<=v.aw.length/\v.aw.length-i<=q/\t=s/\(bif rU K (fl.drop i) (v.aw.drop i)then some v else none)=R) ?_ v.aw.length (n+1) _ _ ⟨0,rfl,bH _,by omega,rfl,hR⟩ (by omega);rintro q _ t ⟨i,rfl,hi,hq,rfl,aA⟩ rec aD;simp only[al,ae];by_cases aj:i<v.aw.length
 ·obtain⟨b,rfl,hb⟩:=hW.o1.ck (by rw[ZT];omega)
  have jm:v.aw[i]? =some v.aw[i]:=ba aj;have jy:v.aw.drop i=v.aw[i]::v.aw.drop (i+1):=gT aj;have hfi:fl[i]? =some (fl[i]'(by omega)):=ba (by omega);rw[ah (show(i:Int)<(v.aw.length:Int) by omega),cond_true,aV,Zd (Zk aj),aX,ID hb jm];rw[jy]at aA;unfold rU at aA;rw[iK,show(fl.drop i).getD 0 false=fl[i]'(by omega) by rw[bJ,lR,dG,hfi];rfl]at aA;generalize v.aw[i]=x at aA;unfold gk;simp only[ai,al,ae,aV];have oM:af ((i:Int)+1)=((i+1:Nat):Int):=Zb (by omega) (by omega);rw[oM];have je:Ok (om K s0 L0 R []) (M.call (run Bd (n+1) 225 [.bool (AS K (fl[i]'(by omega)) x)]) (fun ds=>D.nil ds<|rec [.int .i64 ((i+1:Nat):Int)]) t):=by
   cases h0:AS K (fl[i]'(by omega)) x with
   |true=>
    rw[h0,cI]at aA;rw[pC hM n rfl];simp only[ae];exact aD (v.aw.length-(i+1)) _ _ (by omega) ⟨i+1,rfl,by omega,ay _,rfl,aA⟩
   |false=>
    rw[h0,eL,cond_false]at aA;rw[ZN hM n rfl,<-aA];exact .mk ⟨t,rfl,bQ⟩
  unfold AS at je;have Sd: ∀Kc:DV->M (List DV),M.au i1 (i*1) Kc t=Kc (.bool (fl[i]'(by omega))) t:=fun Kc=>Zn hf (by rw[di,gL,hfi];rfl) Kc
  have pV: ∀Kc:DV->M (List DV),M.au K.w (0+4) Kc t=Kc (.int .i64 K.sup.g) t:=fun Kc=>Zn hW.cell rfl Kc
  cases gE:x.live with
  |true=>
   simp only[gE,cond_true]at je;rw[cond_true];exact je
  |false=>
   simp only[gE,cond_false]at je;rw[cond_false,pV];simp only[aM];cases hg:(x.gen==K.sup.g)with
   |true=>
    simp only[hg,cond_true]at je;rw[cond_true];exact je
   |false=>
    simp only[hg,cond_false]at je;rw[cond_false,Zd (Zk aj),Sd];simp only[vW];exact je
 ·rw[ao (show ¬(i:Int)<(v.aw.length:Int) by omega),cond_false]
  rw[Ze];rw[mZ (as:=v.aw) (by omega)]at aA;have vk:some v=R:=aA;rw[<-vk];exact .mk ⟨t,L,rfl,hW.wk,bQ,eV⟩
theorem ZAI {Bd:Za} (h:Mo Bd) (n:Nat) (hW:Wk K s v L) (h0:0<=K.sup.used) (h1:K.sup.used<=1792) (vd:0<=K.sup.free) (hs:(v.aw.length:Int)=K.sup.used) (hr: ∀x∈v.aw,ZM x=true) (hh:v.aB=[]) (fR:v.free=[]) (hn:2100<=n):
  Ok (om K s L (qS K v) []) (run Bd n 230 [.ptr (some (K.w,0))] s):=by
 obtain⟨n,rfl⟩: ∃k,n=k+2:=⟨n-2,by omega⟩;rw[Zf,h.eq];unfold F7 qS;simp only[fm,ae];rw[aV];obtain⟨z1,p1,z2,p2,z3,p3,z4,p4,hd,hW⟩:=hW;rw[Zn hW.cell rfl];simp only[aM];rw[Zd (by rw[aH,aH,bc,bc,bc];omega),Zw,AO];have vu:=ar.new s (some (⟨false,List.replicate K.sup.used.toNat (.bool false)⟩:bq));have UQ:(s++[some (⟨false,List.replicate K.sup.used.toNat (.bool false)⟩:bq)])[s.length]? =some (some ⟨false,(List.replicate K.sup.used.toNat false).map .bool⟩):=by simp
 have Bp:=hW.pre vu;have UG:=Bp.cell;generalize s++[some (⟨false,List.replicate K.sup.used.toNat (.bool false)⟩:bq)]=s0 at vu UQ Bp UG;rw[aV,Zn UG rfl];simp only[aM];rw[Zc];obtain⟨R,hR⟩: ∃R,yq K (np K (K.sup.used.toNat+1) (List.replicate K.sup.used.toNat false) K.sup.free v)=R:=⟨_,rfl⟩;rw[hR];have hX:K.sup.used.toNat=v.aw.length:=by omega
 have DS:s.length∉L:=fun hm=>by have:=hW.lt _ hm;omega
 refine Zl _ (fun q y t=>∃(f:Nat) (fl:List Bool) (next:Int) (u:aW) (Lu:List Nat),y=[.int .i64 next]/\0<=next/\fl.length=v.aw.length/\fl.count false<=q/\fl.count false<f/\Wk K t u Lu/\u.aw=v.aw/\u.aB=[]/\u.free.length+fl.count false<=v.aw.length/\t[s.length]? =some (some ⟨false,fl.map .bool⟩)/\s.length∉Lu/\Fx L s t/\Nw L s Lu/\yq K (np K f fl next u)=R) ?_ v.aw.length (n+1) _ _ ⟨K.sup.used.toNat+1,_,K.sup.free,v,L,rfl,vd,by simp[hX],by simp[hX],by simp,Bp.wk,rfl,hh,by simp[fR,hX],UQ,DS,Fx.pre L vu,.refl L s,hR⟩ (by omega);rintro q _ t ⟨f,fl,next,u,Lu,rfl,BG,eC,hcq,qV,cF,iE,p9,huf,rb,RR,bQ,eV,aA⟩ rec aD;simp only[al,ae];obtain⟨f,rfl⟩: ∃k,f=k+1:=⟨f-1,by omega⟩;unfold np at aA;cases hz:(next==0)with
 |true=>
  rw[hz,cond_true]at aA;rw[bx,cond_false];exact ZA8 h.fC (n+1) s.length fl s L R cF rb (by rw[iE];exact eC) (by rw[iE];omega) bQ eV aA K.sup.used.toNat (by rw[iE];exact hX) (by omega)
 |false=>
  rw[hz,cond_false]at aA;rw[bD,cond_true];have yS:next≠0:=fun e=>by rw[e]at hz;cases hz
  obtain⟨z1,p1,z2,p2,z3,p3,z4,p4,hd,cF⟩:=cF;rw[aV,Zn cF.cell rfl];simp only[aM];cases hle:decide (next<=K.sup.used)with
  |false=>
   rw[hle,cond_false]at aA;rw[ZN h.fC n rfl];have vk:none=R:=aA;rw[<-vk];exact .mk ⟨t,rfl,bQ⟩
  |true=>
   have abg:=lY hle;rw[hle,cond_true]at aA;rw[pC h.fC n rfl];simp only[ae];obtain⟨k,hk⟩: ∃k:Nat,next-1=k:=⟨(next-1).toNat,by omega⟩;have jg:k<u.aw.length:=by rw[iE];omega
   have cj:af (next-1)=(k:Int):=by rw[Zb (by omega) (by omega),hk]
   rw[hk,aX]at aA;simp only[cj,aX];rw[aV,Zn cF.cell rfl];show Ok _ (D.slice 3 (.slice z1 p1 u.aw.length) _ t);rw[Z5 3 z1 p1 _ cF.e1];obtain⟨b,rfl,hb⟩:=cF.o1.ck (by rw[ZT];omega);have jm:u.aw[k]? =some u.aw[k]:=ba jg;have xo:=hr u.aw[k] (by rw[<-iE];exact fK jg);rw[aV,Zd (Zk jg),ID hb jm];rw[jm]at aA;simp only at aA;generalize u.aw[k]=x at aA xo;unfold gk;simp only[ai,al,ae,Zc,aV];have RE:fl[k]? =some (fl[k]'(by omega)):=ba (by omega);rw[show fl.getD k false=fl[k]'(by omega) by rw[bJ,RE];rfl]at aA;have pV: ∀Kc:DV->M (List DV),M.au K.w (0+4) Kc t=Kc (.int .i64 K.sup.g) t:=fun Kc=>Zn cF.cell rfl Kc
   have Sd: ∀Kc:DV->M (List DV),M.au s.length (k*1) Kc t=Kc (.bool (fl[k]'(by omega))) t:=fun Kc=>Zn rb (by rw[di,gL,RE];rfl) Kc
   cases gE:x.live with
   |true=>
    simp only[gE,bx,cond_false]at aA;rw[bx,cond_false];simp only[cond_false];rw[ZN h.fC n rfl];have vk:none=R:=aA;rw[<-vk];exact .mk ⟨t,rfl,bQ⟩
   |false=>
    simp only[gE,bD,cond_true]at aA;rw[bD,cond_true,pV];simp only[aM];cases hg:decide (x.gen<K.sup.g)with
    |false=>
     simp only[hg,cond_false]at aA;simp only[cond_false];rw[ZN h.fC n rfl];have vk:none=R:=aA;rw[<-vk];exact .mk ⟨t,rfl,bQ⟩
    |true=>
     simp only[hg,cond_true]at aA;simp only[cond_true];rw[hX,<-iE,Zd (Zk jg),Sd];simp only[vW];cases RG:fl[k]'(by omega)with
     |true=>
      simp only[RG,bx,cond_false]at aA;rw[bx,ZN h.fC n rfl];have vk:none=R:=aA;rw[<-vk];exact .mk ⟨t,rfl,bQ⟩
     |false=>
      simp only[RG,bD,cond_true]at aA;rw[bD,pC h.fC n rfl];simp only[ae];rw[Zd (Zk jg),rK rb (by simp;omega)];have cg:(fl.map DV.bool).set (k*1) (.bool true)=(fl.set k true).map DV.bool:=by rw[di,zT]
      rw[cg];have RK:=Fx.set t s.length (some (⟨false,(fl.set k true).map DV.bool⟩:bq));have XY:j6 [s.length] K.a:=fun b o e hm=>by
       have aj:=Sl.lt (e▸hW.img);rw[bK.1 hm]at aj;omega
      have KA:=cF.gF RK (fun y hy=>by rw[bK.1 hy];exact RR) XY (by
       have:=cF.aB;rw[p9]at this⊢;exact this)
      have RH:(t.set s.length (some (⟨false,(fl.set k true).map DV.bool⟩:bq)))[s.length]? =some (some ⟨false,(fl.set k true).map .bool⟩):=fJ (cd.1 rb).1;have RM:Fx L s (t.set s.length (some (⟨false,(fl.set k true).map DV.bool⟩:bq))):=bQ.step RK fun y hy=> .inr (by rw[bK.1 hy];exact ay _)
      generalize t.set s.length (some (⟨false,(fl.set k true).map DV.bool⟩:bq))=t1 at RK KA RH RM;rw[Zn KA.cell rfl];show Ok _ (D.slice 1 (.slice z4 p4 u.free.length) _ t1);rw[Z5 1 z4 p4 _ KA.e4];have lE:=Zr0 (l:=fl) (k:=k) (by rw[bJ,RE,RG];rfl);obtain⟨b2,t2,t3,L3,g1,g2,g3,g4,g5,g6⟩:=KA.YZ (β:=List DV) (k:Int) (by omega);have abx:s.length<t1.length:=(cd.1 RH).1;refine Eq.mpr (congrArg (Ok _) (g1 _)) ?_;refine Eq.mpr (congrArg (Ok _) (g2 _)) ?_;have hblk:0<=x.block:=by
       unfold ZM at xo;rw[gE,cond_false,aH,aH]at xo;have h2:=xo.2.1;unfold kG at h2;by_cases u6:x.block>=0
       ·exact u6
       ·rw[ao u6]at h2;cases h2
      refine aD ((fl.set k true).count false) _ _ (by omega) ⟨f,fl.set k true,x.block,_,L3,rfl,hblk,by simpa using eC,ay _,by omega,g3.wk,iE,p9,by simp;omega,?_,?_,RM.step g4 eV,eV.trans RM.1 g5,aA⟩
      ·refine g4.2 _ _ RR RH
      ·intro hm
       rcases g5 _ hm with e|e
       ·exact RR e
       ·omega
end Go.Gv.F
namespace Go.Gv.F
open Go.Gv
variable {β:Type}
variable {K:bA} {s:St} {v:aW} {L:List Nat} {z1 z2 z3 z4:Nat} {p1 p2 p3 p4:Option (Nat×Nat)} {hd:List DV}
def rp (v:aW):aW:= { v with gens:=v.gens++v.aw.map (·.gen) }
def zm (v:aW):Nat:=(v.aw.filter (·.live)).length
theorem ZAz {Bd:Za} (h:Mm Bd) (n:Nat) (hW:Wk K s v L) (hl:v.aw.length<2000) (hg:v.gens.length<100000) (hn:2010<=n):
  Ok (fun o=>∃s' L',o=(.val [.int .i64 (zm v:Nat)],s')/\Wk K s' (rp v) L'/\Fx L s s'/\Nw L s L') (run Bd n 234 [.ptr (some (K.w,0))] s):=by
 obtain⟨n,rfl⟩: ∃k,n=k+1:=⟨n-1,by omega⟩;rw[Zf,h.eq];unfold Ga;simp only[fm,ae,aV,Zc];obtain⟨z1,p1,z2,p2,z3,p3,z4,p4,hd,hW⟩:=hW;rw[Zn hW.cell rfl];show Ok _ (D.slice 3 (.slice z1 p1 v.aw.length) _ s);rw[Z5 3 z1 p1 _ hW.e1];refine Zl _ (fun q y t=>∃(i:Nat) (z3:Nat) (p3:Option (Nat×Nat)) (Lu:List Nat),y=[.int .i64 (((v.aw.take i).filter (·.live)).length:Nat),.int .i64 i]/\i<=v.aw.length/\v.aw.length-i<=q/\c9 K t { v with gens:=v.gens++(v.aw.take i).map (·.gen) } Lu z1 p1 z2 p2 z3 p3 z4 p4 hd/\Fx L s t/\Nw L s Lu) ?_ v.aw.length n _ _ ⟨0,z3,p3,L,rfl,bH _,by omega,by simpa using hW,.refl L s,.refl L s⟩ (by omega);rintro q _ t ⟨i,z3,p3,Lu,rfl,hi,hq,cF,eD,gP⟩ rec aD;simp only[al,ae];by_cases aj:i<v.aw.length
 ·obtain⟨b,rfl,hb⟩:=cF.o1.ck (by rw[ZT];exact Nat.mul_pos (by show 0<v.aw.length;omega) (by omega))
  have jm:v.aw[i]? =some v.aw[i]:=ba aj;have fj:v.aw.take (i+1)=v.aw.take i++[v.aw[i]]:=jG aj;rw[ah (show(i:Int)<(v.aw.length:Int) by omega),cond_true,aV,Zd (Zk aj),aX,ID hb jm];generalize v.aw[i]=x at fj;unfold gk;simp only[ai,al,ae];rw[Zn cF.cell rfl];show Ok _ (D.slice 1 (.slice z3 p3 (v.gens++(v.aw.take i).map (·.gen)).length) _ t);rw[Z5 1 z3 p3 _ cF.e3];have vi:(v.gens++(v.aw.take i).map (·.gen)).length<1000000:=by
   rw[bg,lS,bW];omega
  obtain⟨b2,t2,t3,L3,g1,g2,g3,g4,g5,g6⟩:=cF.Y0 (β:=List DV) x.gen vi;refine Eq.mpr (congrArg (Ok _) (g1 _)) ?_;refine Eq.mpr (congrArg (Ok _) (g2 _)) ?_;have oM:af ((i:Int)+1)=((i+1:Nat):Int):=Zb (by omega) (by omega);have eC:((v.aw.take i).filter (·.live)).length<=i:=fw (List.length_filter_le _ _) (by rw[bW];omega);have vz:af (((((v.aw.take i).filter (·.live)).length:Nat):Int)+1)=((((v.aw.take i).filter (·.live)).length+1:Nat):Int):=Zb (by omega) (by omega);rw[oM,vz];have vh:c9 K t3 { v with gens:=v.gens++(v.aw.take (i+1)).map (·.gen) } L3 z1 (some (b,0)) z2 p2 1 (some (b2,0)) z4 p4 hd:=by
   rw[fj,dL,<-dD];exact g3
  cases gE:x.live with
  |true=>
   rw[cond_true];exact aD (v.aw.length-(i+1)) _ _ (by omega) ⟨i+1,1,some (b2,0),L3,by rw[fj,zQ];simp[gE],by omega,ay _,vh,eD.step g4 gP,gP.trans eD.1 g5⟩
  |false=>
   rw[cond_false];exact aD (v.aw.length-(i+1)) _ _ (by omega) ⟨i+1,1,some (b2,0),L3,by rw[fj,zQ];simp[gE],by omega,ay _,vh,eD.step g4 gP,gP.trans eD.1 g5⟩
 ·rw[ao (show ¬(i:Int)<(v.aw.length:Int) by omega),cond_false]
  simp only[Ze];rw[cA (by omega)]at cF⊢;exact .mk ⟨t,Lu,rfl,cF.wk,eD,gP⟩
end Go.Gv.F
