/- A block of an image, taken once: the walker's first steps. -/
import Derived.Test.YtegglibipjjblaaGreatDoorGvZMa
namespace Go.Gv.F
open Go.Gv
variable {β:Type}
theorem ZyW {α:Type} {m:M α} {K:α->M β} {s s':St} (h:m s=some (.cy,s')):M.call m K s=some (.cy,s'):=by unfold M.call;rw[h]
theorem Ok.rn {α:Type} {P:Out α×St->Prop} {Q:Out β×St->Prop} {m:M α} {K:α->M β} {s:St} (h:Ok P (m s))
  (k1: ∀s',P (.cy,s')->Q (.cy,s')) (k2: ∀ds s',P (.val ds,s')->Ok Q (K ds s')):Ok Q (M.call m K s):=by
 obtain⟨⟨o,s'⟩,e,hp⟩:=h;unfold M.call;rw[e];cases o with
 |val ds=>exact k2 ds s' hp
 |cy=>exact .mk (k1 s' hp)
theorem KG (p:Option (Nat×Nat)) (K:Option (Nat×Nat)->M β):D.ptr (.ptr p) K=K p:=rfl
theorem ZyI (s:St):ZV s.length s=s:=by unfold ZV;simp
theorem ZvO {Bd:Za} (h:ZX Bd) (n:Nat) (b:Bool) (st:St):run Bd (n+1) 225 [.bool b] st=some (bif b then(.val [],st)else(.cy,st)):=by
 rw[Zf,h.eq];unfold GY;simp only[ai,ae,Zb];cases b<;>rfl
theorem oU {Bd:Za} (h:ZX Bd) (n:Nat) {b:Bool} (hb:b=true) (st:St) (K:List DV->M β):M.call (run Bd (n+1) 225 [.bool b]) K st=K [] st:=by
 rw[hb];exact Zj (ZvO h n true st)
theorem ZK {Bd:Za} (h:ZX Bd) (n:Nat) {b:Bool} (hb:b=false) (st:St) (K:List DV->M β):M.call (run Bd (n+1) 225 [.bool b]) K st=some (.cy,st):=by
 rw[hb];exact ZyW (ZvO h n false st)
def mc (img:List UInt8) (k:Nat):List UInt8:=(img.drop (k*64)).take 64
theorem ZlB {Bd:Za} (h:Hq Bd) (n:Nat) (a:Option (Nat×Nat)) (len k:Nat) (st:St) (hl:len<1000000) (hk:(k+1)*64<=len):
  run Bd (n+1) 203 [.slice 1 a len,.int .i64 k] st=some (.val [.slice 1 (cY true a (k*64)) 64],st):=by
 rw[Zf,h.eq];unfold Hk;simp only[br,al,ae];rw[sD];have h1:af ((k:Int)+1)=((k+1:Nat):Int):=Zd (by omega) (by omega);have h2:af (((k+1:Nat):Int)*64)=(((k+1)*64:Nat):Int):=by rw[Zd (by omega) (by omega)];omega
 have h3:af ((k:Int)*64)=((k*64:Nat):Int):=by rw[Zd (by omega) (by omega)];omega
 simp only[h1,h2,h3,aY,dx];rw[Ze (by rw[aH,bx,bx];omega),Ze (by rw[aH,bx,bx];omega),ZY,ZyI,show(k+1)*64-k*64=64 by omega]
inductive xg where
 |node (x:jy)
 |leaf (x:List bF)
 |cA (x:List Int)
 |queue (x:oV)
 |dir (x:List Int)
 |none
def ZG (l:List UInt8):xg:=
 match sP l with
 |some x=> .node x
 |none=>match pY l with
  |some x=> .leaf x
  |none=>match sE l with
   |some x=> .cA x
   |none=>match rf l with
    |some x=> .queue x
    |none=>match Ag l with
     |some x=> .dir x
     |none=> .none
def KE (s:St):xg->DV->Prop
 | .node x,d=>∃p,d= .iface 6 (.agg (uS x 1 p))/\Fz s p (ints x.kids)/\me x=true/\x.kids.length<=12
 | .leaf x,d=>d= .iface 5 (.agg (bR x))/\x.length=7
 | .cA x,d=>d= .iface 2 (.agg (ints x))/\x.length=16
 | .queue x,d=>d= .iface 4 (.agg (ri x))/\x.cS.length=12
 | .dir x,d=>∃p,d= .iface 3 (.agg [.slice 1 p x.length])/\Fz s p (ints x)/\x.length<=16
 | .none,d=>d= .nilIface
theorem MG {l:List UInt8} {x:List bF} (h:pY l=some x):x.length=7:=by
 unfold pY at h;split at h
 ·cases h
 ·rename_i k t b _
  cases e:(decide (k=2)&&decide (t<128))with
  |false=>rw[e]at h;cases h
  |true=>
   rw[e]at h;cases e2:(kd b t 7).all ZL with
   |false=>rw[e2]at h;cases h
   |true=>rw[e2]at h;cases h;exact M8 b t 7
theorem Zr2 {Bd:Za} (h:Mp Bd) (n:Nat) (a:Option (Nat×Nat)) (l:List UInt8) (st:St) (ha:dF st a l) (hl:l.length<1000000) (hn:161<=n):
  Ok (fun o=>∃d s',o=(.val [d],s')/\aw st s'/\KE s' (ZG l) d) (run Bd n 256 [.slice 1 a l.length] st):=by
 obtain⟨n,rfl⟩: ∃m,n=m+1:=⟨n-1,by omega⟩;rw[Zf,h.eq];unfold GL ZG;simp only[br,ae];refine Ok.call (ZvE h.XC n a l st ha hl (by omega)) ?_;rintro _ ⟨s1,aJ,AY⟩;cases pB:sP l with
 |some x=>
  rw[pB]at AY;obtain⟨p,rfl,hf⟩:=AY;refine⟨_,s1,rfl,?_⟩;unfold uS fA;simp only[j3,fu,bU,al,br,ai,ae,cond_true,Zc];exact .mk ⟨_,s1,rfl,aJ,p,rfl,hf,(NG pB).1,(NG pB).2⟩
 |none=>
 rw[pB]at AY;subst AY;refine⟨_,s1,rfl,?_⟩;simp only[bU,al,ai,ae,Zm 1 0 none _ (.inr rfl),cond_false];have pq:=ha.mono aJ;refine Ok.call (Zo1 h.q54 n a l s1 pq hl (by omega)) ?_;rintro _ ⟨s2,bj,dq⟩;cases rB:pY l with
 |some x=>
  rw[rB]at dq;subst dq;refine⟨_,s2,rfl,?_⟩;have hlen:(bR x).length=21:=by rw[ZP,MG rB]
  simp only[bU,ai,ae,cond_true];rw[bB hlen,bB hlen,Zc];exact .mk ⟨_,s2,rfl,aJ.trans bj,rfl,MG rB⟩
 |none=>
 rw[rB]at dq;subst dq;refine⟨_,s2,rfl,?_⟩;simp only[bU,ai,ae,cond_false];rw[bB (cs:=bR uQ) (n:=21) rfl,bB (cs:=bR uQ) (n:=21) rfl];have AH:=pq.mono bj;refine Ok.call (ZpK h.q67 n a l s2 AH hl (by omega)) ?_;rintro _ ⟨s3,cG,AZ⟩;cases C7:sE l with
 |some x=>
  rw[C7]at AZ;obtain⟨rfl,hx⟩:=AZ;refine⟨_,s3,rfl,?_⟩;have hlen:(ints x).length=16:=by simp[ints,hx]
  simp only[bU,ai,ae,cond_true];rw[bB hlen,bB hlen,Zc];exact .mk ⟨_,s3,rfl,(aJ.trans bj).trans cG,rfl,hx⟩
 |none=>
 rw[C7]at AZ;subst AZ;refine⟨_,s3,rfl,?_⟩;simp only[bU,ai,ae,cond_false];rw[bB (cs:=ints (List.replicate 16 0)) (n:=16) rfl,bB (cs:=ints (List.replicate 16 0)) (n:=16) rfl];have ha3:=AH.mono cG;refine Ok.call (ZmT h.q31 n a l s3 ha3 hl (by omega)) ?_;rintro _ ⟨s4,gG,A0⟩;cases hg4:rf l with
 |some x=>
  rw[hg4]at A0;obtain⟨rfl,hx⟩:=A0;refine⟨_,s4,rfl,?_⟩;have hlen:(ints x.cS).length=12:=by simp[ints,hx]
  unfold ri;simp only[bU,bV,al,ai,ae,cond_true];rw[bB hlen,bB (by simp[hlen]),Zc];exact .mk ⟨_,s4,rfl,((aJ.trans bj).trans cG).trans gG,rfl,hx⟩
 |none=>
 rw[hg4]at A0;subst A0;refine⟨_,s4,rfl,?_⟩;unfold ri;simp only[bU,bV,al,ai,ae,cond_false];rw[bB (cs:=ints Zxn.cS) (n:=12) rfl,bB (n:=14) rfl];have ha4:=ha3.mono gG;refine Ok.call (Zo2 h.q49 n a l s4 ha4 hl (by omega)) ?_;rintro _ ⟨s5,jl,JC⟩;cases hg5:Ag l with
 |some x=>
  rw[hg5]at JC;obtain⟨p,rfl,hf,hx⟩:=JC;refine⟨_,s5,rfl,?_⟩;simp only[bU,br,ai,ae,cond_true,Zc];exact .mk ⟨_,s5,rfl,(((aJ.trans bj).trans cG).trans gG).trans jl,p,rfl,hf,hx⟩
 |none=>
 rw[hg5]at JC;subst JC;refine⟨_,s5,rfl,?_⟩;simp only[bU,Zm 1 0 none _ (.inr rfl),ai,ae,cond_false,Zc];exact .mk ⟨_,s5,rfl,(((aJ.trans bj).trans cG).trans gG).trans jl,rfl⟩
def pj (m:Nat) (W:List Nat) (k:Int):Bool:=decide (k>=2)&&(gV m k&& !dI W k.toNat)
theorem ZAd {Bd:Za} (h:Z4 Bd) (n w:Nat) (a:Option (Nat×Nat)) (img:List UInt8) {i j m:Nat} {W:List Nat} (k:Int) (st:St) {cs:List DV}
  (hw:st[w]? =some (some ⟨false,cs⟩)) (h0:cs[0]? =some (.slice 1 a img.length)) (h2:cs[2]? =some (.int .i64 m)) (AA:cs[10]? =some (.ptr (some (i,0))))
  (hs:eU st false i j m W) (pC:i≠j) (hjw:w≠j) (ha:dF st a img) (Ds:jN [j] a) (hm:m*64<=img.length) (hl:img.length<1000000) (hn:170<=n):
  Ok (fun o=>bif pj m W k then ∃d s',o=(.val [d],s')/\Fx [j] st s'/\eU s' false i j m (c9 m W k)/\KE s' (ZG (mc img k.toNat)) d else o=(.cy,st)) (run Bd n 228 [.ptr (some (w,0)),.int .i64 k] st):=by
 obtain⟨n,rfl⟩: ∃k,n=k+4:=⟨n-4,by omega⟩;rw[Zf,h.eq];unfold EU pj;simp only[fa,al,ae,Zb,aW];by_cases ik:k>=2;rotate_left
 ·rw[ao ik,cond_false]
  simp only[ai,ae,cond_false,eE];rw[ZK h.fh (n+2) rfl];exact .mk rfl
 rw[ah ik,cond_true,Zn hw h2];simp only[aS,ai,ae,cI];have TI:gV m k=decide (k<(m:Int)):=by unfold gV;rw[ah (show(0:Int)<=k by omega),cI]
 rw[TI];by_cases De:k<(m:Int);rotate_left
 ·rw[ao De,cond_false]
  simp only[eE,cond_false];rw[ZK h.fh (n+2) rfl];exact .mk rfl
 rw[ah De,cond_true,Zn hw AA];simp only[KG,cI];rw[Zj (Znq h.RO (n+1) k st hs),TI,ah De,cI];simp only[ai,ae];cases fM:dI W k.toNat with
 |true=>
  simp only[bg,cond_false];rw[ZK h.fh (n+2) rfl];exact .mk rfl
 |false=>
  simp only[bu,cond_true];rw[oU h.fh (n+2) rfl];simp only[ae];rw[Zn hw AA];simp only[KG];rw[Zy];have aJ:=aw.new st (some (⟨false,[DV.int .i64 k]⟩:bn));have gu:Sl (st++[some (⟨false,[DV.int .i64 k]⟩:bn)]) (some (st.length,0)) (ints [k]):=Cv st [DV.int .i64 k];have cL:jN [j] (some (st.length,0)):=by
   intro b o e hb;cases e;have:=(cw.1 hs.wd).1;rw[bP.1 hb]at this;omega
  generalize st++[some (⟨false,[DV.int .i64 k]⟩:bn)]=s1 at aJ gu;have ko:=hs.pre aJ;have S6:=Hn h.yK (n+3) [k] (some (st.length,0)) s1 ko pC gu cL (by simp) (by simp;omega);rw[show[k].length=1 from rfl]at S6;rw[Zj S6];simp only[ae];have T4:=ko.add pC (c9 m W k) (sv _ _ _) (zW ko.lt);have bL:Fx [j] st (s1.set j (some ⟨false,ZD (c9 m W k)⟩)):=(Fx.pre [j] aJ).trans (Fx.set s1 j _);have e1:[k].foldl (c9 m) W=c9 m W k:=rfl;rw[e1];generalize s1.set j (some ⟨false,ZD (c9 m W k)⟩)=s2 at T4 bL;have fE:=bL.2 w _ (by simpa using hjw) hw;have AH:dF s2 a img:=Sl.fx ha bL Ds;rw[Zn fE h0];simp only[jw];obtain⟨kk,rfl⟩: ∃kk:Nat,k=kk:=⟨k.toNat,by omega⟩;rw[Zj (ZlB h.RI (n+2) a img.length kk s2 hl (by omega))];simp only[br,ae];have Dj:dF s2 (cY true a (kk*64)) (mc img kk):=(AH.cY (k:=kk*64) (by omega)).lx 64;have V2:(mc img kk).length=64:=by unfold mc;rw[cn,ej];omega
  have hb:=Zr2 h.q86 (n+3) _ (mc img kk) s2 Dj (by omega) (by omega);rw[V2]at hb;refine Ok.call hb ?_;rintro _ ⟨d,s3,rfl,cG,hblk⟩;refine⟨_,s3,rfl,?_⟩;simp only[xi,ae,Zc];exact .mk ⟨d,s3,rfl,bL.trans (Fx.pre [j] cG),T4.pre cG,hblk⟩
end Go.Gv.F
namespace Go.Gv.F
open Go.Gv
variable {β:Type}
structure eX where
 seq:Int
 blocks:Int
 bX:Int
 g:Int
 cA:Int
 used:Int
 free:Int
 dir:Int
 aG:List Int
structure aU where
 W:List Nat
 ax:List bF
 av:List cJ
 gens:List Int
 free:List Int
 nodes:Int
structure bz where
 w:Nat
 i:Nat
 j:Nat
 m:Nat
 a:Option (Nat×Nat)
 img:List UInt8
 sup:eX
 pc:Option (Nat×Nat)
def cz (z:Nat) (p:Option (Nat×Nat)) (n:Nat):DV:= .slice z p n
def nN (K:bz) (v:aU) (c11 c15 c16 c17:DV):List DV:=
 [.slice 1 K.a K.img.length,.int .i64 K.sup.seq,.int .i64 K.sup.blocks,.int .i64 K.sup.bX,.int .i64 K.sup.g,.int .i64 K.sup.cA,.int .i64 K.sup.used,.int .i64 K.sup.free,.int .i64 K.sup.dir,.slice 1 K.pc K.sup.aG.length,
  .ptr (some (K.i,0)),c11,.int .i64 K.sup.blocks,.int .i64 K.sup.bX,.int .i64 K.sup.g,c15,c16,c17,.int .i64 v.nodes]
def aC:Option (Nat×Nat)->List Nat
 |none=>[]
 |some (b,_)=>[b]
theorem jN.aC {L:List Nat} {a:Option (Nat×Nat)} (h: ∀b∈aC a,b∉L):jN L a:=by
 intro b o e;subst e;exact h b (by simp[F.aC])
theorem bh.fx {T:List Nat} {s s':St} {a:Option (Nat×Nat)} {cs:List DV} (h:bh [] s a cs) (k:Fx T s s') (n: ∀b∈aC a,b∉T):bh [] s' a cs:=by
 refine⟨⟨s',rfl⟩,?_⟩;rcases h.2 with h1|⟨i,rfl,h2,h3⟩
 ·exact .inl h1
 ·exact .inr ⟨i,rfl,h2,k.2 i _ (n i (by simp[aC])) h3⟩
theorem bh.Am {s:St} {a:Option (Nat×Nat)} {cs:List DV} (h:bh [] s a cs): ∀b∈aC a,b<s.length:=by
 rcases h.2 with⟨rfl,_⟩|⟨i,rfl,_,h3⟩
 ·intro b hb;cases hb
 ·intro b hb;rw[bP.1 hb];exact(cw.1 h3).1
theorem tT {s:St} {a:Option (Nat×Nat)} {cs:List DV} (h:bh [] s a cs) {sz n lim:Nat} (ds:List DV) (hz:0<sz) (hn:cs.length=n*sz) (hd:ds.length=sz) (hl:n+1<=lim):
  ∃b s',s.length<=b/\bh [] s' (some (b,0)) (cs++ds)/\Fx (aC a) s s'/\∀K:Option (Nat×Nat)->M β,(M.new ds fun i=>M.load i 0 sz fun cs'=>M.app sz a n cs' 1 lim K) s=K (some (b,0)) s':=by
 obtain⟨b,s',h1,h2,_,h4,h5⟩:=h.UC (β:=β) ds hz hn hd hl;refine⟨b,s',h1,h2,⟨?_,fun i x hi e=>h4 i x e ?_⟩,h5⟩
 ·have:=bh.Am h2 b (by simp[aC]);omega
 ·rintro o rfl
  exact hi (by simp[aC])
def nX (s:St) (L:List Nat):List DV->List cJ->Prop
 |ds,[]=>ds=[]
 |ds,x::r=>∃z p t,(z=4\/p=none)/\ds=kX x z p++t/\Sl s p (bK x.aK)/\jN L p/\nX s L t r
theorem nX.fx {s s':St} {L L':List Nat} (k:Fx L s s') (hL: ∀x∈L',x∈L\/s.length<=x): ∀ {ds:List DV} {xs:List cJ},nX s L ds xs->nX s' L' ds xs
 |_,[],h=>h
 |_,_::_,⟨z,p,t,hz,h1,h2,h3,h4⟩=>⟨z,p,t,hz,h1,h2.fx k h3,h3.new h2 hL,h4.fx k hL⟩
theorem nX.av {s:St} {L:List Nat} : ∀ {ds:List DV} {xs:List cJ},nX s L ds xs->hU s ds xs
 |_,[],h=>h
 |_,_::_,⟨z,p,t,hz,h1,h2,_,h4⟩=>⟨z,p,t,hz,h1,h2,h4.av⟩
theorem nX.push {s:St} {L:List Nat} {x:cJ} {z:Nat} {p:Option (Nat×Nat)} (hz:z=4\/p=none) (hs:Sl s p (bK x.aK)) (ho:jN L p): ∀ {ds:List DV} {xs:List cJ},nX s L ds xs->nX s L (ds++kX x z p) (xs++[x])
 |ds,[],h=>⟨z,p,[],hz,by rw[show ds=[]from h];rfl,hs,ho,rfl⟩
 |_,_::_,⟨z',p',t,Be,h1,h2,h3,h4⟩=>⟨z',p',t++kX x z p,Be,by rw[h1,dB],h2,h3,h4.push hz hs ho⟩
structure cW (K:bz) (s:St) (v:aU) (L:List Nat) (z1:Nat) (p1:Option (Nat×Nat)) (z2:Nat) (p2:Option (Nat×Nat)) (z3:Nat) (p3:Option (Nat×Nat)) (z4:Nat) (p4:Option (Nat×Nat)) (hd:List DV):Prop where
 cell:s[K.w]? =some (some ⟨false,nN K v (cz z1 p1 v.ax.length) (cz z2 p2 v.av.length) (cz z3 p3 v.gens.length) (cz z4 p4 v.free.length)⟩)
 e1:z1=3\/p1=none
 e2:z2=2\/p2=none
 e3:z3=1\/p3=none
 e4:z4=1\/p4=none
 o1:bh [] s p1 (bR v.ax)
 o2:bh [] s p2 hd
 o3:bh [] s p3 (ints v.gens)
 o4:bh [] s p4 (ints v.free)
 av:nX s L hd v.av
 set:eU s false K.i K.j K.m v.W
 img:dF s K.a K.img
 off:jN L K.a
 own:L=K.w::K.i::K.j::(aC p1++(aC p2++(aC p3++aC p4)))
 nodup:L.Nodup
def Wk (K:bz) (s:St) (v:aU) (L:List Nat):Prop:=∃z1 p1 z2 p2 z3 p3 z4 p4 hd,cW K s v L z1 p1 z2 p2 z3 p3 z4 p4 hd
def Nw (L:List Nat) (s:St) (L':List Nat):Prop:=∀x∈L',x∈L\/s.length<=x
theorem Nw.refl (L:List Nat) (s:St):Nw L s L:=fun _ h=> .inl h
theorem Nw.trans {L L' L'':List Nat} {s s':St} (h:Nw L s L') (hs:s.length<=s'.length) (k:Nw L' s' L''):Nw L s L'':=fun x hx=>by
 rcases k x hx with h1|h1
 ·exact h x h1
 ·exact .inr (by omega)
theorem HF {A B C:List Nat} {b n:Nat} (h:(A++(B++C)).Nodup) (hl: ∀x∈A++(B++C),x<n) (hb:n<=b):(A++([b]++C)).Nodup:=by
 rw[gO]at h⊢;obtain⟨h1,h2,h3⟩:=h;rw[gO]at h2;obtain⟨_,h4,_⟩:=h2;refine⟨h1,?_,?_⟩
 ·rw[List.singleton_append,qS]
  refine⟨fun hm=>?_,h4⟩;have:=hl b (by simp[hm]);omega
 ·intro x hx y hy
  rcases de.1 hy with hy|hy
  ·rw[bP.1 hy]
   have:=hl x (by simp[hx]);omega
  ·exact h3 x hx y (de.2 (.inr hy))
variable {K:bz} {s:St} {v:aU} {L:List Nat} {z1 z2 z3 z4:Nat} {p1 p2 p3 p4:Option (Nat×Nat)} {hd:List DV}
theorem cW.lt (h:cW K s v L z1 p1 z2 p2 z3 p3 z4 p4 hd): ∀x∈L,x<s.length:=by
 intro x hx;rw[h.own]at hx;simp only[cd,de]at hx;rcases hx with rfl|rfl|rfl|hx|hx|hx|hx
 ·exact(cw.1 h.cell).1
 ·exact(cw.1 h.set.hd).1
 ·exact(cw.1 h.set.wd).1
 ·exact bh.Am h.o1 x hx
 ·exact bh.Am h.o2 x hx
 ·exact bh.Am h.o3 x hx
 ·exact bh.Am h.o4 x hx
theorem cW.yF (h:cW K s v L z1 p1 z2 p2 z3 p3 z4 p4 hd):K.w∈L:=by rw[h.own];simp
theorem cW.rK (h:cW K s v L z1 p1 z2 p2 z3 p3 z4 p4 hd):K.j∈L:=by rw[h.own];simp
theorem cW.ne (h:cW K s v L z1 p1 z2 p2 z3 p3 z4 p4 hd):K.w≠K.i/\K.w≠K.j/\K.i≠K.j/\(∀x∈aC p1++(aC p2++(aC p3++aC p4)),x≠K.w/\x≠K.i/\x≠K.j):=by
 have hn:=h.nodup;rw[h.own]at hn;simp only[qS,cd,not_or]at hn;obtain⟨⟨a1,a2,a3⟩,⟨b1,b2⟩,c1,_⟩:=hn;exact⟨a1,a2,b1,fun x hx=>⟨fun e=>a3 (e▸hx),fun e=>b2 (e▸hx),fun e=>c1 (e▸hx)⟩⟩
theorem cW.gx {s':St} {T:List Nat} (h:cW K s v L z1 p1 z2 p2 z3 p3 z4 p4 hd) (k:Fx T s s') (hT: ∀x∈T,x∉L) (ha:jN T K.a) (hh:nX s' L hd v.av):cW K s' v L z1 p1 z2 p2 z3 p3 z4 p4 hd:=by
 have hm: ∀x∈L,x∉T:=fun x hx JV=>hT x JV hx
 have ho:=h.own;refine⟨k.2 _ _ (hm _ h.yF) h.cell,h.e1,h.e2,h.e3,h.e4,h.o1.fx k fun b hb=>hm b ?_,h.o2.fx k fun b hb=>hm b ?_,h.o3.fx k fun b hb=>hm b ?_,h.o4.fx k fun b hb=>hm b ?_,hh,h.set.fx k (hm _ (by rw[ho];simp)) (hm _ h.rK),Sl.fx h.img k ha,h.off,ho,h.nodup⟩
 all_goals rw[ho];simp[hb]
theorem cW.pre {s':St} (h:cW K s v L z1 p1 z2 p2 z3 p3 z4 p4 hd) (k:aw s s'):cW K s' v L z1 p1 z2 p2 z3 p3 z4 p4 hd:=
 h.gx (Fx.pre [] k) (fun _ h=>by cases h) (fun _ _ _ h=>by cases h) (h.av.fx (Fx.pre L k) (Nw.refl L s))
theorem cW.XL {s':St} {W':List Nat} (h:cW K s v L z1 p1 z2 p2 z3 p3 z4 p4 hd) (k:Fx [K.j] s s') (hs:eU s' false K.i K.j K.m W'):cW K s' { v with W:=W' } L z1 p1 z2 p2 z3 p3 z4 p4 hd:=by
 have bp:=h.ne;refine⟨k.2 _ _ (by simpa using bp.2.1) h.cell,h.e1,h.e2,h.e3,h.e4,h.o1.fx k fun b hb=>?_,h.o2.fx k fun b hb=>?_,h.o3.fx k fun b hb=>?_,h.o4.fx k fun b hb=>?_,h.av.fx (k.mono fun x hx=>by rw[bP.1 hx];exact h.rK) (Nw.refl L s),hs,Sl.fx h.img k fun b o e hb=>h.off b o e (by rw[bP.1 hb];exact h.rK),h.off,h.own,h.nodup⟩
 all_goals simpa using (bp.2.2.2 b (by simp[hb])).2.2
def c8 (K:bz) (k:Int) (v:aU):Option (xg×aU):=bif pj K.m v.W k then some (ZG (mc K.img k.toNat), { v with W:=c9 K.m v.W k })else none
theorem cW.take {Bd:Za} (hB:Z4 Bd) (n:Nat) (k:Int) (hm:K.sup.blocks=(K.m:Int)) (hi:K.m*64<=K.img.length) (hl:K.img.length<1000000) (hn:170<=n) (h:cW K s v L z1 p1 z2 p2 z3 p3 z4 p4 hd):
  Ok (fun o=>match c8 K k v with
   |none=>o=(.cy,s)
   |some (b,v')=>∃d s',o=(.val [d],s')/\cW K s' v' L z1 p1 z2 p2 z3 p3 z4 p4 hd/\Fx [K.j] s s'/\KE s' b d) (run Bd n 228 [.ptr (some (K.w,0)),.int .i64 k] s):=by
 have bp:=h.ne;refine(ZAd hB n K.w K.a K.img k s h.cell rfl (by rw[<-hm];rfl) rfl h.set bp.2.2.1 bp.2.1 h.img (fun b o e hb=>h.off b o e (by rw[bP.1 hb];exact h.rK)) hi hl hn).mono ?_;intro o ho;unfold c8;cases hf:pj K.m v.W k with
 |false=>rw[hf]at ho;exact ho
 |true=>
  rw[hf]at ho;obtain⟨d,s',rfl,bL,hs,hb⟩:=ho;exact⟨d,s',rfl,h.XL bL hs,bL,hb⟩
end Go.Gv.F
namespace Go.Gv.F
open Go.Gv
variable {β:Type}
theorem HS: ∀ {l:List bF} {j:Nat} {x:bF},l[j]? =some x->((bR l).drop (j*3)).take 3=fQ x
 |[],j,e,h=>by simp at h
 |x::l,0,e,h=>by
  simp only[gJ,cQ]at h;subst h;rfl
 |x::l,j+1,e,h=>by
  have e2:bR (x::l)=fQ x++bR l:=rfl;rw[e2,show(j+1)*3=(fQ x).length+j*3 by show _=3+_;omega,<-iM,pR];exact HS (by simpa using h)
def nY (K:bz) (s:St) (L:List Nat) (r:Option aU) (ds:List DV) (o:Out (List DV)×St):Prop:=match r with
 |none=>∃s',o=(.cy,s')/\Fx L s s'
 |some v=>∃s' L',o=(.val ds,s')/\Wk K s' v L'/\Fx L s s'/\Nw L s L'
variable {K:bz} {s:St} {v:aU} {L:List Nat} {z1 z2 z3 z4:Nat} {p1 p2 p3 p4:Option (Nat×Nat)} {hd:List DV}
theorem cW.Xj (h:cW K s v L z1 p1 z2 p2 z3 p3 z4 p4 hd) (x:bF) (hl:v.ax.length<1000000):
  ∃b s1 s2 L',(∀Kc:Option (Nat×Nat)->M β,(M.new (fQ x) fun i=>M.load i 0 3 fun cs'=>M.app 3 p1 v.ax.length cs' 1 2932031007402 Kc) s=Kc (some (b,0)) s1)/\
   (∀Kc:M β,M.store K.w 11 [.slice 3 (some (b,0)) (v.ax.length+1)] Kc s1=Kc s2)/\Wk K s2 { v with ax:=v.ax++[x] } L'/\Fx L s s2/\Nw L s L':=by
 obtain⟨b,s1,hb,ho,bL,he⟩:=tT (β:=β) (lim:=2932031007402) h.o1 (sz:=3) (n:=v.ax.length) (fQ x) (by omega) (ZP _) rfl (by omega);have bp:=h.ne;have cc:=bL.2 K.w _ (fun hm=>(bp.2.2.2 K.w (by simp[hm])).1 rfl) h.cell;have xV: ∀x∈aC p1,x∈L:=fun x hx=>by rw[h.own];simp[hx]
 let L':=K.w::K.i::K.j::(aC (some (b,0))++(aC p2++(aC p3++aC p4)))
 have eB:Fx L s (s1.set K.w (some ⟨false,nN K { v with ax:=v.ax++[x] } (cz 3 (some (b,0)) (v.ax.length+1)) (cz z2 p2 v.av.length) (cz z3 p3 v.gens.length) (cz z4 p4 v.free.length)⟩)):=
  (bL.mono xV).trans ((Fx.set s1 K.w _).mono fun y hy=>by rw[bP.1 hy];exact h.yF)
 have cT:=h.nodup;rw[h.own]at cT;have yi:(K.w::K.i::K.j::(aC (some (b,0))++(aC p2++(aC p3++aC p4)))).Nodup:=HF (A:=[K.w,K.i,K.j]) (B:=aC p1) cT (fun y hy=>h.lt y (by rw[h.own];exact hy)) hb;have eW:Nw L s L':=fun y hy=>by
  have mE:y∈K.w::K.i::K.j::([b]++(aC p2++(aC p3++aC p4))):=hy;rw[h.own];simp only[cd,de,List.mem_nil_iff,iB]at mE⊢;rcases mE with h1|h1|h1|h1|h1
  ·exact .inl (.inl h1)
  ·exact .inl (.inr (.inl h1))
  ·exact .inl (.inr (.inr (.inl h1)))
  ·exact .inr (by omega)
  ·exact .inl (.inr (.inr (.inr (.inr h1))))
 have WQ: ∀y,y∉aC p1->y≠K.w->∀c,s[y]? =some c->(s1.set K.w (some ⟨false,nN K { v with ax:=v.ax++[x] } (cz 3 (some (b,0)) (v.ax.length+1)) (cz z2 p2 v.av.length) (cz z3 p3 v.gens.length) (cz z4 p4 v.free.length)⟩))[y]? =some c:=fun y h1 h2 c hc=>by
  rw[ec (by omega)];exact bL.2 y c h1 hc
 have dS:Fx (K.w::aC p1) s (s1.set K.w (some ⟨false,nN K { v with ax:=v.ax++[x] } (cz 3 (some (b,0)) (v.ax.length+1)) (cz z2 p2 v.av.length) (cz z3 p3 v.gens.length) (cz z4 p4 v.free.length)⟩)):=
  ⟨eB.1,fun y c hy hc=>WQ y (fun hm=>hy (by simp[hm])) (fun e=>hy (by simp[e])) c hc⟩
 have ji: ∀y,y∈aC p2++(aC p3++aC p4)->y∉K.w::aC p1:=fun y hy hm=>by
  rcases cd.1 hm with e|e
  ·exact(bp.2.2.2 y (de.2 (.inr hy))).1 e
  ·have mw:=cT
   simp only[qS,gO]at mw;exact mw.2.2.2.2.2 y e y (by simpa using hy) rfl
 have ql:b≠K.w:=fun e=>by have:=(cw.1 h.cell).1;omega
 refine⟨b,s1,_,L',he,fun Kc=>?_,⟨3,some (b,0),z2,p2,z3,p3,z4,p4,hd,⟨?_,.inl rfl,h.e2,h.e3,h.e4,?_,?_,?_,?_,?_,?_,?_,?_,rfl,yi⟩⟩,eB,eW⟩
 ·rw[qY cc (by show 11<19;omega)]
  rfl
 ·rw[fV (by have:=(cw.1 cc).1;exact this),aZ];rfl
 ·rw[Zq4]
  exact(show bh [] s1 (some (b,0)) (bR v.ax++bR [x])from ho).fx (Fx.set s1 K.w _) (fun y hy=>by
   rw[bP.1 hy,bP];exact ql)
 ·exact h.o2.fx dS fun y hy=>ji y (by simp[hy])
 ·exact h.o3.fx dS fun y hy=>ji y (by simp[hy])
 ·exact h.o4.fx dS fun y hy=>ji y (by simp[hy])
 ·exact h.av.fx eB eW
 ·exact h.set.fx dS (fun hm=>by
   rcases cd.1 hm with e|e
   ·exact bp.1 e.symm
   ·exact(bp.2.2.2 K.i (de.2 (.inl e))).2.1 rfl) (fun hm=>by
   rcases cd.1 hm with e|e
   ·exact bp.2.1 e.symm
   ·exact(bp.2.2.2 K.j (de.2 (.inl e))).2.2 rfl)
 ·exact Sl.fx h.img eB h.off
 ·exact h.off.new h.img eW
def sI (sup:eX) (x:bF):Bool:=(bif decide (x.gen>=1)then decide (x.gen<=sup.g)else false)&&(bif (bif x.live then true else decide (x.gen<sup.g))then true else x.block==0)
def xM (x:bF):Bool:=(x.live==false)&&((x.gen==0)&&((x.block==0)&&true))
def oh (K:bz) (k:Int) (x:bF) (v:aU):Option aU:=
 bif decide (k>=K.sup.used)then(bif xM x then some v else none)
 else(bif sI K.sup x then some { v with ax:=v.ax++[x] } else none)
def kP (K:bz):Int->List bF->aU->Option aU
 |_,[],v=>some v
 |k,x::r,v=>match oh K k x v with
  |none=>none
  |some v'=>kP K (k+1) r v'
def kA (K:bz) (k slot:Int) (v:aU):Option aU:=match c8 K k v with
 |some (.leaf x,v')=>kP K slot x v'
 |_=>none
theorem ZtW {K:bz} {k:Int} {x:bF} {v v':aU} (h:oh K k x v=some v'):v'.ax.length<=v.ax.length+1:=by
 unfold oh at h;cases h1:decide (k>=K.sup.used)with
 |true=>
  rw[h1,cond_true]at h;cases h2:xM x with
  |true=>rw[h2]at h;cases h;omega
  |false=>rw[h2]at h;cases h
 |false=>
  rw[h1,cond_false]at h;cases h2:sI K.sup x with
  |true=>rw[h2]at h;cases h;simp
  |false=>rw[h2]at h;cases h
theorem Zo3 {K:bz} : ∀ {x:List bF} {k:Int} {v v':aU},kP K k x v=some v'->v'.ax.length<=v.ax.length+x.length
 |[],_,_,_,h=>by cases h;simp
 |x::r,k,v,v',h=>by
  unfold kP at h;cases h1:oh K k x v with
  |none=>rw[h1]at h;cases h
  |some w=>
   rw[h1]at h;have:=ZtW h1;have:=Zo3 h;simp;omega
structure xl (K:bz):Prop where
 m:K.sup.blocks=(K.m:Int)
 Al:K.m*64<=K.img.length
 len:K.img.length<1000000
theorem cW.wk (h:cW K s v L z1 p1 z2 p2 z3 p3 z4 p4 hd):Wk K s v L:=⟨_,_,_,_,_,_,_,_,_,h⟩
theorem ZzO {Bd:Za} (h:E9 Bd) (n:Nat) (hK:xl K) (k slot:Int) (QW:0<=slot) (gu:slot<=100000) (hW:Wk K s v L) (hl:v.ax.length<100000) (hn:180<=n):
  Ok (nY K s L (kA K k slot v) []) (run Bd n 229 [.ptr (some (K.w,0)),.int .i64 k,.int .i64 slot] s):=by
 obtain⟨n,rfl⟩: ∃k,n=k+2:=⟨n-2,by omega⟩;rw[Zf,h.eq];unfold EZ kA;simp only[fa,al,ae,Zb];obtain⟨z1,p1,z2,p2,z3,p3,z4,p4,hd,hW⟩:=hW;refine Ok.rn (hW.take h.uW (n+1) k hK.m hK.Al hK.len (by omega)) ?_ ?_
 ·intro s' hp
  cases ht:c8 K k v with
  |none=>rw[ht]at hp;cases hp;exact⟨s,rfl,.refl L s⟩
  |some q=>rw[ht]at hp;obtain⟨d,s2,e,_⟩:=hp;cases e
 intro ds s1 hp;cases ht:c8 K k v with
 |none=>rw[ht]at hp;cases hp
 |some q=>
  obtain⟨b,v1⟩:=q;rw[ht]at hp;obtain⟨d,s2,e,fX,bL,hb⟩:=hp;cases e;have oA:v1.ax=v.ax:=by
   unfold c8 at ht;cases hf:pj K.m v.W k with
   |false=>rw[hf]at ht;cases ht
   |true=>rw[hf]at ht;cases ht;rfl
  have mo:Fx L s s1:=bL.mono fun y hy=>by rw[bP.1 hy];exact hW.rK
  simp only[xi,ae];cases b with
  |node x=>obtain⟨p,rfl,_⟩:=hb;exact .mk ⟨s1,rfl,mo⟩
  |cA x=>obtain⟨rfl,_⟩:=hb;exact .mk ⟨s1,rfl,mo⟩
  |queue x=>obtain⟨rfl,_⟩:=hb;exact .mk ⟨s1,rfl,mo⟩
  |dir x=>obtain⟨p,rfl,_⟩:=hb;exact .mk ⟨s1,rfl,mo⟩
  |none=>cases hb;exact .mk ⟨s1,rfl,mo⟩
  |leaf x=>
   obtain⟨rfl,hx⟩:=hb;have hlen:(bR x).length=21:=by rw[ZP,hx]
   show Ok (nY K s L (kP K slot x v1) []) (D.len (bR x) 21 _ _);obtain⟨R,hR⟩: ∃R,kP K slot x v1=R:=⟨_,rfl⟩;rw[hR];rw[bB hlen,show(bR x).take 21=bR x from cF (by omega)];refine Zl _ (fun q y t=>∃(i:Nat) (u:aU) (Lu:List Nat),y=[.int .i64 i]/\i<=7/\7-i<=q/\Wk K t u Lu/\Fx L s t/\Nw L s Lu/\u.ax.length<=v.ax.length+i/\kP K (slot+i) (x.drop i) u=R) ?_ 7 (n+1) _ _ ⟨0,v1,L,rfl,by omega,by omega,fX.wk,mo,.refl L s,by rw[oA];omega,by simp[hR]⟩ (by omega);rintro q _ t ⟨i,u,Lu,rfl,hi,hq,cB,eL,gF,wI,az⟩ rec aD;simp only[al,ae];by_cases aj:i<7
   ·rw[ah (show(i:Int)<7 by omega),cond_true,Ze (show au (i:Int) 7=true from Zk aj),aY]
    have iY:x[i]? =some (x[i]'(by omega)):=ba (by omega);rw[HS iY];have jj:x.drop i=(x[i]'(by omega))::x.drop (i+1):=hJ (by omega);rw[jj]at az;generalize x[i]'(by omega)=e at az;obtain⟨z1,p1,z2,p2,z3,p3,z4,p4,hd,cB⟩:=cB;rw[bB (cs:=fQ e) (n:=3) rfl,aW,Zn cB.cell rfl];simp only[aS];have cc:af (slot+(i:Int))=slot+i:=Zd (by omega) (by omega);have fE:af ((i:Int)+1)=((i+1:Nat):Int):=Zd (by omega) (by omega);rw[cc,fE];unfold kP oh at az;have nu:slot+((i+1:Nat):Int)=slot+i+1:=by omega
    cases hk:decide (slot+(i:Int)>=K.sup.used)with
    |true=>
     rw[hk,cond_true]at az;rw[cond_true];show Ok _ (M.call (run Bd (n+1) 225 [.bool (xM e)]) _ t);cases h0:xM e with
     |true=>
      rw[h0]at az;rw[oU h.fh n rfl];simp only[ae];exact aD (7-(i+1)) _ _ (by omega) ⟨i+1,u,Lu,rfl,by omega,aA _,cB.wk,eL,gF,by omega,by rw[nu];exact az⟩
     |false=>
      rw[h0]at az;rw[ZK h.fh n rfl];simp only[cond_false]at az;rw[<-az];exact .mk ⟨t,rfl,eL⟩
    |false=>
     rw[hk,cond_false]at az;rw[cond_false];have pB:nN K u (cz z1 p1 u.ax.length) (cz z2 p2 u.av.length) (cz z3 p3 u.gens.length) (cz z4 p4 u.free.length)=nN K u (cz z1 p1 u.ax.length) (cz z2 p2 u.av.length) (cz z3 p3 u.gens.length) (cz z4 p4 u.free.length):=rfl;clear pB;have iS:Ok (nY K s L R []) (M.call (run Bd (n+1) 225 [.bool (sI K.sup e)]) (fun ds=>D.nil ds<|M.nn (some (K.w,0)) fun i1 o1=>M.ar i1 (o1+11) fun d3=>D.slice 3 d3 fun x4 cE=>D.len (fQ e) 3<|M.new (fQ e) fun i2=>M.load i2 0 3 fun bw=>M.app 3 x4 cE bw 1 2932031007402 fun p=>M.nn (some (K.w,0)) fun i3 o2=>M.store i3 (o2+11) [.slice 3 p (cE+1)]<|rec [.int .i64 ((i+1:Nat):Int)]) t):=by
      cases h0:sI K.sup e with
      |true=>
       rw[h0]at az;rw[oU h.fh n rfl];simp only[ae,aW];rw[Zn cB.cell rfl];show Ok _ (D.slice 3 (.slice z1 p1 u.ax.length) _ t);rw[Z5 3 z1 p1 _ cB.e1,bB (cs:=fQ e) (n:=3) rfl];obtain⟨b,t1,t2,L2,g1,g2,g3,g4,g5⟩:=cB.Xj (β:=List DV) e (by omega);rw[g1,dy,g2];exact aD (7-(i+1)) _ _ (by omega) ⟨i+1,_,L2,rfl,by omega,aA _,g3,eL.step g4 gF,gF.trans eL.1 g5,by simp;omega,by rw[nu];exact az⟩
      |false=>
       rw[h0]at az;rw[ZK h.fh n rfl];simp only[cond_false]at az;rw[<-az];exact .mk ⟨t,rfl,eL⟩
     unfold sI at iS;rw[j7 (i:=1) (d:= .int .i64 e.gen) rfl];simp only[aS];have pD: ∀Kc:DV->M (List DV),M.ar K.w (0+4) Kc t=Kc (.int .i64 K.sup.g) t:=fun Kc=>Zn cB.cell rfl Kc
     cases pB:decide (e.gen>=1)with
     |false=>
      simp only[pB,cond_false,eE]at iS;simp only[cond_false,ai,ae];exact iS
     |true=>
      simp only[pB,cond_true]at iS;rw[cond_true,j7 (i:=1) (d:= .int .i64 e.gen) rfl];simp only[aS,aW];rw[pD];simp only[aS,ai,ae];cases rB:decide (e.gen<=K.sup.g)with
      |false=>
       simp only[rB,eE]at iS;simp only[cond_false];exact iS
      |true=>
       simp only[rB,cI]at iS;rw[cond_true,j7 (i:=0) (d:= .bool e.live) rfl];simp only[xh];cases gr:e.live with
       |true=>
        simp only[gr,cond_true]at iS;rw[cond_true];simp only[cond_true];exact iS
       |false=>
        simp only[gr,cond_false]at iS;rw[cond_false,j7 (i:=1) (d:= .int .i64 e.gen) rfl];simp only[aS];rw[pD];simp only[aS];cases C7:decide (e.gen<K.sup.g)with
        |true=>
         simp only[C7,cond_true]at iS;rw[cond_true];exact iS
        |false=>
         simp only[C7,cond_false]at iS;rw[cond_false,j7 (i:=2) (d:= .int .i64 e.block) rfl];simp only[aS];exact iS
   ·rw[ao (show ¬(i:Int)<7 by omega),cond_false]
    rw[mO (by omega)]at az;simp only[Zc];rw[<-az];exact .mk ⟨t,Lu,rfl,cB,eL,gF⟩
end Go.Gv.F
namespace Go.Gv.F
open Go.Gv
variable {β:Type}
variable {K:bz} {s:St} {v:aU} {L:List Nat} {z1 z2 z3 z4:Nat} {p1 p2 p3 p4:Option (Nat×Nat)} {hd:List DV}
theorem Znh {l:List UInt8} {x:List bF} (h:ZG l= .leaf x):x.length=7:=by
 unfold ZG at h;split at h
 ·cases h
 ·split at h
  ·rename_i e;cases h;exact MG e
  ·split at h
   ·cases h
   ·split at h
    ·cases h
    ·split at h<;>cases h
theorem ZW {K:bz} {k:Int} {v v':aU} {b:xg} (h:c8 K k v=some (b,v')):v'.ax=v.ax/\v'.av=v.av/\v'.gens=v.gens/\v'.free=v.free/\v'.nodes=v.nodes/\b=ZG (mc K.img k.toNat):=by
 unfold c8 at h;cases hf:pj K.m v.W k with
 |false=>rw[hf]at h;cases h
 |true=>rw[hf]at h;cases h;exact⟨rfl,rfl,rfl,rfl,rfl,rfl⟩
theorem Zq7 {K:bz} {k slot:Int} {v v':aU} (h:kA K k slot v=some v'):v'.ax.length<=v.ax.length+7:=by
 unfold kA at h;cases ht:c8 K k v with
 |none=>rw[ht]at h;cases h
 |some q=>
  obtain⟨b,v1⟩:=q;rw[ht]at h;obtain⟨h1,_,_,_,_,h2⟩:=ZW ht;cases b with
  |leaf x=>
   have:=Zo3 h;rw[h1,Znh h2.symm]at this;exact this
  |node x=>cases h
  |cA x=>cases h
  |queue x=>cases h
  |dir x=>cases h
  |none=>cases h
def Z8 (K:bz) (cnt x5:Int):Int->List Int->aU->Option aU
 |_,[],v=>some v
 |k,y::r,v=>bif (!(y==0))==decide (x5*16+k<cnt)then(bif !(y==0)then(match kA K y ((x5*16+k)*7) v with
   |none=>none
   |some v'=>Z8 K cnt x5 (k+1) r v')else Z8 K cnt x5 (k+1) r v)else none
def lG (K:bz) (cnt:Int):Int->List Int->aU->Option aU
 |_,[],v=>some v
 |k,y::r,v=>bif (!(y==0))==decide (k*16<cnt)then(bif y==0 then lG K cnt (k+1) r v else(match c8 K y v with
   |some (.cA x,v')=>(match Z8 K cnt k 0 x v' with
    |none=>none
    |some v''=>lG K cnt (k+1) r v'')
   |_=>none))else none
def na (K:bz) (v:aU):Option aU:=bif K.sup.used==0 then some v else(match c8 K K.sup.cA v with
 |some (.cA x,v')=>lG K (vB K.sup.used) 0 x v'
 |_=>none)
theorem MY {K:bz} {cnt x5:Int} : ∀ {x:List Int} {k:Int} {v v':aU},Z8 K cnt x5 k x v=some v'->v'.ax.length<=v.ax.length+7*x.length
 |[],_,_,_,h=>by cases h;simp
 |y::r,k,v,v',h=>by
  unfold Z8 at h;cases h1:((!(y==0))==decide (x5*16+k<cnt))with
  |false=>rw[h1]at h;cases h
  |true=>
   rw[h1,cond_true]at h;cases h2:(!(y==0))with
   |false=>
    rw[h2,cond_false]at h;have:=MY h;simp;omega
   |true=>
    rw[h2,cond_true]at h;cases h3:kA K y ((x5*16+k)*7) v with
    |none=>rw[h3]at h;cases h
    |some w=>
     rw[h3]at h;have:=MY h;have:=Zq7 h3;simp;omega
theorem ZzZ {Bd:Za} (hL:E9 Bd) (hM:ZX Bd) (n:Nat) (hK:xl K) (cnt:Int) (i5:Nat) (h5:i5<16) (x:List Int) (hx:x.length=16) (hn:181<=n) (s:St) (L:List Nat) (t0:St) (L0:List Nat) (v0:aU)
  (hW:Wk K t0 v0 L0) (hf:Fx L s t0) (eW:Nw L s L0) (hl:v0.ax.length<10000)
  (R:Option aU) (Kn:M (List DV)) (az: ∀w,Z8 K cnt (i5:Int) 0 x v0=some w->∀t Lw,Wk K t w Lw->Fx L s t->Nw L s Lw->Ok (nY K s L R []) (Kn t)) (bA:Z8 K cnt (i5:Int) 0 x v0=none->R=none):
  Ok (nY K s L R []) (M.loop (fun dW st=>
      J.i .i64 st fun x8 st=>
      D.nil st<|
      bif decide (x8<16)then
       M.ak (au x8 16)<|
      D.nth ((ints x).take 16) (x8.toNat*1) fun d6=>
      D.int .i64 d6 fun x9=>
      M.call (run Bd n 225 [.bool ((!(x9==0))==(decide (af ((af ((i5:Int)*16))+x8)<cnt)))]) fun ds=>
      D.nil ds<|
      bif !(x9==0)then
       M.call (run Bd n 229 [.ptr (some (K.w,0)),.int .i64 x9,.int .i64 (af ((af ((af ((i5:Int)*16))+x8))*7))]) fun ds=>
      D.nil ds<|
      dW [.int .i64 (af (x8+1))]
      else
       dW [.int .i64 (af (x8+1))]
      else
       Kn) n [.int .i64 0] t0):=by
 obtain⟨n,rfl⟩: ∃k,n=k+1:=⟨n-1,by omega⟩;rw[show(ints x).take 16=ints x from cF (by simp[ints,hx])];obtain⟨G,hG⟩: ∃G,Z8 K cnt (i5:Int) 0 x v0=G:=⟨_,rfl⟩;rw[hG]at az bA;refine Zl _ (fun q y t=>∃(i:Nat) (u:aU) (Lu:List Nat),y=[.int .i64 i]/\i<=16/\16-i<=q/\Wk K t u Lu/\Fx L s t/\Nw L s Lu/\u.ax.length<=v0.ax.length+7*i/\Z8 K cnt i5 i (x.drop i) u=G) ?_ 16 (n+1) _ _ ⟨0,v0,L0,rfl,by omega,by omega,hW,hf,eW,by omega,by simpa using hG⟩ (by omega);rintro q _ t ⟨i,u,Lu,rfl,hi,hq,cB,eL,gF,wI,cC⟩ rec aD;simp only[al,ae];by_cases aj:i<16
 ·have iY:x[i]? =some (x[i]'(by omega)):=ba (by omega)
  have jj:x.drop i=(x[i]'(by omega))::x.drop (i+1):=hJ (by omega);rw[jj]at cC;rw[ah (show(i:Int)<16 by omega),cond_true,Ze (show au (i:Int) 16=true from Zk aj),aY,dx,j7 (Zw (by omega))];simp only[aS];generalize x[i]'(by omega)=y at cC;have cc:af ((i5:Int)*16)=(i5:Int)*16:=Zd (by omega) (by omega);have fE:af ((i5:Int)*16+i)=(i5:Int)*16+i:=Zd (by omega) (by omega);have nE:af (((i5:Int)*16+i)*7)=((i5:Int)*16+i)*7:=Zd (by omega) (by omega);have oB:af ((i:Int)+1)=((i+1:Nat):Int):=Zd (by omega) (by omega);rw[cc,fE,nE,oB];have nu:((i+1:Nat):Int)=(i:Int)+1:=by omega
  unfold Z8 at cC;cases h1:((!(y==0))==decide ((i5:Int)*16+i<cnt))with
  |false=>
   rw[h1,cond_false]at cC;rw[ZK hM n rfl];rw[bA cC.symm];exact .mk ⟨t,rfl,eL⟩
  |true=>
   rw[h1,cond_true]at cC;rw[oU hM n rfl];simp only[ae];cases h2:(!(y==0))with
   |false=>
    rw[h2,cond_false]at cC;rw[cond_false];exact aD (16-(i+1)) _ _ (by omega) ⟨i+1,u,Lu,rfl,by omega,aA _,cB,eL,gF,by omega,by rw[nu];exact cC⟩
   |true=>
    rw[h2,cond_true]at cC;rw[cond_true];refine Ok.rn (ZzO hL (n+1) hK y (((i5:Int)*16+i)*7) (by omega) (by omega) cB (by omega) (by omega)) ?_ ?_
    ·intro t' hp
     cases h3:kA K y (((i5:Int)*16+i)*7) u with
     |some w=>rw[h3]at hp;obtain⟨_,_,e,_⟩:=hp;cases e
     |none=>
      rw[h3]at hp cC;obtain⟨t2,e,ya⟩:=hp;cases e;rw[bA cC.symm];exact⟨t',rfl,eL.step ya gF⟩
    ·intro ds t' hp
     cases h3:kA K y (((i5:Int)*16+i)*7) u with
     |none=>rw[h3]at hp;obtain⟨_,e,_⟩:=hp;cases e
     |some w=>
      rw[h3]at hp cC;obtain⟨t2,L2,e,jB,ya,mw⟩:=hp;cases e;simp only[ae];have il:=Zq7 h3;exact aD (16-(i+1)) _ _ (by omega) ⟨i+1,w,L2,rfl,by omega,aA _,jB,eL.step ya gF,gF.trans eL.1 mw,by omega,by rw[nu];exact cC⟩
 ·rw[ao (show ¬(i:Int)<16 by omega),cond_false]
  rw[mO (by omega)]at cC;exact az u cC.symm t Lu cB eL gF
theorem Zzb {Bd:Za} (h:K3 Bd) (n:Nat) (hK:xl K) (hW:Wk K s v L) (hl:v.ax.length<1000) (hn:190<=n):
  Ok (nY K s L (na K v) []) (run Bd n 226 [.ptr (some (K.w,0))] s):=by
 obtain⟨n,rfl⟩: ∃k,n=k+2:=⟨n-2,by omega⟩;rw[Zf,h.eq];unfold Fi na;simp only[fa,ae,Zb,aW];obtain⟨z1,p1,z2,p2,z3,p3,z4,p4,hd,hW⟩:=hW;rw[Zn hW.cell rfl];simp only[aS];cases hu:(K.sup.used==0)with
 |true=>
  rw[cond_true,cond_true,Zc];exact .mk ⟨s,L,rfl,hW.wk,.refl L s,.refl L s⟩
 |false=>
  rw[cond_false,cond_false,Zn hW.cell rfl];simp only[aS];have ux:=ZqA h.q61 (n-1) K.sup.used s;rw[show n-1+2=n+1 by omega]at ux;rw[Zj ux];simp only[al,ae];rw[Zn hW.cell rfl];simp only[aS];generalize vB K.sup.used=cnt;refine Ok.rn (hW.take h.uW (n+1) K.sup.cA hK.m hK.Al hK.len (by omega)) ?_ ?_
  ·intro s' hp
   cases ht:c8 K K.sup.cA v with
   |none=>rw[ht]at hp;cases hp;exact⟨s,rfl,.refl L s⟩
   |some q=>rw[ht]at hp;obtain⟨d,s2,e,_⟩:=hp;cases e
  intro ds s1 hp;cases ht:c8 K K.sup.cA v with
  |none=>rw[ht]at hp;cases hp
  |some q=>
   obtain⟨b,v1⟩:=q;rw[ht]at hp;obtain⟨d,s2,e,fX,bL,hb⟩:=hp;cases e;have oA:=(ZW ht).1;have mo:Fx L s s1:=bL.mono fun y hy=>by rw[bP.1 hy];exact hW.rK
   simp only[xi,ae];cases b with
   |node x=>obtain⟨p,rfl,_⟩:=hb;exact .mk ⟨s1,rfl,mo⟩
   |leaf x=>obtain⟨rfl,_⟩:=hb;exact .mk ⟨s1,rfl,mo⟩
   |queue x=>obtain⟨rfl,_⟩:=hb;exact .mk ⟨s1,rfl,mo⟩
   |dir x=>obtain⟨p,rfl,_⟩:=hb;exact .mk ⟨s1,rfl,mo⟩
   |none=>cases hb;exact .mk ⟨s1,rfl,mo⟩
   |cA x=>
    obtain⟨rfl,hx⟩:=hb;have hlen:(ints x).length=16:=by simp[ints,hx]
    show Ok (nY K s L (lG K cnt 0 x v1) []) (D.len (ints x) 16 _ _);obtain⟨R,hR⟩: ∃R,lG K cnt 0 x v1=R:=⟨_,rfl⟩;rw[hR,bB hlen,show(ints x).take 16=ints x from cF (by omega)];refine Zl _ (fun q y t=>∃(i:Nat) (u:aU) (Lu:List Nat),y=[.int .i64 i]/\i<=16/\16-i<=q/\Wk K t u Lu/\Fx L s t/\Nw L s Lu/\u.ax.length<=v.ax.length+112*i/\lG K cnt i (x.drop i) u=R) ?_ 16 (n+1) _ _ ⟨0,v1,L,rfl,by omega,by omega,fX.wk,mo,.refl L s,by rw[oA];omega,by simpa using hR⟩ (by omega);rintro q _ t ⟨i,u,Lu,rfl,hi,hq,cB,eL,gF,wI,az⟩ rec aD;simp only[al,ae];by_cases aj:i<16
    ·have iY:x[i]? =some (x[i]'(by omega)):=ba (by omega)
     have jj:x.drop i=(x[i]'(by omega))::x.drop (i+1):=hJ (by omega);rw[jj]at az;rw[ah (show(i:Int)<16 by omega),cond_true,Ze (show au (i:Int) 16=true from Zk aj),aY,dx,j7 (Zw (by omega))];simp only[aS];generalize x[i]'(by omega)=y at az;have cc:af ((i:Int)*16)=(i:Int)*16:=Zd (by omega) (by omega);have oB:af ((i:Int)+1)=((i+1:Nat):Int):=Zd (by omega) (by omega);have nu:((i+1:Nat):Int)=(i:Int)+1:=by omega
     rw[show decide (af ((i:Int)*16)<cnt)=decide ((i:Int)*16<cnt) by rw[cc]];unfold lG at az;cases h1:((!(y==0))==decide ((i:Int)*16<cnt))with
     |false=>
      rw[h1,cond_false]at az;rw[ZK h.fh n rfl,<-az];exact .mk ⟨t,rfl,eL⟩
     |true=>
      rw[h1,cond_true]at az;rw[oU h.fh n rfl];simp only[ae];cases h2:(y==0)with
      |true=>
       rw[h2,cond_true]at az;rw[cond_true,oB];exact aD (16-(i+1)) _ _ (by omega) ⟨i+1,u,Lu,rfl,by omega,aA _,cB,eL,gF,by omega,by rw[nu];exact az⟩
      |false=>
       rw[h2,cond_false]at az;rw[cond_false];obtain⟨z1,p1,z2,p2,z3,p3,z4,p4,hd,cB⟩:=cB;refine Ok.rn (cB.take h.uW (n+1) y hK.m hK.Al hK.len (by omega)) ?_ ?_
       ·intro s' hp
        cases ht:c8 K y u with
        |none=>rw[ht]at hp az;cases hp;rw[<-az];exact⟨t,rfl,eL⟩
        |some q=>rw[ht]at hp;obtain⟨d,s2,e,_⟩:=hp;cases e
       intro ds t1 hp;cases ht:c8 K y u with
       |none=>rw[ht]at hp;cases hp
       |some q=>
        obtain⟨b,u1⟩:=q;rw[ht]at hp az;obtain⟨d,s2,e,jB,eB,hb⟩:=hp;cases e;have Bc:=(ZW ht).1;have ot:Fx L s t1:=eL.step (eB.mono (T':=Lu) fun y hy=>by rw[bP.1 hy];exact cB.rK) gF;simp only[xi,ae];cases b with
        |node x=>obtain⟨p,rfl,_⟩:=hb;rw[<-az];exact .mk ⟨t1,rfl,ot⟩
        |leaf x=>obtain⟨rfl,_⟩:=hb;rw[<-az];exact .mk ⟨t1,rfl,ot⟩
        |queue x=>obtain⟨rfl,_⟩:=hb;rw[<-az];exact .mk ⟨t1,rfl,ot⟩
        |dir x=>obtain⟨p,rfl,_⟩:=hb;rw[<-az];exact .mk ⟨t1,rfl,ot⟩
        |none=>cases hb;rw[<-az];exact .mk ⟨t1,rfl,ot⟩
        |cA x2=>
         obtain⟨rfl,nF⟩:=hb;have AT:(ints x2).length=16:=by simp[ints,nF]
         show Ok _ (D.len (ints x2) 16 _ _);rw[bB AT];refine ZzZ h.q20 h.fh (n+1) hK cnt i aj x2 nF (by omega) s L t1 Lu u1 jB.wk ot gF (by rw[Bc];omega) R (rec [.int .i64 (af ((i:Int)+1))]) ?_ ?_
         ·intro w hw t2 Lw hWw Jr eW
          have il:=MY hw;simp only at az;rw[hw]at az;rw[oB];refine aD (16-(i+1)) _ _ (by omega) ⟨i+1,w,Lw,rfl,by omega,aA _,hWw,Jr,eW,?_,by rw[nu];exact az⟩;rw[Bc]at il;omega
         ·intro hw
          simp only at az;rw[hw]at az;exact az.symm
    ·rw[ao (show ¬(i:Int)<16 by omega),cond_false]
     rw[mO (by omega)]at az;rw[Zc,<-az];exact .mk ⟨t,Lu,rfl,cB,eL,gF⟩
end Go.Gv.F
namespace Go.Gv.F
open Go.Gv
variable {β:Type}
variable {K:bz} {s:St} {v:aU} {L:List Nat} {z1 z2 z3 z4:Nat} {p1 p2 p3 p4:Option (Nat×Nat)} {hd:List DV}
theorem Nx {A B C:List Nat} (h:(A++(B++C)).Nodup): ∀y∈A++C,y∉B:=by
 rw[gO,gO]at h;obtain⟨_,⟨_,_,h2⟩,h3⟩:=h;intro y hy hm;rcases de.1 hy with h|h
 ·exact h3 y h y (de.2 (.inl hm)) rfl
 ·exact h2 y hm y h rfl
theorem cW.Xg (h:cW K s v L z1 p1 z2 p2 z3 p3 z4 p4 hd) (x:Int) (hl:v.free.length<1000000):
  ∃b s1 s2 L',(∀Kc:Option (Nat×Nat)->M β,(M.new [DV.int .i64 x] fun i=>M.load i 0 1 fun cs'=>M.app 1 p4 v.free.length cs' 1 8796093022208 Kc) s=Kc (some (b,0)) s1)/\
   (∀Kc:M β,M.store K.w 17 [.slice 1 (some (b,0)) (v.free.length+1)] Kc s1=Kc s2)/\cW K s2 { v with free:=v.free++[x] } L' z1 p1 z2 p2 z3 p3 1 (some (b,0)) (hd)/\Fx L s s2/\Nw L s L'/\Fx (K.w::aC p4) s s2:=by
 obtain⟨b,s1,hb,ho,bL,he⟩:=tT (β:=β) (lim:=8796093022208) h.o4 (sz:=1) (n:=v.free.length) [DV.int .i64 x] (by omega) (by simp[ints]) rfl (by omega);have bp:=h.ne;have cc:=bL.2 K.w _ (fun hm=>(bp.2.2.2 K.w (by simp[hm])).1 rfl) h.cell;have xV: ∀x∈aC p4,x∈L:=fun x hx=>by rw[h.own];simp[hx]
 let L':=K.w::K.i::K.j::(aC p1++(aC p2++(aC p3++aC (some (b,0)))))
 let S':=s1.set K.w (some ⟨false,nN K { v with free:=v.free++[x] } (cz z1 p1 v.ax.length) (cz z2 p2 v.av.length) (cz z3 p3 v.gens.length) (cz 1 (some (b,0)) (v.free.length+1))⟩)
 have eB:Fx L s S':=
  (bL.mono xV).trans ((Fx.set s1 K.w _).mono fun y hy=>by rw[bP.1 hy];exact h.yF)
 have cT:((K.w::K.i::K.j::(aC p1++(aC p2++aC p3)))++(aC p4++([]:List Nat))).Nodup:=by
  have:=h.nodup;rw[h.own]at this;simpa only[dB,j3,fu,dZ]using this
 have Dk: ∀y∈(K.w::K.i::K.j::(aC p1++(aC p2++aC p3)))++(aC p4++([]:List Nat)),y<s.length:=fun y hy=>h.lt y (by
  rw[h.own];simpa only[dB,j3,fu,dZ]using hy)
 have yi:L'.Nodup:=by
  have:=HF cT Dk hb;show(K.w::K.i::K.j::(aC p1++(aC p2++(aC p3++aC (some (b,0)))))).Nodup;simpa only[dB,j3,fu,dZ,aC]using this
 have eW:Nw L s L':=fun y hy=>by
  have mE:y∈K.w::K.i::K.j::(aC p1++(aC p2++(aC p3++aC (some (b,0))))):=hy;rw[h.own];by_cases e:y=b
  ·exact .inr (by omega)
  ·refine .inl ?_
   simp only[cd,de,aC,List.mem_nil_iff,iB]at mE⊢;simp only[e,iB]at mE;rcases mE with h1|h1|h1|h1
   ·exact .inl h1
   ·exact .inr (.inl h1)
   ·exact .inr (.inr (.inl h1))
   ·exact .inr (.inr (.inr (by rcases h1 with h1|h1|h1<;>simp[h1])))
 have dS:Fx (K.w::aC p4) s S':=
  ⟨eB.1,fun y c hy hc=>by
   simp only[cd,not_or]at hy;show(s1.set K.w _)[y]? =_;rw[ec (by omega)];exact bL.2 y c hy.2 hc⟩
 have Dm:=Nx cT;have ji: ∀y,y∈aC p1++(aC p2++aC p3)->y∉K.w::aC p4:=fun y hy hm=>by
  rcases cd.1 hm with e|e
  ·refine(bp.2.2.2 y ?_).1 e
   simp only[de]at hy⊢;rcases hy with e|e|e
   ·exact .inl e
   ·exact .inr (.inl e)
   ·exact .inr (.inr (.inl e))
  ·exact Dm y (by simp only[de,cd]at hy⊢;rcases hy with e|e|e<;>simp[e]) e
 have ql:b≠K.w:=fun e=>by have:=(cw.1 h.cell).1;omega
 refine⟨b,s1,S',L',he,fun Kc=>?_,⟨?_,h.e1,h.e2,h.e3,.inl rfl,?_,?_,?_,?_,?_,?_,?_,?_,rfl,yi⟩,eB,eW,dS⟩
 ·rw[qY cc (by show 17<19;omega)]
  rfl
 ·show(s1.set K.w _)[K.w]? =_
  rw[fV (by have:=(cw.1 cc).1;exact this),aZ];rfl
 ·exact h.o1.fx dS fun y hy=>ji y (by simp[hy])
 ·exact h.o2.fx dS fun y hy=>ji y (by simp[hy])
 ·exact h.o3.fx dS fun y hy=>ji y (by simp[hy])
 ·rw[show ints (v.free++[x])=ints v.free++[.int .i64 x] by unfold ints;rw[dD];rfl]
  exact(show bh [] s1 (some (b,0)) _ from ho).fx (Fx.set s1 K.w _) (fun y hy=>by
   rw[bP.1 hy,bP];exact ql)
 ·exact h.av.fx eB eW
 ·exact h.set.fx dS (fun hm=>by
   rcases cd.1 hm with e|e
   ·exact bp.1 e.symm
   ·exact(bp.2.2.2 K.i (by simp only[de];exact .inr (.inr (.inr e)))).2.1 rfl) (fun hm=>by
   rcases cd.1 hm with e|e
   ·exact bp.2.1 e.symm
   ·exact(bp.2.2.2 K.j (by simp only[de];exact .inr (.inr (.inr e)))).2.2 rfl)
 ·exact Sl.fx h.img eB h.off
 ·exact h.off.new h.img eW
theorem cW.Xh (h:cW K s v L z1 p1 z2 p2 z3 p3 z4 p4 hd) (x:Int) (hl:v.gens.length<1000000):
  ∃b s1 s2 L',(∀Kc:Option (Nat×Nat)->M β,(M.new [DV.int .i64 x] fun i=>M.load i 0 1 fun cs'=>M.app 1 p3 v.gens.length cs' 1 8796093022208 Kc) s=Kc (some (b,0)) s1)/\
   (∀Kc:M β,M.store K.w 16 [.slice 1 (some (b,0)) (v.gens.length+1)] Kc s1=Kc s2)/\cW K s2 { v with gens:=v.gens++[x] } L' z1 p1 z2 p2 1 (some (b,0)) z4 p4 (hd)/\Fx L s s2/\Nw L s L'/\Fx (K.w::aC p3) s s2:=by
 obtain⟨b,s1,hb,ho,bL,he⟩:=tT (β:=β) (lim:=8796093022208) h.o3 (sz:=1) (n:=v.gens.length) [DV.int .i64 x] (by omega) (by simp[ints]) rfl (by omega);have bp:=h.ne;have cc:=bL.2 K.w _ (fun hm=>(bp.2.2.2 K.w (by simp[hm])).1 rfl) h.cell;have xV: ∀x∈aC p3,x∈L:=fun x hx=>by rw[h.own];simp[hx]
 let L':=K.w::K.i::K.j::(aC p1++(aC p2++(aC (some (b,0))++aC p4)))
 let S':=s1.set K.w (some ⟨false,nN K { v with gens:=v.gens++[x] } (cz z1 p1 v.ax.length) (cz z2 p2 v.av.length) (cz 1 (some (b,0)) (v.gens.length+1)) (cz z4 p4 v.free.length)⟩)
 have eB:Fx L s S':=
  (bL.mono xV).trans ((Fx.set s1 K.w _).mono fun y hy=>by rw[bP.1 hy];exact h.yF)
 have cT:((K.w::K.i::K.j::(aC p1++aC p2))++(aC p3++aC p4)).Nodup:=by
  have:=h.nodup;rw[h.own]at this;simpa only[dB,j3,fu,dZ]using this
 have Dk: ∀y∈(K.w::K.i::K.j::(aC p1++aC p2))++(aC p3++aC p4),y<s.length:=fun y hy=>h.lt y (by
  rw[h.own];simpa only[dB,j3,fu,dZ]using hy)
 have yi:L'.Nodup:=by
  have:=HF cT Dk hb;show(K.w::K.i::K.j::(aC p1++(aC p2++(aC (some (b,0))++aC p4)))).Nodup;simpa only[dB,j3,fu,dZ,aC]using this
 have eW:Nw L s L':=fun y hy=>by
  have mE:y∈K.w::K.i::K.j::(aC p1++(aC p2++(aC (some (b,0))++aC p4))):=hy;rw[h.own];by_cases e:y=b
  ·exact .inr (by omega)
  ·refine .inl ?_
   simp only[cd,de,aC,List.mem_nil_iff,iB]at mE⊢;simp only[e,false_or]at mE;rcases mE with h1|h1|h1|h1
   ·exact .inl h1
   ·exact .inr (.inl h1)
   ·exact .inr (.inr (.inl h1))
   ·exact .inr (.inr (.inr (by rcases h1 with h1|h1|h1<;>simp[h1])))
 have dS:Fx (K.w::aC p3) s S':=
  ⟨eB.1,fun y c hy hc=>by
   simp only[cd,not_or]at hy;show(s1.set K.w _)[y]? =_;rw[ec (by omega)];exact bL.2 y c hy.2 hc⟩
 have Dm:=Nx cT;have ji: ∀y,y∈aC p1++(aC p2++aC p4)->y∉K.w::aC p3:=fun y hy hm=>by
  rcases cd.1 hm with e|e
  ·refine(bp.2.2.2 y ?_).1 e
   simp only[de]at hy⊢;rcases hy with e|e|e
   ·exact .inl e
   ·exact .inr (.inl e)
   ·exact .inr (.inr (.inr e))
  ·exact Dm y (by simp only[de,cd]at hy⊢;rcases hy with e|e|e<;>simp[e]) e
 have ql:b≠K.w:=fun e=>by have:=(cw.1 h.cell).1;omega
 refine⟨b,s1,S',L',he,fun Kc=>?_,⟨?_,h.e1,h.e2,.inl rfl,h.e4,?_,?_,?_,?_,?_,?_,?_,?_,rfl,yi⟩,eB,eW,dS⟩
 ·rw[qY cc (by show 16<19;omega)]
  rfl
 ·show(s1.set K.w _)[K.w]? =_
  rw[fV (by have:=(cw.1 cc).1;exact this),aZ];rfl
 ·exact h.o1.fx dS fun y hy=>ji y (by simp[hy])
 ·exact h.o2.fx dS fun y hy=>ji y (by simp[hy])
 ·rw[show ints (v.gens++[x])=ints v.gens++[.int .i64 x] by unfold ints;rw[dD];rfl]
  exact(show bh [] s1 (some (b,0)) _ from ho).fx (Fx.set s1 K.w _) (fun y hy=>by
   rw[bP.1 hy,bP];exact ql)
 ·exact h.o4.fx dS fun y hy=>ji y (by simp[hy])
 ·exact h.av.fx eB eW
 ·exact h.set.fx dS (fun hm=>by
   rcases cd.1 hm with e|e
   ·exact bp.1 e.symm
   ·exact(bp.2.2.2 K.i (by simp only[de];exact .inr (.inr (.inl e)))).2.1 rfl) (fun hm=>by
   rcases cd.1 hm with e|e
   ·exact bp.2.1 e.symm
   ·exact(bp.2.2.2 K.j (by simp only[de];exact .inr (.inr (.inl e)))).2.2 rfl)
 ·exact Sl.fx h.img eB h.off
 ·exact h.off.new h.img eW
theorem cW.Xi (h:cW K s v L z1 p1 z2 p2 z3 p3 z4 p4 hd) (x:cJ) (hl:v.av.length<1000000) {z:Nat} {p:Option (Nat×Nat)} (hz:z=4\/p=none) (hs:Sl s p (bK x.aK)) (JJ:jN L p):
  ∃b s1 s2 L',(∀Kc:Option (Nat×Nat)->M β,(M.new (kX x z p) fun i=>M.load i 0 2 fun cs'=>M.app 2 p2 v.av.length cs' 1 1759218604441 Kc) s=Kc (some (b,0)) s1)/\
   (∀Kc:M β,M.store K.w 15 [.slice 2 (some (b,0)) (v.av.length+1)] Kc s1=Kc s2)/\cW K s2 { v with av:=v.av++[x] } L' z1 p1 2 (some (b,0)) z3 p3 z4 p4 (hd++kX x z p)/\Fx L s s2/\Nw L s L'/\Fx (K.w::aC p2) s s2:=by
 obtain⟨b,s1,hb,ho,bL,he⟩:=tT (β:=β) (lim:=1759218604441) h.o2 (sz:=2) (n:=v.av.length) (kX x z p) (by omega) h.av.av.len rfl (by omega);have bp:=h.ne;have cc:=bL.2 K.w _ (fun hm=>(bp.2.2.2 K.w (by simp[hm])).1 rfl) h.cell;have xV: ∀x∈aC p2,x∈L:=fun x hx=>by rw[h.own];simp[hx]
 let L':=K.w::K.i::K.j::(aC p1++(aC (some (b,0))++(aC p3++aC p4)))
 let S':=s1.set K.w (some ⟨false,nN K { v with av:=v.av++[x] } (cz z1 p1 v.ax.length) (cz 2 (some (b,0)) (v.av.length+1)) (cz z3 p3 v.gens.length) (cz z4 p4 v.free.length)⟩)
 have eB:Fx L s S':=
  (bL.mono xV).trans ((Fx.set s1 K.w _).mono fun y hy=>by rw[bP.1 hy];exact h.yF)
 have cT:((K.w::K.i::K.j::aC p1)++(aC p2++(aC p3++aC p4))).Nodup:=by
  have:=h.nodup;rw[h.own]at this;simpa only[dB,j3,fu,dZ]using this
 have Dk: ∀y∈(K.w::K.i::K.j::aC p1)++(aC p2++(aC p3++aC p4)),y<s.length:=fun y hy=>h.lt y (by
  rw[h.own];simpa only[dB,j3,fu,dZ]using hy)
 have yi:L'.Nodup:=by
  have:=HF cT Dk hb;show(K.w::K.i::K.j::(aC p1++(aC (some (b,0))++(aC p3++aC p4)))).Nodup;simpa only[dB,j3,fu,dZ,aC]using this
 have eW:Nw L s L':=fun y hy=>by
  have mE:y∈K.w::K.i::K.j::(aC p1++(aC (some (b,0))++(aC p3++aC p4))):=hy;rw[h.own];by_cases e:y=b
  ·exact .inr (by omega)
  ·refine .inl ?_
   simp only[cd,de,aC,List.mem_nil_iff,iB]at mE⊢;simp only[e,false_or]at mE;rcases mE with h1|h1|h1|h1
   ·exact .inl h1
   ·exact .inr (.inl h1)
   ·exact .inr (.inr (.inl h1))
   ·exact .inr (.inr (.inr (by rcases h1 with h1|h1|h1<;>simp[h1])))
 have dS:Fx (K.w::aC p2) s S':=
  ⟨eB.1,fun y c hy hc=>by
   simp only[cd,not_or]at hy;show(s1.set K.w _)[y]? =_;rw[ec (by omega)];exact bL.2 y c hy.2 hc⟩
 have Dm:=Nx cT;have ji: ∀y,y∈aC p1++(aC p3++aC p4)->y∉K.w::aC p2:=fun y hy hm=>by
  rcases cd.1 hm with e|e
  ·refine(bp.2.2.2 y ?_).1 e
   simp only[de]at hy⊢;rcases hy with e|e|e
   ·exact .inl e
   ·exact .inr (.inr (.inl e))
   ·exact .inr (.inr (.inr e))
  ·exact Dm y (by simp only[de,cd]at hy⊢;rcases hy with e|e|e<;>simp[e]) e
 have ql:b≠K.w:=fun e=>by have:=(cw.1 h.cell).1;omega
 refine⟨b,s1,S',L',he,fun Kc=>?_,⟨?_,h.e1,.inl rfl,h.e3,h.e4,?_,?_,?_,?_,?_,?_,?_,?_,rfl,yi⟩,eB,eW,dS⟩
 ·rw[qY cc (by show 15<19;omega)]
  rfl
 ·show(s1.set K.w _)[K.w]? =_
  rw[fV (by have:=(cw.1 cc).1;exact this),aZ];rfl
 ·exact h.o1.fx dS fun y hy=>ji y (by simp[hy])
 ·skip
  exact(show bh [] s1 (some (b,0)) _ from ho).fx (Fx.set s1 K.w _) (fun y hy=>by
   rw[bP.1 hy,bP];exact ql)
 ·exact h.o3.fx dS fun y hy=>ji y (by simp[hy])
 ·exact h.o4.fx dS fun y hy=>ji y (by simp[hy])
 ·exact(h.av.fx eB eW).push hz (hs.fx eB JJ) (JJ.new hs eW)
 ·exact h.set.fx dS (fun hm=>by
   rcases cd.1 hm with e|e
   ·exact bp.1 e.symm
   ·exact(bp.2.2.2 K.i (by simp only[de];exact .inr (.inl e))).2.1 rfl) (fun hm=>by
   rcases cd.1 hm with e|e
   ·exact bp.2.1 e.symm
   ·exact(bp.2.2.2 K.j (by simp only[de];exact .inr (.inl e))).2.2 rfl)
 ·exact Sl.fx h.img eB h.off
 ·exact h.off.new h.img eW
end Go.Gv.F
namespace Go.Gv.F
open Go.Gv
variable {β:Type}
variable {K:bz} {s:St} {v:aU} {L:List Nat} {z1 z2 z3 z4:Nat} {p1 p2 p3 p4:Option (Nat×Nat)} {hd:List DV}
def oZ (K:bz) (v:aU) (k:Int):Prop:=(v.ax.length:Int)=(if k<=K.sup.used then k else K.sup.used)/\∀x∈v.ax,ZL x=true
theorem Zva {K:bz} {k:Int} {x:bF} {v v':aU} (hx:ZL x=true) (_h0:0<=K.sup.used) (h:oh K k x v=some v') (ha:oZ K v k):oZ K v' (k+1):=by
 unfold oh at h;by_cases hk:k>=K.sup.used
 ·rw[ah hk,cond_true]at h
  cases h2:xM x with
  |false=>rw[h2]at h;cases h
  |true=>
   rw[h2]at h;cases h;refine⟨?_,ha.2⟩;rw[ha.1];split<;>split<;>omega
 ·rw[ao hk,cond_false]at h
  cases h2:sI K.sup x with
  |false=>rw[h2]at h;cases h
  |true=>
   rw[h2]at h;cases h;refine⟨?_,fun y hy=>?_⟩
   ·have:=ha.1
    rw[aF (by omega)]at this;rw[aF (by omega)];simp;omega
   ·rcases de.1 hy with h|h
    ·exact ha.2 y h
    ·rw[bP.1 h];exact hx
theorem Zq3 {K:bz} (h0:0<=K.sup.used): ∀ {x:List bF} {k:Int} {v v':aU},(∀y∈x,ZL y=true)->kP K k x v=some v'->oZ K v k->oZ K v' (k+x.length)
 |[],k,_,_,_,h,ha=>by cases h;simpa using ha
 |y::r,k,v,v',hr,h,ha=>by
  unfold kP at h;cases h1:oh K k y v with
  |none=>rw[h1]at h;cases h
  |some w=>
   rw[h1]at h;have:=Zq3 h0 (fun z hz=>hr z (by simp[hz])) h (Zva (hr y (by simp)) h0 h1 ha)
   rwa [show k+((y::r).length:Int)=k+1+r.length by simp;omega]
theorem Zss {l:List UInt8} {x:List bF} (h:pY l=some x): ∀y∈x,ZL y=true:=by
 unfold pY at h;split at h
 ·cases h
 ·rename_i k t b _
  cases e:(decide (k=2)&&decide (t<128))with
  |false=>rw[e]at h;cases h
  |true=>
   rw[e]at h;cases e2:(kd b t 7).all ZL with
   |false=>rw[e2]at h;cases h
   |true=>rw[e2]at h;cases h;exact gm.1 e2
theorem Zt4 {l:List UInt8} {x:List bF} (h:ZG l= .leaf x): ∀y∈x,ZL y=true:=by
 unfold ZG at h;split at h
 ·cases h
 ·split at h
  ·rename_i e;cases h;exact Zss e
  ·split at h
   ·cases h
   ·split at h
    ·cases h
    ·split at h<;>cases h
theorem Zzn {K:bz} (h0:0<=K.sup.used) {k slot:Int} {v v':aU} (h:kA K k slot v=some v') (ha:oZ K v slot):oZ K v' (slot+7):=by
 unfold kA at h;cases ht:c8 K k v with
 |none=>rw[ht]at h;cases h
 |some q=>
  obtain⟨b,v1⟩:=q;rw[ht]at h;obtain⟨h1,_,_,_,_,h2⟩:=ZW ht;cases b with
  |leaf x=>
   have:=Zq3 h0 (Zt4 h2.symm) h (by unfold oZ;rw[h1];exact ha)
   rwa [Znh h2.symm]at this
  |node x=>cases h
  |cA x=>cases h
  |queue x=>cases h
  |dir x=>cases h
  |none=>cases h
theorem Nd {K:bz} (h0:0<=K.sup.used) {cnt x5:Int} (hc:K.sup.used<=cnt*7): ∀ {x:List Int} {k:Int} {v v':aU},Z8 K cnt x5 k x v=some v'->oZ K v ((x5*16+k)*7)->oZ K v' ((x5*16+k+x.length)*7)
 |[],_,_,_,h,ha=>by cases h;simpa using ha
 |y::r,k,v,v',h,ha=>by
  unfold Z8 at h;have e:(x5*16+k+((y::r).length:Int))*7=(x5*16+(k+1)+r.length)*7:=by simp;omega
  rw[e];cases h1:((!(y==0))==decide (x5*16+k<cnt))with
  |false=>rw[h1]at h;cases h
  |true=>
   rw[h1,cond_true]at h;cases h2:(!(y==0))with
   |false=>
    rw[h2]at h h1;have hk: ¬(x5*16+k<cnt):=by
     intro hh;rw[ah hh]at h1;cases h1
    refine Nd h0 hc h ⟨?_,ha.2⟩;rw[ha.1];split<;>split<;>omega
   |true=>
    rw[h2,cond_true]at h;cases h3:kA K y ((x5*16+k)*7) v with
    |none=>rw[h3]at h;cases h
    |some w=>
     rw[h3]at h;have:=Zzn h0 h3 ha;rw[show(x5*16+k)*7+7=(x5*16+(k+1))*7 by omega]at this;exact Nd h0 hc h this
theorem Zwm {l:List UInt8} {x:List Int} (h:sE l=some x):x.length=16:=by
 unfold sE at h;split at h
 ·cases h
 ·rename_i k t b _
  cases e:(decide (k=3)&&(decide (t=0)&&ZC (b.drop 32)))with
  |false=>rw[e]at h;cases h
  |true=>
   rw[e]at h;cases e2:zT (gp b 16)with
   |false=>rw[e2]at h;cases h
   |true=>rw[e2]at h;cases h;exact qW b 16
theorem ZoU {l:List UInt8} {x:List Int} (h:ZG l= .cA x):x.length=16:=by
 unfold ZG at h;split at h
 ·cases h
 ·split at h
  ·cases h
  ·split at h
   ·rename_i e;cases h;exact Zwm e
   ·split at h
    ·cases h
    ·split at h<;>cases h
theorem Np {K:bz} (h0:0<=K.sup.used) {cnt:Int} (hc:K.sup.used<=cnt*7): ∀ {x:List Int} {k:Int} {v v':aU},lG K cnt k x v=some v'->oZ K v (k*112)->oZ K v' ((k+x.length)*112)
 |[],_,_,_,h,ha=>by cases h;simpa using ha
 |y::r,k,v,v',h,ha=>by
  unfold lG at h;have e:(k+((y::r).length:Int))*112=(k+1+r.length)*112:=by simp;omega
  rw[e];cases h1:((!(y==0))==decide (k*16<cnt))with
  |false=>rw[h1]at h;cases h
  |true=>
   rw[h1,cond_true]at h;cases h2:(y==0)with
   |true=>
    rw[h2]at h h1;have hk: ¬(k*16<cnt):=by
     intro hh;rw[ah hh]at h1;cases h1
    refine Np h0 hc h ⟨?_,ha.2⟩;rw[ha.1];split<;>split<;>omega
   |false=>
    rw[h2,cond_false]at h;cases ht:c8 K y v with
    |none=>rw[ht]at h;cases h
    |some q=>
     obtain⟨b,v1⟩:=q;rw[ht]at h;obtain⟨g1,_,_,_,_,g2⟩:=ZW ht;cases b with
     |leaf x=>cases h
     |node x=>cases h
     |queue x=>cases h
     |dir x=>cases h
     |none=>cases h
     |cA x2=>
      simp only at h;cases h3:Z8 K cnt k 0 x2 v1 with
      |none=>rw[h3]at h;cases h
      |some w=>
       rw[h3]at h;have hb:=ZoU g2.symm;have:=Nd h0 hc h3 (by unfold oZ;rw[g1,show(k*16+0)*7=k*112 by omega];exact ha);rw[hb,show(k*16+0+((16:Nat):Int))*7=(k+1)*112 by omega]at this;exact Np h0 hc h this
theorem Zw2 {u:Int} (h0:0<=u) (h1:u<=1792):u<=vB u*7:=by
 unfold vB nM;rw[ah (show u>=0 from h0),ah h1,wZ,cond_true,Zd (x:=u+7) (by omega) (by omega),Zd (x:=u+7-1) (by omega) (by omega)];obtain⟨k,rfl⟩: ∃k:Nat,u=k:=⟨u.toNat,by omega⟩;rw[show(((k:Nat):Int)+7-1)=((k+6:Nat):Int) by omega,show(((k+6:Nat):Int).tdiv 7)=(((k+6)/7:Nat):Int)from rfl,Zd (by omega) (by omega)];omega
theorem ZxT {K:bz} (h0:0<=K.sup.used) (h1:K.sup.used<=1792) {v v':aU} (hv:v.ax=[]) (h:na K v=some v'):(v'.ax.length:Int)=K.sup.used/\∀x∈v'.ax,ZL x=true:=by
 unfold na at h;cases hu:(K.sup.used==0)with
 |true=>
  rw[hu]at h;cases h;rw[hv];exact⟨by have:=eq_of_beq hu;simp;omega,fun _ h=>by cases h⟩
 |false=>
  rw[hu,cond_false]at h;cases ht:c8 K K.sup.cA v with
  |none=>rw[ht]at h;cases h
  |some q=>
   obtain⟨b,v1⟩:=q;rw[ht]at h;obtain⟨g1,_,_,_,_,g2⟩:=ZW ht;cases b with
   |leaf x=>cases h
   |node x=>cases h
   |queue x=>cases h
   |dir x=>cases h
   |none=>cases h
   |cA x=>
    have:=Np h0 (Zw2 h0 h1) h (by unfold oZ;rw[g1,hv];exact⟨by rw[aF (by omega)];rfl,fun _ h=>by cases h⟩);rw[ZoU g2.symm]at this;have h2:=this.1;refine⟨?_,this.2⟩;rw[h2];split<;>omega
end Go.Gv.F
namespace Go.Gv.F
open Go.Gv
variable {β:Type}
variable {K:bz} {s:St} {v:aU} {L:List Nat} {z1 z2 z3 z4:Nat} {p1 p2 p3 p4:Option (Nat×Nat)} {hd:List DV}
def mZ (K:bz):Nat->List Bool->Int->aU->Option (List Bool×aU)
 |0,_,_,_=>none
 |f+1,fl,next,v=>bif next==0 then some (fl,v)else(bif decide (next<=K.sup.used)then
   (match v.ax[(next-1).toNat]? with
   |none=>none
   |some x=>bif (bif (bif !x.live then decide (x.gen<K.sup.g)else false)then !fl.getD (next-1).toNat false else false)then mZ K f (fl.set (next-1).toNat true) x.block { v with free:=v.free++[next-1] } else none)
  else none)
def Ac (K:bz) (b:Bool) (x:bF):Bool:=bif (bif x.live then true else x.gen==K.sup.g)then true else b
def rk (K:bz):List Bool->List bF->Bool
 |_,[]=>true
 |fl,x::r=>Ac K (fl.getD 0 false) x&&rk K (fl.drop 1) r
def xF (K:bz):Option (List Bool×aU)->Option aU
 |none=>none
 |some (fl,v)=>bif rk K fl v.ax then some v else none
def qk (K:bz) (v:aU):Option aU:=xF K (mZ K (K.sup.used.toNat+1) (List.replicate K.sup.used.toNat false) K.sup.free v)
theorem Zrs: ∀ {l:List Bool} {k:Nat},l.getD k true=false->(l.set k true).count false+1=l.count false
 |[],k,h=>by simp at h
 |b::l,0,h=>by
  simp at h;subst h;simp
 |b::l,k+1,h=>by
  have:=Zrs (l:=l) (k:=k) (by simpa using h);simp only[List.set_cons_succ,List.count_cons];omega
theorem bh.cm {s:St} {a:Option (Nat×Nat)} {cs:List DV} (h:bh [] s a cs) (hn:0<cs.length): ∃b,a=some (b,0)/\s[b]? =some (some ⟨false,cs⟩):=by
 rcases h.2 with⟨_,rfl⟩|⟨i,rfl,_,h3⟩
 ·cases hn
 ·exact⟨i,rfl,h3⟩
theorem HN {s:St} {b:Nat} {l:List bF} {x:bF} {k:Nat} (h:s[b]? =some (some ⟨false,bR l⟩)) (hx:l[k]? =some x) (Kc:List DV->M β):M.load b (k*3+0) 3 Kc s=Kc (fQ x) s:=by
 have hk:k<l.length:=(cw.1 hx).1;rw[dC,kQ h (by rw[ZP];omega),HS hx]
theorem Zzv {Bd:Za} (hM:ZX Bd) (n:Nat) (i1:Nat) (fl:List Bool) (s0:St) (L0:List Nat) (R:Option aU) (hW:Wk K s v L) (hf:s[i1]? =some (some ⟨false,fl.map .bool⟩)) (hl:fl.length=v.ax.length) (hlen:v.ax.length<2000) (bL:Fx L0 s0 s) (eW:Nw L0 s0 L) (hR:xF K (some (fl,v))=R) (X:Nat) (hX:X=v.ax.length) (hn:2010<=n):
  Ok (nY K s0 L0 R []) ((M.nn (some (K.w,0)) fun i3 o2=>
  M.ar i3 (o2+11) fun d2=>
  D.slice 3 d2 fun x2 dh=>
  M.join (fun st=>
   D.nil st<|
   M.ret []) fun aB=>
  M.loop (fun aN st=>
   J.i .i64 st fun x3 st=>
   D.nil st<|
   bif decide (x3<(dh:Int))then
    M.nn x2 fun i4 o3=>
    M.ak (au x3 dh)<|
    M.load i4 (x3.toNat*3+o3) 3 fun cs=>
    J.b cs fun x4 r=>
    J.i .i64 r fun x5 r=>
    J.i .i64 r fun _x6 r=>
    D.nil r<|
    M.join (fun st=>J.b st fun b1 st=>D.nil st<|
     M.join (fun st=>J.b st fun b2 st=>D.nil st<|
      M.call (run Bd n 225 [.bool b2]) fun ds=>
      D.nil ds<|
      aN [.int .i64 (af (x3+1))]) fun bq=>
     bif b1 then
      bq [.bool true]
     else
      M.ak (au x3 X)<|
      M.ar i1 (x3.toNat*1) fun d3=>
      D.bool d3 fun x7=>
      bq [.bool x7]) fun aV=>
    bif x4 then
     aV [.bool true]
    else
     M.nn (some (K.w,0)) fun i5 o4=>
     M.ar i5 (o4+4) fun d4=>
     D.int .i64 d4 fun x8=>
     aV [.bool (x5==x8)]
   else
    aB []) n [.int .i64 0]) s):=by
 subst hX;obtain⟨n,rfl⟩: ∃k,n=k+1:=⟨n-1,by omega⟩;obtain⟨z1,p1,z2,p2,z3,p3,z4,p4,hd,hW⟩:=hW;rw[aW,Zn hW.cell rfl];show Ok _ (D.slice 3 (.slice z1 p1 v.ax.length) _ s);rw[Z5 3 z1 p1 _ hW.e1];simp only[Zb];refine Zl _ (fun q y t=>∃i:Nat,y=[.int .i64 i]/\i<=v.ax.length/\v.ax.length-i<=q/\t=s/\(bif rk K (fl.drop i) (v.ax.drop i)then some v else none)=R) ?_ v.ax.length (n+1) _ _ ⟨0,rfl,bH _,by omega,rfl,hR⟩ (by omega);rintro q _ t ⟨i,rfl,hi,hq,rfl,az⟩ rec aD;simp only[al,ae];by_cases aj:i<v.ax.length
 ·obtain⟨b,rfl,hb⟩:=hW.o1.cm (by rw[ZP];omega)
  have iY:v.ax[i]? =some v.ax[i]:=ba aj;have jj:v.ax.drop i=v.ax[i]::v.ax.drop (i+1):=hJ aj;have hfi:fl[i]? =some (fl[i]'(by omega)):=ba (by omega);rw[ah (show(i:Int)<(v.ax.length:Int) by omega),cond_true,aW,Ze (Zk aj),aY,HN hb iY];rw[jj]at az;unfold rk at az;rw[iM,show(fl.drop i).getD 0 false=fl[i]'(by omega) by rw[bM,nR,dC,hfi];rfl]at az;generalize v.ax[i]=x at az;unfold fQ;simp only[ai,al,ae,aW];have oB:af ((i:Int)+1)=((i+1:Nat):Int):=Zd (by omega) (by omega);rw[oB];have iS:Ok (nY K s0 L0 R []) (M.call (run Bd (n+1) 225 [.bool (Ac K (fl[i]'(by omega)) x)]) (fun ds=>D.nil ds<|rec [.int .i64 ((i+1:Nat):Int)]) t):=by
   cases h0:Ac K (fl[i]'(by omega)) x with
   |true=>
    rw[h0,cI]at az;rw[oU hM n rfl];simp only[ae];exact aD (v.ax.length-(i+1)) _ _ (by omega) ⟨i+1,rfl,by omega,aA _,rfl,az⟩
   |false=>
    rw[h0,eE,cond_false]at az;rw[ZK hM n rfl,<-az];exact .mk ⟨t,rfl,bL⟩
  unfold Ac at iS;have QD: ∀Kc:DV->M (List DV),M.ar i1 (i*1) Kc t=Kc (.bool (fl[i]'(by omega))) t:=fun Kc=>Zn hf (by rw[dx,gB,hfi];rfl) Kc
  have pD: ∀Kc:DV->M (List DV),M.ar K.w (0+4) Kc t=Kc (.int .i64 K.sup.g) t:=fun Kc=>Zn hW.cell rfl Kc
  cases gr:x.live with
  |true=>
   simp only[gr,cond_true]at iS;rw[cond_true];exact iS
  |false=>
   simp only[gr,cond_false]at iS;rw[cond_false,pD];simp only[aS];cases hg:(x.gen==K.sup.g)with
   |true=>
    simp only[hg,cond_true]at iS;rw[cond_true];exact iS
   |false=>
    simp only[hg,cond_false]at iS;rw[cond_false,Ze (Zk aj),QD];simp only[xh];exact iS
 ·rw[ao (show ¬(i:Int)<(v.ax.length:Int) by omega),cond_false]
  rw[Zc];rw[mO (as:=v.ax) (by omega)]at az;have uy:some v=R:=az;rw[<-uy];exact .mk ⟨t,L,rfl,hW.wk,bL,eW⟩
theorem Zzx {Bd:Za} (h:KY Bd) (n:Nat) (hW:Wk K s v L) (h0:0<=K.sup.used) (h1:K.sup.used<=1792) (uu:0<=K.sup.free) (hs:(v.ax.length:Int)=K.sup.used) (hr: ∀x∈v.ax,ZL x=true) (hh:v.av=[]) (eK:v.free=[]) (hn:2100<=n):
  Ok (nY K s L (qk K v) []) (run Bd n 230 [.ptr (some (K.w,0))] s):=by
 obtain⟨n,rfl⟩: ∃k,n=k+2:=⟨n-2,by omega⟩;rw[Zf,h.eq];unfold Fa qk;simp only[fa,ae];rw[aW];obtain⟨z1,p1,z2,p2,z3,p3,z4,p4,hd,hW⟩:=hW;rw[Zn hW.cell rfl];simp only[aS];rw[Ze (by rw[aH,aH,bx,bx,bx];omega),Zy,z7];have uF:=aw.new s (some (⟨false,List.replicate K.sup.used.toNat (.bool false)⟩:bn));have Tn:(s++[some (⟨false,List.replicate K.sup.used.toNat (.bool false)⟩:bn)])[s.length]? =some (some ⟨false,(List.replicate K.sup.used.toNat false).map .bool⟩):=by simp
 have AF:=hW.pre uF;have Te:=AF.cell;generalize s++[some (⟨false,List.replicate K.sup.used.toNat (.bool false)⟩:bn)]=s0 at uF Tn AF Te;rw[aW,Zn Te rfl];simp only[aS];rw[Zb];obtain⟨R,hR⟩: ∃R,xF K (mZ K (K.sup.used.toNat+1) (List.replicate K.sup.used.toNat false) K.sup.free v)=R:=⟨_,rfl⟩;rw[hR];have hX:K.sup.used.toNat=v.ax.length:=by omega
 have Qp:s.length∉L:=fun hm=>by have:=hW.lt _ hm;omega
 refine Zl _ (fun q y t=>∃(f:Nat) (fl:List Bool) (next:Int) (u:aU) (Lu:List Nat),y=[.int .i64 next]/\0<=next/\fl.length=v.ax.length/\fl.count false<=q/\fl.count false<f/\Wk K t u Lu/\u.ax=v.ax/\u.av=[]/\u.free.length+fl.count false<=v.ax.length/\t[s.length]? =some (some ⟨false,fl.map .bool⟩)/\s.length∉Lu/\Fx L s t/\Nw L s Lu/\xF K (mZ K f fl next u)=R) ?_ v.ax.length (n+1) _ _ ⟨K.sup.used.toNat+1,_,K.sup.free,v,L,rfl,uu,by simp[hX],by simp[hX],by simp,AF.wk,rfl,hh,by simp[eK,hX],Tn,Qp,Fx.pre L uF,.refl L s,hR⟩ (by omega);rintro q _ t ⟨f,fl,next,u,Lu,rfl,AW,eI,hcq,qm,cB,im,pH,huf,qz,Qq,bL,eW,az⟩ rec aD;simp only[al,ae];obtain⟨f,rfl⟩: ∃k,f=k+1:=⟨f-1,by omega⟩;unfold mZ at az;cases hz:(next==0)with
 |true=>
  rw[hz,cond_true]at az;rw[bg,cond_false];exact Zzv h.fh (n+1) s.length fl s L R cB qz (by rw[im];exact eI) (by rw[im];omega) bL eW az K.sup.used.toNat (by rw[im];exact hX) (by omega)
 |false=>
  rw[hz,cond_false]at az;rw[bu,cond_true];have yh:next≠0:=fun e=>by rw[e]at hz;cases hz
  obtain⟨z1,p1,z2,p2,z3,p3,z4,p4,hd,cB⟩:=cB;rw[aW,Zn cB.cell rfl];simp only[aS];cases hle:decide (next<=K.sup.used)with
  |false=>
   rw[hle,cond_false]at az;rw[ZK h.fh n rfl];have uy:none=R:=az;rw[<-uy];exact .mk ⟨t,rfl,bL⟩
  |true=>
   have Yn:=mU hle;rw[hle,cond_true]at az;rw[oU h.fh n rfl];simp only[ae];obtain⟨k,hk⟩: ∃k:Nat,next-1=k:=⟨(next-1).toNat,by omega⟩;have iT:k<u.ax.length:=by rw[im];omega
   have cc:af (next-1)=(k:Int):=by rw[Zd (by omega) (by omega),hk]
   rw[hk,aY]at az;simp only[cc,aY];rw[aW,Zn cB.cell rfl];show Ok _ (D.slice 3 (.slice z1 p1 u.ax.length) _ t);rw[Z5 3 z1 p1 _ cB.e1];obtain⟨b,rfl,hb⟩:=cB.o1.cm (by rw[ZP];omega);have iY:u.ax[k]? =some u.ax[k]:=ba iT;have JO:=hr u.ax[k] (by rw[<-im];exact gC iT);rw[aW,Ze (Zk iT),HN hb iY];rw[iY]at az;simp only at az;generalize u.ax[k]=x at az JO;unfold fQ;simp only[ai,al,ae,Zb,aW];have Qd:fl[k]? =some (fl[k]'(by omega)):=ba (by omega);rw[show fl.getD k false=fl[k]'(by omega) by rw[bM,Qd];rfl]at az;have pD: ∀Kc:DV->M (List DV),M.ar K.w (0+4) Kc t=Kc (.int .i64 K.sup.g) t:=fun Kc=>Zn cB.cell rfl Kc
   have QD: ∀Kc:DV->M (List DV),M.ar s.length (k*1) Kc t=Kc (.bool (fl[k]'(by omega))) t:=fun Kc=>Zn qz (by rw[dx,gB,Qd];rfl) Kc
   cases gr:x.live with
   |true=>
    simp only[gr,bg,cond_false]at az;rw[bg,cond_false];simp only[cond_false];rw[ZK h.fh n rfl];have uy:none=R:=az;rw[<-uy];exact .mk ⟨t,rfl,bL⟩
   |false=>
    simp only[gr,bu,cond_true]at az;rw[bu,cond_true,pD];simp only[aS];cases hg:decide (x.gen<K.sup.g)with
    |false=>
     simp only[hg,cond_false]at az;simp only[cond_false];rw[ZK h.fh n rfl];have uy:none=R:=az;rw[<-uy];exact .mk ⟨t,rfl,bL⟩
    |true=>
     simp only[hg,cond_true]at az;simp only[cond_true];rw[hX,<-im,Ze (Zk iT),QD];simp only[xh];cases Qe:fl[k]'(by omega)with
     |true=>
      simp only[Qe,bg,cond_false]at az;rw[bg,ZK h.fh n rfl];have uy:none=R:=az;rw[<-uy];exact .mk ⟨t,rfl,bL⟩
     |false=>
      simp only[Qe,bu,cond_true]at az;rw[bu,oU h.fh n rfl];simp only[ae];rw[Ze (Zk iT),qY qz (by simp;omega)];have cu:(fl.map DV.bool).set (k*1) (.bool true)=(fl.set k true).map DV.bool:=by rw[dx,zc]
      rw[cu];have Qi:=Fx.set t s.length (some (⟨false,(fl.set k true).map DV.bool⟩:bn));have Wl:jN [s.length] K.a:=fun b o e hm=>by
       have aj:=Sl.lt (e▸hW.img);rw[bP.1 hm]at aj;omega
      have Jk:=cB.gx Qi (fun y hy=>by rw[bP.1 hy];exact Qq) Wl (by
       have:=cB.av;rw[pH]at this⊢;exact this)
      have Qf:(t.set s.length (some (⟨false,(fl.set k true).map DV.bool⟩:bn)))[s.length]? =some (some ⟨false,(fl.set k true).map .bool⟩):=fV (cw.1 qz).1;have Qj:Fx L s (t.set s.length (some (⟨false,(fl.set k true).map DV.bool⟩:bn))):=bL.step Qi fun y hy=> .inr (by rw[bP.1 hy];exact aA _)
      generalize t.set s.length (some (⟨false,(fl.set k true).map DV.bool⟩:bn))=t1 at Qi Jk Qf Qj;rw[Zn Jk.cell rfl];show Ok _ (D.slice 1 (.slice z4 p4 u.free.length) _ t1);rw[Z5 1 z4 p4 _ Jk.e4];have kV:=Zrs (l:=fl) (k:=k) (by rw[bM,Qd,Qe];rfl);obtain⟨b2,t2,t3,L3,g1,g2,g3,g4,g5,g6⟩:=Jk.Xg (β:=List DV) (k:Int) (by omega);have Yy:s.length<t1.length:=(cw.1 Qf).1;refine Eq.mpr (congrArg (Ok _) (g1 _)) ?_;refine Eq.mpr (congrArg (Ok _) (g2 _)) ?_;have hblk:0<=x.block:=by
       unfold ZL at JO;rw[gr,cond_false,aH,aH]at JO;have h2:=JO.2.1;unfold ke at h2;by_cases um:x.block>=0
       ·exact um
       ·rw[ao um]at h2;cases h2
      refine aD ((fl.set k true).count false) _ _ (by omega) ⟨f,fl.set k true,x.block,_,L3,rfl,hblk,by simpa using eI,aA _,by omega,g3.wk,im,pH,by simp;omega,?_,?_,Qj.step g4 eW,eW.trans Qj.1 g5,az⟩
      ·refine g4.2 _ _ Qq Qf
      ·intro hm
       rcases g5 _ hm with e|e
       ·exact Qq e
       ·omega
end Go.Gv.F
namespace Go.Gv.F
open Go.Gv
variable {β:Type}
variable {K:bz} {s:St} {v:aU} {L:List Nat} {z1 z2 z3 z4:Nat} {p1 p2 p3 p4:Option (Nat×Nat)} {hd:List DV}
def qJ (v:aU):aU:= { v with gens:=v.gens++v.ax.map (·.gen) }
def yE (v:aU):Nat:=(v.ax.filter (·.live)).length
theorem ZzS {Bd:Za} (h:K0 Bd) (n:Nat) (hW:Wk K s v L) (hl:v.ax.length<2000) (hg:v.gens.length<100000) (hn:2010<=n):
  Ok (fun o=>∃s' L',o=(.val [.int .i64 (yE v:Nat)],s')/\Wk K s' (qJ v) L'/\Fx L s s'/\Nw L s L') (run Bd n 234 [.ptr (some (K.w,0))] s):=by
 obtain⟨n,rfl⟩: ∃k,n=k+1:=⟨n-1,by omega⟩;rw[Zf,h.eq];unfold EX;simp only[fa,ae,aW,Zb];obtain⟨z1,p1,z2,p2,z3,p3,z4,p4,hd,hW⟩:=hW;rw[Zn hW.cell rfl];show Ok _ (D.slice 3 (.slice z1 p1 v.ax.length) _ s);rw[Z5 3 z1 p1 _ hW.e1];refine Zl _ (fun q y t=>∃(i:Nat) (z3:Nat) (p3:Option (Nat×Nat)) (Lu:List Nat),y=[.int .i64 (((v.ax.take i).filter (·.live)).length:Nat),.int .i64 i]/\i<=v.ax.length/\v.ax.length-i<=q/\cW K t { v with gens:=v.gens++(v.ax.take i).map (·.gen) } Lu z1 p1 z2 p2 z3 p3 z4 p4 hd/\Fx L s t/\Nw L s Lu) ?_ v.ax.length n _ _ ⟨0,z3,p3,L,rfl,bH _,by omega,by simpa using hW,.refl L s,.refl L s⟩ (by omega);rintro q _ t ⟨i,z3,p3,Lu,rfl,hi,hq,cB,eL,gF⟩ rec aD;simp only[al,ae];by_cases aj:i<v.ax.length
 ·obtain⟨b,rfl,hb⟩:=cB.o1.cm (by rw[ZP];exact Nat.mul_pos (by show 0<v.ax.length;omega) (by omega))
  have iY:v.ax[i]? =some v.ax[i]:=ba aj;have gS:v.ax.take (i+1)=v.ax.take i++[v.ax[i]]:=kL aj;rw[ah (show(i:Int)<(v.ax.length:Int) by omega),cond_true,aW,Ze (Zk aj),aY,HN hb iY];generalize v.ax[i]=x at gS;unfold fQ;simp only[ai,al,ae];rw[Zn cB.cell rfl];show Ok _ (D.slice 1 (.slice z3 p3 (v.gens++(v.ax.take i).map (·.gen)).length) _ t);rw[Z5 1 z3 p3 _ cB.e3];have ux:(v.gens++(v.ax.take i).map (·.gen)).length<1000000:=by
   rw[aZ,lV,cn];omega
  obtain⟨b2,t2,t3,L3,g1,g2,g3,g4,g5,g6⟩:=cB.Xh (β:=List DV) x.gen ux;refine Eq.mpr (congrArg (Ok _) (g1 _)) ?_;refine Eq.mpr (congrArg (Ok _) (g2 _)) ?_;have oB:af ((i:Int)+1)=((i+1:Nat):Int):=Zd (by omega) (by omega);have eI:((v.ax.take i).filter (·.live)).length<=i:=eZ (List.length_filter_le _ _) (by rw[cn];omega);have uK:af (((((v.ax.take i).filter (·.live)).length:Nat):Int)+1)=((((v.ax.take i).filter (·.live)).length+1:Nat):Int):=Zd (by omega) (by omega);rw[oB,uK];have uw:cW K t3 { v with gens:=v.gens++(v.ax.take (i+1)).map (·.gen) } L3 z1 (some (b,0)) z2 p2 1 (some (b2,0)) z4 p4 hd:=by
   rw[gS,dD,<-dB];exact g3
  cases gr:x.live with
  |true=>
   rw[cond_true];exact aD (v.ax.length-(i+1)) _ _ (by omega) ⟨i+1,1,some (b2,0),L3,by rw[gS,w8];simp[gr],by omega,aA _,uw,eL.step g4 gF,gF.trans eL.1 g5⟩
  |false=>
   rw[cond_false];exact aD (v.ax.length-(i+1)) _ _ (by omega) ⟨i+1,1,some (b2,0),L3,by rw[gS,w8];simp[gr],by omega,aA _,uw,eL.step g4 gF,gF.trans eL.1 g5⟩
 ·rw[ao (show ¬(i:Int)<(v.ax.length:Int) by omega),cond_false]
  simp only[Zc];rw[cF (by omega)]at cB⊢;exact .mk ⟨t,Lu,rfl,cB.wk,eL,gF⟩
end Go.Gv.F
