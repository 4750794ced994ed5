/- The text of a state: the program's and the document's. -/
import Derived.Test.YtegglibipjjblaaGreatDoorGvBMk
import Derived.Test.YtegglibipjjblaaGreatDoorGvZPf
namespace Go.Gv.F
open Go.Gv
variable {β:Type}
variable {c s s' s0:St}
theorem Ok.mn {α:Type} {P:Out α×St->Prop} {Q:Out β×St->Prop} {m:M α} {K:α->M β} (h:Ok P (m s)) (k: ∀o,P o->∃ds s',o=(.val ds,s')/\aD s s'/\Ok Q (K ds s')):Ok Q (rR m K s):=by
 obtain⟨o,e,p⟩:=h;obtain⟨ds,s',rfl,hp,hq⟩:=k o p;rw[rH e hp];exact hq
structure aaX (x:eO):Prop where
 b:me x.blocks
 s:me x.cO
 g:me x.g
 aH: ∀v∈x.aH,me v
 free: ∀v∈x.free,me v
 bW: ∀h∈x.aU,∀e∈h.bW,me e.slot/\me e.gen/\me e.key/\me e.value
def sO (j:ai) (s s':St):Prop:=∀(i:Nat) (b:Option bT),s[i]? =some b->(∀o,j≠some (i,o))->s'[i]? =some b
theorem sO.pre (j:ai) (h:aD s s'):sO j s s':=λ_ _ e _=>h.get e
theorem sO.set (s:St) (r o:Nat) (b:Option bT):sO (some (r,o)) s (s.set r b):=by
 intro i b' e du;have:r≠i:=by rintro rfl;exact du o rfl
 rw[jZ this];exact e
theorem sO.trans {j:ai} {a b:St} (h:sO j a b) (k:sO j b c):sO j a c:=λi x e du=>k i x (h i x e du) du
theorem ba.aak {a:ai} {cs:ah} (h:ba s0 s a cs) {sz n lim:Nat} (ds:ah) (hz:0<sz) (hn:cs.length=n*sz) (hd:ds.length=sz) (hl:n+1<=lim):
  ∃i s',s.length<=i/\ba s0 s' (some (i,0)) (cs++ds)/\Kp s s'/\sO a s s'/\∀K:ai->M β,(cg ds λi=>bS i 0 sz λcs'=>cm sz a n cs' 1 lim K) s=K (some (i,0)) s':=by
 have hb:Nat.beq 1 0=false:=rfl;rcases h.2 with⟨rfl,rfl⟩|⟨i,rfl,hi,hs⟩
 .have h0:n=0:=by
   rcases Gh.1 (show n*sz=0 by simpa using hn.symm)with h|h
   .exact h
   .omega
  subst h0;refine⟨s.length+1,s++[some (⟨false,ds⟩:bT)]++[some (⟨false,ds⟩:bT)],by omega,⟨h.1.trans ((aD.new _ _).trans (.new _ _)),.inr ⟨s.length+1,rfl,by have:=h.1.len;omega,?_⟩⟩,((aD.new _ _).trans (.new _ _)).kp,sO.pre _ ((aD.new _ _).trans (.new _ _)),λK=>?_⟩
  .rw[jY (by simp)];simp
  .rw[Zy,kC (f:=false) (all:=ds) (by simp) (by omega),dj,dq (by omega)]
   unfold cm;simp only[hb,gf hl,ae,af];simp
 .have jL:i<s.length:=(dB.1 hs).1
  have jN:(s++[some (⟨false,ds⟩:bT)])[i]? =some (some (⟨false,cs⟩:bT)):=by rw[l8 jL];exact hs
  have ef:(s++[some (⟨false,ds⟩:bT)]).gE i=some cs:=by unfold St.gE;rw[jN]
  refine⟨s.length+1,(s++[some (⟨false,ds⟩:bT)]).set i none++[some (⟨false,cs++ds⟩:bT)],by omega,⟨(wV (h.1.trans (.new _ _)) hi none).trans (.new _ _),.inr ⟨s.length+1,rfl,by have:=h.1.len;omega,?_⟩⟩,(aD.new _ _).kp.trans ((Kp.set jN none).trans (aD.new _ _).kp),(sO.pre _ (aD.new _ _)).trans ((sO.set _ i 0 none).trans (sO.pre _ (aD.new _ _))),λK=>?_⟩
  .rw[jY (by simp)];simp
  .rw[Zy,kC (f:=false) (all:=ds) (by simp) (by omega),dj,dq (by omega)]
   unfold cm;simp only[hb,gf hl,ae,af,ef];rw[ej,gf (by omega)];simp only[ae,dj];rw[dq (by omega)];simp
end Go.Gv.F
namespace Go.Gv.F
open Go.Gv
abbrev Mh:Ty:= .pr (.pr (.i .i64) (.pr (.i .i64) .un)) (.pr (.i .i64) (.pr (.i .i64) .un))
abbrev LM:Ty:= .pr .s (.pr (.sl Mh) .un)
abbrev aas:Ty:= .pr (.pr (.i .i64) (.pr (.i .i64) (.pr (.i .i64) .un))) (.pr (.sl LM) (.pr (.sl (.i .i64)) (.pr (.sl (.i .i64)) .un)))
def fy (e:bh):Prop:=me e.slot/\me e.gen/\me e.key/\me e.value
variable {d:DV} {s:St} {cs:ah}
theorem Zyh (h:Rd s Mh cs): ∃e,cs=eR e/\fy e:=by
 obtain⟨_,_,rfl,⟨_,_,rfl,⟨h1,rfl,b1,b2⟩,⟨_,_,rfl,⟨h2,rfl,c1,c2⟩,hu⟩⟩,⟨_,_,rfl,⟨ky,rfl,d1,d2⟩,⟨_,_,rfl,⟨vl,rfl,e1,e2⟩,IU⟩⟩⟩:=h;cases hu;cases IU;exact⟨⟨h1,h2,ky,vl⟩,rfl,wP ⟨b1,b2⟩,wP ⟨c1,c2⟩,wP ⟨d1,d2⟩,wP ⟨e1,e2⟩⟩
theorem ZqZ {s:St} : ∀(n:Nat) (cs:ah),cs.length=n*4->(∀j,j<n->Rd s Mh ((cs.drop (j*4)).take 4))->∃l:List bh,l.length=n/\cs=bM l/\∀e∈l,fy e
 |0,cs,hl,_=>⟨[],rfl,zL (by omega),λx hx=>by cases hx⟩
 |n+1,cs,hl,h=>by
  have h0:=h 0 (by omega);rw[od,dj]at h0;obtain⟨x,e,hr⟩:=Zyh h0;obtain⟨xs,g1,g2,g3⟩:=ZqZ (s:=s) n (cs.drop 4) (by rw[dT];omega) λj hj=>by
   have:=h (j+1) (by omega);rw[jX,show 4+j*4=(j+1)*4 by omega];exact this
  refine⟨x::xs,by simp[g1],?_,λy hy=>?_⟩
  .have e2:bM (x::xs)=eR x++bM xs:=rfl
   rw[e2,<-g2,<-e,nu]
  .rcases dC.1 hy with rfl|hy
   .exact hr
   .exact g3 y hy
theorem Zxd (h:Rd s (.sl Mh) [d]): ∃p l,d= .slice 4 p (List.length l)/\Sl s p (bM l)/\∀e∈l,fy e:=by
 rcases h with h|⟨i,n,cs,h1,h2,h3,_,h5⟩
 .exact⟨none,[],(BH h).1,rfl,λx hx=>by cases hx⟩
 .obtain⟨xs,g1,rfl,g3⟩:=ZqZ n cs h3 h5
  refine⟨some (i,0),xs,?_,⟨true,_,h2,by simp,by rw[dj,rq]⟩,g3⟩;rw[(BH h1).1,g1];rfl
theorem ZxH (h:Rd s LM cs): ∃g p,cs=jw g 4 p/\Sl s p (bM g.bW)/\∀e∈g.bW,fy e:=by
 obtain⟨_,_,rfl,⟨nm,rfl,_⟩,⟨l,_,rfl,hl,IU⟩⟩:=h;cases IU;have hlen:=hl.len;obtain⟨d,rfl⟩: ∃d,l=[d]:=N6.1 hlen;obtain⟨p,li,rfl,hs,hr⟩:=Zxd hl;exact⟨⟨nm,li⟩,p,rfl,hs,hr⟩
theorem Zqg {s:St} : ∀(n:Nat) (cs:ah),cs.length=n*2->(∀j,j<n->Rd s LM ((cs.drop (j*2)).take 2))->∃l:List dr,l.length=n/\je s cs l/\∀g∈l,∀e∈g.bW,fy e
 |0,cs,hl,_=>⟨[],rfl,zL (by omega),λx hx=>by cases hx⟩
 |n+1,cs,hl,h=>by
  have h0:=h 0 (by omega);rw[od,dj]at h0;obtain⟨x,p,e,hs,hr⟩:=ZxH h0;obtain⟨xs,g1,g2,g3⟩:=Zqg (s:=s) n (cs.drop 2) (by rw[dT];omega) λj hj=>by
   have:=h (j+1) (by omega);rw[jX,show 2+j*2=(j+1)*2 by omega];exact this
  refine⟨x::xs,by simp[g1],⟨4,p,cs.drop 2,.inl rfl,by rw[<-e,nu],hs,g2⟩,λy hy=>?_⟩;rcases dC.1 hy with rfl|hy
  .exact hr
  .exact g3 y hy
theorem Zwn (h:Rd s (.sl LM) [d]): ∃p xs ds,d= .slice 2 p (List.length xs)/\Sl s p ds/\je s ds xs/\∀g∈xs,∀e∈g.bW,fy e:=by
 rcases h with h|⟨i,n,cs,h1,h2,h3,_,h5⟩
 .exact⟨none,[],[],(BH h).1,rfl,rfl,λx hx=>by cases hx⟩
 .obtain⟨xs,g1,g2,g3⟩:=Zqg n cs h3 h5
  refine⟨some (i,0),xs,cs,?_,⟨true,cs,h2,by simp,by rw[dj,rq]⟩,g2,g3⟩;rw[(BH h1).1,g1];rfl
theorem ags (h:Rd s aas cs): ∃x z1 p1 z2 p2 z3 p3,cs=dK x z1 p1 z2 p2 z3 p3/\(z1=2\/p1=none)/\(z2=1\/p2=none)/\(z3=1\/p3=none)/\ny s x p1 p2 p3/\aaX x:=by
 obtain⟨_,_,rfl,⟨_,_,rfl,⟨b,rfl,a1,a2⟩,⟨_,_,rfl,⟨sl,rfl,b1,b2⟩,⟨_,_,rfl,⟨g,rfl,c1,c2⟩,hu⟩⟩⟩,⟨l1,_,rfl,oP,⟨l2,_,rfl,mW,⟨l3,_,rfl,Bi,IU⟩⟩⟩⟩:=h;cases hu;cases IU;obtain⟨d1,rfl⟩: ∃d,l1=[d]:=N6.1 oP.len;obtain⟨d2,rfl⟩: ∃d,l2=[d]:=N6.1 mW.len;obtain⟨d3,rfl⟩: ∃d,l3=[d]:=N6.1 Bi.len;obtain⟨p1,hs,ds,rfl,f1,f2,f3⟩:=Zwn oP;obtain⟨p2,gs,⟨z2,gD,rfl⟩,g1,g2⟩:=Ztw mW;obtain⟨p3,fs,⟨z3,kL,rfl⟩,k1,k2⟩:=Ztw Bi;exact⟨⟨b,sl,g,hs,gs,fs⟩,2,p1,z2,p2,z3,p3,rfl,.inl rfl,gD,kL,⟨⟨ds,f1,f2⟩,g1,k1⟩,⟨wP ⟨a1,a2⟩,wP ⟨b1,b2⟩,wP ⟨c1,c2⟩,g2,k2,f3⟩⟩
structure Gp (x:eO):Prop where
 h:x.aU.length<=8
 g:x.aH.length<=60
 f:x.free.length<=60
 b:x.blocks<=400
 hs: ∀h∈x.aU,h.bW.length<=40/\h.name.length<=60
theorem ZlE: ∀(l:List dr),(∀h∈l,h.bW.length<=40)->(pI l).length<=l.length*40
 |[],_=>aL _
 |g::l,h=>by
  have e:pI (g::l)=g.bW++pI l:=rfl;have h1:=h g oa;have h2:=ZlE l λx hx=>h x (rp _ hx)
  rw[e,bz,cH];omega
theorem Gp.sz {x:eO} (h:Gp x):BZ x:=by
 have h1:=ZlE x.aU λg hg=>(h.hs g hg).1
 have h2:=h.h;have h3:=h.g;have h4:=h.f;exact⟨⟨by omega,λg hg=>by have:=(h.hs g hg).1;omega,λg hg=>by have:=(h.hs g hg).2;omega⟩,by rw[RG];omega,by omega,by omega⟩
variable {Bd:Zh} [h:HA Bd]
theorem ZoG (n:Nat) (x:eO) (z1 z2 z3:Nat) (p1 p2 p3:ai) (st:St) (hZ:z1=2\/p1=none) (gD:z2=1\/p2=none) (kL:z3=1\/p3=none) (hr:ny st x p1 p2 p3) (hn:20<=n):
  Ok (λo=>∃b,o=(.val [.bool b],st)/\(b=true↔Gp x)) (run Bd n 138 [.agg (dK x z1 p1 z2 p2 z3 p3)] st):=by
 obtain⟨n,rfl⟩: ∃m,n=m+1:=⟨n-1,by omega⟩;rw[Ze,h.abv];unfold PH ZF az Q_ cI N_ ua Lb Li;have ag: ∀(l:ah) (K:ah->ah->M ah),bn (.agg (dK x z1 p1 z2 p2 z3 p3)::l) K=K (dK x z1 p1 z2 p2 z3 p3) l:=λ_ _=>rfl
 rw[ag];unfold dK;simp only[av,Zg 2 z1 p1 _ hZ,Zg 1 z2 p2 _ gD,Zg 1 z3 p3 _ kL,aq];have no: ¬Gp x->Ok (λo=>∃b,o=(.val [.bool b],st)/\(b=true↔Gp x)) ((ay [.bool false]:M ah) st):=by
  intro hm;rw[Zd];exact .mk ⟨false,rfl,by simp[hm]⟩
 rw[Za];by_cases d1:(x.aU.length:Int)>8
 .rw[aw d1,ae]
  simp only[au,aq];rw[Za,ae];simp only[au,aq];rw[Za,ae];simp only[au,aq];rw[ae];exact no λhh=>by have:=hh.h;omega
 rw[aB d1,af];simp only[au,aq];rw[Za];by_cases d2:(x.aH.length:Int)>60
 .rw[aw d2,ae]
  simp only[au,aq];rw[Za,ae];simp only[au,aq];rw[ae];exact no λhh=>by have:=hh.g;omega
 rw[aB d2,af];simp only[au,aq];rw[Za];by_cases d3:(x.free.length:Int)>60
 .rw[aw d3,ae]
  simp only[au,aq];rw[ae];exact no λhh=>by have:=hh.f;omega
 rw[aB d3,af];simp only[au,aq];by_cases d4:x.blocks>400
 .rw[aw d4,ae]
  exact no λhh=>by have:=hh.b;omega
 rw[aB d4,af,Za];obtain⟨ds,hs,hh⟩:=hr.hp;refine Zj _ (λq y s=>∃i:Nat,y=[.int .i64 i]/\i<=x.aU.length/\x.aU.length-i<=q/\s=st/\∀j g,j<i->x.aU[j]? =some g->g.bW.length<=40/\g.name.length<=60) ?_ x.aU.length n _ _ ⟨0,rfl,cn _,by omega,rfl,λj g hj=>absurd hj (DO j)⟩ (by omega);rintro q _ s ⟨i,rfl,hi,hq,rfl,cS⟩ rec aP;simp only[av,aq];by_cases ax:i<x.aU.length
 .obtain⟨i1,o1,rfl⟩:=hs.cD (by rw[hh.len];omega)
  have hg:x.aU[i]? =some x.aU[i]:=bU ax;generalize x.aU[i]=g at hg;obtain⟨pe,sd,le⟩:=G6 (β:=ah) hs hh hg;rw[aw (show(i:Int)<(x.aU.length:Int) by omega),ae,aX,Zb (Zi ax),bu,le,Za];by_cases d5:(g.bW.length:Int)>40
  .rw[aw d5,ae]
   simp only[au,aq];rw[ae];exact no λhh=>by have:=(hh.hs g (oZ hg)).1;omega
  rw[aB d5,af,aX,Zb (Zi ax),B4 hs hh hg];simp only[wJ,au,aq];by_cases d6:(g.name.length:Int)>60
  .rw[aw d6,ae]
   exact no λhh=>by have:=(hh.hs g (oZ hg)).2;omega
  .rw[aB d6,af,Zc]
   refine aP (x.aU.length-(i+1)) _ _ (by omega) ⟨i+1,rfl,by omega,by omega,rfl,λj g' hj e=>?_⟩;by_cases kH:j<i
   .exact cS j g' kH e
   .have:j=i:=by omega
    subst this;rw[hg]at e;cases e;omega
 .rw[aB (show ¬(i:Int)<(x.aU.length:Int) by omega),af,Zd]
  refine .mk ⟨true,rfl,?_⟩;simp only[true_iff];refine⟨by omega,by omega,by omega,by omega,λg hg=>?_⟩;obtain⟨j,hj,rfl⟩:=Gc hg;exact cS j _ (by omega) (bU hj)
theorem ZhV {Bd:Zh} (h:Pf Bd) (n za zb:Nat) (l m:List bh) (p q:ai) (st:St) (zl:za=4\/p=none) (zm:zb=4\/q=none) (hp:Sl st p (bM l)) (hq:Sl st q (bM m)) (hl:l.length<=50000) (hn:50100<=n):
  Ok (λo=>∃b,o=(.val [.bool b],st)/\(b=true↔l=m)) (run Bd n 153 [.slice za p l.length,.slice zb q m.length] st):=by
 obtain⟨n,rfl⟩: ∃m,n=m+1:=⟨n-1,by omega⟩;rw[Ze,h.eq];unfold D4 Q_ cI N_ pE Lb Li;simp only[Zg 4 za p _ zl,Zg 4 zb q _ zm,aq];have no:l≠m->Ok (λo=>∃b,o=(.val [.bool b],st)/\(b=true↔l=m)) ((ay [.bool false]:M ah) st):=by
  intro hm;rw[Zd];exact .mk ⟨false,rfl,by simp[hm]⟩
 by_cases hlm:l.length=m.length;rotate_left
 .rw[show((l.length:Int)==(m.length:Int))=false from dY.2 (by omega),bp,ae]
  exact no λe=>hlm (by rw[e])
 rw[show((l.length:Int)==(m.length:Int))=true by rw[hlm];exact rr _,bm,af,Za];refine Zj _ (λk y s=>∃i:Nat,y=[.int .i64 i]/\i<=l.length/\l.length-i<=k/\s=st/\∀j,j<i->l[j]? =m[j]?) ?_ l.length n _ _ ⟨0,rfl,cn _,by omega,rfl,λj hj=>absurd hj (DO j)⟩ (by omega);rintro k _ s ⟨i,rfl,hi,hk,rfl,cS⟩ rec aP;simp only[av,aq];by_cases ax:i<l.length
 .obtain⟨i1,o1,rfl⟩:=hp.cD (by rw[Zr];omega)
  obtain⟨i2,o2,rfl⟩:=hq.cD (by rw[Zr];omega);have e1:l[i]? =some l[i]:=bU ax;have e2:m[i]? =some m[i]:=bU (by omega);generalize l[i]=a at e1;generalize m[i]=b at e2;rw[aw (show(i:Int)<(l.length:Int) by omega),ae,aX,Zb (Zi ax),bu,Hi hp e1];unfold eR;simp only[av,aq];rw[aX,Zb (Zi),Hi hq e2];unfold eR;simp only[av,aq];have Ih:((a.slot==b.slot)&&((a.gen==b.gen)&&((a.key==b.key)&&((a.value==b.value)&&true))))=true↔a=b:=by
   simp only[wE,aR,kU];constructor
   .rintro⟨h1,h2,h3,h4⟩
    cases a;cases b;simp only at h1 h2 h3 h4;subst h1 h2 h3 h4;rfl
   .rintro rfl
    exact⟨rfl,rfl,rfl,rfl⟩
  cases hb:((a.slot==b.slot)&&((a.gen==b.gen)&&((a.key==b.key)&&((a.value==b.value)&&true))))with
  |false=>
   rw[bp,ae];refine no λe=>?_
   rw[<-e,e1]at e2;cases e2;rw[Ih.2 rfl]at hb;cases hb
  |true=>
   have:=Ih.1 hb;subst this;rw[bm,af,Zc];refine aP (l.length-(i+1)) _ _ (by omega) ⟨i+1,rfl,by omega,by omega,rfl,λj hj=>?_⟩;by_cases kH:j<i
   .exact cS j kH
   .have:j=i:=by omega
    subst this;rw[e1,e2]
 .rw[aB (show ¬(i:Int)<(l.length:Int) by omega),af,Zd]
  refine .mk ⟨true,rfl,?_⟩;simp only[true_iff];refine rk λj=>?_
  by_cases hj:j<i
  .exact cS j hj
  .rw[nX (by omega),nX (by omega)]
theorem O4 (n:Nat) (ws vs:ak) (a b:ai) (st:St) (ha:Sl st a (ints ws)) (hb:Sl st b (ints vs)) (hn:50100<=n) (hs:ws.length<=50000):
  Ok (λo=>o=(.val [.bool (decide (ws=vs))],st)) (run Bd n 113 [.slice 1 a ws.length,.slice 1 b vs.length] st):=by
 obtain⟨n,rfl⟩: ∃m,n=m+1:=⟨n-1,by omega⟩;rw[Ze,h.abq];exact Zti _ n ws vs 1 1 a b st (.inl rfl) (.inl rfl) ha hb
theorem ZkS (n:Nat) (x y:eO) (z1 z2 z3:Nat) (p1 p2 p3:ai) (zI DE DF:Nat) (q1 q2 q3:ai) (st:St) (hZ:z1=2\/p1=none) (gD:z2=1\/p2=none) (kL:z3=1\/p3=none)
  (IY:zI=2\/q1=none) (V7:DE=1\/q2=none) (V8:DF=1\/q3=none) (hx:ny st x p1 p2 p3) (hy:ny st y q1 q2 q3) (sz:BZ x) (hn:50200<=n:=by omega):
  Ok (λo=>∃b,o=(.val [.bool b],st)/\(b=true↔x=y)) (run Bd n 136 [.agg (dK x z1 p1 z2 p2 z3 p3),.agg (dK y zI q1 DE q2 DF q3)] st):=by
 obtain⟨n,rfl⟩: ∃m,n=m+1:=⟨n-1,by omega⟩;rw[Ze,h.abu];unfold Zip ZK ZF az Q_ cI ua N_ bd Lb Li uf;have ag: ∀(v:eO) (z1 z2 z3:Nat) (p1 p2 p3:ai) (l:ah) (K:ah->ah->M ah),bn (.agg (dK v z1 p1 z2 p2 z3 p3)::l) K=K (dK v z1 p1 z2 p2 z3 p3) l:=λ_ _ _ _ _ _ _ _ _=>rfl
 simp only[ag];unfold dK;simp only[av,Zg 2 z1 p1 _ hZ,Zg 1 z2 p2 _ gD,Zg 1 z3 p3 _ kL,Zg 2 zI q1 _ IY,Zg 1 DE q2 _ V7,Zg 1 DF q3 _ V8,aq];have no:x≠y->Ok (λo=>∃b,o=(.val [.bool b],st)/\(b=true↔x=y)) ((ay [.bool false]:M ah) st):=by
  intro hm;rw[Zd];exact .mk ⟨false,rfl,by simp[hm]⟩
 rw[Za];have hg:((x.blocks==y.blocks)&&((x.cO==y.cO)&&((x.g==y.g)&&true)))=true↔x.blocks=y.blocks/\x.cO=y.cO/\x.g=y.g:=by
  simp only[wE,aR,kU]
 cases oM:((x.blocks==y.blocks)&&((x.cO==y.cO)&&((x.g==y.g)&&true)))with
 |false=>
  rw[bp,ae];simp only[au,aq];rw[Za,ae];simp only[au,aq];rw[Za,ae];simp only[au,aq];rw[ae];refine no λe=>?_
  rw[hg.2 ⟨by rw[e],by rw[e],by rw[e]⟩]at oM;cases oM
 |true=>
 have uK:=hg.1 oM;rw[bm,af];simp only[au,aq];rw[Za];by_cases hlen:x.aU.length=y.aU.length;rotate_left
 .rw[show((x.aU.length:Int)==(y.aU.length:Int))=false from dY.2 (by omega),bp,ae]
  simp only[au,aq];rw[Za,ae];simp only[au,aq];rw[ae];exact no λe=>hlen (by rw[e])
 rw[show((x.aU.length:Int)==(y.aU.length:Int))=true by rw[hlen];exact rr _,bm,af];refine Ok.call (O4 n x.aH y.aH p2 q2 st hx.gn hy.gn (by omega) sz.g) ?_;rintro _ rfl;refine⟨_,st,rfl,?_⟩;simp only[au,aq];rw[Za];by_cases qJ:x.aH=y.aH;rotate_left
 .rw[aB qJ,bp,ae]
  simp only[au,aq];rw[ae];exact no λe=>qJ (by rw[e])
 rw[aw qJ,bm,af];refine Ok.call (O4 n x.free y.free p3 q3 st hx.fr hy.fr (by omega) sz.f) ?_;rintro _ rfl;refine⟨_,st,rfl,?_⟩;simp only[au,aq];by_cases ew:x.free=y.free;rotate_left
 .rw[aB ew,bp,ae]
  exact no λe=>ew (by rw[e])
 rw[aw ew,bm,af,Za];obtain⟨ds,hs,hh⟩:=hx.hp;obtain⟨es,gs,gh⟩:=hy.hp;have dG:=sz.h.len;refine Zj _ (λk v s=>∃i:Nat,v=[.int .i64 i]/\i<=x.aU.length/\x.aU.length-i<=k/\s=st/\∀j,j<i->x.aU[j]? =y.aU[j]?) ?_ x.aU.length n _ _ ⟨0,rfl,cn _,by omega,rfl,λj hj=>absurd hj (DO j)⟩ (by omega);rintro k _ s ⟨i,rfl,hi,hk,rfl,cS⟩ rec aP;simp only[av,aq];by_cases ax:i<x.aU.length
 .obtain⟨i1,o1,rfl⟩:=hs.cD (by rw[hh.len];omega)
  obtain⟨i2,o2,rfl⟩:=gs.cD (by rw[gh.len];omega);have e1:x.aU[i]? =some x.aU[i]:=bU ax;have e2:y.aU[i]? =some y.aU[i]:=bU (by omega);generalize x.aU[i]=a at e1;generalize y.aU[i]=b at e2;have UM:=sz.h.bW a (oZ e1);have Y8:a≠b->x≠y:=λeX e=>by
   rw[<-e,e1]at e2;cases e2;exact eX rfl
  rw[aw (show(i:Int)<(x.aU.length:Int) by omega),ae,aX,Zb (Zi ax),bu,B4 hs hh e1];simp only[wJ];rw[aX,Zb (Zi),B4 gs gh e2];simp only[wJ];rw[Za];by_cases mA:a.name=b.name;rotate_left
  .rw[show(a.name==b.name)=false from dY.2 mA,bp,ae]
   simp only[au,aq];rw[ae];exact no (Y8 λe=>mA (by rw[e]))
  obtain⟨pa,VC,la⟩:=G6 (β:=ah) hs hh e1;obtain⟨pb,FI,lb⟩:=G6 (β:=ah) gs gh e2;rw[show(a.name==b.name)=true by rw[mA];exact rr _,bm,af,aX,Zb (Zi ax),la,aX,Zb (Zi),lb];refine Ok.call (ZhV h.afY n 4 4 a.bW b.bW pa pb s (.inl rfl) (.inl rfl) VC FI UM (by omega)) ?_;rintro _ ⟨c,rfl,hc⟩;refine⟨_,s,rfl,?_⟩;simp only[au,aq];cases c with
  |false=>
   rw[bp,ae];exact no (Y8 λe=>by cases hc.2 (by rw[e]))
  |true=>
   have eX:a=b:=by
    have:=hc.1 rfl;cases a;cases b;simp only at mA this;subst mA this;rfl
   rw[bm,af,Zc];refine aP (x.aU.length-(i+1)) _ _ (by omega) ⟨i+1,rfl,by omega,by omega,rfl,λj hj=>?_⟩;by_cases kH:j<i
   .exact cS j kH
   .have:j=i:=by omega
    subst this;rw[e1,e2,eX]
 .rw[aB (show ¬(i:Int)<(x.aU.length:Int) by omega),af,Zd]
  refine .mk ⟨true,rfl,?_⟩;simp only[true_iff];have Ie:x.aU=y.aU:=rk λj=>by
   by_cases hj:j<i
   .exact cS j hj
   .rw[nX (by omega),nX (by omega)]
  cases x;cases y;simp only at uK qJ ew Ie;obtain⟨h1,h2,h3⟩:=uK;subst h1 h2 h3 qJ ew Ie;rfl
end Go.Gv.F
