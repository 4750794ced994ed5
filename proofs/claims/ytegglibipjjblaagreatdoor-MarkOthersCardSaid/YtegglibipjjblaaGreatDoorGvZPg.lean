/- The text of a state: the program's and the document's. -/
import Derived.Test.YtegglibipjjblaaGreatDoorGvBMk
import Derived.Test.YtegglibipjjblaaGreatDoorGvZPf
set_option linter.all false
namespace Go.Gv.F
open Go.Gv
variable {β:Type}
variable {c s s' s0:St}
theorem Ok.lT {α:Type} {P:Out α×St->Prop} {Q:Out β×St->Prop} {m:M α} {K:α->M β} (h:Ok P (m s)) (k: ∀o,P o->∃ds s',o=(.val ds,s')/\aC s s'/\Ok Q (K ds s')):Ok Q (qZ m K s):=by
 obtain⟨o,e,p⟩:=h;obtain⟨ds,s',rfl,hp,hq⟩:=k o p;rw[qR e hp];exact hq
structure aam (x:eL):Prop where
 b:oF x.blocks
 s:oF x.cJ
 g:oF x.g
 aG: ∀v∈x.aG,oF v
 free: ∀v∈x.free,oF v
 bS: ∀h∈x.aS,∀e∈h.bS,oF e.slot/\oF e.gen/\oF e.key/\oF e.value
def se (j:ai) (s s':St):Prop:=∀(i:Nat) (b:Option bT),s[i]? =some b->(∀o,j≠some (i,o))->s'[i]? =some b
theorem se.pre (j:ai) (h:aC s s'):se j s s':=λ_ _ e _=>h.get e
theorem se.set (s:St) (r o:Nat) (b:Option bT):se (some (r,o)) s (s.set r b):=by
 intro i b' e dI;grind
theorem se.trans {j:ai} {a b:St} (h:se j a b) (k:se j b c):se j a c:=λi x e dI=>k i x (h i x e dI) dI
theorem bn.YK {a:ai} {cs:ah} (h:bn s0 s a cs) {sz n lim:Nat} (ds:ah) (hz:0<sz) (hn:cs.length=n*sz) (hd:ds.length=sz) (hl:n+1<=lim):
  ∃i s',s.length<=i/\bn s0 s' (some (i,0)) (cs++ds)/\Kp s s'/\se a s s'/\∀K:ai->M β,(cd ds λi=>bQ i 0 sz λcs'=>cj sz a n cs' 1 lim K) s=K (some (i,0)) s':=by
 have hb:Nat.beq 1 0=false:=rfl;rcases h.2 with⟨rfl,rfl⟩|⟨i,rfl,hi,hs⟩
 .have h0:n=0:=by
   rcases FR.1 (show n*sz=0 by simpa using hn.symm)with h|h
   .exact h
   .omega
  subst h0;refine⟨s.length+1,s++[some (⟨false,ds⟩:bT)]++[some (⟨false,ds⟩:bT)],by omega,⟨h.1.trans ((aC.new _ _).trans (.new _ _)),.inr ⟨s.length+1,rfl,by have:=h.1.len;omega,?_⟩⟩,((aC.new _ _).trans (.new _ _)).kp,se.pre _ ((aC.new _ _).trans (.new _ _)),λK=>?_⟩
  .rw[mb (by simp)];simp
  .rw[Zz,ko (f:=false) (all:=ds) (by simp) (by omega),dA,dH (by omega)]
   unfold cj;simp only[hb,gr hl,ae,af];simp
 .have jX:i<s.length:=by grind
  have kC:(s++[some (⟨false,ds⟩:bT)])[i]? =some (some (⟨false,cs⟩:bT)):=by rw[oz jX];exact hs
  have eC:(s++[some (⟨false,ds⟩:bT)]).hY i=some cs:=by grind[St.hY]
  refine⟨s.length+1,(s++[some (⟨false,ds⟩:bT)]).set i none++[some (⟨false,cs++ds⟩:bT)],by omega,⟨(zU (h.1.trans (.new _ _)) hi none).trans (.new _ _),.inr ⟨s.length+1,rfl,by omega,?_⟩⟩,(aC.new _ _).kp.trans ((Kp.set kC none).trans (aC.new _ _).kp),(se.pre _ (aC.new _ _)).trans ((se.set _ i 0 none).trans (se.pre _ (aC.new _ _))),λK=>?_⟩
  .rw[mb (by simp)];simp
  .rw[Zz,ko (f:=false) (all:=ds) (by simp) (by omega),dA,dH (by omega)]
   unfold cj;simp only[hb,gr hl,ae,af,eC];rw[eW,gr (by omega)];grind
end Go.Gv.F
namespace Go.Gv.F
open Go.Gv
abbrev LC:Ty:= .pr (.pr (.i .i64) (.pr (.i .i64) .un)) (.pr (.i .i64) (.pr (.i .i64) .un))
abbrev Lg:Ty:= .pr .s (.pr (.sl LC) .un)
abbrev YR:Ty:= .pr (.pr (.i .i64) (.pr (.i .i64) (.pr (.i .i64) .un))) (.pr (.sl Lg) (.pr (.sl (.i .i64)) (.pr (.sl (.i .i64)) .un)))
def fp (e:bc):Prop:=oF e.slot/\oF e.gen/\oF e.key/\oF e.value
variable {d:DV} {s:St} {cs:ah}
theorem ZxY (h:Rd s LC cs): ∃e,cs=eN e/\fp e:=by
 obtain⟨_,_,rfl,⟨_,_,rfl,⟨h1,rfl,b1,b2⟩,⟨_,_,rfl,⟨h2,rfl,c1,c2⟩,hu⟩⟩,⟨_,_,rfl,⟨ky,rfl,d1,d2⟩,⟨_,_,rfl,⟨vl,rfl,e1,e2⟩,CJ⟩⟩⟩:=h;cases hu;cases CJ;exact⟨⟨h1,h2,ky,vl⟩,rfl,zN ⟨b1,b2⟩,zN ⟨c1,c2⟩,zN ⟨d1,d2⟩,zN ⟨e1,e2⟩⟩
theorem Zrw {s:St} : ∀(n:Nat) (cs:ah),cs.length=n*4->(∀j,j<n->Rd s LC ((cs.drop (j*4)).take 4))->∃l:List bc,l.length=n/\cs=bK l/\∀e∈l,fp e
 |0,cs,hl,_=>⟨[],rfl,Bj (by omega),λx hx=>by cases hx⟩
 |n+1,cs,hl,h=>by
  have h0:=h 0 (by omega);rw[qK,dA]at h0;obtain⟨x,e,hr⟩:=ZxY h0;obtain⟨xs,g1,g2,g3⟩:=Zrw (s:=s) n (cs.drop 4) (by rw[fb];omega) λj hj=>by
   have:=h (j+1) (by omega);rw[kd,show 4+j*4=(j+1)*4 by omega];exact this
  refine⟨x::xs,by simp[g1],?_,λy hy=>?_⟩
  .have e2:bK (x::xs)=eN x++bK xs:=rfl
   rw[e2,<-g2,<-e,oA]
  grind
theorem Zxm (h:Rd s (.sl LC) [d]): ∃p l,d= .slice 4 p (List.length l)/\Sl s p (bK l)/\∀e∈l,fp e:=by
 rcases h with h|⟨i,n,cs,h1,h2,h3,_,h5⟩
 .exact⟨none,[],(FL h).1,rfl,λx hx=>by cases hx⟩
 .obtain⟨xs,g1,rfl,g3⟩:=Zrw n cs h3 h5
  refine⟨some (i,0),xs,?_,⟨true,_,h2,by simp,by rw[dA,sc]⟩,g3⟩;rw[(FL h1).1,g1];rfl
theorem ZxC (h:Rd s Lg cs): ∃g p,cs=ju g 4 p/\Sl s p (bK g.bS)/\∀e∈g.bS,fp e:=by
 obtain⟨_,_,rfl,⟨nm,rfl,_⟩,⟨l,_,rfl,hl,CJ⟩⟩:=h;cases CJ;have hlen:=hl.len;obtain⟨d,rfl⟩: ∃d,l=[d]:=Jl.1 hlen;obtain⟨p,li,rfl,hs,hr⟩:=Zxm hl;exact⟨⟨nm,li⟩,p,rfl,hs,hr⟩
theorem Zpn {s:St} : ∀(n:Nat) (cs:ah),cs.length=n*2->(∀j,j<n->Rd s Lg ((cs.drop (j*2)).take 2))->∃l:List di,l.length=n/\iZ s cs l/\∀g∈l,∀e∈g.bS,fp e
 |0,cs,hl,_=>⟨[],rfl,Bj (by omega),λx hx=>by cases hx⟩
 |n+1,cs,hl,h=>by
  have h0:=h 0 (by omega);rw[qK,dA]at h0;obtain⟨x,p,e,hs,hr⟩:=ZxC h0;obtain⟨xs,g1,g2,g3⟩:=Zpn (s:=s) n (cs.drop 2) (by rw[fb];omega) λj hj=>by
   have:=h (j+1) (by omega);rw[kd,show 2+j*2=(j+1)*2 by omega];exact this
  refine⟨x::xs,by simp[g1],⟨4,p,cs.drop 2,.inl rfl,by rw[<-e,oA],hs,g2⟩,λy hy=>?_⟩;grind
theorem ZwK (h:Rd s (.sl Lg) [d]): ∃p xs ds,d= .slice 2 p (List.length xs)/\Sl s p ds/\iZ s ds xs/\∀g∈xs,∀e∈g.bS,fp e:=by
 rcases h with h|⟨i,n,cs,h1,h2,h3,_,h5⟩
 .exact⟨none,[],[],(FL h).1,rfl,rfl,λx hx=>by cases hx⟩
 .obtain⟨xs,g1,g2,g3⟩:=Zpn n cs h3 h5
  refine⟨some (i,0),xs,cs,?_,⟨true,cs,h2,by simp,by rw[dA,sc]⟩,g2,g3⟩;rw[(FL h1).1,g1];rfl
theorem afN (h:Rd s YR cs): ∃x z1 p1 z2 p2 z3 p3,cs=dD x z1 p1 z2 p2 z3 p3/\(z1=2\/p1=none)/\(z2=1\/p2=none)/\(z3=1\/p3=none)/\na s x p1 p2 p3/\aam x:=by
 obtain⟨_,_,rfl,⟨_,_,rfl,⟨b,rfl,a1,a2⟩,⟨_,_,rfl,⟨sl,rfl,b1,b2⟩,⟨_,_,rfl,⟨g,rfl,c1,c2⟩,hu⟩⟩⟩,⟨l1,_,rfl,oj,⟨l2,_,rfl,nu,⟨l3,_,rfl,AM,CJ⟩⟩⟩⟩:=h;cases hu;cases CJ;obtain⟨d1,rfl⟩: ∃d,l1=[d]:=Jl.1 oj.len;obtain⟨d2,rfl⟩: ∃d,l2=[d]:=Jl.1 nu.len;obtain⟨d3,rfl⟩: ∃d,l3=[d]:=Jl.1 AM.len;obtain⟨p1,hs,ds,rfl,f1,f2,f3⟩:=ZwK oj;obtain⟨p2,gs,⟨z2,gy,rfl⟩,g1,g2⟩:=SM nu;obtain⟨p3,fs,⟨z3,kD,rfl⟩,k1,k2⟩:=SM AM;exact⟨⟨b,sl,g,hs,gs,fs⟩,2,p1,z2,p2,z3,p3,rfl,.inl rfl,gy,kD,⟨⟨ds,f1,f2⟩,g1,k1⟩,⟨zN ⟨a1,a2⟩,zN ⟨b1,b2⟩,zN ⟨c1,c2⟩,g2,k2,f3⟩⟩
structure F0 (x:eL):Prop where
 h:x.aS.length<=8
 g:x.aG.length<=60
 f:x.free.length<=60
 b:x.blocks<=400
 hs: ∀h∈x.aS,h.bS.length<=40/\h.name.length<=60
theorem Zlg: ∀(l:List di),(∀h∈l,h.bS.length<=40)->(oO l).length<=l.length*40
 |[],_=>aO _
 |g::l,h=>by
  have e:oO (g::l)=g.bS++oO l:=rfl;have h1:=h g sb;have h2:=Zlg l λx hx=>h x (wb _ hx)
  rw[e,bA,cO];omega
theorem F0.sz {x:eL} (h:F0 x):By x:=by
 have h1:=Zlg x.aS λg hg=>(h.hs g hg).1
 have h2:=h.h;have h3:=h.g;have h4:=h.f;exact⟨⟨by omega,λg hg=>by have:=(h.hs g hg).1;omega,λg hg=>by have:=(h.hs g hg).2;omega⟩,by rw[Ql];omega,by omega,by omega⟩
variable {Bd:Zh} [h:HA Bd]
theorem Zpe (n:Nat) (x:eL) (z1 z2 z3:Nat) (p1 p2 p3:ai) (st:St) (hU:z1=2\/p1=none) (gy:z2=1\/p2=none) (kD:z3=1\/p3=none) (hr:na st x p1 p2 p3) (hn:20<=n):
  Ok (λo=>∃b,o=(.val [.bool b],st)/\(b=true↔F0 x)) (run Bd n 138 [.agg (dD x z1 p1 z2 p2 z3 p3)] st):=by
 obtain⟨n,rfl⟩: ∃m,n=m+1:=⟨n-1,by omega⟩;rw[Ze,h.aaT];unfold O0 ZD az Q_ cH N_ tD Lb Li;have ag: ∀(l:ah) (K:ah->ah->M ah),bj (.agg (dD x z1 p1 z2 p2 z3 p3)::l) K=K (dD x z1 p1 z2 p2 z3 p3) l:=λ_ _=>rfl
 rw[ag];unfold dD;simp only[av,Zf 2 z1 p1 _ hU,Zf 1 z2 p2 _ gy,Zf 1 z3 p3 _ kD,aq];have no: ¬F0 x->Ok (λo=>∃b,o=(.val [.bool b],st)/\(b=true↔F0 x)) ((ay [.bool false]:M ah) st):=by
  intro hm;rw[Zd];exact .mk (by grind)
 rw[Za];by_cases d1:(x.aS.length:Int)>8
 .rw[aw d1,ae]
  simp only[au,aq];rw[Za,ae];simp only[au,aq];rw[Za,ae];simp only[au,aq];rw[ae];exact no λhh=>by have:=hh.h;omega
 rw[aD d1,af];simp only[au,aq];rw[Za];by_cases d2:(x.aG.length:Int)>60
 .rw[aw d2,ae]
  simp only[au,aq];rw[Za,ae];simp only[au,aq];rw[ae];exact no λhh=>by have:=hh.g;omega
 rw[aD d2,af];simp only[au,aq];rw[Za];by_cases d3:(x.free.length:Int)>60
 .rw[aw d3,ae]
  simp only[au,aq];rw[ae];exact no λhh=>by have:=hh.f;omega
 rw[aD d3,af];simp only[au,aq];by_cases d4:x.blocks>400
 .rw[aw d4,ae]
  exact no λhh=>by have:=hh.b;omega
 rw[aD d4,af,Za];obtain⟨ds,hs,hh⟩:=hr.hp;refine Zj _ (λq y s=>∃i:Nat,y=[.int .i64 i]/\i<=x.aS.length/\x.aS.length-i<=q/\s=st/\∀j g,j<i->x.aS[j]? =some g->g.bS.length<=40/\g.name.length<=60) ?_ x.aS.length n _ _ ⟨0,rfl,cE _,by omega,rfl,by omega⟩ (by omega);rintro q _ s ⟨i,rfl,hi,hq,rfl,cQ⟩ rec aQ;simp only[av,aq];by_cases ax:i<x.aS.length
 .obtain⟨i1,o1,rfl⟩:=hs.cB (by rw[hh.len];omega)
  have hg:x.aS[i]? =some x.aS[i]:=cg ax;generalize x.aS[i]=g at hg;obtain⟨pe,rr,le⟩:=GB (β:=ah) hs hh hg;rw[aw (show(i:Int)<(x.aS.length:Int) by omega),ae,aZ,Zb (Zi ax),br,le,Za];by_cases d5:(g.bS.length:Int)>40
  .rw[aw d5,ae]
   simp only[au,aq];rw[ae];exact no λhh=>by have:=(hh.hs g (qJ hg)).1;omega
  rw[aD d5,af,aZ,Zb (Zi ax),BG hs hh hg];simp only[wh,au,aq];by_cases d6:(g.name.length:Int)>60
  .rw[aw d6,ae]
   exact no λhh=>by have:=(hh.hs g (qJ hg)).2;omega
  .rw[aD d6,af,Zc]
   refine aQ (x.aS.length-(i+1)) _ _ (by omega) ⟨i+1,rfl,by omega,by omega,rfl,λj g' hj e=>?_⟩;by_cases kz:j<i
   .exact cQ j g' kz e
   grind
 .rw[aD (show ¬(i:Int)<(x.aS.length:Int) by omega),af,Zd]
  refine .mk ⟨true,rfl,?_⟩;simp only[true_iff];refine⟨by omega,by omega,by omega,by omega,λg hg=>?_⟩;obtain⟨j,hj,rfl⟩:=FO hg;exact cQ j _ (by omega) (cg hj)
theorem ZhI {Bd:Zh} (h:OO Bd) (n za zb:Nat) (l m:List bc) (p q:ai) (st:St) (yO:za=4\/p=none) (yP:zb=4\/q=none) (hp:Sl st p (bK l)) (hq:Sl st q (bK m)) (hl:l.length<=50000) (hn:50100<=n):
  Ok (λo=>∃b,o=(.val [.bool b],st)/\(b=true↔l=m)) (run Bd n 153 [.slice za p l.length,.slice zb q m.length] st):=by
 obtain⟨n,rfl⟩: ∃m,n=m+1:=⟨n-1,by omega⟩;rw[Ze,h.eq];unfold DC Q_ cH N_ oJ Lb Li;simp only[Zf 4 za p _ yO,Zf 4 zb q _ yP,aq];have no:l≠m->Ok (λo=>∃b,o=(.val [.bool b],st)/\(b=true↔l=m)) ((ay [.bool false]:M ah) st):=by
  intro hm;rw[Zd];exact .mk (by grind)
 by_cases hlm:l.length=m.length;rotate_left
 .rw[show((l.length:Int)==(m.length:Int))=false from dX.2 (by omega),bm,ae]
  grind
 rw[show((l.length:Int)==(m.length:Int))=true by rw[hlm];simp,bp,af,Za];refine Zj _ (λk y s=>∃i:Nat,y=[.int .i64 i]/\i<=l.length/\l.length-i<=k/\s=st/\∀j,j<i->l[j]? =m[j]?) ?_ l.length n _ _ (by grind) (by omega);rintro k _ s ⟨i,rfl,hi,hk,rfl,cQ⟩ rec aQ;simp only[av,aq];by_cases ax:i<l.length
 .obtain⟨i1,o1,rfl⟩:=hp.cB (by rw[Zq];omega)
  obtain⟨i2,o2,rfl⟩:=hq.cB (by rw[Zq];omega);have e1:l[i]? =some l[i]:=cg ax;have e2:m[i]? =some m[i]:=by grind
  generalize l[i]=a at e1;generalize m[i]=b at e2;rw[aw (show(i:Int)<(l.length:Int) by omega),ae,aZ,Zb (Zi ax),br,GN hp e1];unfold eN;simp only[av,aq];rw[aZ,Zb (Zi),GN hq e2];unfold eN;simp only[av,aq];have Mc:((a.slot==b.slot)&&((a.gen==b.gen)&&((a.key==b.key)&&((a.value==b.value)&&true))))=true↔a=b:=by
   simp only[y9,aW,sd];constructor
   .rintro⟨h1,h2,h3,h4⟩
    cases a;cases b;grind
   grind
  cases hb:((a.slot==b.slot)&&((a.gen==b.gen)&&((a.key==b.key)&&((a.value==b.value)&&true))))with
  |false=>
   rw[bm,ae];grind
  |true=>
   have:=Mc.1 hb;subst this;rw[bp,af,Zc];refine aQ (l.length-(i+1)) _ _ (by omega) ⟨i+1,rfl,by omega,by omega,rfl,λj hj=>?_⟩;by_cases kz:j<i
   .exact cQ j kz
   grind
 .rw[aD (show ¬(i:Int)<(l.length:Int) by omega),af,Zd]
  refine .mk ⟨true,rfl,?_⟩;simp only[true_iff];refine qH λj=>?_
  by_cases hj:j<i
  .exact cQ j hj
  grind
theorem Oh (n:Nat) (ws vs:ak) (a b:ai) (st:St) (ha:Sl st a (ints ws)) (hb:Sl st b (ints vs)) (hn:50100<=n) (hs:ws.length<=50000):
  Ok (λo=>o=(.val [.bool (decide (ws=vs))],st)) (run Bd n 113 [.slice 1 a ws.length,.slice 1 b vs.length] st):=by
 obtain⟨n,rfl⟩: ∃m,n=m+1:=⟨n-1,by omega⟩;rw[Ze,h.aaP];exact Zte _ n ws vs 1 1 a b st (.inl rfl) (.inl rfl) ha hb
theorem ZkJ (n:Nat) (x y:eL) (z1 z2 z3:Nat) (p1 p2 p3:ai) (y8 Db Dc:Nat) (q1 q2 q3:ai) (st:St) (hU:z1=2\/p1=none) (gy:z2=1\/p2=none) (kD:z3=1\/p3=none)
  (IA:y8=2\/q1=none) (Vy:Db=1\/q2=none) (Vz:Dc=1\/q3=none) (hx:na st x p1 p2 p3) (hy:na st y q1 q2 q3) (sz:By x) (hn:50200<=n:=by omega):
  Ok (λo=>∃b,o=(.val [.bool b],st)/\(b=true↔x=y)) (run Bd n 136 [.agg (dD x z1 p1 z2 p2 z3 p3),.agg (dD y y8 q1 Db q2 Dc q3)] st):=by
 obtain⟨n,rfl⟩: ∃m,n=m+1:=⟨n-1,by omega⟩;rw[Ze,h.aaS];unfold PN ZH ZD az Q_ cH tD N_ aY Lb Li tH;have ag: ∀(v:eL) (z1 z2 z3:Nat) (p1 p2 p3:ai) (l:ah) (K:ah->ah->M ah),bj (.agg (dD v z1 p1 z2 p2 z3 p3)::l) K=K (dD v z1 p1 z2 p2 z3 p3) l:=λ_ _ _ _ _ _ _ _ _=>rfl
 simp only[ag];unfold dD;simp only[av,Zf 2 z1 p1 _ hU,Zf 1 z2 p2 _ gy,Zf 1 z3 p3 _ kD,Zf 2 y8 q1 _ IA,Zf 1 Db q2 _ Vy,Zf 1 Dc q3 _ Vz,aq];have no:x≠y->Ok (λo=>∃b,o=(.val [.bool b],st)/\(b=true↔x=y)) ((ay [.bool false]:M ah) st):=by
  intro hm;rw[Zd];exact .mk (by grind)
 rw[Za];have hg:((x.blocks==y.blocks)&&((x.cJ==y.cJ)&&((x.g==y.g)&&true)))=true↔x.blocks=y.blocks/\x.cJ=y.cJ/\x.g=y.g:=by
  grind
 cases vr:((x.blocks==y.blocks)&&((x.cJ==y.cJ)&&((x.g==y.g)&&true)))with
 |false=>
  rw[bm,ae];simp only[au,aq];rw[Za,ae];simp only[au,aq];rw[Za,ae];simp only[au,aq];rw[ae];grind
 |true=>
 rw[bp,af];simp only[au,aq];rw[Za];by_cases hlen:x.aS.length=y.aS.length;rotate_left
 .rw[show((x.aS.length:Int)==(y.aS.length:Int))=false from dX.2 (by omega),bm,ae]
  simp only[au,aq];rw[Za,ae];simp only[au,aq];rw[ae];grind
 rw[show((x.aS.length:Int)==(y.aS.length:Int))=true by rw[hlen];grind,bp,af];refine Ok.call (Oh n x.aG y.aG p2 q2 st hx.gn hy.gn (by omega) sz.g) ?_;rintro _ rfl;refine⟨_,st,rfl,?_⟩;simp only[au,aq];rw[Za];by_cases vv:x.aG=y.aG;rotate_left
 .rw[aD vv,bm,ae]
  simp only[au,aq];rw[ae];exact no λe=>vv (by rw[e])
 rw[aw vv,bp,af];refine Ok.call (Oh n x.free y.free p3 q3 st hx.fr hy.fr (by omega) sz.f) ?_;rintro _ rfl;refine⟨_,st,rfl,?_⟩;simp only[au,aq];by_cases eO:x.free=y.free;rotate_left
 .rw[aD eO,bm,ae]
  exact no λe=>eO (by rw[e])
 rw[aw eO,bp,af,Za];obtain⟨ds,hs,hh⟩:=hx.hp;obtain⟨es,gs,gh⟩:=hy.hp;have dN:=sz.h.len;refine Zj _ (λk v s=>∃i:Nat,v=[.int .i64 i]/\i<=x.aS.length/\x.aS.length-i<=k/\s=st/\∀j,j<i->x.aS[j]? =y.aS[j]?) ?_ x.aS.length n _ _ (by grind) (by omega);rintro k _ s ⟨i,rfl,hi,hk,rfl,cQ⟩ rec aQ;simp only[av,aq];by_cases ax:i<x.aS.length
 .obtain⟨i1,o1,rfl⟩:=hs.cB (by rw[hh.len];omega)
  obtain⟨i2,o2,rfl⟩:=gs.cB (by rw[gh.len];omega);have e1:x.aS[i]? =some x.aS[i]:=cg ax;have e2:y.aS[i]? =some y.aS[i]:=by grind
  generalize x.aS[i]=a at e1;generalize y.aS[i]=b at e2;have Uc:=sz.h.bS a (qJ e1);rw[aw (show(i:Int)<(x.aS.length:Int) by omega),ae,aZ,Zb (Zi ax),br,BG hs hh e1];simp only[wh];rw[aZ,Zb (Zi),BG gs gh e2];simp only[wh];rw[Za];by_cases rB:a.name=b.name;rotate_left
  .rw[show(a.name==b.name)=false from dX.2 rB,bm,ae]
   simp only[au,aq];rw[ae];grind
  obtain⟨pa,U5,la⟩:=GB (β:=ah) hs hh e1;obtain⟨pb,Ff,lb⟩:=GB (β:=ah) gs gh e2;rw[show(a.name==b.name)=true by rw[rB];grind,bp,af,aZ,Zb (Zi ax),la,aZ,Zb (Zi),lb];refine Ok.call (ZhI h.afj n 4 4 a.bS b.bS pa pb s (.inl rfl) (.inl rfl) U5 Ff Uc (by omega)) ?_;rintro _ ⟨c,rfl,hc⟩;refine⟨_,s,rfl,?_⟩;simp only[au,aq];cases c with
  |false=>
   rw[bm,ae];exact no (by grind)
  |true=>
   have fL:a=b:=by
    cases a;cases b;grind
   rw[bp,af,Zc];refine aQ (x.aS.length-(i+1)) _ _ (by omega) ⟨i+1,rfl,by omega,by omega,rfl,λj hj=>?_⟩;by_cases kz:j<i
   .exact cQ j kz
   grind
 .rw[aD (show ¬(i:Int)<(x.aS.length:Int) by omega),af,Zd]
  refine .mk ⟨true,rfl,?_⟩;simp only[true_iff];have hhp:x.aS=y.aS:=qH λj=>by
   by_cases hj:j<i
   .exact cQ j hj
   grind
  cases x;cases y;grind
end Go.Gv.F
