/- The text of a state: the program's and the document's. -/
import Derived.Test.YtegglibipjjblaaGreatDoorGvZPf
set_option linter.all false
namespace Go.Gv.F
open Go.Gv
variable {β:Type}
variable {Q:Out β×St->Prop} {c s s' s0:St} {α:Type}
theorem Ok.Ow {P:Out α×St->Prop} {m:M α} {K:α->M β} (h:Ok P (m s)) (k: ∀o,P o->∃ds s',o=(.val ds,s')/\aA s s'/\Ok Q (K ds s')):Ok Q (tc m K s):=by
 have⟨o,e,p⟩:=h;obtain⟨ds,s',rfl,hp,hq⟩:=k o p;rw[rj e hp];exact hq
theorem Ok.cx {m:M α} {K:α->M β} {ds:α} (h:Ok (λo=>∃s',o=(.val ds,s')/\aA s s') (m s)) (k: ∀s',aA s s'->Ok Q (K ds s')):Ok Q (tc m K s):=
 h.Ow λ_ ⟨s',e,p⟩=>⟨_,s',e,p,k s' p⟩
structure aec (x:eR):Prop where
 b:mX x.blocks
 s:mX x.dc
 g:mX x.g
 aF: ∀v∈x.aF,mX v
 free: ∀v∈x.free,mX v
 cg: ∀h∈x.aK,∀e∈h.cg,mX e.slot/\mX e.gen/\mX e.key/\mX e.value
def sG (j:ai) (s s':St):Prop:=∀(i:Nat) (b:Option bO),s[i]? =some b->(∀o,j≠some (i,o))->s'[i]? =some b
theorem sG.pre (j:ai) (h:aA s s'):sG j s s':=λ_ _ e _=>h.get e
theorem sG.set (s:St) (r o:Nat) (b:Option bO):sG (some (r,o)) s (s.set r b):=by
 intro i b' e dQ;grind
theorem sG.trans {j:ai} {a b:St} (h:sG j a b) (k:sG j b c):sG j a c:=λi x e dQ=>k i x (h i x e dQ) dQ
theorem bg.Qi {a:ai} {cs:ah} (h:bg s0 s a cs) {sz n lim:Nat} (ds:ah) (hz:0<sz) (hn:cs.length=n*sz) (hd:ds.length=sz) (hl:n+1<=lim):
  ∃i s',s.length<=i/\bg s0 s' (some (i,0)) (cs++ds)/\Kp s s'/\sG a s s'/\∀K:ai->M β,(ck ds λi=>bX i 0 sz λcs'=>cw sz a n cs' 1 lim K) s=K (some (i,0)) s':=by
 have hb:Nat.beq 1 0=false:=rfl;rcases h.2 with⟨rfl,rfl⟩|⟨i,rfl,hi,hs⟩
 .have h0:n=0:=by
   rcases Ic.1 (show n*sz=0 by simpa using hn.symm)with h|h
   .exact h
   .omega
  subst h0;refine⟨s.length+1,s++[some (⟨false,ds⟩:bO)]++[some (⟨false,ds⟩:bO)],AC,⟨h.1.trans ((aA.new _ _).trans (.new _ _)),.inr ⟨s.length+1,rfl,by have:=h.1.len;omega,?_⟩⟩,((aA.new _ _).trans (.new _ _)).kp,sG.pre _ ((aA.new _ _).trans (.new _ _)),λK=>?_⟩
  .rw[kL Do];simp
  .rw[Zz,Z9 (f:=false) (all:=ds) Do AC,dE,dF AC]
   unfold cw;rw[hb,gz hl,ae,af];simp
 .have j6:i<s.length:=Fd
  have lO:(s++[some (⟨false,ds⟩:bO)])[i]? =some (some (⟨false,cs⟩:bO)):=by rw[mn j6];exact hs
  have dX:(s++[some (⟨false,ds⟩:bO)]).gP i=some cs:=by grind[St.gP]
  refine⟨s.length+1,(s++[some (⟨false,ds⟩:bO)]).set i none++[some (⟨false,cs++ds⟩:bO)],AC,⟨(rB (h.1.trans (.new _ _)) hi none).trans (.new _ _),.inr ⟨s.length+1,rfl,AC,?_⟩⟩,(aA.new _ _).kp.trans ((Kp.set lO none).trans (aA.new _ _).kp),(sG.pre _ (aA.new _ _)).trans ((sG.set _ i 0 none).trans (sG.pre _ (aA.new _ _))),λK=>?_⟩
  .rw[kL Do];simp
  .rw[Zz,Z9 (f:=false) (all:=ds) Do AC,dE,dF AC]
   unfold cw;simp only[hb,gz hl,ae,af,dX];rw[eJ,gz AC];grind
theorem jo.dU {s:St} (k:Nat): ∀ {ds:ah} {xs:List dJ},jo s ds xs->jo (Z2 k s) ds xs
 |_,[],h=>h
 |_,_::_,⟨z,p,t,hz,h1,h2,h3⟩=>⟨z,p,t,hz,h1,h2.dU k,h3.dU k⟩
theorem jK.dU {s:St} {x:eR} {p1 p2 p3:ai} (h:jK s x p1 p2 p3) (k:Nat):jK (Z2 k s) x p1 p2 p3:=
 let ⟨ds,h1,h2⟩:=h.hp
 ⟨⟨ds,h1.dU k,h2.dU k⟩,h.gn.dU k,h.fr.dU k⟩
end Go.Gv.F
namespace Go.Gv.F
open Go.Gv
abbrev OA:Ty:= .pr (.pr (.i .i64) (.pr (.i .i64) .un)) (.pr (.i .i64) (.pr (.i .i64) .un))
abbrev Oc:Ty:= .pr .s (.pr (.sl OA) .un)
abbrev adC:Ty:= .pr (.pr (.i .i64) (.pr (.i .i64) (.pr (.i .i64) .un))) (.pr (.sl Oc) (.pr (.sl (.i .i64)) (.pr (.sl (.i .i64)) .un)))
def fV (e:bm):Prop:=mX e.slot/\mX e.gen/\mX e.key/\mX e.value
variable {d:DV} {s:St} {cs:ah}
theorem ZAW (h:Rd s OA cs): ∃e,cs=fk e/\fV e:=by
 obtain⟨_,_,rfl,⟨_,_,rfl,⟨h1,rfl,b1,b2⟩,⟨_,_,rfl,⟨h2,rfl,c1,c2⟩,hu⟩⟩,⟨_,_,rfl,⟨ky,rfl,d1,d2⟩,⟨_,_,rfl,⟨vl,rfl,e1,e2⟩,K8⟩⟩⟩:=h;cases hu;cases K8;exact⟨⟨h1,h2,ky,vl⟩,rfl,yi ⟨b1,b2⟩,yi ⟨c1,c2⟩,yi ⟨d1,d2⟩,yi ⟨e1,e2⟩⟩
theorem Zt1 {s:St} : ∀(n:Nat) (cs:ah),cs.length=n*4->(∀j,j<n->Rd s OA ((cs.drop (j*4)).take 4))->∃l:List bm,l.length=n/\cs=bY l/\∀e∈l,fV e
 |0,cs,hl,_=>⟨[],rfl,zV AC,λx hx=>by cases hx⟩
 |n+1,cs,hl,h=>by
  have h0:=h 0 AC;rw[oZ,dE]at h0;have⟨x,e,hr⟩:=ZAW h0;have⟨xs,g1,g2,g3⟩:=Zt1 (s:=s) n (cs.drop 4) (by rw[eH];omega) λj hj=>by
   have:=h (j+1) AC;rw[jG,show 4+j*4=(j+1)*4 by omega];exact this
  refine⟨x::xs,by simp[g1],?_,λy hy=>?_⟩
  .have e2:bY (x::xs)=fk x++bY xs:=rfl
   rw[e2,<-g2,<-e,oX]
  grind
theorem Zz3 (h:Rd s (.sl OA) [d]): ∃p l,d= .slice 4 p (List.length l)/\Sl s p (bY l)/\∀e∈l,fV e:=by
 rcases h with h|⟨i,n,cs,h1,h2,h3,_,h5⟩
 .exact⟨none,[],(DF h).1,rfl,λx hx=>by cases hx⟩
 .obtain⟨xs,g1,rfl,g3⟩:=Zt1 n cs h3 h5
  refine⟨some (i,0),xs,?_,⟨true,_,h2,Do,by rw[dE,oY]⟩,g3⟩;rw[(DF h1).1,g1];rfl
theorem ZzX (h:Rd s Oc cs): ∃g p,cs=me g 4 p/\Sl s p (bY g.cg)/\∀e∈g.cg,fV e:=by
 obtain⟨_,_,rfl,⟨nm,rfl,_⟩,⟨l,_,rfl,hl,K8⟩⟩:=h;cases K8;have hlen:=hl.len;obtain⟨d,rfl⟩: ∃d,l=[d]:=QG.1 hlen;obtain⟨p,li,rfl,hs,hr⟩:=Zz3 hl;exact⟨⟨nm,li⟩,p,rfl,hs,hr⟩
theorem Zrj {s:St} : ∀(n:Nat) (cs:ah),cs.length=n*2->(∀j,j<n->Rd s Oc ((cs.drop (j*2)).take 2))->∃l:List dJ,l.length=n/\jo s cs l/\∀g∈l,∀e∈g.cg,fV e
 |0,cs,hl,_=>⟨[],rfl,zV AC,λx hx=>by cases hx⟩
 |n+1,cs,hl,h=>by
  have h0:=h 0 AC;rw[oZ,dE]at h0;have⟨x,p,e,hs,hr⟩:=ZzX h0;have⟨xs,g1,g2,g3⟩:=Zrj (s:=s) n (cs.drop 2) (by rw[eH];omega) λj hj=>by
   have:=h (j+1) AC;rw[jG,show 2+j*2=(j+1)*2 by omega];exact this
  refine⟨x::xs,by simp[g1],⟨4,p,cs.drop 2,.inl rfl,by rw[<-e,oX],hs,g2⟩,λy hy=>?_⟩;grind
theorem Zyw (h:Rd s (.sl Oc) [d]): ∃p xs ds,d= .slice 2 p (List.length xs)/\Sl s p ds/\jo s ds xs/\∀g∈xs,∀e∈g.cg,fV e:=by
 rcases h with h|⟨i,n,cs,h1,h2,h3,_,h5⟩
 .exact⟨none,[],[],(DF h).1,rfl,rfl,λx hx=>by cases hx⟩
 .have⟨xs,g1,g2,g3⟩:=Zrj n cs h3 h5
  refine⟨some (i,0),xs,cs,?_,⟨true,cs,h2,Do,by rw[dE,oY]⟩,g2,g3⟩;rw[(DF h1).1,g1];rfl
theorem akq (h:Rd s adC cs): ∃x z1 p1 z2 p2 z3 p3,cs=dw x z1 p1 z2 p2 z3 p3/\(z1=2\/p1=none)/\(z2=1\/p2=none)/\(z3=1\/p3=none)/\jK s x p1 p2 p3/\aec x:=by
 obtain⟨_,_,rfl,⟨_,_,rfl,⟨b,rfl,a1,a2⟩,⟨_,_,rfl,⟨sl,rfl,b1,b2⟩,⟨_,_,rfl,⟨g,rfl,c1,c2⟩,hu⟩⟩⟩,⟨l1,_,rfl,nn,⟨l2,_,rfl,nN,⟨l3,_,rfl,Da,K8⟩⟩⟩⟩:=h;cases hu;cases K8;obtain⟨d1,rfl⟩: ∃d,l1=[d]:=QG.1 nn.len;obtain⟨d2,rfl⟩: ∃d,l2=[d]:=QG.1 nN.len;obtain⟨d3,rfl⟩: ∃d,l3=[d]:=QG.1 Da.len;obtain⟨p1,hs,ds,rfl,f1,f2,f3⟩:=Zyw nn;obtain⟨p2,gs,⟨z2,gp,rfl⟩,g1,g2⟩:=Zvf nN;obtain⟨p3,fs,⟨z3,jP,rfl⟩,k1,k2⟩:=Zvf Da;exact⟨⟨b,sl,g,hs,gs,fs⟩,2,p1,z2,p2,z3,p3,rfl,.inl rfl,gp,jP,⟨⟨ds,f1,f2⟩,g1,k1⟩,⟨yi ⟨a1,a2⟩,yi ⟨b1,b2⟩,yi ⟨c1,c2⟩,g2,k2,f3⟩⟩
structure Io (x:eR):Prop where
 h:x.aK.length<=8
 g:x.aF.length<=60
 f:x.free.length<=60
 b:x.blocks<=400
 hs: ∀h∈x.aK,h.cg.length<=40/\h.name.length<=60
theorem Zm7: ∀(l:List dJ),(∀h∈l,h.cg.length<=40)->(qy l).length<=l.length*40
 |[],_=>aM _
 |g::l,h=>by
  have e:qy (g::l)=g.cg++qy l:=rfl;have h1:=h g tV;have h2:=Zm7 l λx hx=>h x (xT _ hx)
  rw[e,bz,cQ];omega
theorem Io.sz {x:eR} (h:Io x):BQ x:=by
 have h1:=Zm7 x.aK λg hg=>(h.hs g hg).1
 have h2:=h.h;have h3:=h.g;have h4:=h.f;exact⟨⟨AC,λg hg=>by have:=(h.hs g hg).1;omega,λg hg=>by have:=(h.hs g hg).2;omega⟩,by rw[U1];omega,AC,AC⟩
variable {Bd:Zh} [h:HA Bd]
theorem Zqy (n:Nat) (x:eR) (z1 z2 z3:Nat) (p1 p2 p3:ai) (st:St) (jA:z1=2\/p1=none) (gp:z2=1\/p2=none) (jP:z3=1\/p3=none) (hr:jK st x p1 p2 p3) (hn:20<=n):
  Ok (λo=>∃b,o=(.val [.bool b],st)/\(b=true↔Io x)) (run Bd n 138 [.agg (dw x z1 p1 z2 p2 z3 p3)] st):=by
 obtain _|n:=n;omega;rw[Ze,h.ae6];unfold TC vq az Q_ cN N_ vo Lb Li
 try dsimp only
 have ag: ∀(l:ah) (K:ah->ah->M ah),bh (.agg (dw x z1 p1 z2 p2 z3 p3)::l) K=K (dw x z1 p1 z2 p2 z3 p3) l:=λ_ _=>rfl
 rw[ag];unfold dw;simp only[av,Zf 2 z1 p1 _ jA,Zf 1 z2 p2 _ gp,Zf 1 z3 p3 _ jP,aq];have no: ¬Io x->Ok (λo=>∃b,o=(.val [.bool b],st)/\(b=true↔Io x)) ((ax [.bool false]:M ah) st):=by
  intro hm;rw[Zd];exact .mk Fd
 rw[Za];by_cases d1:(x.aK.length:Int)>8
 .rw[aX d1]
  simp only[au,aq];rw[Za,ae];simp only[au,aq];rw[Za,ae];simp only[au,aq];rw[ae];exact no λhh=>by have:=hh.h;omega
 rw[aZ d1];simp only[au,aq];rw[Za];by_cases d2:(x.aF.length:Int)>60
 .rw[aX d2]
  simp only[au,aq];rw[Za,ae];simp only[au,aq];rw[ae];exact no λhh=>by have:=hh.g;omega
 rw[aZ d2];simp only[au,aq];rw[Za];by_cases d3:(x.free.length:Int)>60
 .rw[aX d3]
  simp only[au,aq];rw[ae];exact no λhh=>by have:=hh.f;omega
 rw[aZ d3];simp only[au,aq];by_cases d4:x.blocks>400
 .rw[aX d4]
  exact no λhh=>by have:=hh.b;omega
 rw[aZ d4,Za];have⟨ds,hs,hh⟩:=hr.hp;refine Zj _ (λq y s=>∃i:Nat,y=[.i i]/\i<=x.aK.length/\x.aK.length-i<=q/\s=st/\∀j g,j<i->x.aK[j]? =some g->g.cg.length<=40/\g.name.length<=60) ?_ x.aK.length n _ _ ⟨0,rfl,cB _,AC,rfl,AC⟩ AC;rintro q _ s ⟨i,rfl,hi,hq,rfl,dt⟩ rec aL;simp only[av,aq];by_cases aw:i<x.aK.length
 .obtain⟨i1,o1,rfl⟩:=hs.cF (by rw[hh.len];omega)
  have hg:x.aK[i]? =some x.aK[i]:=cu aw;generalize x.aK[i]=g at hg;have⟨pe,pV,le⟩:=I9 (β:=ah) hs hh hg;rw[aX,bc,Zb (Zi aw),br,le,Za];by_cases d5:(g.cg.length:Int)>40
  .rw[aX d5]
   simp only[au,aq];rw[ae];exact no λhh=>by have:=(hh.hs g (sD hg)).1;omega
  rw[aZ d5,bc,Zb (Zi aw),DZ hs hh hg];simp only[xX,au,aq];by_cases d6:(g.name.length:Int)>60
  .rw[aX d6]
   exact no λhh=>by have:=(hh.hs g (sD hg)).2;omega
  .rw[aZ d6,Zc]
   refine aL (x.aK.length-(i+1)) _ _ AC ⟨i+1,rfl,AC,AC,rfl,λj g' hj e=>?_⟩;by_cases mJ:j<i
   .exact dt j g' mJ e
   grind
 .rw[aZ,Zd]
  refine .mk ⟨true,rfl,?_⟩;simp only[true_iff];refine⟨AC,AC,AC,AC,λg hg=>?_⟩;obtain⟨j,hj,rfl⟩:=H9 hg;exact dt j _ AC (cu hj)
theorem Zom {Bd:Zh} (h:Se Bd) (n za zb:Nat) (l m:List bm) (p q:ai) (st:St) (Lg:za=4\/p=none) (hzb:zb=4\/q=none) (hp:Sl st p (bY l)) (hq:Sl st q (bY m)) (hl:l.length<=50000) (hn:50100<=n):
  Ok (λo=>∃b,o=(.val [.bool b],st)/\(b=true↔l=m)) (run Bd n 153 [.slice za p l.length,.slice zb q m.length] st):=by
 obtain _|n:=n;omega;rw[Ze,h.eq];unfold Rt Q_ cN N_ sT Lb Li
 try dsimp only
 rw[Zf 4 za p _ Lg,Zf 4 zb q _ hzb,aq];have no:l≠m->Ok (λo=>∃b,o=(.val [.bool b],st)/\(b=true↔l=m)) ((ax [.bool false]:M ah) st):=by
  intro hm;rw[Zd];exact .mk Fd
 by_cases hlm:l.length=m.length;rotate_left
 .rw[show((l.length:Int)==(m.length:Int))=false from eN.2 AC,bp,ae]
  grind
 rw[show((l.length:Int)==(m.length:Int))=true by rw[hlm];simp,bw,af,Za];refine Zj _ (λk y s=>∃i:Nat,y=[.i i]/\i<=l.length/\l.length-i<=k/\s=st/\∀j,j<i->l[j]? =m[j]?) ?_ l.length n _ _ Fd AC;rintro k _ s ⟨i,rfl,hi,hk,rfl,dt⟩ rec aL;simp only[av,aq];by_cases aw:i<l.length
 .obtain⟨i1,o1,rfl⟩:=hp.cF (by rw[Zu];omega)
  obtain⟨i2,o2,rfl⟩:=hq.cF (by rw[Zu];omega);have e1:l[i]? =some l[i]:=cu aw;have e2:m[i]? =some m[i]:=Fd
  generalize l[i]=a at e1;generalize m[i]=b at e2;rw[aX,bc,Zb (Zi aw),br,Jf hp e1];unfold fk;simp only[av,aq];rw[bc,Zb (Zi),Jf hq e2];unfold fk;simp only[av,aq];have O7:((a.slot==b.slot)&&((a.gen==b.gen)&&((a.key==b.key)&&((a.value==b.value)&&true))))=true↔a=b:=by
   simp only[wC,aY,va];constructor
   .rintro⟨h1,h2,h3,h4⟩
    cases a;cases b;grind
   grind
  cases hb:((a.slot==b.slot)&&((a.gen==b.gen)&&((a.key==b.key)&&((a.value==b.value)&&true))))with
  |false=>
   rw[bp,ae];grind
  |true=>
   have:=O7.1 hb;subst this;rw[bw,af,Zc];refine aL (l.length-(i+1)) _ _ AC ⟨i+1,rfl,AC,AC,rfl,λj hj=>?_⟩;by_cases mJ:j<i
   .exact dt j mJ
   grind
 .rw[aZ,Zd]
  refine .mk ⟨true,rfl,?_⟩;simp only[true_iff];refine tU λj=>?_
  by_cases hj:j<i
  .exact dt j hj
  grind
theorem R9 (n:Nat) (ws vs:ak) (a b:ai) (st:St) (ha:Sl st a (ints ws)) (hb:Sl st b (ints vs)) (hn:50100<=n) (hs:ws.length<=50000):
  Ok (λo=>o=(.val [.bool (decide (ws=vs))],st)) (run Bd n 113 [.slice 1 a ws.length,.slice 1 b vs.length] st):=by
 obtain _|n:=n;omega;rw[Ze,h.ae3];exact ZAe _ n ws vs 1 1 a b st (.inl rfl) (.inl rfl) ha hb AC AC
theorem Zl7 (n:Nat) (x y:eR) (z1 z2 z3:Nat) (p1 p2 p3:ai) (LX z2' z3':Nat) (q1 q2 q3:ai) (st:St) (jA:z1=2\/p1=none) (gp:z2=1\/p2=none) (jP:z3=1\/p3=none)
  (aad:LX=2\/q1=none) (ajS:z2'=1\/q2=none) (ajT:z3'=1\/q3=none) (hx:jK st x p1 p2 p3) (hy:jK st y q1 q2 q3) (sz:BQ x) (hn:50200<=n:=by omega):
  Ok (λo=>∃b,o=(.val [.bool b],st)/\(b=true↔x=y)) (run Bd n 136 [.agg (dw x z1 p1 z2 p2 z3 p3),.agg (dw y LX q1 z2' q2 z3' q3)] st):=by
 obtain _|n:=n;omega;rw[Ze,h.ae5];unfold Tj ZF vq az Q_ cN vo N_ bu Lb Li wP
 try dsimp only
 have ag: ∀(v:eR) (z1 z2 z3:Nat) (p1 p2 p3:ai) (l:ah) (K:ah->ah->M ah),bh (.agg (dw v z1 p1 z2 p2 z3 p3)::l) K=K (dw v z1 p1 z2 p2 z3 p3) l:=λ_ _ _ _ _ _ _ _ _=>rfl
 simp only[ag];unfold dw;simp only[av,Zf 2 z1 p1 _ jA,Zf 1 z2 p2 _ gp,Zf 1 z3 p3 _ jP,Zf 2 LX q1 _ aad,Zf 1 z2' q2 _ ajS,Zf 1 z3' q3 _ ajT,aq];have no:x≠y->Ok (λo=>∃b,o=(.val [.bool b],st)/\(b=true↔x=y)) ((ax [.bool false]:M ah) st):=by
  intro hm;rw[Zd];exact .mk Fd
 rw[Za];have hg:((x.blocks==y.blocks)&&((x.dc==y.dc)&&((x.g==y.g)&&true)))=true↔x.blocks=y.blocks/\x.dc=y.dc/\x.g=y.g:=by
  grind
 cases yV:((x.blocks==y.blocks)&&((x.dc==y.dc)&&((x.g==y.g)&&true)))with
 |false=>
  rw[bp,ae];simp only[au,aq];rw[Za,ae];simp only[au,aq];rw[Za,ae];simp only[au,aq];rw[ae];grind
 |true=>
 rw[bw,af];simp only[au,aq];rw[Za];by_cases hlen:x.aK.length=y.aK.length;rotate_left
 .rw[show((x.aK.length:Int)==(y.aK.length:Int))=false from eN.2 AC,bp,ae]
  simp only[au,aq];rw[Za,ae];simp only[au,aq];rw[ae];grind
 rw[show((x.aK.length:Int)==(y.aK.length:Int))=true by rw[hlen];grind,bw,af];refine Ok.call (R9 n x.aF y.aF p2 q2 st hx.gn hy.gn AC sz.g) ?_;rintro _ rfl;refine⟨_,st,rfl,?_⟩;simp only[au,aq];rw[Za];by_cases yX:x.aF=y.aF;rotate_left
 .rw[bM yX,bp,ae]
  simp only[au,aq];rw[ae];exact no λe=>yX (by rw[e])
 rw[aS yX,bw,af];refine Ok.call (R9 n x.free y.free p3 q3 st hx.fr hy.fr AC sz.f) ?_;rintro _ rfl;refine⟨_,st,rfl,?_⟩;simp only[au,aq];by_cases dW:x.free=y.free;rotate_left
 .rw[bM dW,bp,ae]
  exact no λe=>dW (by rw[e])
 rw[aS dW,bw,af,Za];have⟨ds,hs,hh⟩:=hx.hp;have⟨es,gs,gh⟩:=hy.hp;have dI:=sz.h.len;refine Zj _ (λk v s=>∃i:Nat,v=[.i i]/\i<=x.aK.length/\x.aK.length-i<=k/\s=st/\∀j,j<i->x.aK[j]? =y.aK[j]?) ?_ x.aK.length n _ _ Fd AC;rintro k _ s ⟨i,rfl,hi,hk,rfl,dt⟩ rec aL;simp only[av,aq];by_cases aw:i<x.aK.length
 .obtain⟨i1,o1,rfl⟩:=hs.cF (by rw[hh.len];omega)
  obtain⟨i2,o2,rfl⟩:=gs.cF (by rw[gh.len];omega);have e1:x.aK[i]? =some x.aK[i]:=cu aw;have e2:y.aK[i]? =some y.aK[i]:=Fd
  generalize x.aK[i]=a at e1;generalize y.aK[i]=b at e2;have hae:=sz.h.cg a (sD e1);rw[aX,bc,Zb (Zi aw),br,DZ hs hh e1,xX,bc,Zb (Zi),DZ gs gh e2,xX,Za];by_cases xm:a.name=b.name;rotate_left
  .rw[show(a.name==b.name)=false from eN.2 xm,bp,ae]
   simp only[au,aq];rw[ae];grind
  have⟨pa,hpa,la⟩:=I9 (β:=ah) hs hh e1;have⟨pb,Pv,lb⟩:=I9 (β:=ah) gs gh e2;rw[show(a.name==b.name)=true by rw[xm];grind,bw,af,bc,Zb (Zi aw),la,bc,Zb (Zi),lb];refine Ok.call (Zom h.ajX n 4 4 a.cg b.cg pa pb s (.inl rfl) (.inl rfl) hpa Pv hae AC) ?_;rintro _ ⟨c,rfl,hc⟩;refine⟨_,s,rfl,?_⟩;simp only[au,aq];cases c with
  |false=>
   rw[bp,ae];exact no Fd
  |true=>
   have gf:a=b:=by
    cases a;cases b;grind
   rw[bw,af,Zc];refine aL (x.aK.length-(i+1)) _ _ AC ⟨i+1,rfl,AC,AC,rfl,λj hj=>?_⟩;by_cases mJ:j<i
   .exact dt j mJ
   grind
 .rw[aZ,Zd]
  refine .mk ⟨true,rfl,?_⟩;simp only[true_iff];have hhp:x.aK=y.aK:=tU λj=>by
   by_cases hj:j<i
   .exact dt j hj
   grind
  cases x;cases y;grind
end Go.Gv.F
