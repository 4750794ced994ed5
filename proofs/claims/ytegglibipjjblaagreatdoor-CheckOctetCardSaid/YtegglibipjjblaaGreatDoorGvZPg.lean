/- The text of a state: the program's and the document's. -/
import Derived.Test.YtegglibipjjblaaGreatDoorGvZPf
set_option linter.all false
namespace Go.Gv.F
open Go.Gv
variable {Y:Type}
variable {Q:Out Y×St->Prop} {c s s' s0:St} {α:Type}
theorem Ok.XE {P:Out α×St->Prop} {m:M α} {K:α->M Y} (h:Ok P (m s)) (k: ∀o,P o->∃ds s',o=(.val ds,s')/\aB s s'/\Ok Q (K ds s')):Ok Q (va m K s):=by
 have⟨o,e,p⟩:=h;obtain⟨ds,s',rfl,hp,hq⟩:=k o p;rw[qY e hp];exact hq
theorem Ok.cx {m:M α} {K:α->M Y} {ds:α} (h:Ok (λo=>∃s',o=(.val ds,s')/\aB s s') (m s)) (k: ∀s',aB s s'->Ok Q (K ds s')):Ok Q (va m K s):=
 h.XE λ_ ⟨s',e,p⟩=>⟨_,s',e,p,k s' p⟩
structure QR (x:dW):Prop where
 b:nO x.blocks
 s:nO x.cW
 g:nO x.g
 gens: ∀v∈x.gens,nO v
 free: ∀v∈x.free,nO v
 bz: ∀h∈x.aD,∀e∈h.bz,nO e.slot/\nO e.gen/\nO e.key/\nO e.value
def nl (ls:List (aj)):ah:=(ls.map (· ++[10])).map .str
def tr (j:ai) (s s':St):Prop:=∀(i:Nat) (b:Option bQ),s[i]? =some b->(∀o,j≠some (i,o))->s'[i]? =some b
theorem tr.pre (j:ai) (h:aB s s'):tr j s s':=λ_ _ e _=>h.get e
theorem tr.set (s:St) (r o:Nat) (b:Option bQ):tr (some (r,o)) s (s.set r b):=by
 intro i b' e cV;grind
theorem tr.trans {j:ai} {a b:St} (h:tr j a b) (k:tr j b c):tr j a c:=λi x e cV=>k i x (h i x e cV) cV
theorem bc.Qj {a:ai} {cs:ah} (h:bc s0 s a cs) {sz n lim:Nat} (ds:ah) (hz:0<sz) (hn:cs.length=n*sz) (hd:ds.length=sz) (hl:n+1<=lim):
  ∃i s',s.length<=i/\bc s0 s' (some (i,0)) (cs++ds)/\Kp s s'/\tr a s s'/\∀K:ai->M Y,(cj ds λi=>bV i 0 sz λcs'=>cu sz a n cs' 1 lim K) s=K (some (i,0)) s':=by
 have hb:Nat.beq 1 0=false:=rfl;rcases h.2 with⟨rfl,rfl⟩|⟨i,rfl,hi,hs⟩
 .have h0:n=0:=by
   rcases H6.1 (show n*sz=0 by simpa using hn.symm)with h|h
   .exact h
   .omega
  subst h0;refine⟨s.length+1,s++[some (⟨false,ds⟩:bQ)]++[some (⟨false,ds⟩:bQ)],AC,⟨h.1.trans ((aB.new _ _).trans (.new _ _)),.inr ⟨s.length+1,rfl,by have:=h.1.len;omega,?_⟩⟩,((aB.new _ _).trans (.new _ _)).kp,tr.pre _ ((aB.new _ _).trans (.new _ _)),λK=>?_⟩
  .rw[kO Do];simp
  .rw[ZD,kq (f:=false) (all:=ds) Do AC,dF,dG AC]
   unfold cu;rw[hb,gO hl,ae,af];simp
 .have j3:i<s.length:=Fd
  have mo:(s++[some (⟨false,ds⟩:bQ)])[i]? =some (some (⟨false,cs⟩:bQ)):=by rw[nc j3];exact hs
  have eD:(s++[some (⟨false,ds⟩:bQ)]).iB i=some cs:=by grind[St.iB]
  refine⟨s.length+1,(s++[some (⟨false,ds⟩:bQ)]).set i none++[some (⟨false,cs++ds⟩:bQ)],AC,⟨(tH (h.1.trans (.new _ _)) hi none).trans (.new _ _),.inr ⟨s.length+1,rfl,AC,?_⟩⟩,(aB.new _ _).kp.trans ((Kp.set mo none).trans (aB.new _ _).kp),(tr.pre _ (aB.new _ _)).trans ((tr.set _ i 0 none).trans (tr.pre _ (aB.new _ _))),λK=>?_⟩
  .rw[kO Do];simp
  .rw[ZD,kq (f:=false) (all:=ds) Do AC,dF,dG AC]
   unfold cu;simp only[hb,gO hl,ae,af,eD];rw[fq,gO AC];grind
end Go.Gv.F
namespace Go.Gv.F
open Go.Gv
abbrev OJ:Ty:= .pr (.pr (.i .i64) (.pr (.i .i64) .un)) (.pr (.i .i64) (.pr (.i .i64) .un))
abbrev Oi:Ty:= .pr .s (.pr (.sl OJ) .un)
abbrev aet:Ty:= .pr (.pr (.i .i64) (.pr (.i .i64) (.pr (.i .i64) .un))) (.pr (.sl Oi) (.pr (.sl (.i .i64)) (.pr (.sl (.i .i64)) .un)))
def gh (e:aP):Prop:=nO e.slot/\nO e.gen/\nO e.key/\nO e.value
variable {d:DV} {s:St} {cs:ah}
theorem ZBa (h:Rd s OJ cs): ∃e,cs=fJ e/\gh e:=by
 obtain⟨_,_,rfl,⟨_,_,rfl,⟨h1,rfl,b1,b2⟩,⟨_,_,rfl,⟨h2,rfl,c1,c2⟩,hu⟩⟩,⟨_,_,rfl,⟨ky,rfl,d1,d2⟩,⟨_,_,rfl,⟨vl,rfl,e1,e2⟩,K4⟩⟩⟩:=h;cases hu;cases K4;exact⟨⟨h1,h2,ky,vl⟩,rfl,BX ⟨b1,b2⟩,BX ⟨c1,c2⟩,BX ⟨d1,d2⟩,BX ⟨e1,e2⟩⟩
theorem Zte {s:St} : ∀(n:Nat) (cs:ah),cs.length=n*4->(∀j,j<n->Rd s OJ ((cs.drop (j*4)).take 4))->∃l:List aP,l.length=n/\cs=bW l/\∀e∈l,gh e
 |0,cs,hl,_=>⟨[],rfl,BD AC,λx hx=>by cases hx⟩
 |n+1,cs,hl,h=>by
  have h0:=h 0 AC;rw[rU,dF]at h0;have⟨x,e,hr⟩:=ZBa h0;have⟨xs,g1,g2,g3⟩:=Zte (s:=s) n (cs.drop 4) (by rw[dY];omega) λj hj=>by
   have:=h (j+1) AC;rw[kd,show 4+j*4=(j+1)*4 by omega];exact this
  refine⟨x::xs,by simp[g1],?_,λy hy=>?_⟩
  .have e2:bW (x::xs)=fJ x++bW xs:=rfl
   rw[e2,<-g2,<-e,mD]
  grind
theorem Zz6 (h:Rd s (.sl OJ) [d]): ∃p l,d= .slice 4 p (List.length l)/\Sl s p (bW l)/\∀e∈l,gh e:=by
 rcases h with h|⟨i,n,cs,h1,h2,h3,_,h5⟩
 .exact⟨none,[],(HX h).1,rfl,λx hx=>by cases hx⟩
 .obtain⟨xs,g1,rfl,g3⟩:=Zte n cs h3 h5
  refine⟨some (i,0),xs,?_,⟨true,_,h2,Do,by rw[dF,rQ]⟩,g3⟩;rw[(HX h1).1,g1];rfl
theorem ZAf (h:Rd s Oi cs): ∃g p,cs=mS g 4 p/\Sl s p (bW g.bz)/\∀e∈g.bz,gh e:=by
 obtain⟨_,_,rfl,⟨nm,rfl,_⟩,⟨l,_,rfl,hl,K4⟩⟩:=h;cases K4;have hlen:=hl.len;obtain⟨d,rfl⟩: ∃d,l=[d]:=QF.1 hlen;obtain⟨p,li,rfl,hs,hr⟩:=Zz6 hl;exact⟨⟨nm,li⟩,p,rfl,hs,hr⟩
theorem Zq8 {s:St} : ∀(n:Nat) (cs:ah),cs.length=n*2->(∀j,j<n->Rd s Oi ((cs.drop (j*2)).take 2))->∃l:List dw,l.length=n/\kQ s cs l/\∀g∈l,∀e∈g.bz,gh e
 |0,cs,hl,_=>⟨[],rfl,BD AC,λx hx=>by cases hx⟩
 |n+1,cs,hl,h=>by
  have h0:=h 0 AC;rw[rU,dF]at h0;have⟨x,p,e,hs,hr⟩:=ZAf h0;have⟨xs,g1,g2,g3⟩:=Zq8 (s:=s) n (cs.drop 2) (by rw[dY];omega) λj hj=>by
   have:=h (j+1) AC;rw[kd,show 2+j*2=(j+1)*2 by omega];exact this
  refine⟨x::xs,by simp[g1],⟨4,p,cs.drop 2,.inl rfl,by rw[<-e,mD],hs,g2⟩,λy hy=>?_⟩;grind
theorem Zzl (h:Rd s (.sl Oi) [d]): ∃p xs ds,d= .slice 2 p (List.length xs)/\Sl s p ds/\kQ s ds xs/\∀g∈xs,∀e∈g.bz,gh e:=by
 rcases h with h|⟨i,n,cs,h1,h2,h3,_,h5⟩
 .exact⟨none,[],[],(HX h).1,rfl,rfl,λx hx=>by cases hx⟩
 .have⟨xs,g1,g2,g3⟩:=Zq8 n cs h3 h5
  refine⟨some (i,0),xs,cs,?_,⟨true,cs,h2,Do,by rw[dF,rQ]⟩,g2,g3⟩;rw[(HX h1).1,g1];rfl
theorem akX (h:Rd s aet cs): ∃x z1 p1 z2 p2 z3 p3,cs=fa x z1 p1 z2 p2 z3 p3/\(z1=2\/p1=none)/\(z2=1\/p2=none)/\(z3=1\/p3=none)/\qh s x p1 p2 p3/\QR x:=by
 obtain⟨_,_,rfl,⟨_,_,rfl,⟨b,rfl,a1,a2⟩,⟨_,_,rfl,⟨sl,rfl,b1,b2⟩,⟨_,_,rfl,⟨g,rfl,c1,c2⟩,hu⟩⟩⟩,⟨l1,_,rfl,nz,⟨l2,_,rfl,lM,⟨l3,_,rfl,CY,K4⟩⟩⟩⟩:=h;cases hu;cases K4;obtain⟨d1,rfl⟩: ∃d,l1=[d]:=QF.1 nz.len;obtain⟨d2,rfl⟩: ∃d,l2=[d]:=QF.1 lM.len;obtain⟨d3,rfl⟩: ∃d,l3=[d]:=QF.1 CY.len;obtain⟨p1,hs,ds,rfl,f1,f2,f3⟩:=Zzl nz;obtain⟨p2,gs,⟨z2,iN,rfl⟩,g1,g2⟩:=Zvf lM;obtain⟨p3,fs,⟨z3,nF,rfl⟩,k1,k2⟩:=Zvf CY;exact⟨⟨b,sl,g,hs,gs,fs⟩,2,p1,z2,p2,z3,p3,rfl,.inl rfl,iN,nF,⟨⟨ds,f1,f2⟩,g1,k1⟩,⟨BX ⟨a1,a2⟩,BX ⟨b1,b2⟩,BX ⟨c1,c2⟩,g2,k2,f3⟩⟩
structure Ic (x:dW):Prop where
 h:x.aD.length<=8
 g:x.gens.length<=60
 f:x.free.length<=60
 b:x.blocks<=400
 hs: ∀h∈x.aD,h.bz.length<=40/\h.name.length<=60
theorem ZlQ: ∀(l:List dw),(∀h∈l,h.bz.length<=40)->(ra l).length<=l.length*40
 |[],_=>aJ _
 |g::l,h=>by
  have e:ra (g::l)=g.bz++ra l:=rfl;have h1:=h g pz;have h2:=ZlQ l λx hx=>h x (tj _ hx)
  rw[e,ba,cQ];omega
theorem Ic.sz {x:dW} (h:Ic x):FR x:=by
 have h1:=ZlQ x.aD λg hg=>(h.hs g hg).1
 have h2:=h.h;have h3:=h.g;have h4:=h.f;exact⟨⟨AC,λg hg=>by have:=(h.hs g hg).1;omega,λg hg=>by have:=(h.hs g hg).2;omega⟩,by rw[Va];omega,AC,AC⟩
variable {Bd:Zg} [h:HA Bd]
theorem Zp1 (n:Nat) (x:dW) (z1 z2 z3:Nat) (p1 p2 p3:ai) (st:St) (kD:z1=2\/p1=none) (iN:z2=1\/p2=none) (nF:z3=1\/p3=none) (hr:qh st x p1 p2 p3) (hn:20<=n):
  Ok (λo=>∃b,o=(.val [.bool b],st)/\(b=true↔Ic x)) (run Bd n 138 [.agg (fa x z1 p1 z2 p2 z3 p3)] st):=by
 obtain _|n:=n;omega;rw[Ze,h.afP];unfold Sp yq az Q_ dj N_ Aj Lb Li
 try dsimp only
 have ag: ∀(l:ah) (K:ah->ah->M ah),bp (.agg (fa x z1 p1 z2 p2 z3 p3)::l) K=K (fa x z1 p1 z2 p2 z3 p3) l:=λ_ _=>rfl
 rw[ag];unfold fa;simp only[au,Zh 2 z1 p1 _ kD,Zh 1 z2 p2 _ iN,Zh 1 z3 p3 _ nF,ao];have no: ¬Ic x->Ok (λo=>∃b,o=(.val [.bool b],st)/\(b=true↔Ic x)) ((aw [.bool false]:M ah) st):=by
  intro hm;rw[Zd];exact .mk Fd
 rw[Za];by_cases d1:(x.aD.length:Int)>8
 .rw[aR d1]
  simp only[ar,ao];rw[Za,ae];simp only[ar,ao];rw[Za,ae];simp only[ar,ao];rw[ae];exact no λhh=>by have:=hh.h;omega
 rw[aU d1];simp only[ar,ao];rw[Za];by_cases d2:(x.gens.length:Int)>60
 .rw[aR d2]
  simp only[ar,ao];rw[Za,ae];simp only[ar,ao];rw[ae];exact no λhh=>by have:=hh.g;omega
 rw[aU d2];simp only[ar,ao];rw[Za];by_cases d3:(x.free.length:Int)>60
 .rw[aR d3]
  simp only[ar,ao];rw[ae];exact no λhh=>by have:=hh.f;omega
 rw[aU d3];simp only[ar,ao];by_cases d4:x.blocks>400
 .rw[aR d4]
  exact no λhh=>by have:=hh.b;omega
 rw[aU d4,Za];have⟨ds,hs,hh⟩:=hr.hp;refine Zj _ (λq y s=>∃i:Nat,y=[.i i]/\i<=x.aD.length/\x.aD.length-i<=q/\s=st/\∀j g,j<i->x.aD[j]? =some g->g.bz.length<=40/\g.name.length<=60) ?_ x.aD.length n _ _ ⟨0,rfl,cN _,AC,rfl,AC⟩ AC;rintro q _ s ⟨i,rfl,hi,hq,rfl,dH⟩ rec aN;simp only[au,ao];by_cases av:i<x.aD.length
 .obtain⟨i1,o1,rfl⟩:=hs.cS (by rw[hh.len];omega)
  have hg:x.aD[i]? =some x.aD[i]:=cc av;generalize x.aD[i]=g at hg;have⟨pe,tX,le⟩:=UN (Y:=ah) hs hh hg;rw[aR,bh,Zc (Zi av),bn,le,Za];by_cases d5:(g.bz.length:Int)>40
  .rw[aR d5]
   simp only[ar,ao];rw[ae];exact no λhh=>by have:=(hh.hs g (qc hg)).1;omega
  rw[aU d5,bh,Zc (Zi av),IZ hs hh hg];simp only[BI,ar,ao];by_cases d6:(g.name.length:Int)>60
  .rw[aR d6]
   exact no λhh=>by have:=(hh.hs g (qc hg)).2;omega
  .rw[aU d6,Zb]
   refine aN (x.aD.length-(i+1)) _ _ AC ⟨i+1,rfl,AC,AC,rfl,λj g' hj e=>?_⟩;by_cases oJ:j<i
   .exact dH j g' oJ e
   grind
 .rw[aU,Zd]
  refine .mk ⟨true,rfl,?_⟩;simp only[true_iff];refine⟨AC,AC,AC,AC,λg hg=>?_⟩;obtain⟨j,hj,rfl⟩:=BE hg;exact dH j _ AC (cc hj)
