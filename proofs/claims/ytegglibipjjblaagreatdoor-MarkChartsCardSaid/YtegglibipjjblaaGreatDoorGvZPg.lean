/- The text of a state: the program's and the document's. -/
import Derived.Test.YtegglibipjjblaaGreatDoorGvZPf
namespace Go.Gv.F
open Go.Gv
variable {β:Type}
theorem Ok.dW {α:Type} {P:Out α×St->Prop} {Q:Out β×St->Prop} {m:M α} {K:α->M β} {s:St} (h:Ok P (m s)) (k: ∀o,P o->∃ds s',o=(.val ds,s')/\ar s s'/\Ok Q (K ds s')):Ok Q (M.dW m K s):=by
 obtain⟨o,e,p⟩:=h;obtain⟨ds,s',rfl,hp,hq⟩:=k o p;rw[uB e hp];exact hq
structure L8 (x:cT):Prop where
 b:j5 x.blocks
 s:j5 x.cu
 g:j5 x.g
 gens: ∀v∈x.gens,j5 v
 free: ∀v∈x.free,j5 v
 aN: ∀h∈x.aB,∀e∈h.aN,j5 e.slot/\j5 e.gen/\j5 e.key/\j5 e.value
end Go.Gv.F
namespace Go.Gv.F
open Go.Gv
variable {β:Type}
def nl (ls:List (List UInt8)):List DV:=(ls.map (· ++[10])).map .str
end Go.Gv.F
namespace Go.Gv.F
open Go.Gv
variable {β:Type}
def pw (j:Option (Nat×Nat)) (s s':St):Prop:=∀(i:Nat) (b:Option bq),s[i]? =some b->(∀o,j≠some (i,o))->s'[i]? =some b
theorem pw.pre {s s':St} (j:Option (Nat×Nat)) (h:ar s s'):pw j s s':=fun _ _ e _=>h.get e
theorem pw.set (s:St) (r o:Nat) (b:Option bq):pw (some (r,o)) s (s.set r b):=by
 intro i b' e bn;have:r≠i:=by rintro rfl;exact bn o rfl
 rw[eu this];exact e
theorem pw.trans {j:Option (Nat×Nat)} {a b c:St} (h:pw j a b) (k:pw j b c):pw j a c:=fun i x e bn=>k i x (h i x e bn) bn
theorem aY.V8 {s0 s:St} {a:Option (Nat×Nat)} {cs:List DV} (h:aY s0 s a cs) {sz n lim:Nat} (ds:List DV) (hz:0<sz) (hn:cs.length=n*sz) (hd:ds.length=sz) (hl:n+1<=lim):
  ∃i s',s.length<=i/\aY s0 s' (some (i,0)) (cs++ds)/\Kp s s'/\pw a s s'/\∀K:Option (Nat×Nat)->M β,(M.new ds fun i=>M.load i 0 sz fun cs'=>M.app sz a n cs' 1 lim K) s=K (some (i,0)) s':=by
 have hb:Nat.beq 1 0=false:=rfl;rcases h.2 with⟨rfl,rfl⟩|⟨i,rfl,hi,hs⟩
 ·have h0:n=0:=by
   rcases Nat.mul_eq_zero.1 (show n*sz=0 by simpa using hn.symm)with h|h
   ·exact h
   ·omega
  subst h0;refine⟨s.length+1,s++[some (⟨false,ds⟩:bq)]++[some (⟨false,ds⟩:bq)],by omega,⟨h.1.trans ((ar.new _ _).trans (.new _ _)),.inr ⟨s.length+1,rfl,by have:=h.1.len;omega,?_⟩⟩,((ar.new _ _).trans (.new _ _)).kp,pw.pre _ ((ar.new _ _).trans (.new _ _)),fun K=>?_⟩
  ·rw[gU (by simp)];simp
  ·rw[Zw,lA (f:=false) (all:=ds) (by simp) (by omega),dE,cA (by omega)]
   unfold M.app;simp only[hb,gx hl,cond_true,cond_false];simp
 ·have ri:i<s.length:=(cd.1 hs).1
  have jQ:(s++[some (⟨false,ds⟩:bq)])[i]? =some (some (⟨false,cs⟩:bq)):=by rw[iL ri];exact hs
  have de:(s++[some (⟨false,ds⟩:bq)]).fH i=some cs:=by unfold St.fH;rw[jQ]
  refine⟨s.length+1,(s++[some (⟨false,ds⟩:bq)]).set i none++[some (⟨false,cs++ds⟩:bq)],by omega,⟨(uF (h.1.trans (.new _ _)) hi none).trans (.new _ _),.inr ⟨s.length+1,rfl,by have:=h.1.len;omega,?_⟩⟩,(ar.new _ _).kp.trans ((Kp.set jQ none).trans (ar.new _ _).kp),(pw.pre _ (ar.new _ _)).trans ((pw.set _ i 0 none).trans (pw.pre _ (ar.new _ _))),fun K=>?_⟩
  ·rw[gU (by simp)];simp
  ·rw[Zw,lA (f:=false) (all:=ds) (by simp) (by omega),dE,cA (by omega)]
   unfold M.app;simp only[hb,gx hl,cond_true,cond_false,de];rw[dj,gx (by omega)];simp only[cond_true,dE];rw[cA (by omega)];simp
end Go.Gv.F
namespace Go.Gv.F
open Go.Gv
variable {β:Type}
end Go.Gv.F
namespace Go.Gv.F
open Go.Gv
variable {β:Type}
end Go.Gv.F
namespace Go.Gv.F
open Go.Gv
end Go.Gv.F
namespace Go.Gv.F
open Go.Gv
abbrev J1:Ty:= .pr (.pr (.i .i64) (.pr (.i .i64) .un)) (.pr (.i .i64) (.pr (.i .i64) .un))
abbrev JN:Ty:= .pr .s (.pr (.sl J1) .un)
abbrev We:Ty:= .pr (.pr (.i .i64) (.pr (.i .i64) (.pr (.i .i64) .un))) (.pr (.sl JN) (.pr (.sl (.i .i64)) (.pr (.sl (.i .i64)) .un)))
def eB (e:bm):Prop:=j5 e.slot/\j5 e.gen/\j5 e.key/\j5 e.value
theorem ZBA {s:St} {cs:List DV} (h:Rd s J1 cs): ∃e,cs=fN e/\eB e:=by
 obtain⟨_,_,rfl,⟨_,_,rfl,⟨h1,rfl,b1,b2⟩,⟨_,_,rfl,⟨h2,rfl,c1,c2⟩,hu⟩⟩,⟨_,_,rfl,⟨ky,rfl,d1,d2⟩,⟨_,_,rfl,⟨vl,rfl,e1,e2⟩,Ep⟩⟩⟩:=h;cases hu;cases Ep;exact⟨⟨h1,h2,ky,vl⟩,rfl,wo ⟨b1,b2⟩,wo ⟨c1,c2⟩,wo ⟨d1,d2⟩,wo ⟨e1,e2⟩⟩
theorem ZtN {s:St} : ∀(n:Nat) (cs:List DV),cs.length=n*4->(∀j,j<n->Rd s J1 ((cs.drop (j*4)).take 4))->∃l:List bm,l.length=n/\cs=bP l/\∀e∈l,eB e
 |0,cs,hl,_=>⟨[],rfl,xQ (by omega),fun x hx=>by cases hx⟩
 |n+1,cs,hl,h=>by
  have h0:=h 0 (by omega);rw[nf,dE]at h0;obtain⟨x,e,hr⟩:=ZBA h0;obtain⟨xs,g1,g2,g3⟩:=ZtN (s:=s) n (cs.drop 4) (by rw[dt];omega) fun j hj=>by
   have:=h (j+1) (by omega);rw[iK,show 4+j*4=(j+1)*4 by omega];exact this
  refine⟨x::xs,by simp[g1],?_,fun y hy=>?_⟩
  ·have e2:bP (x::xs)=fN x++bP xs:=rfl
   rw[e2,<-g2,<-e,lj]
  ·rcases bX.1 hy with rfl|hy
   ·exact hr
   ·exact g3 y hy
theorem ZAY {s:St} {d:DV} (h:Rd s (.sl J1) [d]): ∃p l,d= .slice 4 p (List.length l)/\Sl s p (bP l)/\∀e∈l,eB e:=by
 rcases h with h|⟨i,n,cs,h1,h2,h3,_,h5⟩
 ·exact⟨none,[],(zP h).1,rfl,fun x hx=>by cases hx⟩
 ·obtain⟨xs,g1,rfl,g3⟩:=ZtN n cs h3 h5
  refine⟨some (i,0),xs,?_,⟨true,_,h2,by simp,by rw[dE,pj]⟩,g3⟩;rw[(zP h1).1,g1];rfl
theorem ZAw {s:St} {cs:List DV} (h:Rd s JN cs): ∃g p,cs=lG g 4 p/\Sl s p (bP g.aN)/\∀e∈g.aN,eB e:=by
 obtain⟨_,_,rfl,⟨nm,rfl,_⟩,⟨l,_,rfl,hl,Ep⟩⟩:=h;cases Ep;have hlen:=hl.len;obtain⟨d,rfl⟩: ∃d,l=[d]:=LS.1 hlen;obtain⟨p,li,rfl,hs,hr⟩:=ZAY hl;exact⟨⟨nm,li⟩,p,rfl,hs,hr⟩
theorem Zsj {s:St} : ∀(n:Nat) (cs:List DV),cs.length=n*2->(∀j,j<n->Rd s JN ((cs.drop (j*2)).take 2))->∃l:List cN,l.length=n/\iz s cs l/\∀g∈l,∀e∈g.aN,eB e
 |0,cs,hl,_=>⟨[],rfl,xQ (by omega),fun x hx=>by cases hx⟩
 |n+1,cs,hl,h=>by
  have h0:=h 0 (by omega);rw[nf,dE]at h0;obtain⟨x,p,e,hs,hr⟩:=ZAw h0;obtain⟨xs,g1,g2,g3⟩:=Zsj (s:=s) n (cs.drop 2) (by rw[dt];omega) fun j hj=>by
   have:=h (j+1) (by omega);rw[iK,show 2+j*2=(j+1)*2 by omega];exact this
  refine⟨x::xs,by simp[g1],⟨4,p,cs.drop 2,.inl rfl,by rw[<-e,lj],hs,g2⟩,fun y hy=>?_⟩;rcases bX.1 hy with rfl|hy
  ·exact hr
  ·exact g3 y hy
theorem Zzs {s:St} {d:DV} (h:Rd s (.sl JN) [d]): ∃p xs ds,d= .slice 2 p (List.length xs)/\Sl s p ds/\iz s ds xs/\∀g∈xs,∀e∈g.aN,eB e:=by
 rcases h with h|⟨i,n,cs,h1,h2,h3,_,h5⟩
 ·exact⟨none,[],[],(zP h).1,rfl,rfl,fun x hx=>by cases hx⟩
 ·obtain⟨xs,g1,g2,g3⟩:=Zsj n cs h3 h5
  refine⟨some (i,0),xs,cs,?_,⟨true,cs,h2,by simp,by rw[dE,pj]⟩,g2,g3⟩;rw[(zP h1).1,g1];rfl
theorem aaq {s:St} {cs:List DV} (h:Rd s We cs): ∃x z1 p1 z2 p2 z3 p3,cs=dA x z1 p1 z2 p2 z3 p3/\(z1=2\/p1=none)/\(z2=1\/p2=none)/\(z3=1\/p3=none)/\oq s x p1 p2 p3/\L8 x:=by
 obtain⟨_,_,rfl,⟨_,_,rfl,⟨b,rfl,a1,a2⟩,⟨_,_,rfl,⟨sl,rfl,b1,b2⟩,⟨_,_,rfl,⟨g,rfl,c1,c2⟩,hu⟩⟩⟩,⟨l1,_,rfl,oI,⟨l2,_,rfl,kh,⟨l3,_,rfl,xa,Ep⟩⟩⟩⟩:=h;cases hu;cases Ep;obtain⟨d1,rfl⟩: ∃d,l1=[d]:=LS.1 oI.len;obtain⟨d2,rfl⟩: ∃d,l2=[d]:=LS.1 kh.len;obtain⟨d3,rfl⟩: ∃d,l3=[d]:=LS.1 xa.len;obtain⟨p1,hs,ds,rfl,f1,f2,f3⟩:=Zzs oI;obtain⟨p2,gs,⟨z2,gZ,rfl⟩,g1,g2⟩:=Jy kh;obtain⟨p3,fs,⟨z3,jR,rfl⟩,k1,k2⟩:=Jy xa;exact⟨⟨b,sl,g,hs,gs,fs⟩,2,p1,z2,p2,z3,p3,rfl,.inl rfl,gZ,jR,⟨⟨ds,f1,f2⟩,g1,k1⟩,⟨wo ⟨a1,a2⟩,wo ⟨b1,b2⟩,wo ⟨c1,c2⟩,g2,k2,f3⟩⟩
structure Cf (x:cT):Prop where
 h:x.aB.length<=8
 g:x.gens.length<=60
 f:x.free.length<=60
 b:x.blocks<=400
 hs: ∀h∈x.aB,h.aN.length<=40/\h.name.length<=60
theorem ZmV: ∀(l:List cN),(∀h∈l,h.aN.length<=40)->(mE l).length<=l.length*40
 |[],_=>ay _
 |g::l,h=>by
  have e:mE (g::l)=g.aN++mE l:=rfl;have h1:=h g jZ;have h2:=ZmV l fun x hx=>h x (lT _ hx)
  rw[e,bg,dF];omega
theorem Cf.sz {x:cT} (h:Cf x):Cg x:=by
 have h1:=ZmV x.aB fun g hg=>(h.hs g hg).1
 have h2:=h.h;have h3:=h.g;have h4:=h.f;exact⟨⟨by omega,fun g hg=>by have:=(h.hs g hg).1;omega,fun g hg=>by have:=(h.hs g hg).2;omega⟩,by rw[OB];omega,by omega,by omega⟩
theorem Zrw {Bd:Za} (h:MX Bd) (n:Nat) (x:cT) (z1 z2 z3:Nat) (p1 p2 p3:Option (Nat×Nat)) (st:St) (jn:z1=2\/p1=none) (gZ:z2=1\/p2=none) (jR:z3=1\/p3=none) (hr:oq st x p1 p2 p3) (hn:20<=n):
  Ok (fun o=>∃b,o=(.val [.bool b],st)/\(b=true↔Cf x)) (run Bd n 138 [.agg (dA x z1 p1 z2 p2 z3 p3)] st):=by
 obtain⟨n,rfl⟩: ∃m,n=m+1:=⟨n-1,by omega⟩;rw[Zf,h.eq];unfold G0;have ag: ∀(l:List DV) (K:List DV->List DV->M (List DV)),J.a (.agg (dA x z1 p1 z2 p2 z3 p3)::l) K=K (dA x z1 p1 z2 p2 z3 p3) l:=fun _ _=>rfl
 rw[ag];unfold dA;simp only[al,Zm 2 z1 p1 _ jn,Zm 1 z2 p2 _ gZ,Zm 1 z3 p3 _ jR,ae];have no: ¬Cf x->Ok (fun o=>∃b,o=(.val [.bool b],st)/\(b=true↔Cf x)) ((M.ret [.bool false]:M (List DV)) st):=by
  intro hm;rw[Ze];exact .mk ⟨false,rfl,by simp[hm]⟩
 rw[Zc];by_cases d1:(x.aB.length:Int)>8
 ·rw[ah d1,cond_true]
  simp only[ai,ae];rw[Zc,cond_true];simp only[ai,ae];rw[Zc,cond_true];simp only[ai,ae];rw[cond_true];exact no fun hh=>by have:=hh.h;omega
 rw[ao d1,cond_false];simp only[ai,ae];rw[Zc];by_cases d2:(x.gens.length:Int)>60
 ·rw[ah d2,cond_true]
  simp only[ai,ae];rw[Zc,cond_true];simp only[ai,ae];rw[cond_true];exact no fun hh=>by have:=hh.g;omega
 rw[ao d2,cond_false];simp only[ai,ae];rw[Zc];by_cases d3:(x.free.length:Int)>60
 ·rw[ah d3,cond_true]
  simp only[ai,ae];rw[cond_true];exact no fun hh=>by have:=hh.f;omega
 rw[ao d3,cond_false];simp only[ai,ae];by_cases d4:x.blocks>400
 ·rw[ah d4,cond_true]
  exact no fun hh=>by have:=hh.b;omega
 rw[ao d4,cond_false,Zc];obtain⟨ds,hs,hh⟩:=hr.hp;refine Zl _ (fun q y s=>∃i:Nat,y=[.int .i64 i]/\i<=x.aB.length/\x.aB.length-i<=q/\s=st/\∀j g,j<i->x.aB[j]? =some g->g.aN.length<=40/\g.name.length<=60) ?_ x.aB.length n _ _ ⟨0,rfl,bH _,by omega,rfl,fun j g hj=>absurd hj (uu j)⟩ (by omega);rintro q _ s ⟨i,rfl,hi,hq,rfl,ca⟩ rec aD;simp only[al,ae];by_cases aj:i<x.aB.length
 ·obtain⟨i1,o1,rfl⟩:=hs.ck (by rw[hh.len];omega)
  have hg:x.aB[i]? =some x.aB[i]:=ba aj;generalize x.aB[i]=g at hg;obtain⟨pe,qZ,le⟩:=OR (β:=List DV) hs hh hg;rw[ah (show(i:Int)<(x.aB.length:Int) by omega),cond_true,aV,Zd (Zk aj),aX,le,Zc];by_cases d5:(g.aN.length:Int)>40
  ·rw[ah d5,cond_true]
   simp only[ai,ae];rw[cond_true];exact no fun hh=>by have:=(hh.hs g (lh hg)).1;omega
  rw[ao d5,cond_false,aV,Zd (Zk aj),CN hs hh hg];simp only[z8,ai,ae];by_cases d6:(g.name.length:Int)>60
  ·rw[ah d6,cond_true]
   exact no fun hh=>by have:=(hh.hs g (lh hg)).2;omega
  ·rw[ao d6,cond_false,Zb (by omega) (by omega)]
   refine aD (x.aB.length-(i+1)) _ _ (by omega) ⟨i+1,rfl,by omega,by omega,rfl,fun j g' hj e=>?_⟩;by_cases jf:j<i
   ·exact ca j g' jf e
   ·have:j=i:=by omega
    subst this;rw[hg]at e;cases e;omega
 ·rw[ao (show ¬(i:Int)<(x.aB.length:Int) by omega),cond_false,Ze]
  refine .mk ⟨true,rfl,?_⟩;simp only[true_iff];refine⟨by omega,by omega,by omega,by omega,fun g hg=>?_⟩;obtain⟨j,hj,rfl⟩:=BZ hg;exact ca j _ (by omega) (ba hj)
end Go.Gv.F
namespace Go.Gv.F
open Go.Gv
theorem ZoD {Bd:Za} (h:ZpH Bd) (n za zb:Nat) (l m:List bm) (p q:Option (Nat×Nat)) (st:St) (vB:za=4\/p=none) (vC:zb=4\/q=none) (hp:Sl st p (bP l)) (hq:Sl st q (bP m)) (hl:l.length<=50000) (hn:50100<=n):
  Ok (fun o=>∃b,o=(.val [.bool b],st)/\(b=true↔l=m)) (run Bd n 153 [.slice za p l.length,.slice zb q m.length] st):=by
 obtain⟨n,rfl⟩: ∃m,n=m+1:=⟨n-1,by omega⟩;rw[Zf,h.eq];unfold Cn;simp only[Zm 4 za p _ vB,Zm 4 zb q _ vC,ae];have no:l≠m->Ok (fun o=>∃b,o=(.val [.bool b],st)/\(b=true↔l=m)) ((M.ret [.bool false]:M (List DV)) st):=by
  intro hm;rw[Ze];exact .mk ⟨false,rfl,by simp[hm]⟩
 by_cases KZ:l.length=m.length;rotate_left
 ·rw[show((l.length:Int)==(m.length:Int))=false from cx.2 (by omega),bD,cond_true]
  exact no fun e=>KZ (by rw[e])
 rw[show((l.length:Int)==(m.length:Int))=true by rw[KZ];exact gN _,bx,cond_false,Zc];refine Zl _ (fun k y s=>∃i:Nat,y=[.int .i64 i]/\i<=l.length/\l.length-i<=k/\s=st/\∀j,j<i->l[j]? =m[j]?) ?_ l.length n _ _ ⟨0,rfl,bH _,by omega,rfl,fun j hj=>absurd hj (uu j)⟩ (by omega);rintro k _ s ⟨i,rfl,hi,hk,rfl,ca⟩ rec aD;simp only[al,ae];by_cases aj:i<l.length
 ·obtain⟨i1,o1,rfl⟩:=hp.ck (by rw[ZB];omega)
  obtain⟨i2,o2,rfl⟩:=hq.ck (by rw[ZB];omega);have e1:l[i]? =some l[i]:=ba aj;have e2:m[i]? =some m[i]:=ba (by omega);generalize l[i]=a at e1;generalize m[i]=b at e2;rw[ah (show(i:Int)<(l.length:Int) by omega),cond_true,aV,Zd (Zk aj),aX,CV hp e1];unfold fN;simp only[al,ae];rw[aV,Zd (Zk (by omega)),CV hq e2];unfold fN;simp only[al,ae];have DT:((a.slot==b.slot)&&((a.gen==b.gen)&&((a.key==b.key)&&((a.value==b.value)&&true))))=true↔a=b:=by
   simp only[vQ,aH,mu];constructor
   ·rintro⟨h1,h2,h3,h4⟩
    cases a;cases b;simp only at h1 h2 h3 h4;subst h1 h2 h3 h4;rfl
   ·rintro rfl
    exact⟨rfl,rfl,rfl,rfl⟩
  cases hb:((a.slot==b.slot)&&((a.gen==b.gen)&&((a.key==b.key)&&((a.value==b.value)&&true))))with
  |false=>
   rw[bD,cond_true];refine no fun e=>?_
   rw[<-e,e1]at e2;cases e2;rw[DT.2 rfl]at hb;cases hb
  |true=>
   have:=DT.1 hb;subst this;rw[bx,cond_false,Zb (by omega) (by omega)];refine aD (l.length-(i+1)) _ _ (by omega) ⟨i+1,rfl,by omega,by omega,rfl,fun j hj=>?_⟩;by_cases jf:j<i
   ·exact ca j jf
   ·have:j=i:=by omega
    subst this;rw[e1,e2]
 ·rw[ao (show ¬(i:Int)<(l.length:Int) by omega),cond_false,Ze]
  refine .mk ⟨true,rfl,?_⟩;simp only[true_iff];refine na fun j=>?_
  by_cases hj:j<i
  ·exact ca j hj
  ·rw[dT (by omega),dT (by omega)]
theorem ZrK {Bd:Za} (h:Nq Bd) (n:Nat) (ws vs:List Int) (a b:Option (Nat×Nat)) (st:St) (ha:Sl st a (ints ws)) (hb:Sl st b (ints vs)) (hn:50100<=n) (hs:ws.length<=50000):
  Ok (fun o=>o=(.val [.bool (decide (ws=vs))],st)) (run Bd n 113 [.slice 1 a ws.length,.slice 1 b vs.length] st):=by
 obtain⟨n,rfl⟩: ∃m,n=m+1:=⟨n-1,by omega⟩;rw[Zf,h.eq];exact ZwZ _ n ws vs 1 1 a b st (.inl rfl) (.inl rfl) ha hb (by omega) (by omega)
end Go.Gv.F
