/- The text of a state: the program's and the document's. -/
import Derived.Test.YtegglibipjjblaaGreatDoorGvZPf
namespace Go.Gv.F
open Go.Gv
variable {β:Type}
theorem Ok.ew {α:Type} {P:Out α×St->Prop} {Q:Out β×St->Prop} {m:M α} {K:α->M β} {s:St} (h:Ok P (m s)) (k: ∀o,P o->∃ds s',o=(.val ds,s')/\aw s s'/\Ok Q (K ds s')):Ok Q (M.ew m K s):=by
 obtain⟨o,e,p⟩:=h;obtain⟨ds,s',rfl,hp,hq⟩:=k o p;rw[tQ e hp];exact hq
structure KK (x:cK):Prop where
 b:jM x.blocks
 s:jM x.bX
 g:jM x.g
 gens: ∀v∈x.gens,jM v
 free: ∀v∈x.free,jM v
 aK: ∀h∈x.av,∀e∈h.aK,jM e.slot/\jM e.gen/\jM e.key/\jM e.value
end Go.Gv.F
namespace Go.Gv.F
open Go.Gv
variable {β:Type}
def nl (ls:List (List UInt8)):List DV:=(ls.map (· ++[10])).map .str
end Go.Gv.F
namespace Go.Gv.F
open Go.Gv
variable {β:Type}
def oR (j:Option (Nat×Nat)) (s s':St):Prop:=∀(i:Nat) (b:Option bn),s[i]? =some b->(∀o,j≠some (i,o))->s'[i]? =some b
theorem oR.pre {s s':St} (j:Option (Nat×Nat)) (h:aw s s'):oR j s s':=fun _ _ e _=>h.get e
theorem oR.set (s:St) (r o:Nat) (b:Option bn):oR (some (r,o)) s (s.set r b):=by
 intro i b' e bp;have:r≠i:=by rintro rfl;exact bp o rfl
 rw[ec this];exact e
theorem oR.trans {j:Option (Nat×Nat)} {a b c:St} (h:oR j a b) (k:oR j b c):oR j a c:=fun i x e bp=>k i x (h i x e bp) bp
theorem bh.UC {s0 s:St} {a:Option (Nat×Nat)} {cs:List DV} (h:bh s0 s a cs) {sz n lim:Nat} (ds:List DV) (hz:0<sz) (hn:cs.length=n*sz) (hd:ds.length=sz) (hl:n+1<=lim):
  ∃i s',s.length<=i/\bh s0 s' (some (i,0)) (cs++ds)/\Kp s s'/\oR a s s'/\∀K:Option (Nat×Nat)->M β,(M.new ds fun i=>M.load i 0 sz fun cs'=>M.app sz a n cs' 1 lim K) s=K (some (i,0)) s':=by
 have hb:Nat.beq 1 0=false:=rfl;rcases h.2 with⟨rfl,rfl⟩|⟨i,rfl,hi,hs⟩
 ·have h0:n=0:=by
   rcases Nat.mul_eq_zero.1 (show n*sz=0 by simpa using hn.symm)with h|h
   ·exact h
   ·omega
  subst h0;refine⟨s.length+1,s++[some (⟨false,ds⟩:bn)]++[some (⟨false,ds⟩:bn)],by omega,⟨h.1.trans ((aw.new _ _).trans (.new _ _)),.inr ⟨s.length+1,rfl,by have:=h.1.len;omega,?_⟩⟩,((aw.new _ _).trans (.new _ _)).kp,oR.pre _ ((aw.new _ _).trans (.new _ _)),fun K=>?_⟩
  ·rw[gN (by simp)];simp
  ·rw[Zy,kQ (f:=false) (all:=ds) (by simp) (by omega),dw,cF (by omega)]
   unfold M.app;simp only[hb,gD hl,cond_true,cond_false];simp
 ·have AR:i<s.length:=(cw.1 hs).1
  have jG:(s++[some (⟨false,ds⟩:bn)])[i]? =some (some (⟨false,cs⟩:bn)):=by rw[iN AR];exact hs
  have dr:(s++[some (⟨false,ds⟩:bn)]).gy i=some cs:=by unfold St.gy;rw[jG]
  refine⟨s.length+1,(s++[some (⟨false,ds⟩:bn)]).set i none++[some (⟨false,cs++ds⟩:bn)],by omega,⟨(xE (h.1.trans (.new _ _)) hi none).trans (.new _ _),.inr ⟨s.length+1,rfl,by have:=h.1.len;omega,?_⟩⟩,(aw.new _ _).kp.trans ((Kp.set jG none).trans (aw.new _ _).kp),(oR.pre _ (aw.new _ _)).trans ((oR.set _ i 0 none).trans (oR.pre _ (aw.new _ _))),fun K=>?_⟩
  ·rw[gN (by simp)];simp
  ·rw[Zy,kQ (f:=false) (all:=ds) (by simp) (by omega),dw,cF (by omega)]
   unfold M.app;simp only[hb,gD hl,cond_true,cond_false,dr];rw[dy,gD (by omega)];simp only[cond_true,dw];rw[cF (by omega)];simp
end Go.Gv.F
namespace Go.Gv.F
open Go.Gv
variable {β:Type}
end Go.Gv.F
namespace Go.Gv.F
open Go.Gv
variable {β:Type}
end Go.Gv.F
namespace Go.Gv.F
open Go.Gv
end Go.Gv.F
namespace Go.Gv.F
open Go.Gv
abbrev IW:Ty:= .pr (.pr (.i .i64) (.pr (.i .i64) .un)) (.pr (.i .i64) (.pr (.i .i64) .un))
abbrev IN:Ty:= .pr .s (.pr (.sl IW) .un)
abbrev UI:Ty:= .pr (.pr (.i .i64) (.pr (.i .i64) (.pr (.i .i64) .un))) (.pr (.sl IN) (.pr (.sl (.i .i64)) (.pr (.sl (.i .i64)) .un)))
def ef (e:bc):Prop:=jM e.slot/\jM e.gen/\jM e.key/\jM e.value
theorem ZAl {s:St} {cs:List DV} (h:Rd s IW cs): ∃e,cs=fA e/\ef e:=by
 obtain⟨_,_,rfl,⟨_,_,rfl,⟨h1,rfl,b1,b2⟩,⟨_,_,rfl,⟨h2,rfl,c1,c2⟩,hu⟩⟩,⟨_,_,rfl,⟨ky,rfl,d1,d2⟩,⟨_,_,rfl,⟨vl,rfl,e1,e2⟩,DE⟩⟩⟩:=h;cases hu;cases DE;exact⟨⟨h1,h2,ky,vl⟩,rfl,vx ⟨b1,b2⟩,vx ⟨c1,c2⟩,vx ⟨d1,d2⟩,vx ⟨e1,e2⟩⟩
theorem ZsW {s:St} : ∀(n:Nat) (cs:List DV),cs.length=n*4->(∀j,j<n->Rd s IW ((cs.drop (j*4)).take 4))->∃l:List bc,l.length=n/\cs=bK l/\∀e∈l,ef e
 |0,cs,hl,_=>⟨[],rfl,w4 (by omega),fun x hx=>by cases hx⟩
 |n+1,cs,hl,h=>by
  have h0:=h 0 (by omega);rw[nV,dw]at h0;obtain⟨x,e,hr⟩:=ZAl h0;obtain⟨xs,g1,g2,g3⟩:=ZsW (s:=s) n (cs.drop 4) (by rw[ej];omega) fun j hj=>by
   have:=h (j+1) (by omega);rw[iM,show 4+j*4=(j+1)*4 by omega];exact this
  refine⟨x::xs,by simp[g1],?_,fun y hy=>?_⟩
  ·have e2:bK (x::xs)=fA x++bK xs:=rfl
   rw[e2,<-g2,<-e,nU]
  ·rcases cd.1 hy with rfl|hy
   ·exact hr
   ·exact g3 y hy
theorem ZzB {s:St} {d:DV} (h:Rd s (.sl IW) [d]): ∃p l,d= .slice 4 p (List.length l)/\Sl s p (bK l)/\∀e∈l,ef e:=by
 rcases h with h|⟨i,n,cs,h1,h2,h3,_,h5⟩
 ·exact⟨none,[],(y7 h).1,rfl,fun x hx=>by cases hx⟩
 ·obtain⟨xs,g1,rfl,g3⟩:=ZsW n cs h3 h5
  refine⟨some (i,0),xs,?_,⟨true,_,h2,by simp,by rw[dw,oQ]⟩,g3⟩;rw[(y7 h1).1,g1];rfl
theorem ZzN {s:St} {cs:List DV} (h:Rd s IN cs): ∃g p,cs=kX g 4 p/\Sl s p (bK g.aK)/\∀e∈g.aK,ef e:=by
 obtain⟨_,_,rfl,⟨nm,rfl,_⟩,⟨l,_,rfl,hl,DE⟩⟩:=h;cases DE;have hlen:=hl.len;obtain⟨d,rfl⟩: ∃d,l=[d]:=Kz.1 hlen;obtain⟨p,li,rfl,hs,hr⟩:=ZzB hl;exact⟨⟨nm,li⟩,p,rfl,hs,hr⟩
theorem Zq2 {s:St} : ∀(n:Nat) (cs:List DV),cs.length=n*2->(∀j,j<n->Rd s IN ((cs.drop (j*2)).take 2))->∃l:List cJ,l.length=n/\hU s cs l/\∀g∈l,∀e∈g.aK,ef e
 |0,cs,hl,_=>⟨[],rfl,w4 (by omega),fun x hx=>by cases hx⟩
 |n+1,cs,hl,h=>by
  have h0:=h 0 (by omega);rw[nV,dw]at h0;obtain⟨x,p,e,hs,hr⟩:=ZzN h0;obtain⟨xs,g1,g2,g3⟩:=Zq2 (s:=s) n (cs.drop 2) (by rw[ej];omega) fun j hj=>by
   have:=h (j+1) (by omega);rw[iM,show 2+j*2=(j+1)*2 by omega];exact this
  refine⟨x::xs,by simp[g1],⟨4,p,cs.drop 2,.inl rfl,by rw[<-e,nU],hs,g2⟩,fun y hy=>?_⟩;rcases cd.1 hy with rfl|hy
  ·exact hr
  ·exact g3 y hy
theorem Zzj {s:St} {d:DV} (h:Rd s (.sl IN) [d]): ∃p xs ds,d= .slice 2 p (List.length xs)/\Sl s p ds/\hU s ds xs/\∀g∈xs,∀e∈g.aK,ef e:=by
 rcases h with h|⟨i,n,cs,h1,h2,h3,_,h5⟩
 ·exact⟨none,[],[],(y7 h).1,rfl,rfl,fun x hx=>by cases hx⟩
 ·obtain⟨xs,g1,g2,g3⟩:=Zq2 n cs h3 h5
  refine⟨some (i,0),xs,cs,?_,⟨true,cs,h2,by simp,by rw[dw,oQ]⟩,g2,g3⟩;rw[(y7 h1).1,g1];rfl
theorem XG {s:St} {cs:List DV} (h:Rd s UI cs): ∃x z1 p1 z2 p2 z3 p3,cs=cP x z1 p1 z2 p2 z3 p3/\(z1=2\/p1=none)/\(z2=1\/p2=none)/\(z3=1\/p3=none)/\l8 s x p1 p2 p3/\KK x:=by
 obtain⟨_,_,rfl,⟨_,_,rfl,⟨b,rfl,a1,a2⟩,⟨_,_,rfl,⟨sl,rfl,b1,b2⟩,⟨_,_,rfl,⟨g,rfl,c1,c2⟩,hu⟩⟩⟩,⟨l1,_,rfl,ow,⟨l2,_,rfl,lN,⟨l3,_,rfl,wv,DE⟩⟩⟩⟩:=h;cases hu;cases DE;obtain⟨d1,rfl⟩: ∃d,l1=[d]:=Kz.1 ow.len;obtain⟨d2,rfl⟩: ∃d,l2=[d]:=Kz.1 lN.len;obtain⟨d3,rfl⟩: ∃d,l3=[d]:=Kz.1 wv.len;obtain⟨p1,hs,ds,rfl,f1,f2,f3⟩:=Zzj ow;obtain⟨p2,gs,⟨z2,gv,rfl⟩,g1,g2⟩:=Zv4 lN;obtain⟨p3,fs,⟨z3,iZ,rfl⟩,k1,k2⟩:=Zv4 wv;exact⟨⟨b,sl,g,hs,gs,fs⟩,2,p1,z2,p2,z3,p3,rfl,.inl rfl,gv,iZ,⟨⟨ds,f1,f2⟩,g1,k1⟩,⟨vx ⟨a1,a2⟩,vx ⟨b1,b2⟩,vx ⟨c1,c2⟩,g2,k2,f3⟩⟩
structure BB (x:cK):Prop where
 h:x.av.length<=8
 g:x.gens.length<=60
 f:x.free.length<=60
 b:x.blocks<=400
 hs: ∀h∈x.av,h.aK.length<=40/\h.name.length<=60
theorem Zl5: ∀(l:List cJ),(∀h∈l,h.aK.length<=40)->(mh l).length<=l.length*40
 |[],_=>aA _
 |g::l,h=>by
  have e:mh (g::l)=g.aK++mh l:=rfl;have h1:=h g nT;have h2:=Zl5 l fun x hx=>h x (oP _ hx)
  rw[e,aZ,ee];omega
theorem BB.sz {x:cK} (h:BB x):zn x:=by
 have h1:=Zl5 x.av fun g hg=>(h.hs g hg).1
 have h2:=h.h;have h3:=h.g;have h4:=h.f;exact⟨⟨by omega,fun g hg=>by have:=(h.hs g hg).1;omega,fun g hg=>by have:=(h.hs g hg).2;omega⟩,by rw[MU];omega,by omega,by omega⟩
theorem Zqj {Bd:Za} (h:LW Bd) (n:Nat) (x:cK) (z1 z2 z3:Nat) (p1 p2 p3:Option (Nat×Nat)) (st:St) (iu:z1=2\/p1=none) (gv:z2=1\/p2=none) (iZ:z3=1\/p3=none) (hr:l8 st x p1 p2 p3) (hn:20<=n):
  Ok (fun o=>∃b,o=(.val [.bool b],st)/\(b=true↔BB x)) (run Bd n 138 [.agg (cP x z1 p1 z2 p2 z3 p3)] st):=by
 obtain⟨n,rfl⟩: ∃m,n=m+1:=⟨n-1,by omega⟩;rw[Zf,h.eq];unfold FV;have ag: ∀(l:List DV) (K:List DV->List DV->M (List DV)),J.a (.agg (cP x z1 p1 z2 p2 z3 p3)::l) K=K (cP x z1 p1 z2 p2 z3 p3) l:=fun _ _=>rfl
 rw[ag];unfold cP;simp only[al,Zm 2 z1 p1 _ iu,Zm 1 z2 p2 _ gv,Zm 1 z3 p3 _ iZ,ae];have no: ¬BB x->Ok (fun o=>∃b,o=(.val [.bool b],st)/\(b=true↔BB x)) ((M.ret [.bool false]:M (List DV)) st):=by
  intro hm;rw[Zc];exact .mk ⟨false,rfl,by simp[hm]⟩
 rw[Zb];by_cases d1:(x.av.length:Int)>8
 ·rw[ah d1,cond_true]
  simp only[ai,ae];rw[Zb,cond_true];simp only[ai,ae];rw[Zb,cond_true];simp only[ai,ae];rw[cond_true];exact no fun hh=>by have:=hh.h;omega
 rw[ao d1,cond_false];simp only[ai,ae];rw[Zb];by_cases d2:(x.gens.length:Int)>60
 ·rw[ah d2,cond_true]
  simp only[ai,ae];rw[Zb,cond_true];simp only[ai,ae];rw[cond_true];exact no fun hh=>by have:=hh.g;omega
 rw[ao d2,cond_false];simp only[ai,ae];rw[Zb];by_cases d3:(x.free.length:Int)>60
 ·rw[ah d3,cond_true]
  simp only[ai,ae];rw[cond_true];exact no fun hh=>by have:=hh.f;omega
 rw[ao d3,cond_false];simp only[ai,ae];by_cases d4:x.blocks>400
 ·rw[ah d4,cond_true]
  exact no fun hh=>by have:=hh.b;omega
 rw[ao d4,cond_false,Zb];obtain⟨ds,hs,hh⟩:=hr.hp;refine Zl _ (fun q y s=>∃i:Nat,y=[.int .i64 i]/\i<=x.av.length/\x.av.length-i<=q/\s=st/\∀j g,j<i->x.av[j]? =some g->g.aK.length<=40/\g.name.length<=60) ?_ x.av.length n _ _ ⟨0,rfl,bH _,by omega,rfl,fun j g hj=>absurd hj (sc j)⟩ (by omega);rintro q _ s ⟨i,rfl,hi,hq,rfl,bW⟩ rec aD;simp only[al,ae];by_cases aj:i<x.av.length
 ·obtain⟨i1,o1,rfl⟩:=hs.cm (by rw[hh.len];omega)
  have hg:x.av[i]? =some x.av[i]:=ba aj;generalize x.av[i]=g at hg;obtain⟨pe,qy,le⟩:=B6 (β:=List DV) hs hh hg;rw[ah (show(i:Int)<(x.av.length:Int) by omega),cond_true,aW,Ze (Zk aj),aY,le,Zb];by_cases d5:(g.aK.length:Int)>40
  ·rw[ah d5,cond_true]
   simp only[ai,ae];rw[cond_true];exact no fun hh=>by have:=(hh.hs g (kK hg)).1;omega
  rw[ao d5,cond_false,aW,Ze (Zk aj),xx hs hh hg];simp only[vk,ai,ae];by_cases d6:(g.name.length:Int)>60
  ·rw[ah d6,cond_true]
   exact no fun hh=>by have:=(hh.hs g (kK hg)).2;omega
  ·rw[ao d6,cond_false,Zd (by omega) (by omega)]
   refine aD (x.av.length-(i+1)) _ _ (by omega) ⟨i+1,rfl,by omega,by omega,rfl,fun j g' hj e=>?_⟩;by_cases ij:j<i
   ·exact bW j g' ij e
   ·have:j=i:=by omega
    subst this;rw[hg]at e;cases e;omega
 ·rw[ao (show ¬(i:Int)<(x.av.length:Int) by omega),cond_false,Zc]
  refine .mk ⟨true,rfl,?_⟩;simp only[true_iff];refine⟨by omega,by omega,by omega,by omega,fun g hg=>?_⟩;obtain⟨j,hj,rfl⟩:=Br hg;exact bW j _ (by omega) (ba hj)
end Go.Gv.F
namespace Go.Gv.F
open Go.Gv
theorem ZiP {Bd:Za} (h:Le Bd) (n za zb:Nat) (l m:List bc) (p q:Option (Nat×Nat)) (st:St) (uM:za=4\/p=none) (uN:zb=4\/q=none) (hp:Sl st p (bK l)) (hq:Sl st q (bK m)) (hl:l.length<=50000) (hn:50100<=n):
  Ok (fun o=>∃b,o=(.val [.bool b],st)/\(b=true↔l=m)) (run Bd n 153 [.slice za p l.length,.slice zb q m.length] st):=by
 obtain⟨n,rfl⟩: ∃m,n=m+1:=⟨n-1,by omega⟩;rw[Zf,h.eq];unfold xu;simp only[Zm 4 za p _ uM,Zm 4 zb q _ uN,ae];have no:l≠m->Ok (fun o=>∃b,o=(.val [.bool b],st)/\(b=true↔l=m)) ((M.ret [.bool false]:M (List DV)) st):=by
  intro hm;rw[Zc];exact .mk ⟨false,rfl,by simp[hm]⟩
 by_cases JA:l.length=m.length;rotate_left
 ·rw[show((l.length:Int)==(m.length:Int))=false from cg.2 (by omega),bu,cond_true]
  exact no fun e=>JA (by rw[e])
 rw[show((l.length:Int)==(m.length:Int))=true by rw[JA];exact fH _,bg,cond_false,Zb];refine Zl _ (fun k y s=>∃i:Nat,y=[.int .i64 i]/\i<=l.length/\l.length-i<=k/\s=st/\∀j,j<i->l[j]? =m[j]?) ?_ l.length n _ _ ⟨0,rfl,bH _,by omega,rfl,fun j hj=>absurd hj (sc j)⟩ (by omega);rintro k _ s ⟨i,rfl,hi,hk,rfl,bW⟩ rec aD;simp only[al,ae];by_cases aj:i<l.length
 ·obtain⟨i1,o1,rfl⟩:=hp.cm (by rw[Zx];omega)
  obtain⟨i2,o2,rfl⟩:=hq.cm (by rw[Zx];omega);have e1:l[i]? =some l[i]:=ba aj;have e2:m[i]? =some m[i]:=ba (by omega);generalize l[i]=a at e1;generalize m[i]=b at e2;rw[ah (show(i:Int)<(l.length:Int) by omega),cond_true,aW,Ze (Zk aj),aY,Ce hp e1];unfold fA;simp only[al,ae];rw[aW,Ze (Zk (by omega)),Ce hq e2];unfold fA;simp only[al,ae];have Db:((a.slot==b.slot)&&((a.gen==b.gen)&&((a.key==b.key)&&((a.value==b.value)&&true))))=true↔a=b:=by
   simp only[wZ,aH,lW];constructor
   ·rintro⟨h1,h2,h3,h4⟩
    cases a;cases b;simp only at h1 h2 h3 h4;subst h1 h2 h3 h4;rfl
   ·rintro rfl
    exact⟨rfl,rfl,rfl,rfl⟩
  cases hb:((a.slot==b.slot)&&((a.gen==b.gen)&&((a.key==b.key)&&((a.value==b.value)&&true))))with
  |false=>
   rw[bu,cond_true];refine no fun e=>?_
   rw[<-e,e1]at e2;cases e2;rw[Db.2 rfl]at hb;cases hb
  |true=>
   have:=Db.1 hb;subst this;rw[bg,cond_false,Zd (by omega) (by omega)];refine aD (l.length-(i+1)) _ _ (by omega) ⟨i+1,rfl,by omega,by omega,rfl,fun j hj=>?_⟩;by_cases ij:j<i
   ·exact bW j ij
   ·have:j=i:=by omega
    subst this;rw[e1,e2]
 ·rw[ao (show ¬(i:Int)<(l.length:Int) by omega),cond_false,Zc]
  refine .mk ⟨true,rfl,?_⟩;simp only[true_iff];refine mP fun j=>?_
  by_cases hj:j<i
  ·exact bW j hj
  ·rw[dL (by omega),dL (by omega)]
theorem Zkk {Bd:Za} (h:Me Bd) (n:Nat) (ws vs:List Int) (a b:Option (Nat×Nat)) (st:St) (ha:Sl st a (ints ws)) (hb:Sl st b (ints vs)) (hn:50100<=n) (hs:ws.length<=50000):
  Ok (fun o=>o=(.val [.bool (decide (ws=vs))],st)) (run Bd n 113 [.slice 1 a ws.length,.slice 1 b vs.length] st):=by
 obtain⟨n,rfl⟩: ∃m,n=m+1:=⟨n-1,by omega⟩;rw[Zf,h.eq];exact Zv9 _ n ws vs 1 1 a b st (.inl rfl) (.inl rfl) ha hb (by omega) (by omega)
theorem Zsp {Bd:Za} (h:Mf Bd) (n:Nat) (x y:cK) (z1 z2 z3:Nat) (p1 p2 p3:Option (Nat×Nat)) (yW u9 va:Nat) (q1 q2 q3:Option (Nat×Nat)) (st:St) (iu:z1=2\/p1=none) (gv:z2=1\/p2=none) (iZ:z3=1\/p3=none)
  (Re:yW=2\/q1=none) (Rf:u9=1\/q2=none) (Rg:va=1\/q3=none) (hx:l8 st x p1 p2 p3) (hy:l8 st y q1 q2 q3) (sz:zn x) (hn:50200<=n):
  Ok (fun o=>∃b,o=(.val [.bool b],st)/\(b=true↔x=y)) (run Bd n 136 [.agg (cP x z1 p1 z2 p2 z3 p3),.agg (cP y yW q1 u9 q2 va q3)] st):=by
 obtain⟨n,rfl⟩: ∃m,n=m+1:=⟨n-1,by omega⟩;rw[Zf,h.eq];unfold GK;have ag: ∀(v:cK) (z1 z2 z3:Nat) (p1 p2 p3:Option (Nat×Nat)) (l:List DV) (K:List DV->List DV->M (List DV)),J.a (.agg (cP v z1 p1 z2 p2 z3 p3)::l) K=K (cP v z1 p1 z2 p2 z3 p3) l:=fun _ _ _ _ _ _ _ _ _=>rfl
 simp only[ag];unfold cP;simp only[al,Zm 2 z1 p1 _ iu,Zm 1 z2 p2 _ gv,Zm 1 z3 p3 _ iZ,Zm 2 yW q1 _ Re,Zm 1 u9 q2 _ Rf,Zm 1 va q3 _ Rg,ae];have no:x≠y->Ok (fun o=>∃b,o=(.val [.bool b],st)/\(b=true↔x=y)) ((M.ret [.bool false]:M (List DV)) st):=by
  intro hm;rw[Zc];exact .mk ⟨false,rfl,by simp[hm]⟩
 rw[Zb];have hg:((x.blocks==y.blocks)&&((x.bX==y.bX)&&((x.g==y.g)&&true)))=true↔x.blocks=y.blocks/\x.bX=y.bX/\x.g=y.g:=by
  simp only[wZ,aH,lW]
 cases lM:((x.blocks==y.blocks)&&((x.bX==y.bX)&&((x.g==y.g)&&true)))with
 |false=>
  rw[bu,cond_true];simp only[ai,ae];rw[Zb,cond_true];simp only[ai,ae];rw[Zb,cond_true];simp only[ai,ae];rw[cond_true];refine no fun e=>?_
  rw[hg.2 ⟨by rw[e],by rw[e],by rw[e]⟩]at lM;cases lM
 |true=>
 have qC:=hg.1 lM;rw[bg,cond_false];simp only[ai,ae];rw[Zb];by_cases hlen:x.av.length=y.av.length;rotate_left
 ·rw[show((x.av.length:Int)==(y.av.length:Int))=false from cg.2 (by omega),bu,cond_true]
  simp only[ai,ae];rw[Zb,cond_true];simp only[ai,ae];rw[cond_true];exact no fun e=>hlen (by rw[e])
 rw[show((x.av.length:Int)==(y.av.length:Int))=true by rw[hlen];exact fH _,bg,cond_false];refine Ok.call (Zkk h.q92 n x.gens y.gens p2 q2 st hx.gn hy.gn (by omega) sz.g) ?_;rintro _ rfl;refine⟨_,st,rfl,?_⟩;simp only[ai,ae];rw[Zb];by_cases nz:x.gens=y.gens;rotate_left
 ·rw[ao nz,bu,cond_true]
  simp only[ai,ae];rw[cond_true];exact no fun e=>nz (by rw[e])
 rw[ah nz,bg,cond_false];refine Ok.call (Zkk h.q92 n x.free y.free p3 q3 st hx.fr hy.fr (by omega) sz.f) ?_;rintro _ rfl;refine⟨_,st,rfl,?_⟩;simp only[ai,ae];by_cases eK:x.free=y.free;rotate_left
 ·rw[ao eK,bu,cond_true]
  exact no fun e=>eK (by rw[e])
 rw[ah eK,bg,cond_false,Zb];obtain⟨ds,hs,hh⟩:=hx.hp;obtain⟨es,gs,gh⟩:=hy.hp;have cL:=sz.h.len;refine Zl _ (fun k v s=>∃i:Nat,v=[.int .i64 i]/\i<=x.av.length/\x.av.length-i<=k/\s=st/\∀j,j<i->x.av[j]? =y.av[j]?) ?_ x.av.length n _ _ ⟨0,rfl,bH _,by omega,rfl,fun j hj=>absurd hj (sc j)⟩ (by omega);rintro k _ s ⟨i,rfl,hi,hk,rfl,bW⟩ rec aD;simp only[al,ae];by_cases aj:i<x.av.length
 ·obtain⟨i1,o1,rfl⟩:=hs.cm (by rw[hh.len];omega)
  obtain⟨i2,o2,rfl⟩:=gs.cm (by rw[gh.len];omega);have e1:x.av[i]? =some x.av[i]:=ba aj;have e2:y.av[i]? =some y.av[i]:=ba (by omega);generalize x.av[i]=a at e1;generalize y.av[i]=b at e2;have PX:=sz.h.aK a (kK e1);have Uq:a≠b->x≠y:=fun cR e=>by
   rw[<-e,e1]at e2;cases e2;exact cR rfl
  rw[ah (show(i:Int)<(x.av.length:Int) by omega),cond_true,aW,Ze (Zk aj),aY,xx hs hh e1];simp only[vk];rw[aW,Ze (Zk (by omega)),xx gs gh e2];simp only[vk];rw[Zb];by_cases nC:a.name=b.name;rotate_left
  ·rw[show(a.name==b.name)=false from cg.2 nC,bu,cond_true]
   simp only[ai,ae];rw[cond_true];exact no (Uq fun e=>nC (by rw[e]))
  obtain⟨pa,QN,la⟩:=B6 (β:=List DV) hs hh e1;obtain⟨pb,QO,lb⟩:=B6 (β:=List DV) gs gh e2;rw[show(a.name==b.name)=true by rw[nC];exact fH _,bg,cond_false,aW,Ze (Zk aj),la,aW,Ze (Zk (by omega)),lb];refine Ok.call (ZiP h.q42 n 4 4 a.aK b.aK pa pb s (.inl rfl) (.inl rfl) QN QO PX (by omega)) ?_;rintro _ ⟨c,rfl,hc⟩;refine⟨_,s,rfl,?_⟩;simp only[ai,ae];cases c with
  |false=>
   rw[bu,cond_true];exact no (Uq fun e=>by cases hc.2 (by rw[e]))
  |true=>
   have cR:a=b:=by
    have:=hc.1 rfl;cases a;cases b;simp only at nC this;subst nC this;rfl
   rw[bg,cond_false,Zd (by omega) (by omega)];refine aD (x.av.length-(i+1)) _ _ (by omega) ⟨i+1,rfl,by omega,by omega,rfl,fun j hj=>?_⟩;by_cases ij:j<i
   ·exact bW j ij
   ·have:j=i:=by omega
    subst this;rw[e1,e2,cR]
 ·rw[ao (show ¬(i:Int)<(x.av.length:Int) by omega),cond_false,Zc]
  refine .mk ⟨true,rfl,?_⟩;simp only[true_iff];have Da:x.av=y.av:=mP fun j=>by
   by_cases hj:j<i
   ·exact bW j hj
   ·rw[dL (by omega),dL (by omega)]
  cases x;cases y;simp only at qC nz eK Da;obtain⟨h1,h2,h3⟩:=qC;subst h1 h2 h3 nz eK Da;rfl
end Go.Gv.F
