/- The text of a state: the program's and the document's. -/
import Derived.Test.YtegglibipjjblaaGreatDoorGvZPf
namespace Go.Gv.F
open Go.Gv
variable {β:Type}
theorem Ok.callX {α:Type} {P:Out α×St→Prop} {Q:Out β×St→Prop} {m:M α} {K:α→M β} {s:St} (h:Ok P (m s)) (k: ∀o,P o→∃ds s',o=(.val ds,s')∧Pre s s'∧Ok Q (K ds s')):Ok Q (M.callX m K s):=by
 obtain⟨o,e,p⟩:=h;obtain⟨ds,s',rfl,hp,hq⟩:=k o p;rw[ZcD e hp];exact hq
structure RngS (x:StV):Prop where
 b:InR x.blocks
 s:InR x.slots
 g:InR x.g
 gens: ∀v∈x.gens,InR v
 free: ∀v∈x.free,InR v
 ents: ∀h∈x.heaps,∀e∈h.ents,InR e.slot∧InR e.gen∧InR e.key∧InR e.value
end Go.Gv.F
namespace Go.Gv.F
open Go.Gv
variable {β:Type}
end Go.Gv.F
namespace Go.Gv.F
open Go.Gv
variable {β:Type}
def But (j:Option (Nat×Nat)) (s s':St):Prop:=∀(i:Nat) (b:Option Blk),s[i]? =some b→(∀o,j≠some (i,o))→s'[i]? =some b
theorem But.pre {s s':St} (j:Option (Nat×Nat)) (h:Pre s s'):But j s s':=fun _ _ e _=>h.get e
theorem But.set (s:St) (r o:Nat) (b:Option Blk):But (some (r,o)) s (s.set r b):=by
 intro i b' e hne;have:r≠i:=by rintro rfl;exact hne o rfl
 rw[List.getElem?_set_ne this];exact e
theorem But.trans {j:Option (Nat×Nat)} {a b c:St} (h:But j a b) (k:But j b c):But j a c:=fun i x e hne=>k i x (h i x e hne) hne
theorem Own.push3 {s0 s:St} {a:Option (Nat×Nat)} {cs:List DV} (h:Own s0 s a cs) {sz n lim:Nat} (ds:List DV) (hz:0<sz) (hn:cs.length=n*sz) (hd:ds.length=sz) (hl:n+1≤lim):
  ∃i s',s.length≤i∧Own s0 s' (some (i,0)) (cs++ds)∧Kp s s'∧But a s s'∧∀K:Option (Nat×Nat)→M β,(M.new ds fun i=>M.load i 0 sz fun cs'=>M.app sz a n cs' 1 lim K) s=K (some (i,0)) s':=by
 have hb:Nat.beq 1 0=false:=rfl;rcases h.2 with⟨rfl,rfl⟩|⟨i,rfl,hi,hs⟩
 ·have h0:n=0:=by
   rcases Nat.mul_eq_zero.1 (show n*sz=0 by simpa using hn.symm)with h|h
   ·exact h
   ·omega
  subst h0;refine⟨s.length+1,s++[some (⟨false,ds⟩:Blk)]++[some (⟨false,ds⟩:Blk)],by omega,⟨h.1.trans ((Pre.new _ _).trans (.new _ _)),.inr ⟨s.length+1,rfl,by have:=h.1.len;omega,?_⟩⟩,((Pre.new _ _).trans (.new _ _)).kp,But.pre _ ((Pre.new _ _).trans (.new _ _)),fun K=>?_⟩
  ·rw[List.getElem?_append_right (by simp)];simp
  ·rw[Zu,ZT (f:=false) (all:=ds) (by simp) (by omega),List.drop_zero,List.take_of_length_le (by omega)]
   unfold M.app;simp only[hb,Nat.ble_eq_true_of_le hl,cond_true,cond_false];simp
 ·have hil:i<s.length:=(List.getElem?_eq_some_iff.1 hs).1
  have hs2:(s++[some (⟨false,ds⟩:Blk)])[i]? =some (some (⟨false,cs⟩:Blk)):=by rw[List.getElem?_append_left hil];exact hs
  have hop:(s++[some (⟨false,ds⟩:Blk)]).open? i=some cs:=by unfold St.open?;rw[hs2]
  refine⟨s.length+1,(s++[some (⟨false,ds⟩:Blk)]).set i none++[some (⟨false,cs++ds⟩:Blk)],by omega,⟨(Zcj (h.1.trans (.new _ _)) hi none).trans (.new _ _),.inr ⟨s.length+1,rfl,by have:=h.1.len;omega,?_⟩⟩,(Pre.new _ _).kp.trans ((Kp.set hs2 none).trans (Pre.new _ _).kp),(But.pre _ (Pre.new _ _)).trans ((But.set _ i 0 none).trans (But.pre _ (Pre.new _ _))),fun K=>?_⟩
  ·rw[List.getElem?_append_right (by simp)];simp
  ·rw[Zu,ZT (f:=false) (all:=ds) (by simp) (by omega),List.drop_zero,List.take_of_length_le (by omega)]
   unfold M.app;simp only[hb,Nat.ble_eq_true_of_le hl,cond_true,cond_false,hop];rw[Nat.zero_add,Nat.ble_eq_true_of_le (by omega)];simp only[cond_true,List.drop_zero];rw[List.take_of_length_le (by omega)];simp
end Go.Gv.F
namespace Go.Gv.F
open Go.Gv
variable {β:Type}
end Go.Gv.F
namespace Go.Gv.F
open Go.Gv
variable {β:Type}
end Go.Gv.F
namespace Go.Gv.F
open Go.Gv
end Go.Gv.F
namespace Go.Gv.F
open Go.Gv
abbrev entTy:Ty:= .pr (.pr (.i .i64) (.pr (.i .i64) .un)) (.pr (.i .i64) (.pr (.i .i64) .un))
abbrev Zoh:Ty:= .pr .s (.pr (.sl entTy) .un)
abbrev stTy:Ty:= .pr (.pr (.i .i64) (.pr (.i .i64) (.pr (.i .i64) .un))) (.pr (.sl Zoh) (.pr (.sl (.i .i64)) (.pr (.sl (.i .i64)) .un)))
def EntR (e:EntV):Prop:=InR e.slot∧InR e.gen∧InR e.key∧InR e.value
theorem Zz4 {s:St} {cs:List DV} (h:Rd s entTy cs): ∃e,cs=entC e∧EntR e:=by
 obtain⟨_,_,rfl,⟨_,_,rfl,⟨h1,rfl,b1,b2⟩,⟨_,_,rfl,⟨h2,rfl,c1,c2⟩,hu⟩⟩,⟨_,_,rfl,⟨ky,rfl,d1,d2⟩,⟨_,_,rfl,⟨vl,rfl,e1,e2⟩,hu2⟩⟩⟩:=h;cases hu;cases hu2;exact⟨⟨h1,h2,ky,vl⟩,rfl,ZcT ⟨b1,b2⟩,ZcT ⟨c1,c2⟩,ZcT ⟨d1,d2⟩,ZcT ⟨e1,e2⟩⟩
theorem ZsU {s:St} : ∀(n:Nat) (cs:List DV),cs.length=n*4→(∀j,j<n→Rd s entTy ((cs.drop (j*4)).take 4))→∃l:List EntV,l.length=n∧cs=entsC l∧∀e∈l,EntR e
 |0,cs,hl,_=>⟨[],rfl,List.eq_nil_of_length_eq_zero (by omega),fun x hx=>by cases hx⟩
 |n+1,cs,hl,h=>by
  have h0:=h 0 (by omega);rw[Nat.zero_mul,List.drop_zero]at h0;obtain⟨x,e,hr⟩:=Zz4 h0;obtain⟨xs,g1,g2,g3⟩:=ZsU (s:=s) n (cs.drop 4) (by rw[List.length_drop];omega) fun j hj=>by
   have:=h (j+1) (by omega);rw[List.drop_drop,show 4+j*4=(j+1)*4 by omega];exact this
  refine⟨x::xs,by simp[g1],?_,fun y hy=>?_⟩
  ·have e2:entsC (x::xs)=entC x++entsC xs:=rfl
   rw[e2,←g2,←e,List.take_append_drop]
  ·rcases List.mem_cons.1 hy with rfl|hy
   ·exact hr
   ·exact g3 y hy
theorem ZyX {s:St} {d:DV} (h:Rd s (.sl entTy) [d]): ∃p l,d= .slice 4 p (List.length l)∧Sl s p (entsC l)∧∀e∈l,EntR e:=by
 rcases h with h|⟨i,n,cs,h1,h2,h3,_,h5⟩
 ·exact⟨none,[],(List.cons.inj h).1,rfl,fun x hx=>by cases hx⟩
 ·obtain⟨xs,g1,rfl,g3⟩:=ZsU n cs h3 h5
  refine⟨some (i,0),xs,?_,⟨true,_,h2,by simp,by rw[List.drop_zero,List.take_length]⟩,g3⟩;rw[(List.cons.inj h1).1,g1];rfl
theorem Zza {s:St} {cs:List DV} (h:Rd s Zoh cs): ∃g p,cs=heapZ g 4 p∧Sl s p (entsC g.ents)∧∀e∈g.ents,EntR e:=by
 obtain⟨_,_,rfl,⟨nm,rfl,_⟩,⟨l,_,rfl,hl,hu2⟩⟩:=h;cases hu2;have hlen:=hl.len;obtain⟨d,rfl⟩: ∃d,l=[d]:=List.length_eq_one_iff.1 hlen;obtain⟨p,li,rfl,hs,hr⟩:=ZyX hl;exact⟨⟨nm,li⟩,p,rfl,hs,hr⟩
theorem Zq9 {s:St} : ∀(n:Nat) (cs:List DV),cs.length=n*2→(∀j,j<n→Rd s Zoh ((cs.drop (j*2)).take 2))→∃l:List HeapV,l.length=n∧Heaps s cs l∧∀g∈l,∀e∈g.ents,EntR e
 |0,cs,hl,_=>⟨[],rfl,List.eq_nil_of_length_eq_zero (by omega),fun x hx=>by cases hx⟩
 |n+1,cs,hl,h=>by
  have h0:=h 0 (by omega);rw[Nat.zero_mul,List.drop_zero]at h0;obtain⟨x,p,e,hs,hr⟩:=Zza h0;obtain⟨xs,g1,g2,g3⟩:=Zq9 (s:=s) n (cs.drop 2) (by rw[List.length_drop];omega) fun j hj=>by
   have:=h (j+1) (by omega);rw[List.drop_drop,show 2+j*2=(j+1)*2 by omega];exact this
  refine⟨x::xs,by simp[g1],⟨4,p,cs.drop 2,.inl rfl,by rw[←e,List.take_append_drop],hs,g2⟩,fun y hy=>?_⟩;rcases List.mem_cons.1 hy with rfl|hy
  ·exact hr
  ·exact g3 y hy
theorem Zyf {s:St} {d:DV} (h:Rd s (.sl Zoh) [d]): ∃p xs ds,d= .slice 2 p (List.length xs)∧Sl s p ds∧Heaps s ds xs∧∀g∈xs,∀e∈g.ents,EntR e:=by
 rcases h with h|⟨i,n,cs,h1,h2,h3,_,h5⟩
 ·exact⟨none,[],[],(List.cons.inj h).1,rfl,rfl,fun x hx=>by cases hx⟩
 ·obtain⟨xs,g1,g2,g3⟩:=Zq9 n cs h3 h5
  refine⟨some (i,0),xs,cs,?_,⟨true,cs,h2,by simp,by rw[List.drop_zero,List.take_length]⟩,g2,g3⟩;rw[(List.cons.inj h1).1,g1];rfl
theorem rd_st {s:St} {cs:List DV} (h:Rd s stTy cs): ∃x z1 p1 z2 p2 z3 p3,cs=stC x z1 p1 z2 p2 z3 p3∧(z1=2∨p1=none)∧(z2=1∨p2=none)∧(z3=1∨p3=none)∧StR s x p1 p2 p3∧RngS x:=by
 obtain⟨_,_,rfl,⟨_,_,rfl,⟨b,rfl,a1,a2⟩,⟨_,_,rfl,⟨sl,rfl,b1,b2⟩,⟨_,_,rfl,⟨g,rfl,c1,c2⟩,hu⟩⟩⟩,⟨l1,_,rfl,hl1,⟨l2,_,rfl,hl2,⟨l3,_,rfl,hl3,hu2⟩⟩⟩⟩:=h;cases hu;cases hu2;obtain⟨d1,rfl⟩: ∃d,l1=[d]:=List.length_eq_one_iff.1 hl1.len;obtain⟨d2,rfl⟩: ∃d,l2=[d]:=List.length_eq_one_iff.1 hl2.len;obtain⟨d3,rfl⟩: ∃d,l3=[d]:=List.length_eq_one_iff.1 hl3.len;obtain⟨p1,hs,ds,rfl,f1,f2,f3⟩:=Zyf hl1;obtain⟨p2,gs,⟨z2,hz2,rfl⟩,g1,g2⟩:=ZvH hl2;obtain⟨p3,fs,⟨z3,hz3,rfl⟩,k1,k2⟩:=ZvH hl3;exact⟨⟨b,sl,g,hs,gs,fs⟩,2,p1,z2,p2,z3,p3,rfl,.inl rfl,hz2,hz3,⟨⟨ds,f1,f2⟩,g1,k1⟩,⟨ZcT ⟨a1,a2⟩,ZcT ⟨b1,b2⟩,ZcT ⟨c1,c2⟩,g2,k2,f3⟩⟩
structure SmallP (x:StV):Prop where
 h:x.heaps.length≤8
 g:x.gens.length≤60
 f:x.free.length≤60
 b:x.blocks≤400
 hs: ∀h∈x.heaps,h.ents.length≤40∧h.name.length≤60
theorem Zmj: ∀(l:List HeapV),(∀h∈l,h.ents.length≤40)→(ZbW l).length≤l.length*40
 |[],_=>Nat.le_refl _
 |g::l,h=>by
  have e:ZbW (g::l)=g.ents++ZbW l:=rfl;have h1:=h g List.mem_cons_self;have h2:=Zmj l fun x hx=>h x (List.mem_cons_of_mem _ hx)
  rw[e,List.length_append,List.length_cons];omega
theorem SmallP.sz {x:StV} (h:SmallP x):SzS x:=by
 have h1:=Zmj x.heaps fun g hg=>(h.hs g hg).1
 have h2:=h.h;have h3:=h.g;have h4:=h.f;exact⟨⟨by omega,fun g hg=>by have:=(h.hs g hg).1;omega,fun g hg=>by have:=(h.hs g hg).2;omega⟩,by rw[Zkm];omega,by omega,by omega⟩
theorem Zpr {Bd:Za} (h:Zha Bd) (n:Nat) (x:StV) (z1 z2 z3:Nat) (p1 p2 p3:Option (Nat×Nat)) (st:St) (hz1:z1=2∨p1=none) (hz2:z2=1∨p2=none) (hz3:z3=1∨p3=none) (hr:StR st x p1 p2 p3) (hn:20≤n):
  Ok (fun o=>∃b,o=(.val [.bool b],st)∧(b=true↔SmallP x)) (run Bd n 138 [.agg (stC x z1 p1 z2 p2 z3 p3)] st):=by
 obtain⟨n,rfl⟩: ∃m,n=m+1:=⟨n-1,by omega⟩;rw[Zf,h.eq];unfold ZeA;have ag: ∀(l:List DV) (K:List DV→List DV→M (List DV)),J.a (.agg (stC x z1 p1 z2 p2 z3 p3)::l) K=K (stC x z1 p1 z2 p2 z3 p3) l:=fun _ _=>rfl
 rw[ag];unfold stC;simp only[J_i,Zm 2 z1 p1 _ hz1,Zm 1 z2 p2 _ hz2,Zm 1 z3 p3 _ hz3,D_nil];have no: ¬SmallP x→Ok (fun o=>∃b,o=(.val [.bool b],st)∧(b=true↔SmallP x)) ((M.ret [.bool false]:M (List DV)) st):=by
  intro hm;rw[Zb];exact .mk ⟨false,rfl,by simp[hm]⟩
 rw[Zc];by_cases d1:(x.heaps.length:Int)>8
 ·rw[decide_eq_true d1,cond_true]
  simp only[J_b,D_nil];rw[Zc,cond_true];simp only[J_b,D_nil];rw[Zc,cond_true];simp only[J_b,D_nil];rw[cond_true];exact no fun hh=>by have:=hh.h;omega
 rw[decide_eq_false d1,cond_false];simp only[J_b,D_nil];rw[Zc];by_cases d2:(x.gens.length:Int)>60
 ·rw[decide_eq_true d2,cond_true]
  simp only[J_b,D_nil];rw[Zc,cond_true];simp only[J_b,D_nil];rw[cond_true];exact no fun hh=>by have:=hh.g;omega
 rw[decide_eq_false d2,cond_false];simp only[J_b,D_nil];rw[Zc];by_cases d3:(x.free.length:Int)>60
 ·rw[decide_eq_true d3,cond_true]
  simp only[J_b,D_nil];rw[cond_true];exact no fun hh=>by have:=hh.f;omega
 rw[decide_eq_false d3,cond_false];simp only[J_b,D_nil];by_cases d4:x.blocks>400
 ·rw[decide_eq_true d4,cond_true]
  exact no fun hh=>by have:=hh.b;omega
 rw[decide_eq_false d4,cond_false,Zc];obtain⟨ds,hs,hh⟩:=hr.hp;refine Zk _ (fun q y s=>∃i:Nat,y=[.int .i64 i]∧i≤x.heaps.length∧x.heaps.length-i≤q∧s=st∧∀j g,j<i→x.heaps[j]? =some g→g.ents.length≤40∧g.name.length≤60) ?_ x.heaps.length n _ _ ⟨0,rfl,Nat.zero_le _,by omega,rfl,fun j g hj=>absurd hj (Nat.not_lt_zero j)⟩ (by omega);rintro q _ s ⟨i,rfl,hi,hq,rfl,hall⟩ rec hrec;simp only[J_i,D_nil];by_cases hlt:i<x.heaps.length
 ·obtain⟨i1,o1,rfl⟩:=hs.some_of (by rw[hh.len];omega)
  have hg:x.heaps[i]? =some x.heaps[i]:=List.getElem?_eq_getElem hlt;generalize x.heaps[i]=g at hg;obtain⟨pe,hfe,le⟩:=ZlA (β:=List DV) hs hh hg;rw[decide_eq_true (show(i:Int)<(x.heaps.length:Int) by omega),cond_true,nn_some',Ze (Zl hlt),Int.toNat_natCast,le,Zc];by_cases d5:(g.ents.length:Int)>40
  ·rw[decide_eq_true d5,cond_true]
   simp only[J_b,D_nil];rw[cond_true];exact no fun hh=>by have:=(hh.hs g (List.mem_of_getElem? hg)).1;omega
  rw[decide_eq_false d5,cond_false,nn_some',Ze (Zl hlt),ZgY hs hh hg];simp only[D_str,J_b,D_nil];by_cases d6:(g.name.length:Int)>60
  ·rw[decide_eq_true d6,cond_true]
   exact no fun hh=>by have:=(hh.hs g (List.mem_of_getElem? hg)).2;omega
  ·rw[decide_eq_false d6,cond_false,Zd (by omega) (by omega)]
   refine hrec (x.heaps.length-(i+1)) _ _ (by omega) ⟨i+1,rfl,by omega,by omega,rfl,fun j g' hj e=>?_⟩;by_cases hji:j<i
   ·exact hall j g' hji e
   ·have:j=i:=by omega
    subst this;rw[hg]at e;cases e;omega
 ·rw[decide_eq_false (show ¬(i:Int)<(x.heaps.length:Int) by omega),cond_false,Zb]
  refine .mk ⟨true,rfl,?_⟩;simp only[true_iff];refine⟨by omega,by omega,by omega,by omega,fun g hg=>?_⟩;obtain⟨j,hj,rfl⟩:=List.getElem_of_mem hg;exact hall j _ (by omega) (List.getElem?_eq_getElem hj)
end Go.Gv.F
namespace Go.Gv.F
open Go.Gv
end Go.Gv.F
