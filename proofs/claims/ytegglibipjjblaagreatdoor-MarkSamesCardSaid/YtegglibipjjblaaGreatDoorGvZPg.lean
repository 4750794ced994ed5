/- The text of a state: the program's and the document's. -/
import Derived.Test.YtegglibipjjblaaGreatDoorGvZPf
namespace Go.Gv.F
open Go.Gv
variable {β:Type}
theorem Ok.callX {α:Type} {P:Out α×St→Prop} {Q:Out β×St→Prop} {m:M α} {K:α→M β} {s:St} (h:Ok P (m s)) (k: ∀o,P o→∃ds s',o=(.val ds,s')∧Pre s s'∧Ok Q (K ds s')):Ok Q (M.callX m K s):=by
 obtain ⟨o,e,p⟩:=h
 obtain ⟨ds,s',rfl,hp,hq⟩:=k o p
 rw [ZcZ e hp];exact hq
structure RngS (x:StV):Prop where
 b:InR x.blocks
 s:InR x.slots
 g:InR x.g
 gens: ∀v∈x.gens,InR v
 free: ∀v∈x.free,InR v
 ents: ∀h∈x.heaps,∀e∈h.ents,InR e.slot∧InR e.gen∧InR e.key∧InR e.value
end Go.Gv.F
namespace Go.Gv.F
open Go.Gv
variable {β:Type}
end Go.Gv.F
namespace Go.Gv.F
open Go.Gv
variable {β:Type}
def numsF (ws:List (List UInt8)):List Int:=ws.filterMap readF
def addE (x:StV) (e:EntV):StV:=
 match x.heaps[x.heaps.length-1]? with
 |some g=> { x with heaps:=x.heaps.set (x.heaps.length-1) ⟨g.name,g.ents++[e]⟩ }
 |none=>x
def kYard:List UInt8:=[121,97,114,100]
def kGens:List UInt8:=[103,101,110,115]
def kFree:List UInt8:=[102,114,101,101]
def Zy9:List UInt8:=[113,117,101,117,101]
def Zy7:List UInt8:=[101,110,116,114,121]
def takeW (x:StV) (ws:List (List UInt8)) (w:List UInt8) (l:List Int):StV:=
 if w=kYard then (if l.length=3 then { x with blocks:=l.getD 0 0,slots:=l.getD 1 0,g:=l.getD 2 0 } else x)
 else if w=kGens then { x with gens:=l }
 else if w=kFree then { x with free:=l }
 else if w=Zy9 then { x with heaps:=x.heaps++[⟨Lib.join ws.tail [32],[]⟩] }
 else if w=Zy7 then (if 0<x.heaps.length∧ws.length=4∧l.length=2 then addE x ⟨((Zd5 (ws.getD 1 [])).getD (0,0)).1,((Zd5 (ws.getD 1 [])).getD (0,0)).2,l.getD 0 0,l.getD 1 0⟩ else x)
 else x
def takeL (x:StV) (ws:List (List UInt8)):StV:=takeW x ws (ws.getD 0 []) (numsF ws.tail)
def OB (s0 s:St) (p:Option (Nat×Nat)) (cs:List DV):Prop:=(p=none∧cs=[])∨∃i,p=some (i,0)∧s0.length≤i∧s[i]? =some (some ⟨false,cs⟩)
theorem OB.sl {s0 s:St} {p:Option (Nat×Nat)} {cs:List DV} (h:OB s0 s p cs):Sl s p cs:=by
 rcases h with ⟨rfl,rfl⟩|⟨i,rfl,_,h⟩
 ·rfl
 ·exact ⟨false,cs,h,by simp,by simp⟩
def But (j:Option (Nat×Nat)) (s s':St):Prop:=∀(i:Nat) (b:Option Blk),s[i]? =some b→(∀o,j≠some (i,o))→s'[i]? =some b
theorem OB.but {s0 s s':St} {j p:Option (Nat×Nat)} {cs:List DV} (h:OB s0 s p cs) (k:But j s s') (hne: ∀i,p=some (i,0)→∀o,j≠some (i,o)):OB s0 s' p cs:=by
 rcases h with ⟨rfl,rfl⟩|⟨i,rfl,h1,h⟩
 ·exact .inl ⟨rfl,rfl⟩
 ·exact .inr ⟨i,rfl,h1,k i _ h (hne i rfl)⟩
theorem But.pre {s s':St} (j:Option (Nat×Nat)) (h:Pre s s'):But j s s':=fun _ _ e _=>h.get e
theorem But.set (s:St) (r o:Nat) (b:Option Blk):But (some (r,o)) s (s.set r b):=by
 intro i b' e hne
 have:r≠i:=by rintro rfl;exact hne o rfl
 rw [List.getElem?_set_ne this];exact e
theorem But.trans {j:Option (Nat×Nat)} {a b c:St} (h:But j a b) (k:But j b c):But j a c:=fun i x e hne=>k i x (h i x e hne) hne
theorem Own.push3 {s0 s:St} {a:Option (Nat×Nat)} {cs:List DV} (h:Own s0 s a cs) {sz n lim:Nat} (ds:List DV) (hz:0<sz) (hn:cs.length=n*sz) (hd:ds.length=sz) (hl:n+1≤lim):
  ∃i s',s.length≤i∧Own s0 s' (some (i,0)) (cs++ds)∧Kp s s'∧But a s s'∧∀K:Option (Nat×Nat)→M β,(M.new ds fun i=>M.load i 0 sz fun cs'=>M.app sz a n cs' 1 lim K) s=K (some (i,0)) s':=by
 have hb:Nat.beq 1 0=false:=rfl
 rcases h.2 with ⟨rfl,rfl⟩|⟨i,rfl,hi,hs⟩
 ·have h0:n=0:=by
   rcases Nat.mul_eq_zero.1 (show n*sz=0 by simpa using hn.symm) with h|h
   ·exact h
   ·omega
  subst h0
  refine ⟨s.length+1,s++[some (⟨false,ds⟩:Blk)]++[some (⟨false,ds⟩:Blk)],by omega,⟨h.1.trans ((Pre.new _ _).trans (.new _ _)),.inr ⟨s.length+1,rfl,by have:=h.1.len;omega,?_⟩⟩,((Pre.new _ _).trans (.new _ _)).kp,But.pre _ ((Pre.new _ _).trans (.new _ _)),fun K=>?_⟩
  ·rw [List.getElem?_append_right (by simp)];simp
  ·rw [Zw,Z7 (f:=false) (all:=ds) (by simp) (by omega),List.drop_zero,List.take_of_length_le (by omega)]
   unfold M.app
   simp only [hb,Nat.ble_eq_true_of_le hl,cond_true,cond_false]
   simp
 ·have hil:i<s.length:=(List.getElem?_eq_some_iff.1 hs).1
  have hs2:(s++[some (⟨false,ds⟩:Blk)])[i]? =some (some (⟨false,cs⟩:Blk)):=by rw [List.getElem?_append_left hil];exact hs
  have hop:(s++[some (⟨false,ds⟩:Blk)]).open? i=some cs:=by unfold St.open?;rw [hs2]
  refine ⟨s.length+1,(s++[some (⟨false,ds⟩:Blk)]).set i none++[some (⟨false,cs++ds⟩:Blk)],by omega,⟨(Zdf (h.1.trans (.new _ _)) hi none).trans (.new _ _),.inr ⟨s.length+1,rfl,by have:=h.1.len;omega,?_⟩⟩,(Pre.new _ _).kp.trans ((Kp.set hs2 none).trans (Pre.new _ _).kp),(But.pre _ (Pre.new _ _)).trans ((But.set _ i 0 none).trans (But.pre _ (Pre.new _ _))),fun K=>?_⟩
  ·rw [List.getElem?_append_right (by simp)];simp
  ·rw [Zw,Z7 (f:=false) (all:=ds) (by simp) (by omega),List.drop_zero,List.take_of_length_le (by omega)]
   unfold M.app
   simp only [hb,Nat.ble_eq_true_of_le hl,cond_true,cond_false,hop]
   rw [Nat.zero_add,Nat.ble_eq_true_of_le (by omega)]
   simp only [cond_true,List.drop_zero]
   rw [List.take_of_length_le (by omega)]
   simp
def HO (s0 s:St) (ds:List DV) (xs:List HeapV):Prop:=
 ds.length=xs.length*2∧(∀j x,xs[j]? =some x→∃z p,(z=4∨p=none)∧ds[j*2]? =some (.str x.name)∧ds[j*2+1]? =some (.slice z p x.ents.length)∧OB s0 s p (entsC x.ents))∧
 (∀j k i z n z' n' o o',j<k→ds[j*2+1]? =some (.slice z (some (i,o)) n)→ds[k*2+1]? =some (.slice z' (some (i,o')) n')→False)
theorem HO.but {s0 s s':St} {j:Option (Nat×Nat)} {ds:List DV} {xs:List HeapV} (h:HO s0 s ds xs) (k:But j s s') (hne: ∀(i n:Nat) (x:HeapV),xs[n]? =some x→s[i]? =some (some ⟨false,entsC x.ents⟩)→∀o,j≠some (i,o)):HO s0 s' ds xs:=by
 refine ⟨h.1,fun n x e=>?_,h.2.2⟩
 obtain ⟨z,p,hz,h1,h2,h3⟩:=h.2.1 n x e
 refine ⟨z,p,hz,h1,h2,h3.but k fun i hi=>?_⟩
 rcases h3 with ⟨h4,_⟩|⟨i',h4,_,h6⟩
 ·rw [h4] at hi;cases hi
 ·rw [hi] at h4
  cases h4
  exact hne i n x e h6
theorem Heaps.of {s:St} : ∀ {xs:List HeapV} {ds:List DV},ds.length=xs.length*2→(∀j x,xs[j]? =some x→∃z p,(z=4∨p=none)∧ds[j*2]? =some (.str x.name)∧ds[j*2+1]? =some (.slice z p x.ents.length)∧Sl s p (entsC x.ents))→Heaps s ds xs
 |[],ds,hl,_=>List.length_eq_zero_iff.1 hl
 |x::r,ds,hl,h=>by
  match ds,hl with
  |[d0],hl=>exact absurd hl (by simp only [List.length_cons,List.length_nil];omega)
  |d0::d1::t,hl=>
   obtain ⟨z,p,hz,h1,h2,h3⟩:=h 0 x rfl
   have h1:some d0=some (DV.str x.name):=h1
   have h2:some d1=some (DV.slice z p x.ents.length):=h2
   cases h1
   cases h2
   refine ⟨z,p,t,hz,rfl,h3,Heaps.of (by simp only [List.length_cons] at hl;omega) fun j y e=>?_⟩
   have:=h (j+1) y e
   rw [show (j+1)*2=j*2+2 by omega,show j*2+2+1=j*2+1+2 by omega] at this
   exact this
theorem HO.heaps {s0 s:St} {ds:List DV} {xs:List HeapV} (h:HO s0 s ds xs):Heaps s ds xs:=
 Heaps.of h.1 fun j x e=>let ⟨z,p,hz,h1,h2,h3⟩:=h.2.1 j x e;⟨z,p,hz,h1,h2,h3.sl⟩
structure RD (s0 s:St) (r:Nat) (x:StV):Prop where
 pre:Pre s0 s
 ge:s0.length≤r
 cells: ∃z1 p1 z2 p2 z3 p3 ds,s[r]? =some (some ⟨false,stC x z1 p1 z2 p2 z3 p3⟩)∧(z1=2∨p1=none)∧(z2=1∨p2=none)∧(z3=1∨p3=none)∧OB s0 s p1 ds∧HO s0 s ds x.heaps∧Fz s p2 (ints x.gens)∧Fz s p3 (ints x.free)
theorem RD.mono {s0 s s':St} {r:Nat} {x:StV} (h:RD s0 s r x) (k:Pre s s'):RD s0 s' r x:=by
 obtain ⟨z1,p1,z2,p2,z3,p3,ds,h1,h2,h3,h4,h5,h6,h7,h8⟩:=h.cells
 exact ⟨h.pre.trans k,h.ge,z1,p1,z2,p2,z3,p3,ds,k.get h1,h2,h3,h4,h5.but (But.pre none k) (fun _ _ _=>by simp),h6.but (But.pre none k) (fun _ _ _ _ _ _=>by simp),h7.pre k,h8.pre k⟩
theorem ds_ne {s0 s:St} {ds:List DV} {xs:List HeapV} (h:HO s0 s ds xs) (x:StV) (z1:Nat) (p1:Option (Nat×Nat)) (z2:Nat) (p2:Option (Nat×Nat)) (z3:Nat) (p3:Option (Nat×Nat)):ds≠stC x z1 p1 z2 p2 z3 p3:=by
 intro e
 cases xs with
 |nil=>
  have:=h.1
  rw [e] at this
  cases this
 |cons y r=>
  obtain ⟨_,_,_,h1,_⟩:=h.2.1 0 y rfl
  rw [e] at h1
  cases h1
theorem ZyW (l:List EntV) (x:StV) (z1:Nat) (p1:Option (Nat×Nat)) (z2:Nat) (p2:Option (Nat×Nat)) (z3:Nat) (p3:Option (Nat×Nat)):entsC l≠stC x z1 p1 z2 p2 z3 p3:=by
 intro e
 have:=congrArg List.length e
 rw [Zv] at this
 have:l.length*4=6:=this
 omega
end Go.Gv.F
namespace Go.Gv.F
open Go.Gv
variable {β:Type}
theorem Sl.tail {s:St} {i o:Nat} {d:DV} {cs:List DV} (h:Sl s (some (i,o)) (d::cs)):Sl s (some (i,1+o)) cs:=by
 obtain ⟨f,all,h1,h2,h3⟩:=h
 rw [List.length_cons] at h2 h3
 refine ⟨f,all,h1,by omega,?_⟩
 have:=congrArg (List.drop 1) h3
 rw [List.drop_take,List.drop_drop,Nat.add_sub_cancel] at this
 rw [Nat.add_comm 1 o]
 exact this
theorem OB.own {s0 s:St} {p:Option (Nat×Nat)} {cs:List DV} (h:OB s0 s p cs) (hp:Pre s0 s):Own s0 s p cs:=⟨hp,h⟩
theorem RD.set {s0 s:St} {r:Nat} {x y:StV} {z1 z2 z3:Nat} {p1 p2 p3:Option (Nat×Nat)} {ds:List DV} (hp:Pre s0 s) (hg:s0.length≤r) {z2' z3':Nat} {p2' p3':Option (Nat×Nat)}
  (h1:s[r]? =some (some ⟨false,stC x z1 p1 z2 p2 z3 p3⟩)) (h2:z1=2∨p1=none) (h3:z2'=1∨p2'=none) (h4:z3'=1∨p3'=none) (h5:OB s0 s p1 ds) (h6:HO s0 s ds x.heaps) (h7:Fz s p2' (ints y.gens)) (h8:Fz s p3' (ints y.free)) (hy:y.heaps=x.heaps):
  RD s0 (s.set r (some ⟨false,stC y z1 p1 z2' p2' z3' p3'⟩)) r y∧Kp s (s.set r (some ⟨false,stC y z1 p1 z2' p2' z3' p3'⟩)):=by
 have hb:=But.set s r 0 (some ⟨false,stC y z1 p1 z2' p2' z3' p3'⟩)
 have hk:=Kp.set h1 (some ⟨false,stC y z1 p1 z2' p2' z3' p3'⟩)
 refine ⟨⟨Zdf hp hg _,hg,z1,p1,z2',p2',z3',p3',ds,Zif h1 _,h2,h3,h4,h5.but hb ?_,?_,h7.kp hk,h8.kp hk⟩,hk⟩
 ·intro i hi o e
  cases e
  rcases h5 with ⟨h9,_⟩|⟨i',h9,_,h10⟩
  ·rw [h9] at hi;cases hi
  ·rw [h9] at hi
   cases hi
   rw [h1] at h10
   injection h10 with e1
   injection e1 with e2
   injection e2 with _ e3
   exact ds_ne h6 _ _ _ _ _ _ _ e3.symm
 ·rw [hy]
  refine h6.but hb fun i n g hg2 hs o e=>?_
  cases e
  rw [h1] at hs
  injection hs with e1
  injection e1 with e2
  injection e2 with _ e3
  exact ZyW _ _ _ _ _ _ _ _ e3.symm
theorem Zys {x:StV} {g:HeapV} {e:EntV} (h:x.heaps[x.heaps.length-1]? =some g):addE x e= { x with heaps:=x.heaps.set (x.heaps.length-1) ⟨g.name,g.ents++[e]⟩ } :=by
 unfold addE;rw [h]
end Go.Gv.F
namespace Go.Gv.F
open Go.Gv
variable {β:Type}
def zeroS:StV:=⟨0,0,0,[],[],[]⟩
theorem Zwe {w:List UInt8} {v:Int} (h:readF w=some v):InR v:=(Zlo h).2
theorem ZwY (ws:List (List UInt8)): ∀v∈numsF ws,InR v:=by
 intro v hv
 unfold numsF at hv
 obtain ⟨w,_,h⟩:=List.mem_filterMap.1 hv
 exact Zwe h
theorem ZhY {l:List Int} (h: ∀v∈l,InR v) (j:Nat):InR (l.getD j 0):=by
 rw [List.getD_eq_getElem?_getD]
 cases e:l[j]? with
 |none=>exact ⟨by decide,by decide⟩
 |some v=>exact h v (List.mem_of_getElem? e)
theorem Zw8 (ws:List (List UInt8)):(numsF ws).length≤ws.length:=List.length_filterMap_le _ _
theorem Zyw {l:List HeapV} {g:HeapV} (h:g∈l):g.ents.length≤(ZQ l).length:=by
 obtain ⟨i,hi,rfl⟩:=List.getElem_of_mem h
 have e:=Zm0 l (List.getElem?_eq_getElem hi)
 have:=Zqv l (i+1)
 rw [e,List.length_append] at this
 omega
theorem ZkA (a b:List HeapV):ZQ (a++b)=ZQ a++ZQ b:=by unfold ZQ;rw [List.map_append,List.flatten_append]
theorem ZwA {l:List HeapV} {m:Nat} {g g':HeapV} (h:l[m]? =some g):l=l.take m++g::l.drop (m+1)∧l.set m g'=l.take m++g'::l.drop (m+1):=by
 obtain ⟨hm,rfl⟩:=List.getElem?_eq_some_iff.1 h
 refine ⟨?_,List.set_eq_take_append_cons_drop .. |>.trans (by rw [if_pos hm])⟩
 rw [List.getElem_cons_drop,List.take_append_drop]
structure PInv (m:Nat) (x:StV):Prop where
 hl:x.heaps.length≤m
 el:(ZQ x.heaps).length≤m
 gl:x.gens.length≤50000
 fl:x.free.length≤50000
 nm: ∀h∈x.heaps,h.name.length≤50000
 rg:RngS x
theorem PInv.sz {m:Nat} {x:StV} (h:PInv m x) (hm:m≤50000):SzS x:=
 ⟨⟨by have:=h.hl;omega,fun g hg=>by have:=Zyw hg;have:=h.el;omega,h.nm⟩,by rw [Zhy];have:=h.el;omega,h.gl,h.fl⟩
theorem PInv.zero:PInv 0 zeroS:=
 ⟨Nat.le_refl _,Nat.le_refl _,Nat.zero_le _,Nat.zero_le _,(fun h hh=>nomatch hh),⟨⟨by decide,by decide⟩,⟨by decide,by decide⟩,⟨by decide,by decide⟩,(fun v hv=>nomatch hv),(fun v hv=>nomatch hv),(fun h hh=>nomatch hh)⟩⟩
theorem PInv.up {m m':Nat} {x:StV} (h:PInv m x) (hm:m≤m'):PInv m' x:=
 ⟨by have:=h.hl;omega,by have:=h.el;omega,h.gl,h.fl,h.nm,h.rg⟩
theorem PInv.take {m:Nat} {x:StV} (h:PInv m x) (ws:List (List UInt8)) (hw:ws.length≤50000) (hj:(Lib.join ws.tail [32]).length≤50000):PInv (m+1) (takeL x ws):=by
 have hn:=ZwY ws.tail
 have hnl:(numsF ws.tail).length≤50000:=by
  have:=Zw8 ws.tail
  rw [List.length_tail] at this
  omega
 have hr:=h.rg
 have hu:=h.up (Nat.le_succ m)
 unfold takeL takeW
 split
 ·split
  ·exact ⟨hu.hl,hu.el,hu.gl,hu.fl,hu.nm,⟨ZhY hn 0,ZhY hn 1,ZhY hn 2,hr.gens,hr.free,hr.ents⟩⟩
  ·exact hu
 split
 ·exact ⟨hu.hl,hu.el,hnl,hu.fl,hu.nm,⟨hr.b,hr.s,hr.g,hn,hr.free,hr.ents⟩⟩
 split
 ·exact ⟨hu.hl,hu.el,hu.gl,hnl,hu.nm,⟨hr.b,hr.s,hr.g,hr.gens,hn,hr.ents⟩⟩
 split
 ·refine ⟨by have:=h.hl;rw [List.length_append];simp only [List.length_cons,List.length_nil];omega,by rw [ZkA];have:=h.el;rw [List.length_append];show _+0≤_;omega,hu.gl,hu.fl,fun g hg=>?_,⟨hr.b,hr.s,hr.g,hr.gens,hr.free,fun g hg=>?_⟩⟩
  ·rcases List.mem_append.1 hg with h1|h1
   ·exact h.nm g h1
   ·rw [List.mem_singleton.1 h1];exact hj
  ·rcases List.mem_append.1 hg with h1|h1
   ·exact hr.ents g h1
   ·rw [List.mem_singleton.1 h1];intro e he;cases he
 split
 ·split
  ·rename_i hc
   have her:InR ((Zd5 (ws.getD 1 [])).getD (0,0)).1∧InR ((Zd5 (ws.getD 1 [])).getD (0,0)).2:=by
    cases hh:Zd5 (ws.getD 1 []) with
    |none=>exact ⟨⟨by decide,by decide⟩,⟨by decide,by decide⟩⟩
    |some v=>
     obtain ⟨a,b⟩:=v
     have:=Zst hh
     exact ⟨⟨by show _≤a;omega,this.1.2⟩,⟨by show _≤b;omega,this.2.2⟩⟩
   obtain ⟨g,hg⟩: ∃g,x.heaps[x.heaps.length-1]? =some g:=⟨_,List.getElem?_eq_getElem (by omega)⟩
   rw [Zys hg]
   generalize hee:(⟨((Zd5 (ws.getD 1 [])).getD (0,0)).1,((Zd5 (ws.getD 1 [])).getD (0,0)).2,(numsF ws.tail).getD 0 0,(numsF ws.tail).getD 1 0⟩:EntV)=e
   have hev:InR e.slot∧InR e.gen∧InR e.key∧InR e.value:=by rw [←hee];exact ⟨her.1,her.2,ZhY hn 0,ZhY hn 1⟩
   have hs:=ZwA (g':=⟨g.name,g.ents++[e]⟩) hg
   have hmem: ∀g',g'∈x.heaps.set (x.heaps.length-1) ⟨g.name,g.ents++[e]⟩→g'∈x.heaps∨g'=⟨g.name,g.ents++[e]⟩:=fun g' h=>List.mem_or_eq_of_mem_set h
   refine ⟨by show (x.heaps.set _ _).length≤_;rw [List.length_set];exact hu.hl,?_,hu.gl,hu.fl,fun g' hg'=>?_,⟨hr.b,hr.s,hr.g,hr.gens,hr.free,fun g' hg'=>?_⟩⟩
   ·have h1:=h.el
    rw [hs.1,ZkA,List.length_append] at h1
    show (ZQ (x.heaps.set _ _)).length≤_
    rw [hs.2,ZkA,List.length_append]
    have e1: ∀(g:HeapV) l,ZQ (g::l)=g.ents++ZQ l:=fun _ _=>rfl
    rw [e1,List.length_append] at h1⊢
    simp only [List.length_append,List.length_cons,List.length_nil]
    omega
   ·rcases hmem g' hg' with h1|h1
    ·exact h.nm g' h1
    ·rw [h1];exact h.nm g (List.mem_of_getElem? hg)
   ·rcases hmem g' hg' with h1|h1
    ·exact hr.ents g' h1
    ·rw [h1]
     intro e' he'
     rcases List.mem_append.1 he' with h2|h2
     ·exact hr.ents g (List.mem_of_getElem? hg) e' h2
     ·rw [List.mem_singleton.1 h2];exact hev
  ·exact hu
 ·exact hu
theorem Heaps.frz {s:St} (k:Nat): ∀ {ds:List DV} {xs:List HeapV},Heaps s ds xs→Heaps (ZN k s) ds xs
 |_,[],h=>h
 |_,_::_,⟨z,p,t,hz,h1,h2,h3⟩=>⟨z,p,t,hz,h1,h2.frz k,h3.frz k⟩
theorem StR.frz {s:St} {x:StV} {p1 p2 p3:Option (Nat×Nat)} (h:StR s x p1 p2 p3) (k:Nat):StR (ZN k s) x p1 p2 p3:=
 let ⟨ds,h1,h2⟩:=h.hp
 ⟨⟨ds,h1.frz k,h2.frz k⟩,h.gn.frz k,h.fr.frz k⟩
theorem StR.zero (s:St):StR s zeroS none none none:=⟨⟨[],rfl,rfl⟩,rfl,rfl⟩
end Go.Gv.F
namespace Go.Gv.F
open Go.Gv
structure Good (x:StV):Prop where
 rg:RngS x
 nm: ∀h∈x.heaps,Zdb h.name=true
 en: ∀h∈x.heaps,∀e∈h.ents,0≤e.slot∧0≤e.gen
theorem MayP.good {x:StV} (h:MayP x) (rg:RngS x):Good x:=by
 refine ⟨rg,fun g hg=>(h.right g hg).1,fun g hg e he=>?_⟩
 have hme:e∈Zq x:=List.mem_flatten.2 ⟨g.ents,List.mem_map.2 ⟨g,hg,rfl⟩,he⟩
 have h1:=h.range e.slot (List.mem_append_left _ (List.mem_map.2 ⟨e,hme,rfl⟩))
 have h2:=h.gen e hme
 have hv:genAt x e.slot∈x.gens:=by
  unfold genAt
  rw [List.getD_eq_getElem?_getD,List.getElem?_eq_getElem (by omega)]
  exact List.getElem_mem _
 have h3:=(h.gens _ hv).1
 omega
end Go.Gv.F
namespace Go.Gv.F
open Go.Gv
abbrev entTy:Ty:= .pr (.pr (.i .i64) (.pr (.i .i64) .un)) (.pr (.i .i64) (.pr (.i .i64) .un))
abbrev ZnP:Ty:= .pr .s (.pr (.sl entTy) .un)
abbrev stTy:Ty:= .pr (.pr (.i .i64) (.pr (.i .i64) (.pr (.i .i64) .un))) (.pr (.sl ZnP) (.pr (.sl (.i .i64)) (.pr (.sl (.i .i64)) .un)))
def EntR (e:EntV):Prop:=InR e.slot∧InR e.gen∧InR e.key∧InR e.value
theorem Zzh {s:St} {cs:List DV} (h:Rd s entTy cs): ∃e,cs=entC e∧EntR e:=by
 obtain ⟨_,_,rfl,⟨_,_,rfl,⟨h1,rfl,b1,b2⟩,⟨_,_,rfl,⟨h2,rfl,c1,c2⟩,hu⟩⟩,⟨_,_,rfl,⟨ky,rfl,d1,d2⟩,⟨_,_,rfl,⟨vl,rfl,e1,e2⟩,hu2⟩⟩⟩:=h
 cases hu
 cases hu2
 exact ⟨⟨h1,h2,ky,vl⟩,rfl,ZcS ⟨b1,b2⟩,ZcS ⟨c1,c2⟩,ZcS ⟨d1,d2⟩,ZcS ⟨e1,e2⟩⟩
theorem ZtU {s:St} : ∀(n:Nat) (cs:List DV),cs.length=n*4→(∀j,j<n→Rd s entTy ((cs.drop (j*4)).take 4))→∃l:List EntV,l.length=n∧cs=entsC l∧∀e∈l,EntR e
 |0,cs,hl,_=>⟨[],rfl,List.eq_nil_of_length_eq_zero (by omega),fun x hx=>by cases hx⟩
 |n+1,cs,hl,h=>by
  have h0:=h 0 (by omega)
  rw [Nat.zero_mul,List.drop_zero] at h0
  obtain ⟨x,e,hr⟩:=Zzh h0
  obtain ⟨xs,g1,g2,g3⟩:=ZtU (s:=s) n (cs.drop 4) (by rw [List.length_drop];omega) fun j hj=>by
   have:=h (j+1) (by omega)
   rw [List.drop_drop,show 4+j*4=(j+1)*4 by omega]
   exact this
  refine ⟨x::xs,by simp [g1],?_,fun y hy=>?_⟩
  ·have e2:entsC (x::xs)=entC x++entsC xs:=rfl
   rw [e2,←g2,←e,List.take_append_drop]
  ·rcases List.mem_cons.1 hy with rfl|hy
   ·exact hr
   ·exact g3 y hy
theorem ZyR {s:St} {d:DV} (h:Rd s (.sl entTy) [d]): ∃p l,d= .slice 4 p (List.length l)∧Sl s p (entsC l)∧∀e∈l,EntR e:=by
 rcases h with h|⟨i,n,cs,h1,h2,h3,_,h5⟩
 ·exact ⟨none,[],(List.cons.inj h).1,rfl,fun x hx=>by cases hx⟩
 ·obtain ⟨xs,g1,rfl,g3⟩:=ZtU n cs h3 h5
  refine ⟨some (i,0),xs,?_,⟨true,_,h2,by simp,by rw [List.drop_zero,List.take_length]⟩,g3⟩
  rw [(List.cons.inj h1).1,g1]
  rfl
theorem Zyr {s:St} {cs:List DV} (h:Rd s ZnP cs): ∃g p,cs=heapZ g 4 p∧Sl s p (entsC g.ents)∧∀e∈g.ents,EntR e:=by
 obtain ⟨_,_,rfl,⟨nm,rfl,_⟩,⟨l,_,rfl,hl,hu2⟩⟩:=h
 cases hu2
 have hlen:=hl.len
 obtain ⟨d,rfl⟩: ∃d,l=[d]:=List.length_eq_one_iff.1 hlen
 obtain ⟨p,li,rfl,hs,hr⟩:=ZyR hl
 exact ⟨⟨nm,li⟩,p,rfl,hs,hr⟩
theorem Zqs {s:St} : ∀(n:Nat) (cs:List DV),cs.length=n*2→(∀j,j<n→Rd s ZnP ((cs.drop (j*2)).take 2))→∃l:List HeapV,l.length=n∧Heaps s cs l∧∀g∈l,∀e∈g.ents,EntR e
 |0,cs,hl,_=>⟨[],rfl,List.eq_nil_of_length_eq_zero (by omega),fun x hx=>by cases hx⟩
 |n+1,cs,hl,h=>by
  have h0:=h 0 (by omega)
  rw [Nat.zero_mul,List.drop_zero] at h0
  obtain ⟨x,p,e,hs,hr⟩:=Zyr h0
  obtain ⟨xs,g1,g2,g3⟩:=Zqs (s:=s) n (cs.drop 2) (by rw [List.length_drop];omega) fun j hj=>by
   have:=h (j+1) (by omega)
   rw [List.drop_drop,show 2+j*2=(j+1)*2 by omega]
   exact this
  refine ⟨x::xs,by simp [g1],⟨4,p,cs.drop 2,.inl rfl,by rw [←e,List.take_append_drop],hs,g2⟩,fun y hy=>?_⟩
  rcases List.mem_cons.1 hy with rfl|hy
  ·exact hr
  ·exact g3 y hy
theorem Zxa {s:St} {d:DV} (h:Rd s (.sl ZnP) [d]): ∃p xs ds,d= .slice 2 p (List.length xs)∧Sl s p ds∧Heaps s ds xs∧∀g∈xs,∀e∈g.ents,EntR e:=by
 rcases h with h|⟨i,n,cs,h1,h2,h3,_,h5⟩
 ·exact ⟨none,[],[],(List.cons.inj h).1,rfl,rfl,fun x hx=>by cases hx⟩
 ·obtain ⟨xs,g1,g2,g3⟩:=Zqs n cs h3 h5
  refine ⟨some (i,0),xs,cs,?_,⟨true,cs,h2,by simp,by rw [List.drop_zero,List.take_length]⟩,g2,g3⟩
  rw [(List.cons.inj h1).1,g1]
  rfl
theorem rd_st {s:St} {cs:List DV} (h:Rd s stTy cs): ∃x z1 p1 z2 p2 z3 p3,cs=stC x z1 p1 z2 p2 z3 p3∧(z1=2∨p1=none)∧(z2=1∨p2=none)∧(z3=1∨p3=none)∧StR s x p1 p2 p3∧RngS x:=by
 obtain ⟨_,_,rfl,⟨_,_,rfl,⟨b,rfl,a1,a2⟩,⟨_,_,rfl,⟨sl,rfl,b1,b2⟩,⟨_,_,rfl,⟨g,rfl,c1,c2⟩,hu⟩⟩⟩,⟨l1,_,rfl,hl1,⟨l2,_,rfl,hl2,⟨l3,_,rfl,hl3,hu2⟩⟩⟩⟩:=h
 cases hu
 cases hu2
 obtain ⟨d1,rfl⟩: ∃d,l1=[d]:=List.length_eq_one_iff.1 hl1.len
 obtain ⟨d2,rfl⟩: ∃d,l2=[d]:=List.length_eq_one_iff.1 hl2.len
 obtain ⟨d3,rfl⟩: ∃d,l3=[d]:=List.length_eq_one_iff.1 hl3.len
 obtain ⟨p1,hs,ds,rfl,f1,f2,f3⟩:=Zxa hl1
 obtain ⟨p2,gs,⟨z2,hz2,rfl⟩,g1,g2⟩:=ZuV hl2
 obtain ⟨p3,fs,⟨z3,hz3,rfl⟩,k1,k2⟩:=ZuV hl3
 exact ⟨⟨b,sl,g,hs,gs,fs⟩,2,p1,z2,p2,z3,p3,rfl,.inl rfl,hz2,hz3,⟨⟨ds,f1,f2⟩,g1,k1⟩,⟨ZcS ⟨a1,a2⟩,ZcS ⟨b1,b2⟩,ZcS ⟨c1,c2⟩,g2,k2,f3⟩⟩
structure SmallP (x:StV):Prop where
 h:x.heaps.length≤8
 g:x.gens.length≤60
 f:x.free.length≤60
 b:x.blocks≤400
 hs: ∀h∈x.heaps,h.ents.length≤40∧h.name.length≤60
theorem Zlf: ∀(l:List HeapV),(∀h∈l,h.ents.length≤40)→(ZQ l).length≤l.length*40
 |[],_=>Nat.le_refl _
 |g::l,h=>by
  have e:ZQ (g::l)=g.ents++ZQ l:=rfl
  have h1:=h g List.mem_cons_self
  have h2:=Zlf l fun x hx=>h x (List.mem_cons_of_mem _ hx)
  rw [e,List.length_append,List.length_cons]
  omega
theorem SmallP.sz {x:StV} (h:SmallP x):SzS x:=by
 have h1:=Zlf x.heaps fun g hg=>(h.hs g hg).1
 have h2:=h.h
 have h3:=h.g
 have h4:=h.f
 exact ⟨⟨by omega,fun g hg=>by have:=(h.hs g hg).1;omega,fun g hg=>by have:=(h.hs g hg).2;omega⟩,by rw [Zhy];omega,by omega,by omega⟩
theorem ZjZ {Bd:Za} (h:Zha Bd) (n:Nat) (x:StV) (z1 z2 z3:Nat) (p1 p2 p3:Option (Nat×Nat)) (st:St) (hz1:z1=2∨p1=none) (hz2:z2=1∨p2=none) (hz3:z3=1∨p3=none) (hr:StR st x p1 p2 p3) (hn:20≤n):
  Ok (fun o=>∃b,o=(.val [.bool b],st)∧(b=true↔SmallP x)) (run Bd n 138 [.agg (stC x z1 p1 z2 p2 z3 p3)] st):=by
 obtain ⟨n,rfl⟩: ∃m,n=m+1:=⟨n-1,by omega⟩
 rw [Zf,h.eq]
 unfold Zeq
 have ag: ∀(l:List DV) (K:List DV→List DV→M (List DV)),J.a (.agg (stC x z1 p1 z2 p2 z3 p3)::l) K=K (stC x z1 p1 z2 p2 z3 p3) l:=fun _ _=>rfl
 rw [ag]
 unfold stC
 simp only [J_i,Zm 2 z1 p1 _ hz1,Zm 1 z2 p2 _ hz2,Zm 1 z3 p3 _ hz3,D_nil]
 have no: ¬SmallP x→Ok (fun o=>∃b,o=(.val [.bool b],st)∧(b=true↔SmallP x)) ((M.ret [.bool false]:M (List DV)) st):=by
  intro hm
  rw [Zc]
  exact .mk ⟨false,rfl,by simp [hm]⟩
 rw [Zb]
 by_cases d1:(x.heaps.length:Int)>8
 ·rw [decide_eq_true d1,cond_true]
  simp only [J_b,D_nil]
  rw [Zb,cond_true]
  simp only [J_b,D_nil]
  rw [Zb,cond_true]
  simp only [J_b,D_nil]
  rw [cond_true]
  exact no fun hh=>by have:=hh.h;omega
 rw [decide_eq_false d1,cond_false]
 simp only [J_b,D_nil]
 rw [Zb]
 by_cases d2:(x.gens.length:Int)>60
 ·rw [decide_eq_true d2,cond_true]
  simp only [J_b,D_nil]
  rw [Zb,cond_true]
  simp only [J_b,D_nil]
  rw [cond_true]
  exact no fun hh=>by have:=hh.g;omega
 rw [decide_eq_false d2,cond_false]
 simp only [J_b,D_nil]
 rw [Zb]
 by_cases d3:(x.free.length:Int)>60
 ·rw [decide_eq_true d3,cond_true]
  simp only [J_b,D_nil]
  rw [cond_true]
  exact no fun hh=>by have:=hh.f;omega
 rw [decide_eq_false d3,cond_false]
 simp only [J_b,D_nil]
 by_cases d4:x.blocks>400
 ·rw [decide_eq_true d4,cond_true]
  exact no fun hh=>by have:=hh.b;omega
 rw [decide_eq_false d4,cond_false,Zb]
 obtain ⟨ds,hs,hh⟩:=hr.hp
 refine Zl _ (fun q y s=>∃i:Nat,y=[.int .i64 i]∧i≤x.heaps.length∧x.heaps.length-i≤q∧s=st∧∀j g,j<i→x.heaps[j]? =some g→g.ents.length≤40∧g.name.length≤60) ?_ x.heaps.length n _ _ ⟨0,rfl,Nat.zero_le _,by omega,rfl,fun j g hj=>absurd hj (Nat.not_lt_zero j)⟩ (by omega)
 rintro q _ s ⟨i,rfl,hi,hq,rfl,hall⟩ rec hrec
 simp only [J_i,D_nil]
 by_cases hlt:i<x.heaps.length
 ·obtain ⟨i1,o1,rfl⟩:=hs.some_of (by rw [hh.len];omega)
  have hg:x.heaps[i]? =some x.heaps[i]:=List.getElem?_eq_getElem hlt
  generalize x.heaps[i]=g at hg
  obtain ⟨pe,hfe,le⟩:=ZgK (β:=List DV) hs hh hg
  rw [decide_eq_true (show (i:Int)<(x.heaps.length:Int) by omega),cond_true,nn_some',Zd (Zk hlt),Int.toNat_natCast,le,Zb]
  by_cases d5:(g.ents.length:Int)>40
  ·rw [decide_eq_true d5,cond_true]
   simp only [J_b,D_nil]
   rw [cond_true]
   exact no fun hh=>by have:=(hh.hs g (List.mem_of_getElem? hg)).1;omega
  rw [decide_eq_false d5,cond_false,nn_some',Zd (Zk hlt),ZdI hs hh hg]
  simp only [D_str,J_b,D_nil]
  by_cases d6:(g.name.length:Int)>60
  ·rw [decide_eq_true d6,cond_true]
   exact no fun hh=>by have:=(hh.hs g (List.mem_of_getElem? hg)).2;omega
  ·rw [decide_eq_false d6,cond_false,Ze (by omega) (by omega)]
   refine hrec (x.heaps.length-(i+1)) _ _ (by omega) ⟨i+1,rfl,by omega,by omega,rfl,fun j g' hj e=>?_⟩
   by_cases hji:j<i
   ·exact hall j g' hji e
   ·have:j=i:=by omega
    subst this
    rw [hg] at e
    cases e
    omega
 ·rw [decide_eq_false (show ¬(i:Int)<(x.heaps.length:Int) by omega),cond_false,Zc]
  refine .mk ⟨true,rfl,?_⟩
  simp only [true_iff]
  refine ⟨by omega,by omega,by omega,by omega,fun g hg=>?_⟩
  obtain ⟨j,hj,rfl⟩:=List.getElem_of_mem hg
  exact hall j _ (by omega) (List.getElem?_eq_getElem hj)
end Go.Gv.F
namespace Go.Gv.F
open Go.Gv
theorem Ziz {Bd:Za} (h:ZfA Bd) (n za zb:Nat) (l m:List EntV) (p q:Option (Nat×Nat)) (st:St) (hza:za=4∨p=none) (hzb:zb=4∨q=none) (hp:Sl st p (entsC l)) (hq:Sl st q (entsC m)) (hl:l.length≤50000) (hn:50100≤n):
  Ok (fun o=>∃b,o=(.val [.bool b],st)∧(b=true↔l=m)) (run Bd n 153 [.slice za p l.length,.slice zb q m.length] st):=by
 obtain ⟨n,rfl⟩: ∃m,n=m+1:=⟨n-1,by omega⟩
 rw [Zf,h.eq]
 unfold Zbl
 simp only [Zm 4 za p _ hza,Zm 4 zb q _ hzb,D_nil]
 have no:l≠m→Ok (fun o=>∃b,o=(.val [.bool b],st)∧(b=true↔l=m)) ((M.ret [.bool false]:M (List DV)) st):=by
  intro hm
  rw [Zc]
  exact .mk ⟨false,rfl,by simp [hm]⟩
 by_cases hlm:l.length=m.length
 rotate_left
 ·rw [show ((l.length:Int)==(m.length:Int))=false from beq_eq_false_iff_ne.2 (by omega),Bool.not_false,cond_true]
  exact no fun e=>hlm (by rw [e])
 rw [show ((l.length:Int)==(m.length:Int))=true by rw [hlm];exact beq_self_eq_true _,Bool.not_true,cond_false,Zb]
 refine Zl _ (fun k y s=>∃i:Nat,y=[.int .i64 i]∧i≤l.length∧l.length-i≤k∧s=st∧∀j,j<i→l[j]? =m[j]?) ?_ l.length n _ _ ⟨0,rfl,Nat.zero_le _,by omega,rfl,fun j hj=>absurd hj (Nat.not_lt_zero j)⟩ (by omega)
 rintro k _ s ⟨i,rfl,hi,hk,rfl,hall⟩ rec hrec
 simp only [J_i,D_nil]
 by_cases hlt:i<l.length
 ·obtain ⟨i1,o1,rfl⟩:=hp.some_of (by rw [Zv];omega)
  obtain ⟨i2,o2,rfl⟩:=hq.some_of (by rw [Zv];omega)
  have e1:l[i]? =some l[i]:=List.getElem?_eq_getElem hlt
  have e2:m[i]? =some m[i]:=List.getElem?_eq_getElem (by omega)
  generalize l[i]=a at e1
  generalize m[i]=b at e2
  rw [decide_eq_true (show (i:Int)<(l.length:Int) by omega),cond_true,nn_some',Zd (Zk hlt),Int.toNat_natCast,Zh5 hp e1]
  unfold entC
  simp only [J_i,D_nil]
  rw [nn_some',Zd (Zk (by omega)),Zh5 hq e2]
  unfold entC
  simp only [J_i,D_nil]
  have hiff:((a.slot==b.slot)&&((a.gen==b.gen)&&((a.key==b.key)&&((a.value==b.value)&&true))))=true↔a=b:=by
   simp only [Bool.and_true,Bool.and_eq_true,beq_iff_eq]
   constructor
   ·rintro ⟨h1,h2,h3,h4⟩
    cases a;cases b
    simp only at h1 h2 h3 h4
    subst h1 h2 h3 h4
    rfl
   ·rintro rfl
    exact ⟨rfl,rfl,rfl,rfl⟩
  cases hb:((a.slot==b.slot)&&((a.gen==b.gen)&&((a.key==b.key)&&((a.value==b.value)&&true)))) with
  |false=>
   rw [Bool.not_false,cond_true]
   refine no fun e=>?_
   rw [←e,e1] at e2
   cases e2
   rw [hiff.2 rfl] at hb
   cases hb
  |true=>
   have:=hiff.1 hb
   subst this
   rw [Bool.not_true,cond_false,Ze (by omega) (by omega)]
   refine hrec (l.length-(i+1)) _ _ (by omega) ⟨i+1,rfl,by omega,by omega,rfl,fun j hj=>?_⟩
   by_cases hji:j<i
   ·exact hall j hji
   ·have:j=i:=by omega
    subst this
    rw [e1,e2]
 ·rw [decide_eq_false (show ¬(i:Int)<(l.length:Int) by omega),cond_false,Zc]
  refine .mk ⟨true,rfl,?_⟩
  simp only [true_iff]
  refine List.ext_getElem? fun j=>?_
  by_cases hj:j<i
  ·exact hall j hj
  ·rw [List.getElem?_eq_none (by omega),List.getElem?_eq_none (by omega)]
theorem ZjR {Bd:Za} (h:Zh7 Bd) (n:Nat) (ws vs:List Int) (a b:Option (Nat×Nat)) (st:St) (ha:Sl st a (ints ws)) (hb:Sl st b (ints vs)) (hn:50100≤n) (hs:ws.length≤50000):
  Ok (fun o=>o=(.val [.bool (decide (ws=vs))],st)) (run Bd n 113 [.slice 1 a ws.length,.slice 1 b vs.length] st):=by
 obtain ⟨n,rfl⟩: ∃m,n=m+1:=⟨n-1,by omega⟩
 rw [Zf,h.eq]
 exact Zu1 _ n ws vs 1 1 a b st (.inl rfl) (.inl rfl) ha hb (by omega) (by omega)
theorem Zr6 {Bd:Za} (h:Zir Bd) (n:Nat) (x y:StV) (z1 z2 z3:Nat) (p1 p2 p3:Option (Nat×Nat)) (z1' z2' z3':Nat) (q1 q2 q3:Option (Nat×Nat)) (st:St) (hz1:z1=2∨p1=none) (hz2:z2=1∨p2=none) (hz3:z3=1∨p3=none)
  (hz1':z1'=2∨q1=none) (hz2':z2'=1∨q2=none) (hz3':z3'=1∨q3=none) (hx:StR st x p1 p2 p3) (hy:StR st y q1 q2 q3) (sz:SzS x) (hn:50200≤n):
  Ok (fun o=>∃b,o=(.val [.bool b],st)∧(b=true↔x=y)) (run Bd n 136 [.agg (stC x z1 p1 z2 p2 z3 p3),.agg (stC y z1' q1 z2' q2 z3' q3)] st):=by
 obtain ⟨n,rfl⟩: ∃m,n=m+1:=⟨n-1,by omega⟩
 rw [Zf,h.eq]
 unfold Ze4
 have ag: ∀(v:StV) (z1 z2 z3:Nat) (p1 p2 p3:Option (Nat×Nat)) (l:List DV) (K:List DV→List DV→M (List DV)),J.a (.agg (stC v z1 p1 z2 p2 z3 p3)::l) K=K (stC v z1 p1 z2 p2 z3 p3) l:=fun _ _ _ _ _ _ _ _ _=>rfl
 simp only [ag]
 unfold stC
 simp only [J_i,Zm 2 z1 p1 _ hz1,Zm 1 z2 p2 _ hz2,Zm 1 z3 p3 _ hz3,Zm 2 z1' q1 _ hz1',Zm 1 z2' q2 _ hz2',Zm 1 z3' q3 _ hz3',D_nil]
 have no:x≠y→Ok (fun o=>∃b,o=(.val [.bool b],st)∧(b=true↔x=y)) ((M.ret [.bool false]:M (List DV)) st):=by
  intro hm
  rw [Zc]
  exact .mk ⟨false,rfl,by simp [hm]⟩
 rw [Zb]
 have hg:((x.blocks==y.blocks)&&((x.slots==y.slots)&&((x.g==y.g)&&true)))=true↔x.blocks=y.blocks∧x.slots=y.slots∧x.g=y.g:=by
  simp only [Bool.and_true,Bool.and_eq_true,beq_iff_eq]
 cases hgb:((x.blocks==y.blocks)&&((x.slots==y.slots)&&((x.g==y.g)&&true))) with
 |false=>
  rw [Bool.not_false,cond_true]
  simp only [J_b,D_nil]
  rw [Zb,cond_true]
  simp only [J_b,D_nil]
  rw [Zb,cond_true]
  simp only [J_b,D_nil]
  rw [cond_true]
  refine no fun e=>?_
  rw [hg.2 ⟨by rw [e],by rw [e],by rw [e]⟩] at hgb
  cases hgb
 |true=>
 have hgeo:=hg.1 hgb
 rw [Bool.not_true,cond_false]
 simp only [J_b,D_nil]
 rw [Zb]
 by_cases hlen:x.heaps.length=y.heaps.length
 rotate_left
 ·rw [show ((x.heaps.length:Int)==(y.heaps.length:Int))=false from beq_eq_false_iff_ne.2 (by omega),Bool.not_false,cond_true]
  simp only [J_b,D_nil]
  rw [Zb,cond_true]
  simp only [J_b,D_nil]
  rw [cond_true]
  exact no fun e=>hlen (by rw [e])
 rw [show ((x.heaps.length:Int)==(y.heaps.length:Int))=true by rw [hlen];exact beq_self_eq_true _,Bool.not_true,cond_false]
 refine Ok.call (ZjR h.q92 n x.gens y.gens p2 q2 st hx.gn hy.gn (by omega) sz.g) ?_
 rintro _ rfl
 refine ⟨_,st,rfl,?_⟩
 simp only [J_b,D_nil]
 rw [Zb]
 by_cases hgn:x.gens=y.gens
 rotate_left
 ·rw [decide_eq_false hgn,Bool.not_false,cond_true]
  simp only [J_b,D_nil]
  rw [cond_true]
  exact no fun e=>hgn (by rw [e])
 rw [decide_eq_true hgn,Bool.not_true,cond_false]
 refine Ok.call (ZjR h.q92 n x.free y.free p3 q3 st hx.fr hy.fr (by omega) sz.f) ?_
 rintro _ rfl
 refine ⟨_,st,rfl,?_⟩
 simp only [J_b,D_nil]
 by_cases hfr:x.free=y.free
 rotate_left
 ·rw [decide_eq_false hfr,Bool.not_false,cond_true]
  exact no fun e=>hfr (by rw [e])
 rw [decide_eq_true hfr,Bool.not_true,cond_false,Zb]
 obtain ⟨ds,hs,hh⟩:=hx.hp
 obtain ⟨es,gs,gh⟩:=hy.hp
 have hsl:=sz.h.len
 refine Zl _ (fun k v s=>∃i:Nat,v=[.int .i64 i]∧i≤x.heaps.length∧x.heaps.length-i≤k∧s=st∧∀j,j<i→x.heaps[j]? =y.heaps[j]?) ?_ x.heaps.length n _ _ ⟨0,rfl,Nat.zero_le _,by omega,rfl,fun j hj=>absurd hj (Nat.not_lt_zero j)⟩ (by omega)
 rintro k _ s ⟨i,rfl,hi,hk,rfl,hall⟩ rec hrec
 simp only [J_i,D_nil]
 by_cases hlt:i<x.heaps.length
 ·obtain ⟨i1,o1,rfl⟩:=hs.some_of (by rw [hh.len];omega)
  obtain ⟨i2,o2,rfl⟩:=gs.some_of (by rw [gh.len];omega)
  have e1:x.heaps[i]? =some x.heaps[i]:=List.getElem?_eq_getElem hlt
  have e2:y.heaps[i]? =some y.heaps[i]:=List.getElem?_eq_getElem (by omega)
  generalize x.heaps[i]=a at e1
  generalize y.heaps[i]=b at e2
  have hae:=sz.h.ents a (List.mem_of_getElem? e1)
  have noab:a≠b→x≠y:=fun hab e=>by
   rw [←e,e1] at e2
   cases e2
   exact hab rfl
  rw [decide_eq_true (show (i:Int)<(x.heaps.length:Int) by omega),cond_true,nn_some',Zd (Zk hlt),Int.toNat_natCast,ZdI hs hh e1]
  simp only [D_str]
  rw [nn_some',Zd (Zk (by omega)),ZdI gs gh e2]
  simp only [D_str]
  rw [Zb]
  by_cases hnm:a.name=b.name
  rotate_left
  ·rw [show (a.name==b.name)=false from beq_eq_false_iff_ne.2 hnm,Bool.not_false,cond_true]
   simp only [J_b,D_nil]
   rw [cond_true]
   exact no (noab fun e=>hnm (by rw [e]))
  obtain ⟨pa,hpa,la⟩:=ZgK (β:=List DV) hs hh e1
  obtain ⟨pb,hpb,lb⟩:=ZgK (β:=List DV) gs gh e2
  rw [show (a.name==b.name)=true by rw [hnm];exact beq_self_eq_true _,Bool.not_true,cond_false,nn_some',Zd (Zk hlt),la,nn_some',Zd (Zk (by omega)),lb]
  refine Ok.call (Ziz h.q42 n 4 4 a.ents b.ents pa pb s (.inl rfl) (.inl rfl) hpa hpb hae (by omega)) ?_
  rintro _ ⟨c,rfl,hc⟩
  refine ⟨_,s,rfl,?_⟩
  simp only [J_b,D_nil]
  cases c with
  |false=>
   rw [Bool.not_false,cond_true]
   exact no (noab fun e=>by cases hc.2 (by rw [e]))
  |true=>
   have hab:a=b:=by
    have:=hc.1 rfl
    cases a;cases b
    simp only at hnm this
    subst hnm this
    rfl
   rw [Bool.not_true,cond_false,Ze (by omega) (by omega)]
   refine hrec (x.heaps.length-(i+1)) _ _ (by omega) ⟨i+1,rfl,by omega,by omega,rfl,fun j hj=>?_⟩
   by_cases hji:j<i
   ·exact hall j hji
   ·have:j=i:=by omega
    subst this
    rw [e1,e2,hab]
 ·rw [decide_eq_false (show ¬(i:Int)<(x.heaps.length:Int) by omega),cond_false,Zc]
  refine .mk ⟨true,rfl,?_⟩
  simp only [true_iff]
  have hhp:x.heaps=y.heaps:=List.ext_getElem? fun j=>by
   by_cases hj:j<i
   ·exact hall j hj
   ·rw [List.getElem?_eq_none (by omega),List.getElem?_eq_none (by omega)]
  cases x;cases y
  simp only at hgeo hgn hfr hhp
  obtain ⟨h1,h2,h3⟩:=hgeo
  subst h1 h2 h3 hgn hfr hhp
  rfl
end Go.Gv.F
