/- The text of a state: the program's and the document's. -/
import Derived.Test.YtegglibipjjblaaGreatDoorGvZPf
namespace Go.Gv.F
open Go.Gv
variable {β:Type}
theorem Ok.callX {α:Type} {P:Out α×St→Prop} {Q:Out β×St→Prop} {m:M α} {K:α→M β} {s:St} (h:Ok P (m s)) (k: ∀o,P o→∃ds s',o=(.val ds,s')∧Pre s s'∧Ok Q (K ds s')):Ok Q (M.callX m K s):=by
 obtain ⟨o,e,p⟩:=h
 obtain ⟨ds,s',rfl,hp,hq⟩:=k o p
 rw [Zdd e hp];exact hq
end Go.Gv.F
namespace Go.Gv.F
open Go.Gv
variable {β:Type}
end Go.Gv.F
namespace Go.Gv.F
open Go.Gv
variable {β:Type}
def But (j:Option (Nat×Nat)) (s s':St):Prop:=∀(i:Nat) (b:Option Blk),s[i]? =some b→(∀o,j≠some (i,o))→s'[i]? =some b
theorem But.pre {s s':St} (j:Option (Nat×Nat)) (h:Pre s s'):But j s s':=fun _ _ e _=>h.get e
theorem But.set (s:St) (r o:Nat) (b:Option Blk):But (some (r,o)) s (s.set r b):=by
 intro i b' e hne
 have:r≠i:=by rintro rfl;exact hne o rfl
 rw [List.getElem?_set_ne this];exact e
theorem But.trans {j:Option (Nat×Nat)} {a b c:St} (h:But j a b) (k:But j b c):But j a c:=fun i x e hne=>k i x (h i x e hne) hne
theorem Own.push3 {s0 s:St} {a:Option (Nat×Nat)} {cs:List DV} (h:Own s0 s a cs) {sz n lim:Nat} (ds:List DV) (hz:0<sz) (hn:cs.length=n*sz) (hd:ds.length=sz) (hl:n+1≤lim):
  ∃i s',s.length≤i∧Own s0 s' (some (i,0)) (cs++ds)∧Kp s s'∧But a s s'∧∀K:Option (Nat×Nat)→M β,(M.new ds fun i=>M.load i 0 sz fun cs'=>M.app sz a n cs' 1 lim K) s=K (some (i,0)) s':=by
 have hb:Nat.beq 1 0=false:=rfl
 rcases h.2 with ⟨rfl,rfl⟩|⟨i,rfl,hi,hs⟩
 ·have h0:n=0:=by
   rcases Nat.mul_eq_zero.1 (show n*sz=0 by simpa using hn.symm) with h|h
   ·exact h
   ·omega
  subst h0
  refine ⟨s.length+1,s++[some (⟨false,ds⟩:Blk)]++[some (⟨false,ds⟩:Blk)],by omega,⟨h.1.trans ((Pre.new _ _).trans (.new _ _)),.inr ⟨s.length+1,rfl,by have:=h.1.len;omega,?_⟩⟩,((Pre.new _ _).trans (.new _ _)).kp,But.pre _ ((Pre.new _ _).trans (.new _ _)),fun K=>?_⟩
  ·rw [List.getElem?_append_right (by simp)];simp
  ·rw [Zx,Z9 (f:=false) (all:=ds) (by simp) (by omega),List.drop_zero,List.take_of_length_le (by omega)]
   unfold M.app
   simp only [hb,Nat.ble_eq_true_of_le hl,cond_true,cond_false]
   simp
 ·have hil:i<s.length:=(List.getElem?_eq_some_iff.1 hs).1
  have hs2:(s++[some (⟨false,ds⟩:Blk)])[i]? =some (some (⟨false,cs⟩:Blk)):=by rw [List.getElem?_append_left hil];exact hs
  have hop:(s++[some (⟨false,ds⟩:Blk)]).open? i=some cs:=by unfold St.open?;rw [hs2]
  refine ⟨s.length+1,(s++[some (⟨false,ds⟩:Blk)]).set i none++[some (⟨false,cs++ds⟩:Blk)],by omega,⟨(Ze0 (h.1.trans (.new _ _)) hi none).trans (.new _ _),.inr ⟨s.length+1,rfl,by have:=h.1.len;omega,?_⟩⟩,(Pre.new _ _).kp.trans ((Kp.set hs2 none).trans (Pre.new _ _).kp),(But.pre _ (Pre.new _ _)).trans ((But.set _ i 0 none).trans (But.pre _ (Pre.new _ _))),fun K=>?_⟩
  ·rw [List.getElem?_append_right (by simp)];simp
  ·rw [Zx,Z9 (f:=false) (all:=ds) (by simp) (by omega),List.drop_zero,List.take_of_length_le (by omega)]
   unfold M.app
   simp only [hb,Nat.ble_eq_true_of_le hl,cond_true,cond_false,hop]
   rw [Nat.zero_add,Nat.ble_eq_true_of_le (by omega)]
   simp only [cond_true,List.drop_zero]
   rw [List.take_of_length_le (by omega)]
   simp
end Go.Gv.F
namespace Go.Gv.F
open Go.Gv
variable {β:Type}
end Go.Gv.F
namespace Go.Gv.F
open Go.Gv
variable {β:Type}
end Go.Gv.F
namespace Go.Gv.F
open Go.Gv
end Go.Gv.F
namespace Go.Gv.F
open Go.Gv
def EntR (e:EntV):Prop:=InR e.slot∧InR e.gen∧InR e.key∧InR e.value
end Go.Gv.F
namespace Go.Gv.F
open Go.Gv
theorem Znz {Bd:Za} (h:Zn5 Bd) (n za zb:Nat) (l m:List EntV) (p q:Option (Nat×Nat)) (st:St) (hza:za=4∨p=none) (hzb:zb=4∨q=none) (hp:Sl st p (entsC l)) (hq:Sl st q (entsC m)) (hl:l.length≤50000) (hn:50100≤n):
  Ok (fun o=>∃b,o=(.val [.bool b],st)∧(b=true↔l=m)) (run Bd n 153 [.slice za p l.length,.slice zb q m.length] st):=by
 obtain ⟨n,rfl⟩: ∃m,n=m+1:=⟨n-1,by omega⟩
 rw [Zf,h.eq]
 unfold Zcr
 simp only [Zm 4 za p _ hza,Zm 4 zb q _ hzb,D_nil]
 have no:l≠m→Ok (fun o=>∃b,o=(.val [.bool b],st)∧(b=true↔l=m)) ((M.ret [.bool false]:M (List DV)) st):=by
  intro hm
  rw [Zb]
  exact .mk ⟨false,rfl,by simp [hm]⟩
 by_cases hlm:l.length=m.length
 rotate_left
 ·rw [show ((l.length:Int)==(m.length:Int))=false from beq_eq_false_iff_ne.2 (by omega),Bool.not_false,cond_true]
  exact no fun e=>hlm (by rw [e])
 rw [show ((l.length:Int)==(m.length:Int))=true by rw [hlm];exact beq_self_eq_true _,Bool.not_true,cond_false,Zc]
 refine Zl _ (fun k y s=>∃i:Nat,y=[.int .i64 i]∧i≤l.length∧l.length-i≤k∧s=st∧∀j,j<i→l[j]? =m[j]?) ?_ l.length n _ _ ⟨0,rfl,Nat.zero_le _,by omega,rfl,fun j hj=>absurd hj (Nat.not_lt_zero j)⟩ (by omega)
 rintro k _ s ⟨i,rfl,hi,hk,rfl,hall⟩ rec hrec
 simp only [J_i,D_nil]
 by_cases hlt:i<l.length
 ·obtain ⟨i1,o1,rfl⟩:=hp.some_of (by rw [Zv];omega)
  obtain ⟨i2,o2,rfl⟩:=hq.some_of (by rw [Zv];omega)
  have e1:l[i]? =some l[i]:=List.getElem?_eq_getElem hlt
  have e2:m[i]? =some m[i]:=List.getElem?_eq_getElem (by omega)
  generalize l[i]=a at e1
  generalize m[i]=b at e2
  rw [decide_eq_true (show (i:Int)<(l.length:Int) by omega),cond_true,nn_some',Ze (Zk hlt),Int.toNat_natCast,ZeV hp e1]
  unfold entC
  simp only [J_i,D_nil]
  rw [nn_some',Ze (Zk (by omega)),ZeV hq e2]
  unfold entC
  simp only [J_i,D_nil]
  have hiff:((a.slot==b.slot)&&((a.gen==b.gen)&&((a.key==b.key)&&((a.value==b.value)&&true))))=true↔a=b:=by
   simp only [Bool.and_true,Bool.and_eq_true,beq_iff_eq]
   constructor
   ·rintro ⟨h1,h2,h3,h4⟩
    cases a;cases b
    simp only at h1 h2 h3 h4
    subst h1 h2 h3 h4
    rfl
   ·rintro rfl
    exact ⟨rfl,rfl,rfl,rfl⟩
  cases hb:((a.slot==b.slot)&&((a.gen==b.gen)&&((a.key==b.key)&&((a.value==b.value)&&true)))) with
  |false=>
   rw [Bool.not_false,cond_true]
   refine no fun e=>?_
   rw [←e,e1] at e2
   cases e2
   rw [hiff.2 rfl] at hb
   cases hb
  |true=>
   have:=hiff.1 hb
   subst this
   rw [Bool.not_true,cond_false,Zd (by omega) (by omega)]
   refine hrec (l.length-(i+1)) _ _ (by omega) ⟨i+1,rfl,by omega,by omega,rfl,fun j hj=>?_⟩
   by_cases hji:j<i
   ·exact hall j hji
   ·have:j=i:=by omega
    subst this
    rw [e1,e2]
 ·rw [decide_eq_false (show ¬(i:Int)<(l.length:Int) by omega),cond_false,Zb]
  refine .mk ⟨true,rfl,?_⟩
  simp only [true_iff]
  refine List.ext_getElem? fun j=>?_
  by_cases hj:j<i
  ·exact hall j hj
  ·rw [List.getElem?_eq_none (by omega),List.getElem?_eq_none (by omega)]
end Go.Gv.F
