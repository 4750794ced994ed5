/- Acts: alike; found among the commands; a word taken into a field. -/
import Derived.Test.YtegglibipjjblaaGreatDoorGvZPb
import Derived.Test.YtegglibipjjblaaGreatDoorGvZPc
import Derived.Test.YtegglibipjjblaaGreatDoorGvZBod
import Derived.Test.YtegglibipjjblaaGreatDoorGvZLib
namespace Go.Gv.F
open Go.Gv
def ints (l:List Int):List DV:=l.map (DV.int .i64)
theorem Zoi (c:Zg) (n:Nat) (args:List DV):ZbI c n args=Zh5 c n args:=rfl
theorem Zx7 (c:Zg) (n:Nat) (ws vs:List Int) (za zb:Nat) (a b:Option (Nat×Nat)) (st:St) (hza:za=1∨a=none) (hzb:zb=1∨b=none) (ha:Sl st a (ints ws)) (hb:Sl st b (ints vs)) (hn:ws.length+1≤n) (hs:ws.length<1000000):
  Ok (fun o=>o=(.val [.bool (decide (ws=vs))],st)) (Zh5 c n [.slice za a ws.length,.slice zb b vs.length] st):=by
 unfold Zh5
 simp only [Zm 1 za a _ hza,Zm 1 zb b _ hzb,D_nil,Bool.cond_decide]
 by_cases hl:ws.length=vs.length
 ·have e1:((ws.length:Int)==(vs.length:Int))=true:=by rw [Zwd];simpa using hl
  simp only [e1,Bool.not_true,cond_false,Zc]
  refine Zl _ (fun k x s1=>∃i:Nat,x=[.int .i64 i]∧i≤ws.length∧ws.length-i≤k∧s1=st∧(∀j,j<i→ws[j]? =vs[j]?)) ?_ ws.length n _ _ ⟨0,rfl,Nat.zero_le _,by omega,rfl,fun j hj=>by omega⟩ (by omega)
  rintro k _ s1 ⟨i,rfl,hi,hk,rfl,heq⟩ rec hrec
  simp only [J_i,D_nil]
  by_cases hlt:(i:Int)<(ws.length:Int)
  ·rw [if_pos hlt]
   have h1:ws[i]? =some (ws[i]'(by omega)):=List.getElem?_eq_getElem _
   have h2:vs[i]? =some (vs[i]'(by omega)):=List.getElem?_eq_getElem _
   obtain ⟨p,o,rfl⟩:=ha.some_of (by simp [ints];omega)
   obtain ⟨q,o',rfl⟩:=hb.some_of (by simp [ints];omega)
   simp only [nn_some',Ze (Zk (i:=i) (n:=ws.length) (by omega)),Ze (Zk (i:=i) (n:=vs.length) (by omega)),Int.toNat_natCast]
   rw [ha.get1 (d:= .int .i64 ws[i]) (by simp [ints,h1])]
   simp only [D_int]
   rw [hb.get1 (d:= .int .i64 vs[i]) (by simp [ints,h2])]
   simp only [D_int]
   by_cases e:ws[i]'(by omega)=vs[i]'(by omega)
   ·have e2:(ws[i]'(by omega)==vs[i]'(by omega))=true:=by rw [e];exact beq_self_eq_true _
    simp only [e2,Bool.not_true,cond_false]
    refine hrec (ws.length-(i+1)) _ _ (by omega) ⟨i+1,by rw [Zd (by omega) (by omega)];rfl,by omega,by omega,rfl,fun j hj=>?_⟩
    rcases Nat.lt_or_ge j i with h|h
    ·exact heq j h
    ·rw [show j=i by omega,h1,h2,e]
   ·have e2:(ws[i]'(by omega)==vs[i]'(by omega))=false:=by rw [beq_eq_false_iff_ne];exact e
    simp only [e2,Bool.not_false,cond_true,Zb]
    refine .mk ?_
    have: ¬ws=vs:=fun h=>e (by subst h;rfl)
    rw [decide_eq_false this]
  ·rw [if_neg hlt]
   simp only [Zb]
   refine .mk ?_
   have:ws=vs:=List.ext_getElem? fun j=>by
    rcases Nat.lt_or_ge j i with h|h
    ·exact heq j h
    ·rw [List.getElem?_eq_none (by omega),List.getElem?_eq_none (by omega)]
   rw [decide_eq_true this]
 ·have e1:((ws.length:Int)==(vs.length:Int))=false:=by rw [Zwd];simpa using hl
  simp only [e1,Bool.not_false,cond_true,Zb]
  refine .mk ?_
  have: ¬ws=vs:=fun h=>hl (by rw [h])
  rw [decide_eq_false this]
theorem Zkf {β:Type} {s:St} {i o:Nat} {cs ds:List DV} (h:s[i]? =some (some ⟨false,cs⟩)) (hl:o+ds.length≤cs.length) (K:M β):M.store i o ds K s=K (s.set i (some ⟨false,spl cs o ds⟩)):=by
 unfold M.store St.open?
 rw [h]
 simp only [Nat.ble_eq_true_of_le hl,cond_true]
theorem Zsq {s:St} {i:Nat} {b:Option Blk} (h:s[i]? =some b) (b':Option Blk):(s.set i b')[i]? =some b':=by
 rw [List.getElem?_set_self (List.getElem?_eq_some_iff.1 h).1]
end Go.Gv.F
namespace Go.Gv.F
open Go.Gv
variable {β:Type}
theorem ZwP {Q:Out β×St→Prop} {f:List DV→M β} {g:(List DV→M β)→M β} {s:St} (P:List DV→St→Prop) (hf: ∀x s,P x s→Ok Q (f x s)) (hg: ∀jk:List DV→M β,(∀x s,P x s→Ok Q (jk x s))→Ok Q (g jk s)):Ok Q (M.join f g s):=by rw [Zc];exact hg f hf
end Go.Gv.F
namespace Go.Gv.F
open Go.Gv
def low (c:UInt8):UInt8:=if c=78 then 110 else if c=79 then 111 else if c=75 then 107 else if c=86 then 118 else if c=72 then 104 else c
end Go.Gv.F
namespace Go.Gv.F
open Go.Gv
theorem Zli (s:St) (cs:List DV):Sl (s++[some ⟨false,cs⟩]) (some (s.length,0)) cs:=⟨false,cs,by simp,by simp,by rw [List.drop_zero,List.take_length]⟩
def InR (z:Int):Prop:= -9223372036854775808≤z∧z≤9223372036854775807
theorem Zyg {s:St} {d:DV} (h:Rd s (.sl (.i .i64)) [d]): ∃a l,(∃z,(z=1∨a=none)∧d= .slice z a (List.length l))∧Sl s a (ints l)∧∀z∈l,InR z:=by
 rcases h with h|⟨i,n,cs,h1,h2,h3,_,h5⟩
 ·exact ⟨none,[],⟨1,.inl rfl,(List.cons.inj h).1⟩,rfl,fun z hz=>by cases hz⟩
 ·have h3:cs.length=n:=by rw [h3];exact Nat.mul_one n
  have key: ∀j,j<n→∃l:Int,cs[j]? =some (.int .i64 l)∧InR l:=by
   intro j hj
   obtain ⟨l,hl,hr1,hr2⟩:=h5 j hj
   have:(cs.drop (j*Ty.size (.i .i64))).take (Ty.size (.i .i64))=[cs[j]'(by omega)]:=by
    show (cs.drop (j*1)).take 1=_
    rw [Nat.mul_one,List.drop_eq_getElem_cons (by omega)];rfl
   rw [this] at hl
   exact ⟨l,by rw [List.getElem?_eq_getElem (by omega),(List.cons.inj hl).1],Zv8 ⟨hr1,hr2⟩⟩
  have: ∃ws:List Int,cs=ints ws∧∀z∈ws,InR z:=by
   refine ⟨cs.map fun d=>match d with| .int _ l=>l|_=>0,?_,?_⟩
   ·unfold ints
    rw [List.map_map]
    refine List.ext_getElem? fun j=>?_
    rw [List.getElem?_map]
    rcases Nat.lt_or_ge j n with hj|hj
    ·obtain ⟨l,hl,_⟩:=key j hj
     rw [hl];rfl
    ·rw [List.getElem?_eq_none (by omega)];rfl
   ·intro z hz
    obtain ⟨d,hd,rfl⟩:=List.mem_map.1 hz
    obtain ⟨j,hj,e⟩:=List.getElem_of_mem hd
    obtain ⟨l,hl,hr⟩:=key j (by omega)
    rw [List.getElem?_eq_getElem hj,e] at hl
    cases hl
    exact hr
  obtain ⟨ws,rfl,hws⟩:=this
  refine ⟨some (i,0),ws,⟨1,.inl rfl,?_⟩,⟨true,_,h2,by simp,by rw [List.drop_zero];exact List.take_length⟩,hws⟩
  rw [(List.cons.inj h1).1,←h3]
  unfold ints
  rw [List.length_map];rfl
end Go.Gv.F
