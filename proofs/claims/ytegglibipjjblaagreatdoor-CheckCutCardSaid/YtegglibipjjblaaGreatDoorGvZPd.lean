/- Acts: alike; found among the commands; a word taken into a field. -/
import Derived.Test.YtegglibipjjblaaGreatDoorGvZPb
import Derived.Test.YtegglibipjjblaaGreatDoorGvZPc
import Derived.Test.YtegglibipjjblaaGreatDoorGvZBod
import Derived.Test.YtegglibipjjblaaGreatDoorGvZLib
namespace Go.Gv.F
open Go.Gv
def ints (l:List Int):List DV:=l.map (DV.int .i64)
theorem ZkA {β:Type} {s:St} {i o:Nat} {cs ds:List DV} (h:s[i]? =some (some ⟨false,cs⟩)) (hl:o+ds.length≤cs.length) (K:M β):M.store i o ds K s=K (s.set i (some ⟨false,spl cs o ds⟩)):=by
 unfold M.store St.open?;rw[h];simp only[Nat.ble_eq_true_of_le hl,cond_true]
theorem Zs0 {s:St} {i:Nat} {b:Option Blk} (h:s[i]? =some b) (b':Option Blk):(s.set i b')[i]? =some b':=by
 rw[List.getElem?_set_self (List.getElem?_eq_some_iff.1 h).1]
end Go.Gv.F
namespace Go.Gv.F
open Go.Gv
variable {β:Type}
theorem ZwS {Q:Out β×St→Prop} {f:List DV→M β} {g:(List DV→M β)→M β} {s:St} (P:List DV→St→Prop) (hf: ∀x s,P x s→Ok Q (f x s)) (hg: ∀jk:List DV→M β,(∀x s,P x s→Ok Q (jk x s))→Ok Q (g jk s)):Ok Q (M.join f g s):=by rw[Zc];exact hg f hf
end Go.Gv.F
namespace Go.Gv.F
open Go.Gv
def low (c:UInt8):UInt8:=if c=78 then 110 else if c=79 then 111 else if c=75 then 107 else if c=86 then 118 else if c=72 then 104 else c
end Go.Gv.F
namespace Go.Gv.F
open Go.Gv
theorem ZlU (s:St) (cs:List DV):Sl (s++[some ⟨false,cs⟩]) (some (s.length,0)) cs:=⟨false,cs,by simp,by simp,by rw[List.drop_zero,List.take_length]⟩
def InR (z:Int):Prop:= -9223372036854775808≤z∧z≤9223372036854775807
theorem ZvH {s:St} {d:DV} (h:Rd s (.sl (.i .i64)) [d]): ∃a l,(∃z,(z=1∨a=none)∧d= .slice z a (List.length l))∧Sl s a (ints l)∧∀z∈l,InR z:=by
 rcases h with h|⟨i,n,cs,h1,h2,h3,_,h5⟩
 ·exact⟨none,[],⟨1,.inl rfl,(List.cons.inj h).1⟩,rfl,fun z hz=>by cases hz⟩
 ·have h3:cs.length=n:=by rw[h3];exact Nat.mul_one n
  have key: ∀j,j<n→∃l:Int,cs[j]? =some (.int .i64 l)∧InR l:=by
   intro j hj;obtain⟨l,hl,hr1,hr2⟩:=h5 j hj;have:(cs.drop (j*Ty.size (.i .i64))).take (Ty.size (.i .i64))=[cs[j]'(by omega)]:=by
    show(cs.drop (j*1)).take 1=_;rw[Nat.mul_one,List.drop_eq_getElem_cons (by omega)];rfl
   rw[this]at hl;exact⟨l,by rw[List.getElem?_eq_getElem (by omega),(List.cons.inj hl).1],ZcT ⟨hr1,hr2⟩⟩
  have: ∃ws:List Int,cs=ints ws∧∀z∈ws,InR z:=by
   refine⟨cs.map fun d=>match d with| .int _ l=>l|_=>0,?_,?_⟩
   ·unfold ints
    rw[List.map_map];refine List.ext_getElem? fun j=>?_
    rw[List.getElem?_map];rcases Nat.lt_or_ge j n with hj|hj
    ·obtain⟨l,hl,_⟩:=key j hj
     rw[hl];rfl
    ·rw[List.getElem?_eq_none (by omega)];rfl
   ·intro z hz
    obtain⟨d,hd,rfl⟩:=List.mem_map.1 hz;obtain⟨j,hj,e⟩:=List.getElem_of_mem hd;obtain⟨l,hl,hr⟩:=key j (by omega);rw[List.getElem?_eq_getElem hj,e]at hl;cases hl;exact hr
  obtain⟨ws,rfl,hws⟩:=this;refine⟨some (i,0),ws,⟨1,.inl rfl,?_⟩,⟨true,_,h2,by simp,by rw[List.drop_zero];exact List.take_length⟩,hws⟩;rw[(List.cons.inj h1).1,←h3];unfold ints;rw[List.length_map];rfl
end Go.Gv.F
