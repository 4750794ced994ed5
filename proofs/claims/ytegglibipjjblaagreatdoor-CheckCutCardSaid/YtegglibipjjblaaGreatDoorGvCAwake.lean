/- The least image is in order: the check's first question. -/
import Derived.Test.YtegglibipjjblaaGreatDoorGvCCut
namespace Go.Gv.F
open Go.Gv
def exM:StV:=⟨16,2,1,[],[],[]⟩
theorem Zy9:MayP exM where
 geom:=by decide
 slots:=by decide
 few:=by decide
 right:=fun h hh=>nomatch hh
 order:=fun i a b h1 h2=>by cases h1
 nodup:=by decide
 range:=by decide
 gen:=fun e he=>nomatch he
 low:=fun k hk=>nomatch hk
 gens:=by decide
 rest:=fun i hi hn=>by
  have:exM.gens.length=0:=rfl;omega
def Zty (x:SupV) (v:WkV):List Int:=[ZhS v.heaps 0,(v.heaps.length:Nat),(v.free.length:Nat),wr64 (wr64 (((v.gens.length:Nat):Int)-ZhS v.heaps 0)-((v.free.length:Nat):Int)),Zkd (x.charts.foldl (addW x.blocks.toNat) v.W)]
theorem ZuD (x:SupV) (v:WkV):ZwR x v=ints (Zty x v):=rfl
def wakeC:Bool:=match ZdF exM 1 0 with
 |none=>false
 |some (B,_)=>match Zcp B with
  |(some (x,v),_)=>decide (Zty x v=[0,0,0,0,3])&&(decide (v.heaps.length=0)&&decide (B.length=1024))
  |_=>false
theorem Zwv:wakeC=true:=by decide+kernel
theorem ZuR: ∃B s x v e,ZdF exM 1 0=some (B,s)∧Zcp B=(some (x,v),e)∧Zty x v=[0,0,0,0,3]∧v.heaps.length=0∧B.length=1024:=by
 have h:=Zwv;unfold wakeC at h;cases hb:ZdF exM 1 0 with
 |none=>rw[hb]at h;cases h
 |some q=>
  obtain⟨B,s⟩:=q;rw[hb]at h;simp only at h;cases hw:Zcp B with
  |mk r e=>
   rw[hw]at h;cases r with
   |none=>cases h
   |some q=>
    obtain⟨x,v⟩:=q;simp only[Bool.and_eq_true,decide_eq_true_iff]at h;exact⟨B,s,x,v,e,rfl,hw,h.1,h.2.1,h.2.2⟩
theorem ZqR:Zcp []=(none,30):=by
 have:pickF []=none:=rfl;unfold Zcp;rw[this]
end Go.Gv.F
