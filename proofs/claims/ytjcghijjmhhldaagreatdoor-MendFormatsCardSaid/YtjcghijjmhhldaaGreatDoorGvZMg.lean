/- Charts that were made are right. No program in sight. -/
import Derived.Test.YtjcghijjmhhldaaGreatDoorGvZMf
set_option linter.all false
namespace Go.Gv.F
open Go.Gv
theorem Zpx {m:Nat} : ∀(ks:ak) {W:al},W.length=(m+63)/64->∀b:Nat,ey (ks.foldl (ej m) W) b=true↔ey W b=true\/((b:Int)∈ks/\b<m)
 |[],W,_,b=>by simp
 |a::ks,W,hl,b=>by
  rw[List.foldl_cons,Zpx ks (by rw[vT];exact hl) b,ym hl,kb,aZ,bD,dR];grind[iY]
variable {m n:Nat}
theorem ZtR (l:ak) (b:Nat):ey (nH m l) b=true↔(b:Int)∈l/\b<m:=by
 unfold nH;rw[Zpx l Do b,ZtB];simp
theorem Zsc {W:al} {b:Nat} (h:ey W b=true):b<64*W.length:=by
 rcases jd b (64*W.length)with h1|h1
 .exact h1
 .unfold ey at h
  rw[gF,List.getElem?_eq_none AC]at h;simp_all[gQ]
theorem ZrK {W:al} {k:Int} :k∈iD W↔ ∃b:Nat,k=(b:Int)/\ey W b=true:=by
 rw[Znx];constructor
 .grind
 .rintro⟨b,rfl,hb⟩
  exact ox.2 ⟨b,List.mem_filter.2 ⟨vw.2 (Zsc hb),hb⟩,rfl⟩
theorem ZpT {W:al} (h: ∀b,ey W b=true↔b<n):iD W=ZB 0 n:=by
 rw[Znx];unfold ZB;have hle:n<=64*W.length:=by
  rcases jd (64*W.length) n with h1|h1
  .have:=Zsc ((h (64*W.length)).2 h1)
   omega
  .exact h1
 have e2:64*W.length=n+(64*W.length-n):=AC
 rw[e2,List.range_add,xp,List.filter_eq_self.2 λk hk=>(h k).2 (vw.1 hk),List.filter_eq_nil_iff.2 λk hk=>?_,gE]
 .simp
 grind
variable {β:Type}
end Go.Gv.F
