/- Lists without twins. -/
import Derived.Test.YtjcghijjmhhldaaGreatDoorGvMOk2
set_option linter.all false
namespace Go.Gv.F
open Go.Gv
theorem ZrJ {b:aj} (h:b.length<=56):(tk b 56).length=56:=by
 grind[tk,Zx]
variable {k t:Int}
theorem Zsa {b:aj} (h:b.length<=56):(gC k t b).length=60:=by
 unfold gC;rw[cq,ZrJ h];rfl
theorem Zno {b:aj} (h:b.length<=56:=by omega):(sd k t b).length=64:=by
 unfold sd;rw[cq,ZH,Zsa h]
end Go.Gv.F
namespace Go.Gv.F
open Go.Gv
def QH (l:aj) (k:Nat):aj:=(l.drop (64*k)).take 64
theorem Ky {x:db} (h:vJ x):x.bg.length<=8:=by
 have hl:=h.len;have hg:=h.g;have⟨g1,g2,_⟩:=uu hg;unfold sP at hl;rw[hg,aa]at hl;unfold nJ at hl;have e1:aq (x.blocks+384)=x.blocks+384:=by
  have⟨m,hm⟩: ∃m:Nat,x.blocks=m:=⟨x.blocks.toNat,AC⟩;rw[hm];exact Zc
 have e2:aq (x.blocks+384-1)=x.blocks+384-1:=by
  have⟨m,hm⟩: ∃m:Nat,x.blocks=m:=⟨x.blocks.toNat,AC⟩;rw[hm,show((m:Int)+384-1)=((m+383:Nat):Int) by omega];exact Zc
 rw[e1,e2,Int.tdiv_eq_ediv_of_nonneg AC]at hl;have e3:aq ((x.blocks+384-1)/384)=(x.blocks+384-1)/384:=by
  have⟨m,hm⟩: ∃m:Nat,(x.blocks+384-1)/384=m:=⟨((x.blocks+384-1)/384).toNat,AC⟩;rw[hm];exact Zc
 rw[e3]at hl;omega
theorem Zsw (x:db):(CZ x).length=32+2*x.bg.length:=by
 grind[CZ,cq,ZH,Eh]
theorem D3 {x:db} (h:vJ x):(oI x).length=64:=by
 have h1:=Ky h;have h2:=Zsw x;exact Zno
structure Fin (B:List UInt8) (m:MkV):Prop where
 room:64*m.next<=m.B.length
 line: ∀k,2<=k->k<m.next->QH B k=QH m.B k
structure Mem (m:Nat) (W:List Nat) (P:Nat->Prop):Prop where
 len:W.length=(m+63)/64
 lt: ∀w∈W,w<18446744073709551616
 iff: ∀b,ey W b=true↔P b
section
variable (K:cg) (A:ak)
end
end Go.Gv.F
namespace Go.Gv.F
open Go.Gv
end Go.Gv.F
namespace Go.Gv.F
open Go.Gv
theorem ZqS (a n i:Nat) (h:i<n):(ZB a n)[i]? =some ((a+i:Nat):Int):=by
 grind[ZB]
theorem ZpF (a n i:Nat) (h:i<n):(ZB a n).getD i 0=((a+i:Nat):Int):=by
 rw[gF,ZqS a n i h];rfl
end Go.Gv.F
namespace Go.Gv.F
open Go.Gv
theorem ZtB (n k:Nat):ey (List.replicate n 0) k=false:=by
 unfold ey gQ;rw[gF,List.getElem?_replicate];split<;>simp
end Go.Gv.F
