/- The law of spoilt images. -/
import Derived.Test.YtegglibipjjblaaGreatDoorGvMWks
set_option linter.all false
namespace Go.Gv.F
set_option maxHeartbeats 4000000
open Go.Gv
abbrev NR:Ty:= .pr (.i .i64) (.pr (.i .i64) (.pr (.i .u8) (.pr .b .un)))
variable {s:St}
theorem Zy9 {cs:ah} (h:Rd s NR cs): ∃e:rG,cs=Cm e/\mX e.line/\mX e.dR:=by
 obtain⟨_,_,rfl,⟨a,rfl,a1,a2⟩,⟨_,_,rfl,⟨b,rfl,b1,b2⟩,⟨_,_,rfl,⟨c,rfl,c1,c2⟩,⟨_,_,rfl,⟨d,rfl⟩,hu⟩⟩⟩⟩:=h;cases hu;have c1:0<=c:=c1;have c2:c<=255:=c2;refine⟨⟨a,b,UInt8.ofNat c.toNat,d⟩,?_,yi ⟨a1,a2⟩,yi ⟨b1,b2⟩⟩;unfold Cm;simp only;rw[UInt8.toNat_ofNat_of_lt' (AC:c.toNat<256),show(c.toNat:Int)=c by omega];rfl
theorem ZoG {s:St} : ∀(n:Nat) (cs:ah),cs.length=n*4->(∀j,j<n->Rd s NR ((cs.drop (j*4)).take 4))->∃l:List rG,l.length=n/\cs=vA l/\∀e∈l,mX e.line/\mX e.dR
 |0,cs,hl,_=>⟨[],rfl,zV AC,λx hx=>by cases hx⟩
 |n+1,cs,hl,h=>by
  have h0:=h 0 AC;rw[oZ,dE]at h0;have⟨x,e,hr⟩:=Zy9 h0;have⟨xs,g1,g2,g3⟩:=ZoG (s:=s) n (cs.drop 4) (by rw[eH];omega) λj hj=>by
   have:=h (j+1) AC;rw[jG,show 4+j*4=(j+1)*4 by omega];exact this
  refine⟨x::xs,by simp[g1],?_,λy hy=>?_⟩
  .have e2:vA (x::xs)=Cm x++vA xs:=rfl
   rw[e2,<-g2,<-e,oX]
  grind
theorem Zxt {d:DV} (h:Rd s (.sl NR) [d]): ∃p l,d= .slice 4 p (List.length l)/\Sl s p (vA l)/\SpR l:=by
 rcases h with h|⟨i,n,cs,h1,h2,h3,_,h5⟩
 .exact⟨none,[],(DF h).1,rfl,⟨λx hx=>(nomatch hx),λx hx=>(nomatch hx)⟩⟩
 .obtain⟨xs,g1,rfl,g3⟩:=ZoG n cs h3 h5
  refine⟨some (i,0),xs,?_,⟨true,_,h2,Do,by rw[dE,oY]⟩,⟨λx hx=>(g3 x hx).1,λx hx=>(g3 x hx).2⟩⟩;rw[(DF h1).1,g1];rfl
end Go.Gv.F
