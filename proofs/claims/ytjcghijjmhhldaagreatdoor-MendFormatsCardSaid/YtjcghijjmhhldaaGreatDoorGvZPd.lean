/- Acts: alike; found among the commands; a word taken into a field. -/
import Derived.Test.YtjcghijjmhhldaaGreatDoorGvZPc
set_option linter.all false
namespace Go.Gv.F
open Go.Gv
def ints (l:ak):af:=l.map (DV.int .i64)
variable {s:St}
theorem AX {β:Type} {i o:Nat} {cs ds:af} (h:s[i]? =some (some ⟨false,cs⟩)) (hl:o+ds.length<=cs.length) (K:M β):bB i o ds K s=K (s.set i (some ⟨false,cT cs o ds⟩)):=by
 unfold bB St.fJ;rw[h];simp only[fE hl,aa]
variable {β:Type}
def low (c:UInt8):UInt8:=if c=78 then 110 else if c=79 then 111 else if c=75 then 107 else if c=86 then 118 else if c=72 then 104 else c
theorem pY (s:St) (cs:af):Sl (s++[some ⟨false,cs⟩]) (some (s.length,0)) cs:=⟨false,cs,Do,Do,by rw[eG,lO]⟩
def vE (z:Int):Prop:= -9223372036854775808<=z/\z<=9223372036854775807
theorem Zqr {d:DV} (h:Rd s (.sl (.i .i64)) [d]): ∃a l,(∃z,(z=1\/a=none)/\d= .slice z a (List.length l))/\Sl s a (ints l)/\∀z∈l,vE z:=by
 rcases h with h|⟨i,n,cs,h1,h2,h3,_,h5⟩
 .exact⟨none,[],Fd,rfl,λz hz=>by cases hz⟩
 .have h3:cs.length=n:=by rw[h3];exact cL n
  have key: ∀j,j<n->∃l:Int,cs[j]? =some (.i l)/\vE l:=by
   intro j hj;have⟨l,hl,gu,j1⟩:=h5 j hj;have:(cs.drop (j*Ty.size (.i .i64))).take (Ty.size (.i .i64))=[cs[j]' AC]:=by
    show(cs.drop (j*1)).take 1=_;rw[cL,il AC];rfl
   rw[this]at hl;exact⟨l,by rw[dt AC,(List.cons.inj hl).1],Zr4 ⟨gu,j1⟩⟩
  have: ∃ws:ak,cs=ints ws/\∀z∈ws,vE z:=by
   refine⟨cs.map λd=>match d with| .int _ l=>l|_=>0,?_,?_⟩
   .unfold ints
    rw[List.map_map];refine xo λj=>?_
    rw[jJ];grind
   .intro z hz
    obtain⟨d,hd,rfl⟩:=ox.1 hz;have⟨j,hj,e⟩:=List.getElem_of_mem hd;grind
  obtain⟨ws,rfl,pb⟩:=this;refine⟨some (i,0),ws,⟨1,.inl rfl,?_⟩,⟨true,_,h2,Do,by rw[eG];exact lO⟩,pb⟩;rw[(List.cons.inj h1).1,<-h3];unfold ints;rw[dE];rfl
end Go.Gv.F
