/- Acts: alike; found among the commands; a word taken into a field. -/
import Derived.Test.YtegglibipjjblaaGreatDoorGvZPc
set_option linter.all false
namespace Go.Gv.F
open Go.Gv
def ints (l:ak):ah:=l.map (DV.int .i64)
variable {s:St}
theorem NN {Y:Type} {i o:Nat} {cs ds:ah} (h:s[i]? =some (some ⟨false,cs⟩)) (hl:o+ds.length<=cs.length) (K:M Y):dE i o ds K s=K (s.set i (some ⟨false,cG cs o ds⟩)):=by
 unfold dE St.iB;rw[h];simp only[gO hl,ae]
variable {Y:Type}
theorem ZxM {Q:Out Y×St->Prop} {f:ah->M Y} {g:(ah->M Y)->M Y} (P:ah->St->Prop) (hf: ∀x s,P x s->Ok Q (f x s)) (hg: ∀jk:ah->M Y,(∀x s,P x s->Ok Q (jk x s))->Ok Q (g jk s)):Ok Q (cO f g s):=by rw[Za];exact hg f hf
def low (c:UInt8):UInt8:=if c=78 then 110 else if c=79 then 111 else if c=75 then 107 else if c=86 then 118 else if c=72 then 104 else c
theorem Om (s:St) (cs:ah):Sl (s++[some ⟨false,cs⟩]) (some (s.length,0)) cs:=⟨false,cs,Do,Do,by rw[dF,rQ]⟩
def nO (z:Int):Prop:= -9223372036854775808<=z/\z<=9223372036854775807
theorem Zvf {d:DV} (h:Rd s (.sl (.i .i64)) [d]): ∃a l,(∃z,(z=1\/a=none)/\d= .slice z a (List.length l))/\Sl s a (ints l)/\∀z∈l,nO z:=by
 rcases h with h|⟨i,n,cs,h1,h2,h3,_,h5⟩
 .exact⟨none,[],Fd,rfl,λz hz=>by cases hz⟩
 .have h3:cs.length=n:=by rw[h3];exact cR n
  have key: ∀j,j<n->∃l:Int,cs[j]? =some (.i l)/\nO l:=by
   intro j hj;have⟨l,hl,jG,iH⟩:=h5 j hj;have:(cs.drop (j*Ty.size (.i .i64))).take (Ty.size (.i .i64))=[cs[j]' AC]:=by
    show(cs.drop (j*1)).take 1=_;rw[cR,iR AC];rfl
   rw[this]at hl;exact⟨l,by rw[cc AC,(HX hl).1],BX ⟨jG,iH⟩⟩
  have: ∃ws:ak,cs=ints ws/\∀z∈ws,nO z:=by
   refine⟨cs.map λd=>match d with| .int _ l=>l|_=>0,?_,?_⟩
   .unfold ints
    rw[uF];refine th λj=>?_
    rw[nf];grind
   .intro z hz
    obtain⟨d,hd,rfl⟩:=jK.1 hz;have⟨j,hj,e⟩:=BE hd;grind
  obtain⟨ws,rfl,hws⟩:=this;refine⟨some (i,0),ws,⟨1,.inl rfl,?_⟩,⟨true,_,h2,Do,by rw[dF];exact rQ⟩,hws⟩;rw[(HX h1).1,<-h3];unfold ints;rw[mC];rfl
