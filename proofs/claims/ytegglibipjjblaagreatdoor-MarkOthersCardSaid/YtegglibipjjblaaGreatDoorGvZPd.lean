/- Acts: alike; found among the commands; a word taken into a field. -/
import Derived.Test.YtegglibipjjblaaGreatDoorGvZPb
import Derived.Test.YtegglibipjjblaaGreatDoorGvZPc
import Derived.Test.YtegglibipjjblaaGreatDoorGvZBod
import Derived.Test.YtegglibipjjblaaGreatDoorGvZLib
set_option linter.all false
namespace Go.Gv.F
open Go.Gv
def ints (l:ak):ah:=l.map (DV.int .i64)
theorem ZnM (c:Zg) (n:Nat) (args:ah):N2 c n args=Ga c n args:=rfl
theorem Zte (c:Zg) (n:Nat) (ws vs:ak) (za zb:Nat) (a b:ai) (st:St) (yO:za=1\/a=none) (yP:zb=1\/b=none) (ha:Sl st a (ints ws)) (hb:Sl st b (ints vs)) (hn:ws.length+1<=n:=by omega) (hs:ws.length<1000000:=by omega):
  Ok (λo=>o=(.val [.bool (decide (ws=vs))],st)) (Ga c n [.slice za a ws.length,.slice zb b vs.length] st):=by
 unfold Ga cm Q_ cH Zn Lb Li;simp only[Zf 1 za a _ yO,Zf 1 zb b _ yP,aq,Bool.cond_decide];by_cases hl:ws.length=vs.length
 .have e1:((ws.length:Int)==(vs.length:Int))=true:=by rw[ZuM];simpa using hl
  simp only[e1,bp,af,Za];refine Zj _ (λk x s1=>∃i:Nat,x=[.int .i64 i]/\i<=ws.length/\ws.length-i<=k/\s1=st/\(∀j,j<i->ws[j]? =vs[j]?)) ?_ ws.length n _ _ (by grind) (by omega);rintro k _ s1 ⟨i,rfl,hi,hk,rfl,heq⟩ rec aQ;simp only[av,aq];by_cases ax:(i:Int)<(ws.length:Int)
  .rw[bG ax]
   have h1:ws[i]? =some (ws[i]'(by omega)):=cg _;have h2:vs[i]? =some (vs[i]'(by omega)):=cg _;obtain⟨p,o,rfl⟩:=ha.cB (by simp[ints];omega);obtain⟨q,o',rfl⟩:=hb.cB (by simp[ints];omega);simp only[aZ,Zb (Zi (i:=i) (n:=ws.length)),Zb (Zi (i:=i) (n:=vs.length)),br];rw[ha.dF (d:= .int .i64 ws[i]) (by simp[ints,h1])];simp only[aX];rw[hb.dF (d:= .int .i64 vs[i]) (by simp[ints,h2])];simp only[aX];by_cases e:ws[i]'(by omega)=vs[i]'(by omega)
   .have e2:(ws[i]'(by omega)==vs[i]'(by omega))=true:=by rw[e];grind
    simp only[e2,bp,af];refine aQ (ws.length-(i+1)) _ _ (by omega) ⟨i+1,by rw[Zc];rfl,by omega,by omega,rfl,λj hj=>?_⟩;grind
   .have e2:(ws[i]'(by omega)==vs[i]'(by omega))=false:=by rw[dX];exact e
    simp only[e2,bm,ae,Zd];refine .mk ?_;have: ¬ws=vs:=λh=>e (by subst h;rfl)
    rw[aD this]
  .rw[ba ax]
   simp only[Zd];refine .mk ?_;have:ws=vs:=qH λj=>by
    grind
   rw[aw this]
 .have e1:((ws.length:Int)==(vs.length:Int))=false:=by rw[ZuM];simpa using hl
  simp only[e1,bm,ae,Zd];refine .mk ?_;have: ¬ws=vs:=λh=>hl (by rw[h])
  rw[aD this]
variable {s:St}
theorem KF {β:Type} {i o:Nat} {cs ds:ah} (h:s[i]? =some (some ⟨false,cs⟩)) (hl:o+ds.length<=cs.length) (K:M β):eI i o ds K s=K (s.set i (some ⟨false,cq cs o ds⟩)):=by
 unfold eI St.hY;rw[h];simp only[gr hl,ae]
variable {β:Type}
theorem Zvf {Q:Out β×St->Prop} {f:ah->M β} {g:(ah->M β)->M β} (P:ah->St->Prop) (hf: ∀x s,P x s->Ok Q (f x s)) (hg: ∀jk:ah->M β,(∀x s,P x s->Ok Q (jk x s))->Ok Q (g jk s)):Ok Q (cI f g s):=by rw[Za];exact hg f hf
def low (c:UInt8):UInt8:=if c=78 then 110 else if c=79 then 111 else if c=75 then 107 else if c=86 then 118 else if c=72 then 104 else c
theorem Lm (s:St) (cs:ah):Sl (s++[some ⟨false,cs⟩]) (some (s.length,0)) cs:=⟨false,cs,by simp,by simp,by rw[dA,sc]⟩
def oF (z:Int):Prop:= -9223372036854775808<=z/\z<=9223372036854775807
theorem SM {d:DV} (h:Rd s (.sl (.i .i64)) [d]): ∃a l,(∃z,(z=1\/a=none)/\d= .slice z a (List.length l))/\Sl s a (ints l)/\∀z∈l,oF z:=by
 rcases h with h|⟨i,n,cs,h1,h2,h3,_,h5⟩
 .exact⟨none,[],(by grind),rfl,λz hz=>by cases hz⟩
 .have h3:cs.length=n:=by rw[h3];exact cT n
  have key: ∀j,j<n->∃l:Int,cs[j]? =some (.int .i64 l)/\oF l:=by
   intro j hj;obtain⟨l,hl,j3,jH⟩:=h5 j hj;have:(cs.drop (j*Ty.size (.i .i64))).take (Ty.size (.i .i64))=[cs[j]'(by omega)]:=by
    show(cs.drop (j*1)).take 1=_;rw[cT,iC (by omega)];rfl
   rw[this]at hl;exact⟨l,by rw[cg (by omega),(FL hl).1],zN ⟨j3,jH⟩⟩
  have: ∃ws:ak,cs=ints ws/\∀z∈ws,oF z:=by
   refine⟨cs.map λd=>match d with| .int _ l=>l|_=>0,?_,?_⟩
   .unfold ints
    rw[List.map_map];refine qH λj=>?_
    rw[xN];grind
   .intro z hz
    obtain⟨d,hd,rfl⟩:=xO.1 hz;obtain⟨j,hj,e⟩:=FO hd;grind
  obtain⟨ws,rfl,hws⟩:=this;refine⟨some (i,0),ws,⟨1,.inl rfl,?_⟩,⟨true,_,h2,by simp,by rw[dA];exact sc⟩,hws⟩;rw[(FL h1).1,<-h3];unfold ints;rw[uG];rfl
end Go.Gv.F
