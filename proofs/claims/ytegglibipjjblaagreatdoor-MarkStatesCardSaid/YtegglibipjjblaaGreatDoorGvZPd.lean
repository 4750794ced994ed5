/- Acts: alike; found among the commands; a word taken into a field. -/
import Derived.Test.YtegglibipjjblaaGreatDoorGvZPb
import Derived.Test.YtegglibipjjblaaGreatDoorGvZPc
import Derived.Test.YtegglibipjjblaaGreatDoorGvZBod
import Derived.Test.YtegglibipjjblaaGreatDoorGvZLib
namespace Go.Gv.F
open Go.Gv
def ints (l:List Int):List DV:=l.map (DV.int .i64)
theorem ZoI (c:Zg) (n:Nat) (args:List DV):EK c n args=zw c n args:=rfl
theorem Zv9 (c:Zg) (n:Nat) (ws vs:List Int) (za zb:Nat) (a b:Option (Nat×Nat)) (st:St) (uM:za=1\/a=none) (uN:zb=1\/b=none) (ha:Sl st a (ints ws)) (hb:Sl st b (ints vs)) (hn:ws.length+1<=n) (hs:ws.length<1000000):
  Ok (fun o=>o=(.val [.bool (decide (ws=vs))],st)) (zw c n [.slice za a ws.length,.slice zb b vs.length] st):=by
 unfold zw;simp only[Zm 1 za a _ uM,Zm 1 zb b _ uN,ae,Bool.cond_decide];by_cases hl:ws.length=vs.length
 ·have e1:((ws.length:Int)==(vs.length:Int))=true:=by rw[ZxW];simpa using hl
  simp only[e1,bg,cond_false,Zb];refine Zl _ (fun k x s1=>∃i:Nat,x=[.int .i64 i]/\i<=ws.length/\ws.length-i<=k/\s1=st/\(∀j,j<i->ws[j]? =vs[j]?)) ?_ ws.length n _ _ ⟨0,rfl,bH _,by omega,rfl,fun j hj=>by omega⟩ (by omega);rintro k _ s1 ⟨i,rfl,hi,hk,rfl,heq⟩ rec aD;simp only[al,ae];by_cases aj:(i:Int)<(ws.length:Int)
  ·rw[aF aj]
   have h1:ws[i]? =some (ws[i]'(by omega)):=ba _;have h2:vs[i]? =some (vs[i]'(by omega)):=ba _;obtain⟨p,o,rfl⟩:=ha.cm (by simp[ints];omega);obtain⟨q,o',rfl⟩:=hb.cm (by simp[ints];omega);simp only[aW,Ze (Zk (i:=i) (n:=ws.length) (by omega)),Ze (Zk (i:=i) (n:=vs.length) (by omega)),aY];rw[ha.dj (d:= .int .i64 ws[i]) (by simp[ints,h1])];simp only[aS];rw[hb.dj (d:= .int .i64 vs[i]) (by simp[ints,h2])];simp only[aS];by_cases e:ws[i]'(by omega)=vs[i]'(by omega)
   ·have e2:(ws[i]'(by omega)==vs[i]'(by omega))=true:=by rw[e];exact fH _
    simp only[e2,bg,cond_false];refine aD (ws.length-(i+1)) _ _ (by omega) ⟨i+1,by rw[Zd (by omega) (by omega)];rfl,by omega,by omega,rfl,fun j hj=>?_⟩;rcases eJ j i with h|h
    ·exact heq j h
    ·rw[show j=i by omega,h1,h2,e]
   ·have e2:(ws[i]'(by omega)==vs[i]'(by omega))=false:=by rw[cg];exact e
    simp only[e2,bu,cond_true,Zc];refine .mk ?_;have: ¬ws=vs:=fun h=>e (by subst h;rfl)
    rw[ao this]
  ·rw[ay aj]
   simp only[Zc];refine .mk ?_;have:ws=vs:=mP fun j=>by
    rcases eJ j i with h|h
    ·exact heq j h
    ·rw[dL (by omega),dL (by omega)]
   rw[ah this]
 ·have e1:((ws.length:Int)==(vs.length:Int))=false:=by rw[ZxW];simpa using hl
  simp only[e1,bu,cond_true,Zc];refine .mk ?_;have: ¬ws=vs:=fun h=>hl (by rw[h])
  rw[ao this]
theorem Ir {β:Type} {s:St} {i o:Nat} {cs ds:List DV} (h:s[i]? =some (some ⟨false,cs⟩)) (hl:o+ds.length<=cs.length) (K:M β):M.store i o ds K s=K (s.set i (some ⟨false,bN cs o ds⟩)):=by
 unfold M.store St.gy;rw[h];simp only[gD hl,cond_true]
theorem ZsL {s:St} {i:Nat} {b:Option bn} (h:s[i]? =some b) (b':Option bn):(s.set i b')[i]? =some b':=by
 rw[fV (cw.1 h).1]
end Go.Gv.F
namespace Go.Gv.F
open Go.Gv
variable {β:Type}
theorem ZxF {Q:Out β×St->Prop} {f:List DV->M β} {g:(List DV->M β)->M β} {s:St} (P:List DV->St->Prop) (hf: ∀x s,P x s->Ok Q (f x s)) (hg: ∀jk:List DV->M β,(∀x s,P x s->Ok Q (jk x s))->Ok Q (g jk s)):Ok Q (M.join f g s):=by rw[Zb];exact hg f hf
end Go.Gv.F
namespace Go.Gv.F
open Go.Gv
def low (c:UInt8):UInt8:=if c=78 then 110 else if c=79 then 111 else if c=75 then 107 else if c=86 then 118 else if c=72 then 104 else c
end Go.Gv.F
namespace Go.Gv.F
open Go.Gv
theorem Cv (s:St) (cs:List DV):Sl (s++[some ⟨false,cs⟩]) (some (s.length,0)) cs:=⟨false,cs,by simp,by simp,by rw[dw,oQ]⟩
def jM (z:Int):Prop:= -9223372036854775808<=z/\z<=9223372036854775807
theorem Zv4 {s:St} {d:DV} (h:Rd s (.sl (.i .i64)) [d]): ∃a l,(∃z,(z=1\/a=none)/\d= .slice z a (List.length l))/\Sl s a (ints l)/\∀z∈l,jM z:=by
 rcases h with h|⟨i,n,cs,h1,h2,h3,_,h5⟩
 ·exact⟨none,[],⟨1,.inl rfl,(y7 h).1⟩,rfl,fun z hz=>by cases hz⟩
 ·have h3:cs.length=n:=by rw[h3];exact dx n
  have key: ∀j,j<n->∃l:Int,cs[j]? =some (.int .i64 l)/\jM l:=by
   intro j hj;obtain⟨l,hl,iH,mB⟩:=h5 j hj;have:(cs.drop (j*Ty.size (.i .i64))).take (Ty.size (.i .i64))=[cs[j]'(by omega)]:=by
    show(cs.drop (j*1)).take 1=_;rw[dx,hJ (by omega)];rfl
   rw[this]at hl;exact⟨l,by rw[ba (by omega),(y7 hl).1],vx ⟨iH,mB⟩⟩
  have: ∃ws:List Int,cs=ints ws/\∀z∈ws,jM z:=by
   refine⟨cs.map fun d=>match d with| .int _ l=>l|_=>0,?_,?_⟩
   ·unfold ints
    rw[xb];refine mP fun j=>?_
    rw[gB];rcases eJ j n with hj|hj
    ·obtain⟨l,hl,_⟩:=key j hj
     rw[hl];rfl
    ·rw[dL (by omega)];rfl
   ·intro z hz
    obtain⟨d,hd,rfl⟩:=dE.1 hz;obtain⟨j,hj,e⟩:=Br hd;obtain⟨l,hl,hr⟩:=key j (by omega);rw[ba hj,e]at hl;cases hl;exact hr
  obtain⟨ws,rfl,hws⟩:=this;refine⟨some (i,0),ws,⟨1,.inl rfl,?_⟩,⟨true,_,h2,by simp,by rw[dw];exact oQ⟩,hws⟩;rw[(y7 h1).1,<-h3];unfold ints;rw[lV];rfl
end Go.Gv.F
