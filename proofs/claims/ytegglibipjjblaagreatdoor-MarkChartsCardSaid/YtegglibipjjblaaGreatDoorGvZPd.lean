/- Acts: alike; found among the commands; a word taken into a field. -/
import Derived.Test.YtegglibipjjblaaGreatDoorGvZPb
import Derived.Test.YtegglibipjjblaaGreatDoorGvZPc
import Derived.Test.YtegglibipjjblaaGreatDoorGvZBod
import Derived.Test.YtegglibipjjblaaGreatDoorGvZLib
namespace Go.Gv.F
open Go.Gv
def ints (l:List Int):List DV:=l.map (DV.int .i64)
theorem Zp5 (c:Zg) (n:Nat) (args:List DV):FN c n args=Ao c n args:=rfl
theorem ZwZ (c:Zg) (n:Nat) (ws vs:List Int) (za zb:Nat) (a b:Option (Nat×Nat)) (st:St) (vB:za=1\/a=none) (vC:zb=1\/b=none) (ha:Sl st a (ints ws)) (hb:Sl st b (ints vs)) (hn:ws.length+1<=n) (hs:ws.length<1000000):
  Ok (fun o=>o=(.val [.bool (decide (ws=vs))],st)) (Ao c n [.slice za a ws.length,.slice zb b vs.length] st):=by
 unfold Ao;simp only[Zm 1 za a _ vB,Zm 1 zb b _ vC,ae,Bool.cond_decide];by_cases hl:ws.length=vs.length
 ·have e1:((ws.length:Int)==(vs.length:Int))=true:=by rw[Zzb];simpa using hl
  simp only[e1,bx,cond_false,Zc];refine Zl _ (fun k x s1=>∃i:Nat,x=[.int .i64 i]/\i<=ws.length/\ws.length-i<=k/\s1=st/\(∀j,j<i->ws[j]? =vs[j]?)) ?_ ws.length n _ _ ⟨0,rfl,bH _,by omega,rfl,fun j hj=>by omega⟩ (by omega);rintro k _ s1 ⟨i,rfl,hi,hk,rfl,heq⟩ rec aD;simp only[al,ae];by_cases aj:(i:Int)<(ws.length:Int)
  ·rw[aG aj]
   have h1:ws[i]? =some (ws[i]'(by omega)):=ba _;have h2:vs[i]? =some (vs[i]'(by omega)):=ba _;obtain⟨p,o,rfl⟩:=ha.ck (by simp[ints];omega);obtain⟨q,o',rfl⟩:=hb.ck (by simp[ints];omega);simp only[aV,Zd (Zk (i:=i) (n:=ws.length) (by omega)),Zd (Zk (i:=i) (n:=vs.length) (by omega)),aX];rw[ha.cP (d:= .int .i64 ws[i]) (by simp[ints,h1])];simp only[aM];rw[hb.cP (d:= .int .i64 vs[i]) (by simp[ints,h2])];simp only[aM];by_cases e:ws[i]'(by omega)=vs[i]'(by omega)
   ·have e2:(ws[i]'(by omega)==vs[i]'(by omega))=true:=by rw[e];exact gN _
    simp only[e2,bx,cond_false];refine aD (ws.length-(i+1)) _ _ (by omega) ⟨i+1,by rw[Zb (by omega) (by omega)];rfl,by omega,by omega,rfl,fun j hj=>?_⟩;rcases eM j i with h|h
    ·exact heq j h
    ·rw[show j=i by omega,h1,h2,e]
   ·have e2:(ws[i]'(by omega)==vs[i]'(by omega))=false:=by rw[cx];exact e
    simp only[e2,bD,cond_true,Ze];refine .mk ?_;have: ¬ws=vs:=fun h=>e (by subst h;rfl)
    rw[ao this]
  ·rw[ax aj]
   simp only[Ze];refine .mk ?_;have:ws=vs:=na fun j=>by
    rcases eM j i with h|h
    ·exact heq j h
    ·rw[dT (by omega),dT (by omega)]
   rw[ah this]
 ·have e1:((ws.length:Int)==(vs.length:Int))=false:=by rw[Zzb];simpa using hl
  simp only[e1,bD,cond_true,Ze];refine .mk ?_;have: ¬ws=vs:=fun h=>hl (by rw[h])
  rw[ao this]
theorem Js {β:Type} {s:St} {i o:Nat} {cs ds:List DV} (h:s[i]? =some (some ⟨false,cs⟩)) (hl:o+ds.length<=cs.length) (K:M β):M.store i o ds K s=K (s.set i (some ⟨false,bC cs o ds⟩)):=by
 unfold M.store St.fH;rw[h];simp only[gx hl,cond_true]
theorem Zt1 {s:St} {i:Nat} {b:Option bq} (h:s[i]? =some b) (b':Option bq):(s.set i b')[i]? =some b':=by
 rw[fJ (cd.1 h).1]
end Go.Gv.F
namespace Go.Gv.F
open Go.Gv
variable {β:Type}
theorem Zyh {Q:Out β×St->Prop} {f:List DV->M β} {g:(List DV->M β)->M β} {s:St} (P:List DV->St->Prop) (hf: ∀x s,P x s->Ok Q (f x s)) (hg: ∀jk:List DV->M β,(∀x s,P x s->Ok Q (jk x s))->Ok Q (g jk s)):Ok Q (M.join f g s):=by rw[Zc];exact hg f hf
end Go.Gv.F
namespace Go.Gv.F
open Go.Gv
def low (c:UInt8):UInt8:=if c=78 then 110 else if c=79 then 111 else if c=75 then 107 else if c=86 then 118 else if c=72 then 104 else c
end Go.Gv.F
namespace Go.Gv.F
open Go.Gv
theorem Dc (s:St) (cs:List DV):Sl (s++[some ⟨false,cs⟩]) (some (s.length,0)) cs:=⟨false,cs,by simp,by simp,by rw[dE,pj]⟩
def j5 (z:Int):Prop:= -9223372036854775808<=z/\z<=9223372036854775807
theorem Jy {s:St} {d:DV} (h:Rd s (.sl (.i .i64)) [d]): ∃a l,(∃z,(z=1\/a=none)/\d= .slice z a (List.length l))/\Sl s a (ints l)/\∀z∈l,j5 z:=by
 rcases h with h|⟨i,n,cs,h1,h2,h3,_,h5⟩
 ·exact⟨none,[],⟨1,.inl rfl,(zP h).1⟩,rfl,fun z hz=>by cases hz⟩
 ·have h3:cs.length=n:=by rw[h3];exact di n
  have key: ∀j,j<n->∃l:Int,cs[j]? =some (.int .i64 l)/\j5 l:=by
   intro j hj;obtain⟨l,hl,iS,jz⟩:=h5 j hj;have:(cs.drop (j*Ty.size (.i .i64))).take (Ty.size (.i .i64))=[cs[j]'(by omega)]:=by
    show(cs.drop (j*1)).take 1=_;rw[di,gT (by omega)];rfl
   rw[this]at hl;exact⟨l,by rw[ba (by omega),(zP hl).1],wo ⟨iS,jz⟩⟩
  have: ∃ws:List Int,cs=ints ws/\∀z∈ws,j5 z:=by
   refine⟨cs.map fun d=>match d with| .int _ l=>l|_=>0,?_,?_⟩
   ·unfold ints
    rw[xT];refine na fun j=>?_
    rw[gL];rcases eM j n with hj|hj
    ·obtain⟨l,hl,_⟩:=key j hj
     rw[hl];rfl
    ·rw[dT (by omega)];rfl
   ·intro z hz
    obtain⟨d,hd,rfl⟩:=dP.1 hz;obtain⟨j,hj,e⟩:=BZ hd;obtain⟨l,hl,hr⟩:=key j (by omega);rw[ba hj,e]at hl;cases hl;exact hr
  obtain⟨ws,rfl,hws⟩:=this;refine⟨some (i,0),ws,⟨1,.inl rfl,?_⟩,⟨true,_,h2,by simp,by rw[dE];exact pj⟩,hws⟩;rw[(zP h1).1,<-h3];unfold ints;rw[lS];rfl
end Go.Gv.F
