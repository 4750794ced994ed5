/- Acts: alike; found among the commands; a word taken into a field. -/
import Derived.Test.YtegglibipjjblaaGreatDoorGvZPc
set_option linter.all false
namespace Go.Gv.F
open Go.Gv
def ints (l:ak):ah:=l.map (DV.int .i64)
theorem ZAe (c:Zg) (n:Nat) (ws vs:ak) (za zb:Nat) (a b:ai) (st:St) (Lg:za=1\/a=none) (hzb:zb=1\/b=none) (ha:Sl st a (ints ws)) (hb:Sl st b (ints vs)) (hn:ws.length+1<=n) (hs:ws.length<1000000):
  Ok (λo=>o=(.val [.bool (decide (ws=vs))],st)) (MF c n [.slice za a ws.length,.slice zb b vs.length] st):=by
 unfold MF bZ Q_ cN Zn Lb Li;simp only[Zf 1 za a _ Lg,Zf 1 zb b _ hzb,aq,Bool.cond_decide];by_cases hl:ws.length=vs.length
 .have e1:((ws.length:Int)==(vs.length:Int))=true:=by rw[ZxU];simpa using hl
  simp only[e1,bw,af,Za];refine Zj _ (λk x s1=>∃i:Nat,x=[.i i]/\i<=ws.length/\ws.length-i<=k/\s1=st/\(∀j,j<i->ws[j]? =vs[j]?)) ?_ ws.length n _ _ Fd AC;rintro k _ s1 ⟨i,rfl,hi,hk,rfl,heq⟩ rec aL;simp only[av,aq];by_cases aw:(i:Int)<(ws.length:Int)
  .rw[bG aw]
   have h1:ws[i]? =some (ws[i]' AC):=cu _;have h2:vs[i]? =some (vs[i]' AC):=cu _;obtain⟨p,o,rfl⟩:=ha.cF (by simp[ints];omega);obtain⟨q,o',rfl⟩:=hb.cF (by simp[ints];omega);simp only[bc,Zb (Zi (i:=i) (n:=ws.length)),Zb (Zi (i:=i) (n:=vs.length)),br];rw[ha.dO (d:= .i ws[i]) (by simp[ints,h1])];simp only[bj];rw[hb.dO (d:= .i vs[i]) (by simp[ints,h2])];simp only[bj];by_cases e:ws[i]' AC=vs[i]' AC
   .have e2:(ws[i]' AC==vs[i]' AC)=true:=by rw[e];grind
    simp only[e2,bw,af];refine aL (ws.length-(i+1)) _ _ AC ⟨i+1,by rw[Zc];rfl,AC,AC,rfl,λj hj=>?_⟩;grind
   .have e2:(ws[i]' AC==vs[i]' AC)=false:=by rw[eN];exact e
    simp only[e2,bp,ae,Zd];refine .mk ?_;have: ¬ws=vs:=λh=>e (by subst h;rfl)
    rw[bM this]
  .rw[bq aw]
   simp only[Zd];refine .mk ?_;have:ws=vs:=tU λj=>by
    grind
   rw[aS this]
 .have e1:((ws.length:Int)==(vs.length:Int))=false:=by rw[ZxU];simpa using hl
  simp only[e1,bp,ae,Zd];refine .mk ?_;have: ¬ws=vs:=λh=>hl (by rw[h])
  rw[bM this]
variable {s:St}
theorem NF {β:Type} {i o:Nat} {cs ds:ah} (h:s[i]? =some (some ⟨false,cs⟩)) (hl:o+ds.length<=cs.length) (K:M β):dG i o ds K s=K (s.set i (some ⟨false,cG cs o ds⟩)):=by
 unfold dG St.gP;rw[h];simp only[gz hl,ae]
variable {β:Type}
theorem ZxK {Q:Out β×St->Prop} {f:ah->M β} {g:(ah->M β)->M β} (P:ah->St->Prop) (hf: ∀x s,P x s->Ok Q (f x s)) (hg: ∀jk:ah->M β,(∀x s,P x s->Ok Q (jk x s))->Ok Q (g jk s)):Ok Q (cT f g s):=by rw[Za];exact hg f hf
def low (c:UInt8):UInt8:=if c=78 then 110 else if c=79 then 111 else if c=75 then 107 else if c=86 then 118 else if c=72 then 104 else c
theorem Oe (s:St) (cs:ah):Sl (s++[some ⟨false,cs⟩]) (some (s.length,0)) cs:=⟨false,cs,Do,Do,by rw[dE,oY]⟩
def mX (z:Int):Prop:= -9223372036854775808<=z/\z<=9223372036854775807
theorem Zvf {d:DV} (h:Rd s (.sl (.i .i64)) [d]): ∃a l,(∃z,(z=1\/a=none)/\d= .slice z a (List.length l))/\Sl s a (ints l)/\∀z∈l,mX z:=by
 rcases h with h|⟨i,n,cs,h1,h2,h3,_,h5⟩
 .exact⟨none,[],Fd,rfl,λz hz=>by cases hz⟩
 .have h3:cs.length=n:=by rw[h3];exact cS n
  have key: ∀j,j<n->∃l:Int,cs[j]? =some (.i l)/\mX l:=by
   intro j hj;have⟨l,hl,ke,iB⟩:=h5 j hj;have:(cs.drop (j*Ty.size (.i .i64))).take (Ty.size (.i .i64))=[cs[j]' AC]:=by
    show(cs.drop (j*1)).take 1=_;rw[cS,jd AC];rfl
   rw[this]at hl;exact⟨l,by rw[cu AC,(DF hl).1],yi ⟨ke,iB⟩⟩
  have: ∃ws:ak,cs=ints ws/\∀z∈ws,mX z:=by
   refine⟨cs.map λd=>match d with| .int _ l=>l|_=>0,?_,?_⟩
   .unfold ints
    rw[zX];refine tU λj=>?_
    rw[sC];grind
   .intro z hz
    obtain⟨d,hd,rfl⟩:=oW.1 hz;have⟨j,hj,e⟩:=H9 hd;grind
  obtain⟨ws,rfl,hws⟩:=this;refine⟨some (i,0),ws,⟨1,.inl rfl,?_⟩,⟨true,_,h2,Do,by rw[dE];exact oY⟩,hws⟩;rw[(DF h1).1,<-h3];unfold ints;rw[lB];rfl
end Go.Gv.F
