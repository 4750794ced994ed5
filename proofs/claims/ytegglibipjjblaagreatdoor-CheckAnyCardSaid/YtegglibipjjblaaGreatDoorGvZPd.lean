/- Acts: alike; found among the commands; a word taken into a field. -/
import Derived.Test.YtegglibipjjblaaGreatDoorGvZPc
set_option linter.all false
namespace Go.Gv.F
open Go.Gv
def ints (l:ak):ah:=l.map (DV.i)
theorem ZyU (c:Zf) (n:Nat) (ws vs:ak) (za zb:Nat) (a b:ai) (st:St) (KD:za=1\/a=none) (Yx:zb=1\/b=none) (ha:Sl st a (ints ws)) (hb:Sl st b (ints vs)) (hn:ws.length+1<=n) (hs:ws.length<1000000):
  Ok (λo=>o=(.val [.b (decide (ws=vs))],st)) (Mg c n [.s za a ws.length,.s zb b vs.length] st):=by
 unfold Mg bV Q_ cN Zn Lb Li;simp only[Zg 1 za a _ KD,Zg 1 zb b _ Yx,aq,Bool.cond_decide];by_cases hl:ws.length=vs.length
 .have e1:((ws.length:Int)==(vs.length:Int))=true:=by rw[Zwk];simpa using hl
  simp only[e1,bu,af,Za];refine Zi _ (λk x s1=>∃i:Nat,x=[.i i]/\i<=ws.length/\ws.length-i<=k/\s1=st/\(∀j,j<i->ws[j]? =vs[j]?)) ?_ ws.length n _ _ (by grind) (by omega);rintro k _ s1 ⟨i,rfl,hi,hk,rfl,heq⟩ rec aN;simp only[av,aq];by_cases aw:(i:Int)<(ws.length:Int)
  .rw[bE aw]
   have h1:ws[i]? =some (ws[i]'(by omega)):=cq _;have h2:vs[i]? =some (vs[i]'(by omega)):=cq _;obtain⟨p,o,rfl⟩:=ha.cH (by simp[ints];omega);obtain⟨q,o',rfl⟩:=hb.cH (by simp[ints];omega);simp only[bd,Zb (Zj (i:=i) (n:=ws.length)),Zb (Zj (i:=i) (n:=vs.length)),bp];rw[ha.dJ (d:= .i ws[i]) (by simp[ints,h1])];simp only[bg];rw[hb.dJ (d:= .i vs[i]) (by simp[ints,h2])];simp only[bg];by_cases e:ws[i]'(by omega)=vs[i]'(by omega)
   .have e2:(ws[i]'(by omega)==vs[i]'(by omega))=true:=by rw[e];grind
    simp only[e2,bu,af];refine aN (ws.length-(i+1)) _ _ (by omega) ⟨i+1,by rw[Zc];rfl,by omega,by omega,rfl,λj hj=>?_⟩;grind
   .have e2:(ws[i]'(by omega)==vs[i]'(by omega))=false:=by rw[eG];exact e
    simp only[e2,bn,ae,Zd];refine .mk ?_;have: ¬ws=vs:=λh=>e (by subst h;rfl)
    rw[aF this]
  .rw[bj aw]
   simp only[Zd];refine .mk ?_;have:ws=vs:=tk λj=>by
    grind
   rw[ax this]
 .have e1:((ws.length:Int)==(vs.length:Int))=false:=by rw[Zwk];simpa using hl
  simp only[e1,bn,ae,Zd];refine .mk ?_;have: ¬ws=vs:=λh=>hl (by rw[h])
  rw[aF this]
variable {s:St}
theorem M6 {β:Type} {i o:Nat} {cs ds:ah} (h:s[i]? =some (some ⟨false,cs⟩)) (hl:o+ds.length<=cs.length) (K:M β):dI i o ds K s=K (s.set i (some ⟨false,cE cs o ds⟩)):=by
 unfold dI St.ik;rw[h];simp only[gA hl,ae]
variable {β:Type}
theorem Zwd {Q:Out β×St->Prop} {f:ah->M β} {g:(ah->M β)->M β} (P:ah->St->Prop) (hf: ∀x s,P x s->Ok Q (f x s)) (hg: ∀jk:ah->M β,(∀x s,P x s->Ok Q (jk x s))->Ok Q (g jk s)):Ok Q (cK f g s):=by rw[Za];exact hg f hf
def low (c:UInt8):UInt8:=if c=78 then 110 else if c=79 then 111 else if c=75 then 107 else if c=86 then 118 else if c=72 then 104 else c
theorem Nt (s:St) (cs:ah):Sl (s++[some ⟨false,cs⟩]) (some (s.length,0)) cs:=⟨false,cs,by simp,by simp,by rw[dK,rU]⟩
def LG (z:Int):Prop:= -9223372036854775808<=z/\z<=9223372036854775807
end Go.Gv.F
