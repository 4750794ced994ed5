/- The text of a state: the program's and the document's. -/
import Derived.Test.YtjcghijjmhhldaaGreatDoorGvZPf
set_option linter.all false
namespace Go.Gv.F
open Go.Gv
variable {β:Type}
variable {Q:Out β×St->Prop} {c s s' s0:St} {α:Type}
theorem Ok.wm {P:Out α×St->Prop} {m:M α} {K:α->M β} (h:Ok P (m s)) (k: ∀o,P o->∃ds s',o=(.val ds,s')/\ax s s'/\Ok Q (K ds s')):Ok Q (nf m K s):=by
 have⟨o,e,p⟩:=h;obtain⟨ds,s',rfl,hp,hq⟩:=k o p;rw[sL e hp];exact hq
theorem Ok.cx {m:M α} {K:α->M β} {ds:α} (h:Ok (λo=>∃s',o=(.val ds,s')/\ax s s') (m s)) (k: ∀s',ax s s'->Ok Q (K ds s')):Ok Q (nf m K s):=
 h.wm λ_ ⟨s',e,p⟩=>⟨_,s',e,p,k s' p⟩
def mQ (j:ah) (s s':St):Prop:=∀(i:Nat) (b:Option aH),s[i]? =some b->(∀o,j≠some (i,o))->s'[i]? =some b
theorem mQ.pre (j:ah) (h:ax s s'):mQ j s s':=λ_ _ e _=>h.get e
theorem mQ.set (s:St) (r o:Nat) (b:Option aH):mQ (some (r,o)) s (s.set r b):=by
 intro i b' e cS;grind
theorem mQ.trans {j:ah} {a b:St} (h:mQ j a b) (k:mQ j b c):mQ j a c:=λi x e cS=>k i x (h i x e cS) cS
theorem bn.GM {a:ah} {cs:af} (h:bn s0 s a cs) {sz n lim:Nat} (ds:af) (hz:0<sz) (hn:cs.length=n*sz) (hd:ds.length=sz) (hl:n+1<=lim):
  ∃i s',s.length<=i/\bn s0 s' (some (i,0)) (cs++ds)/\Kp s s'/\mQ a s s'/\∀K:ah->M β,(bH ds λi=>bP i 0 sz λcs'=>cB sz a n cs' 1 lim K) s=K (some (i,0)) s':=by
 have hb:Nat.beq 1 0=false:=rfl;rcases h.2 with⟨rfl,rfl⟩|⟨i,rfl,hi,hs⟩
 .have h0:n=0:=by
   rcases Ab.1 (show n*sz=0 by simpa using hn.symm)with h|h
   .exact h
   .omega
  subst h0;refine⟨s.length+1,s++[some (⟨false,ds⟩:aH)]++[some (⟨false,ds⟩:aH)],AC,⟨h.1.trans ((ax.new _ _).trans (.new _ _)),.inr ⟨s.length+1,rfl,by have:=h.1.len;omega,?_⟩⟩,((ax.new _ _).trans (.new _ _)).kp,mQ.pre _ ((ax.new _ _).trans (.new _ _)),λK=>?_⟩
  .rw[iO Do];simp
  .rw[Zv,ZM (f:=false) (all:=ds) Do AC,eG,dJ AC]
   unfold cB;rw[hb,fE hl,aa,ae];simp
 .have kW:i<s.length:=Fd
  have j3:(s++[some (⟨false,ds⟩:aH)])[i]? =some (some (⟨false,cs⟩:aH)):=by rw[lj kW];exact hs
  have cX:(s++[some (⟨false,ds⟩:aH)]).fJ i=some cs:=by grind[St.fJ]
  refine⟨s.length+1,(s++[some (⟨false,ds⟩:aH)]).set i none++[some (⟨false,cs++ds⟩:aH)],AC,⟨(kP (h.1.trans (.new _ _)) hi none).trans (.new _ _),.inr ⟨s.length+1,rfl,AC,?_⟩⟩,(ax.new _ _).kp.trans ((Kp.set j3 none).trans (ax.new _ _).kp),(mQ.pre _ (ax.new _ _)).trans ((mQ.set _ i 0 none).trans (mQ.pre _ (ax.new _ _))),λK=>?_⟩
  .rw[iO Do];simp
  .rw[Zv,ZM (f:=false) (all:=ds) Do AC,eG,dJ AC]
   unfold cB;simp only[hb,fE hl,aa,ae,cX];rw[ei,fE AC];grind
end Go.Gv.F
namespace Go.Gv.F
open Go.Gv
def eV (e:eL):Prop:=vE e.slot/\vE e.gen/\vE e.key/\vE e.value
end Go.Gv.F
