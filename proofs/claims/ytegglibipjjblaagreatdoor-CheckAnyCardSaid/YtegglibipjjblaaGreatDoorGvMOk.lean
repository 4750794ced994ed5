/- What a walk that is whole has shown: sets, seats, entries. No program in sight. -/
import Derived.Test.YtegglibipjjblaaGreatDoorGvZMh
set_option linter.all false
namespace Go.Gv.F
open Go.Gv
def WS (m:Nat) (v v':aS):Prop:=∃ks:ak,v'.W=ks.foldl (bK m) v.W
theorem WS.refl (m:Nat) (v:aS):WS m v v:=⟨[],rfl⟩
variable {k slot:Int} {m:Nat} {c v v':aS} {K:bL}
theorem WS.trans {a b:aS} (h:WS m a b) (k:WS m b c):WS m a c:=by
 have⟨x,h⟩:=h;have⟨y,k⟩:=k;exact⟨x++y,by rw[k,h,zs]⟩
theorem WS.same {a b:aS} (h:b.W=a.W):WS m a b:=⟨[],h⟩
theorem Nb {b:xr} (h:dO K k v=some (b,v')):WS K.m v v':=⟨[k],(xK h).2⟩
theorem Zq7 {K:bL} : ∀ {x:List bw} {k:Int} {v v':aS},nn K k x v=some v'->v'.W=v.W/\((∀y∈v.aG,oR K.sup y=true)->∀y∈v'.aG,oR K.sup y=true)
 |[],_,_,_,h=>by cases h;exact⟨rfl,id⟩
 |x::r,k,v,v',h=>by
  unfold nn at h;cases h1:pS K k x v with
  |none=>rw[h1]at h;cases h
  |some w=>
   rw[h1]at h;have⟨a,b⟩:=Zq7 h;grind[pS]
def zK (K:bL) (v v':aS):Prop:=WS K.m v v'/\((∀y∈v.aG,oR K.sup y=true)->∀y∈v'.aG,oR K.sup y=true)
theorem zK.trans {K:bL} {a b c:aS} (h:zK K a b) (k:zK K b c):zK K a c:=⟨h.1.trans k.1,λe=>k.2 (h.2 e)⟩
theorem Ui {b:xr} (h:dO K k v=some (b,v')):zK K v v':=⟨Nb h,by rw[(Z2 h).1];exact id⟩
theorem ZyE (h:na K k slot v=some v'):zK K v v':=by
 unfold na at h;split at h
 .rename_i x v1 ht
  have⟨a,b⟩:=Zq7 h;exact(Ui ht).trans ⟨WS.same a,b⟩
 .cases h
theorem UA {K:bL} {cJ x5:Int} : ∀ {x:ak} {k:Int} {v v':aS},kD K cJ x5 k x v=some v'->zK K v v'
 |[],_,_,_,h=>by cases h;exact⟨.refl _ _,id⟩
 |y::r,k,v,v',h=>by
  unfold kD at h;cases h1:((!(y==0))==decide (x5*16+k<cJ))with
  |false=>rw[h1]at h;cases h
  |true=>
   rw[h1,ae]at h;cases h2:(!(y==0))with
   |false=>rw[h2]at h;exact UA h
   |true=>
    rw[h2,ae]at h;split at h
    .cases h
    .rename_i w hw
     exact(ZyE hw).trans (UA h)
theorem Ux {K:bL} {cJ:Int} : ∀ {x:ak} {k:Int} {v v':aS},nX K cJ k x v=some v'->zK K v v'
 |[],_,_,_,h=>by cases h;exact⟨.refl _ _,id⟩
 |y::r,k,v,v',h=>by
  unfold nX at h;cases h1:((!(y==0))==decide (k*16<cJ))with
  |false=>rw[h1]at h;cases h
  |true=>
   rw[h1,ae]at h;cases h2:(y==0)with
   |true=>rw[h2]at h;exact Ux h
   |false=>
    rw[h2,af]at h;split at h
    .rename_i x v1 ht
     split at h
     .cases h
     .rename_i w hw
      exact((Ui ht).trans (UA hw)).trans (Ux h)
    .cases h
theorem Zxa (h:oa K v=some v'):zK K v v':=by
 unfold oa at h;cases h1:(K.sup.used==0)with
 |true=>rw[h1]at h;cases h;exact⟨.refl _ _,id⟩
 |false=>
  rw[h1,af]at h;split at h
  .rename_i x v1 ht
   exact(Ui ht).trans (Ux h)
  .cases h
def zG (K:bL) (aG:List bw) (e:bh):Prop:=0<=e.slot/\e.slot<K.sup.used/\∃y,aG[e.slot.toNat]? =some y/\y.live=true/\y.gen=e.gen
theorem ZnD {K:bL} : ∀ {f:Nat} {out xc:List bh} {todo:List ni} {v v':aS},jP K f out todo v=some (xc,v')->(∀e∈out,zG K v.aG e)->(∀e∈xc,zG K v.aG e)/\v'.nodes+out.length=v.nodes+xc.length/\WS K.m v v'
 |0,_,_,_,_,_,h,_=>by cases h
 |f+1,out,xc,[],v,v',h,h1=>by cases h;exact⟨h1,rfl,.refl _ _⟩
 |f+1,out,xc,t::r,v,v',h,h1=>by
  unfold jP at h;cases ht:dO K t.block v with
  |none=>rw[ht]at h;cases h
  |some q=>
   have⟨b,v1⟩:=q;rw[ht]at h;have⟨g1,g2,g3,g4,g5,g6⟩:=Z2 ht;cases b with
   |leaf x=>cases h
   |cc x=>cases h
   |queue x=>cases h
   |dir x=>cases h
   |none=>cases h
   |node x=>
    simp only at h;cases hf:uN K v1 t x with
    |false=>rw[hf]at h;cases h
    |true=>
     rw[hf,ae]at h;have O2:=(Ij (Zno g6.symm).1).1;unfold uN at hf;rw[aY]at hf;have h3:=hf.2;cases hd:decide (x.bJ.slot<K.sup.used)with
     |false=>rw[hd]at h3;cases h3
     |true=>
      rw[hd,ae]at h3;unfold DR at h3;cases pA:v1.aG[x.bJ.slot.toNat]? with
      |none=>rw[pA]at h3;cases h3
      |some y=>
       rw[pA]at h3;simp only[aY,and_true]at h3;have⟨EG,KC,Hg⟩:=h3;have iA:zG K v.aG x.bJ:=⟨O2,mK hd,y,by rw[<-g1];exact pA,eq_of_beq EG,eq_of_beq KC⟩;have⟨a,b,c⟩:=ZnD (v:= { v1 with nodes:=v1.nodes+1 }) h (λe he=>by
        grind)
       refine⟨λe he=>?_,?_,(Nb ht).trans ((WS.same rfl).trans c)⟩
       .have:zG K v1.aG e:=a e he
        rwa [g1]at this
       grind
theorem Tx {K:bL} : ∀ {l:ak} {k:Int} {acc es:List bh} {v v':aS},v.W.length=(K.m+63)/64->l8 K k l acc v=some (es,v')->(∀e∈acc,zG K v.aG e)->(∀e∈es,zG K v.aG e)/\v'.nodes+acc.length=v.nodes+es.length/\WS K.m v v'/\v'.aG=v.aG/\∀P:List bh,(∀e∈P++acc,uE v e)->Diff (P++acc)->(∀e∈P++es,uE v' e)/\Diff (P++es)
 |[],_,_,_,_,_,_,h,h1=>by cases h;exact⟨h1,rfl,.refl _ _,rfl,λP a b=>⟨a,b⟩⟩
 |y::r,k,acc,es,v,v',hl,h,h1=>by
  unfold l8 at h;cases hy:(!(y==0))with
  |false=>rw[hy,af]at h;exact Tx hl h h1
  |true=>
   rw[hy,ae]at h;cases ht:rH K y k v with
   |none=>rw[ht]at h;cases h
   |some q=>
    have⟨out,v1⟩:=q;rw[ht]at h;have⟨a,b,c⟩:=ZnD ht (λ_ h=>by cases h);have⟨_,_,t3,_,t5,_,_,_⟩:=Iz (acc:=[]) hl ht (λ_ h=>by cases h) .nil;have⟨d,e,f,g,i⟩:=Tx t3 h (λx hx=>by
     rw[t5];grind)
    rw[t5]at d;refine⟨d,?_,c.trans f,g.trans t5,λP pa pd=>?_⟩
    .rw[bB]at e
     rw[Bh]at b;omega
    .have⟨u1,u2,_⟩:=Iz (acc:=P++acc) hl ht (by simpa using pa) (by simpa using pd)
     grind
end Go.Gv.F
