/- What a walk that is whole has shown: sets, seats, entries. No program in sight. -/
import Derived.Test.YtegglibipjjblaaGreatDoorGvZMh
set_option linter.all false
namespace Go.Gv.F
open Go.Gv
def WS (m:Nat) (v v':aS):Prop:=∃ks:ak,v'.W=ks.foldl (bK m) v.W
def WS.refl (m:Nat) (v:aS):WS m v v:=⟨[],rfl⟩
variable {k slot:Int} {m:Nat} {c v v':aS} {K:bL}
def WS.trans {a b:aS} (h:WS m a b) (k:WS m b c):WS m a c:=by
 obtain⟨x,h⟩:=h;obtain⟨y,k⟩:=k;exact⟨x++y,by rw[k,h,zn]⟩
def WS.same {a b:aS} (h:b.W=a.W):WS m a b:=⟨[],h⟩
def MQ {b:xr} (h:dN K k v=some (b,v')):WS K.m v v':=⟨[k],(xM h).2⟩
def Zra {K:bL} : ∀ {x:List bw} {k:Int} {v v':aS},nk K k x v=some v'->v'.W=v.W/\((∀y∈v.aG,oP K.sup y=true)->∀y∈v'.aG,oP K.sup y=true)
 |[],_,_,_,h=>by cases h;exact⟨rfl,id⟩
 |x::r,k,v,v',h=>by
  unfold nk at h;cases h1:pS K k x v with
  |none=>rw[h1]at h;cases h
  |some w=>
   rw[h1]at h;obtain⟨a,b⟩:=Zra h;grind[pS]
def zH (K:bL) (v v':aS):Prop:=WS K.m v v'/\((∀y∈v.aG,oP K.sup y=true)->∀y∈v'.aG,oP K.sup y=true)
def zH.trans {K:bL} {a b c:aS} (h:zH K a b) (k:zH K b c):zH K a c:=⟨h.1.trans k.1,λe=>k.2 (h.2 e)⟩
def T4 {b:xr} (h:dN K k v=some (b,v')):zH K v v':=⟨MQ h,by rw[(Z3 h).1];exact id⟩
def Zyz (h:mY K k slot v=some v'):zH K v v':=by
 unfold mY at h;split at h
 .rename_i x v1 ht
  obtain⟨a,b⟩:=Zra h;exact(T4 ht).trans ⟨WS.same a,b⟩
 .cases h
def Ui {K:bL} {cJ x5:Int} : ∀ {x:ak} {k:Int} {v v':aS},kD K cJ x5 k x v=some v'->zH K v v'
 |[],_,_,_,h=>by cases h;exact⟨.refl _ _,id⟩
 |y::r,k,v,v',h=>by
  unfold kD at h;cases h1:((!(y==0))==decide (x5*16+k<cJ))with
  |false=>rw[h1]at h;cases h
  |true=>
   rw[h1,ae]at h;cases h2:(!(y==0))with
   |false=>rw[h2]at h;exact Ui h
   |true=>
    rw[h2,ae]at h;split at h
    .cases h
    .rename_i w hw
     exact(Zyz hw).trans (Ui h)
def UL {K:bL} {cJ:Int} : ∀ {x:ak} {k:Int} {v v':aS},od K cJ k x v=some v'->zH K v v'
 |[],_,_,_,h=>by cases h;exact⟨.refl _ _,id⟩
 |y::r,k,v,v',h=>by
  unfold od at h;cases h1:((!(y==0))==decide (k*16<cJ))with
  |false=>rw[h1]at h;cases h
  |true=>
   rw[h1,ae]at h;cases h2:(y==0)with
   |true=>rw[h2]at h;exact UL h
   |false=>
    rw[h2,af]at h;split at h
    .rename_i x v1 ht
     split at h
     .cases h
     .rename_i w hw
      exact((T4 ht).trans (Ui hw)).trans (UL h)
    .cases h
def Zwm (h:nY K v=some v'):zH K v v':=by
 unfold nY at h;cases h1:(K.sup.used==0)with
 |true=>rw[h1]at h;cases h;exact⟨.refl _ _,id⟩
 |false=>
  rw[h1,af]at h;split at h
  .rename_i x v1 ht
   exact(T4 ht).trans (UL h)
  .cases h
def zC (K:bL) (aG:List bw) (e:bh):Prop:=0<=e.slot/\e.slot<K.sup.used/\∃y,aG[e.slot.toNat]? =some y/\y.live=true/\y.gen=e.gen
def ZnB {K:bL} : ∀ {f:Nat} {out xc:List bh} {todo:List nh} {v v':aS},jM K f out todo v=some (xc,v')->(∀e∈out,zC K v.aG e)->(∀e∈xc,zC K v.aG e)/\v'.nodes+out.length=v.nodes+xc.length/\WS K.m v v'
 |0,_,_,_,_,_,h,_=>by cases h
 |f+1,out,xc,[],v,v',h,h1=>by cases h;exact⟨h1,rfl,.refl _ _⟩
 |f+1,out,xc,t::r,v,v',h,h1=>by
  unfold jM at h;cases ht:dN K t.block v with
  |none=>rw[ht]at h;cases h
  |some q=>
   obtain⟨b,v1⟩:=q;rw[ht]at h;obtain⟨g1,g2,g3,g4,g5,g6⟩:=Z3 ht;cases b with
   |leaf x=>cases h
   |cc x=>cases h
   |queue x=>cases h
   |dir x=>cases h
   |none=>cases h
   |node x=>
    simp only at h;cases hf:uK K v1 t x with
    |false=>rw[hf]at h;cases h
    |true=>
     rw[hf,ae]at h;have OS:=(Ie (Zns g6.symm).1).1;unfold uK at hf;rw[aY]at hf;have h3:=hf.2;cases hd:decide (x.bJ.slot<K.sup.used)with
     |false=>rw[hd]at h3;cases h3
     |true=>
      rw[hd,ae]at h3;unfold DQ at h3;cases pA:v1.aG[x.bJ.slot.toNat]? with
      |none=>rw[pA]at h3;cases h3
      |some y=>
       rw[pA]at h3;simp only[aY,and_true]at h3;obtain⟨EB,Kw,Ha⟩:=h3;have iA:zC K v.aG x.bJ:=⟨OS,mI hd,y,by rw[<-g1];exact pA,eq_of_beq EB,eq_of_beq Kw⟩;obtain⟨a,b,c⟩:=ZnB (v:= { v1 with nodes:=v1.nodes+1 }) h (λe he=>by
        grind)
       refine⟨λe he=>?_,?_,(MQ ht).trans ((WS.same rfl).trans c)⟩
       .have:zC K v1.aG e:=a e he
        rwa [g1]at this
       grind
def Tm {K:bL} : ∀ {l:ak} {k:Int} {acc es:List bh} {v v':aS},v.W.length=(K.m+63)/64->lY K k l acc v=some (es,v')->(∀e∈acc,zC K v.aG e)->(∀e∈es,zC K v.aG e)/\v'.nodes+acc.length=v.nodes+es.length/\WS K.m v v'/\v'.aG=v.aG/\∀P:List bh,(∀e∈P++acc,uC v e)->Diff (P++acc)->(∀e∈P++es,uC v' e)/\Diff (P++es)
 |[],_,_,_,_,_,_,h,h1=>by cases h;exact⟨h1,rfl,.refl _ _,rfl,λP a b=>⟨a,b⟩⟩
 |y::r,k,acc,es,v,v',hl,h,h1=>by
  unfold lY at h;cases hy:(!(y==0))with
  |false=>rw[hy,af]at h;exact Tm hl h h1
  |true=>
   rw[hy,ae]at h;cases ht:rG K y k v with
   |none=>rw[ht]at h;cases h
   |some q=>
    obtain⟨out,v1⟩:=q;rw[ht]at h;obtain⟨a,b,c⟩:=ZnB ht (λ_ h=>by cases h);obtain⟨_,_,t3,_,t5,_,_,_⟩:=Iu (acc:=[]) hl ht (λ_ h=>by cases h) .nil;obtain⟨d,e,f,g,i⟩:=Tm t3 h (λx hx=>by
     rw[t5];grind)
    rw[t5]at d;refine⟨d,?_,c.trans f,g.trans t5,λP pa pd=>?_⟩
    .rw[bB]at e
     rw[Be]at b;omega
    .obtain⟨u1,u2,_⟩:=Iu (acc:=P++acc) hl ht (by simpa using pa) (by simpa using pd)
     grind
end Go.Gv.F
