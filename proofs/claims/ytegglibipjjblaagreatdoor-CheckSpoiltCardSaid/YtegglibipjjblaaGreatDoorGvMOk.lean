/- What a walk that is whole has shown: sets, seats, entries. No program in sight. -/
import Derived.Test.YtegglibipjjblaaGreatDoorGvZMh
set_option linter.all false
namespace Go.Gv.F
open Go.Gv
def WS (m:Nat) (v v':aR):Prop:=∃ks:ak,v'.W=ks.foldl (bN m) v.W
theorem WS.refl (m:Nat) (v:aR):WS m v v:=⟨[],rfl⟩
variable {k slot:Int} {m:Nat} {c v v':aR} {K:bP}
theorem WS.trans {a b:aR} (h:WS m a b) (k:WS m b c):WS m a c:=by
 have⟨x,h⟩:=h;have⟨y,k⟩:=k;exact⟨x++y,by rw[k,h,xQ]⟩
theorem WS.same {a b:aR} (h:b.W=a.W):WS m a b:=⟨[],h⟩
theorem NK {b:xW} (h:dT K k v=some (b,v')):WS K.m v v':=⟨[k],(yl h).2⟩
theorem ZrV {K:bP} : ∀ {x:List bB} {k:Int} {v v':aR},nG K k x v=some v'->v'.W=v.W/\((∀y∈v.aG,pF K.sup y=true)->∀y∈v'.aG,pF K.sup y=true)
 |[],_,_,_,h=>by cases h;exact⟨rfl,id⟩
 |x::r,k,v,v',h=>by
  unfold nG at h;cases h1:qw K k x v with
  |none=>rw[h1]at h;cases h
  |some w=>
   rw[h1]at h;have⟨a,b⟩:=ZrV h;grind[qw]
def Ag (K:bP) (v v':aR):Prop:=WS K.m v v'/\((∀y∈v.aG,pF K.sup y=true)->∀y∈v'.aG,pF K.sup y=true)
theorem Ag.trans {K:bP} {a b c:aR} (h:Ag K a b) (k:Ag K b c):Ag K a c:=⟨h.1.trans k.1,λe=>k.2 (h.2 e)⟩
theorem UG {b:xW} (h:dT K k v=some (b,v')):Ag K v v':=⟨NK h,by rw[(Z4 h).1];exact id⟩
theorem ZyI (h:nr K k slot v=some v'):Ag K v v':=by
 unfold nr at h;split at h
 .rename_i x v1 ht
  have⟨a,b⟩:=ZrV h;exact(UG ht).trans ⟨WS.same a,b⟩
 .cases h
theorem Vm {K:bP} {cH x5:Int} : ∀ {x:ak} {k:Int} {v v':aR},kO K cH x5 k x v=some v'->Ag K v v'
 |[],_,_,_,h=>by cases h;exact⟨.refl _ _,id⟩
 |y::r,k,v,v',h=>by
  unfold kO at h;cases h1:((!(y==0))==decide (x5*16+k<cH))with
  |false=>rw[h1]at h;cases h
  |true=>
   rw[h1,ae]at h;cases h2:(!(y==0))with
   |false=>rw[h2]at h;exact Vm h
   |true=>
    rw[h2,ae]at h;split at h
    .cases h
    .rename_i w hw
     exact(ZyI hw).trans (Vm h)
theorem Vc {K:bP} {cH:Int} : ∀ {x:ak} {k:Int} {v v':aR},ou K cH k x v=some v'->Ag K v v'
 |[],_,_,_,h=>by cases h;exact⟨.refl _ _,id⟩
 |y::r,k,v,v',h=>by
  unfold ou at h;cases h1:((!(y==0))==decide (k*16<cH))with
  |false=>rw[h1]at h;cases h
  |true=>
   rw[h1,ae]at h;cases h2:(y==0)with
   |true=>rw[h2]at h;exact Vc h
   |false=>
    rw[h2,af]at h;split at h
    .rename_i x v1 ht
     split at h
     .cases h
     .rename_i w hw
      exact((UG ht).trans (Vm hw)).trans (Vc h)
    .cases h
theorem Zxf (h:oy K v=some v'):Ag K v v':=by
 unfold oy at h;cases h1:(K.sup.used==0)with
 |true=>rw[h1]at h;cases h;exact⟨.refl _ _,id⟩
 |false=>
  rw[h1,af]at h;split at h
  .rename_i x v1 ht
   exact(UG ht).trans (Vc h)
  .cases h
def Ac (K:bP) (aG:List bB) (e:bm):Prop:=0<=e.slot/\e.slot<K.sup.used/\∃y,aG[e.slot.toNat]? =some y/\y.live=true/\y.gen=e.gen
theorem ZnM {K:bP} : ∀ {f:Nat} {out xH:List bm} {todo:List nB} {v v':aR},jX K f out todo v=some (xH,v')->(∀e∈out,Ac K v.aG e)->(∀e∈xH,Ac K v.aG e)/\v'.nodes+out.length=v.nodes+xH.length/\WS K.m v v'
 |0,_,_,_,_,_,h,_=>by cases h
 |f+1,out,xH,[],v,v',h,h1=>by cases h;exact⟨h1,rfl,.refl _ _⟩
 |f+1,out,xH,t::r,v,v',h,h1=>by
  unfold jX at h;cases ht:dT K t.block v with
  |none=>rw[ht]at h;cases h
  |some q=>
   have⟨b,v1⟩:=q;rw[ht]at h;have⟨g1,g2,g3,g4,g5,g6⟩:=Z4 ht;cases b with
   |leaf x=>cases h
   |cm x=>cases h
   |queue x=>cases h
   |dir x=>cases h
   |none=>cases h
   |node x=>
    simp only at h;cases hf:vt K v1 t x with
    |false=>rw[hf]at h;cases h
    |true=>
     rw[hf,ae]at h;have PH:=(IP (ZnH g6.symm).1).1;unfold vt at hf;rw[aY]at hf;have h3:=hf.2;cases hd:decide (x.bL.slot<K.sup.used)with
     |false=>rw[hd]at h3;cases h3
     |true=>
      rw[hd,ae]at h3;unfold El at h3;cases pY:v1.aG[x.bL.slot.toNat]? with
      |none=>rw[pY]at h3;cases h3
      |some y=>
       rw[pY]at h3;simp only[aY,and_true]at h3;have⟨Fo,Lf,HK⟩:=h3;have iL:Ac K v.aG x.bL:=⟨PH,mW hd,y,by rw[<-g1];exact pY,eq_of_beq Fo,eq_of_beq Lf⟩;have⟨a,b,c⟩:=ZnM (v:= { v1 with nodes:=v1.nodes+1 }) h (λe he=>by
        grind)
       refine⟨λe he=>?_,?_,(NK ht).trans ((WS.same rfl).trans c)⟩
       .have:Ac K v1.aG e:=a e he
        rwa [g1]at this
       grind
theorem T6 {K:bP} : ∀ {l:ak} {k:Int} {acc es:List bm} {v v':aR},v.W.length=(K.m+63)/64->mw K k l acc v=some (es,v')->(∀e∈acc,Ac K v.aG e)->(∀e∈es,Ac K v.aG e)/\v'.nodes+acc.length=v.nodes+es.length/\WS K.m v v'/\v'.aG=v.aG/\∀P:List bm,(∀e∈P++acc,vg v e)->Diff (P++acc)->(∀e∈P++es,vg v' e)/\Diff (P++es)
 |[],_,_,_,_,_,_,h,h1=>by cases h;exact⟨h1,rfl,.refl _ _,rfl,λP a b=>⟨a,b⟩⟩
 |y::r,k,acc,es,v,v',hl,h,h1=>by
  unfold mw at h;cases hy:(!(y==0))with
  |false=>rw[hy,af]at h;exact T6 hl h h1
  |true=>
   rw[hy,ae]at h;cases ht:su K y k v with
   |none=>rw[ht]at h;cases h
   |some q=>
    have⟨out,v1⟩:=q;rw[ht]at h;have⟨a,b,c⟩:=ZnM ht (λ_ h=>by cases h);have⟨_,_,t3,_,t5,_,_,_⟩:=I8 (acc:=[]) hl ht (λ_ h=>by cases h) .nil;have⟨d,e,f,g,i⟩:=T6 t3 h (λx hx=>by
     rw[t5];grind)
    rw[t5]at d;refine⟨d,?_,c.trans f,g.trans t5,λP pa pd=>?_⟩
    .rw[bz]at e
     rw[xS]at b;omega
    .have⟨u1,u2,_⟩:=I8 (acc:=P++acc) hl ht (by simpa using pa) (by simpa using pd)
     grind
end Go.Gv.F
