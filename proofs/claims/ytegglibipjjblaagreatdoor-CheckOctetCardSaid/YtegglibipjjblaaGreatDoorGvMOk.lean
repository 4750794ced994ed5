/- What a walk that is whole has shown: sets, seats, entries. No program in sight. -/
import Derived.Test.YtegglibipjjblaaGreatDoorGvZMh
set_option linter.all false
namespace Go.Gv.F
open Go.Gv
def WS (m:Nat) (v v':aI):Prop:=∃ks:ak,v'.W=ks.foldl (bA m) v.W
theorem WS.refl (m:Nat) (v:aI):WS m v v:=⟨[],rfl⟩
variable {k slot:Int} {m:Nat} {c v v':aI} {K:bu}
theorem WS.trans {a b:aI} (h:WS m a b) (k:WS m b c):WS m a c:=by
 have⟨x,h⟩:=h;have⟨y,k⟩:=k;exact⟨x++y,by rw[k,h,wZ]⟩
theorem WS.same {a b:aI} (h:b.W=a.W):WS m a b:=⟨[],h⟩
theorem NW {b:xa} (h:dC K k v=some (b,v')):WS K.m v v':=⟨[k],(yB h).2⟩
theorem Zrx {K:bu} : ∀ {x:List aX} {k:Int} {v v':aI},jY K k x v=some v'->v'.W=v.W/\((∀y∈v.ay,nk K.sup y=true)->∀y∈v'.ay,nk K.sup y=true)
 |[],_,_,_,h=>by cases h;exact⟨rfl,id⟩
 |x::r,k,v,v',h=>by
  unfold jY at h;cases h1:mO K k x v
  .rw[h1]at h;cases h
  .rename_i w;rw[h1]at h;have⟨a,b⟩:=Zrx h;grind[mO]
def Ai (K:bu) (v v':aI):Prop:=WS K.m v v'/\((∀y∈v.ay,nk K.sup y=true)->∀y∈v'.ay,nk K.sup y=true)
theorem Ai.trans {K:bu} {a b c:aI} (h:Ai K a b) (k:Ai K b c):Ai K a c:=⟨h.1.trans k.1,λe=>k.2 (h.2 e)⟩
theorem Ul {b:xa} (h:dC K k v=some (b,v')):Ai K v v':=⟨NW h,by rw[(Z4 h).1];exact id⟩
theorem ZyJ (h:kG K k slot v=some v'):Ai K v v':=by
 unfold kG at h;split at h
 .rename_i x v1 ht
  have⟨a,b⟩:=Zrx h;exact(Ul ht).trans ⟨WS.same a,b⟩
 .cases h
theorem Vn {K:bu} {cnt x5:Int} : ∀ {x:ak} {k:Int} {v v':aI},jl K cnt x5 k x v=some v'->Ai K v v'
 |[],_,_,_,h=>by cases h;exact⟨.refl _ _,id⟩
 |y::r,k,v,v',h=>by
  unfold jl at h;cases h1:((!(y==0))==decide (x5*16+k<cnt))
  .rw[h1]at h;cases h
  .rw[h1,ae]at h;cases h2:(!(y==0))
   .rw[h2]at h;exact Vn h
   .rw[h2,ae]at h;split at h
    .cases h
    .rename_i w hw
     exact(ZyJ hw).trans (Vn h)
theorem Vs {K:bu} {cnt:Int} : ∀ {x:ak} {k:Int} {v v':aI},lC K cnt k x v=some v'->Ai K v v'
 |[],_,_,_,h=>by cases h;exact⟨.refl _ _,id⟩
 |y::r,k,v,v',h=>by
  unfold lC at h;cases h1:((!(y==0))==decide (k*16<cnt))
  .rw[h1]at h;cases h
  .rw[h1,ae]at h;cases h2:(y==0)
   .rw[h2,af]at h;split at h
    .rename_i x v1 ht
     split at h
     .cases h
     .rename_i w hw
      exact((Ul ht).trans (Vn hw)).trans (Vs h)
    .cases h
   .rw[h2]at h;exact Vs h
theorem Zyf (h:lD K v=some v'):Ai K v v':=by
 unfold lD at h;cases h1:(K.sup.used==0)
 .rw[h1,af]at h;split at h
  .rename_i x v1 ht
   exact(Ul ht).trans (Vs h)
  .cases h
 .rw[h1]at h;cases h;exact⟨.refl _ _,id⟩
def Af (K:bu) (ay:List aX) (e:aP):Prop:=0<=e.slot/\e.slot<K.sup.used/\∃y,ay[e.slot.toNat]? =some y/\y.live=true/\y.gen=e.gen
theorem Zns {K:bu} : ∀ {f:Nat} {out xZ:List aP} {todo:List l8} {v v':aI},ZT K f out todo v=some (xZ,v')->(∀e∈out,Af K v.ay e)->(∀e∈xZ,Af K v.ay e)/\v'.nodes+out.length=v.nodes+xZ.length/\WS K.m v v'
 |0,_,_,_,_,_,h,_=>by cases h
 |f+1,out,xZ,[],v,v',h,h1=>by cases h;exact⟨h1,rfl,.refl _ _⟩
 |f+1,out,xZ,t::r,v,v',h,h1=>by
  unfold ZT at h;cases ht:dC K t.block v
  .rw[ht]at h;cases h
  .rename_i q;have⟨b,v1⟩:=q;rw[ht]at h;have⟨g1,g2,g3,g4,g5,g6⟩:=Z4 ht;cases b with
   |leaf x=>cases h
   |bY x=>cases h
   |queue x=>cases h
   |dir x=>cases h
   |none=>cases h
   |node x=>
    simp only at h;cases hf:qj K v1 t x
    .rw[hf]at h;cases h
    .rw[hf,ae]at h;have PS:=(Iw (ZnL g6.symm).1).1;unfold qj at hf;rw[aS]at hf;have h3:=hf.2;cases hd:decide (x.br.slot<K.sup.used)
     .rw[hd]at h3;cases h3
     .rw[hd,ae]at h3;unfold Ch at h3;cases qH:v1.ay[x.br.slot.toNat]?
      .rw[qH]at h3;cases h3
      .rename_i y;rw[qH]at h3;simp only[aS,and_true]at h3;have⟨E8,Ld,HH⟩:=h3;have iY:Af K v.ay x.br:=⟨PS,ng hd,y,by rw[<-g1];exact qH,eq_of_beq E8,eq_of_beq Ld⟩;have⟨a,b,c⟩:=Zns (v:= { v1 with nodes:=v1.nodes+1 }) h (λe he=>by
        grind)
       refine⟨λe he=>?_,?_,(NW ht).trans ((WS.same rfl).trans c)⟩
       .have:Af K v1.ay e:=a e he
        rwa [g1]at this
       grind
theorem Tn {K:bu} : ∀ {l:ak} {k:Int} {acc es:List aP} {v v':aI},v.W.length=(K.m+63)/64->Z2 K k l acc v=some (es,v')->(∀e∈acc,Af K v.ay e)->(∀e∈es,Af K v.ay e)/\v'.nodes+acc.length=v.nodes+es.length/\WS K.m v v'/\v'.ay=v.ay/\∀P:List aP,(∀e∈P++acc,vM v e)->Diff (P++acc)->(∀e∈P++es,vM v' e)/\Diff (P++es)
 |[],_,_,_,_,_,_,h,h1=>by cases h;exact⟨h1,rfl,.refl _ _,rfl,λP a b=>⟨a,b⟩⟩
 |y::r,k,acc,es,v,v',hl,h,h1=>by
  unfold Z2 at h;cases hy:(!(y==0))
  .rw[hy,af]at h;exact Tn hl h h1
  .rw[hy,ae]at h;cases ht:oY K y k v
   .rw[ht]at h;cases h
   .rename_i q;have⟨out,v1⟩:=q;rw[ht]at h;have⟨a,b,c⟩:=Zns ht (λ_ h=>by cases h);have⟨_,_,t3,_,t5,_,_,_⟩:=IX (acc:=[]) hl ht (λ_ h=>by cases h) .nil;have⟨d,e,f,g,i⟩:=Tn t3 h (λx hx=>by
     rw[t5];grind)
    rw[t5]at d;refine⟨d,?_,c.trans f,g.trans t5,λP pa pd=>?_⟩
    .rw[ba]at e
     rw[Aa]at b;omega
    .have⟨u1,u2,_⟩:=IX (acc:=P++acc) hl ht (by simpa using pa) (by simpa using pd)
     grind
