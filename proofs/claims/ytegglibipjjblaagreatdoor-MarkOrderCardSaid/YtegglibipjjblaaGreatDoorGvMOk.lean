/- What a walk that is whole has shown: sets, seats, entries. No program in sight. -/
import Derived.Test.YtegglibipjjblaaGreatDoorGvMPop2
namespace Go.Gv.F
open Go.Gv
def WS (m:Nat) (v v':WkV):Prop:=∃ks:List Int,v'.W=ks.foldl (addW m) v.W
theorem WS.refl (m:Nat) (v:WkV):WS m v v:=⟨[],rfl⟩
theorem WS.trans {m:Nat} {a b c:WkV} (h:WS m a b) (k:WS m b c):WS m a c:=by
 obtain ⟨x,h⟩:=h
 obtain ⟨y,k⟩:=k
 exact ⟨x++y,by rw [k,h,List.foldl_append]⟩
theorem WS.same {m:Nat} {a b:WkV} (h:b.W=a.W):WS m a b:=⟨[],h⟩
theorem ZkF {K:WkK} {k:Int} {v v':WkV} {b:BlockV} (h:takeM K k v=some (b,v')):WS K.m v v':=⟨[k],(Zdr h).2⟩
theorem ZqB {K:WkK} : ∀ {x:List SeatV} {k:Int} {v v':WkV},ZbM K k x v=some v'→v'.W=v.W∧((∀y∈v.seats,ZcW K.sup y=true)→∀y∈v'.seats,ZcW K.sup y=true)
 |[],_,_,_,h=>by cases h;exact ⟨rfl,id⟩
 |x::r,k,v,v',h=>by
  unfold ZbM at h
  cases h1:Zbh K k x v with
  |none=>rw [h1] at h;cases h
  |some w=>
   rw [h1] at h
   obtain ⟨a,b⟩:=ZqB h
   unfold Zbh at h1
   cases h2:decide (k≥K.sup.used) with
   |true=>
    rw [h2,cond_true] at h1
    cases h3:Zig x with
    |true=>rw [h3] at h1;cases h1;exact ⟨a,b⟩
    |false=>rw [h3] at h1;cases h1
   |false=>
    rw [h2,cond_false] at h1
    cases h3:ZcW K.sup x with
    |true=>
     rw [h3] at h1
     cases h1
     refine ⟨a,fun hs=>b fun y hy=>?_⟩
     rcases List.mem_append.1 hy with hy|hy
     ·exact hs y hy
     ·rw [List.mem_singleton.1 hy];exact h3
    |false=>rw [h3] at h1;cases h1
def WSok (K:WkK) (v v':WkV):Prop:=WS K.m v v'∧((∀y∈v.seats,ZcW K.sup y=true)→∀y∈v'.seats,ZcW K.sup y=true)
theorem WSok.trans {K:WkK} {a b c:WkV} (h:WSok K a b) (k:WSok K b c):WSok K a c:=⟨h.1.trans k.1,fun e=>k.2 (h.2 e)⟩
theorem ZkT {K:WkK} {k:Int} {v v':WkV} {b:BlockV} (h:takeM K k v=some (b,v')):WSok K v v':=⟨ZkF h,by rw [(ZD h).1];exact id⟩
theorem Zw4 {K:WkK} {k slot:Int} {v v':WkV} (h:leafM K k slot v=some v'):WSok K v v':=by
 unfold leafM at h
 split at h
 ·rename_i x v1 ht
  obtain ⟨a,b⟩:=ZqB h
  exact (ZkT ht).trans ⟨WS.same a,b⟩
 ·cases h
theorem Zmc {K:WkK} {cnt x5:Int} : ∀ {x:List Int} {k:Int} {v v':WkV},Zbb K cnt x5 k x v=some v'→WSok K v v'
 |[],_,_,_,h=>by cases h;exact ⟨.refl _ _,id⟩
 |y::r,k,v,v',h=>by
  unfold Zbb at h
  cases h1:((!(y==0))==decide (x5*16+k<cnt)) with
  |false=>rw [h1] at h;cases h
  |true=>
   rw [h1,cond_true] at h
   cases h2:(!(y==0)) with
   |false=>rw [h2] at h;exact Zmc h
   |true=>
    rw [h2,cond_true] at h
    split at h
    ·cases h
    ·rename_i w hw
     exact (Zw4 hw).trans (Zmc h)
theorem ZlS {K:WkK} {cnt:Int} : ∀ {x:List Int} {k:Int} {v v':WkV},Zb1 K cnt k x v=some v'→WSok K v v'
 |[],_,_,_,h=>by cases h;exact ⟨.refl _ _,id⟩
 |y::r,k,v,v',h=>by
  unfold Zb1 at h
  cases h1:((!(y==0))==decide (k*16<cnt)) with
  |false=>rw [h1] at h;cases h
  |true=>
   rw [h1,cond_true] at h
   cases h2:(y==0) with
   |true=>rw [h2] at h;exact ZlS h
   |false=>
    rw [h2,cond_false] at h
    split at h
    ·rename_i x v1 ht
     split at h
     ·cases h
     ·rename_i w hw
      exact ((ZkT ht).trans (Zmc hw)).trans (ZlS h)
    ·cases h
theorem ZwW {K:WkK} {v v':WkV} (h:Zcg K v=some v'):WSok K v v':=by
 unfold Zcg at h
 cases h1:(K.sup.used==0) with
 |true=>rw [h1] at h;cases h;exact ⟨.refl _ _,id⟩
 |false=>
  rw [h1,cond_false] at h
  split at h
  ·rename_i x v1 ht
   exact (ZkT ht).trans (ZlS h)
  ·cases h
def EntL (K:WkK) (seats:List SeatV) (e:EntV):Prop:=0≤e.slot∧e.slot<K.sup.used∧∃y,seats[e.slot.toNat]? =some y∧y.live=true∧y.gen=e.gen
theorem ZmJ {K:WkK} : ∀ {f:Nat} {out out':List EntV} {todo:List TodoV} {v v':WkV},ZcP K f out todo v=some (out',v')→(∀e∈out,EntL K v.seats e)→(∀e∈out',EntL K v.seats e)∧v'.nodes+out.length=v.nodes+out'.length∧WS K.m v v'
 |0,_,_,_,_,_,h,_=>by cases h
 |f+1,out,out',[],v,v',h,h1=>by cases h;exact ⟨h1,rfl,.refl _ _⟩
 |f+1,out,out',t::r,v,v',h,h1=>by
  unfold ZcP at h
  cases ht:takeM K t.block v with
  |none=>rw [ht] at h;cases h
  |some q=>
   obtain ⟨b,v1⟩:=q
   rw [ht] at h
   obtain ⟨g1,g2,g3,g4,g5,g6⟩:=ZD ht
   cases b with
   |leaf x=>cases h
   |fan x=>cases h
   |queue x=>cases h
   |dir x=>cases h
   |none=>cases h
   |node x=>
    simp only at h
    cases hf:ZdN K v1 t x with
    |false=>rw [hf] at h;cases h
    |true=>
     rw [hf,cond_true] at h
     have hslot:=(Zjt (ZmM g6.symm).1).1
     unfold ZdN at hf
     rw [Bool.and_eq_true] at hf
     have h3:=hf.2
     cases hd:decide (x.ent.slot<K.sup.used) with
     |false=>rw [hd] at h3;cases h3
     |true=>
      rw [hd,cond_true] at h3
      unfold ZjK at h3
      cases hse:v1.seats[x.ent.slot.toNat]? with
      |none=>rw [hse] at h3;cases h3
      |some y=>
       rw [hse] at h3
       simp only [Bool.and_eq_true,and_true] at h3
       obtain ⟨hy1,hy2,hy3⟩:=h3
       have hnew:EntL K v.seats x.ent:=⟨hslot,of_decide_eq_true hd,y,by rw [←g1];exact hse,eq_of_beq hy1,eq_of_beq hy2⟩
       obtain ⟨a,b,c⟩:=ZmJ (v:= { v1 with nodes:=v1.nodes+1 }) h (fun e he=>by
        show EntL K v1.seats e
        rw [g1]
        rcases List.mem_append.1 he with he|he
        ·exact h1 e he
        ·rw [List.mem_singleton.1 he];exact hnew)
       refine ⟨fun e he=>?_,?_,(ZkF ht).trans ((WS.same rfl).trans c)⟩
       ·have:EntL K v1.seats e:=a e he
        rwa [g1] at this
       ·rw [List.length_append,List.length_singleton] at b
        have b':v'.nodes+((out.length+1:Nat):Int)=v1.nodes+1+out'.length:=b
        omega
theorem Zic {K:WkK} : ∀ {l:List Int} {k:Int} {acc es:List EntV} {v v':WkV},v.W.length=(K.m+63)/64→Zbs K k l acc v=some (es,v')→(∀e∈acc,EntL K v.seats e)→(∀e∈es,EntL K v.seats e)∧v'.nodes+acc.length=v.nodes+es.length∧WS K.m v v'∧v'.seats=v.seats∧∀P:List EntV,(∀e∈P++acc,EntOk v e)→Diff (P++acc)→(∀e∈P++es,EntOk v' e)∧Diff (P++es)
 |[],_,_,_,_,_,_,h,h1=>by cases h;exact ⟨h1,rfl,.refl _ _,rfl,fun P a b=>⟨a,b⟩⟩
 |y::r,k,acc,es,v,v',hl,h,h1=>by
  unfold Zbs at h
  cases hy:(!(y==0)) with
  |false=>rw [hy,cond_false] at h;exact Zic hl h h1
  |true=>
   rw [hy,cond_true] at h
   cases ht:treeM K y k v with
   |none=>rw [ht] at h;cases h
   |some q=>
    obtain ⟨out,v1⟩:=q
    rw [ht] at h
    obtain ⟨a,b,c⟩:=ZmJ ht (fun _ h=>by cases h)
    obtain ⟨_,_,t3,_,t5,_,_,_⟩:=ZgP (acc:=[]) hl ht (fun _ h=>by cases h) .nil
    obtain ⟨d,e,f,g,i⟩:=Zic t3 h (fun x hx=>by
     rw [t5]
     rcases List.mem_append.1 hx with hx|hx
     ·exact h1 x hx
     ·exact a x hx)
    rw [t5] at d
    refine ⟨d,?_,c.trans f,g.trans t5,fun P pa pd=>?_⟩
    ·rw [List.length_append] at e
     rw [List.length_nil] at b
     omega
    ·obtain ⟨u1,u2,_⟩:=ZgP (acc:=P++acc) hl ht (by simpa using pa) (by simpa using pd)
     exact i P (by rw [←List.append_assoc];exact u1) (by rw [←List.append_assoc];exact u2)
end Go.Gv.F
