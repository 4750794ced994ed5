/- What is made later leaves the lines that were put. No program in sight. -/
import Derived.Test.YtegglibipjjblaaGreatDoorGvZMe
namespace Go.Gv.F
open Go.Gv
def lineB (l:List UInt8) (k:Nat):List UInt8:=(l.drop (64*k)).take 64
structure Ex (m m':MkV):Prop where
 len:m'.B.length=m.B.length
 le:m.next≤m'.next
 line: ∀k,k<m.next→lineB m'.B k=lineB m.B k
theorem Ex.refl (m:MkV):Ex m m:=⟨rfl,Nat.le_refl _,fun _ _=>rfl⟩
theorem Ex.trans {a b c:MkV} (h:Ex a b) (k:Ex b c):Ex a c:=⟨k.len.trans h.len,Nat.le_trans h.le k.le,fun j hj=>(k.line j (Nat.lt_of_lt_of_le hj h.le)).trans (h.line j hj)⟩
theorem Ex.at {m m':MkV} (h:Ex m m') (l:List Int):Ex m { m' with At:=l } :=⟨h.len,h.le,h.line⟩
theorem Zv8 {B s:List UInt8} {n k:Nat} (hn:64*n≤B.length) (hk:k<n):lineB (ovB B (64*n) s) k=lineB B k:=by
 unfold lineB ovB;rw[List.drop_append_of_le_length (by rw[List.length_take];omega),List.take_append_of_le_length (by rw[List.length_drop,List.length_take];omega),List.drop_take,List.take_take,Nat.min_eq_left (by omega)]
theorem ZzX {B s:List UInt8} {n:Nat} (hn:64*n+64≤B.length) (hs:s.length=64):lineB (ovB B (64*n) s) n=s:=by
 unfold lineB ovB;have hl:(B.take (64*n)).length=64*n:=by rw[List.length_take];omega
 rw[List.drop_append,hl,Nat.sub_self,List.drop_eq_nil_of_le (by omega),List.nil_append,List.drop_zero,List.take_of_length_le (l:=s) (by omega),List.take_append_of_le_length (by omega),List.take_of_length_le (by omega)]
theorem ZvU {B s:List UInt8} {n k:Nat} (hn:64*n+64≤B.length) (hs:s.length=64) (hk:n<k):lineB (ovB B (64*n) s) k=lineB B k:=by
 unfold lineB ovB;have hl:(B.take (64*n)).length=64*n:=by rw[List.length_take];omega
 have hs2:(s.take (B.length-64*n)).length=64:=by rw[List.length_take];omega
 rw[List.drop_append,hl,List.drop_eq_nil_of_le (by omega),List.nil_append,List.drop_append,hs2,List.drop_eq_nil_of_le (by omega),List.nil_append,List.drop_drop,hs];rw[show 64*n+64+(64*k-64*n-64)=64*k by omega]
theorem Ex.put (m:MkV) (s:List UInt8):Ex m (putB m s):=by
 refine⟨Zcb m s,Nat.le_succ _,fun k hk=>?_⟩;unfold putB;by_cases h:64*m.next+64≤m.B.length
 ·simp only[decide_eq_true h,cond_true]
  exact Zv8 (by omega) hk
 ·simp only[decide_eq_false h,cond_false]
theorem Ex.fin (es:List EntV) (r:List Int×MkV):Ex r.2 (finB es r).2:=by
 unfold finB;cases es with
 |nil=>exact .refl _
 |cons e t=>exact(Ex.put r.2 _).at _
theorem Ex.kids: ∀(j:Nat) (es:List EntV) (m:MkV),Ex m (kidsB j es m).2
 |0,_,m=> .refl m
 |j+1,es,m=>((Ex.kids j es m).trans (Ex.kids j _ _)).trans (Ex.fin _ _)
theorem Ex.tree (j:Nat) (es:List EntV) (m:MkV):Ex m (treeB j es m).2:=(Ex.kids j es m).trans (Ex.fin _ _)
theorem Ex.rootGo (cnt:Nat): ∀(c k:Nat) (hs:List Int) (rest:List EntV) (m:MkV),Ex m (rootGo cnt c k hs rest m).2
 |0,_,_,_,m=> .refl m
 |c+1,k,hs,rest,m=>by
  unfold F.rootGo;cases bitF cnt k with
  |true=>exact(Ex.tree k _ m).trans (Ex.rootGo cnt c _ _ _ _)
  |false=>exact Ex.rootGo cnt c _ _ _ _
theorem Ex.dirGoB: ∀(l:List HeapV) (ats:List Int) (m:MkV),Ex m (dirGoB l ats m).2
 |[],_,m=> .refl m
 |_x::r,_ats,m=>((Ex.rootGo _ _ _ _ _ m).trans (Ex.put _ _)).trans (Ex.dirGoB r _ _)
theorem Ex.dirB (l:List HeapV) (m:MkV):Ex m (dirB l m).2:=by
 unfold F.dirB;have:=Ex.dirGoB l [] m;generalize F.dirGoB l [] m=t at this;simp only;cases ZhY t.1 with
 |none=>exact this
 |some s=>exact this.trans (Ex.put _ _)
theorem Ex.leavesB (gens free:List Int): ∀(c f:Nat) (ls:List Int) (m:MkV),Ex m (leavesB gens free c f ls m).2
 |0,_,_,m=> .refl m
 |c+1,f,ls,m=>by
  unfold F.leavesB;cases decide (f<gens.length)with
  |true=>exact(Ex.put m _).trans (Ex.leavesB gens free c _ _ _)
  |false=>exact .refl m
theorem Ex.fansB (leaves:List Int): ∀(c i:Nat) (top:List Int) (m:MkV),Ex m (fansB leaves c i top m).2
 |0,_,_,m=> .refl m
 |c+1,i,top,m=>by
  unfold F.fansB;cases decide (16*i<leaves.length)with
  |true=>exact(Ex.put m _).trans (Ex.fansB leaves c _ _ _)
  |false=>exact .refl m
theorem Ex.seatsB (gens free:List Int) (m:MkV):Ex m (seatsB gens free m).2:=by
 unfold F.seatsB;have:=Ex.leavesB gens free gens.length 0 [] m;generalize F.leavesB gens free gens.length 0 [] m=t at this;simp only;cases Nat.beq t.1.length 0 with
 |true=>exact this
 |false=>exact(this.trans (Ex.fansB _ _ _ _ _)).trans (Ex.put _ _)
theorem Ex.chartsB (used:List Int): ∀(c i:Nat) (m:MkV),Ex m (chartsB used c i m)
 |0,_,m=> .refl m
 |c+1,_i,m=>(Ex.put m _).trans (Ex.chartsB used c _ _)
theorem Ex.all (x:StV):Ex (mk0 x) (F.chartsB (usedB x) (needC x) 0 (mk2 x).2):=((Ex.dirB x.heaps (mk0 x)).trans (Ex.seatsB x.gens x.free (mk1 x).2)).trans (Ex.chartsB _ _ _ _)
end Go.Gv.F
