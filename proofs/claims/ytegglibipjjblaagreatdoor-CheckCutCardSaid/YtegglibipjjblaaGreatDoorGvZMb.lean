/- A block of an image, taken once: the walker's first steps. -/
import Derived.Test.YtegglibipjjblaaGreatDoorGvZMa
namespace Go.Gv.F
open Go.Gv
variable {β:Type}
theorem ZyD {α:Type} {m:M α} {K:α→M β} {s s':St} (h:m s=some (.pan,s')):M.call m K s=some (.pan,s'):=by unfold M.call;rw[h]
theorem Ok.callP {α:Type} {P:Out α×St→Prop} {Q:Out β×St→Prop} {m:M α} {K:α→M β} {s:St} (h:Ok P (m s))
  (k1: ∀s',P (.pan,s')→Q (.pan,s')) (k2: ∀ds s',P (.val ds,s')→Ok Q (K ds s')):Ok Q (M.call m K s):=by
 obtain⟨⟨o,s'⟩,e,hp⟩:=h;unfold M.call;rw[e];cases o with
 |val ds=>exact k2 ds s' hp
 |pan=>exact .mk (k1 s' hp)
theorem D_ptr (p:Option (Nat×Nat)) (K:Option (Nat×Nat)→M β):D.ptr (.ptr p) K=K p:=rfl
theorem ZyB (s:St):ZR s.length s=s:=by unfold ZR;simp
theorem ZvF {Bd:Za} (h:ZU Bd) (n:Nat) (b:Bool) (st:St):run Bd (n+1) 225 [.bool b] st=some (bif b then(.val [],st)else(.pan,st)):=by
 rw[Zf,h.eq];unfold Zgl;simp only[J_b,D_nil,Zc];cases b<;>rfl
theorem Zbi {Bd:Za} (h:ZU Bd) (n:Nat) {b:Bool} (hb:b=true) (st:St) (K:List DV→M β):M.call (run Bd (n+1) 225 [.bool b]) K st=K [] st:=by
 rw[hb];exact Zi (ZvF h n true st)
theorem ZH {Bd:Za} (h:ZU Bd) (n:Nat) {b:Bool} (hb:b=false) (st:St) (K:List DV→M β):M.call (run Bd (n+1) 225 [.bool b]) K st=some (.pan,st):=by
 rw[hb];exact ZyD (ZvF h n false st)
def ZbP (img:List UInt8) (k:Nat):List UInt8:=(img.drop (k*64)).take 64
theorem ZlS {Bd:Za} (h:ZgF Bd) (n:Nat) (a:Option (Nat×Nat)) (len k:Nat) (st:St) (hl:len<1000000) (hk:(k+1)*64≤len):
  run Bd (n+1) 203 [.slice 1 a len,.int .i64 k] st=some (.val [.slice 1 (cutA true a (k*64)) 64],st):=by
 rw[Zf,h.eq];unfold ZgR;simp only[J_l,J_i,D_nil];rw[Zb6];have h1:wr64 ((k:Int)+1)=((k+1:Nat):Int):=Zd (by omega) (by omega);have h2:wr64 (((k+1:Nat):Int)*64)=(((k+1)*64:Nat):Int):=by rw[Zd (by omega) (by omega)];omega
 have h3:wr64 ((k:Int)*64)=((k*64:Nat):Int):=by rw[Zd (by omega) (by omega)];omega
 simp only[h1,h2,h3,Int.toNat_natCast,Nat.mul_one];rw[Ze (by rw[Bool.and_eq_true,decide_eq_true_iff,decide_eq_true_iff];omega),Ze (by rw[Bool.and_eq_true,decide_eq_true_iff,decide_eq_true_iff];omega),ZE,ZyB,show(k+1)*64-k*64=64 by omega]
inductive BlockV where
 |node (x:NodeV)
 |leaf (x:List SeatV)
 |fan (x:List Int)
 |queue (x:Zdb)
 |dir (x:List Int)
 |none
def ZbV (l:List UInt8):BlockV:=
 match getN l with
 |some x=> .node x
 |none=>match Ze5 l with
  |some x=> .leaf x
  |none=>match ZjR l with
   |some x=> .fan x
   |none=>match ZeR l with
    |some x=> .queue x
    |none=>match Zpg l with
     |some x=> .dir x
     |none=> .none
def BlkAt (s:St):BlockV→DV→Prop
 | .node x,d=>∃p,d= .iface 6 (.agg (nodeC x 1 p))∧Fz s p (ints x.kids)∧Zej x=true∧x.kids.length≤12
 | .leaf x,d=>d= .iface 5 (.agg (leafC x))∧x.length=7
 | .fan x,d=>d= .iface 2 (.agg (ints x))∧x.length=16
 | .queue x,d=>d= .iface 4 (.agg (ZdE x))∧x.heads.length=12
 | .dir x,d=>∃p,d= .iface 3 (.agg [.slice 1 p x.length])∧Fz s p (ints x)∧x.length≤16
 | .none,d=>d= .nilIface
theorem Zje {l:List UInt8} {x:List SeatV} (h:Ze5 l=some x):x.length=7:=by
 unfold Ze5 at h;split at h
 ·cases h
 ·rename_i k t b _
  cases e:(decide (k=2)&&decide (t<128))with
  |false=>rw[e]at h;cases h
  |true=>
   rw[e]at h;cases e2:(ZbI b t 7).all ZW with
   |false=>rw[e2]at h;cases h
   |true=>rw[e2]at h;cases h;exact Zky b t 7
theorem Zsk {Bd:Za} (h:Ziq Bd) (n:Nat) (a:Option (Nat×Nat)) (l:List UInt8) (st:St) (ha:Byt st a l) (hl:l.length<1000000) (hn:161≤n):
  Ok (fun o=>∃d s',o=(.val [d],s')∧Pre st s'∧BlkAt s' (ZbV l) d) (run Bd n 256 [.slice 1 a l.length] st):=by
 obtain⟨n,rfl⟩: ∃m,n=m+1:=⟨n-1,by omega⟩;rw[Zf,h.eq];unfold Zfe ZbV;simp only[J_l,D_nil];refine Ok.call (Zve h.q131 n a l st ha hl (by omega)) ?_;rintro _ ⟨s1,hp1,ho1⟩;cases hg1:getN l with
 |some x=>
  rw[hg1]at ho1;obtain⟨p,rfl,hf⟩:=ho1;refine⟨_,s1,rfl,?_⟩;unfold nodeC entC;simp only[List.cons_append,List.nil_append,J_a,J_i,J_l,J_b,D_nil,cond_true,Zb];exact .mk ⟨_,s1,rfl,hp1,p,rfl,hf,(Zlq hg1).1,(Zlq hg1).2⟩
 |none=>
 rw[hg1]at ho1;subst ho1;refine⟨_,s1,rfl,?_⟩;simp only[J_a,J_i,J_b,D_nil,Zm 1 0 none _ (.inr rfl),cond_false];have ha1:=ha.mono hp1;refine Ok.call (Zpa h.q55 n a l s1 ha1 hl (by omega)) ?_;rintro _ ⟨s2,hp2,ho2⟩;cases hg2:Ze5 l with
 |some x=>
  rw[hg2]at ho2;subst ho2;refine⟨_,s2,rfl,?_⟩;have hlen:(leafC x).length=21:=by rw[ZN,Zje hg2]
  simp only[J_a,J_b,D_nil,cond_true];rw[D_len hlen,D_len hlen,Zb];exact .mk ⟨_,s2,rfl,hp1.trans hp2,rfl,Zje hg2⟩
 |none=>
 rw[hg2]at ho2;subst ho2;refine⟨_,s2,rfl,?_⟩;simp only[J_a,J_b,D_nil,cond_false];rw[D_len (cs:=leafC leaf0) (n:=21) rfl,D_len (cs:=leafC leaf0) (n:=21) rfl];have ha2:=ha1.mono hp2;refine Ok.call (ZpP h.q70 n a l s2 ha2 hl (by omega)) ?_;rintro _ ⟨s3,hp3,ho3⟩;cases hg3:ZjR l with
 |some x=>
  rw[hg3]at ho3;obtain⟨rfl,hx⟩:=ho3;refine⟨_,s3,rfl,?_⟩;have hlen:(ints x).length=16:=by simp[ints,hx]
  simp only[J_a,J_b,D_nil,cond_true];rw[D_len hlen,D_len hlen,Zb];exact .mk ⟨_,s3,rfl,(hp1.trans hp2).trans hp3,rfl,hx⟩
 |none=>
 rw[hg3]at ho3;subst ho3;refine⟨_,s3,rfl,?_⟩;simp only[J_a,J_b,D_nil,cond_false];rw[D_len (cs:=ints (List.replicate 16 0)) (n:=16) rfl,D_len (cs:=ints (List.replicate 16 0)) (n:=16) rfl];have ha3:=ha2.mono hp3;refine Ok.call (ZmG h.q32 n a l s3 ha3 hl (by omega)) ?_;rintro _ ⟨s4,hp4,ho4⟩;cases hg4:ZeR l with
 |some x=>
  rw[hg4]at ho4;obtain⟨rfl,hx⟩:=ho4;refine⟨_,s4,rfl,?_⟩;have hlen:(ints x.heads).length=12:=by simp[ints,hx]
  unfold ZdE;simp only[J_a,J_s,J_i,J_b,D_nil,cond_true];rw[D_len hlen,D_len (by simp[hlen]),Zb];exact .mk ⟨_,s4,rfl,((hp1.trans hp2).trans hp3).trans hp4,rfl,hx⟩
 |none=>
 rw[hg4]at ho4;subst ho4;refine⟨_,s4,rfl,?_⟩;unfold ZdE;simp only[J_a,J_s,J_i,J_b,D_nil,cond_false];rw[D_len (cs:=ints ZxJ.heads) (n:=12) rfl,D_len (n:=14) rfl];have ha4:=ha3.mono hp4;refine Ok.call (ZoD h.q49 n a l s4 ha4 hl (by omega)) ?_;rintro _ ⟨s5,hp5,ho5⟩;cases hg5:Zpg l with
 |some x=>
  rw[hg5]at ho5;obtain⟨p,rfl,hf,hx⟩:=ho5;refine⟨_,s5,rfl,?_⟩;simp only[J_a,J_l,J_b,D_nil,cond_true,Zb];exact .mk ⟨_,s5,rfl,(((hp1.trans hp2).trans hp3).trans hp4).trans hp5,p,rfl,hf,hx⟩
 |none=>
 rw[hg5]at ho5;subst ho5;refine⟨_,s5,rfl,?_⟩;simp only[J_a,Zm 1 0 none _ (.inr rfl),J_b,D_nil,cond_false,Zb];exact .mk ⟨_,s5,rfl,(((hp1.trans hp2).trans hp3).trans hp4).trans hp5,rfl⟩
def freeF (m:Nat) (W:List Nat) (k:Int):Bool:=decide (k≥2)&&(mayF m k&& !inW W k.toNat)
theorem Zy6 {Bd:Za} (h:Z4 Bd) (n w:Nat) (a:Option (Nat×Nat)) (img:List UInt8) {i j m:Nat} {W:List Nat} (k:Int) (st:St) {cs:List DV}
  (hw:st[w]? =some (some ⟨false,cs⟩)) (h0:cs[0]? =some (.slice 1 a img.length)) (h2:cs[2]? =some (.int .i64 m)) (h10:cs[10]? =some (.ptr (some (i,0))))
  (hs:SetM st false i j m W) (hij:i≠j) (hjw:w≠j) (ha:Byt st a img) (hoff:Off [j] a) (hm:m*64≤img.length) (hl:img.length<1000000) (hn:170≤n):
  Ok (fun o=>bif freeF m W k then ∃d s',o=(.val [d],s')∧Fx [j] st s'∧SetM s' false i j m (addW m W k)∧BlkAt s' (ZbV (ZbP img k.toNat)) d else o=(.pan,st)) (run Bd n 228 [.ptr (some (w,0)),.int .i64 k] st):=by
 obtain⟨n,rfl⟩: ∃k,n=k+4:=⟨n-4,by omega⟩;rw[Zf,h.eq];unfold Zck freeF;simp only[J_p,J_i,D_nil,Zc,nn_some'];by_cases hk2:k≥2;rotate_left
 ·rw[decide_eq_false hk2,cond_false]
  simp only[J_b,D_nil,cond_false,Bool.false_and];rw[ZH h.q111 (n+2) rfl];exact .mk rfl
 rw[decide_eq_true hk2,cond_true,Zn hw h2];simp only[D_int,J_b,D_nil,Bool.true_and];have hmay:mayF m k=decide (k<(m:Int)):=by unfold mayF;rw[decide_eq_true (show(0:Int)≤k by omega),Bool.true_and]
 rw[hmay];by_cases hkm:k<(m:Int);rotate_left
 ·rw[decide_eq_false hkm,cond_false]
  simp only[Bool.false_and,cond_false];rw[ZH h.q111 (n+2) rfl];exact .mk rfl
 rw[decide_eq_true hkm,cond_true,Zn hw h10];simp only[D_ptr,Bool.true_and];rw[Zi (Znc h.q46 (n+1) k st hs),hmay,decide_eq_true hkm,Bool.true_and];simp only[J_b,D_nil];cases hin:inW W k.toNat with
 |true=>
  simp only[Bool.not_true,cond_false];rw[ZH h.q111 (n+2) rfl];exact .mk rfl
 |false=>
  simp only[Bool.not_false,cond_true];rw[Zbi h.q111 (n+2) rfl];simp only[D_nil];rw[Zn hw h10];simp only[D_ptr];rw[Zu];have hp1:=Pre.new st (some (⟨false,[DV.int .i64 k]⟩:Blk));have hs1:Sl (st++[some (⟨false,[DV.int .i64 k]⟩:Blk)]) (some (st.length,0)) (ints [k]):=ZlU st [DV.int .i64 k];have hsl:Off [j] (some (st.length,0)):=by
   intro b o e hb;cases e;have:=(List.getElem?_eq_some_iff.1 hs.wd).1;rw[List.mem_singleton.1 hb]at this;omega
  generalize st++[some (⟨false,[DV.int .i64 k]⟩:Blk)]=s1 at hp1 hs1;have hsm:=hs.pre hp1;have hadd:=Zeg h.q45 (n+3) [k] (some (st.length,0)) s1 hsm hij hs1 hsl (by simp) (by simp;omega);rw[show[k].length=1 from rfl]at hadd;rw[Zi hadd];simp only[D_nil];have hsm2:=hsm.add hij (addW m W k) (Zf8 _ _ _) (Zqy hsm.lt);have hfx:Fx [j] st (s1.set j (some ⟨false,Zp (addW m W k)⟩)):=(Fx.pre [j] hp1).trans (Fx.set s1 j _);have e1:[k].foldl (addW m) W=addW m W k:=rfl;rw[e1];generalize s1.set j (some ⟨false,Zp (addW m W k)⟩)=s2 at hsm2 hfx;have hw2:=hfx.2 w _ (by simpa using hjw) hw;have ha2:Byt s2 a img:=Sl.fx ha hfx hoff;rw[Zn hw2 h0];simp only[D_slice];obtain⟨kk,rfl⟩: ∃kk:Nat,k=kk:=⟨k.toNat,by omega⟩;rw[Zi (ZlS h.q110 (n+2) a img.length kk s2 hl (by omega))];simp only[J_l,D_nil];have hln:Byt s2 (cutA true a (kk*64)) (ZbP img kk):=(ha2.cutA (k:=kk*64) (by omega)).takes 64;have hl64:(ZbP img kk).length=64:=by unfold ZbP;rw[List.length_take,List.length_drop];omega
  have hb:=Zsk h.q89 (n+3) _ (ZbP img kk) s2 hln (by omega) (by omega);rw[hl64]at hb;refine Ok.call hb ?_;rintro _ ⟨d,s3,rfl,hp3,hblk⟩;refine⟨_,s3,rfl,?_⟩;simp only[J_d,D_nil,Zb];exact .mk ⟨d,s3,rfl,hfx.trans (Fx.pre [j] hp3),hsm2.pre hp3,hblk⟩
end Go.Gv.F
namespace Go.Gv.F
open Go.Gv
variable {β:Type}
structure SupV where
 seq:Int
 blocks:Int
 slots:Int
 g:Int
 fan:Int
 used:Int
 free:Int
 dir:Int
 charts:List Int
structure WkV where
 W:List Nat
 seats:List SeatV
 heaps:List HeapV
 gens:List Int
 free:List Int
 nodes:Int
structure WkK where
 w:Nat
 i:Nat
 j:Nat
 m:Nat
 a:Option (Nat×Nat)
 img:List UInt8
 sup:SupV
 pc:Option (Nat×Nat)
def slC (z:Nat) (p:Option (Nat×Nat)) (n:Nat):DV:= .slice z p n
def wkC (K:WkK) (v:WkV) (c11 c15 c16 c17:DV):List DV:=
 [.slice 1 K.a K.img.length,.int .i64 K.sup.seq,.int .i64 K.sup.blocks,.int .i64 K.sup.slots,.int .i64 K.sup.g,.int .i64 K.sup.fan,.int .i64 K.sup.used,.int .i64 K.sup.free,.int .i64 K.sup.dir,.slice 1 K.pc K.sup.charts.length,
  .ptr (some (K.i,0)),c11,.int .i64 K.sup.blocks,.int .i64 K.sup.slots,.int .i64 K.sup.g,c15,c16,c17,.int .i64 v.nodes]
def blk:Option (Nat×Nat)→List Nat
 |none=>[]
 |some (b,_)=>[b]
theorem Off.blk {L:List Nat} {a:Option (Nat×Nat)} (h: ∀b∈blk a,b∉L):Off L a:=by
 intro b o e;subst e;exact h b (by simp[F.blk])
theorem Own.fx {T:List Nat} {s s':St} {a:Option (Nat×Nat)} {cs:List DV} (h:Own [] s a cs) (k:Fx T s s') (n: ∀b∈blk a,b∉T):Own [] s' a cs:=by
 refine⟨⟨s',rfl⟩,?_⟩;rcases h.2 with h1|⟨i,rfl,h2,h3⟩
 ·exact .inl h1
 ·exact .inr ⟨i,rfl,h2,k.2 i _ (n i (by simp[blk])) h3⟩
theorem Own.blk_lt {s:St} {a:Option (Nat×Nat)} {cs:List DV} (h:Own [] s a cs): ∀b∈blk a,b<s.length:=by
 rcases h.2 with⟨rfl,_⟩|⟨i,rfl,_,h3⟩
 ·intro b hb;cases hb
 ·intro b hb;rw[List.mem_singleton.1 hb];exact(List.getElem?_eq_some_iff.1 h3).1
theorem Zd5 {s:St} {a:Option (Nat×Nat)} {cs:List DV} (h:Own [] s a cs) {sz n lim:Nat} (ds:List DV) (hz:0<sz) (hn:cs.length=n*sz) (hd:ds.length=sz) (hl:n+1≤lim):
  ∃b s',s.length≤b∧Own [] s' (some (b,0)) (cs++ds)∧Fx (blk a) s s'∧∀K:Option (Nat×Nat)→M β,(M.new ds fun i=>M.load i 0 sz fun cs'=>M.app sz a n cs' 1 lim K) s=K (some (b,0)) s':=by
 obtain⟨b,s',h1,h2,_,h4,h5⟩:=h.push3 (β:=β) ds hz hn hd hl;refine⟨b,s',h1,h2,⟨?_,fun i x hi e=>h4 i x e ?_⟩,h5⟩
 ·have:=Own.blk_lt h2 b (by simp[blk]);omega
 ·rintro o rfl
  exact hi (by simp[blk])
def HeapsO (s:St) (L:List Nat):List DV→List HeapV→Prop
 |ds,[]=>ds=[]
 |ds,x::r=>∃z p t,(z=4∨p=none)∧ds=heapZ x z p++t∧Sl s p (entsC x.ents)∧Off L p∧HeapsO s L t r
theorem HeapsO.fx {s s':St} {L L':List Nat} (k:Fx L s s') (hL: ∀x∈L',x∈L∨s.length≤x): ∀ {ds:List DV} {xs:List HeapV},HeapsO s L ds xs→HeapsO s' L' ds xs
 |_,[],h=>h
 |_,_::_,⟨z,p,t,hz,h1,h2,h3,h4⟩=>⟨z,p,t,hz,h1,h2.fx k h3,h3.new h2 hL,h4.fx k hL⟩
theorem HeapsO.heaps {s:St} {L:List Nat} : ∀ {ds:List DV} {xs:List HeapV},HeapsO s L ds xs→Heaps s ds xs
 |_,[],h=>h
 |_,_::_,⟨z,p,t,hz,h1,h2,_,h4⟩=>⟨z,p,t,hz,h1,h2,h4.heaps⟩
theorem HeapsO.push {s:St} {L:List Nat} {x:HeapV} {z:Nat} {p:Option (Nat×Nat)} (hz:z=4∨p=none) (hs:Sl s p (entsC x.ents)) (ho:Off L p): ∀ {ds:List DV} {xs:List HeapV},HeapsO s L ds xs→HeapsO s L (ds++heapZ x z p) (xs++[x])
 |ds,[],h=>⟨z,p,[],hz,by rw[show ds=[]from h];rfl,hs,ho,rfl⟩
 |_,_::_,⟨z',p',t,hz',h1,h2,h3,h4⟩=>⟨z',p',t++heapZ x z p,hz',by rw[h1,List.append_assoc],h2,h3,h4.push hz hs ho⟩
structure WkM (K:WkK) (s:St) (v:WkV) (L:List Nat) (z1:Nat) (p1:Option (Nat×Nat)) (z2:Nat) (p2:Option (Nat×Nat)) (z3:Nat) (p3:Option (Nat×Nat)) (z4:Nat) (p4:Option (Nat×Nat)) (hd:List DV):Prop where
 cell:s[K.w]? =some (some ⟨false,wkC K v (slC z1 p1 v.seats.length) (slC z2 p2 v.heaps.length) (slC z3 p3 v.gens.length) (slC z4 p4 v.free.length)⟩)
 e1:z1=3∨p1=none
 e2:z2=2∨p2=none
 e3:z3=1∨p3=none
 e4:z4=1∨p4=none
 o1:Own [] s p1 (leafC v.seats)
 o2:Own [] s p2 hd
 o3:Own [] s p3 (ints v.gens)
 o4:Own [] s p4 (ints v.free)
 heaps:HeapsO s L hd v.heaps
 set:SetM s false K.i K.j K.m v.W
 img:Byt s K.a K.img
 off:Off L K.a
 own:L=K.w::K.i::K.j::(blk p1++(blk p2++(blk p3++blk p4)))
 nodup:L.Nodup
def Wk (K:WkK) (s:St) (v:WkV) (L:List Nat):Prop:=∃z1 p1 z2 p2 z3 p3 z4 p4 hd,WkM K s v L z1 p1 z2 p2 z3 p3 z4 p4 hd
def Nw (L:List Nat) (s:St) (L':List Nat):Prop:=∀x∈L',x∈L∨s.length≤x
theorem Nw.refl (L:List Nat) (s:St):Nw L s L:=fun _ h=> .inl h
theorem Nw.trans {L L' L'':List Nat} {s s':St} (h:Nw L s L') (hs:s.length≤s'.length) (k:Nw L' s' L''):Nw L s L'':=fun x hx=>by
 rcases k x hx with h1|h1
 ·exact h x h1
 ·exact .inr (by omega)
theorem Zhu {A B C:List Nat} {b n:Nat} (h:(A++(B++C)).Nodup) (hl: ∀x∈A++(B++C),x<n) (hb:n≤b):(A++([b]++C)).Nodup:=by
 rw[List.nodup_append]at h⊢;obtain⟨h1,h2,h3⟩:=h;rw[List.nodup_append]at h2;obtain⟨_,h4,_⟩:=h2;refine⟨h1,?_,?_⟩
 ·rw[List.singleton_append,List.nodup_cons]
  refine⟨fun hm=>?_,h4⟩;have:=hl b (by simp[hm]);omega
 ·intro x hx y hy
  rcases List.mem_append.1 hy with hy|hy
  ·rw[List.mem_singleton.1 hy]
   have:=hl x (by simp[hx]);omega
  ·exact h3 x hx y (List.mem_append.2 (.inr hy))
variable {K:WkK} {s:St} {v:WkV} {L:List Nat} {z1 z2 z3 z4:Nat} {p1 p2 p3 p4:Option (Nat×Nat)} {hd:List DV}
theorem WkM.lt (h:WkM K s v L z1 p1 z2 p2 z3 p3 z4 p4 hd): ∀x∈L,x<s.length:=by
 intro x hx;rw[h.own]at hx;simp only[List.mem_cons,List.mem_append]at hx;rcases hx with rfl|rfl|rfl|hx|hx|hx|hx
 ·exact(List.getElem?_eq_some_iff.1 h.cell).1
 ·exact(List.getElem?_eq_some_iff.1 h.set.hd).1
 ·exact(List.getElem?_eq_some_iff.1 h.set.wd).1
 ·exact Own.blk_lt h.o1 x hx
 ·exact Own.blk_lt h.o2 x hx
 ·exact Own.blk_lt h.o3 x hx
 ·exact Own.blk_lt h.o4 x hx
theorem WkM.mem_w (h:WkM K s v L z1 p1 z2 p2 z3 p3 z4 p4 hd):K.w∈L:=by rw[h.own];simp
theorem WkM.mem_j (h:WkM K s v L z1 p1 z2 p2 z3 p3 z4 p4 hd):K.j∈L:=by rw[h.own];simp
theorem WkM.ne (h:WkM K s v L z1 p1 z2 p2 z3 p3 z4 p4 hd):K.w≠K.i∧K.w≠K.j∧K.i≠K.j∧(∀x∈blk p1++(blk p2++(blk p3++blk p4)),x≠K.w∧x≠K.i∧x≠K.j):=by
 have hn:=h.nodup;rw[h.own]at hn;simp only[List.nodup_cons,List.mem_cons,not_or]at hn;obtain⟨⟨a1,a2,a3⟩,⟨b1,b2⟩,c1,_⟩:=hn;exact⟨a1,a2,b1,fun x hx=>⟨fun e=>a3 (e▸hx),fun e=>b2 (e▸hx),fun e=>c1 (e▸hx)⟩⟩
theorem WkM.keep {s':St} {T:List Nat} (h:WkM K s v L z1 p1 z2 p2 z3 p3 z4 p4 hd) (k:Fx T s s') (hT: ∀x∈T,x∉L) (ha:Off T K.a) (hh:HeapsO s' L hd v.heaps):WkM K s' v L z1 p1 z2 p2 z3 p3 z4 p4 hd:=by
 have hm: ∀x∈L,x∉T:=fun x hx hx'=>hT x hx' hx
 have ho:=h.own;refine⟨k.2 _ _ (hm _ h.mem_w) h.cell,h.e1,h.e2,h.e3,h.e4,h.o1.fx k fun b hb=>hm b ?_,h.o2.fx k fun b hb=>hm b ?_,h.o3.fx k fun b hb=>hm b ?_,h.o4.fx k fun b hb=>hm b ?_,hh,h.set.fx k (hm _ (by rw[ho];simp)) (hm _ h.mem_j),Sl.fx h.img k ha,h.off,ho,h.nodup⟩
 all_goals rw[ho];simp[hb]
theorem WkM.pre {s':St} (h:WkM K s v L z1 p1 z2 p2 z3 p3 z4 p4 hd) (k:Pre s s'):WkM K s' v L z1 p1 z2 p2 z3 p3 z4 p4 hd:=
 h.keep (Fx.pre [] k) (fun _ h=>by cases h) (fun _ _ _ h=>by cases h) (h.heaps.fx (Fx.pre L k) (Nw.refl L s))
theorem WkM.setW {s':St} {W':List Nat} (h:WkM K s v L z1 p1 z2 p2 z3 p3 z4 p4 hd) (k:Fx [K.j] s s') (hs:SetM s' false K.i K.j K.m W'):WkM K s' { v with W:=W' } L z1 p1 z2 p2 z3 p3 z4 p4 hd:=by
 have hne:=h.ne;refine⟨k.2 _ _ (by simpa using hne.2.1) h.cell,h.e1,h.e2,h.e3,h.e4,h.o1.fx k fun b hb=>?_,h.o2.fx k fun b hb=>?_,h.o3.fx k fun b hb=>?_,h.o4.fx k fun b hb=>?_,h.heaps.fx (k.mono fun x hx=>by rw[List.mem_singleton.1 hx];exact h.mem_j) (Nw.refl L s),hs,Sl.fx h.img k fun b o e hb=>h.off b o e (by rw[List.mem_singleton.1 hb];exact h.mem_j),h.off,h.own,h.nodup⟩
 all_goals simpa using (hne.2.2.2 b (by simp[hb])).2.2
def takeM (K:WkK) (k:Int) (v:WkV):Option (BlockV×WkV):=bif freeF K.m v.W k then some (ZbV (ZbP K.img k.toNat), { v with W:=addW K.m v.W k })else none
theorem WkM.take {Bd:Za} (hB:Z4 Bd) (n:Nat) (k:Int) (hm:K.sup.blocks=(K.m:Int)) (hi:K.m*64≤K.img.length) (hl:K.img.length<1000000) (hn:170≤n) (h:WkM K s v L z1 p1 z2 p2 z3 p3 z4 p4 hd):
  Ok (fun o=>match takeM K k v with
   |none=>o=(.pan,s)
   |some (b,v')=>∃d s',o=(.val [d],s')∧WkM K s' v' L z1 p1 z2 p2 z3 p3 z4 p4 hd∧Fx [K.j] s s'∧BlkAt s' b d) (run Bd n 228 [.ptr (some (K.w,0)),.int .i64 k] s):=by
 have hne:=h.ne;refine(Zy6 hB n K.w K.a K.img k s h.cell rfl (by rw[←hm];rfl) rfl h.set hne.2.2.1 hne.2.1 h.img (fun b o e hb=>h.off b o e (by rw[List.mem_singleton.1 hb];exact h.mem_j)) hi hl hn).mono ?_;intro o ho;unfold takeM;cases hf:freeF K.m v.W k with
 |false=>rw[hf]at ho;exact ho
 |true=>
  rw[hf]at ho;obtain⟨d,s',rfl,hfx,hs,hb⟩:=ho;exact⟨d,s',rfl,h.setW hfx hs,hfx,hb⟩
end Go.Gv.F
namespace Go.Gv.F
open Go.Gv
variable {β:Type}
theorem ZiU: ∀ {l:List SeatV} {j:Nat} {x:SeatV},l[j]? =some x→((leafC l).drop (j*3)).take 3=seatC x
 |[],j,e,h=>by simp at h
 |x::l,0,e,h=>by
  simp only[List.getElem?_cons_zero,Option.some.injEq]at h;subst h;rfl
 |x::l,j+1,e,h=>by
  have e2:leafC (x::l)=seatC x++leafC l:=rfl;rw[e2,show(j+1)*3=(seatC x).length+j*3 by show _=3+_;omega,←List.drop_drop,List.drop_left];exact ZiU (by simpa using h)
def MEnd (K:WkK) (s:St) (L:List Nat) (r:Option WkV) (ds:List DV) (o:Out (List DV)×St):Prop:=match r with
 |none=>∃s',o=(.pan,s')∧Fx L s s'
 |some v=>∃s' L',o=(.val ds,s')∧Wk K s' v L'∧Fx L s s'∧Nw L s L'
variable {K:WkK} {s:St} {v:WkV} {L:List Nat} {z1 z2 z3 z4:Nat} {p1 p2 p3 p4:Option (Nat×Nat)} {hd:List DV}
theorem WkM.pushSeat (h:WkM K s v L z1 p1 z2 p2 z3 p3 z4 p4 hd) (x:SeatV) (hl:v.seats.length<1000000):
  ∃b s1 s2 L',(∀Kc:Option (Nat×Nat)→M β,(M.new (seatC x) fun i=>M.load i 0 3 fun cs'=>M.app 3 p1 v.seats.length cs' 1 2932031007402 Kc) s=Kc (some (b,0)) s1)∧
   (∀Kc:M β,M.store K.w 11 [.slice 3 (some (b,0)) (v.seats.length+1)] Kc s1=Kc s2)∧Wk K s2 { v with seats:=v.seats++[x] } L'∧Fx L s s2∧Nw L s L':=by
 obtain⟨b,s1,hb,ho,hfx,he⟩:=Zd5 (β:=β) (lim:=2932031007402) h.o1 (sz:=3) (n:=v.seats.length) (seatC x) (by omega) (ZN _) rfl (by omega);have hne:=h.ne;have hw1:=hfx.2 K.w _ (fun hm=>(hne.2.2.2 K.w (by simp[hm])).1 rfl) h.cell;have hLb: ∀x∈blk p1,x∈L:=fun x hx=>by rw[h.own];simp[hx]
 let L':=K.w::K.i::K.j::(blk (some (b,0))++(blk p2++(blk p3++blk p4)))
 have hfx2:Fx L s (s1.set K.w (some ⟨false,wkC K { v with seats:=v.seats++[x] } (slC 3 (some (b,0)) (v.seats.length+1)) (slC z2 p2 v.heaps.length) (slC z3 p3 v.gens.length) (slC z4 p4 v.free.length)⟩)):=
  (hfx.mono hLb).trans ((Fx.set s1 K.w _).mono fun y hy=>by rw[List.mem_singleton.1 hy];exact h.mem_w)
 have hnd:=h.nodup;rw[h.own]at hnd;have hnd':(K.w::K.i::K.j::(blk (some (b,0))++(blk p2++(blk p3++blk p4)))).Nodup:=Zhu (A:=[K.w,K.i,K.j]) (B:=blk p1) hnd (fun y hy=>h.lt y (by rw[h.own];exact hy)) hb;have hnw:Nw L s L':=fun y hy=>by
  have hy':y∈K.w::K.i::K.j::([b]++(blk p2++(blk p3++blk p4))):=hy;rw[h.own];simp only[List.mem_cons,List.mem_append,List.mem_nil_iff,or_false]at hy'⊢;rcases hy' with h1|h1|h1|h1|h1
  ·exact .inl (.inl h1)
  ·exact .inl (.inr (.inl h1))
  ·exact .inl (.inr (.inr (.inl h1)))
  ·exact .inr (by omega)
  ·exact .inl (.inr (.inr (.inr (.inr h1))))
 have htwo: ∀y,y∉blk p1→y≠K.w→∀c,s[y]? =some c→(s1.set K.w (some ⟨false,wkC K { v with seats:=v.seats++[x] } (slC 3 (some (b,0)) (v.seats.length+1)) (slC z2 p2 v.heaps.length) (slC z3 p3 v.gens.length) (slC z4 p4 v.free.length)⟩))[y]? =some c:=fun y h1 h2 c hc=>by
  rw[List.getElem?_set_ne (by omega)];exact hfx.2 y c h1 hc
 have hfx3:Fx (K.w::blk p1) s (s1.set K.w (some ⟨false,wkC K { v with seats:=v.seats++[x] } (slC 3 (some (b,0)) (v.seats.length+1)) (slC z2 p2 v.heaps.length) (slC z3 p3 v.gens.length) (slC z4 p4 v.free.length)⟩)):=
  ⟨hfx2.1,fun y c hy hc=>htwo y (fun hm=>hy (by simp[hm])) (fun e=>hy (by simp[e])) c hc⟩
 have hd2: ∀y,y∈blk p2++(blk p3++blk p4)→y∉K.w::blk p1:=fun y hy hm=>by
  rcases List.mem_cons.1 hm with e|e
  ·exact(hne.2.2.2 y (List.mem_append.2 (.inr hy))).1 e
  ·have hn2:=hnd
   simp only[List.nodup_cons,List.nodup_append]at hn2;exact hn2.2.2.2.2.2 y e y (by simpa using hy) rfl
 have hbw:b≠K.w:=fun e=>by have:=(List.getElem?_eq_some_iff.1 h.cell).1;omega
 refine⟨b,s1,_,L',he,fun Kc=>?_,⟨3,some (b,0),z2,p2,z3,p3,z4,p4,hd,⟨?_,.inl rfl,h.e2,h.e3,h.e4,?_,?_,?_,?_,?_,?_,?_,?_,rfl,hnd'⟩⟩,hfx2,hnw⟩
 ·rw[Z1 hw1 (by show 11<19;omega)]
  rfl
 ·rw[List.getElem?_set_self (by have:=(List.getElem?_eq_some_iff.1 hw1).1;exact this),List.length_append];rfl
 ·rw[Zrh]
  exact(show Own [] s1 (some (b,0)) (leafC v.seats++leafC [x])from ho).fx (Fx.set s1 K.w _) (fun y hy=>by
   rw[List.mem_singleton.1 hy,List.mem_singleton];exact hbw)
 ·exact h.o2.fx hfx3 fun y hy=>hd2 y (by simp[hy])
 ·exact h.o3.fx hfx3 fun y hy=>hd2 y (by simp[hy])
 ·exact h.o4.fx hfx3 fun y hy=>hd2 y (by simp[hy])
 ·exact h.heaps.fx hfx2 hnw
 ·exact h.set.fx hfx3 (fun hm=>by
   rcases List.mem_cons.1 hm with e|e
   ·exact hne.1 e.symm
   ·exact(hne.2.2.2 K.i (List.mem_append.2 (.inl e))).2.1 rfl) (fun hm=>by
   rcases List.mem_cons.1 hm with e|e
   ·exact hne.2.1 e.symm
   ·exact(hne.2.2.2 K.j (List.mem_append.2 (.inl e))).2.2 rfl)
 ·exact Sl.fx h.img hfx2 h.off
 ·exact h.off.new h.img hnw
def Zim (sup:SupV) (x:SeatV):Bool:=(bif decide (x.gen≥1)then decide (x.gen≤sup.g)else false)&&(bif (bif x.live then true else decide (x.gen<sup.g))then true else x.block==0)
def Zkg (x:SeatV):Bool:=(x.live==false)&&((x.gen==0)&&((x.block==0)&&true))
def ZbC (K:WkK) (k:Int) (x:SeatV) (v:WkV):Option WkV:=
 bif decide (k≥K.sup.used)then(bif Zkg x then some v else none)
 else(bif Zim K.sup x then some { v with seats:=v.seats++[x] } else none)
def Zca (K:WkK):Int→List SeatV→WkV→Option WkV
 |_,[],v=>some v
 |k,x::r,v=>match ZbC K k x v with
  |none=>none
  |some v'=>Zca K (k+1) r v'
def leafM (K:WkK) (k slot:Int) (v:WkV):Option WkV:=match takeM K k v with
 |some (.leaf x,v')=>Zca K slot x v'
 |_=>none
theorem ZtY {K:WkK} {k:Int} {x:SeatV} {v v':WkV} (h:ZbC K k x v=some v'):v'.seats.length≤v.seats.length+1:=by
 unfold ZbC at h;cases h1:decide (k≥K.sup.used)with
 |true=>
  rw[h1,cond_true]at h;cases h2:Zkg x with
  |true=>rw[h2]at h;cases h;omega
  |false=>rw[h2]at h;cases h
 |false=>
  rw[h1,cond_false]at h;cases h2:Zim K.sup x with
  |true=>rw[h2]at h;cases h;simp
  |false=>rw[h2]at h;cases h
theorem Zph {K:WkK} : ∀ {x:List SeatV} {k:Int} {v v':WkV},Zca K k x v=some v'→v'.seats.length≤v.seats.length+x.length
 |[],_,_,_,h=>by cases h;simp
 |x::r,k,v,v',h=>by
  unfold Zca at h;cases h1:ZbC K k x v with
  |none=>rw[h1]at h;cases h
  |some w=>
   rw[h1]at h;have:=ZtY h1;have:=Zph h;simp;omega
structure WkOk (K:WkK):Prop where
 m:K.sup.blocks=(K.m:Int)
 big:K.m*64≤K.img.length
 len:K.img.length<1000000
theorem WkM.wk (h:WkM K s v L z1 p1 z2 p2 z3 p3 z4 p4 hd):Wk K s v L:=⟨_,_,_,_,_,_,_,_,_,h⟩
theorem Zy1 {Bd:Za} (h:Zcn Bd) (n:Nat) (hK:WkOk K) (k slot:Int) (hs0:0≤slot) (hs1:slot≤100000) (hW:Wk K s v L) (hl:v.seats.length<100000) (hn:180≤n):
  Ok (MEnd K s L (leafM K k slot v) []) (run Bd n 229 [.ptr (some (K.w,0)),.int .i64 k,.int .i64 slot] s):=by
 obtain⟨n,rfl⟩: ∃k,n=k+2:=⟨n-2,by omega⟩;rw[Zf,h.eq];unfold Zct leafM;simp only[J_p,J_i,D_nil,Zc];obtain⟨z1,p1,z2,p2,z3,p3,z4,p4,hd,hW⟩:=hW;refine Ok.callP (hW.take h.q21 (n+1) k hK.m hK.big hK.len (by omega)) ?_ ?_
 ·intro s' hp
  cases ht:takeM K k v with
  |none=>rw[ht]at hp;cases hp;exact⟨s,rfl,.refl L s⟩
  |some q=>rw[ht]at hp;obtain⟨d,s2,e,_⟩:=hp;cases e
 intro ds s1 hp;cases ht:takeM K k v with
 |none=>rw[ht]at hp;cases hp
 |some q=>
  obtain⟨b,v1⟩:=q;rw[ht]at hp;obtain⟨d,s2,e,hW1,hfx,hb⟩:=hp;cases e;have hv1:v1.seats=v.seats:=by
   unfold takeM at ht;cases hf:freeF K.m v.W k with
   |false=>rw[hf]at ht;cases ht
   |true=>rw[hf]at ht;cases ht;rfl
  have hfxL:Fx L s s1:=hfx.mono fun y hy=>by rw[List.mem_singleton.1 hy];exact hW.mem_j
  simp only[J_d,D_nil];cases b with
  |node x=>obtain⟨p,rfl,_⟩:=hb;exact .mk ⟨s1,rfl,hfxL⟩
  |fan x=>obtain⟨rfl,_⟩:=hb;exact .mk ⟨s1,rfl,hfxL⟩
  |queue x=>obtain⟨rfl,_⟩:=hb;exact .mk ⟨s1,rfl,hfxL⟩
  |dir x=>obtain⟨p,rfl,_⟩:=hb;exact .mk ⟨s1,rfl,hfxL⟩
  |none=>cases hb;exact .mk ⟨s1,rfl,hfxL⟩
  |leaf x=>
   obtain⟨rfl,hx⟩:=hb;have hlen:(leafC x).length=21:=by rw[ZN,hx]
   show Ok (MEnd K s L (Zca K slot x v1) []) (D.len (leafC x) 21 _ _);obtain⟨R,hR⟩: ∃R,Zca K slot x v1=R:=⟨_,rfl⟩;rw[hR];rw[D_len hlen,show(leafC x).take 21=leafC x from List.take_of_length_le (by omega)];refine Zk _ (fun q y t=>∃(i:Nat) (u:WkV) (Lu:List Nat),y=[.int .i64 i]∧i≤7∧7-i≤q∧Wk K t u Lu∧Fx L s t∧Nw L s Lu∧u.seats.length≤v.seats.length+i∧Zca K (slot+i) (x.drop i) u=R) ?_ 7 (n+1) _ _ ⟨0,v1,L,rfl,by omega,by omega,hW1.wk,hfxL,.refl L s,by rw[hv1];omega,by simp[hR]⟩ (by omega);rintro q _ t ⟨i,u,Lu,rfl,hi,hq,hWu,hfu,hnu,hul,hgo⟩ rec hrec;simp only[J_i,D_nil];by_cases hlt:i<7
   ·rw[decide_eq_true (show(i:Int)<7 by omega),cond_true,Ze (show inB (i:Int) 7=true from Zl hlt),Int.toNat_natCast]
    have hxi:x[i]? =some (x[i]'(by omega)):=List.getElem?_eq_getElem (by omega);rw[ZiU hxi];have hdr:x.drop i=(x[i]'(by omega))::x.drop (i+1):=List.drop_eq_getElem_cons (by omega);rw[hdr]at hgo;generalize x[i]'(by omega)=e at hgo;obtain⟨z1,p1,z2,p2,z3,p3,z4,p4,hd,hWu⟩:=hWu;rw[D_len (cs:=seatC e) (n:=3) rfl,nn_some',Zn hWu.cell rfl];simp only[D_int];have hw1:wr64 (slot+(i:Int))=slot+i:=Zd (by omega) (by omega);have hw2:wr64 ((i:Int)+1)=((i+1:Nat):Int):=Zd (by omega) (by omega);rw[hw1,hw2];unfold Zca ZbC at hgo;have hcast:slot+((i+1:Nat):Int)=slot+i+1:=by omega
    cases hk:decide (slot+(i:Int)≥K.sup.used)with
    |true=>
     rw[hk,cond_true]at hgo;rw[cond_true];show Ok _ (M.call (run Bd (n+1) 225 [.bool (Zkg e)]) _ t);cases h0:Zkg e with
     |true=>
      rw[h0]at hgo;rw[Zbi h.q111 n rfl];simp only[D_nil];exact hrec (7-(i+1)) _ _ (by omega) ⟨i+1,u,Lu,rfl,by omega,Nat.le_refl _,hWu.wk,hfu,hnu,by omega,by rw[hcast];exact hgo⟩
     |false=>
      rw[h0]at hgo;rw[ZH h.q111 n rfl];simp only[cond_false]at hgo;rw[←hgo];exact .mk ⟨t,rfl,hfu⟩
    |false=>
     rw[hk,cond_false]at hgo;rw[cond_false];have hg1:wkC K u (slC z1 p1 u.seats.length) (slC z2 p2 u.heaps.length) (slC z3 p3 u.gens.length) (slC z4 p4 u.free.length)=wkC K u (slC z1 p1 u.seats.length) (slC z2 p2 u.heaps.length) (slC z3 p3 u.gens.length) (slC z4 p4 u.free.length):=rfl;clear hg1;have hgoal:Ok (MEnd K s L R []) (M.call (run Bd (n+1) 225 [.bool (Zim K.sup e)]) (fun ds=>D.nil ds<|M.nn (some (K.w,0)) fun i1 o1=>M.load1 i1 (o1+11) fun d3=>D.slice 3 d3 fun x4 x4n=>D.len (seatC e) 3<|M.new (seatC e) fun i2=>M.load i2 0 3 fun cs1=>M.app 3 x4 x4n cs1 1 2932031007402 fun p=>M.nn (some (K.w,0)) fun i3 o2=>M.store i3 (o2+11) [.slice 3 p (x4n+1)]<|rec [.int .i64 ((i+1:Nat):Int)]) t):=by
      cases h0:Zim K.sup e with
      |true=>
       rw[h0]at hgo;rw[Zbi h.q111 n rfl];simp only[D_nil,nn_some'];rw[Zn hWu.cell rfl];show Ok _ (D.slice 3 (.slice z1 p1 u.seats.length) _ t);rw[ZB 3 z1 p1 _ hWu.e1,D_len (cs:=seatC e) (n:=3) rfl];obtain⟨b,t1,t2,L2,g1,g2,g3,g4,g5⟩:=hWu.pushSeat (β:=List DV) e (by omega);rw[g1,Nat.zero_add,g2];exact hrec (7-(i+1)) _ _ (by omega) ⟨i+1,_,L2,rfl,by omega,Nat.le_refl _,g3,hfu.step g4 hnu,hnu.trans hfu.1 g5,by simp;omega,by rw[hcast];exact hgo⟩
      |false=>
       rw[h0]at hgo;rw[ZH h.q111 n rfl];simp only[cond_false]at hgo;rw[←hgo];exact .mk ⟨t,rfl,hfu⟩
     unfold Zim at hgoal;rw[D_nth (i:=1) (d:= .int .i64 e.gen) rfl];simp only[D_int];have hld: ∀Kc:DV→M (List DV),M.load1 K.w (0+4) Kc t=Kc (.int .i64 K.sup.g) t:=fun Kc=>Zn hWu.cell rfl Kc
     cases hg1:decide (e.gen≥1)with
     |false=>
      simp only[hg1,cond_false,Bool.false_and]at hgoal;simp only[cond_false,J_b,D_nil];exact hgoal
     |true=>
      simp only[hg1,cond_true]at hgoal;rw[cond_true,D_nth (i:=1) (d:= .int .i64 e.gen) rfl];simp only[D_int,nn_some'];rw[hld];simp only[D_int,J_b,D_nil];cases hg2:decide (e.gen≤K.sup.g)with
      |false=>
       simp only[hg2,Bool.false_and]at hgoal;simp only[cond_false];exact hgoal
      |true=>
       simp only[hg2,Bool.true_and]at hgoal;rw[cond_true,D_nth (i:=0) (d:= .bool e.live) rfl];simp only[D_bool];cases hlv:e.live with
       |true=>
        simp only[hlv,cond_true]at hgoal;rw[cond_true];simp only[cond_true];exact hgoal
       |false=>
        simp only[hlv,cond_false]at hgoal;rw[cond_false,D_nth (i:=1) (d:= .int .i64 e.gen) rfl];simp only[D_int];rw[hld];simp only[D_int];cases hg3:decide (e.gen<K.sup.g)with
        |true=>
         simp only[hg3,cond_true]at hgoal;rw[cond_true];exact hgoal
        |false=>
         simp only[hg3,cond_false]at hgoal;rw[cond_false,D_nth (i:=2) (d:= .int .i64 e.block) rfl];simp only[D_int];exact hgoal
   ·rw[decide_eq_false (show ¬(i:Int)<7 by omega),cond_false]
    rw[List.drop_eq_nil_of_le (by omega)]at hgo;simp only[Zb];rw[←hgo];exact .mk ⟨t,Lu,rfl,hWu,hfu,hnu⟩
end Go.Gv.F
namespace Go.Gv.F
open Go.Gv
variable {β:Type}
variable {K:WkK} {s:St} {v:WkV} {L:List Nat} {z1 z2 z3 z4:Nat} {p1 p2 p3 p4:Option (Nat×Nat)} {hd:List DV}
theorem Zm0 {l:List UInt8} {x:List SeatV} (h:ZbV l= .leaf x):x.length=7:=by
 unfold ZbV at h;split at h
 ·cases h
 ·split at h
  ·rename_i e;cases h;exact Zje e
  ·split at h
   ·cases h
   ·split at h
    ·cases h
    ·split at h<;>cases h
theorem ZV {K:WkK} {k:Int} {v v':WkV} {b:BlockV} (h:takeM K k v=some (b,v')):v'.seats=v.seats∧v'.heaps=v.heaps∧v'.gens=v.gens∧v'.free=v.free∧v'.nodes=v.nodes∧b=ZbV (ZbP K.img k.toNat):=by
 unfold takeM at h;cases hf:freeF K.m v.W k with
 |false=>rw[hf]at h;cases h
 |true=>rw[hf]at h;cases h;exact⟨rfl,rfl,rfl,rfl,rfl,rfl⟩
theorem Zq4 {K:WkK} {k slot:Int} {v v':WkV} (h:leafM K k slot v=some v'):v'.seats.length≤v.seats.length+7:=by
 unfold leafM at h;cases ht:takeM K k v with
 |none=>rw[ht]at h;cases h
 |some q=>
  obtain⟨b,v1⟩:=q;rw[ht]at h;obtain⟨h1,_,_,_,_,h2⟩:=ZV ht;cases b with
  |leaf x=>
   have:=Zph h;rw[h1,Zm0 h2.symm]at this;exact this
  |node x=>cases h
  |fan x=>cases h
  |queue x=>cases h
  |dir x=>cases h
  |none=>cases h
def Zbr (K:WkK) (cnt x5:Int):Int→List Int→WkV→Option WkV
 |_,[],v=>some v
 |k,y::r,v=>bif (!(y==0))==decide (x5*16+k<cnt)then(bif !(y==0)then(match leafM K y ((x5*16+k)*7) v with
   |none=>none
   |some v'=>Zbr K cnt x5 (k+1) r v')else Zbr K cnt x5 (k+1) r v)else none
def Zcm (K:WkK) (cnt:Int):Int→List Int→WkV→Option WkV
 |_,[],v=>some v
 |k,y::r,v=>bif (!(y==0))==decide (k*16<cnt)then(bif y==0 then Zcm K cnt (k+1) r v else(match takeM K y v with
   |some (.fan x,v')=>(match Zbr K cnt k 0 x v' with
    |none=>none
    |some v''=>Zcm K cnt (k+1) r v'')
   |_=>none))else none
def Zc5 (K:WkK) (v:WkV):Option WkV:=bif K.sup.used==0 then some v else(match takeM K K.sup.fan v with
 |some (.fan x,v')=>Zcm K (ZhN K.sup.used) 0 x v'
 |_=>none)
theorem ZkX {K:WkK} {cnt x5:Int} : ∀ {x:List Int} {k:Int} {v v':WkV},Zbr K cnt x5 k x v=some v'→v'.seats.length≤v.seats.length+7*x.length
 |[],_,_,_,h=>by cases h;simp
 |y::r,k,v,v',h=>by
  unfold Zbr at h;cases h1:((!(y==0))==decide (x5*16+k<cnt))with
  |false=>rw[h1]at h;cases h
  |true=>
   rw[h1,cond_true]at h;cases h2:(!(y==0))with
   |false=>
    rw[h2,cond_false]at h;have:=ZkX h;simp;omega
   |true=>
    rw[h2,cond_true]at h;cases h3:leafM K y ((x5*16+k)*7) v with
    |none=>rw[h3]at h;cases h
    |some w=>
     rw[h3]at h;have:=ZkX h;have:=Zq4 h3;simp;omega
theorem ZzA {Bd:Za} (hL:Zcn Bd) (hM:ZU Bd) (n:Nat) (hK:WkOk K) (cnt:Int) (i5:Nat) (h5:i5<16) (x:List Int) (hx:x.length=16) (hn:181≤n) (s:St) (L:List Nat) (t0:St) (L0:List Nat) (v0:WkV)
  (hW:Wk K t0 v0 L0) (hf:Fx L s t0) (hnw:Nw L s L0) (hl:v0.seats.length<10000)
  (R:Option WkV) (Kn:M (List DV)) (hgo: ∀w,Zbr K cnt (i5:Int) 0 x v0=some w→∀t Lw,Wk K t w Lw→Fx L s t→Nw L s Lw→Ok (MEnd K s L R []) (Kn t)) (hno:Zbr K cnt (i5:Int) 0 x v0=none→R=none):
  Ok (MEnd K s L R []) (M.loop (fun rec2 st=>
      J.i .i64 st fun x8 st=>
      D.nil st<|
      bif decide (x8<16)then
       M.chk (inB x8 16)<|
      D.nth ((ints x).take 16) (x8.toNat*1) fun d6=>
      D.int .i64 d6 fun x9=>
      M.call (run Bd n 225 [.bool ((!(x9==0))==(decide (wr64 ((wr64 ((i5:Int)*16))+x8)<cnt)))]) fun ds=>
      D.nil ds<|
      bif !(x9==0)then
       M.call (run Bd n 229 [.ptr (some (K.w,0)),.int .i64 x9,.int .i64 (wr64 ((wr64 ((wr64 ((i5:Int)*16))+x8))*7))]) fun ds=>
      D.nil ds<|
      rec2 [.int .i64 (wr64 (x8+1))]
      else
       rec2 [.int .i64 (wr64 (x8+1))]
      else
       Kn) n [.int .i64 0] t0):=by
 obtain⟨n,rfl⟩: ∃k,n=k+1:=⟨n-1,by omega⟩;rw[show(ints x).take 16=ints x from List.take_of_length_le (by simp[ints,hx])];obtain⟨G,hG⟩: ∃G,Zbr K cnt (i5:Int) 0 x v0=G:=⟨_,rfl⟩;rw[hG]at hgo hno;refine Zk _ (fun q y t=>∃(i:Nat) (u:WkV) (Lu:List Nat),y=[.int .i64 i]∧i≤16∧16-i≤q∧Wk K t u Lu∧Fx L s t∧Nw L s Lu∧u.seats.length≤v0.seats.length+7*i∧Zbr K cnt i5 i (x.drop i) u=G) ?_ 16 (n+1) _ _ ⟨0,v0,L0,rfl,by omega,by omega,hW,hf,hnw,by omega,by simpa using hG⟩ (by omega);rintro q _ t ⟨i,u,Lu,rfl,hi,hq,hWu,hfu,hnu,hul,hgo2⟩ rec hrec;simp only[J_i,D_nil];by_cases hlt:i<16
 ·have hxi:x[i]? =some (x[i]'(by omega)):=List.getElem?_eq_getElem (by omega)
  have hdr:x.drop i=(x[i]'(by omega))::x.drop (i+1):=List.drop_eq_getElem_cons (by omega);rw[hdr]at hgo2;rw[decide_eq_true (show(i:Int)<16 by omega),cond_true,Ze (show inB (i:Int) 16=true from Zl hlt),Int.toNat_natCast,Nat.mul_one,D_nth (Zw (by omega))];simp only[D_int];generalize x[i]'(by omega)=y at hgo2;have hw1:wr64 ((i5:Int)*16)=(i5:Int)*16:=Zd (by omega) (by omega);have hw2:wr64 ((i5:Int)*16+i)=(i5:Int)*16+i:=Zd (by omega) (by omega);have hw3:wr64 (((i5:Int)*16+i)*7)=((i5:Int)*16+i)*7:=Zd (by omega) (by omega);have hw4:wr64 ((i:Int)+1)=((i+1:Nat):Int):=Zd (by omega) (by omega);rw[hw1,hw2,hw3,hw4];have hcast:((i+1:Nat):Int)=(i:Int)+1:=by omega
  unfold Zbr at hgo2;cases h1:((!(y==0))==decide ((i5:Int)*16+i<cnt))with
  |false=>
   rw[h1,cond_false]at hgo2;rw[ZH hM n rfl];rw[hno hgo2.symm];exact .mk ⟨t,rfl,hfu⟩
  |true=>
   rw[h1,cond_true]at hgo2;rw[Zbi hM n rfl];simp only[D_nil];cases h2:(!(y==0))with
   |false=>
    rw[h2,cond_false]at hgo2;rw[cond_false];exact hrec (16-(i+1)) _ _ (by omega) ⟨i+1,u,Lu,rfl,by omega,Nat.le_refl _,hWu,hfu,hnu,by omega,by rw[hcast];exact hgo2⟩
   |true=>
    rw[h2,cond_true]at hgo2;rw[cond_true];refine Ok.callP (Zy1 hL (n+1) hK y (((i5:Int)*16+i)*7) (by omega) (by omega) hWu (by omega) (by omega)) ?_ ?_
    ·intro t' hp
     cases h3:leafM K y (((i5:Int)*16+i)*7) u with
     |some w=>rw[h3]at hp;obtain⟨_,_,e,_⟩:=hp;cases e
     |none=>
      rw[h3]at hp hgo2;obtain⟨t2,e,hf2⟩:=hp;cases e;rw[hno hgo2.symm];exact⟨t',rfl,hfu.step hf2 hnu⟩
    ·intro ds t' hp
     cases h3:leafM K y (((i5:Int)*16+i)*7) u with
     |none=>rw[h3]at hp;obtain⟨_,e,_⟩:=hp;cases e
     |some w=>
      rw[h3]at hp hgo2;obtain⟨t2,L2,e,hW2,hf2,hn2⟩:=hp;cases e;simp only[D_nil];have hll:=Zq4 h3;exact hrec (16-(i+1)) _ _ (by omega) ⟨i+1,w,L2,rfl,by omega,Nat.le_refl _,hW2,hfu.step hf2 hnu,hnu.trans hfu.1 hn2,by omega,by rw[hcast];exact hgo2⟩
 ·rw[decide_eq_false (show ¬(i:Int)<16 by omega),cond_false]
  rw[List.drop_eq_nil_of_le (by omega)]at hgo2;exact hgo u hgo2.symm t Lu hWu hfu hnu
theorem ZyF {Bd:Za} (h:Zdl Bd) (n:Nat) (hK:WkOk K) (hW:Wk K s v L) (hl:v.seats.length<1000) (hn:190≤n):
  Ok (MEnd K s L (Zc5 K v) []) (run Bd n 226 [.ptr (some (K.w,0))] s):=by
 obtain⟨n,rfl⟩: ∃k,n=k+2:=⟨n-2,by omega⟩;rw[Zf,h.eq];unfold Zcg Zc5;simp only[J_p,D_nil,Zc,nn_some'];obtain⟨z1,p1,z2,p2,z3,p3,z4,p4,hd,hW⟩:=hW;rw[Zn hW.cell rfl];simp only[D_int];cases hu:(K.sup.used==0)with
 |true=>
  rw[cond_true,cond_true,Zb];exact .mk ⟨s,L,rfl,hW.wk,.refl L s,.refl L s⟩
 |false=>
  rw[cond_false,cond_false,Zn hW.cell rfl];simp only[D_int];have hgl:=ZpJ h.q64 (n-1) K.sup.used s;rw[show n-1+2=n+1 by omega]at hgl;rw[Zi hgl];simp only[J_i,D_nil];rw[Zn hW.cell rfl];simp only[D_int];generalize ZhN K.sup.used=cnt;refine Ok.callP (hW.take h.q21 (n+1) K.sup.fan hK.m hK.big hK.len (by omega)) ?_ ?_
  ·intro s' hp
   cases ht:takeM K K.sup.fan v with
   |none=>rw[ht]at hp;cases hp;exact⟨s,rfl,.refl L s⟩
   |some q=>rw[ht]at hp;obtain⟨d,s2,e,_⟩:=hp;cases e
  intro ds s1 hp;cases ht:takeM K K.sup.fan v with
  |none=>rw[ht]at hp;cases hp
  |some q=>
   obtain⟨b,v1⟩:=q;rw[ht]at hp;obtain⟨d,s2,e,hW1,hfx,hb⟩:=hp;cases e;have hv1:=(ZV ht).1;have hfxL:Fx L s s1:=hfx.mono fun y hy=>by rw[List.mem_singleton.1 hy];exact hW.mem_j
   simp only[J_d,D_nil];cases b with
   |node x=>obtain⟨p,rfl,_⟩:=hb;exact .mk ⟨s1,rfl,hfxL⟩
   |leaf x=>obtain⟨rfl,_⟩:=hb;exact .mk ⟨s1,rfl,hfxL⟩
   |queue x=>obtain⟨rfl,_⟩:=hb;exact .mk ⟨s1,rfl,hfxL⟩
   |dir x=>obtain⟨p,rfl,_⟩:=hb;exact .mk ⟨s1,rfl,hfxL⟩
   |none=>cases hb;exact .mk ⟨s1,rfl,hfxL⟩
   |fan x=>
    obtain⟨rfl,hx⟩:=hb;have hlen:(ints x).length=16:=by simp[ints,hx]
    show Ok (MEnd K s L (Zcm K cnt 0 x v1) []) (D.len (ints x) 16 _ _);obtain⟨R,hR⟩: ∃R,Zcm K cnt 0 x v1=R:=⟨_,rfl⟩;rw[hR,D_len hlen,show(ints x).take 16=ints x from List.take_of_length_le (by omega)];refine Zk _ (fun q y t=>∃(i:Nat) (u:WkV) (Lu:List Nat),y=[.int .i64 i]∧i≤16∧16-i≤q∧Wk K t u Lu∧Fx L s t∧Nw L s Lu∧u.seats.length≤v.seats.length+112*i∧Zcm K cnt i (x.drop i) u=R) ?_ 16 (n+1) _ _ ⟨0,v1,L,rfl,by omega,by omega,hW1.wk,hfxL,.refl L s,by rw[hv1];omega,by simpa using hR⟩ (by omega);rintro q _ t ⟨i,u,Lu,rfl,hi,hq,hWu,hfu,hnu,hul,hgo⟩ rec hrec;simp only[J_i,D_nil];by_cases hlt:i<16
    ·have hxi:x[i]? =some (x[i]'(by omega)):=List.getElem?_eq_getElem (by omega)
     have hdr:x.drop i=(x[i]'(by omega))::x.drop (i+1):=List.drop_eq_getElem_cons (by omega);rw[hdr]at hgo;rw[decide_eq_true (show(i:Int)<16 by omega),cond_true,Ze (show inB (i:Int) 16=true from Zl hlt),Int.toNat_natCast,Nat.mul_one,D_nth (Zw (by omega))];simp only[D_int];generalize x[i]'(by omega)=y at hgo;have hw1:wr64 ((i:Int)*16)=(i:Int)*16:=Zd (by omega) (by omega);have hw4:wr64 ((i:Int)+1)=((i+1:Nat):Int):=Zd (by omega) (by omega);have hcast:((i+1:Nat):Int)=(i:Int)+1:=by omega
     rw[show decide (wr64 ((i:Int)*16)<cnt)=decide ((i:Int)*16<cnt) by rw[hw1]];unfold Zcm at hgo;cases h1:((!(y==0))==decide ((i:Int)*16<cnt))with
     |false=>
      rw[h1,cond_false]at hgo;rw[ZH h.q111 n rfl,←hgo];exact .mk ⟨t,rfl,hfu⟩
     |true=>
      rw[h1,cond_true]at hgo;rw[Zbi h.q111 n rfl];simp only[D_nil];cases h2:(y==0)with
      |true=>
       rw[h2,cond_true]at hgo;rw[cond_true,hw4];exact hrec (16-(i+1)) _ _ (by omega) ⟨i+1,u,Lu,rfl,by omega,Nat.le_refl _,hWu,hfu,hnu,by omega,by rw[hcast];exact hgo⟩
      |false=>
       rw[h2,cond_false]at hgo;rw[cond_false];obtain⟨z1,p1,z2,p2,z3,p3,z4,p4,hd,hWu⟩:=hWu;refine Ok.callP (hWu.take h.q21 (n+1) y hK.m hK.big hK.len (by omega)) ?_ ?_
       ·intro s' hp
        cases ht:takeM K y u with
        |none=>rw[ht]at hp hgo;cases hp;rw[←hgo];exact⟨t,rfl,hfu⟩
        |some q=>rw[ht]at hp;obtain⟨d,s2,e,_⟩:=hp;cases e
       intro ds t1 hp;cases ht:takeM K y u with
       |none=>rw[ht]at hp;cases hp
       |some q=>
        obtain⟨b,u1⟩:=q;rw[ht]at hp hgo;obtain⟨d,s2,e,hW2,hfx2,hb⟩:=hp;cases e;have hu1:=(ZV ht).1;have hfx2L:Fx L s t1:=hfu.step (hfx2.mono (T':=Lu) fun y hy=>by rw[List.mem_singleton.1 hy];exact hWu.mem_j) hnu;simp only[J_d,D_nil];cases b with
        |node x=>obtain⟨p,rfl,_⟩:=hb;rw[←hgo];exact .mk ⟨t1,rfl,hfx2L⟩
        |leaf x=>obtain⟨rfl,_⟩:=hb;rw[←hgo];exact .mk ⟨t1,rfl,hfx2L⟩
        |queue x=>obtain⟨rfl,_⟩:=hb;rw[←hgo];exact .mk ⟨t1,rfl,hfx2L⟩
        |dir x=>obtain⟨p,rfl,_⟩:=hb;rw[←hgo];exact .mk ⟨t1,rfl,hfx2L⟩
        |none=>cases hb;rw[←hgo];exact .mk ⟨t1,rfl,hfx2L⟩
        |fan x2=>
         obtain⟨rfl,hx2⟩:=hb;have hlen2:(ints x2).length=16:=by simp[ints,hx2]
         show Ok _ (D.len (ints x2) 16 _ _);rw[D_len hlen2];refine ZzA h.q19 h.q111 (n+1) hK cnt i hlt x2 hx2 (by omega) s L t1 Lu u1 hW2.wk hfx2L hnu (by rw[hu1];omega) R (rec [.int .i64 (wr64 ((i:Int)+1))]) ?_ ?_
         ·intro w hw t2 Lw hWw hfw hnw
          have hll:=ZkX hw;simp only at hgo;rw[hw]at hgo;rw[hw4];refine hrec (16-(i+1)) _ _ (by omega) ⟨i+1,w,Lw,rfl,by omega,Nat.le_refl _,hWw,hfw,hnw,?_,by rw[hcast];exact hgo⟩;rw[hu1]at hll;omega
         ·intro hw
          simp only at hgo;rw[hw]at hgo;exact hgo.symm
    ·rw[decide_eq_false (show ¬(i:Int)<16 by omega),cond_false]
     rw[List.drop_eq_nil_of_le (by omega)]at hgo;rw[Zb,←hgo];exact .mk ⟨t,Lu,rfl,hWu,hfu,hnu⟩
end Go.Gv.F
namespace Go.Gv.F
open Go.Gv
variable {β:Type}
variable {K:WkK} {s:St} {v:WkV} {L:List Nat} {z1 z2 z3 z4:Nat} {p1 p2 p3 p4:Option (Nat×Nat)} {hd:List DV}
theorem ZlI {A B C:List Nat} (h:(A++(B++C)).Nodup): ∀y∈A++C,y∉B:=by
 rw[List.nodup_append,List.nodup_append]at h;obtain⟨_,⟨_,_,h2⟩,h3⟩:=h;intro y hy hm;rcases List.mem_append.1 hy with h|h
 ·exact h3 y h y (List.mem_append.2 (.inl hm)) rfl
 ·exact h2 y hm y h rfl
theorem WkM.pushFree (h:WkM K s v L z1 p1 z2 p2 z3 p3 z4 p4 hd) (x:Int) (hl:v.free.length<1000000):
  ∃b s1 s2 L',(∀Kc:Option (Nat×Nat)→M β,(M.new [DV.int .i64 x] fun i=>M.load i 0 1 fun cs'=>M.app 1 p4 v.free.length cs' 1 8796093022208 Kc) s=Kc (some (b,0)) s1)∧
   (∀Kc:M β,M.store K.w 17 [.slice 1 (some (b,0)) (v.free.length+1)] Kc s1=Kc s2)∧WkM K s2 { v with free:=v.free++[x] } L' z1 p1 z2 p2 z3 p3 1 (some (b,0)) (hd)∧Fx L s s2∧Nw L s L'∧Fx (K.w::blk p4) s s2:=by
 obtain⟨b,s1,hb,ho,hfx,he⟩:=Zd5 (β:=β) (lim:=8796093022208) h.o4 (sz:=1) (n:=v.free.length) [DV.int .i64 x] (by omega) (by simp[ints]) rfl (by omega);have hne:=h.ne;have hw1:=hfx.2 K.w _ (fun hm=>(hne.2.2.2 K.w (by simp[hm])).1 rfl) h.cell;have hLb: ∀x∈blk p4,x∈L:=fun x hx=>by rw[h.own];simp[hx]
 let L':=K.w::K.i::K.j::(blk p1++(blk p2++(blk p3++blk (some (b,0)))))
 let S':=s1.set K.w (some ⟨false,wkC K { v with free:=v.free++[x] } (slC z1 p1 v.seats.length) (slC z2 p2 v.heaps.length) (slC z3 p3 v.gens.length) (slC 1 (some (b,0)) (v.free.length+1))⟩)
 have hfx2:Fx L s S':=
  (hfx.mono hLb).trans ((Fx.set s1 K.w _).mono fun y hy=>by rw[List.mem_singleton.1 hy];exact h.mem_w)
 have hnd:((K.w::K.i::K.j::(blk p1++(blk p2++blk p3)))++(blk p4++([]:List Nat))).Nodup:=by
  have:=h.nodup;rw[h.own]at this;simpa only[List.append_assoc,List.cons_append,List.nil_append,List.append_nil]using this
 have hltA: ∀y∈(K.w::K.i::K.j::(blk p1++(blk p2++blk p3)))++(blk p4++([]:List Nat)),y<s.length:=fun y hy=>h.lt y (by
  rw[h.own];simpa only[List.append_assoc,List.cons_append,List.nil_append,List.append_nil]using hy)
 have hnd':L'.Nodup:=by
  have:=Zhu hnd hltA hb;show(K.w::K.i::K.j::(blk p1++(blk p2++(blk p3++blk (some (b,0)))))).Nodup;simpa only[List.append_assoc,List.cons_append,List.nil_append,List.append_nil,blk]using this
 have hnw:Nw L s L':=fun y hy=>by
  have hy':y∈K.w::K.i::K.j::(blk p1++(blk p2++(blk p3++blk (some (b,0))))):=hy;rw[h.own];by_cases e:y=b
  ·exact .inr (by omega)
  ·refine .inl ?_
   simp only[List.mem_cons,List.mem_append,blk,List.mem_nil_iff,or_false]at hy'⊢;simp only[e,or_false]at hy';rcases hy' with h1|h1|h1|h1
   ·exact .inl h1
   ·exact .inr (.inl h1)
   ·exact .inr (.inr (.inl h1))
   ·exact .inr (.inr (.inr (by rcases h1 with h1|h1|h1<;>simp[h1])))
 have hfx3:Fx (K.w::blk p4) s S':=
  ⟨hfx2.1,fun y c hy hc=>by
   simp only[List.mem_cons,not_or]at hy;show(s1.set K.w _)[y]? =_;rw[List.getElem?_set_ne (by omega)];exact hfx.2 y c hy.2 hc⟩
 have hmid:=ZlI hnd;have hd2: ∀y,y∈blk p1++(blk p2++blk p3)→y∉K.w::blk p4:=fun y hy hm=>by
  rcases List.mem_cons.1 hm with e|e
  ·refine(hne.2.2.2 y ?_).1 e
   simp only[List.mem_append]at hy⊢;rcases hy with e|e|e
   ·exact .inl e
   ·exact .inr (.inl e)
   ·exact .inr (.inr (.inl e))
  ·exact hmid y (by simp only[List.mem_append,List.mem_cons]at hy⊢;rcases hy with e|e|e<;>simp[e]) e
 have hbw:b≠K.w:=fun e=>by have:=(List.getElem?_eq_some_iff.1 h.cell).1;omega
 refine⟨b,s1,S',L',he,fun Kc=>?_,⟨?_,h.e1,h.e2,h.e3,.inl rfl,?_,?_,?_,?_,?_,?_,?_,?_,rfl,hnd'⟩,hfx2,hnw,hfx3⟩
 ·rw[Z1 hw1 (by show 17<19;omega)]
  rfl
 ·show(s1.set K.w _)[K.w]? =_
  rw[List.getElem?_set_self (by have:=(List.getElem?_eq_some_iff.1 hw1).1;exact this),List.length_append];rfl
 ·exact h.o1.fx hfx3 fun y hy=>hd2 y (by simp[hy])
 ·exact h.o2.fx hfx3 fun y hy=>hd2 y (by simp[hy])
 ·exact h.o3.fx hfx3 fun y hy=>hd2 y (by simp[hy])
 ·rw[show ints (v.free++[x])=ints v.free++[.int .i64 x] by unfold ints;rw[List.map_append];rfl]
  exact(show Own [] s1 (some (b,0)) _ from ho).fx (Fx.set s1 K.w _) (fun y hy=>by
   rw[List.mem_singleton.1 hy,List.mem_singleton];exact hbw)
 ·exact h.heaps.fx hfx2 hnw
 ·exact h.set.fx hfx3 (fun hm=>by
   rcases List.mem_cons.1 hm with e|e
   ·exact hne.1 e.symm
   ·exact(hne.2.2.2 K.i (by simp only[List.mem_append];exact .inr (.inr (.inr e)))).2.1 rfl) (fun hm=>by
   rcases List.mem_cons.1 hm with e|e
   ·exact hne.2.1 e.symm
   ·exact(hne.2.2.2 K.j (by simp only[List.mem_append];exact .inr (.inr (.inr e)))).2.2 rfl)
 ·exact Sl.fx h.img hfx2 h.off
 ·exact h.off.new h.img hnw
theorem WkM.pushGen (h:WkM K s v L z1 p1 z2 p2 z3 p3 z4 p4 hd) (x:Int) (hl:v.gens.length<1000000):
  ∃b s1 s2 L',(∀Kc:Option (Nat×Nat)→M β,(M.new [DV.int .i64 x] fun i=>M.load i 0 1 fun cs'=>M.app 1 p3 v.gens.length cs' 1 8796093022208 Kc) s=Kc (some (b,0)) s1)∧
   (∀Kc:M β,M.store K.w 16 [.slice 1 (some (b,0)) (v.gens.length+1)] Kc s1=Kc s2)∧WkM K s2 { v with gens:=v.gens++[x] } L' z1 p1 z2 p2 1 (some (b,0)) z4 p4 (hd)∧Fx L s s2∧Nw L s L'∧Fx (K.w::blk p3) s s2:=by
 obtain⟨b,s1,hb,ho,hfx,he⟩:=Zd5 (β:=β) (lim:=8796093022208) h.o3 (sz:=1) (n:=v.gens.length) [DV.int .i64 x] (by omega) (by simp[ints]) rfl (by omega);have hne:=h.ne;have hw1:=hfx.2 K.w _ (fun hm=>(hne.2.2.2 K.w (by simp[hm])).1 rfl) h.cell;have hLb: ∀x∈blk p3,x∈L:=fun x hx=>by rw[h.own];simp[hx]
 let L':=K.w::K.i::K.j::(blk p1++(blk p2++(blk (some (b,0))++blk p4)))
 let S':=s1.set K.w (some ⟨false,wkC K { v with gens:=v.gens++[x] } (slC z1 p1 v.seats.length) (slC z2 p2 v.heaps.length) (slC 1 (some (b,0)) (v.gens.length+1)) (slC z4 p4 v.free.length)⟩)
 have hfx2:Fx L s S':=
  (hfx.mono hLb).trans ((Fx.set s1 K.w _).mono fun y hy=>by rw[List.mem_singleton.1 hy];exact h.mem_w)
 have hnd:((K.w::K.i::K.j::(blk p1++blk p2))++(blk p3++blk p4)).Nodup:=by
  have:=h.nodup;rw[h.own]at this;simpa only[List.append_assoc,List.cons_append,List.nil_append,List.append_nil]using this
 have hltA: ∀y∈(K.w::K.i::K.j::(blk p1++blk p2))++(blk p3++blk p4),y<s.length:=fun y hy=>h.lt y (by
  rw[h.own];simpa only[List.append_assoc,List.cons_append,List.nil_append,List.append_nil]using hy)
 have hnd':L'.Nodup:=by
  have:=Zhu hnd hltA hb;show(K.w::K.i::K.j::(blk p1++(blk p2++(blk (some (b,0))++blk p4)))).Nodup;simpa only[List.append_assoc,List.cons_append,List.nil_append,List.append_nil,blk]using this
 have hnw:Nw L s L':=fun y hy=>by
  have hy':y∈K.w::K.i::K.j::(blk p1++(blk p2++(blk (some (b,0))++blk p4))):=hy;rw[h.own];by_cases e:y=b
  ·exact .inr (by omega)
  ·refine .inl ?_
   simp only[List.mem_cons,List.mem_append,blk,List.mem_nil_iff,or_false]at hy'⊢;simp only[e,false_or]at hy';rcases hy' with h1|h1|h1|h1
   ·exact .inl h1
   ·exact .inr (.inl h1)
   ·exact .inr (.inr (.inl h1))
   ·exact .inr (.inr (.inr (by rcases h1 with h1|h1|h1<;>simp[h1])))
 have hfx3:Fx (K.w::blk p3) s S':=
  ⟨hfx2.1,fun y c hy hc=>by
   simp only[List.mem_cons,not_or]at hy;show(s1.set K.w _)[y]? =_;rw[List.getElem?_set_ne (by omega)];exact hfx.2 y c hy.2 hc⟩
 have hmid:=ZlI hnd;have hd2: ∀y,y∈blk p1++(blk p2++blk p4)→y∉K.w::blk p3:=fun y hy hm=>by
  rcases List.mem_cons.1 hm with e|e
  ·refine(hne.2.2.2 y ?_).1 e
   simp only[List.mem_append]at hy⊢;rcases hy with e|e|e
   ·exact .inl e
   ·exact .inr (.inl e)
   ·exact .inr (.inr (.inr e))
  ·exact hmid y (by simp only[List.mem_append,List.mem_cons]at hy⊢;rcases hy with e|e|e<;>simp[e]) e
 have hbw:b≠K.w:=fun e=>by have:=(List.getElem?_eq_some_iff.1 h.cell).1;omega
 refine⟨b,s1,S',L',he,fun Kc=>?_,⟨?_,h.e1,h.e2,.inl rfl,h.e4,?_,?_,?_,?_,?_,?_,?_,?_,rfl,hnd'⟩,hfx2,hnw,hfx3⟩
 ·rw[Z1 hw1 (by show 16<19;omega)]
  rfl
 ·show(s1.set K.w _)[K.w]? =_
  rw[List.getElem?_set_self (by have:=(List.getElem?_eq_some_iff.1 hw1).1;exact this),List.length_append];rfl
 ·exact h.o1.fx hfx3 fun y hy=>hd2 y (by simp[hy])
 ·exact h.o2.fx hfx3 fun y hy=>hd2 y (by simp[hy])
 ·rw[show ints (v.gens++[x])=ints v.gens++[.int .i64 x] by unfold ints;rw[List.map_append];rfl]
  exact(show Own [] s1 (some (b,0)) _ from ho).fx (Fx.set s1 K.w _) (fun y hy=>by
   rw[List.mem_singleton.1 hy,List.mem_singleton];exact hbw)
 ·exact h.o4.fx hfx3 fun y hy=>hd2 y (by simp[hy])
 ·exact h.heaps.fx hfx2 hnw
 ·exact h.set.fx hfx3 (fun hm=>by
   rcases List.mem_cons.1 hm with e|e
   ·exact hne.1 e.symm
   ·exact(hne.2.2.2 K.i (by simp only[List.mem_append];exact .inr (.inr (.inl e)))).2.1 rfl) (fun hm=>by
   rcases List.mem_cons.1 hm with e|e
   ·exact hne.2.1 e.symm
   ·exact(hne.2.2.2 K.j (by simp only[List.mem_append];exact .inr (.inr (.inl e)))).2.2 rfl)
 ·exact Sl.fx h.img hfx2 h.off
 ·exact h.off.new h.img hnw
theorem WkM.pushHeap (h:WkM K s v L z1 p1 z2 p2 z3 p3 z4 p4 hd) (x:HeapV) (hl:v.heaps.length<1000000) {z:Nat} {p:Option (Nat×Nat)} (hz:z=4∨p=none) (hs:Sl s p (entsC x.ents)) (hpo:Off L p):
  ∃b s1 s2 L',(∀Kc:Option (Nat×Nat)→M β,(M.new (heapZ x z p) fun i=>M.load i 0 2 fun cs'=>M.app 2 p2 v.heaps.length cs' 1 1759218604441 Kc) s=Kc (some (b,0)) s1)∧
   (∀Kc:M β,M.store K.w 15 [.slice 2 (some (b,0)) (v.heaps.length+1)] Kc s1=Kc s2)∧WkM K s2 { v with heaps:=v.heaps++[x] } L' z1 p1 2 (some (b,0)) z3 p3 z4 p4 (hd++heapZ x z p)∧Fx L s s2∧Nw L s L'∧Fx (K.w::blk p2) s s2:=by
 obtain⟨b,s1,hb,ho,hfx,he⟩:=Zd5 (β:=β) (lim:=1759218604441) h.o2 (sz:=2) (n:=v.heaps.length) (heapZ x z p) (by omega) h.heaps.heaps.len rfl (by omega);have hne:=h.ne;have hw1:=hfx.2 K.w _ (fun hm=>(hne.2.2.2 K.w (by simp[hm])).1 rfl) h.cell;have hLb: ∀x∈blk p2,x∈L:=fun x hx=>by rw[h.own];simp[hx]
 let L':=K.w::K.i::K.j::(blk p1++(blk (some (b,0))++(blk p3++blk p4)))
 let S':=s1.set K.w (some ⟨false,wkC K { v with heaps:=v.heaps++[x] } (slC z1 p1 v.seats.length) (slC 2 (some (b,0)) (v.heaps.length+1)) (slC z3 p3 v.gens.length) (slC z4 p4 v.free.length)⟩)
 have hfx2:Fx L s S':=
  (hfx.mono hLb).trans ((Fx.set s1 K.w _).mono fun y hy=>by rw[List.mem_singleton.1 hy];exact h.mem_w)
 have hnd:((K.w::K.i::K.j::blk p1)++(blk p2++(blk p3++blk p4))).Nodup:=by
  have:=h.nodup;rw[h.own]at this;simpa only[List.append_assoc,List.cons_append,List.nil_append,List.append_nil]using this
 have hltA: ∀y∈(K.w::K.i::K.j::blk p1)++(blk p2++(blk p3++blk p4)),y<s.length:=fun y hy=>h.lt y (by
  rw[h.own];simpa only[List.append_assoc,List.cons_append,List.nil_append,List.append_nil]using hy)
 have hnd':L'.Nodup:=by
  have:=Zhu hnd hltA hb;show(K.w::K.i::K.j::(blk p1++(blk (some (b,0))++(blk p3++blk p4)))).Nodup;simpa only[List.append_assoc,List.cons_append,List.nil_append,List.append_nil,blk]using this
 have hnw:Nw L s L':=fun y hy=>by
  have hy':y∈K.w::K.i::K.j::(blk p1++(blk (some (b,0))++(blk p3++blk p4))):=hy;rw[h.own];by_cases e:y=b
  ·exact .inr (by omega)
  ·refine .inl ?_
   simp only[List.mem_cons,List.mem_append,blk,List.mem_nil_iff,or_false]at hy'⊢;simp only[e,false_or]at hy';rcases hy' with h1|h1|h1|h1
   ·exact .inl h1
   ·exact .inr (.inl h1)
   ·exact .inr (.inr (.inl h1))
   ·exact .inr (.inr (.inr (by rcases h1 with h1|h1|h1<;>simp[h1])))
 have hfx3:Fx (K.w::blk p2) s S':=
  ⟨hfx2.1,fun y c hy hc=>by
   simp only[List.mem_cons,not_or]at hy;show(s1.set K.w _)[y]? =_;rw[List.getElem?_set_ne (by omega)];exact hfx.2 y c hy.2 hc⟩
 have hmid:=ZlI hnd;have hd2: ∀y,y∈blk p1++(blk p3++blk p4)→y∉K.w::blk p2:=fun y hy hm=>by
  rcases List.mem_cons.1 hm with e|e
  ·refine(hne.2.2.2 y ?_).1 e
   simp only[List.mem_append]at hy⊢;rcases hy with e|e|e
   ·exact .inl e
   ·exact .inr (.inr (.inl e))
   ·exact .inr (.inr (.inr e))
  ·exact hmid y (by simp only[List.mem_append,List.mem_cons]at hy⊢;rcases hy with e|e|e<;>simp[e]) e
 have hbw:b≠K.w:=fun e=>by have:=(List.getElem?_eq_some_iff.1 h.cell).1;omega
 refine⟨b,s1,S',L',he,fun Kc=>?_,⟨?_,h.e1,.inl rfl,h.e3,h.e4,?_,?_,?_,?_,?_,?_,?_,?_,rfl,hnd'⟩,hfx2,hnw,hfx3⟩
 ·rw[Z1 hw1 (by show 15<19;omega)]
  rfl
 ·show(s1.set K.w _)[K.w]? =_
  rw[List.getElem?_set_self (by have:=(List.getElem?_eq_some_iff.1 hw1).1;exact this),List.length_append];rfl
 ·exact h.o1.fx hfx3 fun y hy=>hd2 y (by simp[hy])
 ·skip
  exact(show Own [] s1 (some (b,0)) _ from ho).fx (Fx.set s1 K.w _) (fun y hy=>by
   rw[List.mem_singleton.1 hy,List.mem_singleton];exact hbw)
 ·exact h.o3.fx hfx3 fun y hy=>hd2 y (by simp[hy])
 ·exact h.o4.fx hfx3 fun y hy=>hd2 y (by simp[hy])
 ·exact(h.heaps.fx hfx2 hnw).push hz (hs.fx hfx2 hpo) (hpo.new hs hnw)
 ·exact h.set.fx hfx3 (fun hm=>by
   rcases List.mem_cons.1 hm with e|e
   ·exact hne.1 e.symm
   ·exact(hne.2.2.2 K.i (by simp only[List.mem_append];exact .inr (.inl e))).2.1 rfl) (fun hm=>by
   rcases List.mem_cons.1 hm with e|e
   ·exact hne.2.1 e.symm
   ·exact(hne.2.2.2 K.j (by simp only[List.mem_append];exact .inr (.inl e))).2.2 rfl)
 ·exact Sl.fx h.img hfx2 h.off
 ·exact h.off.new h.img hnw
end Go.Gv.F
namespace Go.Gv.F
open Go.Gv
variable {β:Type}
variable {K:WkK} {s:St} {v:WkV} {L:List Nat} {z1 z2 z3 z4:Nat} {p1 p2 p3 p4:Option (Nat×Nat)} {hd:List DV}
def Zb7 (K:WkK) (v:WkV) (k:Int):Prop:=(v.seats.length:Int)=(if k≤K.sup.used then k else K.sup.used)∧∀x∈v.seats,ZW x=true
theorem Zu2 {K:WkK} {k:Int} {x:SeatV} {v v':WkV} (hx:ZW x=true) (_h0:0≤K.sup.used) (h:ZbC K k x v=some v') (ha:Zb7 K v k):Zb7 K v' (k+1):=by
 unfold ZbC at h;by_cases hk:k≥K.sup.used
 ·rw[decide_eq_true hk,cond_true]at h
  cases h2:Zkg x with
  |false=>rw[h2]at h;cases h
  |true=>
   rw[h2]at h;cases h;refine⟨?_,ha.2⟩;rw[ha.1];split<;>split<;>omega
 ·rw[decide_eq_false hk,cond_false]at h
  cases h2:Zim K.sup x with
  |false=>rw[h2]at h;cases h
  |true=>
   rw[h2]at h;cases h;refine⟨?_,fun y hy=>?_⟩
   ·have:=ha.1
    rw[if_pos (by omega)]at this;rw[if_pos (by omega)];simp;omega
   ·rcases List.mem_append.1 hy with h|h
    ·exact ha.2 y h
    ·rw[List.mem_singleton.1 h];exact hx
theorem ZqT {K:WkK} (h0:0≤K.sup.used): ∀ {x:List SeatV} {k:Int} {v v':WkV},(∀y∈x,ZW y=true)→Zca K k x v=some v'→Zb7 K v k→Zb7 K v' (k+x.length)
 |[],k,_,_,_,h,ha=>by cases h;simpa using ha
 |y::r,k,v,v',hr,h,ha=>by
  unfold Zca at h;cases h1:ZbC K k y v with
  |none=>rw[h1]at h;cases h
  |some w=>
   rw[h1]at h;have:=ZqT h0 (fun z hz=>hr z (by simp[hz])) h (Zu2 (hr y (by simp)) h0 h1 ha)
   rwa [show k+((y::r).length:Int)=k+1+r.length by simp;omega]
theorem ZrG {l:List UInt8} {x:List SeatV} (h:Ze5 l=some x): ∀y∈x,ZW y=true:=by
 unfold Ze5 at h;split at h
 ·cases h
 ·rename_i k t b _
  cases e:(decide (k=2)&&decide (t<128))with
  |false=>rw[e]at h;cases h
  |true=>
   rw[e]at h;cases e2:(ZbI b t 7).all ZW with
   |false=>rw[e2]at h;cases h
   |true=>rw[e2]at h;cases h;exact List.all_eq_true.1 e2
theorem ZsT {l:List UInt8} {x:List SeatV} (h:ZbV l= .leaf x): ∀y∈x,ZW y=true:=by
 unfold ZbV at h;split at h
 ·cases h
 ·split at h
  ·rename_i e;cases h;exact ZrG e
  ·split at h
   ·cases h
   ·split at h
    ·cases h
    ·split at h<;>cases h
theorem ZyI {K:WkK} (h0:0≤K.sup.used) {k slot:Int} {v v':WkV} (h:leafM K k slot v=some v') (ha:Zb7 K v slot):Zb7 K v' (slot+7):=by
 unfold leafM at h;cases ht:takeM K k v with
 |none=>rw[ht]at h;cases h
 |some q=>
  obtain⟨b,v1⟩:=q;rw[ht]at h;obtain⟨h1,_,_,_,_,h2⟩:=ZV ht;cases b with
  |leaf x=>
   have:=ZqT h0 (ZsT h2.symm) h (by unfold Zb7;rw[h1];exact ha)
   rwa [Zm0 h2.symm]at this
  |node x=>cases h
  |fan x=>cases h
  |queue x=>cases h
  |dir x=>cases h
  |none=>cases h
theorem Zmb {K:WkK} (h0:0≤K.sup.used) {cnt x5:Int} (hc:K.sup.used≤cnt*7): ∀ {x:List Int} {k:Int} {v v':WkV},Zbr K cnt x5 k x v=some v'→Zb7 K v ((x5*16+k)*7)→Zb7 K v' ((x5*16+k+x.length)*7)
 |[],_,_,_,h,ha=>by cases h;simpa using ha
 |y::r,k,v,v',h,ha=>by
  unfold Zbr at h;have e:(x5*16+k+((y::r).length:Int))*7=(x5*16+(k+1)+r.length)*7:=by simp;omega
  rw[e];cases h1:((!(y==0))==decide (x5*16+k<cnt))with
  |false=>rw[h1]at h;cases h
  |true=>
   rw[h1,cond_true]at h;cases h2:(!(y==0))with
   |false=>
    rw[h2]at h h1;have hk: ¬(x5*16+k<cnt):=by
     intro hh;rw[decide_eq_true hh]at h1;cases h1
    refine Zmb h0 hc h ⟨?_,ha.2⟩;rw[ha.1];split<;>split<;>omega
   |true=>
    rw[h2,cond_true]at h;cases h3:leafM K y ((x5*16+k)*7) v with
    |none=>rw[h3]at h;cases h
    |some w=>
     rw[h3]at h;have:=ZyI h0 h3 ha;rw[show(x5*16+k)*7+7=(x5*16+(k+1))*7 by omega]at this;exact Zmb h0 hc h this
theorem Zwk {l:List UInt8} {x:List Int} (h:ZjR l=some x):x.length=16:=by
 unfold ZjR at h;split at h
 ·cases h
 ·rename_i k t b _
  cases e:(decide (k=3)&&(decide (t=0)&&Zz (b.drop 32)))with
  |false=>rw[e]at h;cases h
  |true=>
   rw[e]at h;cases e2:Zib (fanOf b 16)with
   |false=>rw[e2]at h;cases h
   |true=>rw[e2]at h;cases h;exact ZbH b 16
theorem Zn8 {l:List UInt8} {x:List Int} (h:ZbV l= .fan x):x.length=16:=by
 unfold ZbV at h;split at h
 ·cases h
 ·split at h
  ·cases h
  ·split at h
   ·rename_i e;cases h;exact Zwk e
   ·split at h
    ·cases h
    ·split at h<;>cases h
theorem Zma {K:WkK} (h0:0≤K.sup.used) {cnt:Int} (hc:K.sup.used≤cnt*7): ∀ {x:List Int} {k:Int} {v v':WkV},Zcm K cnt k x v=some v'→Zb7 K v (k*112)→Zb7 K v' ((k+x.length)*112)
 |[],_,_,_,h,ha=>by cases h;simpa using ha
 |y::r,k,v,v',h,ha=>by
  unfold Zcm at h;have e:(k+((y::r).length:Int))*112=(k+1+r.length)*112:=by simp;omega
  rw[e];cases h1:((!(y==0))==decide (k*16<cnt))with
  |false=>rw[h1]at h;cases h
  |true=>
   rw[h1,cond_true]at h;cases h2:(y==0)with
   |true=>
    rw[h2]at h h1;have hk: ¬(k*16<cnt):=by
     intro hh;rw[decide_eq_true hh]at h1;cases h1
    refine Zma h0 hc h ⟨?_,ha.2⟩;rw[ha.1];split<;>split<;>omega
   |false=>
    rw[h2,cond_false]at h;cases ht:takeM K y v with
    |none=>rw[ht]at h;cases h
    |some q=>
     obtain⟨b,v1⟩:=q;rw[ht]at h;obtain⟨g1,_,_,_,_,g2⟩:=ZV ht;cases b with
     |leaf x=>cases h
     |node x=>cases h
     |queue x=>cases h
     |dir x=>cases h
     |none=>cases h
     |fan x2=>
      simp only at h;cases h3:Zbr K cnt k 0 x2 v1 with
      |none=>rw[h3]at h;cases h
      |some w=>
       rw[h3]at h;have hb:=Zn8 g2.symm;have:=Zmb h0 hc h3 (by unfold Zb7;rw[g1,show(k*16+0)*7=k*112 by omega];exact ha);rw[hb,show(k*16+0+((16:Nat):Int))*7=(k+1)*112 by omega]at this;exact Zma h0 hc h this
theorem Zv2 {u:Int} (h0:0≤u) (h1:u≤1792):u≤ZhN u*7:=by
 unfold ZhN upF;rw[decide_eq_true (show u≥0 from h0),decide_eq_true h1,Bool.and_true,cond_true,Zd (x:=u+7) (by omega) (by omega),Zd (x:=u+7-1) (by omega) (by omega)];obtain⟨k,rfl⟩: ∃k:Nat,u=k:=⟨u.toNat,by omega⟩;rw[show(((k:Nat):Int)+7-1)=((k+6:Nat):Int) by omega,show(((k+6:Nat):Int).tdiv 7)=(((k+6)/7:Nat):Int)from rfl,Zd (by omega) (by omega)];omega
theorem Zxk {K:WkK} (h0:0≤K.sup.used) (h1:K.sup.used≤1792) {v v':WkV} (hv:v.seats=[]) (h:Zc5 K v=some v'):(v'.seats.length:Int)=K.sup.used∧∀x∈v'.seats,ZW x=true:=by
 unfold Zc5 at h;cases hu:(K.sup.used==0)with
 |true=>
  rw[hu]at h;cases h;rw[hv];exact⟨by have:=eq_of_beq hu;simp;omega,fun _ h=>by cases h⟩
 |false=>
  rw[hu,cond_false]at h;cases ht:takeM K K.sup.fan v with
  |none=>rw[ht]at h;cases h
  |some q=>
   obtain⟨b,v1⟩:=q;rw[ht]at h;obtain⟨g1,_,_,_,_,g2⟩:=ZV ht;cases b with
   |leaf x=>cases h
   |node x=>cases h
   |queue x=>cases h
   |dir x=>cases h
   |none=>cases h
   |fan x=>
    have:=Zma h0 (Zv2 h0 h1) h (by unfold Zb7;rw[g1,hv];exact⟨by rw[if_pos (by omega)];rfl,fun _ h=>by cases h⟩);rw[Zn8 g2.symm]at this;have h2:=this.1;refine⟨?_,this.2⟩;rw[h2];split<;>omega
end Go.Gv.F
namespace Go.Gv.F
open Go.Gv
variable {β:Type}
variable {K:WkK} {s:St} {v:WkV} {L:List Nat} {z1 z2 z3 z4:Nat} {p1 p2 p3 p4:Option (Nat×Nat)} {hd:List DV}
def Zc7 (K:WkK):Nat→List Bool→Int→WkV→Option (List Bool×WkV)
 |0,_,_,_=>none
 |f+1,fl,next,v=>bif next==0 then some (fl,v)else(bif decide (next≤K.sup.used)then
   (match v.seats[(next-1).toNat]? with
   |none=>none
   |some x=>bif (bif (bif !x.live then decide (x.gen<K.sup.g)else false)then !fl.getD (next-1).toNat false else false)then Zc7 K f (fl.set (next-1).toNat true) x.block { v with free:=v.free++[next-1] } else none)
  else none)
def Zo8 (K:WkK) (b:Bool) (x:SeatV):Bool:=bif (bif x.live then true else x.gen==K.sup.g)then true else b
def Zfa (K:WkK):List Bool→List SeatV→Bool
 |_,[]=>true
 |fl,x::r=>Zo8 K (fl.getD 0 false) x&&Zfa K (fl.drop 1) r
def ZhQ (K:WkK):Option (List Bool×WkV)→Option WkV
 |none=>none
 |some (fl,v)=>bif Zfa K fl v.seats then some v else none
def freeM (K:WkK) (v:WkV):Option WkV:=ZhQ K (Zc7 K (K.sup.used.toNat+1) (List.replicate K.sup.used.toNat false) K.sup.free v)
theorem ZqN: ∀ {l:List Bool} {k:Nat},l.getD k true=false→(l.set k true).count false+1=l.count false
 |[],k,h=>by simp at h
 |b::l,0,h=>by
  simp at h;subst h;simp
 |b::l,k+1,h=>by
  have:=ZqN (l:=l) (k:=k) (by simpa using h);simp only[List.set_cons_succ,List.count_cons];omega
theorem Own.some_of {s:St} {a:Option (Nat×Nat)} {cs:List DV} (h:Own [] s a cs) (hn:0<cs.length): ∃b,a=some (b,0)∧s[b]? =some (some ⟨false,cs⟩):=by
 rcases h.2 with⟨_,rfl⟩|⟨i,rfl,_,h3⟩
 ·cases hn
 ·exact⟨i,rfl,h3⟩
theorem Zhw {s:St} {b:Nat} {l:List SeatV} {x:SeatV} {k:Nat} (h:s[b]? =some (some ⟨false,leafC l⟩)) (hx:l[k]? =some x) (Kc:List DV→M β):M.load b (k*3+0) 3 Kc s=Kc (seatC x) s:=by
 have hk:k<l.length:=(List.getElem?_eq_some_iff.1 hx).1;rw[Nat.add_zero,ZT h (by rw[ZN];omega),ZiU hx]
theorem Zzn {Bd:Za} (hM:ZU Bd) (n:Nat) (i1:Nat) (fl:List Bool) (s0:St) (L0:List Nat) (R:Option WkV) (hW:Wk K s v L) (hf:s[i1]? =some (some ⟨false,fl.map .bool⟩)) (hl:fl.length=v.seats.length) (hlen:v.seats.length<2000) (hfx:Fx L0 s0 s) (hnw:Nw L0 s0 L) (hR:ZhQ K (some (fl,v))=R) (X:Nat) (hX:X=v.seats.length) (hn:2010≤n):
  Ok (MEnd K s0 L0 R []) ((M.nn (some (K.w,0)) fun i3 o2=>
  M.load1 i3 (o2+11) fun d2=>
  D.slice 3 d2 fun x2 x2n=>
  M.join (fun st=>
   D.nil st<|
   M.ret []) fun jk2=>
  M.loop (fun rec1 st=>
   J.i .i64 st fun x3 st=>
   D.nil st<|
   bif decide (x3<(x2n:Int))then
    M.nn x2 fun i4 o3=>
    M.chk (inB x3 x2n)<|
    M.load i4 (x3.toNat*3+o3) 3 fun cs=>
    J.b cs fun x4 r=>
    J.i .i64 r fun x5 r=>
    J.i .i64 r fun _x6 r=>
    D.nil r<|
    M.join (fun st=>J.b st fun b1 st=>D.nil st<|
     M.join (fun st=>J.b st fun b2 st=>D.nil st<|
      M.call (run Bd n 225 [.bool b2]) fun ds=>
      D.nil ds<|
      rec1 [.int .i64 (wr64 (x3+1))]) fun jk4=>
     bif b1 then
      jk4 [.bool true]
     else
      M.chk (inB x3 X)<|
      M.load1 i1 (x3.toNat*1) fun d3=>
      D.bool d3 fun x7=>
      jk4 [.bool x7]) fun jk3=>
    bif x4 then
     jk3 [.bool true]
    else
     M.nn (some (K.w,0)) fun i5 o4=>
     M.load1 i5 (o4+4) fun d4=>
     D.int .i64 d4 fun x8=>
     jk3 [.bool (x5==x8)]
   else
    jk2 []) n [.int .i64 0]) s):=by
 subst hX;obtain⟨n,rfl⟩: ∃k,n=k+1:=⟨n-1,by omega⟩;obtain⟨z1,p1,z2,p2,z3,p3,z4,p4,hd,hW⟩:=hW;rw[nn_some',Zn hW.cell rfl];show Ok _ (D.slice 3 (.slice z1 p1 v.seats.length) _ s);rw[ZB 3 z1 p1 _ hW.e1];simp only[Zc];refine Zk _ (fun q y t=>∃i:Nat,y=[.int .i64 i]∧i≤v.seats.length∧v.seats.length-i≤q∧t=s∧(bif Zfa K (fl.drop i) (v.seats.drop i)then some v else none)=R) ?_ v.seats.length (n+1) _ _ ⟨0,rfl,Nat.zero_le _,by omega,rfl,hR⟩ (by omega);rintro q _ t ⟨i,rfl,hi,hq,rfl,hgo⟩ rec hrec;simp only[J_i,D_nil];by_cases hlt:i<v.seats.length
 ·obtain⟨b,rfl,hb⟩:=hW.o1.some_of (by rw[ZN];omega)
  have hxi:v.seats[i]? =some v.seats[i]:=List.getElem?_eq_getElem hlt;have hdr:v.seats.drop i=v.seats[i]::v.seats.drop (i+1):=List.drop_eq_getElem_cons hlt;have hfi:fl[i]? =some (fl[i]'(by omega)):=List.getElem?_eq_getElem (by omega);rw[decide_eq_true (show(i:Int)<(v.seats.length:Int) by omega),cond_true,nn_some',Ze (Zl hlt),Int.toNat_natCast,Zhw hb hxi];rw[hdr]at hgo;unfold Zfa at hgo;rw[List.drop_drop,show(fl.drop i).getD 0 false=fl[i]'(by omega) by rw[List.getD_eq_getElem?_getD,List.getElem?_drop,Nat.add_zero,hfi];rfl]at hgo;generalize v.seats[i]=x at hgo;unfold seatC;simp only[J_b,J_i,D_nil,nn_some'];have hw4:wr64 ((i:Int)+1)=((i+1:Nat):Int):=Zd (by omega) (by omega);rw[hw4];have hgoal:Ok (MEnd K s0 L0 R []) (M.call (run Bd (n+1) 225 [.bool (Zo8 K (fl[i]'(by omega)) x)]) (fun ds=>D.nil ds<|rec [.int .i64 ((i+1:Nat):Int)]) t):=by
   cases h0:Zo8 K (fl[i]'(by omega)) x with
   |true=>
    rw[h0,Bool.true_and]at hgo;rw[Zbi hM n rfl];simp only[D_nil];exact hrec (v.seats.length-(i+1)) _ _ (by omega) ⟨i+1,rfl,by omega,Nat.le_refl _,rfl,hgo⟩
   |false=>
    rw[h0,Bool.false_and,cond_false]at hgo;rw[ZH hM n rfl,←hgo];exact .mk ⟨t,rfl,hfx⟩
  unfold Zo8 at hgoal;have hlf: ∀Kc:DV→M (List DV),M.load1 i1 (i*1) Kc t=Kc (.bool (fl[i]'(by omega))) t:=fun Kc=>Zn hf (by rw[Nat.mul_one,List.getElem?_map,hfi];rfl) Kc
  have hld: ∀Kc:DV→M (List DV),M.load1 K.w (0+4) Kc t=Kc (.int .i64 K.sup.g) t:=fun Kc=>Zn hW.cell rfl Kc
  cases hlv:x.live with
  |true=>
   simp only[hlv,cond_true]at hgoal;rw[cond_true];exact hgoal
  |false=>
   simp only[hlv,cond_false]at hgoal;rw[cond_false,hld];simp only[D_int];cases hg:(x.gen==K.sup.g)with
   |true=>
    simp only[hg,cond_true]at hgoal;rw[cond_true];exact hgoal
   |false=>
    simp only[hg,cond_false]at hgoal;rw[cond_false,Ze (Zl hlt),hlf];simp only[D_bool];exact hgoal
 ·rw[decide_eq_false (show ¬(i:Int)<(v.seats.length:Int) by omega),cond_false]
  rw[Zb];rw[List.drop_eq_nil_of_le (as:=v.seats) (by omega)]at hgo;have hgo':some v=R:=hgo;rw[←hgo'];exact .mk ⟨t,L,rfl,hW.wk,hfx,hnw⟩
theorem ZyW {Bd:Za} (h:ZdD Bd) (n:Nat) (hW:Wk K s v L) (h0:0≤K.sup.used) (h1:K.sup.used≤1792) (hf0:0≤K.sup.free) (hs:(v.seats.length:Int)=K.sup.used) (hr: ∀x∈v.seats,ZW x=true) (hh:v.heaps=[]) (hfr:v.free=[]) (hn:2100≤n):
  Ok (MEnd K s L (freeM K v) []) (run Bd n 230 [.ptr (some (K.w,0))] s):=by
 obtain⟨n,rfl⟩: ∃k,n=k+2:=⟨n-2,by omega⟩;rw[Zf,h.eq];unfold ZcA freeM;simp only[J_p,D_nil];rw[nn_some'];obtain⟨z1,p1,z2,p2,z3,p3,z4,p4,hd,hW⟩:=hW;rw[Zn hW.cell rfl];simp only[D_int];rw[Ze (by rw[Bool.and_eq_true,Bool.and_eq_true,decide_eq_true_iff,decide_eq_true_iff,decide_eq_true_iff];omega),Zu,ZhU];have hp0:=Pre.new s (some (⟨false,List.replicate K.sup.used.toNat (.bool false)⟩:Blk));have hfl0:(s++[some (⟨false,List.replicate K.sup.used.toNat (.bool false)⟩:Blk)])[s.length]? =some (some ⟨false,(List.replicate K.sup.used.toNat false).map .bool⟩):=by simp
 have hW0:=hW.pre hp0;have hcell0:=hW0.cell;generalize s++[some (⟨false,List.replicate K.sup.used.toNat (.bool false)⟩:Blk)]=s0 at hp0 hfl0 hW0 hcell0;rw[nn_some',Zn hcell0 rfl];simp only[D_int];rw[Zc];obtain⟨R,hR⟩: ∃R,ZhQ K (Zc7 K (K.sup.used.toNat+1) (List.replicate K.sup.used.toNat false) K.sup.free v)=R:=⟨_,rfl⟩;rw[hR];have hX:K.sup.used.toNat=v.seats.length:=by omega
 have hi1:s.length∉L:=fun hm=>by have:=hW.lt _ hm;omega
 refine Zk _ (fun q y t=>∃(f:Nat) (fl:List Bool) (next:Int) (u:WkV) (Lu:List Nat),y=[.int .i64 next]∧0≤next∧fl.length=v.seats.length∧fl.count false≤q∧fl.count false<f∧Wk K t u Lu∧u.seats=v.seats∧u.heaps=[]∧u.free.length+fl.count false≤v.seats.length∧t[s.length]? =some (some ⟨false,fl.map .bool⟩)∧s.length∉Lu∧Fx L s t∧Nw L s Lu∧ZhQ K (Zc7 K f fl next u)=R) ?_ v.seats.length (n+1) _ _ ⟨K.sup.used.toNat+1,_,K.sup.free,v,L,rfl,hf0,by simp[hX],by simp[hX],by simp,hW0.wk,rfl,hh,by simp[hfr,hX],hfl0,hi1,Fx.pre L hp0,.refl L s,hR⟩ (by omega);rintro q _ t ⟨f,fl,next,u,Lu,rfl,hnx,hfl,hcq,hcf,hWu,hus,huh,huf,hft,hiL,hfx,hnw,hgo⟩ rec hrec;simp only[J_i,D_nil];obtain⟨f,rfl⟩: ∃k,f=k+1:=⟨f-1,by omega⟩;unfold Zc7 at hgo;cases hz:(next==0)with
 |true=>
  rw[hz,cond_true]at hgo;rw[Bool.not_true,cond_false];exact Zzn h.q111 (n+1) s.length fl s L R hWu hft (by rw[hus];exact hfl) (by rw[hus];omega) hfx hnw hgo K.sup.used.toNat (by rw[hus];exact hX) (by omega)
 |false=>
  rw[hz,cond_false]at hgo;rw[Bool.not_false,cond_true];have hn0:next≠0:=fun e=>by rw[e]at hz;cases hz
  obtain⟨z1,p1,z2,p2,z3,p3,z4,p4,hd,hWu⟩:=hWu;rw[nn_some',Zn hWu.cell rfl];simp only[D_int];cases hle:decide (next≤K.sup.used)with
  |false=>
   rw[hle,cond_false]at hgo;rw[ZH h.q111 n rfl];have hgo':none=R:=hgo;rw[←hgo'];exact .mk ⟨t,rfl,hfx⟩
  |true=>
   have hle':=of_decide_eq_true hle;rw[hle,cond_true]at hgo;rw[Zbi h.q111 n rfl];simp only[D_nil];obtain⟨k,hk⟩: ∃k:Nat,next-1=k:=⟨(next-1).toNat,by omega⟩;have hkl:k<u.seats.length:=by rw[hus];omega
   have hw1:wr64 (next-1)=(k:Int):=by rw[Zd (by omega) (by omega),hk]
   rw[hk,Int.toNat_natCast]at hgo;simp only[hw1,Int.toNat_natCast];rw[nn_some',Zn hWu.cell rfl];show Ok _ (D.slice 3 (.slice z1 p1 u.seats.length) _ t);rw[ZB 3 z1 p1 _ hWu.e1];obtain⟨b,rfl,hb⟩:=hWu.o1.some_of (by rw[ZN];omega);have hxi:u.seats[k]? =some u.seats[k]:=List.getElem?_eq_getElem hkl;have hrx:=hr u.seats[k] (by rw[←hus];exact List.getElem_mem hkl);rw[nn_some',Ze (Zl hkl),Zhw hb hxi];rw[hxi]at hgo;simp only at hgo;generalize u.seats[k]=x at hgo hrx;unfold seatC;simp only[J_b,J_i,D_nil,Zc,nn_some'];have hfk:fl[k]? =some (fl[k]'(by omega)):=List.getElem?_eq_getElem (by omega);rw[show fl.getD k false=fl[k]'(by omega) by rw[List.getD_eq_getElem?_getD,hfk];rfl]at hgo;have hld: ∀Kc:DV→M (List DV),M.load1 K.w (0+4) Kc t=Kc (.int .i64 K.sup.g) t:=fun Kc=>Zn hWu.cell rfl Kc
   have hlf: ∀Kc:DV→M (List DV),M.load1 s.length (k*1) Kc t=Kc (.bool (fl[k]'(by omega))) t:=fun Kc=>Zn hft (by rw[Nat.mul_one,List.getElem?_map,hfk];rfl) Kc
   cases hlv:x.live with
   |true=>
    simp only[hlv,Bool.not_true,cond_false]at hgo;rw[Bool.not_true,cond_false];simp only[cond_false];rw[ZH h.q111 n rfl];have hgo':none=R:=hgo;rw[←hgo'];exact .mk ⟨t,rfl,hfx⟩
   |false=>
    simp only[hlv,Bool.not_false,cond_true]at hgo;rw[Bool.not_false,cond_true,hld];simp only[D_int];cases hg:decide (x.gen<K.sup.g)with
    |false=>
     simp only[hg,cond_false]at hgo;simp only[cond_false];rw[ZH h.q111 n rfl];have hgo':none=R:=hgo;rw[←hgo'];exact .mk ⟨t,rfl,hfx⟩
    |true=>
     simp only[hg,cond_true]at hgo;simp only[cond_true];rw[hX,←hus,Ze (Zl hkl),hlf];simp only[D_bool];cases hflk:fl[k]'(by omega)with
     |true=>
      simp only[hflk,Bool.not_true,cond_false]at hgo;rw[Bool.not_true,ZH h.q111 n rfl];have hgo':none=R:=hgo;rw[←hgo'];exact .mk ⟨t,rfl,hfx⟩
     |false=>
      simp only[hflk,Bool.not_false,cond_true]at hgo;rw[Bool.not_false,Zbi h.q111 n rfl];simp only[D_nil];rw[Ze (Zl hkl),Z1 hft (by simp;omega)];have hset:(fl.map DV.bool).set (k*1) (.bool true)=(fl.set k true).map DV.bool:=by rw[Nat.mul_one,List.map_set]
      rw[hset];have hfxs:=Fx.set t s.length (some (⟨false,(fl.set k true).map DV.bool⟩:Blk));have hofa:Off [s.length] K.a:=fun b o e hm=>by
       have hlt:=Sl.lt (e▸hW.img);rw[List.mem_singleton.1 hm]at hlt;omega
      have hWs:=hWu.keep hfxs (fun y hy=>by rw[List.mem_singleton.1 hy];exact hiL) hofa (by
       have:=hWu.heaps;rw[huh]at this⊢;exact this)
      have hft':(t.set s.length (some (⟨false,(fl.set k true).map DV.bool⟩:Blk)))[s.length]? =some (some ⟨false,(fl.set k true).map .bool⟩):=List.getElem?_set_self (List.getElem?_eq_some_iff.1 hft).1;have hfxt:Fx L s (t.set s.length (some (⟨false,(fl.set k true).map DV.bool⟩:Blk))):=hfx.step hfxs fun y hy=> .inr (by rw[List.mem_singleton.1 hy];exact Nat.le_refl _)
      generalize t.set s.length (some (⟨false,(fl.set k true).map DV.bool⟩:Blk))=t1 at hfxs hWs hft' hfxt;rw[Zn hWs.cell rfl];show Ok _ (D.slice 1 (.slice z4 p4 u.free.length) _ t1);rw[ZB 1 z4 p4 _ hWs.e4];have hcs:=ZqN (l:=fl) (k:=k) (by rw[List.getD_eq_getElem?_getD,hfk,hflk];rfl);obtain⟨b2,t2,t3,L3,g1,g2,g3,g4,g5,g6⟩:=hWs.pushFree (β:=List DV) (k:Int) (by omega);have ht1l:s.length<t1.length:=(List.getElem?_eq_some_iff.1 hft').1;refine Eq.mpr (congrArg (Ok _) (g1 _)) ?_;refine Eq.mpr (congrArg (Ok _) (g2 _)) ?_;have hblk:0≤x.block:=by
       unfold ZW at hrx;rw[hlv,cond_false,Bool.and_eq_true,Bool.and_eq_true]at hrx;have h2:=hrx.2.1;unfold ZbG at h2;by_cases hb0:x.block≥0
       ·exact hb0
       ·rw[decide_eq_false hb0]at h2;cases h2
      refine hrec ((fl.set k true).count false) _ _ (by omega) ⟨f,fl.set k true,x.block,_,L3,rfl,hblk,by simpa using hfl,Nat.le_refl _,by omega,g3.wk,hus,huh,by simp;omega,?_,?_,hfxt.step g4 hnw,hnw.trans hfxt.1 g5,hgo⟩
      ·refine g4.2 _ _ hiL hft'
      ·intro hm
       rcases g5 _ hm with e|e
       ·exact hiL e
       ·omega
end Go.Gv.F
namespace Go.Gv.F
open Go.Gv
variable {β:Type}
variable {K:WkK} {s:St} {v:WkV} {L:List Nat} {z1 z2 z3 z4:Nat} {p1 p2 p3 p4:Option (Nat×Nat)} {hd:List DV}
def liveM (v:WkV):WkV:= { v with gens:=v.gens++v.seats.map (·.gen) }
def liveN (v:WkV):Nat:=(v.seats.filter (·.live)).length
theorem ZzF {Bd:Za} (h:ZdJ Bd) (n:Nat) (hW:Wk K s v L) (hl:v.seats.length<2000) (hg:v.gens.length<100000) (hn:2010≤n):
  Ok (fun o=>∃s' L',o=(.val [.int .i64 (liveN v:Nat)],s')∧Wk K s' (liveM v) L'∧Fx L s s'∧Nw L s L') (run Bd n 234 [.ptr (some (K.w,0))] s):=by
 obtain⟨n,rfl⟩: ∃k,n=k+1:=⟨n-1,by omega⟩;rw[Zf,h.eq];unfold Zcw;simp only[J_p,D_nil,nn_some',Zc];obtain⟨z1,p1,z2,p2,z3,p3,z4,p4,hd,hW⟩:=hW;rw[Zn hW.cell rfl];show Ok _ (D.slice 3 (.slice z1 p1 v.seats.length) _ s);rw[ZB 3 z1 p1 _ hW.e1];refine Zk _ (fun q y t=>∃(i:Nat) (z3:Nat) (p3:Option (Nat×Nat)) (Lu:List Nat),y=[.int .i64 (((v.seats.take i).filter (·.live)).length:Nat),.int .i64 i]∧i≤v.seats.length∧v.seats.length-i≤q∧WkM K t { v with gens:=v.gens++(v.seats.take i).map (·.gen) } Lu z1 p1 z2 p2 z3 p3 z4 p4 hd∧Fx L s t∧Nw L s Lu) ?_ v.seats.length n _ _ ⟨0,z3,p3,L,rfl,Nat.zero_le _,by omega,by simpa using hW,.refl L s,.refl L s⟩ (by omega);rintro q _ t ⟨i,z3,p3,Lu,rfl,hi,hq,hWu,hfu,hnu⟩ rec hrec;simp only[J_i,D_nil];by_cases hlt:i<v.seats.length
 ·obtain⟨b,rfl,hb⟩:=hWu.o1.some_of (by rw[ZN];exact Nat.mul_pos (by show 0<v.seats.length;omega) (by omega))
  have hxi:v.seats[i]? =some v.seats[i]:=List.getElem?_eq_getElem hlt;have hts:v.seats.take (i+1)=v.seats.take i++[v.seats[i]]:=List.take_succ_eq_append_getElem hlt;rw[decide_eq_true (show(i:Int)<(v.seats.length:Int) by omega),cond_true,nn_some',Ze (Zl hlt),Int.toNat_natCast,Zhw hb hxi];generalize v.seats[i]=x at hts;unfold seatC;simp only[J_b,J_i,D_nil];rw[Zn hWu.cell rfl];show Ok _ (D.slice 1 (.slice z3 p3 (v.gens++(v.seats.take i).map (·.gen)).length) _ t);rw[ZB 1 z3 p3 _ hWu.e3];have hgl:(v.gens++(v.seats.take i).map (·.gen)).length<1000000:=by
   rw[List.length_append,List.length_map,List.length_take];omega
  obtain⟨b2,t2,t3,L3,g1,g2,g3,g4,g5,g6⟩:=hWu.pushGen (β:=List DV) x.gen hgl;refine Eq.mpr (congrArg (Ok _) (g1 _)) ?_;refine Eq.mpr (congrArg (Ok _) (g2 _)) ?_;have hw4:wr64 ((i:Int)+1)=((i+1:Nat):Int):=Zd (by omega) (by omega);have hfl:((v.seats.take i).filter (·.live)).length≤i:=Nat.le_trans (List.length_filter_le _ _) (by rw[List.length_take];omega);have hw5:wr64 (((((v.seats.take i).filter (·.live)).length:Nat):Int)+1)=((((v.seats.take i).filter (·.live)).length+1:Nat):Int):=Zd (by omega) (by omega);rw[hw4,hw5];have hgg:WkM K t3 { v with gens:=v.gens++(v.seats.take (i+1)).map (·.gen) } L3 z1 (some (b,0)) z2 p2 1 (some (b2,0)) z4 p4 hd:=by
   rw[hts,List.map_append,←List.append_assoc];exact g3
  cases hlv:x.live with
  |true=>
   rw[cond_true];exact hrec (v.seats.length-(i+1)) _ _ (by omega) ⟨i+1,1,some (b2,0),L3,by rw[hts,List.filter_append];simp[hlv],by omega,Nat.le_refl _,hgg,hfu.step g4 hnu,hnu.trans hfu.1 g5⟩
  |false=>
   rw[cond_false];exact hrec (v.seats.length-(i+1)) _ _ (by omega) ⟨i+1,1,some (b2,0),L3,by rw[hts,List.filter_append];simp[hlv],by omega,Nat.le_refl _,hgg,hfu.step g4 hnu,hnu.trans hfu.1 g5⟩
 ·rw[decide_eq_false (show ¬(i:Int)<(v.seats.length:Int) by omega),cond_false]
  simp only[Zb];rw[List.take_of_length_le (by omega)]at hWu⊢;exact .mk ⟨t,Lu,rfl,hWu.wk,hfu,hnu⟩
end Go.Gv.F
