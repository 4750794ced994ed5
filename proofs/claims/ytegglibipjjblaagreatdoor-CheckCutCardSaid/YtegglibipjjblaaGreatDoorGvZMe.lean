/- The document's maker of images: its blocks, one behind the other. -/
import Derived.Test.YtegglibipjjblaaGreatDoorGvZMd
namespace Go.Gv.F
open Go.Gv
variable {β:Type}
structure MkV where
 B:List UInt8
 next:Nat
 At:List Int
structure MkM (s:St) (i ib ia:Nat) (m:MkV):Prop where
 cell:s[i]? =some (some ⟨false,[.slice 1 (some (ib,0)) m.B.length,.int .i64 m.next,.slice 1 (some (ia,0)) m.At.length]⟩)
 bb:s[ib]? =some (some ⟨false,octs m.B⟩)
 aa:s[ia]? =some (some ⟨false,ints m.At⟩)
 d1:i≠ib
 d2:i≠ia
 d3:ib≠ia
theorem MkM.fx {s s':St} {i ib ia:Nat} {m:MkV} {T:List Nat} (h:MkM s i ib ia m) (k:Fx T s s') (hT: ∀x∈T,x≠i∧x≠ib∧x≠ia):MkM s' i ib ia m:=
 ⟨k.2 _ _ (fun e=>(hT _ e).1 rfl) h.cell,k.2 _ _ (fun e=>(hT _ e).2.1 rfl) h.bb,k.2 _ _ (fun e=>(hT _ e).2.2 rfl) h.aa,h.d1,h.d2,h.d3⟩
theorem MkM.pre {s s':St} {i ib ia:Nat} {m:MkV} (h:MkM s i ib ia m) (k:Pre s s'):MkM s' i ib ia m:=h.fx (Fx.pre [] k) fun _ h=>by cases h
theorem MkM.lt {s:St} {i ib ia:Nat} {m:MkV} (h:MkM s i ib ia m):i<s.length∧ib<s.length∧ia<s.length:=
 ⟨(List.getElem?_eq_some_iff.1 h.cell).1,(List.getElem?_eq_some_iff.1 h.bb).1,(List.getElem?_eq_some_iff.1 h.aa).1⟩
theorem MkM.kp {s s':St} {i ib ia:Nat} {m:MkV} (h:MkM s i ib ia m) (k:Fx [i,ib,ia] s s'):Kp s s':=by
 intro j all e;refine k.2 j _ (fun hm=>?_) e;simp only[List.mem_cons,List.not_mem_nil,or_false]at hm;rcases hm with rfl|rfl|rfl
 ·rw[h.cell]at e;cases e
 ·rw[h.bb]at e;cases e
 ·rw[h.aa]at e;cases e
def ovB (B:List UInt8) (k:Nat) (s:List UInt8):List UInt8:=B.take k++(s.take (B.length-k)++B.drop (k+s.length))
theorem ZmC {B:List UInt8} {k:Nat} (s:List UInt8) (h:k≤B.length):(ovB B k s).length=B.length:=by
 unfold ovB;rw[List.length_append,List.length_append,List.length_take,List.length_take,List.length_drop];omega
theorem ZvJ {B:List UInt8} {k:Nat} (s:List UInt8) (h:k≤B.length):spl (octs B) k (octs (s.take (B.length-k)))=octs (ovB B k s):=by
 have e:octs B=octs (B.take k)++(octs ((B.drop k).take s.length)++octs (B.drop (k+s.length))):=by
  rw[←Zga,←Zga,←List.drop_drop,List.take_append_drop,List.take_append_drop]
 have hl:(octs (B.take k)).length=k:=by rw[Zt,List.length_take];omega
 have:=ZcN (octs (B.take k)) (octs ((B.drop k).take s.length)) (octs (B.drop (k+s.length))) (octs (s.take (B.length-k))) (by
  rw[Zt,Zt,List.length_take,List.length_take,List.length_drop,Nat.min_comm])
 rw[hl,←e]at this;rw[this];unfold ovB;rw[Zga,Zga]
def putB (m:MkV) (s:List UInt8):MkV:=⟨bif decide (64*m.next+64≤m.B.length)then ovB m.B (64*m.next) s else m.B,m.next+1,m.At⟩
theorem Zcb (m:MkV) (s:List UInt8):(putB m s).B.length=m.B.length:=by
 unfold putB;by_cases h:64*m.next+64≤m.B.length
 ·simp only[decide_eq_true h,cond_true];exact ZmC s (by omega)
 ·simp only[decide_eq_false h,cond_false]
theorem Ziy {Bd:Za} (h:Zbt Bd) (n:Nat) {i ib ia:Nat} {m:MkV} (s:List UInt8) (st:St) (hm:MkM st i ib ia m) (hn:m.next<1000000) (_hB:m.B.length<1000000):
  Ok (fun o=>∃st',o=(.val [.int .i64 m.next],st')∧MkM st' i ib ia (putB m s)∧Fx [i,ib] st st') (run Bd (n+1) 194 [.ptr (some (i,0)),.str s] st):=by
 rw[Zf,h.eq];unfold ZcH;simp only[J_p,J_s,D_nil,nn_some'];rw[Zn hm.cell rfl];simp only[D_int];rw[Zn hm.cell rfl];simp only[D_int];rw[Nat.zero_add,Z1 hm.cell (by show 1<3;omega)];have hw:wr64 ((m.next:Int)+1)=((m.next+1:Nat):Int):=Zd (by omega) (by omega);have hw1:wr64 (64*(m.next:Int))=((64*m.next:Nat):Int):=by rw[Zd (by omega) (by omega)];omega
 have hw2:wr64 (((64*m.next:Nat):Int)+64)=((64*m.next+64:Nat):Int):=Zd (by omega) (by omega);simp only[hw,hw1,hw2];obtain⟨h1,h2,h3⟩:=hm.lt;have hset:([.slice 1 (some (ib,0)) m.B.length,.int .i64 m.next,.slice 1 (some (ia,0)) m.At.length]:List DV).set 1 (.int .i64 ((m.next+1:Nat):Int))=[.slice 1 (some (ib,0)) m.B.length,.int .i64 ((m.next+1:Nat):Int),.slice 1 (some (ia,0)) m.At.length]:=rfl;rw[hset];obtain⟨s1,hs1⟩: ∃s1,st.set i (some (⟨false,[.slice 1 (some (ib,0)) m.B.length,.int .i64 ((m.next+1:Nat):Int),.slice 1 (some (ia,0)) m.At.length]⟩:Blk))=s1:=⟨_,rfl⟩;have hm1:MkM s1 i ib ia ⟨m.B,m.next+1,m.At⟩:=by
  rw[←hs1];have d1:=hm.d1;have d2:=hm.d2;exact⟨List.getElem?_set_self h1,by rw[List.getElem?_set_ne d1];exact hm.bb,by rw[List.getElem?_set_ne d2];exact hm.aa,d1,d2,hm.d3⟩
 have hf1:Fx [i,ib] st s1:=by rw[←hs1];exact(Fx.set st i _).mono fun y hy=>by rw[List.mem_singleton.1 hy];simp
 rw[hs1,Zn hm1.cell rfl];simp only[D_slice];rw[Zc];by_cases hb:64*m.next+64≤m.B.length
 ·rw[decide_eq_true (show((m.B.length:Nat):Int)≥((64*m.next+64:Nat):Int) by omega),cond_true,Zn hm1.cell rfl]
  simp only[D_slice];rw[Ze (by rw[Bool.and_eq_true,decide_eq_true_iff,decide_eq_true_iff];omega)];simp only[Int.toNat_natCast,Nat.mul_one];show Ok _ (M.store ib (64*m.next+0) _ _ s1);rw[Nat.add_zero,ZeZ,ZkA hm1.bb (by rw[Zt,Zt,List.length_take];show _≤m.B.length;omega)];have hsp:=ZvJ (B:=m.B) (k:=64*m.next) s (by omega);show Ok _ ((D.nil [] (M.ret [DV.int .i64 m.next])) (s1.set ib (some ⟨false,spl (octs m.B) (64*m.next) (octs (s.take (m.B.length-64*m.next)))⟩)));rw[hsp];simp only[D_nil,Zb];have hl:=ZmC (B:=m.B) (k:=64*m.next) s (by omega);refine .mk ⟨_,rfl,?_,hf1.trans ((Fx.set s1 ib _).mono fun y hy=>by rw[List.mem_singleton.1 hy];simp)⟩;unfold putB;rw[decide_eq_true hb,cond_true];have d1:=hm.d1;have d3:=hm.d3;refine⟨?_,?_,?_,d1,hm.d2,d3⟩
  ·rw[List.getElem?_set_ne (Ne.symm d1),hl];exact hm1.cell
  ·exact List.getElem?_set_self (by rw[←hs1,List.length_set];exact h2)
  ·rw[List.getElem?_set_ne d3];exact hm1.aa
 ·rw[decide_eq_false (show ¬((m.B.length:Nat):Int)≥((64*m.next+64:Nat):Int) by omega),cond_false]
  simp only[D_nil,Zb];refine .mk ⟨s1,rfl,?_,hf1⟩;unfold putB;rw[decide_eq_false hb,cond_false];exact hm1
def finB (es:List EntV) (r:List Int×MkV):Nat×MkV:=match es with
 |[]=>(0,r.2)
 |e::_=>(r.2.next, { putB r.2 (putN ⟨e,r.1⟩)with At:=r.2.At.set e.slot.toNat (r.2.next:Int) })
def kidsB:Nat→List EntV→MkV→List Int×MkV
 |0,_,m=>([],m)
 |j+1,es,m=>(fun r:List Int×MkV=>(fun f:Nat×MkV=>(r.1++[(f.1:Int)],f.2)) (finB ((es.drop (2^j)).take (2^j)) (kidsB j ((es.drop (2^j)).take (2^j)) r.2))) (kidsB j es m)
def treeB (j:Nat) (es:List EntV) (m:MkV):Nat×MkV:=finB es (kidsB j es m)
theorem Zre (es:List EntV) (r:List Int×MkV):(finB es r).2.B.length=r.2.B.length∧(finB es r).2.At.length=r.2.At.length∧(finB es r).2.next≤r.2.next+1∧r.2.next≤(finB es r).2.next:=by
 unfold finB;cases es with
 |nil=>exact⟨rfl,rfl,Nat.le_succ _,Nat.le_refl _⟩
 |cons e r'=>exact⟨Zcb _ _,by simp,Nat.le_refl _,Nat.le_succ _⟩
theorem Zfm: ∀(j:Nat) (es:List EntV) (m:MkV),(kidsB j es m).2.B.length=m.B.length∧(kidsB j es m).2.At.length=m.At.length∧(kidsB j es m).2.next+1≤m.next+2^j∧m.next≤(kidsB j es m).2.next∧(kidsB j es m).1.length=j
 |0,_,m=>⟨rfl,rfl,by simp[kidsB],Nat.le_refl _,rfl⟩
 |j+1,es,m=>by
  obtain⟨a1,a2,a3,a4,a5⟩:=Zfm j es m;obtain⟨b1,b2,b3,b4,_⟩:=Zfm j ((es.drop (2^j)).take (2^j)) (kidsB j es m).2;obtain⟨c1,c2,c3,c4⟩:=Zre ((es.drop (2^j)).take (2^j)) (kidsB j ((es.drop (2^j)).take (2^j)) (kidsB j es m).2);have e:2^(j+1)=2*2^j:=by rw[Nat.pow_succ];omega
  refine⟨c1.trans (b1.trans a1),c2.trans (b2.trans a2),?_,?_,?_⟩
  ·show(finB _ _).2.next+1≤_
   omega
  ·show m.next≤(finB _ _).2.next
   omega
  ·show((kidsB j es m).1++[_]).length=j+1
   rw[List.length_append,a5];rfl
theorem Zof (j:Nat) (es:List EntV) (m:MkV):(treeB j es m).2.B.length=m.B.length∧(treeB j es m).2.At.length=m.At.length∧(treeB j es m).2.next≤m.next+2^j∧m.next≤(treeB j es m).2.next:=by
 obtain⟨a1,a2,a3,a4,_⟩:=Zfm j es m;obtain⟨c1,c2,c3,c4⟩:=Zre es (kidsB j es m);unfold treeB;exact⟨c1.trans a1,c2.trans a2,by omega,by omega⟩
end Go.Gv.F
namespace Go.Gv.F
open Go.Gv
variable {β:Type}
theorem Zng (l:List EntV): ∀(k:Nat),(entsC l).drop (k*4)=entsC (l.drop k):=by
 induction l with
 |nil=>intro k;simp[entsC]
 |cons e l ih=>
  intro k;cases k with
  |zero=>rfl
  |succ k=>
   have e2:entsC (e::l)=entC e++entsC l:=rfl;rw[e2,show(k+1)*4=(entC e).length+k*4 by show _=4+_;omega,←List.drop_drop,List.drop_left,ih k];rfl
theorem Znd (l:List EntV) (k:Nat):(entsC l).take (k*4)=entsC (l.take k):=by
 induction l generalizing k with
 |nil=>simp[entsC]
 |cons e l ih=>
  cases k with
  |zero=>rfl
  |succ k=>
   have e2:entsC (e::l)=entC e++entsC l:=rfl;rw[e2,show(k+1)*4=(entC e).length+k*4 by show _=4+_;omega,List.take_length_add_append,ih k];rfl
theorem Fz.cut4 {s:St} {p:Option (Nat×Nat)} {es:List EntV} (h:Fz s p (entsC es)) (k n:Nat) (hk:k+n≤es.length) (hn:0<n):Fz s (cutA true p (k*4)) (entsC ((es.drop k).take n)):=by
 obtain⟨i,o,rfl⟩:=h.1.some_of (by rw[ZA];omega);refine⟨?_,fun b o' e=>?_⟩
 ·have h1:=h.1.cutA (k:=k*4) (by rw[ZA];omega)
  rw[Zng]at h1;have h2:=h1.takes (n*4);rw[Znd]at h2;exact h2
 ·have e':some (i,k*4+o)=some (b,o'):=e
  cases e';exact h.2 i o rfl
theorem Zr0 {Bd:Za} (h:Zcl Bd): ∀(j n:Nat) {i ib ia:Nat} {m:MkV} (es:List EntV) (p:Option (Nat×Nat)) (st:St),MkM st i ib ia m→Fz st p (entsC es)→es.length=2^j→(∀e∈es,0≤e.slot∧e.slot<(m.At.length:Int))→j<20→m.next+2^j≤900000→m.B.length<1000000→m.At.length<100000→3000+j≤n→
  Ok (fun o=>∃st',o=(.val [.int .i64 (treeB j es m).1],st')∧MkM st' i ib ia (treeB j es m).2∧Fx [i,ib,ia] st st') (run Bd n 217 [.ptr (some (i,0)),.slice 4 p es.length] st):=by
 intro j;induction j using Nat.strongRecOn with
 |_ j ih=>
 intro n i ib ia m es p st hm hs hl hsl hj hnx hB hAt hn;obtain⟨n,rfl⟩: ∃k,n=k+1:=⟨n-1,by omega⟩;rw[Zf,h.eq];unfold Zcy;have hpos:0<es.length:=by rw[hl];exact Nat.two_pow_pos j
 obtain⟨bi,bo,rfl⟩:=hs.1.some_of (by rw[ZA];omega);obtain⟨e0,er,hes⟩: ∃e0 er,es=e0::er:=by
  cases es with
  |nil=>cases hpos
  |cons a b=>exact⟨a,b,rfl⟩
 have he0:es[0]? =some e0:=by rw[hes];rfl
 simp only[J_p,J_l,D_nil];rw[nn_some',Ze (show inB 0 es.length=true from Zl (i:=0) hpos)];have hld: ∀(s:St),Fz s (some (bi,bo)) (entsC es)→∀K:List DV→M (List DV),M.load bi (0+bo) 4 K s=K (entC e0) s:=fun s hs K=>by
  have:=ZnY hs.1 he0 K
  rwa [Nat.zero_mul]at this
 rw[hld st hs];unfold entC;simp only[J_i,D_nil];refine Ok.join fun jk1 hj1=>?_
 obtain⟨T,hT⟩: ∃T,treeB j es m=T:=⟨_,rfl⟩;rw[hT];have hjn:2^j≤2^19:=Nat.pow_le_pow_right (by decide) (by omega);have h19:2^19=524288:=by decide
 obtain⟨l1,l2,l3⟩:=hm.lt;refine Zk _ (fun q y t=>∃(a z:Nat) (k:Option (Nat×Nat)),y=[.agg [.int .i64 e0.slot,.int .i64 e0.gen,.int .i64 e0.key,.int .i64 e0.value,.slice z k (kidsB a es m).1.length],.int .i64 ((2^a:Nat):Int)]∧(z=1∨k=none)∧a≤j∧j-a≤q∧MkM t i ib ia (kidsB a es m).2∧Fx [i,ib,ia] st t∧Own [] t k (ints (kidsB a es m).1)∧∀b∈blk k,st.length≤b) ?_ j n _ _ ⟨0,0,none,rfl,.inr rfl,Nat.zero_le _,by omega,hm,.refl _ _,Own.nil ⟨st,rfl⟩,fun _ h=>by cases h⟩ (by omega);rintro q _ t ⟨a,z,k,rfl,hz,ha,hq,hmt,hfx,hok,hbk⟩ rec hrec;rw[J_a];simp only[J_i,Zm 1 z k _ hz,D_nil];have hst:=hs.kp (hm.kp hfx);obtain⟨g1,g2,g3,g4,g5⟩:=Zfm a es m;have h2a:2^a≤2^j:=Nat.pow_le_pow_right (by decide) ha;by_cases hlt:a<j
 ·have h2b:2^(a+1)≤2^j:=Nat.pow_le_pow_right (by decide) hlt
  have e2:2^(a+1)=2*2^a:=by rw[Nat.pow_succ];omega
  have hp2:0<2^a:=Nat.two_pow_pos a;have hw:wr64 (2*((2^a:Nat):Int))=((2^(a+1):Nat):Int):=by rw[Zd (by omega) (by omega)];omega
  rw[decide_eq_true (show((2^a:Nat):Int)<(es.length:Int) by omega),cond_true];simp only[hw,Int.toNat_natCast];rw[Ze (by rw[Bool.and_eq_true,decide_eq_true_iff,decide_eq_true_iff];omega),Ze (by rw[Bool.and_eq_true,decide_eq_true_iff,decide_eq_true_iff];omega)];have hsub:=hst.cut4 (2^a) (2^a) (by omega) hp2;have hsl2:((es.drop (2^a)).take (2^a)).length=2^a:=by rw[List.length_take,List.length_drop];omega
  have hln:2^(a+1)-2^a=((es.drop (2^a)).take (2^a)).length:=by rw[hsl2];omega
  rw[hln];refine Ok.callN (ih a hlt n ((es.drop (2^a)).take (2^a)) _ t hmt hsub hsl2 (fun e he=>by rw[g2];exact hsl e (List.mem_of_mem_drop (List.mem_of_mem_take he))) (by omega) (by omega) (by rw[g1];exact hB) (by rw[g2];exact hAt) (by omega)) ?_;rintro _ ⟨t1,rfl,hm1,hfx1⟩;refine⟨_,t1,rfl,?_⟩;simp only[J_i,D_nil];have hnk: ∀b∈blk k,b∉[i,ib,ia]:=fun b hb hmm=>by
   have:=hbk b hb;simp only[List.mem_cons,List.not_mem_nil,or_false]at hmm;omega
  have hok1:=hok.fx hfx1 hnk;obtain⟨b,t2,r1,r2,r3,r4⟩:=Zd5 (β:=List DV) (lim:=8796093022208) hok1 (sz:=1) (n:=(kidsB a es m).1.length) [.int .i64 ((treeB a ((es.drop (2^a)).take (2^a)) (kidsB a es m).2).1:Int)] (by omega) (by simp[ints]) rfl (by omega);refine Eq.mpr (congrArg (Ok _) (r4 _)) ?_;have hm2:=hm1.fx r3 fun y hy=>by
   have:=hbk y hy;omega
  have hfx2:Fx [i,ib,ia] st t2:=(hfx.trans hfx1).step r3 fun y hy=> .inr (hbk y hy)
  refine hrec (j-(a+1)) _ _ (by omega) ⟨a+1,1,some (b,0),?_,.inl rfl,by omega,Nat.le_refl _,hm2,hfx2,?_,fun y hy=>?_⟩
  ·obtain⟨_,_,_,_,g6⟩:=Zfm (a+1) es m
   rw[g5,g6]
  ·show Own [] t2 (some (b,0)) (ints ((kidsB a es m).1++[_]))
   unfold ints;rw[List.map_append];exact r2
  ·rw[List.mem_singleton.1 hy]
   have:=(hfx.trans hfx1).1;omega
 ·have haj:a=j:=by omega
  subst haj;rw[decide_eq_false (show ¬((2^a:Nat):Int)<(es.length:Int) by omega),cond_false,hj1];show Ok _ (J.a [.agg [.int .i64 e0.slot,.int .i64 e0.gen,.int .i64 e0.key,.int .i64 e0.value,.slice 1 k (kidsB a es m).1.length]] _ t);rw[J_a];simp only[J_i,J_l,D_nil];refine Ok.call (ZtM h.q118 n ⟨e0,(kidsB a es m).1⟩ 1 k t (.inl rfl) hok.sl (by show(kidsB a es m).1.length<_;rw[g5];omega) (by omega)) ?_;rintro _ ⟨t1,rfl,hp1⟩;refine⟨_,t1,rfl,?_⟩;simp only[J_s,D_nil];obtain⟨n,rfl⟩: ∃k,n=k+1:=⟨n-1,by omega⟩;refine Ok.call (Ziy h.q28 n (putN ⟨e0,(kidsB a es m).1⟩) t1 (hmt.pre hp1) (by omega) (by rw[g1];exact hB)) ?_;rintro _ ⟨t2,rfl,hm2,hfx2⟩;refine⟨_,t2,rfl,?_⟩;simp only[J_i,D_nil,nn_some'];have hfx3:Fx [i,ib,ia] st t2:=(hfx.trans (Fx.pre _ hp1)).trans (hfx2.mono fun y hy=>by simp only[List.mem_cons,List.not_mem_nil,or_false]at hy⊢;omega);have hst2:=hs.kp (hm.kp hfx3);rw[Zn hm2.cell rfl];simp only[D_slice];rw[Ze (show inB 0 es.length=true from Zl (i:=0) hpos)];have hg0:(entsC es)[0]? =some (.int .i64 e0.slot):=by rw[hes];rfl
  rw[hst2.1.get hg0];simp only[D_int];have hs0:=hsl e0 (by rw[hes];simp);obtain⟨ks,hks⟩: ∃ks:Nat,e0.slot=ks:=⟨e0.slot.toNat,by omega⟩;have hAl:(putB (kidsB a es m).2 (putN ⟨e0,(kidsB a es m).1⟩)).At=(kidsB a es m).2.At:=rfl;rw[nn_some',hks,Ze (show inB ((ks:Nat):Int) _=true from Zl (by rw[hAl,g2];omega)),Int.toNat_natCast,Nat.mul_one,Nat.add_zero,Z1 hm2.aa (by simp only[ints,List.length_map];rw[hAl,g2];omega),Zb];have hTe:T=(((kidsB a es m).2.next, { putB (kidsB a es m).2 (putN ⟨e0,(kidsB a es m).1⟩)with At:=(kidsB a es m).2.At.set ks ((kidsB a es m).2.next:Int) }):Nat×MkV):=by
   rw[←hT];unfold treeB finB;rw[hes];simp only;rw[hks,Int.toNat_natCast]
  rw[hTe];have hset:(ints (putB (kidsB a es m).2 (putN ⟨e0,(kidsB a es m).1⟩)).At).set ks (.int .i64 ((kidsB a es m).2.next:Int))=ints ((kidsB a es m).2.At.set ks ((kidsB a es m).2.next:Int)):=by
   rw[hAl];unfold ints;rw[List.map_set]
  rw[hset];obtain⟨m1,m2,m3⟩:=hm2.lt;have d2:=hm2.d2;have d3:=hm2.d3;refine .mk ⟨_,rfl,⟨?_,?_,?_,hm2.d1,d2,d3⟩,hfx3.trans ((Fx.set t2 ia _).mono fun y hy=>by rw[List.mem_singleton.1 hy];simp)⟩
  ·rw[List.getElem?_set_ne (Ne.symm d2),List.length_set]
   exact hm2.cell
  ·rw[List.getElem?_set_ne (Ne.symm d3)]
   exact hm2.bb
  ·exact List.getElem?_set_self m3
end Go.Gv.F
namespace Go.Gv.F
open Go.Gv
variable {β:Type}
def HeapsF (s:St):List DV→List HeapV→Prop
 |ds,[]=>ds=[]
 |ds,x::r=>∃z p t,(z=4∨p=none)∧ds=heapZ x z p++t∧Fz s p (entsC x.ents)∧HeapsF s t r
theorem HeapsF.kp {s s':St} (k:Kp s s'): ∀ {ds:List DV} {xs:List HeapV},HeapsF s ds xs→HeapsF s' ds xs
 |_,[],h=>h
 |_,_::_,⟨z,p,t,hz,h1,h2,h3⟩=>⟨z,p,t,hz,h1,h2.kp k,h3.kp k⟩
theorem HeapsF.heaps {s:St} : ∀ {ds:List DV} {xs:List HeapV},HeapsF s ds xs→Heaps s ds xs
 |_,[],h=>h
 |_,_::_,⟨z,p,t,hz,h1,h2,h3⟩=>⟨z,p,t,hz,h1,h2.1,h3.heaps⟩
theorem HeapsF.get {s:St} : ∀ {ds:List DV} {xs:List HeapV},HeapsF s ds xs→∀ {j:Nat} {x:HeapV},xs[j]? =some x→∃z p,(z=4∨p=none)∧ds[j*2]? =some (.str x.name)∧ds[j*2+1]? =some (.slice z p x.ents.length)∧Fz s p (entsC x.ents)
 |_,[],_,j,x,e=>by simp at e
 |ds,y::r,⟨zq,q,t,hzq,h1,h2,h3⟩,0,x,e=>by
  simp only[List.getElem?_cons_zero,Option.some.injEq]at e;subst e;subst h1;exact⟨zq,q,hzq,rfl,rfl,h2⟩
 |ds,y::r,⟨zq,q,t,hzq,h1,h2,h3⟩,j+1,x,e=>by
  obtain⟨z,p,hz,g2,g3,g4⟩:=h3.get (j:=j) (x:=x) (by simpa using e);refine⟨z,p,hz,?_,?_,g4⟩
  ·rw[h1,List.getElem?_append_right (by rw[Zb5];omega),Zb5,show(j+1)*2-2=j*2 by omega]
   exact g2
  ·rw[h1,List.getElem?_append_right (by rw[Zb5];omega),Zb5,show(j+1)*2+1-2=j*2+1 by omega]
   exact g3
structure StF (s:St) (x:StV) (p1 p2 p3:Option (Nat×Nat)):Prop where
 hp: ∃ds,Fz s p1 ds∧HeapsF s ds x.heaps
 gn:Fz s p2 (ints x.gens)
 fr:Fz s p3 (ints x.free)
theorem StF.kp {s s':St} {x:StV} {p1 p2 p3:Option (Nat×Nat)} (h:StF s x p1 p2 p3) (k:Kp s s'):StF s' x p1 p2 p3:=
 let ⟨ds,h1,h2⟩:=h.hp
 ⟨⟨ds,h1.kp k,h2.kp k⟩,h.gn.kp k,h.fr.kp k⟩
theorem StF.str {s:St} {x:StV} {p1 p2 p3:Option (Nat×Nat)} (h:StF s x p1 p2 p3):StR s x p1 p2 p3:=
 let ⟨ds,h1,h2⟩:=h.hp
 ⟨⟨ds,h1.1,h2.heaps⟩,h.gn.1,h.fr.1⟩
def rootGo (cnt:Nat):Nat→Nat→List Int→List EntV→MkV→List Int×MkV
 |0,_,hs,_,m=>(hs,m)
 |c+1,k,hs,rest,m=>bif bitF cnt k then(fun t:Nat×MkV=>rootGo cnt c (k+1) (hs.set k (t.1:Int)) (rest.drop (2^k)) t.2) (treeB k (rest.take (2^k)) m)else rootGo cnt c (k+1) hs rest m
def roots (es:List EntV) (m:MkV):List Int×MkV:=rootGo es.length 12 0 (List.replicate 12 0) es m
def dirGoB:List HeapV→List Int→MkV→List Int×MkV
 |[],ats,m=>(ats,m)
 |x::r,ats,m=>(fun t:List Int×MkV=>dirGoB r (ats++[(t.2.next:Int)]) (putB t.2 (putQ ⟨x.name,x.ents.length,t.1⟩))) (roots x.ents m)
def dirB (l:List HeapV) (m:MkV):Nat×MkV:=(fun t:List Int×MkV=>match ZhY t.1 with
 |none=>(0,t.2)
 |some s=>(t.2.next,putB t.2 s)) (dirGoB l [] m)
theorem Zh8 (a k:Nat):a%2^(k+1)=a%2^k+(if a/2^k%2=1 then 2^k else 0):=by
 rw[Nat.pow_succ,Nat.mod_mul];rcases Nat.mod_two_eq_zero_or_one (a/2^k)with h|h
 ·rw[h,if_neg (by omega)];rfl
 ·rw[h,if_pos rfl,Nat.mul_one]
theorem ZyQ {a k:Nat} (h:bitF a k=true):a%2^k+2^k≤a:=by
 have h1:a/2^k%2=1:=of_decide_eq_true h;have h2:a%2^(k+1)≤a:=Nat.mod_le _ _;rw[Zh8,if_pos h1]at h2;exact h2
theorem Zjj (cnt:Nat): ∀(c k:Nat) (hs:List Int) (rest:List EntV) (m:MkV),(rootGo cnt c k hs rest m).2.B.length=m.B.length∧(rootGo cnt c k hs rest m).2.At.length=m.At.length∧(rootGo cnt c k hs rest m).2.next+cnt%2^k≤m.next+cnt%2^(k+c)∧m.next≤(rootGo cnt c k hs rest m).2.next∧(rootGo cnt c k hs rest m).1.length=hs.length
 |0,k,hs,rest,m=>⟨rfl,rfl,Nat.le_refl _,Nat.le_refl _,rfl⟩
 |c+1,k,hs,rest,m=>by
  unfold rootGo;have e:=Zh8 cnt k;have e2:k+(c+1)=k+1+c:=by omega
  rw[e2];cases hb:bitF cnt k with
  |true=>
   rw[cond_true];obtain⟨a1,a2,a3,a4⟩:=Zof k (rest.take (2^k)) m;obtain⟨b1,b2,b3,b4,b5⟩:=Zjj cnt c (k+1) (hs.set k ((treeB k (rest.take (2^k)) m).1:Int)) (rest.drop (2^k)) (treeB k (rest.take (2^k)) m).2;rw[if_pos (of_decide_eq_true hb)]at e;simp only;exact⟨b1.trans a1,b2.trans a2,by omega,by omega,by rw[b5,List.length_set]⟩
  |false=>
   rw[cond_false];obtain⟨b1,b2,b3,b4,b5⟩:=Zjj cnt c (k+1) hs rest m;rw[if_neg (of_decide_eq_false hb)]at e;exact⟨b1,b2,by omega,b4,b5⟩
theorem Zn9 (es:List EntV) (m:MkV):(roots es m).2.B.length=m.B.length∧(roots es m).2.At.length=m.At.length∧(roots es m).2.next≤m.next+es.length∧m.next≤(roots es m).2.next∧(roots es m).1.length=12:=by
 obtain⟨b1,b2,b3,b4,b5⟩:=Zjj es.length 12 0 (List.replicate 12 0) es m;have:=Nat.mod_le es.length (2^(0+12));rw[List.length_replicate]at b5;unfold roots;exact⟨b1,b2,by omega,b4,b5⟩
def entsN (l:List HeapV):Nat:=(l.map fun x=>x.ents.length).sum
theorem ZjC: ∀(l:List HeapV) (ats:List Int) (m:MkV),(dirGoB l ats m).2.B.length=m.B.length∧(dirGoB l ats m).2.At.length=m.At.length∧(dirGoB l ats m).2.next≤m.next+entsN l+l.length∧m.next≤(dirGoB l ats m).2.next∧(dirGoB l ats m).1.length=ats.length+l.length
 |[],ats,m=>⟨rfl,rfl,Nat.le_refl _,Nat.le_refl _,rfl⟩
 |x::r,ats,m=>by
  obtain⟨a1,a2,a3,a4,a5⟩:=Zn9 x.ents m;obtain⟨b1,b2,b3,b4,b5⟩:=ZjC r (ats++[((roots x.ents m).2.next:Int)]) (putB (roots x.ents m).2 (putQ ⟨x.name,x.ents.length,(roots x.ents m).1⟩));have hn:(putB (roots x.ents m).2 (putQ ⟨x.name,x.ents.length,(roots x.ents m).1⟩)).next=(roots x.ents m).2.next+1:=rfl;rw[hn]at b3 b4;have e:entsN (x::r)=x.ents.length+entsN r:=by unfold entsN;rw[List.map_cons,List.sum_cons]
  unfold dirGoB;refine⟨b1.trans ((Zcb _ _).trans a1),b2.trans a2,?_,?_,?_⟩
  ·rw[e,List.length_cons];simp only;omega
  ·simp only;omega
  ·simp only[b5,List.length_append,List.length_cons,List.length_nil];omega
theorem ZwO (l:List HeapV) (m:MkV):(dirB l m).2.B.length=m.B.length∧(dirB l m).2.At.length=m.At.length∧(dirB l m).2.next≤m.next+entsN l+l.length+1∧m.next≤(dirB l m).2.next:=by
 obtain⟨a1,a2,a3,a4,a5⟩:=ZjC l [] m;unfold dirB;simp only;cases ZhY (dirGoB l [] m).1 with
 |none=>exact⟨a1,a2,by simp only;omega,a4⟩
 |some s=>exact⟨(Zcb _ _).trans a1,a2,by show _+1≤_;omega,by show _≤_+1;omega⟩
theorem ZyC (a k:Nat) (hk:k<64):((((a:Nat):Int).fdiv (2^(min k 64))).tmod 2==1)=bitF a k:=by
 rw[Nat.min_eq_left (by omega),show((2:Int)^k)=((2^k:Nat):Int) by push_cast;rfl,Zf0];have e:((a/2^k:Nat):Int).tmod 2=((a/2^k%2:Nat):Int):=rfl;rw[e];unfold bitF;by_cases h:a/2^k%2=1
 ·rw[h,decide_eq_true rfl];rfl
 ·rw[decide_eq_false h];exact beq_eq_false_iff_ne.2 (by omega)
theorem Zx6 {Bd:Za} (hT:Zcl Bd) {Q:Out (List DV)×St→Prop} {Kn:List DV→M (List DV)} (n:Nat) {i ib ia:Nat} {m:MkV} (nm:List UInt8) (es:List EntV) (p:Option (Nat×Nat)) (z0:Nat) (hz0:z0=4∨p=none) (st:St) (hm:MkM st i ib ia m) (hs:Fz st p (entsC es)) (hsl: ∀e∈es,0≤e.slot∧e.slot<(m.At.length:Int)) (hnx:m.next+es.length≤800000) (hB:m.B.length<1000000) (hAt:m.At.length<100000) (hle:es.length<100000) (hn:3020≤n)
  (hgo: ∀t,MkM t i ib ia (roots es m).2→Fx [i,ib,ia] st t→Ok Q (Kn [.agg (.str nm:: .int .i64 (es.length:Int)::ints (roots es m).1)] t)):
  Ok Q (M.loop (fun rec2 st=>
    J.a st fun cs2 st=>
    J.s cs2 fun q2 r3=>
    J.i .i64 r3 fun q3 r4=>
    D.len r4 12<|
    J.l 4 st fun rest restn st=>
    J.i .i64 st fun k st=>
    D.nil st<|
    bif decide (k<12)then
     M.chk (decide (0≤k))<|
     M.join (fun st=>
      J.a st fun cs3 st=>
      J.s cs3 fun q4 r5=>
      J.i .i64 r5 fun q5 r6=>
      D.len r6 12<|
      J.l 4 st fun rest1 rest1n st=>
      D.nil st<|
      rec2 [.agg ((.str q4)::(.int .i64 q5)::r6),.slice 4 rest1 rest1n,.int .i64 (wr64 (k+1))]) fun jk4=>
     bif ((q3.fdiv (2^(min k.toNat 64))).tmod 2)==1 then
      M.chk (decide (0≤k))<|
      M.chk (decide (0≤wr64 (1*2^(min k.toNat 64)))&&decide (wr64 (1*2^(min k.toNat 64))≤(restn:Int)))<|
      M.call (run Bd n 217 [.ptr (some (i,0)),.slice 4 rest ((wr64 (1*2^(min k.toNat 64))).toNat)]) fun ds=>
      J.i .i64 ds fun x8 ds=>
      D.nil ds<|
      M.chk (inB k 12)<|
      M.chk (Nat.ble (k.toNat*1+2+1) 14)<|
      M.chk (decide (0≤k))<|
      M.chk (decide (0≤wr64 (1*2^(min k.toNat 64)))&&decide (wr64 (1*2^(min k.toNat 64))≤(restn:Int)))<|
      jk4 [.agg ((.str q2)::(.int .i64 q3)::(spl r4 (k.toNat*1) [.int .i64 x8])),.slice 4 (cutA true rest (((wr64 (1*2^(min k.toNat 64))).toNat)*4)) (restn-((wr64 (1*2^(min k.toNat 64))).toNat))]
     else
      jk4 [.agg ((.str q2)::(.int .i64 q3)::r4),.slice 4 rest restn]
    else
     Kn [.agg ((.str q2)::(.int .i64 q3)::r4)]) n [.agg (.str nm:: .int .i64 (es.length:Int)::ints (List.replicate 12 0)),.slice z0 p es.length,.int .i64 0] st):=by
 obtain⟨G,hG⟩: ∃G,roots es m=G:=⟨_,rfl⟩;rw[hG]at hgo;unfold roots at hG;refine Zk _ (fun q y t=>∃(k z:Nat) (p':Option (Nat×Nat)) (hs':List Int) (m':MkV),y=[.agg (.str nm:: .int .i64 (es.length:Int)::ints hs'),.slice z p' (es.length-es.length%2^k),.int .i64 (k:Int)]∧(z=4∨p'=none)∧k≤12∧12-k≤q∧hs'.length=12∧MkM t i ib ia m'∧Fx [i,ib,ia] st t∧Fz t p' (entsC (es.drop (es.length%2^k)))∧m'.next≤m.next+es.length%2^k∧m'.B.length=m.B.length∧m'.At.length=m.At.length∧rootGo es.length (12-k) k hs' (es.drop (es.length%2^k)) m'=G) ?_ 12 n _ _ ⟨0,z0,p,List.replicate 12 0,m,by rw[Nat.pow_zero,Nat.mod_one,Nat.sub_zero];rfl,hz0,Nat.zero_le _,by omega,List.length_replicate,hm,.refl _ _,by rw[Nat.pow_zero,Nat.mod_one,List.drop_zero];exact hs,by omega,rfl,rfl,by rw[Nat.pow_zero,Nat.mod_one,List.drop_zero];exact hG⟩ (by omega);rintro q _ t ⟨k,z,p',hs',m',rfl,hzp,hk,hq,hl12,hmt,hfx,hsz,hnx',hB',hAt',hgo2⟩ rec hrec;have hol:(ints hs').length=12:=by simp[ints,hl12]
 rw[J_a];simp only[J_s,J_i];rw[D_len hol];simp only[Zm 4 z p' _ hzp,J_i,D_nil];by_cases hlt:k<12
 ·have hw:wr64 ((k:Int)+1)=((k+1:Nat):Int):=Zd (by omega) (by omega)
  have h2k:2^k≤2^11:=Nat.pow_le_pow_right (by decide) (by omega);have h11:2^11=2048:=by decide
  have hsh:wr64 (1*2^(min k 64))=((2^k:Nat):Int):=by
   rw[Nat.min_eq_left (by omega),Int.one_mul,show((2:Int)^k)=((2^k:Nat):Int) by push_cast;rfl];exact Zd (by omega) (by omega)
  rw[decide_eq_true (show(k:Int)<12 by omega),cond_true,Ze (decide_eq_true (by omega))];simp only[Int.toNat_natCast,hsh,hw];rw[Zc,ZyC _ _ (by omega)];have e12:12-k=(12-(k+1))+1:=by omega
  rw[e12]at hgo2;unfold rootGo at hgo2;have emod:=Zh8 es.length k;cases hb:bitF es.length k with
  |true=>
   rw[hb,cond_true]at hgo2;have hfit:=ZyQ hb;rw[if_pos (of_decide_eq_true hb)]at emod;have hp2:0<2^k:=Nat.two_pow_pos k;rw[cond_true,Ze (decide_eq_true (by omega)),Ze (by rw[Bool.and_eq_true,decide_eq_true_iff,decide_eq_true_iff];omega)];obtain⟨A,hA⟩: ∃A,es.drop (es.length%2^k)=A:=⟨_,rfl⟩;have hAl:A.length=es.length-es.length%2^k:=by rw[←hA,List.length_drop]
   have hAm: ∀e∈A,e∈es:=fun e he=>List.mem_of_mem_drop (by rw[hA];exact he)
   rw[hA]at hsz hgo2;have hAk:(A.take (2^k)).length=2^k:=by rw[List.length_take];omega
   have hsub:Fz t p' (entsC (A.take (2^k))):=⟨by
    have:=hsz.1.takes (2^k*4)
    rwa [Znd]at this,hsz.2⟩
   have hcall:(DV.slice 4 p' (2^k))= .slice 4 p' (A.take (2^k)).length:=by rw[hAk]
   rw[hcall];refine Ok.call (Zr0 hT k n (A.take (2^k)) p' t hmt hsub hAk (fun e he=>by rw[hAt'];exact hsl e (hAm e (List.mem_of_mem_take he))) (by omega) (by omega) (by rw[hB'];exact hB) (by rw[hAt'];exact hAt) (by omega)) ?_;rintro _ ⟨t1,rfl,hm1,hfx1⟩;refine⟨_,t1,rfl,?_⟩;simp only[J_i,D_nil];rw[Ze (show inB (k:Int) 12=true from Zl hlt),ZD (by omega),Ze (decide_eq_true (by omega)),Ze (by rw[Bool.and_eq_true,decide_eq_true_iff,decide_eq_true_iff];omega)];obtain⟨k1,k2,k3,k4⟩:=Zof k (A.take (2^k)) m';have hset:spl (ints hs') (k*1) [.int .i64 ((treeB k (A.take (2^k)) m').1:Int)]=ints (hs'.set k ((treeB k (A.take (2^k)) m').1:Int)):=by
    rw[Nat.mul_one,Ze6 _ _ _ (by omega)];unfold ints;rw[List.map_set]
   rw[hset];have hol2:(ints (hs'.set k ((treeB k (A.take (2^k)) m').1:Int))).length=12:=by simp[ints,hl12]
   show Ok _ (J.a [.agg (.str nm:: .int .i64 (es.length:Int)::ints (hs'.set k ((treeB k (A.take (2^k)) m').1:Int))),.slice 4 (cutA true p' (2^k*4)) (es.length-es.length%2^k-2^k)] _ t1);rw[J_a];simp only[J_s,J_i];rw[D_len hol2];simp only[J_l,D_nil];have hst1:=hsz.kp (hmt.kp hfx1);have hdr:es.drop (es.length%2^(k+1))=A.drop (2^k):=by rw[←hA,List.drop_drop,emod]
   have hlen:es.length-es.length%2^(k+1)=es.length-es.length%2^k-2^k:=by omega
   refine hrec (12-(k+1)) _ _ (by omega) ⟨k+1,4,cutA true p' (2^k*4),_,_,by rw[hlen],.inl rfl,by omega,Nat.le_refl _,by rw[List.length_set,hl12],hm1,hfx.trans hfx1,?_,by omega,k1.trans hB',k2.trans hAt',by rw[hdr];exact hgo2⟩;rw[hdr];refine⟨?_,?_⟩
   ·have:=hst1.1.cutA (k:=2^k*4) (by rw[ZA];omega)
    rwa [Zng]at this
   ·obtain⟨bi,bo,rfl⟩:=hst1.1.some_of (by rw[ZA];omega)
    intro b o' e;have e':some (bi,2^k*4+bo)=some (b,o'):=e;cases e';exact hst1.2 bi bo rfl
  |false=>
   rw[hb,cond_false]at hgo2;rw[if_neg (of_decide_eq_false hb),Nat.add_zero]at emod;rw[cond_false];show Ok _ (J.a [.agg (.str nm:: .int .i64 (es.length:Int)::ints hs'),.slice 4 p' (es.length-es.length%2^k)] _ t);rw[J_a];simp only[J_s,J_i];rw[D_len hol];simp only[J_l,D_nil];exact hrec (12-(k+1)) _ _ (by omega) ⟨k+1,4,p',hs',m',by rw[emod];rfl,.inl rfl,by omega,Nat.le_refl _,hl12,hmt,hfx,by rw[emod];exact hsz,by rw[emod];exact hnx',hB',hAt',by rw[emod];exact hgo2⟩
 ·have:k=12:=by omega
  subst this;rw[decide_eq_false (show ¬((12:Nat):Int)<12 by omega),cond_false];have hG2:(hs',m')=G:=hgo2;rw[←hG2]at hgo;exact hgo t hmt hfx
end Go.Gv.F
namespace Go.Gv.F
open Go.Gv
variable {β:Type}
theorem J_a' (cs r:List DV) (K:List DV→List DV→M β):J.a (.agg cs::r) K=K cs r:=rfl
theorem Zt0 {Bd:Za} (h:Zec Bd) (n:Nat) {i ib ia:Nat} {m:MkV} (l:List HeapV) (p:Option (Nat×Nat)) (z:Nat) (ds:List DV) (st:St) (hz:z=2∨p=none) (hm:MkM st i ib ia m) (hs:Fz st p ds) (hh:HeapsF st ds l) (hsl: ∀x∈l,∀e∈x.ents,0≤e.slot∧e.slot<(m.At.length:Int)) (hnm: ∀x∈l,x.name.length+600≤n∧x.name.length<60000∧x.ents.length<100000) (hnx:m.next+entsN l+l.length≤700000) (hl:l.length<1000) (hB:m.B.length<1000000) (hAt:m.At.length<100000) (hn:4000≤n):
  Ok (fun o=>∃st',o=(.val [.int .i64 (dirB l m).1],st')∧MkM st' i ib ia (dirB l m).2∧Fx [i,ib,ia] st st') (run Bd n 189 [.ptr (some (i,0)),.slice z p l.length] st):=by
 obtain⟨n,rfl⟩: ∃k,n=k+2:=⟨n-2,by omega⟩;rw[Zf,h.eq];unfold ZcJ;simp only[J_p,Zm 2 z p _ hz,D_nil];obtain⟨T,hT⟩: ∃T,dirB l m=T:=⟨_,rfl⟩;rw[hT];unfold dirB at hT;obtain⟨l1,l2,l3⟩:=hm.lt;refine Ok.join fun jk1 hj1=>?_
 refine Zk _ (fun q y t=>∃(k zk:Nat) (a:Option (Nat×Nat)) (ats:List Int) (m':MkV),y=[.slice zk a ats.length,.int .i64 (k:Int)]∧(zk=1∨a=none)∧k≤l.length∧l.length-k≤q∧MkM t i ib ia m'∧Fx [i,ib,ia] st t∧Own [] t a (ints ats)∧(∀b∈blk a,st.length≤b)∧ats.length=k∧m'.B.length=m.B.length∧m'.At.length=m.At.length∧m'.next+entsN (l.drop k)+(l.length-k)≤m.next+entsN l+l.length∧dirGoB (l.drop k) ats m'=dirGoB l [] m) ?_ l.length (n+1) _ _ ⟨0,0,none,[],m,rfl,.inr rfl,Nat.zero_le _,by omega,hm,.refl _ _,Own.nil ⟨st,rfl⟩,(fun _ h=>by cases h),rfl,rfl,rfl,Nat.le_refl _,rfl⟩ (by omega);rintro q _ t ⟨k,zk,a,ats,m',rfl,hzk,hk,hq,hmt,hfx,hoa,hba,hal,hB',hAt',hnx',hgo⟩ rec hrec;simp only[J_i,Zm 1 zk a _ hzk,D_nil];have hkp:=hm.kp hfx;have hst:=hs.kp hkp;have hht:=hh.kp hkp;by_cases hlt:k<l.length
 ·have hds:=hht.heaps.len
  obtain⟨bi,bo,rfl⟩:=hst.1.some_of (by rw[hds];omega);have hxi:l[k]? =some l[k]:=List.getElem?_eq_getElem hlt;have hdr:l.drop k=l[k]::l.drop (k+1):=List.drop_eq_getElem_cons hlt;have hmem:l[k]∈l:=List.getElem_mem hlt;rw[hdr]at hgo hnx';generalize l[k]=x at hxi hgo hnx' hmem;obtain⟨zx,px,hzx,hg1,hg2,hfx1⟩:=hht.get hxi;have hen:entsN (x::l.drop (k+1))=x.ents.length+entsN (l.drop (k+1)):=by unfold entsN;rw[List.map_cons,List.sum_cons]
  rw[hen]at hnx';have hld: ∀K:DV→M (List DV),M.load1 bi (k*2+bo+1) K t=K (.slice zx px x.ents.length) t:=fun K=>by
   have:=hst.1.get hg2 K;rw[←this];congr 1;omega
  rw[decide_eq_true (show(k:Int)<(l.length:Int) by omega),cond_true,Zc,nn_some',Ze (Zl hlt)];simp only[Int.toNat_natCast];rw[hst.1.get hg1];simp only[D_str];rw[nn_some',Ze (Zl hlt),hld];rw[ZB 4 zx px _ hzx,nn_some',Ze (Zl hlt),hld,ZB 4 zx px _ hzx];refine Ok.join fun jk3 hj3=>?_
  obtain⟨n1,n2,n3⟩:=hnm x hmem;refine Zx6 h.q24 (n+1) x.name x.ents px 4 (.inl rfl) t hmt hfx1 (fun e he=>by rw[hAt'];exact hsl x hmem e he) (by omega) (by omega) (by omega) n3 (by omega) (Kn:=jk3) ?_;intro t1 hm1 hfx2;rw[hj3];obtain⟨k1,k2,k3,k4,k5⟩:=Zn9 x.ents m';have hol:(ints (roots x.ents m').1).length=12:=by simp[ints,k5]
  show Ok _ (J.a [.agg (.str x.name:: .int .i64 (x.ents.length:Int)::ints (roots x.ents m').1)] _ t1);rw[J_a];simp only[J_s,J_i];rw[D_len hol];simp only[D_nil];refine Ok.call (Zuc h.q123 (n+1) ⟨x.name,x.ents.length,(roots x.ents m').1⟩ k5 n2 t1 (by show x.name.length+500≤_;omega)) ?_;rintro _ ⟨t2,rfl,hp2⟩;refine⟨_,t2,rfl,?_⟩;simp only[J_s,D_nil];refine Ok.call (Ziy h.q28 n (putQ ⟨x.name,x.ents.length,(roots x.ents m').1⟩) t2 (hm1.pre hp2) (by omega) (by omega)) ?_;rintro _ ⟨t3,rfl,hm3,hfx3⟩;refine⟨_,t3,rfl,?_⟩;simp only[J_i,D_nil];have hw:wr64 ((k:Int)+1)=((k+1:Nat):Int):=Zd (by omega) (by omega);simp only[hw];have hfx4:Fx [i,ib,ia] t t3:=(hfx2.trans (Fx.pre _ hp2)).trans (hfx3.mono fun y hy=>by simp only[List.mem_cons,List.not_mem_nil,or_false]at hy⊢;omega);have hnk: ∀b∈blk a,b∉[i,ib,ia]:=fun b hb hmm=>by
   have:=hba b hb;simp only[List.mem_cons,List.not_mem_nil,or_false]at hmm;omega
  have hoa3:=hoa.fx hfx4 hnk;obtain⟨b,t4,r1,r2,r3,r4⟩:=Zd5 (β:=List DV) (lim:=8796093022208) hoa3 (sz:=1) (n:=ats.length) [.int .i64 ((roots x.ents m').2.next:Int)] (by omega) (by simp[ints]) rfl (by omega);refine Eq.mpr (congrArg (Ok _) (r4 _)) ?_;simp only[J_l,D_nil];have hm4:=hm3.fx r3 fun y hy=>by
   have:=hba y hy;omega
  refine hrec (l.length-(k+1)) _ _ (by omega) ⟨k+1,1,some (b,0),ats++[((roots x.ents m').2.next:Int)],_,?_,.inl rfl,by omega,Nat.le_refl _,hm4,(hfx.trans hfx4).step r3 fun y hy=> .inr (hba y hy),?_,fun y hy=>?_,?_,(Zcb _ _).trans (k1.trans hB'),k2.trans hAt',?_,hgo⟩
  ·rw[List.length_append];rfl
  ·unfold ints
   rw[List.map_append];exact r2
  ·rw[List.mem_singleton.1 hy]
   have:=(hfx.trans hfx4).1;omega
  ·rw[List.length_append,hal];rfl
  ·show(roots x.ents m').2.next+1+_+_≤_
   omega
 ·have hkl:k=l.length:=by omega
  rw[decide_eq_false (show ¬(k:Int)<(l.length:Int) by omega),cond_false,hj1];rw[List.drop_eq_nil_of_le (by omega)]at hgo;have hgo2:dirGoB l [] m=(ats,m'):=hgo.symm;rw[hgo2]at hT;simp only at hT;obtain⟨d1,d2,d3,d4,d5⟩:=ZjC l [] m;rw[hgo2]at d3;simp only at d3;simp only[J_l,D_nil];refine Ok.call (Ztj h.q122 (n+1) ats 1 a t (.inl rfl) hoa.sl (by omega) (by omega)) ?_;rintro _ ⟨t1,rfl,hp1⟩;refine⟨_,t1,rfl,?_⟩;cases hpd:ZhY ats with
  |none=>
   rw[hpd]at hT;unfold strO;simp only[J_s,J_b,D_nil];rw[Bool.not_false,cond_true,Zb,←hT];exact .mk ⟨t1,rfl,hmt.pre hp1,hfx.trans (Fx.pre _ hp1)⟩
  |some s=>
   rw[hpd]at hT;unfold strO;simp only[J_s,J_b,D_nil];rw[Bool.not_true,cond_false];refine Ok.call (Ziy h.q28 n s t1 (hmt.pre hp1) (by omega) (by omega)) ?_;rintro _ ⟨t2,rfl,hm2,hfx2⟩;refine⟨_,t2,rfl,?_⟩;simp only[J_i,D_nil,Zb];rw[←hT];exact .mk ⟨t2,rfl,hm2,(hfx.trans (Fx.pre _ hp1)).trans (hfx2.mono fun y hy=>by simp only[List.mem_cons,List.not_mem_nil,or_false]at hy⊢;omega)⟩
end Go.Gv.F
namespace Go.Gv.F
open Go.Gv
variable {β:Type}
theorem Zq1: ∀(l:List SeatV) (i:Nat) (x:SeatV),i<l.length→spl (leafC l) (i*3) (seatC x)=leafC (l.set i x)
 |[],i,x,h=>by cases h
 |y::l,0,x,h=>by
  rw[Nat.zero_mul];exact ZcN [] (seatC y) (leafC l) (seatC x) rfl
 |y::l,i+1,x,h=>by
  have e:=Zq1 l i x (by simpa using h);rw[Nat.add_mul];show(.bool y.live:: .int .i64 y.gen:: .int .i64 y.block::spl (leafC l) (i*3) (seatC x):List DV)=_;rw[e];rfl
theorem ZoC: ∀(l:List SeatV) (i:Nat) (x:SeatV) (b:Bool),l[i]? =some x→spl (leafC l) (i*3) [.bool b]=leafC (l.set i { x with live:=b })
 |[],i,x,b,h=>by simp at h
 |y::l,0,x,b,h=>by
  simp only[List.getElem?_cons_zero,Option.some.injEq]at h;subst h;rw[Nat.zero_mul];exact ZcN [] [.bool y.live] (.int .i64 y.gen:: .int .i64 y.block::leafC l) [.bool b] rfl
 |y::l,i+1,x,b,h=>by
  have e:=ZoC l i x b (by simpa using h);rw[Nat.add_mul];show(.bool y.live:: .int .i64 y.gen:: .int .i64 y.block::spl (leafC l) (i*3) [.bool b]:List DV)=_;rw[e];rfl
theorem Zjy: ∀(l:List SeatV) (i:Nat) (x:SeatV) (b:Int),l[i]? =some x→spl (leafC l) (i*3+2) [.int .i64 b]=leafC (l.set i { x with block:=b })
 |[],i,x,b,h=>by simp at h
 |y::l,0,x,b,h=>by
  simp only[List.getElem?_cons_zero,Option.some.injEq]at h;subst h;rw[Nat.zero_mul];exact ZcN [.bool y.live,.int .i64 y.gen] [.int .i64 y.block] (leafC l) [.int .i64 b] rfl
 |y::l,i+1,x,b,h=>by
  have e:=Zjy l i x b (by simpa using h);rw[Nat.add_mul,Nat.add_right_comm];show(.bool y.live:: .int .i64 y.gen:: .int .i64 y.block::spl (leafC l) (i*3+2) [.int .i64 b]:List DV)=_;rw[e];rfl
def Zee (k:Int):List Int→Int→Int
 |a::b::r,c=>Zee k (b::r) (bif a==k then wr64 (b+1)else c)
 |_,c=>c
def seatB (gens At free:List Int) (k:Nat):SeatV:=⟨!(At.getD k 0==0),gens.getD k 0,Zee (k:Int) free (At.getD k 0)⟩
theorem Zzc {Q:Out (List DV)×St→Prop} {Kn:List DV→M (List DV)} (n:Nat) (free:List Int) (pf:Option (Nat×Nat)) (K i:Nat) (l:List SeatV) (x:SeatV) (s:St) (hf:Sl s pf (ints free)) (hl:l.length=7) (hi:i<7) (hx:l[i]? =some x) (hfl:free.length<100000) (hn:free.length+1<n)
  (hgo:Ok Q (Kn [.agg (leafC (l.set i { x with block:=Zee (K:Int) free x.block }))] s)):
  Ok Q (M.loop (fun rec5 st=>
       J.a st fun cs12 st=>
      D.len cs12 21<|
      J.i .i64 st fun k1 st=>
      D.nil st<|
      bif decide (wr64 (k1+1)<(free.length:Int))then
       M.nn pf fun i7 o4=>
      M.chk (inB k1 free.length)<|
      M.load1 i7 (k1.toNat*1+o4) fun d4=>
      D.int .i64 d4 fun x19=>
      M.join (fun st=>
       J.a st fun cs13 st=>
      D.len cs13 21<|
      D.nil st<|
      rec5 [.agg cs13,.int .i64 (wr64 (k1+1))]) fun jk13=>
      bif x19==((K:Nat):Int)then
       M.nn pf fun i8 o5=>
      M.chk (inB (wr64 (k1+1)) free.length)<|
      M.load1 i8 (((wr64 (k1+1)).toNat)*1+o5) fun d5=>
      D.int .i64 d5 fun x20=>
      M.chk (inB ((i:Nat):Int) 7)<|
      M.chk (Nat.ble (i*3+2+1) 21)<|
      jk13 [.agg (spl cs12 (i*3+2) [.int .i64 (wr64 (x20+1))])]
      else
       jk13 [.agg cs12]
      else
       Kn [.agg cs12]) n [.agg (leafC l),.int .i64 0] s):=by
 have hset0:l.set i { x with block:=x.block } =l:=by
  have hi':i<l.length:=by omega
  rw[List.getElem?_eq_getElem hi']at hx;cases hx;exact List.set_getElem_self hi'
 obtain⟨G,hG⟩: ∃G,Zee (K:Int) free x.block=G:=⟨_,rfl⟩;rw[hG]at hgo;refine Zk _ (fun q y t=>∃(k:Nat) (c:Int),y=[.agg (leafC (l.set i { x with block:=c })),.int .i64 (k:Int)]∧k≤free.length∧free.length-k≤q∧t=s∧Zee (K:Int) (free.drop k) c=G) ?_ free.length n _ _ ⟨0,x.block,by rw[hset0];rfl,Nat.zero_le _,by omega,rfl,hG⟩ (by omega);rintro q _ t ⟨k,c,rfl,hk,hq,rfl,hgo2⟩ rec hrec;have hcl:(leafC (l.set i { x with block:=c })).length=21:=by rw[ZN,List.length_set,hl]
 have hw:wr64 ((k:Int)+1)=((k+1:Nat):Int):=Zd (by omega) (by omega);rw[J_a,D_len hcl];simp only[J_i,D_nil,hw];by_cases hlt:k+1<free.length
 ·have hlt2:k<free.length:=by omega
  have hd1:free.drop k=free[k]::free.drop (k+1):=List.drop_eq_getElem_cons hlt2;have hd2:free.drop (k+1)=free[k+1]::free.drop (k+2):=List.drop_eq_getElem_cons hlt;rw[hd1,hd2]at hgo2;unfold Zee at hgo2;rw[←hd2]at hgo2;obtain⟨bi,bo,rfl⟩:=hf.some_of (by simp[ints];omega);have hg1:(ints free)[k]? =some (.int .i64 free[k]):=Zw hlt2;have hg2:(ints free)[k+1]? =some (.int .i64 free[k+1]):=Zw hlt;rw[decide_eq_true (show((k+1:Nat):Int)<(free.length:Int) by omega),cond_true,nn_some',Ze (Zl hlt2)];simp only[Int.toNat_natCast];rw[hf.get1 hg1];simp only[D_int];rw[Zc];cases he:(free[k]==((K:Nat):Int))with
  |false=>
   rw[he,cond_false]at hgo2;rw[cond_false];show Ok _ (J.a [.agg (leafC (l.set i { x with block:=c }))] _ t);rw[J_a,D_len hcl];simp only[D_nil];exact hrec (free.length-(k+1)) _ _ (by omega) ⟨k+1,c,rfl,by omega,Nat.le_refl _,rfl,hgo2⟩
  |true=>
   rw[he,cond_true]at hgo2;rw[cond_true,nn_some',Ze (Zl hlt),hf.get1 hg2];simp only[D_int];rw[Ze (show inB ((i:Nat):Int) 7=true from Zl hi),ZD (by omega)];have hsp:spl (leafC (l.set i { x with block:=c })) (i*3+2) [.int .i64 (wr64 (free[k+1]+1))]=leafC (l.set i { x with block:=wr64 (free[k+1]+1) }):=by
    rw[Zjy _ i { x with block:=c } _ (by rw[List.getElem?_set_self (by omega)]),List.set_set]
   rw[hsp];have hcl2:(leafC (l.set i { x with block:=wr64 (free[k+1]+1) })).length=21:=by rw[ZN,List.length_set,hl]
   show Ok _ (J.a [.agg (leafC (l.set i { x with block:=wr64 (free[k+1]+1) }))] _ t);rw[J_a,D_len hcl2];simp only[D_nil];exact hrec (free.length-(k+1)) _ _ (by omega) ⟨k+1,_,rfl,by omega,Nat.le_refl _,rfl,hgo2⟩
 ·rw[decide_eq_false (show ¬((k+1:Nat):Int)<(free.length:Int) by omega),cond_false]
  have:Zee (K:Int) (free.drop k) c=c:=by
   have hdl:(free.drop k).length≤1:=by rw[List.length_drop];omega
   cases hdk:free.drop k with
   |nil=>unfold Zee;rfl
   |cons a r=>
    rw[hdk]at hdl;have:r=[]:=List.length_eq_zero_iff.1 (by rw[List.length_cons]at hdl;omega);subst this;unfold Zee;rfl
  rw[this]at hgo2;rw[hgo2];exact hgo
def leafP (gens At free:List Int) (f i:Nat):List SeatV:=(List.range 7).map fun t=>bif decide (t<i)&&decide (f+t<gens.length)then seatB gens At free (f+t)else seat0
def leafB (gens At free:List Int) (f:Nat):List SeatV:=leafP gens At free f 7
theorem ZcU (gens At free:List Int) (f i:Nat):(leafP gens At free f i).length=7:=by unfold leafP;simp
theorem Zrj (gens At free:List Int) (f i t:Nat) (h:t<7):(leafP gens At free f i)[t]? =some (bif decide (t<i)&&decide (f+t<gens.length)then seatB gens At free (f+t)else seat0):=by
 unfold leafP;rw[List.getElem?_map,List.getElem?_range h];rfl
theorem ZwB (gens At free:List Int) (f i:Nat) (hi:i<7) (hf:f+i<gens.length):leafP gens At free f (i+1)=(leafP gens At free f i).set i (seatB gens At free (f+i)):=by
 refine List.ext_getElem? fun t=>?_
 by_cases ht:t<7
 ·rw[Zrj _ _ _ _ _ _ ht]
  by_cases h:t=i
  ·subst h
   rw[List.getElem?_set_self (by rw[ZcU];exact ht),decide_eq_true (show t<t+1 by omega),decide_eq_true hf];rfl
  ·rw[List.getElem?_set_ne (by omega),Zrj _ _ _ _ _ _ ht]
   have:decide (t<i+1)=decide (t<i):=by
    by_cases h2:t<i
    ·rw[decide_eq_true h2,decide_eq_true (show t<i+1 by omega)]
    ·rw[decide_eq_false h2,decide_eq_false (show ¬t<i+1 by omega)]
   rw[this]
 ·rw[List.getElem?_eq_none (by rw[ZcU];omega),List.getElem?_eq_none (by rw[List.length_set,ZcU];omega)]
theorem ZwJ (gens At free:List Int) (f i:Nat) (h:gens.length≤f+i):leafP gens At free f i=leafB gens At free f:=by
 unfold leafB leafP;refine List.map_congr_left fun t ht=>?_
 by_cases h2:f+t<gens.length
 ·rw[decide_eq_true (show t<i by omega),decide_eq_true (List.mem_range.1 ht)]
 ·rw[decide_eq_false h2,Bool.and_false,Bool.and_false]
theorem ZwC (gens At free:List Int) (f:Nat):leafP gens At free f 0=leaf0:=by
 unfold leafP leaf0;rw[List.map_congr_left (g:=fun _=>seat0) fun t _=>by rw[decide_eq_false (show ¬t<0 by omega)];rfl];rfl
theorem Zyu {Q:Out (List DV)×St→Prop} {Kn:List DV→M (List DV)} (n:Nat) {i ib ia:Nat} {m:MkV} (gens free:List Int) (pg pf:Option (Nat×Nat)) (f:Nat) (s:St) (hm:MkM s i ib ia m) (hg:Sl s pg (ints gens)) (hfr:Sl s pf (ints free)) (hgl:gens.length<100000) (hfl:free.length<100000) (hAt:m.At.length=gens.length) (hf:f<100000) (hn:free.length+10<n) (hn2:10<n)
  (hgo:Ok Q (Kn [.agg (leafC (leafB gens m.At free f))] s)):
  Ok Q (M.loop (fun rec4 st=>
    J.a st fun cs8 st=>
    D.len cs8 21<|
    J.i .i64 st fun i3 st=>
    D.nil st<|
    M.join (fun st=>J.b st fun b3 st=>D.nil st<|
     bif b3 then
      M.join (fun st=>
       J.a st fun cs9 st=>
      D.len cs9 21<|
      D.nil st<|
      rec4 [.agg cs9,.int .i64 (wr64 (i3+1))]) fun jk10=>
      M.nn pg fun i4 o1=>
      M.chk (inB (wr64 (((f:Nat):Int)+i3)) gens.length)<|
      M.load1 i4 (((wr64 (((f:Nat):Int)+i3)).toNat)*1+o1) fun d1=>
      D.int .i64 d1 fun x16=>
      M.chk (inB i3 7)<|
      M.chk (Nat.ble (i3.toNat*3+3) 21)<|
      M.nn (some (i,0)) fun i5 o2=>
      M.load1 i5 (o2+2) fun d2=>
      D.slice 1 d2 fun x17 x17n=>
      M.nn x17 fun i6 o3=>
      M.chk (inB (wr64 (((f:Nat):Int)+i3)) x17n)<|
      M.load1 i6 (((wr64 (((f:Nat):Int)+i3)).toNat)*1+o3) fun d3=>
      D.int .i64 d3 fun x18=>
      M.join (fun st=>
       J.a st fun cs10 st=>
      D.len cs10 21<|
      D.nil st<|
      M.join (fun st=>
       J.a st fun cs11 st=>
      D.len cs11 21<|
      D.nil st<|
      jk10 [.agg cs11]) fun jk12=>
      M.loop (fun rec5 st=>
       J.a st fun cs12 st=>
      D.len cs12 21<|
      J.i .i64 st fun k1 st=>
      D.nil st<|
      bif decide (wr64 (k1+1)<(free.length:Int))then
       M.nn pf fun i7 o4=>
      M.chk (inB k1 free.length)<|
      M.load1 i7 (k1.toNat*1+o4) fun d4=>
      D.int .i64 d4 fun x19=>
      M.join (fun st=>
       J.a st fun cs13 st=>
      D.len cs13 21<|
      D.nil st<|
      rec5 [.agg cs13,.int .i64 (wr64 (k1+1))]) fun jk13=>
      bif x19==(wr64 (((f:Nat):Int)+i3))then
       M.nn pf fun i8 o5=>
      M.chk (inB (wr64 (k1+1)) free.length)<|
      M.load1 i8 (((wr64 (k1+1)).toNat)*1+o5) fun d5=>
      D.int .i64 d5 fun x20=>
      M.chk (inB i3 7)<|
      M.chk (Nat.ble (i3.toNat*3+2+1) 21)<|
      jk13 [.agg (spl cs12 (i3.toNat*3+2) [.int .i64 (wr64 (x20+1))])]
      else
       jk13 [.agg cs12]
      else
       jk12 [.agg cs12]) n [.agg cs10,.int .i64 0]) fun jk11=>
      bif !(x18==0)then
       M.chk (inB i3 7)<|
      M.chk (Nat.ble (i3.toNat*3+1) 21)<|
      M.nn (some (i,0)) fun i9 o6=>
      M.load1 i9 (o6+2) fun d6=>
      D.slice 1 d6 fun x21 x21n=>
      M.nn x21 fun i10 o7=>
      M.chk (inB (wr64 (((f:Nat):Int)+i3)) x21n)<|
      M.load1 i10 (((wr64 (((f:Nat):Int)+i3)).toNat)*1+o7) fun d7=>
      D.int .i64 d7 fun x22=>
      M.chk (inB i3 7)<|
      M.chk (Nat.ble (i3.toNat*3+2+1) 21)<|
      jk11 [.agg (spl (spl (spl cs8 (i3.toNat*3) [.bool false,.int .i64 x16,.int .i64 0]) (i3.toNat*3) [.bool true]) (i3.toNat*3+2) [.int .i64 x22])]
      else
       jk11 [.agg (spl cs8 (i3.toNat*3) [.bool false,.int .i64 x16,.int .i64 0])]
     else
      Kn [.agg cs8]) fun jk9=>
    bif decide (i3<7)then
     jk9 [.bool (decide (wr64 (((f:Nat):Int)+i3)<(gens.length:Int)))]
    else
     jk9 [.bool false]) n [.agg (leafC leaf0),.int .i64 0] s):=by
 refine Zk _ (fun q y t=>∃(a:Nat),y=[.agg (leafC (leafP gens m.At free f a)),.int .i64 (a:Int)]∧a≤7∧7-a≤q∧t=s) ?_ 7 n _ _ ⟨0,by rw[ZwC];rfl,Nat.zero_le _,by omega,rfl⟩ (by omega);rintro q _ t ⟨a,rfl,ha,hq,rfl⟩ rec hrec;have hcl:(leafC (leafP gens m.At free f a)).length=21:=by rw[ZN,ZcU]
 rw[J_a,D_len hcl];simp only[J_i,D_nil];have hw:wr64 (((f:Nat):Int)+(a:Int))=((f+a:Nat):Int):=Zd (by omega) (by omega);have hw1:wr64 ((a:Int)+1)=((a+1:Nat):Int):=Zd (by omega) (by omega);simp only[hw,hw1,Int.toNat_natCast];refine Ok.join fun jk9 hj9=>?_
 have hstop:leafP gens m.At free f a=leafB gens m.At free f→Ok Q (jk9 [.bool false] t):=fun e=>by
  rw[hj9];simp only[J_b,D_nil];rw[cond_false,e];exact hgo
 by_cases h7:a<7
 ·rw[decide_eq_true (show(a:Int)<7 by omega),cond_true]
  by_cases hlt:f+a<gens.length
  ·rw[decide_eq_true (show((f+a:Nat):Int)<(gens.length:Int) by omega),hj9]
   simp only[J_b,D_nil];rw[cond_true];refine Ok.join fun jk10 hj10=>?_
   obtain⟨bi,bo,rfl⟩:=hg.some_of (by simp[ints];omega);have hgg:(ints gens)[f+a]? =some (.int .i64 gens[f+a]):=Zw hlt;rw[nn_some',Ze (Zl hlt),hg.get1 hgg];simp only[D_int];rw[Ze (show inB ((a:Nat):Int) 7=true from Zl h7),ZD (by omega),nn_some',Zn hm.cell rfl];simp only[D_slice];have hlA:f+a<m.At.length:=by omega
   have hla: ∀K:DV→M (List DV),M.load1 ia ((f+a)*1+0) K t=K (.int .i64 m.At[f+a]) t:=fun K=>Zn hm.aa (by rw[Nat.mul_one,Nat.add_zero];exact Zw hlA) K
   rw[nn_some',Ze (Zl hlA),hla];simp only[D_int];obtain⟨L,hL⟩: ∃L,leafP gens m.At free f a=L:=⟨_,rfl⟩;have hLl:L.length=7:=by rw[←hL];exact ZcU _ _ _ _ _
   have hsB:seatB gens m.At free (f+a)=⟨!(m.At[f+a]==0),gens[f+a],Zee ((f+a:Nat):Int) free m.At[f+a]⟩:=by
    unfold seatB;rw[List.getD_eq_getElem?_getD,List.getElem?_eq_getElem hlA,List.getD_eq_getElem?_getD,List.getElem?_eq_getElem hlt];rfl
   have hsucc:=ZwB gens m.At free f a h7 hlt;rw[hL,hsB]at hsucc;rw[hL]at hcl⊢;generalize m.At[f+a]=at' at hla hsucc;generalize gens[f+a]=g at hgg hsucc;refine Ok.join fun jk11 hj11=>?_
   have hA:Ok Q (jk11 [.agg (leafC (L.set a ⟨!(at'==0),g,at'⟩))] t):=by
    rw[hj11];have hcl2:(leafC (L.set a ⟨!(at'==0),g,at'⟩)).length=21:=by rw[ZN,List.length_set,hLl]
    show Ok _ (J.a [.agg (leafC (L.set a ⟨!(at'==0),g,at'⟩))] _ t);rw[J_a,D_len hcl2];simp only[D_nil];refine Ok.join fun jk12 hj12=>?_
    refine Zzc n free pf (f+a) a (L.set a ⟨!(at'==0),g,at'⟩) ⟨!(at'==0),g,at'⟩ t hfr (by rw[List.length_set,hLl]) h7 (by rw[List.getElem?_set_self (by omega)]) hfl (by omega) (Kn:=jk12) ?_;rw[List.set_set,←hsucc,hj12];have hcl3:(leafC (leafP gens m.At free f (a+1))).length=21:=by rw[ZN,ZcU]
    show Ok _ (J.a [.agg (leafC (leafP gens m.At free f (a+1)))] _ t);rw[J_a,D_len hcl3];simp only[D_nil];rw[hj10];show Ok _ (J.a [.agg (leafC (leafP gens m.At free f (a+1)))] _ t);rw[J_a,D_len hcl3];simp only[D_nil];exact hrec (7-(a+1)) _ _ (by omega) ⟨a+1,rfl,by omega,Nat.le_refl _,rfl⟩
   have hs1:spl (leafC L) (a*3) [.bool false,.int .i64 g,.int .i64 0]=leafC (L.set a ⟨false,g,0⟩):=Zq1 L a ⟨false,g,0⟩ (by omega);cases h0:(at'==0)with
   |true=>
    have:at'=0:=beq_iff_eq.1 h0;subst this;rw[Bool.not_true,cond_false,hs1];exact hA
   |false=>
    rw[h0]at hA;rw[Bool.not_false,cond_true,Ze (show inB ((a:Nat):Int) 7=true from Zl h7),ZD (by omega),nn_some',Zn hm.cell rfl];simp only[D_slice];rw[nn_some',Ze (Zl hlA),hla];simp only[D_int];rw[Ze (show inB ((a:Nat):Int) 7=true from Zl h7),ZD (by omega),hs1];rw[ZoC _ a ⟨false,g,0⟩ true (by rw[List.getElem?_set_self (by omega)]),List.set_set];rw[Zjy _ a ⟨true,g,0⟩ at' (by rw[List.getElem?_set_self (by omega)]),List.set_set];exact hA
  ·rw[decide_eq_false (show ¬((f+a:Nat):Int)<(gens.length:Int) by omega)]
   exact hstop (ZwJ _ _ _ _ _ (by omega))
 ·rw[decide_eq_false (show ¬(a:Int)<7 by omega),cond_false]
  have:a=7:=by omega
  subst this;exact hstop rfl
end Go.Gv.F
namespace Go.Gv.F
open Go.Gv
variable {β:Type}
def strB (o:Option (List UInt8)):List UInt8:=o.getD []
theorem Zls (o:Option (List UInt8)):strO o=[.str (strB o),.bool o.isSome]:=by cases o<;>rfl
def fanP (leaves:List Int) (i k:Nat):List Int:=(List.range 16).map fun t=>bif decide (t<k)&&decide (16*i+t<leaves.length)then leaves.getD (16*i+t) 0 else 0
def fanL (leaves:List Int) (i:Nat):List Int:=fanP leaves i 16
theorem Zgi (leaves:List Int) (i k:Nat):(fanP leaves i k).length=16:=by unfold fanP;simp
theorem Ztt (leaves:List Int) (i k t:Nat) (h:t<16):(fanP leaves i k)[t]? =some (bif decide (t<k)&&decide (16*i+t<leaves.length)then leaves.getD (16*i+t) 0 else 0):=by
 unfold fanP;rw[List.getElem?_map,List.getElem?_range h];rfl
theorem Zxw (leaves:List Int) (i k:Nat) (hk:k<16) (hf:16*i+k<leaves.length):fanP leaves i (k+1)=(fanP leaves i k).set k (leaves.getD (16*i+k) 0):=by
 refine List.ext_getElem? fun t=>?_
 by_cases ht:t<16
 ·rw[Ztt _ _ _ _ ht]
  by_cases h:t=k
  ·subst h
   rw[List.getElem?_set_self (by rw[Zgi];exact ht),decide_eq_true (show t<t+1 by omega),decide_eq_true hf];rfl
  ·rw[List.getElem?_set_ne (by omega),Ztt _ _ _ _ ht]
   have:decide (t<k+1)=decide (t<k):=by
    by_cases h2:t<k
    ·rw[decide_eq_true h2,decide_eq_true (show t<k+1 by omega)]
    ·rw[decide_eq_false h2,decide_eq_false (show ¬t<k+1 by omega)]
   rw[this]
 ·rw[List.getElem?_eq_none (by rw[Zgi];omega),List.getElem?_eq_none (by rw[List.length_set,Zgi];omega)]
theorem Zxt (leaves:List Int) (i k:Nat) (h:leaves.length≤16*i+k):fanP leaves i k=fanL leaves i:=by
 unfold fanL fanP;refine List.map_congr_left fun t ht=>?_
 by_cases h2:16*i+t<leaves.length
 ·rw[decide_eq_true (show t<k by omega),decide_eq_true (List.mem_range.1 ht)]
 ·rw[decide_eq_false h2,Bool.and_false,Bool.and_false]
theorem ZxU (leaves:List Int) (i:Nat):fanP leaves i 0=List.replicate 16 0:=by
 unfold fanP;rw[List.map_congr_left (g:=fun _=>(0:Int)) fun t _=>by rw[decide_eq_false (show ¬t<0 by omega)];rfl];rfl
theorem Zzp {Q:Out (List DV)×St→Prop} {Kn:List DV→M (List DV)} (n:Nat) (leaves:List Int) (pl:Option (Nat×Nat)) (i:Nat) (s:St) (hl:Sl s pl (ints leaves)) (hll:leaves.length<100000) (hi:i<1000) (hn:20<n)
  (hgo:Ok Q (Kn [.agg (ints (fanL leaves i))] s)):
  Ok Q (M.loop (fun rec2 st=>
       J.a st fun cs5 st=>
      D.len cs5 16<|
      J.i .i64 st fun k st=>
      D.nil st<|
      M.join (fun st=>J.b st fun b2 st=>D.nil st<|
       bif b2 then
       M.nn pl fun i1 o=>
      M.chk (inB (wr64 (((16*i:Nat):Int)+k)) leaves.length)<|
      M.load1 i1 (((wr64 (((16*i:Nat):Int)+k)).toNat)*1+o) fun d=>
      D.int .i64 d fun x12=>
      M.chk (inB k 16)<|
      M.chk (Nat.ble (k.toNat*1+1) 16)<|
      rec2 [.agg (spl cs5 (k.toNat*1) [.int .i64 x12]),.int .i64 (wr64 (k+1))]
      else
       Kn [.agg cs5]) fun jk6=>
      bif decide (k<16)then
       jk6 [.bool (decide (wr64 (((16*i:Nat):Int)+k)<(leaves.length:Int)))]
      else
       jk6 [.bool false]) n [.agg (ints (List.replicate 16 0)),.int .i64 0] s):=by
 refine Zk _ (fun q y t=>∃(k:Nat),y=[.agg (ints (fanP leaves i k)),.int .i64 (k:Int)]∧k≤16∧16-k≤q∧t=s) ?_ 16 n _ _ ⟨0,by rw[ZxU];rfl,Nat.zero_le _,by omega,rfl⟩ (by omega);rintro q _ t ⟨k,rfl,hk,hq,rfl⟩ rec hrec;have hcl: ∀k,(ints (fanP leaves i k)).length=16:=fun k=>by simp[ints,Zgi]
 rw[J_a,D_len (hcl k)];simp only[J_i,D_nil];have hw:wr64 (((16*i:Nat):Int)+(k:Int))=((16*i+k:Nat):Int):=Zd (by omega) (by omega);have hw1:wr64 ((k:Int)+1)=((k+1:Nat):Int):=Zd (by omega) (by omega);simp only[hw,hw1,Int.toNat_natCast];refine Ok.join fun jk6 hj6=>?_
 have hstop:fanP leaves i k=fanL leaves i→Ok Q (jk6 [.bool false] t):=fun e=>by
  rw[hj6];simp only[J_b,D_nil];rw[cond_false,e];exact hgo
 by_cases h16:k<16
 ·rw[decide_eq_true (show(k:Int)<16 by omega),cond_true]
  by_cases hlt:16*i+k<leaves.length
  ·rw[decide_eq_true (show((16*i+k:Nat):Int)<(leaves.length:Int) by omega),hj6]
   simp only[J_b,D_nil];obtain⟨bi,bo,rfl⟩:=hl.some_of (by simp[ints];omega);have hg:(ints leaves)[16*i+k]? =some (.int .i64 leaves[16*i+k]):=Zw hlt;rw[cond_true,nn_some',Ze (Zl hlt),hl.get1 hg];simp only[D_int];rw[Ze (show inB ((k:Nat):Int) 16=true from Zl h16),ZD (by omega)];have hsp:spl (ints (fanP leaves i k)) (k*1) [.int .i64 leaves[16*i+k]]=ints (fanP leaves i (k+1)):=by
    rw[Nat.mul_one,Ze6 _ _ _ (by rw[hcl];exact h16),Zxw _ _ _ h16 hlt,List.getD_eq_getElem?_getD,List.getElem?_eq_getElem hlt];unfold ints;rw[List.map_set];rfl
   rw[hsp];exact hrec (16-(k+1)) _ _ (by omega) ⟨k+1,rfl,by omega,Nat.le_refl _,rfl⟩
  ·rw[decide_eq_false (show ¬((16*i+k:Nat):Int)<(leaves.length:Int) by omega)]
   exact hstop (Zxt _ _ _ (by omega))
 ·rw[decide_eq_false (show ¬(k:Int)<16 by omega),cond_false]
  have:k=16:=by omega
  subst this;exact hstop rfl
def leavesB (gens free:List Int):Nat→Nat→List Int→MkV→List Int×MkV
 |0,_,ls,m=>(ls,m)
 |c+1,f,ls,m=>bif decide (f<gens.length)then leavesB gens free c (f+7) (ls++[(m.next:Int)]) (putB m (strB (Zf4 (leafB gens m.At free f))))else(ls,m)
def fansB (leaves:List Int):Nat→Nat→List Int→MkV→List Int×MkV
 |0,_,top,m=>(top,m)
 |c+1,i,top,m=>bif decide (16*i<leaves.length)then fansB leaves c (i+1) (top.set i (m.next:Int)) (putB m (strB (Zfk (fanL leaves i))))else(top,m)
def seatsB (gens free:List Int) (m:MkV):Nat×MkV:=(fun r:List Int×MkV=>bif Nat.beq r.1.length 0 then(0,r.2)else
 (fun t:List Int×MkV=>(t.2.next,putB t.2 (strB (Zfk t.1)))) (fansB r.1 16 0 (List.replicate 16 0) r.2)) (leavesB gens free gens.length 0 [] m)
theorem Zmi (gens free:List Int): ∀(c f:Nat) (ls:List Int) (m:MkV),(leavesB gens free c f ls m).2.B.length=m.B.length∧(leavesB gens free c f ls m).2.At=m.At∧(leavesB gens free c f ls m).2.next≤m.next+c∧m.next≤(leavesB gens free c f ls m).2.next
 |0,f,ls,m=>⟨rfl,rfl,Nat.le_refl _,Nat.le_refl _⟩
 |c+1,f,ls,m=>by
  unfold leavesB;cases decide (f<gens.length)with
  |true=>
   rw[cond_true];obtain⟨b1,b2,b3,b4⟩:=Zmi gens free c (f+7) (ls++[(m.next:Int)]) (putB m (strB (Zf4 (leafB gens m.At free f))));have hn:(putB m (strB (Zf4 (leafB gens m.At free f)))).next=m.next+1:=rfl;exact⟨b1.trans (Zcb _ _),b2,by omega,by omega⟩
  |false=>exact⟨rfl,rfl,by simp only[cond_false];omega,Nat.le_refl _⟩
theorem Zop (leaves:List Int): ∀(c i:Nat) (top:List Int) (m:MkV),(fansB leaves c i top m).2.B.length=m.B.length∧(fansB leaves c i top m).2.At=m.At∧(fansB leaves c i top m).2.next≤m.next+c∧m.next≤(fansB leaves c i top m).2.next∧(fansB leaves c i top m).1.length=top.length
 |0,i,top,m=>⟨rfl,rfl,Nat.le_refl _,Nat.le_refl _,rfl⟩
 |c+1,i,top,m=>by
  unfold fansB;cases decide (16*i<leaves.length)with
  |true=>
   rw[cond_true];obtain⟨b1,b2,b3,b4,b5⟩:=Zop leaves c (i+1) (top.set i (m.next:Int)) (putB m (strB (Zfk (fanL leaves i))));have hn:(putB m (strB (Zfk (fanL leaves i)))).next=m.next+1:=rfl;exact⟨b1.trans (Zcb _ _),b2,by omega,by omega,by rw[b5,List.length_set]⟩
  |false=>exact⟨rfl,rfl,by simp only[cond_false];omega,Nat.le_refl _,rfl⟩
theorem Zuy (gens free:List Int) (m:MkV):(seatsB gens free m).2.B.length=m.B.length∧(seatsB gens free m).2.At=m.At∧(seatsB gens free m).2.next≤m.next+gens.length+17∧m.next≤(seatsB gens free m).2.next:=by
 obtain⟨b1,b2,b3,b4⟩:=Zmi gens free gens.length 0 [] m;unfold seatsB;simp only;cases Nat.beq (leavesB gens free gens.length 0 [] m).1.length 0 with
 |true=>exact⟨b1,b2,by simp only[cond_true];omega,b4⟩
 |false=>
  obtain⟨c1,c2,c3,c4,_⟩:=Zop (leavesB gens free gens.length 0 [] m).1 16 0 (List.replicate 16 0) (leavesB gens free gens.length 0 [] m).2;rw[cond_false];exact⟨(Zcb _ _).trans (c1.trans b1),c2.trans b2,by show _+1≤_;omega,by show _≤_+1;omega⟩
theorem ZpM {Bd:Za} (h:Zdk Bd) (n:Nat) {i ib ia:Nat} {m:MkV} (x:StV) (z1 z2 z3:Nat) (p1 p2 p3:Option (Nat×Nat)) (st:St) (hz1:z1=2∨p1=none) (hz2:z2=1∨p2=none) (hz3:z3=1∨p3=none) (hm:MkM st i ib ia m) (hg:Fz st p2 (ints x.gens)) (hfr:Fz st p3 (ints x.free)) (hgl:x.gens.length<90000) (hfl:x.free.length<90000) (hAt:m.At.length=x.gens.length) (hnx:m.next+x.gens.length≤700000) (hB:m.B.length<1000000) (hn:x.gens.length+x.free.length+1000≤n):
  Ok (fun o=>∃st',o=(.val [.int .i64 (seatsB x.gens x.free m).1],st')∧MkM st' i ib ia (seatsB x.gens x.free m).2∧Fx [i,ib,ia] st st') (run Bd n 190 [.ptr (some (i,0)),.agg (stC x z1 p1 z2 p2 z3 p3)] st):=by
 obtain⟨n,rfl⟩: ∃k,n=k+2:=⟨n-2,by omega⟩;rw[Zf,h.eq];unfold Zch;simp only[J_p];rw[J_a];unfold stC;simp only[J_i,Zm 2 z1 p1 _ hz1,Zm 1 z2 p2 _ hz2,Zm 1 z3 p3 _ hz3,D_nil];obtain⟨l1,l2,l3⟩:=hm.lt;obtain⟨T,hT⟩: ∃T,seatsB x.gens x.free m=T:=⟨_,rfl⟩;rw[hT];unfold seatsB at hT;obtain⟨RL,hRL⟩: ∃RL,leavesB x.gens x.free x.gens.length 0 [] m=RL:=⟨_,rfl⟩;rw[hRL]at hT;simp only at hT;have hfx3: ∀ {a b:St},Fx [i,ib] a b→Fx [i,ib,ia] a b:=fun k=>k.mono fun y hy=>by simp only[List.mem_cons,List.not_mem_nil,or_false]at hy⊢;omega
 have hnk: ∀ {a:Option (Nat×Nat)},(∀b∈blk a,st.length≤b)→∀b∈blk a,b∉[i,ib,ia]:=fun hba b hb hmm=>by
  have:=hba b hb;simp only[List.mem_cons,List.not_mem_nil,or_false]at hmm;omega
 refine Ok.join fun jk1 hj1=>?_
 refine Zk _ (fun q y t=>∃(c f zk:Nat) (a:Option (Nat×Nat)) (ls:List Int) (m':MkV),y=[.slice zk a ls.length,.int .i64 (f:Int)]∧(zk=1∨a=none)∧f≤x.gens.length+7∧x.gens.length+7-f≤q∧MkM t i ib ia m'∧Fx [i,ib,ia] st t∧Own [] t a (ints ls)∧(∀b∈blk a,st.length≤b)∧m'.B.length=m.B.length∧m'.At.length=m.At.length∧m'.next≤m.next+f∧ls.length≤f∧x.gens.length≤c+f∧leavesB x.gens x.free c f ls m'=RL) ?_ (x.gens.length+7) (n+1) _ _ ⟨x.gens.length,0,0,none,[],m,rfl,.inr rfl,Nat.zero_le _,by omega,hm,.refl _ _,Own.nil ⟨st,rfl⟩,(fun _ h=>by cases h),rfl,rfl,by omega,Nat.zero_le _,by omega,hRL⟩ (by omega);rintro q _ t ⟨c,f,zk,a,ls,m',rfl,hzk,hf,hq,hmt,hfx,hoa,hba,hB',hAt',hnx',hll,hc,hgo⟩ rec hrec;simp only[J_i,Zm 1 zk a _ hzk,D_nil];have hkp:=hm.kp hfx;have hgt:=hg.kp hkp;have hft:=hfr.kp hkp;by_cases hlt:f<x.gens.length
 ·obtain⟨c,rfl⟩: ∃c',c=c'+1:=⟨c-1,by omega⟩
  unfold leavesB at hgo;rw[decide_eq_true hlt,cond_true]at hgo;rw[decide_eq_true (show(f:Int)<(x.gens.length:Int) by omega),cond_true];refine Ok.join fun jk7 hj7=>?_
  refine Ok.join fun jk8 hj8=>?_
  refine Zyu (n+1) x.gens x.free p2 p3 f t hmt hgt.1 hft.1 (by omega) (by omega) (by omega) (by omega) (by omega) (by omega) (Kn:=jk8) ?_;rw[hj8];have hcl:(leafC (leafB x.gens m'.At x.free f)).length=21:=by rw[ZN];show(leafP _ _ _ _ _).length*3=_;rw[ZcU]
  show Ok _ (J.a [.agg (leafC (leafB x.gens m'.At x.free f))] _ t);rw[J_a,D_len hcl];simp only[D_nil];refine Ok.call (ZrN h.q100 (n+1) (leafB x.gens m'.At x.free f) (ZcU _ _ _ _ _) t (by omega)) ?_;rintro _ ⟨t1,rfl,hp1⟩;refine⟨_,t1,rfl,?_⟩;rw[Zls];simp only[J_s,J_b,D_nil];refine Ok.call (Ziy h.q28 n (strB (Zf4 (leafB x.gens m'.At x.free f))) t1 (hmt.pre hp1) (by omega) (by omega)) ?_;rintro _ ⟨t2,rfl,hm2,hfx2⟩;refine⟨_,t2,rfl,?_⟩;simp only[J_i,D_nil];have hfx4:Fx [i,ib,ia] t t2:=(Fx.pre _ hp1).trans (hfx3 hfx2);have hoa3:=hoa.fx hfx4 (hnk hba);obtain⟨b,t4,r1,r2,r3,r4⟩:=Zd5 (β:=List DV) (lim:=8796093022208) hoa3 (sz:=1) (n:=ls.length) [.int .i64 (m'.next:Int)] (by omega) (by simp[ints]) rfl (by omega);refine Eq.mpr (congrArg (Ok _) (r4 _)) ?_;rw[hj7];simp only[J_l,D_nil];have hw:wr64 ((f:Int)+7)=((f+7:Nat):Int):=Zd (by omega) (by omega);rw[hw];have hm4:=hm2.fx r3 fun y hy=>by
   have:=hba y hy;omega
  refine hrec (x.gens.length+7-(f+7)) _ _ (by omega) ⟨c,f+7,1,some (b,0),ls++[(m'.next:Int)],_,?_,.inl rfl,by omega,Nat.le_refl _,hm4,(hfx.trans hfx4).step r3 fun y hy=> .inr (hba y hy),?_,fun y hy=>?_,(Zcb _ _).trans hB',hAt',?_,?_,by omega,hgo⟩
  ·rw[List.length_append];rfl
  ·unfold ints
   rw[List.map_append];exact r2
  ·rw[List.mem_singleton.1 hy]
   have:=(hfx.trans hfx4).1;omega
  ·show m'.next+1≤_
   omega
  ·rw[List.length_append];show _+1≤_;omega
 ·rw[decide_eq_false (show ¬(f:Int)<(x.gens.length:Int) by omega),cond_false,hj1]
  have hRe:RL=(ls,m'):=by
   rw[←hgo];cases c with
   |zero=>rfl
   |succ c=>unfold leavesB;rw[decide_eq_false hlt];rfl
  rw[hRe]at hT;simp only at hT;simp only[J_l,D_nil];by_cases h0:ls.length=0
  ·rw[h0]at hT⊢
   have hT2:(0,m')=T:=hT;rw[show(((0:Nat):Int)==0)=true from rfl,cond_true,Zb,←hT2];exact .mk ⟨t,rfl,hmt,hfx⟩
  ·have hb0:Nat.beq ls.length 0=false:=by
    cases hb:Nat.beq ls.length 0 with
    |false=>rfl
    |true=>exact absurd (Nat.eq_of_beq_eq_true hb) h0
   rw[hb0,cond_false]at hT;rw[show(((ls.length:Nat):Int)==0)=false from beq_eq_false_iff_ne.2 (by omega),cond_false];obtain⟨RF,hRF⟩: ∃RF,fansB ls 16 0 (List.replicate 16 0) m'=RF:=⟨_,rfl⟩;rw[hRF]at hT;refine Ok.join fun jk2 hj2=>?_
   refine Zk _ (fun q y u=>∃(k:Nat) (top:List Int) (m2:MkV),y=[.agg (ints top),.int .i64 (k:Int)]∧k≤16∧16-k≤q∧MkM u i ib ia m2∧Fx [i,ib,ia] t u∧top.length=16∧m2.B.length=m.B.length∧m2.next≤m'.next+k∧fansB ls (16-k) k top m2=RF) ?_ 16 (n+1) _ _ ⟨0,List.replicate 16 0,m',rfl,Nat.zero_le _,by omega,hmt,.refl _ _,List.length_replicate,hB',by omega,hRF⟩ (by omega);rintro q2 _ u ⟨k,top,m2,rfl,hk,hq2,hmu,hfu,htl,hB2,hnx2,hgo2⟩ rec2 hrec2;have hcl:(ints top).length=16:=by simp[ints,htl]
   rw[J_a,D_len hcl];simp only[J_i,D_nil];have hw:wr64 (16*(k:Int))=((16*k:Nat):Int):=by rw[Zd (by omega) (by omega)];omega
   have hw1:wr64 ((k:Int)+1)=((k+1:Nat):Int):=Zd (by omega) (by omega);simp only[hw,hw1];have hou:=hoa.fx hfu (hnk hba);refine Ok.join fun jk3 hj3=>?_
   have hstop:RF=(top,m2)→Ok (fun o=>∃st',o=(.val [.int .i64 T.1],st')∧MkM st' i ib ia T.2∧Fx [i,ib,ia] st st') (jk3 [.bool false] u):=fun e=>by
    rw[hj3];simp only[J_b,D_nil];rw[cond_false,hj2];show Ok _ (J.a [.agg (ints top)] _ u);rw[J_a,D_len hcl];simp only[D_nil];rw[e]at hT;simp only at hT;refine Ok.call (ZlG h.q119 (n+1) top htl u (by omega)) ?_;rintro _ ⟨u1,rfl,hp1⟩;refine⟨_,u1,rfl,?_⟩;rw[Zls];simp only[J_s,J_b,D_nil];refine Ok.call (Ziy h.q28 n (strB (Zfk top)) u1 (hmu.pre hp1) (by omega) (by omega)) ?_;rintro _ ⟨u2,rfl,hm3,hfx5⟩;refine⟨_,u2,rfl,?_⟩;simp only[J_i,D_nil,Zb];rw[←hT];exact .mk ⟨u2,rfl,hm3,((hfx.trans hfu).trans (Fx.pre _ hp1)).trans (hfx3 hfx5)⟩
   by_cases h16:k<16
   ·rw[decide_eq_true (show(k:Int)<16 by omega),cond_true]
    have e16:16-k=(16-(k+1))+1:=by omega
    rw[e16]at hgo2;unfold fansB at hgo2;by_cases hkl:16*k<ls.length
    ·rw[decide_eq_true hkl,cond_true]at hgo2
     rw[decide_eq_true (show((16*k:Nat):Int)<(ls.length:Int) by omega),hj3];simp only[J_b,D_nil];rw[cond_true];refine Ok.join fun jk4 hj4=>?_
     refine Ok.join fun jk5 hj5=>?_
     refine Zzp (n+1) ls a k u hou.sl (by omega) (by omega) (by omega) (Kn:=jk5) ?_;rw[hj5];have hcf:(ints (fanL ls k)).length=16:=by simp only[ints,List.length_map];exact Zgi _ _ _
     show Ok _ (J.a [.agg (ints (fanL ls k))] _ u);rw[J_a,D_len hcf];simp only[D_nil];refine Ok.call (ZlG h.q119 (n+1) (fanL ls k) (Zgi _ _ _) u (by omega)) ?_;rintro _ ⟨u1,rfl,hp1⟩;refine⟨_,u1,rfl,?_⟩;rw[Zls];simp only[J_s,J_b,D_nil];refine Ok.call (Ziy h.q28 n (strB (Zfk (fanL ls k))) u1 (hmu.pre hp1) (by omega) (by omega)) ?_;rintro _ ⟨u2,rfl,hm3,hfx5⟩;refine⟨_,u2,rfl,?_⟩;simp only[J_i,D_nil];rw[Ze (show inB ((k:Nat):Int) 16=true from Zl h16)];simp only[Int.toNat_natCast];rw[ZD (by omega)];have hsp:spl (ints top) (k*1) [.int .i64 (m2.next:Int)]=ints (top.set k (m2.next:Int)):=by
      rw[Nat.mul_one,Ze6 _ _ _ (by omega)];unfold ints;rw[List.map_set]
     rw[hsp,hj4];have hcl2:(ints (top.set k (m2.next:Int))).length=16:=by simp[ints,htl]
     show Ok _ (J.a [.agg (ints (top.set k (m2.next:Int)))] _ u2);rw[J_a,D_len hcl2];simp only[D_nil];exact hrec2 (16-(k+1)) _ _ (by omega) ⟨k+1,_,_,rfl,by omega,Nat.le_refl _,hm3,(hfu.trans (Fx.pre _ hp1)).trans (hfx3 hfx5),by rw[List.length_set,htl],(Zcb _ _).trans hB2,by show m2.next+1≤_;omega,hgo2⟩
    ·rw[decide_eq_false hkl,cond_false]at hgo2
     rw[decide_eq_false (show ¬((16*k:Nat):Int)<(ls.length:Int) by omega)];exact hstop hgo2.symm
   ·have:k=16:=by omega
    subst this;rw[decide_eq_false (show ¬((16:Nat):Int)<16 by omega),cond_false];exact hstop hgo2.symm
end Go.Gv.F
namespace Go.Gv.F
open Go.Gv
variable {β:Type}
def supS (x:SupV):List UInt8:=layN (u64N x.seq) 8++layN (u64N x.blocks) 4++layN (u64N x.slots) 4++layN (u64N x.g) 4++layN (u64N x.used) 4++layN (u64N x.free) 4++layN (u64N x.fan) 2++layN (u64N x.dir) 2++lays2 x.charts
def Zc9 (x:SupV):List UInt8:=sealF 7 x.charts.length (supS x)
theorem Zt7 {Bd:Za} (h:ZjA Bd) (n:Nat) (x:SupV) (p:Option (Nat×Nat)) (st:St) (hs:Sl st p (ints x.charts)) (hl:x.charts.length<1000) (hn:2600≤n):
  Ok (fun o=>∃s',o=(.val [.str (Zc9 x)],s')∧Pre st s') (run Bd n 191 [.agg (supC x p)] st):=by
 obtain⟨n,rfl⟩: ∃k,n=k+2:=⟨n-2,by omega⟩;rw[Zf,h.eq];unfold ZgH supC;rw[J_a];simp only[J_i,J_l,D_nil,ZeY];have lay:=fun v k (hk:k≤20) s=>ZP h.q116 (n+1) (u64N v) k (ZbO v) s (by omega) (by omega)
 refine Ok.callX (lay x.seq 8 (by omega) st) ?_;rintro _ ⟨s1,rfl,hp1⟩;refine⟨_,s1,rfl,hp1,?_⟩;simp only[J_s,D_nil];refine Ok.callX (lay x.blocks 4 (by omega) s1) ?_;rintro _ ⟨s2,rfl,hp2⟩;refine⟨_,s2,rfl,hp2,?_⟩;simp only[J_s,D_nil];rw[ZD (by simp only[Zq];omega)];refine Ok.callX (lay x.slots 4 (by omega) s2) ?_;rintro _ ⟨s3,rfl,hp3⟩;refine⟨_,s3,rfl,hp3,?_⟩;simp only[J_s,D_nil];rw[ZD (by simp only[List.length_append,Zq];omega)];refine Ok.callX (lay x.g 4 (by omega) s3) ?_;rintro _ ⟨s4,rfl,hp4⟩;refine⟨_,s4,rfl,hp4,?_⟩;simp only[J_s,D_nil];rw[ZD (by simp only[List.length_append,Zq];omega)];refine Ok.callX (lay x.used 4 (by omega) s4) ?_;rintro _ ⟨s5,rfl,hp5⟩;refine⟨_,s5,rfl,hp5,?_⟩;simp only[J_s,D_nil];rw[ZD (by simp only[List.length_append,Zq];omega)];refine Ok.callN (lay x.free 4 (by omega) s5) ?_;rintro _ ⟨s6,rfl,hp6⟩;refine⟨_,s6,rfl,?_⟩;simp only[J_s,D_nil];rw[ZD (by simp only[List.length_append,Zq];omega)];refine Ok.callX (lay x.fan 2 (by omega) s6) ?_;rintro _ ⟨s7,rfl,hp7⟩;refine⟨_,s7,rfl,hp7,?_⟩;simp only[J_s,D_nil];rw[ZD (by simp only[List.length_append,Zq];omega)];refine Ok.callN (lay x.dir 2 (by omega) s7) ?_;rintro _ ⟨s8,rfl,hp8⟩;refine⟨_,s8,rfl,?_⟩;simp only[J_s,D_nil];rw[ZD (by simp only[List.length_append,Zq];omega),Zc];have hP:=((((((hp1.trans hp2).trans hp3).trans hp4).trans hp5).trans hp6).trans hp7).trans hp8;unfold Zc9 supS;obtain⟨A,hA⟩: ∃A,layN (u64N x.seq) 8++layN (u64N x.blocks) 4++layN (u64N x.slots) 4++layN (u64N x.g) 4++layN (u64N x.used) 4++layN (u64N x.free) 4++layN (u64N x.fan) 2++layN (u64N x.dir) 2=A:=⟨_,rfl⟩;have hAl:A.length=32:=by rw[←hA];simp only[List.length_append,Zq]
 rw[hA];refine Zk _ (fun q y s=>∃i:Nat,y=[.str (A++lays2 (x.charts.take i)),.int .i64 (i:Int)]∧i≤x.charts.length∧x.charts.length-i≤q∧Pre st s) ?_ x.charts.length (n+1) _ _ ⟨0,by rw[List.take_zero];show _=[DV.str (A++[]),_];rw[List.append_nil];rfl,Nat.zero_le _,by omega,hP⟩ (by omega);rintro q _ s ⟨i,rfl,hi,hq,hps⟩ rec hrec;simp only[J_s,J_i,D_nil];by_cases hlt:i<x.charts.length
 ·have hsl:=hs.mono hps
  obtain⟨i1,o1,rfl⟩:=hsl.some_of (by simp[ints];omega);rw[decide_eq_true (show(i:Int)<(x.charts.length:Int) by omega),cond_true,nn_some',Ze (Zl hlt),Int.toNat_natCast,hsl.get1 (Zw hlt)];simp only[D_int];refine Ok.call (lay x.charts[i] 2 (by omega) s) ?_;rintro _ ⟨s5,rfl,hp5⟩;refine⟨_,s5,rfl,?_⟩;simp only[J_s,D_nil];rw[ZD (by rw[List.length_append,Zbb,Zq,List.length_take,hAl];omega),Zd (by omega) (by omega)];exact hrec (x.charts.length-(i+1)) _ _ (by omega) ⟨i+1,by rw[Zff _ hlt,List.append_assoc];rfl,by omega,Nat.le_refl _,hps.trans hp5⟩
 ·rw[decide_eq_false (show ¬(i:Int)<(x.charts.length:Int) by omega),cond_false]
  rw[List.take_of_length_le (by omega)];refine Ok.call (ZbT h.q99 (n+1) 7 x.charts.length (A++lays2 x.charts) (by rw[List.length_append,Zbb];omega) s (by rw[List.length_append,Zbb];omega)) ?_;rintro _ ⟨s5,rfl,hp5⟩;refine⟨_,s5,rfl,?_⟩;simp only[J_s,D_nil,Zb];exact .mk ⟨s5,rfl,hps.trans hp5⟩
end Go.Gv.F
namespace Go.Gv.F
open Go.Gv
variable {β:Type}
def ZM (a n:Nat):List Int:=(List.range n).map fun i=>((a+i:Nat):Int)
theorem Zbo (a n:Nat):(ZM a n).length=n:=by unfold ZM;simp
theorem Znb (a n:Nat):ZM a (n+1)=ZM a n++[((a+n:Nat):Int)]:=by unfold ZM;rw[List.range_succ,List.map_append];rfl
theorem Zwq {a n:Nat} {x:Int} (h:x∈ZM a n):(a:Int)≤x∧x<((a+n:Nat):Int):=by
 unfold ZM at h;obtain⟨i,hi,rfl⟩:=List.mem_map.1 h;have:=List.mem_range.1 hi;omega
def chartsB (used:List Int):Nat→Nat→MkV→MkV
 |0,_,m=>m
 |c+1,i,m=>chartsB used c (i+1) (putB m (ZnF (madeF i used)))
def mk0 (x:StV):MkV:=⟨ZO (64*x.blocks.toNat),2,List.replicate x.gens.length 0⟩
def needC (x:StV):Nat:=(x.blocks.toNat+383)/384
def ZjS (l:List Int):Int:=match l with
 |[]=>0
 |k::_=>wr64 (k+1)
def mk1 (x:StV):Nat×MkV:=dirB x.heaps (mk0 x)
def mk2 (x:StV):Nat×MkV:=seatsB x.gens x.free (mk1 x).2
def supB (x:StV) (epoch:Int):SupV:=⟨epoch,x.blocks,x.slots,x.g,(mk2 x).1,x.gens.length,ZjS x.free,(mk1 x).1,ZM (mk2 x).2.next (needC x)⟩
def usedB (x:StV):List Int:=ZM 0 ((mk2 x).2.next+needC x)
def ZdF (x:StV) (epoch place:Int):Option (List UInt8×SupV):=
 bif decide (((usedB x).length:Int)>x.blocks)|| !ZI (supB x epoch)then none else
  some (ovB (chartsB (usedB x) (needC x) 0 (mk2 x).2).B (64*(place%2).toNat) (Zc9 (supB x epoch)),supB x epoch)
theorem ZxW (n:Nat):rep n [.int .i64 0]=ints (List.replicate n 0):=by
 unfold rep ints;rw[List.map_replicate];induction n with
 |zero=>rfl
 |succ n ih=>rw[List.replicate_succ,List.flatten_cons,ih,List.replicate_succ];rfl
def ZvD:List DV:=[.slice 0 none 0,.agg [.int .i64 0,.int .i64 0,.int .i64 0,.int .i64 0,.int .i64 0,.int .i64 0,.int .i64 0,.int .i64 0,.slice 0 none 0],.bool false]
structure Built (st st':St) (B:List UInt8) (s:SupV) (ib:Nat) (q:Option (Nat×Nat)):Prop where
 new:st.length≤ib
 oct:st'[ib]? =some (some ⟨false,octs B⟩)
 own:Own [] st' q (ints s.charts)
 q: ∀b∈blk q,st.length≤b∧b≠ib
def Zs1 (st:St) (x:StV) (epoch place:Int) (o:Out (List DV)×St):Prop:=∃st',Pre st st'∧
 ((∃B s ib q,MayP x∧ZdF x epoch place=some (B,s)∧o=(.val [.slice 1 (some (ib,0)) B.length,.agg (supC s q),.bool true],st')∧Built st st' B s ib q)∨
  ((MayP x→ZdF x epoch place=none)∧o=(.val ZvD,st')))
theorem Zss (l:List HeapV):entsN l=((l.map (·.ents)).flatten).length:=by
 unfold entsN;induction l with
 |nil=>rfl
 |cons x l ih=>rw[List.map_cons,List.sum_cons,ih,List.map_cons,List.flatten_cons,List.length_append]
theorem Zj2 {Bd:Za} (h:Zel Bd) (n:Nat) (x:StV) (z1 z2 z3:Nat) (p1 p2 p3:Option (Nat×Nat)) (epoch place:Int) (st:St) (hz1:z1=2∨p1=none) (hz2:z2=1∨p2=none) (hz3:z3=1∨p3=none) (hx:StF st x p1 p2 p3) (sz:SzS x) (hpl: -9223372036854775808≤place∧place≤9223372036854775807) (hn:60000≤n):
  Ok (Zs1 st x epoch place) (run Bd n 170 [.agg (stC x z1 p1 z2 p2 z3 p3),.int .i64 epoch,.int .i64 place] st):=by
 obtain⟨n,rfl⟩: ∃k,n=k+3:=⟨n-3,by omega⟩;rw[Zf,h.eq];unfold ZeF;have ag: ∀(l:List DV) (K:List DV→List DV→M (List DV)),J.a (.agg (stC x z1 p1 z2 p2 z3 p3)::l) K=K (stC x z1 p1 z2 p2 z3 p3) l:=fun _ _=>rfl
 rw[ag];unfold stC;simp only[J_i,Zm 2 z1 p1 _ hz1,Zm 1 z2 p2 _ hz2,Zm 1 z3 p3 _ hz3,D_nil];refine Ok.call (ZtB h.q125 (n+2) x 2 1 1 p1 p2 p3 st (.inl rfl) (.inl rfl) (.inl rfl) hx.str sz (by omega)) ?_;rintro _ ⟨b,s1,rfl,hp1,hb⟩;refine⟨_,s1,rfl,?_⟩;simp only[J_b,D_nil];cases b with
 |false=>
  rw[Bool.not_false,cond_true,Zb];exact .mk ⟨s1,hp1,.inr ⟨fun hm=>(by cases hb.2 hm),rfl⟩⟩
 |true=>
 have hm:=hb.1 rfl;rw[Bool.not_true,cond_false];obtain⟨g1,g2,g3,g4,g5,g6⟩:=Zb4 hm.geom;obtain⟨bl,hbl⟩: ∃bl:Nat,x.blocks=bl:=⟨x.blocks.toNat,by omega⟩;have hgl:x.gens.length≤1792:=by have:=hm.slots;omega
 have hbt:x.blocks.toNat=bl:=by omega
 have hw:wr64 (64*x.blocks)=((64*bl:Nat):Int):=by rw[hbl,Zd (by omega) (by omega)];omega
 simp only[hw,Int.toNat_natCast];rw[Ze (by rw[Bool.and_eq_true,Bool.and_eq_true,decide_eq_true_iff,decide_eq_true_iff,decide_eq_true_iff];omega),Zu];rw[Ze (by rw[Bool.and_eq_true,Bool.and_eq_true,decide_eq_true_iff,decide_eq_true_iff,decide_eq_true_iff];omega),Zu,Zu,Zra,ZxW];have l1: ∀c,(s1++[some (c:Blk)]).length=s1.length+1:=fun c=>by simp
 have l2: ∀c d,((s1++[some (c:Blk)])++[some (d:Blk)]).length=s1.length+2:=fun c d=>by simp
 simp only[l1,l2];obtain⟨S0,hS0⟩: ∃S0,((s1++[some (⟨false,octs (ZO (64*bl))⟩:Blk)])++[some (⟨false,ints (List.replicate x.gens.length 0)⟩:Blk)])++[some (⟨false,[.slice 1 (some (s1.length,0)) (64*bl),.int .i64 2,.slice 1 (some (s1.length+1,0)) x.gens.length]⟩:Blk)]=S0:=⟨_,rfl⟩;rw[hS0];have hpS:Pre s1 S0:=by rw[←hS0];exact(((Pre.new _ _).trans (Pre.new _ _)).trans (Pre.new _ _))
 have hlS:S0.length=s1.length+3:=by rw[←hS0];simp
 have hzl:(ZO (64*bl)).length=64*bl:=by unfold ZO;simp
 have hM0:MkM S0 (s1.length+2) s1.length (s1.length+1) (mk0 x):=by
  unfold mk0;rw[hbt];refine⟨?_,?_,?_,by omega,by omega,by omega⟩
  ·rw[←hS0,hzl,List.length_replicate];simp
  ·rw[←hS0];simp
  ·rw[←hS0];simp
 clear hS0;have hpA:=hp1.trans hpS;have hxS:=hx.kp hpA.kp;obtain⟨ds,hd1,hd2⟩:=hxS.hp;have hmem: ∀g∈x.heaps,∀e∈g.ents,e∈Zs x:=fun g hg e he=>List.mem_flatten.2 ⟨g.ents,List.mem_map.2 ⟨g,hg,rfl⟩,he⟩
 have hAl:(mk0 x).At.length=x.gens.length:=List.length_replicate;have hBl:(mk0 x).B.length=64*bl:=by show(ZO _).length=_;rw[hbt,hzl]
 have hen:=Zss x.heaps;have hen2:entsN x.heaps≤50000:=by rw[hen];exact sz.e
 have hhl:=hm.few;have hn0:(mk0 x).next=2:=rfl;refine Ok.call (Zt0 h.q27 (n+2) x.heaps p1 2 ds S0 (.inl rfl) hM0 hd1 hd2 (fun g hg e he=>by
  have:=hm.range e.slot (List.mem_append.2 (.inl (List.mem_map.2 ⟨e,hmem g hg e he,rfl⟩)));rw[hAl];exact this) (fun g hg=>⟨by have:=sz.h.name g hg;omega,by have:=sz.h.name g hg;omega,by have:=sz.h.ents g hg;omega⟩) (by omega) (by omega) (by omega) (by omega) (by omega)) ?_
 rintro _ ⟨S1,rfl,hM1,hf1⟩;refine⟨_,S1,rfl,?_⟩;simp only[J_i,D_nil];obtain⟨k1,k2,k3,k4⟩:=ZwO x.heaps (mk0 x);have hm1e:dirB x.heaps (mk0 x)=mk1 x:=rfl;rw[hm1e]at hM1 k1 k2 k3 k4⊢;have hx1:=hxS.kp (hM0.kp hf1);refine Ok.call (ZpM h.q13 (n+2) x 2 1 1 p1 p2 p3 S1 (.inl rfl) (.inl rfl) (.inl rfl) hM1 hx1.gn hx1.fr (by omega) (by have:=sz.f;omega) (by omega) (by omega) (by omega) (by have:=sz.f;omega)) ?_;rintro _ ⟨S2,rfl,hM2,hf2⟩;refine⟨_,S2,rfl,?_⟩;simp only[J_i,D_nil];obtain⟨q1,q2,q3,q4⟩:=Zuy x.gens x.free (mk1 x).2;have hm2e:seatsB x.gens x.free (mk1 x).2=mk2 x:=rfl;rw[hm2e]at hM2 q1 q2 q3 q4⊢;have hfA:Fx [s1.length+2,s1.length,s1.length+1] S0 S2:=hf1.trans hf2;have hx2:=hxS.kp (hM0.kp hfA);have hNl:(mk2 x).2.next≤52000:=by omega
 have hB2:(mk2 x).2.B.length=64*bl:=by omega
 have hpre: ∀t,Fx [s1.length+2,s1.length,s1.length+1] S0 t→Pre st t:=fun t k=>by
  refine Fx.toPre ((Fx.pre [] hpA).step k fun y hy=> .inr ?_);have:=hp1.len;simp only[List.mem_cons,List.not_mem_nil,or_false]at hy;omega
 have hnk: ∀ {a:Option (Nat×Nat)},(∀b∈blk a,S0.length≤b)→∀b∈blk a,b∉[s1.length+2,s1.length,s1.length+1]:=fun hba b hb hmm=>by
  have:=hba b hb;simp only[List.mem_cons,List.not_mem_nil,or_false]at hmm;omega
 refine Ok.join fun jk1 hj1=>?_
 have A1:Ok (Zs1 st x epoch place) (jk1 [.agg [.int .i64 epoch,.int .i64 x.blocks,.int .i64 x.slots,.int .i64 x.g,.int .i64 (mk2 x).1,.int .i64 (x.gens.length:Int),.int .i64 (ZjS x.free),.int .i64 (mk1 x).1,.slice 0 none 0]] S2):=by
  rw[hj1];show Ok _ (J.a [.agg [.int .i64 epoch,.int .i64 x.blocks,.int .i64 x.slots,.int .i64 x.g,.int .i64 (mk2 x).1,.int .i64 (x.gens.length:Int),.int .i64 (ZjS x.free),.int .i64 (mk1 x).1,.slice 0 none 0]] _ S2);rw[J_a' [.int .i64 epoch,.int .i64 x.blocks,.int .i64 x.slots,.int .i64 x.g,.int .i64 (mk2 x).1,.int .i64 (x.gens.length:Int),.int .i64 (ZjS x.free),.int .i64 (mk1 x).1,.slice 0 none 0] []];simp only[J_i,Zm 1 0 none _ (.inr rfl),D_nil];refine Ok.join fun jk2 hj2=>?_
  obtain⟨N,hN⟩: ∃N,(mk2 x).2.next=N:=⟨_,rfl⟩;obtain⟨C,hC⟩: ∃C,needC x=C:=⟨_,rfl⟩;have hCe:(bl+383)/384=C:=by rw[←hC];unfold needC;rw[hbt]
  have hC9:C≤9:=by omega
  refine Zk _ (fun q y t=>∃(k z:Nat) (a:Option (Nat×Nat)),y=[.agg [.int .i64 epoch,.int .i64 x.blocks,.int .i64 x.slots,.int .i64 x.g,.int .i64 (mk2 x).1,.int .i64 (x.gens.length:Int),.int .i64 (ZjS x.free),.int .i64 (mk1 x).1,.slice z a (ZM N k).length],.int .i64 (k:Int)]∧(z=1∨a=none)∧k≤C∧C-k≤q∧MkM t (s1.length+2) s1.length (s1.length+1) (mk2 x).2∧Fx [s1.length+2,s1.length,s1.length+1] S0 t∧Own [] t a (ints (ZM N k))∧∀b∈blk a,S0.length≤b) ?_ C (n+2) _ _ ⟨0,1,none,rfl,.inr rfl,Nat.zero_le _,by omega,hM2,hfA,Own.nil ⟨S2,rfl⟩,fun _ h=>by cases h⟩ (by omega);rintro q _ t ⟨k,z,a,rfl,hz,hk,hq,hMt,hft,hoa,hba⟩ rec hrec;rw[J_a];simp only[J_i,Zm 1 z a _ hz,D_nil];rw[hbl];refine Ok.call (ZiK h.q56 (n+2) bl x.slots x.g (by omega) t (by omega)) ?_;rintro _ rfl;refine⟨_,t,rfl,?_⟩;simp only[J_i,D_nil];rw[hCe,←hbl];by_cases hlt:k<C
  ·rw[decide_eq_true (show(k:Int)<(C:Int) by omega),cond_true,Zn hMt.cell (d:= .int .i64 (mk2 x).2.next) rfl]
   simp only[D_int];have hwk:wr64 (((mk2 x).2.next:Int)+(k:Int))=((N+k:Nat):Int):=by rw[hN,Zd (by omega) (by omega)];omega
   have hw1:wr64 ((k:Int)+1)=((k+1:Nat):Int):=Zd (by omega) (by omega);rw[hwk,hw1];obtain⟨b,t2,r1,r2,r3,r4⟩:=Zd5 (β:=List DV) (lim:=8796093022208) hoa (sz:=1) (n:=(ZM N k).length) [.int .i64 ((N+k:Nat):Int)] (by omega) (by simp[ints]) rfl (by rw[Zbo];omega);refine Eq.mpr (congrArg (Ok _) (r4 _)) ?_;have hM3:=hMt.fx r3 fun y hy=>by
    have:=hba y hy;omega
   refine hrec (C-(k+1)) _ _ (by omega) ⟨k+1,1,some (b,0),?_,.inl rfl,by omega,Nat.le_refl _,hM3,hft.step r3 fun y hy=> .inr (hba y hy),?_,fun y hy=>?_⟩
   ·rw[Zbo,Zbo]
   ·rw[Znb]
    unfold ints;rw[List.map_append];exact r2
   ·rw[List.mem_singleton.1 hy]
    have:=hft.1;omega
  have hkC:k=C:=by omega
  subst hkC;rw[decide_eq_false (show ¬(k:Int)<(k:Int) by omega),cond_false,hj2];have hsup:([.int .i64 epoch,.int .i64 x.blocks,.int .i64 x.slots,.int .i64 x.g,.int .i64 (mk2 x).1,.int .i64 (x.gens.length:Int),.int .i64 (ZjS x.free),.int .i64 (mk1 x).1,.slice 1 a (ZM N k).length]:List DV)=supC (supB x epoch) a:=by
   unfold supC supB;rw[hN,hC]
  have hch:(supB x epoch).charts=ZM N k:=by unfold supB;rw[hN,hC]
  rw[hsup];show Ok _ (J.a [.agg (supC (supB x epoch) a)] _ t);rw[J_a' (supC (supB x epoch) a) []];unfold supC;simp only[J_i,J_l,D_nil];have hsup2:([.int .i64 (supB x epoch).seq,.int .i64 (supB x epoch).blocks,.int .i64 (supB x epoch).slots,.int .i64 (supB x epoch).g,.int .i64 (supB x epoch).fan,.int .i64 (supB x epoch).used,.int .i64 (supB x epoch).free,.int .i64 (supB x epoch).dir,.slice 1 a (supB x epoch).charts.length]:List DV)=supC (supB x epoch) a:=rfl;simp only[hsup2];have hcl:(supB x epoch).charts.length=k:=by rw[hch,Zbo]
  have hus:usedB x=ZM 0 (N+k):=by unfold usedB;rw[hN,hC]
  rw[hcl];refine Ok.join fun jk3 hj3=>?_
  refine Zk _ (fun q y u=>∃(i z:Nat) (c:Option (Nat×Nat)),y=[.slice z c (ZM 0 i).length,.int .i64 (i:Int)]∧(z=1∨c=none)∧i≤N+k∧N+k-i≤q∧MkM u (s1.length+2) s1.length (s1.length+1) (mk2 x).2∧Fx [s1.length+2,s1.length,s1.length+1] S0 u∧Own [] u c (ints (ZM 0 i))∧(∀b∈blk c,S0.length≤b)∧Own [] u a (ints (ZM N k))∧∀b∈blk a,b∉blk c) ?_ (N+k) (n+2) _ _ ⟨0,0,none,rfl,.inr rfl,Nat.zero_le _,by omega,hMt,hft,Own.nil ⟨t,rfl⟩,(fun _ h=>by cases h),hoa,fun _ _ h=>by cases h⟩ (by omega);rintro q2 _ u ⟨i,z,c,rfl,hz,hi,hq2,hMu,hfu,hoc,hbc,hoa2,hac⟩ rec2 hrec2;simp only[J_i,Zm 1 z c _ hz,D_nil];rw[Zn hMu.cell (d:= .int .i64 (mk2 x).2.next) rfl];simp only[D_int];have hwN:wr64 (((mk2 x).2.next:Int)+(k:Int))=((N+k:Nat):Int):=by rw[hN,Zd (by omega) (by omega)];omega
  rw[hwN];by_cases hlt:i<N+k
  ·rw[decide_eq_true (show(i:Int)<((N+k:Nat):Int) by omega),cond_true]
   have hw1:wr64 ((i:Int)+1)=((i+1:Nat):Int):=Zd (by omega) (by omega);rw[hw1];obtain⟨b,t2,r1,r2,r3,r4⟩:=Zd5 (β:=List DV) (lim:=8796093022208) hoc (sz:=1) (n:=(ZM 0 i).length) [.int .i64 (i:Int)] (by omega) (by simp[ints]) rfl (by rw[Zbo];omega);refine Eq.mpr (congrArg (Ok _) (r4 _)) ?_;refine hrec2 (N+k-(i+1)) _ _ (by omega) ⟨i+1,1,some (b,0),?_,.inl rfl,by omega,Nat.le_refl _,hMu.fx r3 fun y hy=>?_,hfu.step r3 fun y hy=> .inr (hbc y hy),?_,fun y hy=>?_,hoa2.fx r3 hac,fun y hy hm2=>?_⟩
   ·rw[Zbo,Zbo]
   ·have:=hbc y hy
    omega
   ·rw[Znb,Nat.zero_add]
    unfold ints;rw[List.map_append];exact r2
   ·rw[List.mem_singleton.1 hy]
    have:=hfu.1;omega
   ·rw[List.mem_singleton.1 hm2]at hy
    have:=Own.blk_lt hoa2 b hy;omega
  have hiN:i=N+k:=by omega
  subst hiN;rw[decide_eq_false (show ¬((N+k:Nat):Int)<((N+k:Nat):Int) by omega),cond_false,hj3];simp only[J_l,D_nil];refine Ok.join fun jk4 hj4=>?_
  have hbld:ZdF x epoch place=bif decide (((usedB x).length:Int)>x.blocks)|| !ZI (supB x epoch)then none else some (ovB (chartsB (usedB x) k 0 (mk2 x).2).B (64*(place%2).toNat) (Zc9 (supB x epoch)),supB x epoch):=by
   unfold ZdF;rw[hC]
  have A4: ∀(v:St) (bb:Bool),(decide (((usedB x).length:Int)>x.blocks)|| !ZI (supB x epoch))=bb→Pre u v→Ok (Zs1 st x epoch place) (jk4 [.bool bb] v):=by
   intro v bb hbb hpv;rw[hbb]at hbld;rw[hj4];simp only[J_b,D_nil];cases bb with
   |true=>
    rw[cond_true,Zb];exact .mk ⟨v,hpre v (hfu.trans (Fx.pre _ hpv)),.inr ⟨fun _=>hbld,rfl⟩⟩
   |false=>
   rw[cond_false];rw[cond_false]at hbld;refine Ok.join fun jk5 hj5=>?_
   obtain⟨G,hG⟩: ∃G,chartsB (usedB x) k 0 (mk2 x).2=G:=⟨_,rfl⟩;rw[hG]at hbld;refine Zk _ (fun q y w=>∃(i:Nat) (m':MkV),y=[.int .i64 (i:Int)]∧i≤k∧k-i≤q∧MkM w (s1.length+2) s1.length (s1.length+1) m'∧Fx [s1.length+2,s1.length,s1.length+1] S0 w∧Own [] w c (ints (ZM 0 (N+k)))∧Own [] w a (ints (ZM N k))∧m'.B.length=64*bl∧m'.next=N+i∧chartsB (usedB x) (k-i) i m'=G) ?_ k (n+2) _ _ ⟨0,(mk2 x).2,rfl,Nat.zero_le _,by omega,hMu.pre hpv,hfu.trans (Fx.pre _ hpv),hoc.fx (Fx.pre [] hpv) (fun _ _ h=>by cases h),hoa2.fx (Fx.pre [] hpv) (fun _ _ h=>by cases h),hB2,hN,hG⟩ (by omega);rintro q3 _ w ⟨i,m',rfl,hi,hq3,hMw,hfw,hoc3,hoa3,hB3,hN3,hgo⟩ rec3 hrec3;simp only[J_i,D_nil];by_cases hlt:i<k
   ·rw[decide_eq_true (show(i:Int)<(k:Int) by omega),cond_true]
    refine Ok.call (Zsr h.q102 (n+2) i (ZM 0 (N+k)) c 1 w (.inl rfl) hoc3.sl (by omega) (by rw[Zbo];omega) (fun y hy=>by have:=Zwq hy;omega) (by rw[Zbo];omega)) ?_;rintro _ rfl;refine⟨_,w,rfl,?_⟩;have hml:(madeF i (ZM 0 (N+k))).oct.length=48:=by unfold madeF;rw[Zo6];exact List.length_replicate
    have hol:(octs (madeF i (ZM 0 (N+k))).oct).length=48:=by rw[Zt,hml]
    show Ok _ (J.a [.agg (.int .i64 (madeF i (ZM 0 (N+k))).no::octs (madeF i (ZM 0 (N+k))).oct)] _ w);rw[J_a];simp only[J_i];rw[D_len hol];simp only[D_nil];refine Ok.call (ZsW h.q121 (n+2) (madeF i (ZM 0 (N+k))) hml w (by omega)) ?_;rintro _ ⟨w1,rfl,hpw⟩;refine⟨_,w1,rfl,?_⟩;simp only[J_s,D_nil];refine Ok.call (Ziy h.q28 (n+1) (ZnF (madeF i (ZM 0 (N+k)))) w1 (hMw.pre hpw) (by omega) (by omega)) ?_;rintro _ ⟨w2,rfl,hMw2,hfw2⟩;refine⟨_,w2,rfl,?_⟩;simp only[J_i,D_nil];rw[Zd (by omega) (by omega)];have hf3:Fx [s1.length+2,s1.length] w w2:=(Fx.pre _ hpw).trans hfw2;have hf4:Fx [s1.length+2,s1.length,s1.length+1] w w2:=hf3.mono fun y hy=>by simp only[List.mem_cons,List.not_mem_nil,or_false]at hy⊢;omega
    have eki:k-i=(k-(i+1))+1:=by omega
    rw[eki]at hgo;unfold chartsB at hgo;rw[hus]at hgo;rw[←hus]at hgo;exact hrec3 (k-(i+1)) _ _ (by omega) ⟨i+1,_,rfl,by omega,Nat.le_refl _,hMw2,hfw.trans hf4,hoc3.fx hf4 (hnk hbc),hoa3.fx hf4 (hnk hba),(Zcb _ _).trans hB3,by show m'.next+1=_;omega,by rw[←hus];exact hgo⟩
   have hik:i=k:=by omega
   subst hik;rw[Nat.sub_self]at hgo;have hmG:m'=G:=hgo;subst hmG;rw[decide_eq_false (show ¬(i:Int)<(i:Int) by omega),cond_false,hj5];simp only[D_nil];rw[Zn hMw.cell rfl];simp only[D_slice];have hrest:run Bd (n+2) 179 [.int .i64 place,.int .i64 2] w=some (.val [.int .i64 (place%2)],w):=Zk7 h.q96 (n+1) place 2 (by decide) (by decide) hpl w;rw[ZcD hrest (.refl w)];simp only[J_i,D_nil];obtain⟨pl,hpl2⟩: ∃pl:Nat,place%2=(pl:Int):=⟨(place%2).toNat,by omega⟩;have hpl3:pl<2:=by omega
   rw[hpl2,Int.toNat_natCast]at hbld;rw[hpl2];have hwp:wr64 (64*(pl:Int))=((64*pl:Nat):Int):=by rw[Zd (by omega) (by omega)];omega
   simp only[hwp,Int.toNat_natCast,Nat.mul_one];rw[Ze (by rw[Bool.and_eq_true,decide_eq_true_iff,decide_eq_true_iff];omega)];refine Ok.callX (Zt7 h.q124 (n+2) (supB x epoch) a w (by rw[hch];exact hoa3.sl) (by omega) (by omega)) ?_;rintro _ ⟨w1,rfl,hpw⟩;refine⟨_,w1,rfl,hpw,?_⟩;simp only[J_s,D_nil];have hMw1:=hMw.pre hpw;obtain⟨e1,e2,e3⟩:=hMw1.lt;show Ok _ (M.store s1.length (64*pl+0) _ _ w1);rw[Nat.add_zero,ZeZ,ZkA hMw1.bb (by rw[Zt,Zt,List.length_take];omega),ZvJ _ (by omega)];have hlB:=ZmC (B:=m'.B) (k:=64*pl) (Zc9 (supB x epoch)) (by omega);rw[Zn (i:=s1.length+2) (f:=false) (by rw[List.getElem?_set_ne (by omega)];exact hMw1.cell) rfl];simp only[D_slice,Zb];have hfin:Fx [s1.length+2,s1.length,s1.length+1] w (w1.set s1.length (some ⟨false,octs (ovB m'.B (64*pl) (Zc9 (supB x epoch)))⟩)):=(Fx.pre _ hpw).trans ((Fx.set w1 s1.length _).mono fun y hy=>by rw[List.mem_singleton.1 hy];simp);have hl1:=hp1.len;refine .mk ⟨_,hpre _ (hfw.trans hfin),.inl ⟨_,_,s1.length,a,hm,hbld,by rw[hlB],hl1,List.getElem?_set_self (by omega),?_,fun y hy=>?_⟩⟩
   ·rw[hch]
    exact hoa3.fx hfin (hnk hba)
   ·have:=hba y hy
    omega
  rw[Zbo];have hul:((usedB x).length:Int)=((N+k:Nat):Int):=by rw[hus,Zbo]
  by_cases hov:((N+k:Nat):Int)>x.blocks
  ·rw[decide_eq_true hov,cond_true]
   refine A4 u true ?_ (.refl u);rw[hul,decide_eq_true hov,Bool.true_or]
  ·rw[decide_eq_false hov,cond_false]
   refine Ok.call (ZpO h.q80 (n+2) (supB x epoch) a u (by rw[hch];exact hoa2.sl) (by omega) (by omega)) ?_;rintro _ ⟨v,rfl,hpv⟩;refine⟨_,v,rfl,?_⟩;simp only[J_b,D_nil];refine A4 v _ ?_ hpv;rw[hul,decide_eq_false hov,Bool.false_or]
 by_cases hf0:0<x.free.length
 ·obtain⟨k0,kr,hkr⟩: ∃k0 kr,x.free=k0::kr:=by
   cases hfe:x.free with
   |nil=>rw[hfe]at hf0;cases hf0
   |cons a b=>exact⟨a,b,rfl⟩
  have hg0:(ints x.free)[0]? =some (.int .i64 k0):=by rw[hkr];rfl
  obtain⟨bi,bo,e⟩:=hx2.fr.1.some_of (by simp[ints];omega);have hs3:=hx2.fr.1;rw[e]at hs3⊢;rw[decide_eq_true (show((x.free.length:Nat):Int)>0 by omega),cond_true,nn_some',Ze (show inB 0 x.free.length=true from Zl (i:=0) hf0),hs3.get hg0];simp only[D_int];rw[hkr]at A1;exact A1
 ·have hfe:x.free=[]:=List.length_eq_zero_iff.1 (by omega)
  rw[decide_eq_false (show ¬((x.free.length:Nat):Int)>0 by omega),cond_false];rw[hfe]at A1;exact A1
end Go.Gv.F
namespace Go.Gv.F
open Go.Gv
variable {β:Type}
theorem ZqI {Bd:Za} (h:Zby Bd) (n:Nat) (W:List Nat) (j:Nat) (f:Bool) (st:St) (hw:st[j]? =some (some ⟨f,Zp W⟩)) (h0:0<W.length) (hl:W.length<100000):
  Ok (fun o=>∃j' s',o=(.val [.slice 1 (some (j',0)) W.length],s')∧Pre st s'∧st.length≤j'∧s'[j']? =some (some ⟨false,Zp W⟩)) (run Bd (n+1) 263 [.slice 1 (some (j,0)) W.length] st):=by
 rw[Zf,h.eq];unfold Z8;simp only[J_l,D_nil];rw[show(some (j,0):Option (Nat×Nat)).isNone=false from rfl,cond_false,Zu];have hw1:(st++[some (⟨false,[]⟩:Blk)])[j]? =some (some ⟨f,Zp W⟩):=(Pre.new _ _).get hw;have hsl:Sl (st++[some (⟨false,[]⟩:Blk)]) (some (j,0)) (Zp W):=⟨f,Zp W,hw1,by omega,by rw[List.drop_zero,List.take_length]⟩;have hrd:=rd_eq (β:=List DV) hsl;rw[Zkr]at hrd;rw[Nat.mul_one,hrd];have hown:Own st (st++[some (⟨false,[]⟩:Blk)]) (some (st.length,0)) []:=⟨Pre.new _ _,.inr ⟨st.length,rfl,Nat.le_refl _,by simp⟩⟩;obtain⟨p,s',ho,he⟩:=hown.app (β:=List DV) (sz:=1) (n:=0) (m:=W.length) (lim:=8796093022208) (ds:=Zp W) (by omega) rfl h0 (by omega);rw[he,Zb,Nat.zero_add];rw[List.nil_append]at ho;rcases ho.2 with⟨_,e⟩|⟨i,rfl,h1,h2⟩
 ·have:=congrArg List.length e
  rw[Zkr]at this;simp only[List.length_nil]at this;omega
 ·exact .mk ⟨i,s',rfl,ho.1,h1,h2⟩
theorem ZrC {Bd:Za} (h:ZeS Bd) (n:Nat) {f:Bool} {i j m:Nat} {W:List Nat} (st:St) (hs:SetM st f i j m W) (hm:0<m):
  Ok (fun o=>∃i' j' s',o=(.val [.ptr (some (i',0))],s')∧Pre st s'∧st.length≤i'∧st.length≤j'∧i'≠j'∧SetM s' false i' j' m W) (run Bd (n+2) 241 [.ptr (some (i,0))] st):=by
 rw[Zf,h.eq];unfold ZcX;simp only[J_p,D_nil,nn_some'];have hlen:=hs.len;have hle:=hs.le;rw[Zn hs.hd rfl];simp only[D_int];rw[Zn hs.hd rfl];simp only[D_slice];refine Ok.callX (ZqI h.q2 n W j f st hs.wd (by omega) (by omega)) ?_;rintro _ ⟨j',s1,rfl,hp1,hj,hw⟩;refine⟨_,s1,rfl,hp1,?_⟩;simp only[J_l,D_nil];rw[Zu,Zb];have hjl:=(List.getElem?_eq_some_iff.1 hw).1;exact .mk ⟨s1.length,j',_,rfl,hp1.trans (Pre.new _ _),hp1.len,hj,by omega,⟨by simp,(Pre.new _ _).get hw,hs.len,hs.lt,hs.le⟩⟩
theorem Zth {Bd:Za} (h:ZfU Bd) (hz:TzOk Bd) (n:Nat) {f g:Bool} {i j m i2 j2 m2:Nat} {W V:List Nat} (st:St) (ht:Tabs st) (hs:SetM st f i j m W) (hs2:SetM st g i2 j2 m2 V) (hm:0<m) (hn:4000≤n):
  Ok (fun o=>∃i' j' s',o=(.val [.ptr (some (i',0))],s')∧Pre st s'∧SetM s' false i' j' m ((listW V).foldl (addW m) W)) (run Bd n 201 [.ptr (some (i,0)),.ptr (some (i2,0))] st):=by
 obtain⟨n,rfl⟩: ∃k,n=k+3:=⟨n-3,by omega⟩;rw[Zf,h.eq];unfold Zdq;simp only[J_p,D_nil];refine Ok.call (ZrC h.q30 n st hs hm) ?_;rintro _ ⟨i',j',s1,rfl,hp1,hi',hj',hij,hset1⟩;refine⟨_,s1,rfl,?_⟩;simp only[J_p,D_nil];refine Ok.call (Ztr h.q35 hz (n+2) s1 (ht.mono hp1) (hs2.pre hp1) (by omega)) ?_;rintro _ ⟨p,s2,rfl,hp2,hsl,hbl⟩;refine⟨_,s2,rfl,?_⟩;simp only[J_l,D_nil];have hset2:=hset1.pre hp2;have hjl:j'<s1.length:=(List.getElem?_eq_some_iff.1 hset1.wd).1;have hll:=Zhe V V.length;rw[List.take_length]at hll;have hV:=hs2.len;have hV2:=hs2.le;rw[Zi (Zeg h.q45 (n+2) (listW V) p s2 hset2 hij hsl (Off.blk fun b hb hmm=>by
  have:=hbl b hb;rw[List.mem_singleton.1 hmm]at this;omega) (by omega) (by omega))]
 simp only[D_nil,Zb];exact .mk ⟨i',j',_,rfl,Zcj (hp1.trans hp2) hj' _,hset2.add hij _ (by rw[(ZbZ m _ _).1]) ((ZbZ m _ _).2 hset2.lt)⟩
end Go.Gv.F
namespace Go.Gv.F
open Go.Gv
variable {β:Type}
def getsC (img:List UInt8) (m:Nat) (W:List Nat):List Int→Option (List ZQ)
 |[]=>some []
 |k::r=>match ZkM (ZbP img k.toNat)with
  |none=>none
  |some c=>bif mayF m k&&inW W k.toNat then none else(getsC img m W r).map (c:: ·)
def Zkj (img:List UInt8) (x:SupV) (W:List Nat):Bool:=match getsC img x.blocks.toNat W x.charts with
 |none=>false
 |some cs=>match fromF x.blocks.toNat cs with
  |none=>false
  |some F=>decide (F=(listW (setOf x.blocks.toNat x.charts)).foldl (addW x.blocks.toNat) W)
def ZiB (img:List UInt8) (x:SupV) (rm:Option (Nat×List Nat)):Bool:=match walkF (wkOf img x)with
 |some (some v)=>(match rm with
  |none=>false
  |some (m,R)=>(decide (x.blocks.toNat=m)&&decide (v.W=R))&&Zkj img x v.W)
 |_=>false
def Zy3 (s:St) (rm:Option (Nat×List Nat)) (p:Option (Nat×Nat)):Prop:=match rm with
 |none=>p=none
 |some (m,R)=>∃f i j,p=some (i,0)∧SetM s f i j m R
theorem ZyN {img:List UInt8} {x:SupV} {v:WkV} (h:walkF (wkOf img x)=some (some v)):ZI x=true∧x.blocks≤((img.length/64:Nat):Int):=by
 unfold walkF at h;cases h1:ZI x with
 |false=>
  have:(wkOf img x).sup=x:=rfl;rw[this,h1]at h;cases h
 |true=>
  refine⟨rfl,?_⟩;cases h2:decide (x.blocks≤((img.length/64:Nat):Int))with
  |true=>exact of_decide_eq_true h2
  |false=>
   have e1:(wkOf img x).sup=x:=rfl;have e2:(wkOf img x).img=img:=rfl;rw[e1,e2,h1,h2]at h;cases h
theorem ZoZ {Bd:Za} (h:Zgb Bd) (n:Nat) (a:Option (Nat×Nat)) (img:List UInt8) (x:SupV) (pc:Option (Nat×Nat)) (rm:Option (Nat×List Nat)) (pr:Option (Nat×Nat)) (s:St) (ht:Tabs s) (ha:Byt s a img) (hc:Sl s pc (ints x.charts)) (hr:Zy3 s rm pr) (hl:img.length<1000000) (hcl:x.charts.length<1000) (hn:6000≤n):
  Ok (fun o=>∃s',o=(.val [.bool (ZiB img x rm)],s')∧Pre s s') (run Bd n 173 [.slice 1 a img.length,.agg (supC x pc),.ptr pr] s):=by
 obtain⟨n,rfl⟩: ∃k,n=k+3:=⟨n-3,by omega⟩;obtain⟨R,hR⟩: ∃R,ZiB img x rm=R:=⟨_,rfl⟩;rw[hR];unfold ZiB at hR;rw[Zf,h.eq];unfold ZdU;simp only[J_l];rw[J_a' (supC x pc) [.ptr pr]];unfold supC;simp only[J_i,J_l,J_p,D_nil];have hsup:([.int .i64 x.seq,.int .i64 x.blocks,.int .i64 x.slots,.int .i64 x.g,.int .i64 x.fan,.int .i64 x.used,.int .i64 x.free,.int .i64 x.dir,.slice 1 pc x.charts.length]:List DV)=supC x pc:=rfl;rw[hsup];have hstop: ∀t,Pre s t→R=false→Ok (fun o=>∃s',o=(.val [.bool R],s')∧Pre s s') ((M.ret [.bool false]:M (List DV)) t):=fun t k e=>by
  rw[e,Zb];exact .mk ⟨t,rfl,k⟩
 refine Ok.call (Zk3 h.q109 (n+2) a img x pc s ha hc hl hcl (by omega)) ?_;intro o ho;cases hw:walkF (wkOf img x)with
 |none=>
  rw[hw]at ho hR;obtain⟨s1,rfl,hp1⟩:=ho;refine⟨_,s1,rfl,?_⟩;rw[J_a'];unfold stC;simp only[J_i,Zm 2 0 none _ (.inr rfl),Zm 1 0 none _ (.inr rfl),J_p,D_nil];rw[Zc,show(!((2:Int)==0))=true from rfl,cond_true];simp only[J_b,D_nil];rw[Zc,cond_true];simp only[J_b,D_nil];rw[cond_true];exact hstop s1 hp1 hR.symm
 |some q=>
 cases q with
 |none=>
  rw[hw]at ho hR;obtain⟨s1,rfl,hp1⟩:=ho;refine⟨_,s1,rfl,?_⟩;rw[J_a'];unfold stC;simp only[J_i,Zm 2 0 none _ (.inr rfl),Zm 1 0 none _ (.inr rfl),J_p,D_nil];rw[Zc,show(!((31:Int)==0))=true from rfl,cond_true];simp only[J_b,D_nil];rw[Zc,cond_true];simp only[J_b,D_nil];rw[cond_true];exact hstop s1 hp1 hR.symm
 |some v=>
 rw[hw]at ho hR;obtain⟨s1,z2,q2,z3,q3,z4,q4,i,j,rfl,hp1,hz2,hz3,hz4,_,hset,_,_⟩:=ho;refine⟨_,s1,rfl,?_⟩;simp only at hR;obtain⟨hsf,hble⟩:=ZyN hw;obtain⟨hgeo,_⟩:=ZlV hsf;obtain⟨g1,g2,_⟩:=Zb4 hgeo;have hsok:=(Zfg x).1 hsf;obtain⟨m,hm⟩: ∃m:Nat,x.blocks=m:=⟨x.blocks.toNat,by omega⟩;have hmn:x.blocks.toNat=m:=by omega
 rw[hmn]at hset hR;rw[J_a'];unfold stC;simp only[J_i,Zm 2 z2 q2 _ hz2,Zm 1 z3 q3 _ hz3,Zm 1 z4 q4 _ hz4,J_p,D_nil];rw[Zc,show(!((0:Int)==0))=false from rfl,cond_false];simp only[J_b,D_nil];rw[Zc];cases rm with
 |none=>
  have hpr:pr=none:=hr;subst hpr;rw[show(none:Option (Nat×Nat)).isNone=true from rfl,cond_true];simp only[J_b,D_nil];rw[cond_true];exact hstop s1 hp1 hR.symm
 |some mr=>
 obtain⟨mr,Rr⟩:=mr;obtain⟨fr,ir,jr,rfl,hsr⟩:=hr;rw[show(some (ir,0):Option (Nat×Nat)).isNone=false from rfl,cond_false];refine Ok.call (ZlC h.q36 (n+2) s1 hset (hsr.pre hp1) (by omega)) ?_;rintro _ rfl;refine⟨_,s1,rfl,?_⟩;simp only[J_b,D_nil];simp only at hR;cases hsame:(decide (m=mr)&&decide (v.W=Rr))with
 |false=>
  rw[hsame,Bool.false_and]at hR;rw[Bool.not_false,cond_true];exact hstop s1 hp1 hR.symm
 |true=>
 rw[hsame,Bool.true_and]at hR;rw[Bool.not_true,cond_false];unfold Zkj at hR;rw[hmn]at hR;refine Ok.join fun jk3 hj3=>?_
 obtain⟨G,hG⟩: ∃G,getsC img m v.W x.charts=G:=⟨_,rfl⟩;rw[hG]at hR;refine Zk _ (fun q y t=>∃(k z:Nat) (c:Option (Nat×Nat)) (acc:List ZQ),y=[.slice z c acc.length,.int .i64 (k:Int)]∧(z=49∨c=none)∧k≤x.charts.length∧x.charts.length-k≤q∧Own s1 t c (ZbL acc)∧acc.length=k∧(∀y∈acc,y.oct.length=48∧y.no<8)∧(getsC img m v.W (x.charts.drop k)).map (acc++ ·)=G) ?_ x.charts.length (n+2) _ _ ⟨0,0,none,[],rfl,.inr rfl,Nat.zero_le _,by omega,Own.nil (.refl _),rfl,(fun _ h=>by cases h),by rw[List.drop_zero,hG];cases G<;>rfl⟩ (by omega);rintro q _ t ⟨k,z,c,acc,rfl,hz,hk,hq,ho,hal,hacc,hgo⟩ rec hrec;have hpt:=ho.1;have hst:=hp1.trans hpt;simp only[J_i,Zm 49 z c _ hz,D_nil];have hct:=hc.mono hst;have hat:=ha.mono hst;by_cases hlt:k<x.charts.length
 ·obtain⟨bi,bo,rfl⟩:=hc.some_of (by simp[ints];omega)
  have hget:(ints x.charts)[k]? =some (.int .i64 x.charts[k]):=Zw hlt;have hdr:x.charts.drop k=x.charts[k]::x.charts.drop (k+1):=List.drop_eq_getElem_cons hlt;have hck:=(hsok.ch k hlt).1;rw[List.getD_eq_getElem?_getD,List.getElem?_eq_getElem hlt,Zh9,hm]at hck;have hck2:2≤x.charts[k]∧x.charts[k]<(m:Int):=hck;rw[hdr]at hgo;rw[decide_eq_true (show(k:Int)<(x.charts.length:Int) by omega),cond_true,nn_some',Ze (Zl hlt)];simp only[Int.toNat_natCast];rw[hct.get1 hget];simp only[D_int];generalize x.charts[k]=y at hck2 hgo;obtain⟨yn,hyn⟩: ∃yn:Nat,y=yn:=⟨y.toNat,by omega⟩;subst hyn;unfold getsC at hgo;rw[Int.toNat_natCast]at hgo;rw[Zi (ZlS h.q110 (n+1) a img.length yn t hl (by omega))];simp only[J_l,D_nil];have hln:(ZbP img yn).length=64:=by unfold ZbP;rw[List.length_take,List.length_drop];omega
  have hlb:Byt t (cutA true a (yn*64)) (ZbP img yn):=(hat.cutA (k:=yn*64) (by omega)).takes 64;have hcg:=ZtH h.q105 (n+2) (cutA true a (yn*64)) (ZbP img yn) t hlb (by omega) (by omega);rw[hln]at hcg;refine Ok.call hcg ?_;rintro _ ⟨t1,hp2,ho2⟩;have hw1:wr64 ((k:Int)+1)=((k+1:Nat):Int):=Zd (by omega) (by omega);cases hgc:ZkM (ZbP img yn)with
  |none=>
   rw[hgc]at ho2 hgo;simp only at ho2 hgo;subst ho2;refine⟨_,t1,rfl,?_⟩;have hol0:(octs ZjX.oct).length=48:=rfl;rw[J_a' (Zx ZjX) _];unfold Zx;simp only[J_i];rw[D_len hol0];simp only[J_b,D_nil];rw[D_len (n:=49) rfl,Zc,Bool.not_false,cond_true];simp only[J_b,D_nil];rw[cond_true];have hGn:G=none:=hgo.symm;rw[hGn]at hR;exact hstop t1 (hst.trans hp2) hR.symm
  |some cv=>
   rw[hgc]at ho2 hgo;simp only at ho2 hgo;obtain⟨rfl,h48,h8⟩:=ho2;refine⟨_,t1,rfl,?_⟩;have hol:(octs cv.oct).length=48:=by rw[Zt,h48]
   rw[J_a' (Zx cv) _];have hcc:Zx cv= .int .i64 cv.no::octs cv.oct:=rfl;rw[hcc];simp only[J_i];rw[D_len hol];simp only[J_b,D_nil];rw[D_len (n:=49) (by simp[hol]),Zc,Bool.not_true,cond_false];rw[Zi (Znc h.q46 n ((yn:Nat):Int) t1 (hset.pre (hpt.trans hp2)))];simp only[J_b,D_nil];rw[Int.toNat_natCast];cases hin:(mayF m ((yn:Nat):Int)&&inW v.W yn)with
   |true=>
    rw[hin,cond_true]at hgo;rw[cond_true];have hGn:G=none:=hgo.symm;rw[hGn]at hR;exact hstop t1 (hst.trans hp2) hR.symm
   |false=>
    rw[hin,cond_false]at hgo;rw[cond_false,D_len (n:=49) (by simp[hol]),←hcc,hw1];obtain⟨p3,t3,ho3,hkp,he⟩:=(ho.mono hp2).push2 (β:=List DV) (sz:=49) (n:=acc.length) (lim:=1256584717458) (Zx cv) (by omega) (Zjp fun y hy=>(hacc y hy).1) (ZhB h48) (by omega);refine Eq.mpr (congrArg (Ok _) (he _)) ?_;refine hrec (x.charts.length-(k+1)) _ _ (by omega) ⟨k+1,49,p3,acc++[cv],?_,.inl rfl,by omega,Nat.le_refl _,?_,?_,fun y hy=>?_,?_⟩
    ·rw[List.length_append];rfl
    ·rw[ZuL]
     have:ZbL [cv]=Zx cv:=by unfold ZbL;simp
     rw[this];exact ho3
    ·rw[List.length_append,hal];rfl
    ·rcases List.mem_append.1 hy with hy|hy
     ·exact hacc y hy
     ·rw[List.mem_singleton.1 hy];exact⟨h48,h8⟩
    ·rw[←hgo,Option.map_map]
     congr 1;funext l;simp
 ·rw[decide_eq_false (show ¬(k:Int)<(x.charts.length:Int) by omega),cond_false,hj3]
  rw[List.drop_eq_nil_of_le (by omega)]at hgo;have hGs:G=some acc:=by rw[←hgo];simp[getsC]
  rw[hGs]at hR;simp only at hR;simp only[J_l,D_nil];rw[hm];refine Ok.call (Zua h.q104 (n+2) m acc c 49 t (by omega) (.inl rfl) ho.sl hacc (by omega) (by omega)) ?_;rintro _ ⟨t1,hp2,ho2⟩;cases hfr:fromF m acc with
  |none=>
   rw[hfr]at ho2 hR;simp only at ho2 hR;subst ho2;refine⟨_,t1,rfl,?_⟩;simp only[J_p,J_b,D_nil];rw[Zc,cond_false];simp only[J_b,D_nil,Zb];exact .mk ⟨t1,by rw[hR],hst.trans hp2⟩
  |some F=>
   rw[hfr]at ho2 hR;simp only at ho2 hR;obtain⟨iF,jF,rfl,hsF⟩:=ho2;refine⟨_,t1,rfl,?_⟩;simp only[J_p,J_b,D_nil];rw[Zc,cond_true];obtain⟨t2,e2,hp3,hl3,hs3⟩:=ZkG h.q133 (n+2) m x.charts pc t1 (by omega) (hct.mono hp2) (by omega) (by omega);rw[Zi e2];simp only[J_p,D_nil];have hset2:=hset.pre ((hpt.trans hp2).trans hp3);refine Ok.call (Zth h.q37 (tzOk h.q37.q35.q7) (n+2) t2 (ht.mono ((hst.trans hp2).trans hp3)) hset2 hs3 (by omega) (by omega)) ?_;rintro _ ⟨iW,jW,t3,rfl,hp4,hsW⟩;refine⟨_,t3,rfl,?_⟩;simp only[J_p,D_nil];refine Ok.call (ZlC h.q36 (n+2) t3 (hsF.pre (hp3.trans hp4)) hsW (by omega)) ?_;rintro _ rfl;refine⟨_,t3,rfl,?_⟩;simp only[J_b,D_nil,Zb];refine .mk ⟨t3,?_,((hst.trans hp2).trans hp3).trans hp4⟩;simp only[decide_true,Bool.true_and];rw[hR]
end Go.Gv.F
namespace Go.Gv.F
open Go.Gv
end Go.Gv.F
namespace Go.Gv.F
open Go.Gv
end Go.Gv.F
