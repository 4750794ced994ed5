/- A block's superblock: the program's layer 13. -/
import Derived.Test.YtegglibipjjblaaGreatDoorGvCGet
namespace Go.Gv.F
open Go.Gv
variable {β:Type}
def supOf (t:List UInt8) (n:Nat):SupV where
 seq:=numI t 0 8
 blocks:=numI t 8 4
 slots:=numI t 12 4
 g:=numI t 16 4
 fan:=numI t 28 2
 used:=numI t 20 4
 free:=numI t 24 4
 dir:=numI t 30 2
 charts:=(List.range n).map fun j=>numI t (32+2*j) 2
def getS (l:List UInt8):Option SupV:=match openB l with
 |none=>none
 |some (k,n,t)=>bif decide (k=7)&&decide (n≤8)then(bif ZI (supOf t n)&&Zz (t.drop (32+2*n))then some (supOf t n)else none)else none
structure Gs (t:List UInt8) (S R:Nat) (st s:St) (cs:List DV) (k:Nat):Prop where
 pre:Pre st s
 le:st.length≤S∧st.length≤R∧S≠R
 cl:s[S]? =some (some ⟨false,cs⟩)
 rd: ∃y,s[R]? =some (some ⟨false,[.slice 1 y (56-k)]⟩)∧FByt s y (t.drop k)
theorem Zid {Bd:Za} (h:Zdj Bd) (n:Nat) {t:List UInt8} {S R:Nat} {st s:St} {cs:List DV} {k:Nat} (g:Gs t S R st s cs k) (j:Nat) (x:Int) (hx:x=(j:Int)) (ht:t.length=56) (hj:j≤8) (hk:k+j≤56) (hn:20≤n):
  ∃s',run Bd n 334 [.ptr (some (R,0)),.int .i64 x] s=some (.val [.int .i64 (numI t k j)],s')∧Gs t S R st s' cs (k+j)∧Kp s s'∧s'.length=s.length∧∀b,b≠R→s'[b]? =s[b]? :=by
 subst hx;obtain⟨n,rfl⟩: ∃m,n=m+1:=⟨n-1,by omega⟩;obtain⟨y,hr,hf⟩:=g.rd;have hdl:(t.drop k).length=56-k:=by rw[List.length_drop,ht]
 refine⟨s.set R (some ⟨false,[.slice 1 (cutA true y j) (56-k-j)]⟩),?_,⟨Zcj g.pre g.le.2.1 _,g.le,?_,cutA true y j,?_,?_⟩,Kp.set hr _,List.length_set,fun b hb=>List.getElem?_set_ne (fun e=>hb e.symm)⟩
 ·rw[Zf,h.eq]
  unfold Zce;simp only[J_p,J_i,D_nil,nn_some'];rw[Zn (d:= .slice 1 y (56-k)) hr rfl];simp only[D_slice];rw[Ze (by rw[Bool.and_eq_true,decide_eq_true_iff,decide_eq_true_iff];omega),Int.toNat_natCast];have htk:((t.drop k).take j).length=j:=by rw[List.length_take];omega
  have hrd:=Z6 h.q94 n y ((t.drop k).take j) s (hf.byt.takes j) (by omega) (by omega);rw[htk]at hrd;rw[Zi hrd];simp only[J_i,D_nil];rw[Zn (d:= .slice 1 y (56-k)) hr rfl];simp only[D_slice];rw[Ze (by rw[Bool.and_eq_true,decide_eq_true_iff,decide_eq_true_iff];omega),Nat.mul_one,Z1 hr (by show 0<1;omega)];rfl
 ·rw[List.getElem?_set_ne (fun e=>g.le.2.2 e.symm)];exact g.cl
 ·rw[List.getElem?_set_self (List.getElem?_eq_some_iff.1 hr).1,show 56-(k+j)=56-k-j by omega]
 ·have:=(hf.kp (Kp.set hr (some ⟨false,[.slice 1 (cutA true y j) (56-k-j)]⟩))).cutA (k:=j) (by omega)
  rwa [List.drop_drop]at this
theorem Gs.store {t:List UInt8} {S R:Nat} {st s:St} {cs:List DV} {k:Nat} (g:Gs t S R st s cs k) (j:Nat) (d:DV) (hj:j<cs.length):
  ∃s',(∀K:M β,M.store S j [d] K s=K s')∧Gs t S R st s' (cs.set j d) k∧Kp s s'∧s'.length=s.length∧∀b,b≠S→s'[b]? =s[b]? :=by
 obtain⟨y,hr,hf⟩:=g.rd;refine⟨s.set S (some ⟨false,cs.set j d⟩),fun K=>Z1 g.cl hj K,⟨Zcj g.pre g.le.1 _,g.le,List.getElem?_set_self (List.getElem?_eq_some_iff.1 g.cl).1,y,?_,hf.kp (Kp.set g.cl _)⟩,Kp.set g.cl _,List.length_set,fun b hb=>List.getElem?_set_ne (fun e=>hb e.symm)⟩;rw[List.getElem?_set_ne g.le.2.2];exact hr
def zeroZ (z:Nat):List DV:=[.int .i64 0,.int .i64 0,.int .i64 0,.int .i64 0,.int .i64 0,.int .i64 0,.int .i64 0,.int .i64 0,.slice z none 0]
def ZbM:List DV:=zeroZ 0
def SupQ (st:St) (r:Option SupV) (o:Out (List DV)×St):Prop:=∃s',Pre st s'∧match r with
 |none=>∃z,o=(.val [.agg (zeroZ z),.bool false],s')
 |some x=>∃p,o=(.val [.agg (supC x p),.bool true],s')∧Sl s' p (ints x.charts)
theorem Gs.but {t:List UInt8} {S R:Nat} {st s s':St} {cs:List DV} {k:Nat} {cp:Option (Nat×Nat)} (g:Gs t S R st s cs k) (hp:Pre st s') (hk:Kp s s') (hb:But cp s s') (h1: ∀o,cp≠some (S,o)) (h2: ∀o,cp≠some (R,o)):Gs t S R st s' cs k:=by
 obtain⟨y,hr,hf⟩:=g.rd;exact⟨hp,g.le,hb S _ g.cl h1,y,hb R _ hr h2,hf.kp hk⟩
def wj (i:Nat):Nat:=[1,2,3,5,6].getD i 0
def wideC (t:List UInt8) (i:Nat):List DV:=[.int .i64 (numI t 0 8),.int .i64 (bif Nat.blt 0 i then numI t 8 4 else 0),.int .i64 (bif Nat.blt 1 i then numI t 12 4 else 0),.int .i64 (bif Nat.blt 2 i then numI t 16 4 else 0),.int .i64 0,.int .i64 (bif Nat.blt 3 i then numI t 20 4 else 0),.int .i64 (bif Nat.blt 4 i then numI t 24 4 else 0),.int .i64 0,.slice 0 none 0]
theorem ZxV (t:List UInt8) (S:Nat) {i:Nat} (h:i<5):(wideC t i).set (wj i) (.int .i64 (numI t (8+4*i) 4))=wideC t (i+1)∧wj i<9∧([.ptr (some (S,1)),.ptr (some (S,2)),.ptr (some (S,3)),.ptr (some (S,5)),.ptr (some (S,6))]:List DV)[i*1]? =some (.ptr (some (S,wj i))):=by
 match i,h with
 |0,_=>exact⟨rfl,by decide,rfl⟩
 |1,_=>exact⟨rfl,by decide,rfl⟩
 |2,_=>exact⟨rfl,by decide,rfl⟩
 |3,_=>exact⟨rfl,by decide,rfl⟩
 |4,_=>exact⟨rfl,by decide,rfl⟩
def supZ (t:List UInt8) (z:Nat) (c:Option (Nat×Nat)) (n:Nat):List DV:=[.int .i64 (numI t 0 8),.int .i64 (numI t 8 4),.int .i64 (numI t 12 4),.int .i64 (numI t 16 4),.int .i64 (numI t 28 2),.int .i64 (numI t 20 4),.int .i64 (numI t 24 4),.int .i64 (numI t 30 2),.slice z c n]
def Zf1 (t:List UInt8) (n:Nat):List Int:=(List.range n).map fun j=>numI t (32+2*j) 2
theorem Zjf (t:List UInt8) (n:Nat):(Zf1 t n).length=n:=by unfold Zf1;rw[List.length_map,List.length_range]
theorem Ztf (t:List UInt8) (n:Nat):Zf1 t (n+1)=Zf1 t n++[numI t (32+2*n) 2]:=by
 unfold Zf1;rw[List.range_succ,List.map_append];rfl
theorem ZwQ (l:List Int):(ints l).length=l.length:=by unfold ints;rw[List.length_map]
theorem Zxm (l m:List Int):ints (l++m)=ints l++ints m:=by unfold ints;rw[List.map_append]
theorem ZzC {α:Type} {m:M α} {i:Nat} {s s':St} {ds:α} (h:m s=some (.val ds,s')) (hk:s'[i]? =s[i]?):M.keep i m s=some (.val ds,s'):=by
 unfold M.keep;rw[h];simp only;exact if_pos hk
theorem ZsX {Bd:Za} (h:Zjl Bd) (n:Nat) (a:Option (Nat×Nat)) (l:List UInt8) (st:St) (ha:Byt st a l) (hl:l.length<1000000) (hn:200≤n):
  Ok (SupQ st (getS l)) (run Bd n 330 [.slice 1 a l.length] st):=by
 obtain⟨n,rfl⟩: ∃m,n=m+1:=⟨n-1,by omega⟩;obtain⟨r,hr⟩: ∃r,getS l=r:=⟨_,rfl⟩;rw[hr];rw[Zf,h.eq];unfold Zgv;simp only[J_l,D_nil,Zb6];refine Ok.call (ZbQ h.q84 n a l st ha hl (by omega)) ?_;rintro o ⟨s0,hp0,hm⟩;have no: ∀s',Pre st s'→r=none→Ok (SupQ st r) (some (Out.val [.agg ZbM,.bool false],ZR st.length s')):=fun s' hp e=>by
  rw[e];exact .mk ⟨_,ZL hp,0,rfl⟩
 cases hop:openB l with
 |none=>
  rw[hop]at hm;simp only at hm;subst hm;refine⟨_,s0,rfl,?_⟩;simp only[J_i,Zm 1 0 none _ (.inr rfl),J_b,D_nil,Zc,Bool.not_false,cond_true,ZE];exact no s0 hp0 (by rw[←hr];unfold getS;rw[hop])
 |some q=>
  obtain⟨k,c,t⟩:=q;rw[hop]at hm;simp only at hm;obtain⟨p,rfl,hf,ht,hk,hc⟩:=hm;refine⟨_,s0,rfl,?_⟩;simp only[J_i,J_l,J_b,D_nil,Bool.not_true,cond_false];refine Ok.join fun jk1 h1=>?_
  have A1: ∀b,(!decide (k=7))=b→Ok (SupQ st r) (jk1 [.bool b] s0):=by
   intro b1 e1;rw[h1];simp only[J_b,D_nil];refine Ok.join fun jk2 h2=>?_
   have A2: ∀b,(b1|| !decide (c≤8))=b→Ok (SupQ st r) (jk2 [.bool b] s0):=by
    intro b2 e2;rw[h2];simp only[J_b,D_nil];cases b2 with
    |true=>
     rw[cond_true,ZE];refine no s0 hp0 ?_;rw[←hr];unfold getS;rw[hop];simp only;have:(decide (k=7)&&decide (c≤8))=false:=by
      rw[←e1]at e2;cases hx:decide (k=7)<;>cases hy:decide (c≤8)<;>rw[hx,hy]at e2<;>first|rfl|cases e2
     rw[this,cond_false]
    |false=>
     have hkc:k=7∧c≤8:=by
      rw[←e1,Bool.or_eq_false_iff,Bool.not_eq_false',Bool.not_eq_false',decide_eq_true_iff,decide_eq_true_iff]at e2;exact e2
     have hr2:r=bif ZI (supOf t c)&&Zz (t.drop (32+2*c))then some (supOf t c)else none:=by
      rw[←hr];unfold getS;rw[hop];simp only;rw[decide_eq_true hkc.1,decide_eq_true hkc.2];rfl
     rw[cond_false,Zu,Zu];rw[show([.int .i64 0,.int .i64 0,.int .i64 0,.int .i64 0,.int .i64 0,.int .i64 0,.int .i64 0,.int .i64 0,.slice 0 none 0]:List DV)=ZbM from rfl];obtain⟨hk7,hc8⟩:=hkc;have hp2:Pre s0 (s0++[some (⟨false,ZbM⟩:Blk)]++[some (⟨false,[.slice 0 none 0]⟩:Blk)]):=(Pre.new _ _).trans (.new _ _);have hS:(s0++[some (⟨false,ZbM⟩:Blk)]++[some (⟨false,[.slice 0 none 0]⟩:Blk)])[s0.length]? =some (some ⟨false,ZbM⟩):=by
      rw[List.append_assoc,List.getElem?_append_right (Nat.le_refl _),Nat.sub_self];rfl
     have hR:(s0++[some (⟨false,ZbM⟩:Blk)]++[some (⟨false,[.slice 0 none 0]⟩:Blk)])[(s0++[some (⟨false,ZbM⟩:Blk)]).length]? =some (some ⟨false,[.slice 0 none 0]⟩):=by
      rw[List.getElem?_append_right (Nat.le_refl _),Nat.sub_self];rfl
     have hSR:s0.length≠(s0++[some (⟨false,ZbM⟩:Blk)]).length:=by rw[List.length_append];show s0.length≠s0.length+1;omega
     have hRle:s0.length≤(s0++[some (⟨false,ZbM⟩:Blk)]).length:=(Pre.new _ _).len;change Ok (SupQ st r) (M.store (s0++[some (⟨false,ZbM⟩:Blk)]).length 0 [.slice 1 p 56] _ (s0++[some (⟨false,ZbM⟩:Blk)]++[some (⟨false,[.slice 0 none 0]⟩:Blk)]));generalize (s0++[some (⟨false,ZbM⟩:Blk)]++[some (⟨false,[.slice 0 none 0]⟩:Blk)])=s2 at hp2 hS hR;generalize (s0++[some (⟨false,ZbM⟩:Blk)]).length=R at hR hSR hRle;obtain⟨S,hSe⟩: ∃S,s0.length=S:=⟨_,rfl⟩;rw[hSe]at hS hSR hRle;have hl0:=hp0.len;rw[Z1 hR (by show 0<1;omega)];have g0:Gs t S R st (s2.set R (some ⟨false,[.slice 1 p 56]⟩)) ZbM 0:=by
      refine⟨Zcj (hp0.trans hp2) (by omega) _,⟨by omega,by omega,hSR⟩,?_,p,?_,?_⟩
      ·rw[List.getElem?_set_ne (fun e=>hSR e.symm)];exact hS
      ·exact List.getElem?_set_self (List.getElem?_eq_some_iff.1 hR).1
      ·rw[List.drop_zero];exact(hf.pre hp2).kp (Kp.set hR _)
     change Ok (SupQ st r) (M.call _ _ (s2.set R (some ⟨false,[.slice 1 p 56]⟩)));generalize (s2.set R (some ⟨false,[.slice 1 p 56]⟩))=s3 at g0;obtain⟨s4,e4,g4,_⟩:=Zid h.q14 n g0 8 8 rfl ht (by omega) (by omega) (by omega);rw[Zi e4];simp only[J_i,D_nil];rw[hSe];obtain⟨s5,e5,g5,_⟩:=g4.store (β:=List DV) 0 (.int .i64 (numI t 0 8)) (by show 0<9;omega);rw[e5];have g6:Gs t S R st s5 (wideC t 0) 8:=g5;refine Ok.join fun jk3 h3=>?_
     refine Zk _ (fun q y s=>∃i:Nat,y=[.int .i64 i]∧i≤5∧5-i≤q∧Gs t S R st s (wideC t i) (8+4*i)) ?_ 5 n _ _ ⟨0,rfl,by omega,by omega,g6⟩ (by omega);rintro q _ s ⟨i,rfl,hi,hq,g⟩ rec hrec;simp only[J_i,D_nil];by_cases hlt:i<5
     ·obtain⟨w1,w2,w3⟩:=ZxV t S hlt
      rw[decide_eq_true (show(i:Int)<5 by omega),cond_true,Ze (Zl hlt),Int.toNat_natCast,D_nth w3,D_ptr];obtain⟨s',e',g',_⟩:=Zid h.q14 n g 4 4 rfl ht (by omega) (by omega) (by omega);rw[Zi e'];simp only[J_i,D_nil,nn_some'];obtain⟨s'',e'',g'',_⟩:=g'.store (β:=List DV) (wj i) (.int .i64 (numI t (8+4*i) 4)) w2;rw[e'',Zd (by omega) (by omega)];rw[w1,show 8+4*i+4=8+4*(i+1) by omega]at g'';exact hrec (5-(i+1)) _ _ (by omega) ⟨i+1,rfl,by omega,by omega,g''⟩
     ·rw[decide_eq_false (show ¬(i:Int)<5 by omega),cond_false,h3]
      have:i=5:=by omega
      subst this;simp only[D_nil];obtain⟨s7,e7,g7,_⟩:=Zid h.q14 n g 2 2 rfl ht (by omega) (by omega) (by omega);rw[Zi e7];simp only[J_i,D_nil];obtain⟨s8,e8,g8,_⟩:=Zid h.q14 n g7 2 2 rfl ht (by omega) (by omega) (by omega);rw[Zi e8];simp only[J_i,D_nil];obtain⟨s9,e9,g9,_⟩:=g8.store (β:=List DV) 4 (.int .i64 (numI t 28 2)) (by show 4<9;omega);rw[e9];obtain⟨s10,e10,g10,_⟩:=g9.store (β:=List DV) 7 (.int .i64 (numI t 30 2)) (by show 7<9;omega);rw[e10];have g11:Gs t S R st s10 (supZ t 0 none 0) 32:=g10;refine Ok.join fun jk4 h4=>?_
      refine Zk _ (fun q y s=>∃(i z:Nat) (cp:Option (Nat×Nat)),y=[.int .i64 i]∧i≤c∧c-i≤q∧Gs t S R st s (supZ t z cp i) (32+2*i)∧(z=1∨cp=none)∧Own st s cp (ints (Zf1 t i))∧(∀o,cp≠some (S,o))∧∀o,cp≠some (R,o)) ?_ c n _ _ ⟨0,0,none,rfl,by omega,by omega,g11,.inr rfl,Own.nil g11.pre,fun o e=>(by cases e),fun o e=>(by cases e)⟩ (by omega);clear hrec g g4 g5 g6 g7 g8 g9 g10 g11 e4 e5 e7 e8 e9 e10;rintro q _ s ⟨i,z,cp,rfl,hi,hq,g,hz,ho,hnS,hnR⟩ rec hrec;simp only[J_i,D_nil];by_cases hlt:i<c
      ·rw[decide_eq_true (show(i:Int)<(c:Int) by omega),cond_true,Zn (d:= .slice z cp i) g.cl rfl,ZB 1 z cp i hz]
       obtain⟨s',e',g',k',l',o'⟩:=Zid h.q14 n g 2 2 rfl ht (by omega) (by omega) (by omega);rw[ZiE (ZzC e' (o' S g.le.2.2))];simp only[J_i,D_nil];have ho':Own st s' cp (ints (Zf1 t i)):=by
        refine⟨g'.pre,ho.2.imp id fun⟨j,e1,e2,e3⟩=>⟨j,e1,e2,?_⟩⟩;rw[o' j (fun e=>hnR 0 (by rw[e1,e]))];exact e3
       obtain⟨b,s'',h0,i1,i2,i3,i4⟩:=ho'.push3 (β:=List DV) (sz:=1) (n:=i) (lim:=8796093022208) [.int .i64 (numI t (32+2*i) 2)] (by omega) (by rw[ZwQ,Zjf,Nat.mul_one]) rfl (by omega);rw[i4];have g'':=g'.but i1.1 i2 i3 hnS hnR;obtain⟨s3',e3',g3',k3',l3',o3'⟩:=g''.store (β:=List DV) 8 (.slice 1 (some (b,0)) (i+1)) (by show 8<9;omega);rw[e3',Zd (by omega) (by omega)];have hbS:b≠S:=by have:=(List.getElem?_eq_some_iff.1 g'.cl).1;omega
       have hbR:b≠R:=by
        obtain⟨y,hr',_⟩:=g'.rd;have:=(List.getElem?_eq_some_iff.1 hr').1;omega
       refine hrec (c-(i+1)) _ _ (by omega) ⟨i+1,1,some (b,0),rfl,by omega,by omega,by rw[show 32+2*(i+1)=32+2*i+2 by omega];exact g3',.inl rfl,?_,fun o e=>(by cases e;exact hbS rfl),fun o e=>(by cases e;exact hbR rfl)⟩;rcases i1.2 with⟨e,_⟩|⟨j,e,e2,e3⟩
       ·cases e
       ·cases e
        exact⟨g3'.pre,.inr ⟨b,rfl,e2,by rw[o3' b hbS,e3,Ztf,Zxm];rfl⟩⟩
      ·rw[decide_eq_false (show ¬(i:Int)<(c:Int) by omega),cond_false,h4]
       have:i=c:=by omega
       subst this;simp only[D_nil];rw[ZT g.cl (by show 0+9≤9;omega)];have hld:(List.drop 0 (supZ t z cp i)).take 9=supZ t z cp i:=rfl;rw[hld];unfold supZ;simp only[J_i,Zm 1 z cp _ hz,D_nil];have hxl:(supOf t i).charts.length=i:=Zjf t i;have hRt:=Zki h.q83 n (supOf t i) cp s ho.sl (by rw[hxl];omega) (by rw[hxl];omega);have hag:([.int .i64 (numI t 0 8),.int .i64 (numI t 8 4),.int .i64 (numI t 12 4),.int .i64 (numI t 16 4),.int .i64 (numI t 28 2),.int .i64 (numI t 20 4),.int .i64 (numI t 24 4),.int .i64 (numI t 30 2),.slice 1 cp i]:List DV)=supC (supOf t i) cp:=by
        unfold supC;rw[hxl];rfl
       rw[hag,Zi hRt];simp only[J_b,D_nil];have hpn:=Pre.new s (some (⟨false,supC (supOf t i) cp⟩:Blk));generalize (s++[some (⟨false,supC (supOf t i) cp⟩:Blk)])=sN at hpn;have gcl:=hpn.get g.cl;obtain⟨y,hr',hfy⟩:=g.rd;have gr':=hpn.get hr';refine Ok.join fun jk5 h5=>?_
       have A5: ∀b,(!(ZI (supOf t i)&&Zz (t.drop (32+2*i))))=b→Ok (SupQ st r) (jk5 [.bool b] sN):=by
        intro b e;rw[h5];simp only[J_b,D_nil];cases b with
        |true=>
         rw[cond_true,ZE];refine no sN (g.pre.trans hpn) ?_;rw[hr2];rw[Bool.not_eq_true']at e;rw[e,cond_false]
        |false=>
         rw[Bool.not_eq_false']at e;rw[e,cond_true]at hr2;rw[cond_false,ZT gcl (by show 0+9≤9;omega),hld];unfold supZ;simp only[J_i,Zm 1 z cp _ hz,D_nil,ZE];rw[hag,hr2];exact .mk ⟨_,ZL (g.pre.trans hpn),cp,rfl,(ho.sl.mono hpn).frz _⟩
       cases hsf:ZI (supOf t i)with
       |false=>
        rw[Bool.not_false,cond_true];exact A5 true (by rw[hsf];rfl)
       |true=>
        rw[Bool.not_true,cond_false,Zn (d:= .slice 1 y (56-(32+2*i))) gr' rfl];simp only[D_slice];rw[Zn (d:= .slice 1 y (56-(32+2*i))) gr' rfl];simp only[D_slice];have hdl:(t.drop (32+2*i)).length=56-(32+2*i):=by rw[List.length_drop,ht]
        have hno:=Zbf h.q39 n y (t.drop (32+2*i)) 0 (56-(32+2*i)) sN (hfy.byt.mono hpn) (by omega) (by omega) (by omega);rw[hdl]at hno;rw[show(0:Int)=((0:Nat):Int)from rfl,Zi hno];simp only[J_b,D_nil];refine A5 _ ?_;rw[hsf,Bool.true_and,List.drop_zero,List.take_of_length_le (by omega)]
   cases b1 with
   |true=>rw[cond_true];exact A2 true rfl
   |false=>
    rw[cond_false];refine A2 _ ?_;rw[Bool.false_or];by_cases h8:c≤8
    ·rw[decide_eq_true h8,decide_eq_false (show ¬(c:Int)>8 by omega)];rfl
    ·rw[decide_eq_false h8,decide_eq_true (show(c:Int)>8 by omega)];rfl
  have e7:((k:Int)==7)=decide (k=7):=by
   by_cases h7:k=7
   ·rw[decide_eq_true h7,h7];rfl
   ·rw[decide_eq_false h7];exact beq_eq_false_iff_ne.2 (by omega)
  rw[e7];exact A1 _ rfl
end Go.Gv.F
