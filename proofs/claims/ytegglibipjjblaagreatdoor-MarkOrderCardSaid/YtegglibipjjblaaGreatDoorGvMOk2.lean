/- What a walk that is whole has shown: the state may be. No program in sight. -/
import Derived.Test.YtegglibipjjblaaGreatDoorGvMOk
namespace Go.Gv.F
open Go.Gv
theorem ZwS (x y:E4):aheadF (un4 x) (un4 y)=lt4 x y:=by
 rw [Bool.eq_iff_iff,Zgc]
 unfold aheadF un4
 simp only
 split
 ·rw [decide_eq_true_iff]
  constructor
  ·intro h;exact .inl h
  ·rintro (h|⟨h,_⟩)
   ·exact h
   ·contradiction
 ·rename_i h0
  have h0:x.2.2.1=y.2.2.1:=by simpa using h0
  split
  ·rename_i h1
   rw [decide_eq_true_iff]
   constructor
   ·intro h;exact .inr ⟨h0,.inl h⟩
   ·rintro (h|⟨_,h|⟨h,_⟩⟩)
    ·omega
    ·exact h
    ·contradiction
  ·rename_i h1
   have h1:x.1=y.1:=by simpa using h1
   rw [decide_eq_true_iff]
   constructor
   ·intro h;exact .inr ⟨h0,.inr ⟨h1,h⟩⟩
   ·rintro (h|⟨_,h|⟨_,h⟩⟩)
    ·omega
    ·omega
    ·exact h
theorem ZuR: ∀ {l:List EntV},Diff l→(l.map e4).Pairwise Ap
 |[],_=> .nil
 |e::l,.cons h1 h2=>by
  refine .cons (fun y hy=>?_) (ZuR h2)
  obtain ⟨z,hz,rfl⟩:=List.mem_map.1 hy
  have:=Zsh (x:=e4 e) (y:=e4 z) (h1 z hz)
  rw [Bool.or_eq_true] at this
  exact this
theorem Zre {es:List EntV} (h:Diff es):ZeS (sortE es):=by
 intro i a b ha hb
 have hs:=Ziw (ZuR h)
 unfold sortE at ha hb
 rw [List.getElem?_map] at ha hb
 cases hx:(sort4 (es.map e4))[i]? with
 |none=>rw [hx] at ha;cases ha
 |some x=>
  cases hy:(sort4 (es.map e4))[i+1]? with
  |none=>rw [hy] at hb;cases hb
  |some y=>
   rw [hx] at ha
   rw [hy] at hb
   cases ha
   cases hb
   rw [ZwS]
   obtain ⟨h1,e1⟩:=List.getElem?_eq_some_iff.1 hx
   obtain ⟨h2,e2⟩:=List.getElem?_eq_some_iff.1 hy
   have:=(List.pairwise_iff_getElem.1 hs) i (i+1) h1 h2 (by omega)
   rw [e1,e2] at this
   exact this
def ZO (v:WkV):List EntV:=(v.heaps.map (·.ents)).flatten
structure DOk (K:WkK) (v:WkV):Prop where
 ok: ∀e∈ZO v,EntOk v e
 diff:Diff (ZO v)
 live: ∀e∈ZO v,EntL K v.seats e
 cnt:v.nodes=((ZO v).length:Nat)
 nm: ∀h∈v.heaps,(Zdk h.name=true∧ZeS h.ents)∧h.name.length≤24
 ord:ZkL v.heaps
 wl:v.W.length=(K.m+63)/64
theorem EntOk.mono {v v':WkV} {e:EntV} (h:EntOk v e) (hs:v'.seats=v.seats) (hw: ∀k,inW v.W k=true→inW v'.W k=true):EntOk v' e:=by
 obtain ⟨a,x,k,b,c,d⟩:=h
 exact ⟨a,x,k,by rw [hs];exact b,c,hw k d⟩
theorem Diff.perm {l m:List EntV} (h:Diff l) (p:m.Perm l):Diff m:=(p.pairwise_iff fun h e=>h e.symm).2 h
theorem Zw5 {K:WkK} {k:Int} {v v':WkV} {b:BlockV} (hl:v.W.length=(K.m+63)/64) (h:takeM K k v=some (b,v')): ∀x,inW v.W x=true→inW v'.W x=true:=fun x hx=>by
 rw [(Zdr h).2,Zdo hl,hx];rfl
theorem ZqG {K:WkK} : ∀ {l:List Int} {k:Nat} {v v':WkV},DOk K v→v.heaps.length=k→dirGo K k l v=some v'→DOk K v'∧WS K.m v v'
 |[],_,_,_,hd,_,h=>by cases h;exact ⟨hd,.refl _ _⟩
 |y::r,k,v,v',hd,hk,h=>by
  unfold dirGo at h
  split at h
  ·rename_i q v1 ht
   cases hn:Zj0 v1 k q.name with
   |false=>rw [hn] at h;cases h
   |true=>
    rw [hn,cond_true] at h
    obtain ⟨g1,g2,g3,g4,g5,g6⟩:=ZD ht
    have hl1:v1.W.length=(K.m+63)/64:=by rw [(Zdr ht).2,Zci];exact hd.wl
    split at h
    ·cases h
    ·rename_i es v2 hh
     obtain ⟨_,b2,b3,b4,b5,b6,b7⟩:=Zfn hl1 hh (fun _ h=>by cases h) .nil
     obtain ⟨c1,c2,c3,c4,c5⟩:=Zic hl1 hh (fun _ h=>by cases h)
     obtain ⟨d1,d2⟩:=c5 (ZO v) (fun e he=>by
      rw [List.append_nil] at he
      exact (hd.ok e he).mono g1 (Zw5 hd.wl ht)) (by rw [List.append_nil];exact hd.diff)
     obtain ⟨hqn,hq⟩:=Zk5 (Zl1 (Zl7 ht))
     unfold ZhX at hq
     rw [Bool.and_eq_true] at hq
     have hv2h:v2.heaps=v.heaps:=b5.trans g2
     have hent:ZO { v2 with heaps:=v2.heaps++[⟨q.name,sortE es⟩] } =ZO v++sortE es:=by
      unfold ZO
      simp only [hv2h,List.map_append,List.flatten_append,List.map_cons,List.map_nil,List.flatten_cons,List.flatten_nil,List.append_nil]
     have hperm:(ZO v++sortE es).Perm (ZO v++es):=(Zoc es).append_left _
     have hnew:DOk K { v2 with heaps:=v2.heaps++[⟨q.name,sortE es⟩] } :=by
      refine ⟨fun e he=>?_,?_,fun e he=>?_,?_,fun g hg=>?_,fun i a b ha hb=>?_,b3⟩
      ·rw [hent] at he
       exact d1 e (hperm.mem_iff.1 he)
      ·rw [hent]
       exact d2.perm hperm
      ·rw [hent] at he
       show EntL K v2.seats e
       rcases List.mem_append.1 he with he|he
       ·rw [c4,g1];exact hd.live e he
       ·rw [c4];exact c1 e ((Zoc es).mem_iff.1 he)
      ·rw [hent,List.length_append,ZlF]
       show v2.nodes=_
       have:=hd.cnt
       rw [List.length_nil] at c2
       omega
      ·have hg':g∈v2.heaps++[⟨q.name,sortE es⟩]:=hg
       rcases List.mem_append.1 hg' with hg'|hg'
       ·rw [hv2h] at hg';exact hd.nm g hg'
       ·rw [List.mem_singleton.1 hg'];exact ⟨⟨hq.1,Zre b2⟩,hqn⟩
      ·have ha':(v2.heaps++[⟨q.name,sortE es⟩])[i]? =some a:=ha
       have hb':(v2.heaps++[⟨q.name,sortE es⟩])[i+1]? =some b:=hb
       rw [hv2h] at ha' hb'
       by_cases hi:i+1<v.heaps.length
       ·rw [List.getElem?_append_left (by omega)] at ha'
        rw [List.getElem?_append_left hi] at hb'
        exact hd.ord i a b ha' hb'
       ·have hl:=(List.getElem?_eq_some_iff.1 hb').1
        rw [List.length_append,List.length_singleton] at hl
        have hie:i+1=v.heaps.length:=by omega
        rw [List.getElem?_append_left (by omega)] at ha'
        rw [List.getElem?_append_right (by omega),hie,Nat.sub_self] at hb'
        simp only [List.getElem?_cons_zero,Option.some.injEq] at hb'
        subst hb'
        unfold Zj0 at hn
        rw [decide_eq_false (by omega),cond_false,g2,show k-1=i by omega,ha'] at hn
        exact of_decide_eq_true hn
     obtain ⟨e1,e2⟩:=ZqG (k:=k+1) hnew (by show (v2.heaps++[_]).length=_;rw [List.length_append,hv2h,hk];rfl) h
     exact ⟨e1,(ZkF ht).trans (c3.trans ((WS.same rfl).trans e2))⟩
  ·cases h
structure FOk (K:WkK) (fl:List Bool) (v:WkV):Prop where
 len:fl.length=v.seats.length
 iff: ∀i,i<fl.length→(fl.getD i false=true↔(i:Int)∈v.free)
 nodup:v.free.Nodup
 all: ∀k∈v.free,0≤k∧k<(v.seats.length:Int)∧∃y,v.seats[k.toNat]? =some y∧y.live=false∧y.gen<K.sup.g
theorem ZqN {K:WkK} : ∀ {f:Nat} {fl fl':List Bool} {k:Int} {v v':WkV},(∀x∈v.seats,ZL x=true)→(v.seats.length:Int)=K.sup.used→0≤k→FOk K fl v→ZbQ K f fl k v=some (fl',v')→FOk K fl' v'
 |0,_,_,_,_,_,_,_,_,_,h=>by cases h
 |f+1,fl,fl',k,v,v',hr,hu,h0,hf,h=>by
  unfold ZbQ at h
  cases h1:(k==0) with
  |true=>rw [h1] at h;cases h;exact hf
  |false=>
   have hk0:k≠0:=by simpa using h1
   rw [h1,cond_false] at h
   cases h2:decide (k≤K.sup.used) with
   |false=>rw [h2] at h;cases h
   |true=>
    have hku:=of_decide_eq_true h2
    rw [h2,cond_true] at h
    split at h
    ·cases h
    ·rename_i x hx
     cases h3:(bif (bif !x.live then decide (x.gen<K.sup.g) else false) then !fl.getD (k-1).toNat false else false) with
     |false=>rw [h3] at h;cases h
     |true=>
      rw [h3,cond_true] at h
      obtain ⟨p,hp⟩: ∃p:Nat,k-1=p:=⟨(k-1).toNat,by omega⟩
      rw [hp,Int.toNat_natCast] at h hx h3
      cases hlv:x.live with
      |true=>rw [hlv] at h3;cases h3
      |false=>
       cases hgn:decide (x.gen<K.sup.g) with
       |false=>rw [hlv,hgn] at h3;cases h3
       |true=>
        rw [hlv,hgn] at h3
        simp only [Bool.not_false,cond_true,Bool.not_eq_true'] at h3
        have hpl:p<v.seats.length:=(List.getElem?_eq_some_iff.1 hx).1
        have hrx:=hr x (List.mem_of_getElem? hx)
        have hb0:0≤x.block:=by
         unfold ZL at hrx
         rw [hlv,cond_false,Bool.and_eq_true,Bool.and_eq_true] at hrx
         have:=hrx.2.1
         unfold ZbA at this
         cases hd:decide (x.block≥0) with
         |true=>exact of_decide_eq_true hd
         |false=>rw [hd] at this;cases this
        have hlen:=hf.len
        refine ZqN (v:= { v with free:=v.free++[((p:Nat):Int)] }) hr hu hb0 ⟨by rw [List.length_set];exact hf.len,fun i hi=>?_,?_,fun q hq=>?_⟩ h
        ·rw [List.length_set] at hi
         show _↔_∈v.free++[((p:Nat):Int)]
         rw [List.mem_append,List.mem_singleton,←hf.iff i hi,List.getD_eq_getElem?_getD]
         by_cases hip:i=p
         ·subst hip
          rw [List.getElem?_set_self hi]
          simp
         ·rw [List.getElem?_set_ne (by omega),←List.getD_eq_getElem?_getD]
          constructor
          ·intro e;exact .inl e
          ·rintro (e|e)
           ·exact e
           ·omega
        ·show (v.free++[((p:Nat):Int)]).Nodup
         rw [List.nodup_append]
         refine ⟨hf.nodup,(by simp),fun a ha b hb e=>?_⟩
         rw [List.mem_singleton.1 hb] at e
         subst e
         have:=(hf.iff p (by omega)).2 ha
         rw [this] at h3
         cases h3
        ·have hq':q∈v.free++[((p:Nat):Int)]:=hq
         rcases List.mem_append.1 hq' with hq'|hq'
         ·exact hf.all q hq'
         ·rw [List.mem_singleton.1 hq']
          exact ⟨by omega,by show ((p:Nat):Int)<(v.seats.length:Int);omega,x,by rw [Int.toNat_natCast];exact hx,hlv,of_decide_eq_true hgn⟩
theorem ZqS {K:WkK} : ∀ {l:List SeatV} {fl:List Bool},ZcS K fl l=true→∀(i:Nat) (y:SeatV),l[i]? =some y→y.live=true∨y.gen=K.sup.g∨fl.getD i false=true
 |[],_,_,i,y,h=>by simp at h
 |x::r,fl,h,i,y,hy=>by
  unfold ZcS at h
  rw [Bool.and_eq_true] at h
  cases i with
  |zero=>
   simp only [List.getElem?_cons_zero,Option.some.injEq] at hy
   subst hy
   have h1:=h.1
   unfold Zmi at h1
   cases hl:x.live with
   |true=>exact .inl rfl
   |false=>
    rw [hl,cond_false] at h1
    cases hg:(x.gen==K.sup.g) with
    |true=>exact .inr (.inl (eq_of_beq hg))
    |false=>rw [hg,cond_false] at h1;exact .inr (.inr h1)
  |succ i=>
   have:=ZqS h.2 i y (by simpa using hy)
   rw [List.getD_eq_getElem?_getD,List.getElem?_drop,Nat.add_comm] at this
   rw [List.getD_eq_getElem?_getD]
   exact this
theorem ZwK {α:Type} [DecidableEq α]: ∀ {l m:List α},l.Nodup→(∀x∈l,x∈m)→m.length≤l.length→∀x∈m,x∈l
 |[],m,_,_,hl,x,hx=>by
  have:m=[]:=List.length_eq_zero_iff.1 (by simpa using hl)
  rw [this] at hx;cases hx
 |a::l,m,hn,hs,hl,x,hx=>by
  rw [List.nodup_cons] at hn
  have ha:=hs a (by simp)
  have hle:=List.length_erase_of_mem ha
  by_cases e:x=a
  ·rw [e];simp
  ·have hx':x∈m.erase a:=(List.mem_erase_of_ne e).2 hx
   have:=ZwK (m:=m.erase a) hn.2 (fun y hy=>(List.mem_erase_of_ne (fun e':y=a=>hn.1 (by rw [←e'];exact hy))).2 (hs y (by simp [hy]))) (by rw [hle];simp only [List.length_cons] at hl;omega) x hx'
   simp [this]
end Go.Gv.F
