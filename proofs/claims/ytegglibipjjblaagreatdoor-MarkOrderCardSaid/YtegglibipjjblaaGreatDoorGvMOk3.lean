/- What a walk that is whole has shown: in sum. No program in sight. -/
import Derived.Test.YtegglibipjjblaaGreatDoorGvMOk2
namespace Go.Gv.F
open Go.Gv
theorem Zu3 {l:List UInt8} {x:List Int} (h:Zbz l= .dir x):x.length≤16:=by
 unfold Zbz at h
 split at h
 ·cases h
 ·split at h
  ·cases h
  ·split at h
   ·cases h
   ·split at h
    ·cases h
    ·split at h
     ·rename_i y hy
      cases h
      unfold Zl5 at hy
      split at hy
      ·cases hy
      ·rename_i k t b _
       cases e:(decide (k=6)&&(decide (t≤16)&&ZT (b.drop (2*t)))) with
       |false=>rw [e] at hy;cases hy
       |true=>
        rw [e] at hy
        cases e2:Zip (fanOf b t) with
        |false=>rw [e2] at hy;cases hy
        |true=>
         rw [e2] at hy
         cases hy
         rw [Bool.and_eq_true,Bool.and_eq_true] at e
         have:=of_decide_eq_true e.2.1
         rw [Zbu];exact this
     ·cases h
theorem Znd {m:Nat} : ∀(ks:List Int) {W:List Nat},W.length=(m+63)/64→(∀k,inW W k=true→k<m)→(∀k,inW W k=true→inW (ks.foldl (addW m) W) k=true)∧(∀k,inW (ks.foldl (addW m) W) k=true→k<m)
 |[],W,_,h=>⟨fun _ h=>h,h⟩
 |a::ks,W,hl,h=>by
  rw [List.foldl_cons]
  have h1: ∀k,inW (addW m W a) k=true→k<m:=fun k hk=>by
   rw [Zdo hl,Bool.or_eq_true] at hk
   rcases hk with hk|hk
   ·exact h k hk
   ·rw [Bool.and_eq_true] at hk
    have h2:=hk.1
    have h3:=of_decide_eq_true hk.2
    unfold mayF at h2
    rw [Bool.and_eq_true,decide_eq_true_iff,decide_eq_true_iff] at h2
    omega
  obtain ⟨a1,a2⟩:=Znd ks (W:=addW m W a) (by rw [Zci];exact hl) h1
  exact ⟨fun k hk=>a1 k (by rw [Zdo hl,hk];rfl),a2⟩
theorem Zxa (n k:Nat):inW (List.replicate n 0) k=false:=by
 unfold inW
 rw [List.getD_eq_getElem?_getD,List.getElem?_replicate]
 split
 ·unfold bitF;simp
 ·unfold bitF;simp
structure Zwv (K:WkK) (v:WkV):Prop where
 may:MayP (stOf K.sup v)
 len:v.W.length=(K.m+63)/64
 lt: ∀w∈v.W,w<18446744073709551616
 top: ∀k,inW v.W k=true→k<K.m
 in0:inW v.W 0=true
 in1:inW v.W 1=true
 nm: ∀h∈v.heaps,h.name.length≤24
theorem Zxt {K:WkK} (hK:Zba K.sup=true) (hm:K.sup.blocks=(K.m:Int)) {v:WkV} (h:walkM K=some v):Zwv K v:=by
 obtain ⟨hgeo,hu0,hu1,hf0,hf1⟩:=Zfc hK
 obtain ⟨g1,g2,g3,g4,g5,g6⟩:=ZbK hgeo
 unfold walkM at h
 cases hp:Zcg K (wk0 K.m) with
 |none=>rw [hp] at h;cases h
 |some v1=>
 rw [hp] at h
 simp only at h
 cases hfr:freeM K v1 with
 |none=>rw [hfr] at h;cases h
 |some v2=>
 rw [hfr] at h
 simp only at h
 cases hq:Zca K v2 with
 |none=>rw [hq] at h;cases h
 |some v3=>
 rw [hq] at h
 simp only at h
 cases hl:decide (((liveN v3:Nat):Int)=v3.nodes) with
 |false=>rw [hl] at h;cases h
 |true=>
 rw [hl,cond_true] at h
 have hlive:=of_decide_eq_true hl
 have hv:v=liveM v3:=(Option.some.inj h).symm
 obtain ⟨k1,k2,k3,k4⟩:=Zm0 hp
 obtain ⟨hs1,hr1⟩:=Zqk hu0 (by omega) rfl hp
 obtain ⟨ws1,so1⟩:=ZwW hp
 have hso:=so1 (fun _ h=>by cases h)
 obtain ⟨q1,q2,q3,q4⟩:=Zol hfr
 have hFW:v2.W=v1.W∧∃fl,FOk K fl v2∧ZcS K fl v2.seats=true:=by
  unfold freeM at hfr
  cases hg:ZbQ K (K.sup.used.toNat+1) (List.replicate K.sup.used.toNat false) K.sup.free v1 with
  |none=>rw [hg] at hfr;cases hfr
  |some q=>
   obtain ⟨fl,w⟩:=q
   rw [hg] at hfr
   unfold Zf1 at hfr
   simp only at hfr
   cases hre:ZcS K fl w.seats with
   |false=>rw [hre] at hfr;cases hfr
   |true=>
    rw [hre] at hfr
    cases hfr
    have hW: ∀ {f:Nat} {fl fl':List Bool} {k:Int} {v v':WkV},ZbQ K f fl k v=some (fl',v')→v'.W=v.W:=by
     intro f
     induction f with
     |zero=>intro fl fl' k v v' h;cases h
     |succ f ih=>
      intro fl fl' k v v' h
      unfold ZbQ at h
      cases e1:(k==0) with
      |true=>rw [e1] at h;cases h;rfl
      |false=>
       rw [e1,cond_false] at h
       cases e2:decide (k≤K.sup.used) with
       |false=>rw [e2] at h;cases h
       |true=>
        rw [e2,cond_true] at h
        split at h
        ·cases h
        ·rename_i x hx
         cases e3:(bif (bif !x.live then decide (x.gen<K.sup.g) else false) then !fl.getD (k-1).toNat false else false) with
         |false=>rw [e3] at h;cases h
         |true=>rw [e3,cond_true] at h;exact ih (v:= { v with free:=v.free++[k-1] }) h
    refine ⟨hW hg,fl,ZqN hr1 hs1 hf0 ⟨?_,fun i hi=>?_,?_,fun k hk=>?_⟩ hg,hre⟩
    ·rw [List.length_replicate];omega
    ·rw [k3,List.getD_eq_getElem?_getD,List.getElem?_replicate]
     constructor
     ·intro e;split at e<;>cases e
     ·intro e;cases e
    ·rw [k3];exact List.nodup_nil
    ·rw [k3] at hk;cases hk
 obtain ⟨hW2,fl,hFO,hrest⟩:=hFW
 have ws2:WS K.m v1 v2:=WS.same hW2
 have h0l:(wk0 K.m).W.length=(K.m+63)/64:=by
  show (setOf K.m [0,1]).length=_
  unfold setOf
  rw [(Z4 K.m _ _).1,List.length_replicate]
 have hbase:=Znd (m:=K.m) [0,1] (W:=List.replicate ((K.m+63)/64) 0) List.length_replicate (fun k hk=>by rw [Zxa] at hk;cases hk)
 have hb01:inW (wk0 K.m).W 0=true∧inW (wk0 K.m).W 1=true:=by
  have e:(wk0 K.m).W=addW K.m (addW K.m (List.replicate ((K.m+63)/64) 0) 0) 1:=rfl
  have hm0:mayF K.m 0=true:=by unfold mayF;rw [Bool.and_eq_true,decide_eq_true_iff,decide_eq_true_iff];omega
  have hm1:mayF K.m 1=true:=by unfold mayF;rw [Bool.and_eq_true,decide_eq_true_iff,decide_eq_true_iff];omega
  rw [e]
  constructor
  ·rw [Zdo (by rw [Zci];exact List.length_replicate),Zdo List.length_replicate,hm0]
   simp
  ·rw [Zdo (by rw [Zci];exact List.length_replicate),hm1]
   simp
 have h2l:v2.W.length=(K.m+63)/64:=by
  obtain ⟨ks,e⟩:=ws1.trans ws2
  rw [e,(Z4 K.m _ _).1];exact h0l
 have hseats2:v2.seats=v1.seats:=q1
 have hd2:DOk K v2:=by
  have hh:v2.heaps=[]:=by rw [q2,k1];rfl
  have he:ZO v2=[]:=by unfold ZO;rw [hh];rfl
  refine ⟨fun e h=>(by rw [he] at h;cases h),by rw [he];exact .nil,fun e h=>(by rw [he] at h;cases h),by rw [he,q4,k4];rfl,fun g h=>(by rw [hh] at h;cases h),fun i a b h=>(by rw [hh] at h;simp at h),h2l⟩
 have hQ:DOk K v3∧WS K.m v2 v3∧v3.heaps.length≤16∧v3.seats=v2.seats∧v3.gens=v2.gens∧v3.free=v2.free:=by
  obtain ⟨x1,x2,x3⟩:=Zmf h2l hq
  unfold Zca at hq
  cases hdir:(K.sup.dir==0) with
  |true=>
   rw [hdir] at hq
   cases hq
   refine ⟨hd2,.refl _ _,?_,rfl,rfl,rfl⟩
   rw [q2,k1];exact Nat.zero_le _
  |false=>
   rw [hdir,cond_false] at hq
   split at hq
   ·rename_i x w ht
    obtain ⟨y1,y2,y3,y4,y5,y6⟩:=ZD ht
    have hwl:w.W.length=(K.m+63)/64:=by rw [(Zdr ht).2,Zci];exact h2l
    have hh:v2.heaps=[]:=by rw [q2,k1];rfl
    have hdw:DOk K w:=by
     have hh':w.heaps=[]:=by rw [y2,hh]
     have he:ZO w=[]:=by unfold ZO;rw [hh'];rfl
     refine ⟨fun e h=>(by rw [he] at h;cases h),by rw [he];exact .nil,fun e h=>(by rw [he] at h;cases h),by rw [he,y5,q4,k4];rfl,fun g h=>(by rw [hh'] at h;cases h),fun i a b h=>(by rw [hh'] at h;simp at h),hwl⟩
    obtain ⟨z1,z2⟩:=ZqG hdw (by rw [y2,hh];rfl) hq
    obtain ⟨_,_,_,u4⟩:=ZnB hwl hq
    refine ⟨z1,(ZkF ht).trans z2,?_,x1,x2,x3⟩
    rw [u4,y2,hh]
    have:=Zu3 (Zl7 ht)
    simpa using this
   ·cases hq
 obtain ⟨hd3,ws3,hhl,xs,xg,xf⟩:=hQ
 have hgens:v3.gens=[]:=by rw [xg,q3,k2];rfl
 have hse:v3.seats=v1.seats:=xs.trans hseats2
 have hvg:v.gens=v1.seats.map (·.gen):=by rw [hv];show v3.gens++_=_;rw [hgens,hse];rfl
 have hvf:v.free=v2.free:=by rw [hv];exact xf
 have hvh:v.heaps=v3.heaps:=by rw [hv];rfl
 have hvW:v.W=v3.W:=by rw [hv];rfl
 obtain ⟨ks,hks⟩:=(ws1.trans ws2).trans ws3
 have hset:=Znd ks h0l hbase.2
 have hent:Zp (stOf K.sup v)=ZO v3:=by unfold Zp stOf ZO;rw [hvh]
 have hgen: ∀(i:Nat) (y:SeatV),v1.seats[i]? =some y→(stOf K.sup v).gens.getD i 0=y.gen:=fun i y e=>by
  show v.gens.getD i 0=_
  rw [hvg,List.getD_eq_getElem?_getD,List.getElem?_map,e];rfl
 have hgl:(stOf K.sup v).gens.length=v1.seats.length:=by show v.gens.length=_;rw [hvg,List.length_map]
 have hL: ∀e∈ZO v3,EntL K v1.seats e:=fun e he=>by have:=hd3.live e he;rwa [hse] at this
 have hfreeS: ∀k∈v2.free,0≤k∧k<(v1.seats.length:Int)∧∃y,v1.seats[k.toNat]? =some y∧y.live=false∧y.gen<K.sup.g:=fun k hk=>by have:=hFO.all k hk;rwa [hseats2] at this
 have hslotN:((ZO v3).map (·.slot)).Nodup:=by
  unfold List.Nodup
  rw [List.pairwise_map]
  exact hd3.diff
 refine ⟨⟨hgeo,?_,?_,fun g hg=>?_,?_,?_,fun k hk=>?_,fun e he=>?_,fun k hk=>?_,fun w hw=>?_,fun i hi hn=>?_⟩,?_,?_,?_,?_,?_,fun g hg=>(hd3.nm g (by rw [←hvh];exact hg)).2⟩
 ·rw [hgl];show _≤K.sup.slots;omega
 ·show v.heaps.length≤16;rw [hvh];exact hhl
 ·have hg':g∈v.heaps:=hg
  rw [hvh] at hg'
  exact (hd3.nm g hg').1
 ·show ZkL v.heaps;rw [hvh];exact hd3.ord
 ·rw [hent]
  show (_++v.free).Nodup
  rw [hvf,List.nodup_append]
  refine ⟨hslotN,hFO.nodup,fun a ha b hb e=>?_⟩
  subst e
  obtain ⟨en,hen,rfl⟩:=List.mem_map.1 ha
  obtain ⟨_,_,y,hy1,hy2,_⟩:=hL en hen
  obtain ⟨_,_,z,hz1,hz2,_⟩:=hfreeS _ hb
  rw [hy1] at hz1
  cases hz1
  rw [hy2] at hz2
  cases hz2
 ·rw [hent] at hk
  have hk':k∈(ZO v3).map (·.slot)++v.free:=hk
  rw [hvf] at hk'
  rw [hgl]
  rcases List.mem_append.1 hk' with hk'|hk'
  ·obtain ⟨en,hen,rfl⟩:=List.mem_map.1 hk'
   obtain ⟨a1,a2,_⟩:=hL en hen
   exact ⟨a1,by omega⟩
  ·obtain ⟨a1,a2,_⟩:=hfreeS k hk'
   exact ⟨a1,a2⟩
 ·rw [hent] at he
  obtain ⟨a1,a2,y,hy1,hy2,hy3⟩:=hL e he
  unfold genAt
  rw [hgen _ y hy1]
  exact hy3
 ·have hk':k∈v.free:=hk
  rw [hvf] at hk'
  obtain ⟨a1,a2,y,hy1,hy2,hy3⟩:=hfreeS k hk'
  unfold genAt
  rw [hgen _ y hy1]
  exact hy3
 ·have hw':w∈v.gens:=hw
  rw [hvg] at hw'
  obtain ⟨y,hy,rfl⟩:=List.mem_map.1 hw'
  have:=hso y hy
  unfold ZcW at this
  rw [Bool.and_eq_true] at this
  have h1:=this.1
  cases hd:decide (y.gen≥1) with
  |false=>rw [hd] at h1;cases h1
  |true=>rw [hd,cond_true] at h1;exact ⟨of_decide_eq_true hd,of_decide_eq_true h1⟩
 ·rw [hgl] at hi
  have hiy:v1.seats[i]? =some v1.seats[i]:=List.getElem?_eq_getElem hi
  generalize v1.seats[i]=y at hiy
  unfold genAt
  rw [Int.toNat_natCast,hgen i y hiy]
  show K.sup.g≤y.gen
  rw [hent] at hn
  have hn':(i:Int)∉(ZO v3).map (·.slot)++v.free:=hn
  rw [hvf,List.mem_append,not_or] at hn'
  have hre:=ZqS hrest i y (by rw [hseats2];exact hiy)
  rcases hre with hre|hre|hre
  ·exfalso
   have hnd:(((ZO v3).map (·.slot)).map (·.toNat)).Nodup:=by
    unfold List.Nodup
    rw [List.map_map,List.pairwise_map]
    refine List.Pairwise.imp_of_mem (R:=fun a b:EntV=>a.slot≠b.slot) ?_ hd3.diff
    intro a b ha hb hab e
    have h1:=(hL a ha).1
    have h2:=(hL b hb).1
    exact hab (by simp only [Function.comp] at e;omega)
   have hcount:((List.range v1.seats.length).filter fun j=>(v1.seats.getD j seat0).live).length=liveN v3:=by
    unfold liveN
    rw [hse]
    have key: ∀(l:List SeatV),((List.range l.length).filter fun j=>(l.getD j seat0).live).length=(l.filter (·.live)).length:=by
     intro l
     induction l with
     |nil=>rfl
     |cons a l ih=>
      rw [List.length_cons,List.range_succ_eq_map,List.filter_cons,List.filter_cons,List.filter_map]
      have e1:((fun j=>((a::l).getD j seat0).live)∘Nat.succ)=fun j=>(l.getD j seat0).live:=rfl
      rw [e1]
      have e2:((a::l).getD 0 seat0).live=a.live:=rfl
      rw [e2]
      cases a.live with
      |true=>simp only [if_true,List.length_cons,List.length_map,ih]
      |false=>simp only [Bool.false_eq_true,if_false,List.length_map,ih]
    exact key v1.seats
   have hsub: ∀x∈((ZO v3).map (·.slot)).map (·.toNat),x∈(List.range v1.seats.length).filter fun j=>(v1.seats.getD j seat0).live:=fun x hx=>by
    rw [List.map_map] at hx
    obtain ⟨en,hen,rfl⟩:=List.mem_map.1 hx
    obtain ⟨a1,a2,z,hz1,hz2,_⟩:=hL en hen
    rw [List.mem_filter,List.mem_range]
    refine ⟨(List.getElem?_eq_some_iff.1 hz1).1,?_⟩
    simp only [Function.comp]
    rw [List.getD_eq_getElem?_getD,hz1]
    exact hz2
   have hlen:((List.range v1.seats.length).filter fun j=>(v1.seats.getD j seat0).live).length≤(((ZO v3).map (·.slot)).map (·.toNat)).length:=by
    rw [hcount,List.length_map,List.length_map]
    have:=hd3.cnt
    omega
   have:=ZwK hnd hsub hlen i (by
    rw [List.mem_filter,List.mem_range]
    refine ⟨hi,?_⟩
    rw [List.getD_eq_getElem?_getD,hiy]
    exact hre)
   rw [List.map_map] at this
   obtain ⟨en,hen,e⟩:=List.mem_map.1 this
   refine hn'.1 (List.mem_map.2 ⟨en,hen,?_⟩)
   have h1:=(hL en hen).1
   simp only [Function.comp] at e
   omega
  ·omega
  ·exfalso
   have hfl:=hFO.len
   rw [hseats2] at hfl
   exact hn'.2 ((hFO.iff i (by omega)).1 hre)
 ·rw [hvW,hks,(Z4 K.m _ _).1];exact h0l
 ·rw [hvW,hks]
  refine (Z4 K.m _ _).2 ?_
  show ∀w∈setOf K.m [0,1],_
  refine (Z4 K.m _ _).2 fun w hw=>?_
  rw [List.eq_of_mem_replicate hw];decide
 ·rw [hvW,hks];exact hset.2
 ·rw [hvW,hks];exact hset.1 0 hb01.1
 ·rw [hvW,hks];exact hset.1 1 hb01.2
end Go.Gv.F
