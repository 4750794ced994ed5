/- The law of what a walk tells: entries in order, handles of their own. -/
import Derived.Test.YtegglibipjjblaaGreatDoorGvMOk3
namespace Go.Gv.F
open Go.Gv
variable {β:Type}
abbrev supTy:Ty:= .pr (.i .i64) (.pr (.pr (.pr (.i .i64) (.pr (.i .i64) (.pr (.i .i64) .un))) (.pr (.i .i64) (.pr (.i .i64) (.pr (.i .i64) .un)))) (.pr (.i .i64) (.pr (.sl (.i .i64)) .un)))
theorem Zxe {s:St} {d:DV} (h:Rd s (.sl (.i .u8)) [d]): ∃a l,d= .slice 1 a (List.length l)∧Byt s a l:=by
 rcases h with h|⟨i,n,cs,h1,h2,h3,_,h5⟩
 ·exact ⟨none,[],(List.cons.inj h).1,rfl⟩
 ·have h3:cs.length=n:=by rw [h3];exact Nat.mul_one n
  have key: ∀j,j<n→∃l:UInt8,cs[j]? =some (.int .u8 l.toNat):=by
   intro j hj
   obtain ⟨l,hl,hr1,hr2⟩:=h5 j hj
   have e1:IntKind.min .u8=0:=by decide
   have e2:IntKind.max .u8=255:=by decide
   rw [e1] at hr1
   rw [e2] at hr2
   have:(cs.drop (j*Ty.size (.i .u8))).take (Ty.size (.i .u8))=[cs[j]'(by omega)]:=by
    show (cs.drop (j*1)).take 1=_
    rw [Nat.mul_one,List.drop_eq_getElem_cons (by omega)];rfl
   rw [this] at hl
   refine ⟨UInt8.ofNat l.toNat,?_⟩
   rw [List.getElem?_eq_getElem (by omega),(List.cons.inj hl).1]
   congr 2
   show l=((l.toNat%256:Nat):Int)
   omega
  have: ∃ws:List UInt8,cs=octs ws:=by
   refine ⟨cs.map fun d=>match d with| .int _ l=>UInt8.ofNat l.toNat|_=>0,?_⟩
   unfold octs
   rw [List.map_map]
   refine List.ext_getElem? fun j=>?_
   rw [List.getElem?_map]
   rcases Nat.lt_or_ge j n with hj|hj
   ·obtain ⟨l,hl⟩:=key j hj
    rw [hl]
    show _=some (DV.int .u8 (((((l.toNat:Int)).toNat%256:Nat)):Int))
    have:=l.toNat_lt
    congr 2
    omega
   ·rw [List.getElem?_eq_none (by omega)];rfl
  obtain ⟨ws,rfl⟩:=this
  refine ⟨some (i,0),ws,?_,⟨true,_,h2,by simp,by rw [List.drop_zero];exact List.take_length⟩⟩
  rw [(List.cons.inj h1).1,←h3,Zr]
  rfl
theorem ZyT {s:St} {cs:List DV} (h:Rd s supTy cs): ∃(x:SupV) (z:Nat) (p:Option (Nat×Nat)),cs=[.int .i64 x.seq,.int .i64 x.blocks,.int .i64 x.slots,.int .i64 x.g,.int .i64 x.fan,.int .i64 x.used,.int .i64 x.free,.int .i64 x.dir,.slice z p x.charts.length]∧(z=1∨p=none)∧Sl s p (ints x.charts):=by
 obtain ⟨_,_,rfl,⟨sq,rfl,_⟩,⟨_,_,rfl,⟨_,_,rfl,⟨_,_,rfl,⟨b,rfl,_⟩,⟨_,_,rfl,⟨sl,rfl,_⟩,⟨_,_,rfl,⟨g,rfl,_⟩,hu⟩⟩⟩,⟨_,_,rfl,⟨tp,rfl,_⟩,⟨_,_,rfl,⟨hi,rfl,_⟩,⟨_,_,rfl,⟨fr,rfl,_⟩,hu2⟩⟩⟩⟩,⟨_,_,rfl,⟨dr,rfl,_⟩,⟨l,_,rfl,hl,hu3⟩⟩⟩⟩:=h
 cases hu
 cases hu2
 cases hu3
 obtain ⟨d,rfl⟩: ∃d,l=[d]:=List.length_eq_one_iff.1 hl.len
 obtain ⟨p,cs,⟨z,hz,rfl⟩,g1,_⟩:=Zyg hl
 exact ⟨⟨sq,b,sl,g,tp,hi,fr,dr,cs⟩,z,p,rfl,hz,g1⟩
theorem ZtE {α:Type} [DecidableEq α]: ∀ {l m:List α},l.Nodup→(∀x∈l,x∈m)→l.length≤m.length
 |[],m,_,_=>Nat.zero_le _
 |a::l,m,hn,hs=>by
  rw [List.nodup_cons] at hn
  have ha:=hs a (by simp)
  have hle:=List.length_erase_of_mem ha
  have hpos:=List.length_pos_of_mem ha
  have:=ZtE (m:=m.erase a) hn.2 fun y hy=>(List.mem_erase_of_ne (fun e':y=a=>hn.1 (by rw [←e'];exact hy))).2 (hs y (by simp [hy]))
  rw [List.length_cons]
  omega
theorem Zx6 {y:StV} (h:MayP y):(Zp y).length≤y.gens.length∧y.free.length≤y.gens.length:=by
 obtain ⟨n1,n2,_⟩:=List.nodup_append.1 h.nodup
 have hr: ∀(l:List Int),l.Nodup→(∀k∈l,0≤k∧k<(y.gens.length:Int))→l.length≤y.gens.length:=fun l hn hl=>by
  have:=ZtE (m:=(List.range y.gens.length).map fun i=>((i:Nat):Int)) hn fun k hk=>by
   have:=hl k hk
   exact List.mem_map.2 ⟨k.toNat,List.mem_range.2 (by omega),by omega⟩
  rwa [List.length_map,List.length_range] at this
 have a:=hr _ n1 fun k hk=>h.range k (List.mem_append.2 (.inl hk))
 have b:=hr _ n2 fun k hk=>h.range k (List.mem_append.2 (.inr hk))
 rw [List.length_map] at a
 exact ⟨a,b⟩
theorem Zy9 {y:StV} (h:MayP y) (hn: ∀g∈y.heaps,g.name.length≤24):SzS y:=by
 obtain ⟨a,b⟩:=Zx6 h
 obtain ⟨_,_,_,g4,_⟩:=ZbK h.geom
 have hs:=h.slots
 have hf:=h.few
 refine ⟨⟨by omega,fun g hg=>?_,fun g hg=>by have:=hn g hg;omega⟩,by omega,by omega,by omega⟩
 have:g.ents.length≤(Zp y).length:=by
  unfold Zp
  have: ∀(l:List HeapV),g∈l→g.ents.length≤((l.map (·.ents)).flatten).length:=by
   intro l
   induction l with
   |nil=>intro h;cases h
   |cons x l ih=>
    intro hm
    rw [List.map_cons,List.flatten_cons,List.length_append]
    rcases List.mem_cons.1 hm with rfl|hm
    ·omega
    ·have:=ih hm;omega
  exact this _ hg
 omega
theorem ZyQ {l:List HeapV} {i k:Nat} {g:HeapV} {e:EntV} (hg:l[i]? =some g) (he:g.ents[k]? =some e):(ZR l)[(ZR (l.take i)).length+k]? =some e:=by
 have h1:ZR l=ZR (l.take (i+1))++ZR (l.drop (i+1)):=by
  unfold ZR
  rw [←List.flatten_append,←List.map_append,List.take_append_drop]
 have hk:=(List.getElem?_eq_some_iff.1 he).1
 rw [h1,Zjg l hg,List.getElem?_append_left (by rw [List.length_append];omega),List.getElem?_append_right (by omega),Nat.add_sub_cancel_left]
 exact he
theorem law_law26_MarkOrder {Bd:Za} (h:Zhr Bd) (s:St) (args:List DV) (_:Frz s) (ht:Tabs s) (hr:RdA s [(false,.sl (.i .u8)),(true,supTy)] args): ∃n s',run Bd n 182 args s=some (.val [.bool true],s'):=by
 obtain ⟨_,d,_,hx,hr2,rfl,hd⟩:=hr
 obtain ⟨_,e,_,hy,hr3,rfl,he⟩:=hr2
 cases hr3
 have hd:_=[d]:=hd
 subst hd
 obtain ⟨a,l,rfl,hby⟩:=Zxe hx
 obtain ⟨x,z,pc,rfl,hz,hcs⟩:=ZyT hy
 have he:e= .agg [.int .i64 x.seq,.int .i64 x.blocks,.int .i64 x.slots,.int .i64 x.g,.int .i64 x.fan,.int .i64 x.used,.int .i64 x.free,.int .i64 x.dir,.slice z pc x.charts.length]:=he
 subst he
 refine Zyz (n:=100000) ?_
 rw [Zf,h.eq]
 unfold ZcM
 simp only [J_l]
 rw [J_a']
 simp only [J_i,Zm 1 z pc _ hz,D_nil]
 refine Ok.call (Zj9 h.q61 99999 (by omega) s ht) ?_
 rintro _ ⟨s1,rfl,hp1⟩
 refine ⟨_,s1,rfl,?_⟩
 have ht1:=ht.mono hp1
 simp only [J_b,D_nil]
 have wake: ∀s2,Pre s1 s2→Ok (fun o:Out (List DV)×St=>∃s',o=(.val [DV.bool true],s')) (M.call (run Bd 99999 169 []) (fun ds=>J.b ds fun x7 ds=>D.nil ds (M.ret [DV.bool x7])) s2):=by
  intro s2 hp2
  refine Ok.call (Zj9 h.q61 99999 (by omega) s2 (ht1.mono hp2)) ?_
  rintro _ ⟨s3,rfl,hp3⟩
  refine ⟨_,s3,rfl,?_⟩
  simp only [J_b,D_nil,Zb]
  exact .mk ⟨s3,rfl⟩
 rw [Zc,Bool.not_true,cond_false]
 by_cases hbig:((l.length:Nat):Int)>6400
 ·rw [decide_eq_true hbig]
  simp only [J_b,D_nil]
  rw [Zc,cond_true]
  simp only [J_b,D_nil]
  rw [cond_true]
  exact wake s1 (.refl _)
 rw [decide_eq_false hbig]
 simp only [J_b,D_nil]
 rw [Zc,cond_false]
 by_cases hch:((x.charts.length:Nat):Int)>60
 ·rw [decide_eq_true hch]
  simp only [J_b,D_nil]
  rw [cond_true]
  exact wake s1 (.refl _)
 rw [decide_eq_false hch]
 simp only [J_b,D_nil]
 rw [cond_false]
 refine Ok.call (Zhc h.q104 99999 a l x pc s1 (hby.mono hp1) (hcs.mono hp1) (by omega) (by omega) (by omega)) ?_
 intro o ho
 cases hw:walkF (wkOf l x) with
 |none=>
  rw [hw] at ho
  obtain ⟨s2,rfl,hp2⟩:=ho
  refine ⟨_,s2,rfl,?_⟩
  rw [J_a']
  unfold stC
  simp only [J_i,Zm 2 0 none _ (.inr rfl),Zm 1 0 none _ (.inr rfl),J_p,D_nil]
  rw [show (!((2:Int)==0))=true from rfl,cond_true,Zb]
  exact .mk ⟨s2,rfl⟩
 |some q=>
 cases q with
 |none=>
  rw [hw] at ho
  obtain ⟨s2,rfl,hp2⟩:=ho
  refine ⟨_,s2,rfl,?_⟩
  rw [J_a']
  unfold stC
  simp only [J_i,Zm 2 0 none _ (.inr rfl),Zm 1 0 none _ (.inr rfl),J_p,D_nil]
  rw [show (!((31:Int)==0))=true from rfl,cond_true,Zb]
  exact .mk ⟨s2,rfl⟩
 |some v=>
 rw [hw] at ho
 obtain ⟨s2,z2,q2,z3,q3,z4,q4,iR,jR,rfl,hp2,hz2,hz3,hz4,hR,hset⟩:=ho
 refine ⟨_,s2,rfl,?_⟩
 obtain ⟨hsf,hble⟩:=ZsE hw
 obtain ⟨hgeo,_⟩:=Zfc hsf
 obtain ⟨g1,g2,_⟩:=ZbK hgeo
 have hwm:walkM (wkOf l x)=some v:=by
  unfold walkF at hw
  have e1:(wkOf l x).sup=x:=rfl
  have e2:(wkOf l x).img=l:=rfl
  rw [e1,e2,hsf,cond_true,decide_eq_true hble,cond_true] at hw
  exact Option.some.inj hw
 have hKm:(wkOf l x).m=x.blocks.toNat:=rfl
 have hok:Zwv (wkOf l x) v:=Zxt hsf (by show x.blocks=_;rw [hKm];omega) hwm
 have hmay:MayP (stOf x v):=hok.may
 have hszs:SzS (stOf x v):=Zy9 hmay hok.nm
 obtain ⟨Y,hY⟩: ∃Y,stOf x v=Y:=⟨_,rfl⟩
 have hYb:Y.blocks=x.blocks:=by rw [←hY];rfl
 rw [hY] at hR hmay hszs⊢
 have hgn:Y.gens.length≤1792:=by
  obtain ⟨_,_,_,g4,_⟩:=ZbK hmay.geom
  have:=hmay.slots
  omega
 rw [J_a']
 unfold stC
 simp only [J_i,Zm 2 z2 q2 _ hz2,Zm 1 z3 q3 _ hz3,Zm 1 z4 q4 _ hz4,J_p,D_nil]
 rw [show (!((0:Int)==0))=false from rfl,cond_false]
 rw [Ze (by rw [Bool.and_eq_true,Bool.and_eq_true,decide_eq_true_iff,decide_eq_true_iff,decide_eq_true_iff];omega),Zx]
 simp only [Int.toNat_natCast]
 have hrep:rep Y.gens.length [.bool false]=(List.replicate Y.gens.length false).map .bool:=by
  unfold rep
  rw [List.map_replicate]
  generalize Y.gens.length=n
  induction n with
  |zero=>rfl
  |succ n ih=>rw [List.replicate_succ,List.flatten_cons,ih,List.replicate_succ];rfl
 rw [hrep]
 obtain ⟨b,hb⟩: ∃b,s2.length=b:=⟨_,rfl⟩
 rw [hb]
 obtain ⟨ds,hs,hh⟩:=hR.hp
 have hE:Zp Y=ZR Y.heaps:=rfl
 have hnod:((Zp Y).map (·.slot)).Nodup:=(List.nodup_append.1 hmay.nodup).1
 let I:Nat→St→Prop:=fun p t=>Pre s2 t∧∃L:List Bool,L.length=Y.gens.length∧t[b]? =some (some ⟨false,L.map .bool⟩)∧∀j:Nat,L.getD j false=true→∃(r:Nat) (e:EntV),r<p∧(Zp Y)[r]? =some e∧e.slot=(j:Int)
 refine Ok.join fun jk3 hj3=>?_
 refine Zl _ (fun q y t=>∃i:Nat,y=[.int .i64 (i:Int)]∧i≤Y.heaps.length∧Y.heaps.length-i≤q∧I (ZR (Y.heaps.take i)).length t) ?_ Y.heaps.length 99999 _ _ ⟨0,rfl,Nat.zero_le _,by omega,Pre.new _ _,List.replicate Y.gens.length false,List.length_replicate,by rw [←hb];simp,fun j hj=>by
  rw [List.getD_eq_getElem?_getD,List.getElem?_replicate] at hj
  split at hj<;>cases hj⟩ (by have:=hszs.h.len;omega)
 rintro q _ t ⟨i,rfl,hi,hq,hI⟩ rec hrec
 simp only [J_i,D_nil]
 have hw1:wr64 ((i:Int)+1)=((i+1:Nat):Int):=Zd (by omega) (by have:=hszs.h.len;omega)
 by_cases hlt:i<Y.heaps.length
 ·obtain ⟨i1,o1,rfl⟩:=hs.some_of (by rw [hh.len];omega)
  have e1:Y.heaps[i]? =some Y.heaps[i]:=List.getElem?_eq_getElem hlt
  generalize Y.heaps[i]=g at e1
  have hge:=hszs.h.ents g (List.mem_of_getElem? e1)
  rw [decide_eq_true (show (i:Int)<(Y.heaps.length:Int) by omega),cond_true]
  refine Ok.join fun jk7 hj7=>?_
  rw [nn_some',Ze (Zk hlt),Int.toNat_natCast]
  obtain ⟨zx,px,hzx,_,_,hg2,hsx⟩:=hh.get e1
  have hld: ∀K:DV→M (List DV),M.load1 i1 (i*2+o1+1) K t=K (.slice zx px g.ents.length) t:=fun K=>by
   have:=(hs.mono hI.1).get hg2 K
   rw [←this]
   congr 1
   omega
  rw [hld,ZV 4 zx px _ hzx]
  refine Ok.join fun jk8 hj8=>?_
  refine Zl _ (fun q y t=>∃k:Nat,y=[.int .i64 (k:Int)]∧k≤g.ents.length∧g.ents.length-k≤q∧I ((ZR (Y.heaps.take i)).length+k) t) ?_ g.ents.length 99999 _ _ ⟨0,rfl,Nat.zero_le _,by omega,hI⟩ (by omega)
  rintro q2 _ u ⟨k,rfl,hk,hq2,hI2⟩ rec2 hrec2
  simp only [J_i,D_nil]
  by_cases hlk:k<g.ents.length
  ·obtain ⟨hpu,L,hL1,hL2,hL3⟩:=hI2
   have hpa2:=hsx.mono hpu
   have hRu:=hR.pre hpu
   obtain ⟨i3,o3,rfl⟩:=hpa2.some_of (by rw [Zv];omega)
   have e2:g.ents[k]? =some g.ents[k]:=List.getElem?_eq_getElem hlk
   obtain ⟨en,hen⟩: ∃en,g.ents[k]=en:=⟨_,rfl⟩
   rw [hen] at e2
   have hat:(Zp Y)[(ZR (Y.heaps.take i)).length+k]? =some en:=ZyQ e1 e2
   have hmem:en∈Zp Y:=List.mem_of_getElem? hat
   obtain ⟨hr0,hr1⟩:=hmay.range en.slot (List.mem_append.2 (.inl (List.mem_map.2 ⟨en,hmem,rfl⟩)))
   obtain ⟨ks,hks⟩: ∃ks:Nat,en.slot=ks:=⟨en.slot.toNat,by omega⟩
   have hgen:=hmay.gen en hmem
   rw [decide_eq_true (show (k:Int)<(g.ents.length:Int) by omega),cond_true,nn_some',Ze (Zk hlk)]
   simp only [Int.toNat_natCast]
   rw [ZqT hpa2 e2]
   simp only [J_i,D_nil]
   rw [Zc,decide_eq_false (show ¬en.slot<0 by omega),cond_false,decide_eq_false (show ¬en.slot≥(Y.gens.length:Int) by omega)]
   simp only [J_b,D_nil]
   have hkl:ks<L.length:=by omega
   have hLk:L[ks]=false:=by
    cases hLv:L[ks] with
    |false=>rfl
    |true=>
     exfalso
     obtain ⟨r,e',hr,he',hse⟩:=hL3 ks (by rw [List.getD_eq_getElem?_getD,List.getElem?_eq_getElem hkl,hLv];rfl)
     have h1:((Zp Y).map (·.slot))[r]? =some (ks:Int):=by rw [List.getElem?_map,he',←hse];rfl
     have h2:((Zp Y).map (·.slot))[(ZR (Y.heaps.take i)).length+k]? =some (ks:Int):=by rw [List.getElem?_map,hat,←hks];rfl
     obtain ⟨l1,f1⟩:=List.getElem?_eq_some_iff.1 h1
     obtain ⟨l2,f2⟩:=List.getElem?_eq_some_iff.1 h2
     have:=(List.pairwise_iff_getElem.1 hnod) r ((ZR (Y.heaps.take i)).length+k) l1 l2 hr
     exact this (by rw [f1,f2])
   rw [Zc,cond_false,hks,Ze (Zk (show ks<Y.gens.length by omega)),Int.toNat_natCast,Nat.mul_one,Zn hL2 (d:= .bool false) (by rw [List.getElem?_map,List.getElem?_eq_getElem hkl,hLk];rfl)]
   simp only [D_bool,J_b,D_nil]
   obtain ⟨i6,o6,hq3⟩:=hRu.gn.some_of (by simp [ints];omega)
   have hgn2:=hRu.gn
   rw [hq3] at hgn2⊢
   have hkg:ks<Y.gens.length:=by omega
   rw [Zc,cond_false,nn_some',Ze (Zk hkg)]
   have hgg:(ints Y.gens)[ks]? =some (.int .i64 en.gen):=by
    rw [Zu hkg,←hgen]
    unfold genAt
    rw [hks,Int.toNat_natCast,List.getD_eq_getElem?_getD,List.getElem?_eq_getElem hkg]
    rfl
   rw [hgn2.get hgg]
   simp only [D_int,J_b,D_nil]
   rw [show (en.gen==en.gen)=true from beq_self_eq_true _,Bool.not_true,Zc,cond_false]
   refine Ok.join fun jk13 hj13=>?_
   have hA:Ok (fun o:Out (List DV)×St=>∃s',o=(.val [DV.bool true],s')) (jk13 [.bool false] u):=by
    rw [hj13]
    simp only [J_b,D_nil]
    rw [cond_false,Ze (Zk (show ks<Y.gens.length by omega)),Zbw hL2 (by rw [List.length_map];exact hkl),Zd (by omega) (by omega)]
    refine hrec2 (g.ents.length-(k+1)) _ _ (by omega) ⟨k+1,rfl,by omega,Nat.le_refl _,Ze0 hpu (by omega) _,L.set ks true,by rw [List.length_set];exact hL1,?_,fun j hj=>?_⟩
    ·rw [List.getElem?_set_self (List.getElem?_eq_some_iff.1 hL2).1,List.map_set]
    ·by_cases hjk:j=ks
     ·subst hjk
      exact ⟨(ZR (Y.heaps.take i)).length+k,en,by omega,hat,hks⟩
     ·rw [List.getD_eq_getElem?_getD,List.getElem?_set_ne (by omega),←List.getD_eq_getElem?_getD] at hj
      obtain ⟨r,e',hr,he',hse⟩:=hL3 j hj
      exact ⟨r,e',by omega,he',hse⟩
   by_cases hk0:0<k
   ·rw [decide_eq_true (show (k:Int)>0 by omega),cond_true,nn_some']
    have hwk:wr64 ((k:Int)-1)=((k-1:Nat):Int):=by rw [Zd (by omega) (by omega)];omega
    have e3:g.ents[k-1]? =some g.ents[k-1]:=List.getElem?_eq_getElem (by omega)
    rw [hwk,Ze (Zk (show k-1<g.ents.length by omega)),Int.toNat_natCast,ZeV hpa2 e3]
    have hah:=(hmay.right g (List.mem_of_getElem? e1)).2 (k-1) g.ents[k-1] en e3 (by rw [show k-1+1=k by omega];exact e2)
    generalize g.ents[k-1]=ep at hah
    unfold entC
    simp only [J_i,D_nil]
    rw [nn_some',Ze (Zk hlk),ZeV hpa2 e2]
    unfold entC
    simp only [J_i,D_nil]
    have hcall:=ZjN h.q72 99998 ep en u
    unfold entC at hcall
    rw [Zi hcall,hah]
    simp only [J_b,D_nil]
    exact hA
   ·rw [decide_eq_false (show ¬(k:Int)>0 by omega),cond_false]
    exact hA
  ·rw [decide_eq_false (show ¬(k:Int)<(g.ents.length:Int) by omega),cond_false,hj8]
   simp only [D_nil]
   rw [hj7]
   simp only [D_nil]
   rw [hw1]
   refine hrec (Y.heaps.length-(i+1)) _ _ (by omega) ⟨i+1,rfl,by omega,Nat.le_refl _,?_⟩
   have:k=g.ents.length:=by omega
   rw [Zjg _ e1,List.length_append,←this]
   exact hI2
 ·rw [decide_eq_false (show ¬(i:Int)<(Y.heaps.length:Int) by omega),cond_false,hj3]
  simp only [D_nil]
  have hst:=hR.pre hI.1
  have hse:=hset.pre hI.1
  refine Ok.call (Zln h.q118 99999 Y 2 1 1 q2 q3 q4 t (.inl rfl) (.inl rfl) (.inl rfl) hst hszs (by omega)) ?_
  rintro _ ⟨c,t1,rfl,hp3,hc⟩
  refine ⟨_,t1,rfl,?_⟩
  have:c=true:=hc.2 hmay
  subst this
  have hse1:=hse.pre hp3
  have hm0:mayF x.blocks.toNat 0=true:=by unfold mayF;rw [Bool.and_eq_true,decide_eq_true_iff,decide_eq_true_iff];omega
  have hm1:mayF x.blocks.toNat 1=true:=by unfold mayF;rw [Bool.and_eq_true,decide_eq_true_iff,decide_eq_true_iff];omega
  simp only [J_b,D_nil]
  rw [Zc,cond_true,Zi (Zgq h.q45 99997 0 t1 hse1),hm0,show (0:Int).toNat=0 from rfl,hok.in0]
  simp only [J_b,D_nil,Bool.and_self]
  rw [Zc,cond_true,Zi (Zgq h.q45 99997 1 t1 hse1),hm1,show (1:Int).toNat=1 from rfl,hok.in1]
  simp only [J_b,D_nil,Bool.and_self]
  rw [Zc,cond_true]
  refine Ok.callN (Zk4 h.q28 99999 t1 hse1 (by omega)) ?_
  rintro _ rfl
  refine ⟨_,t1,rfl,?_⟩
  simp only [J_i,J_b,D_nil,Zb]
  have hlen:=hse1.len
  have hcnt:=Zwj hok.lt (by omega) hok.top
  rw [hKm] at hcnt
  exact .mk ⟨t1,by rw [decide_eq_true (by omega)]⟩
end Go.Gv.F
