/- A superblock is read again; an image that is cut off. No program in sight. -/
import Derived.Test.YtegglibipjjblaaGreatDoorGvMBack
import Derived.Test.YtegglibipjjblaaGreatDoorGvCCheck
namespace Go.Gv.F
open Go.Gv
theorem ZkF {x:SupV} (h:SupOk x):x.charts.length≤8:=by
 have hl:=h.len;have hg:=h.g;obtain⟨g1,g2,_⟩:=Zb4 hg;unfold Zd3 at hl;rw[hg,cond_true]at hl;unfold upF at hl;have e1:wr64 (x.blocks+384)=x.blocks+384:=by
  obtain⟨m,hm⟩: ∃m:Nat,x.blocks=m:=⟨x.blocks.toNat,by omega⟩;rw[hm];exact Zd (by omega) (by omega)
 have e2:wr64 (x.blocks+384-1)=x.blocks+384-1:=by
  obtain⟨m,hm⟩: ∃m:Nat,x.blocks=m:=⟨x.blocks.toNat,by omega⟩;rw[hm,show((m:Int)+384-1)=((m+383:Nat):Int) by omega];exact Zd (by omega) (by omega)
 rw[e1,e2,Int.tdiv_eq_ediv_of_nonneg (by omega)]at hl;have e3:wr64 ((x.blocks+384-1)/384)=(x.blocks+384-1)/384:=by
  obtain⟨m,hm⟩: ∃m:Nat,(x.blocks+384-1)/384=m:=⟨((x.blocks+384-1)/384).toNat,by omega⟩;rw[hm];exact Zd (by omega) (by omega)
 rw[e3]at hl;omega
theorem ZnD (x:SupV):(supS x).length=32+2*x.charts.length:=by
 unfold supS;simp only[List.length_append,Zq,Zbb]
theorem ZuP {x:SupV} (h:SupOk x):openB (Zc9 x)=some (7,x.charts.length,fillF (supS x) 56):=by
 have h1:=ZkF h;have h2:=ZnD x;exact Zw4 (by decide) (by decide) (by omega) (by omega)
theorem Zwb {x:SupV} (h:SupOk x):(Zc9 x).length=64:=by
 have h1:=ZkF h;have h2:=ZnD x;exact ZqP (by omega)
theorem Zxc {x:SupV} (h:SupOk x):supOf (fillF (supS x) 56) x.charts.length=x:=by
 obtain⟨g1,g2,g3,g4,g5,g6⟩:=Zb4 h.g;have a0:=h.s0;have a1:=h.s1;have a2:=h.u0;have a3:=h.u1;have a4:=h.f0;have a5:=h.f1;have hfan:0≤x.fan∧x.fan<3072:=by
  by_cases hu:x.used=0
  ·rw[h.t0 hu];omega
  ·have:=(Zh9 x x.fan).1 (h.t1 (by omega));omega
 have hdir:0≤x.dir∧x.dir<3072:=by
  by_cases hu:x.dir=0
  ·rw[hu];omega
  ·have:=(Zh9 x x.dir).1 (h.d hu);omega
 obtain⟨b,hb⟩: ∃b,fillF (supS x) 56=b:=⟨_,rfl⟩;rw[hb];have S:b=layN (u64N x.seq) 8++(layN (u64N x.blocks) 4++(layN (u64N x.slots) 4++(layN (u64N x.g) 4++(layN (u64N x.used) 4++(layN (u64N x.free) 4++(layN (u64N x.fan) 2++(layN (u64N x.dir) 2++(lays2 x.charts++ZO (56-(supS x).length))))))))):=by
  rw[←hb];unfold fillF
  conv=>lhs;unfold supS
  simp only[List.append_assoc];rfl
 have n8: ∀v,(layN v 8).length=8:=fun v=>Zq v 8
 have n4: ∀v,(layN v 4).length=4:=fun v=>Zq v 4
 have n2: ∀v,(layN v 2).length=2:=fun v=>Zq v 2
 have k0:numI b 0 8=x.seq:=ZxK (A:=[]) S rfl (by omega);have u1:=ZcB (v:=x.blocks) (by omega) (by omega);have u2:=ZcB (v:=x.slots) (by omega) (by omega);have u3:=ZcB (v:=x.g) (by omega) (by omega);have u4:=ZcB (v:=x.used) (by omega) (by omega);have u5:=ZcB (v:=x.free) (by omega) (by omega);have u6:=ZcB (v:=x.fan) (by omega) (by omega);have u7:=ZcB (v:=x.dir) (by omega) (by omega);have k1:numI b 8 4=((u64N x.blocks:Nat):Int):=ZdB (A:=layN (u64N x.seq) 8) S (n8 _) (show u64N x.blocks<4294967296 by omega) (by omega);have k2:numI b 12 4=((u64N x.slots:Nat):Int):=ZdB (A:=layN (u64N x.seq) 8++layN (u64N x.blocks) 4) (by rw[S,List.append_assoc]) (by simp only[List.length_append,n8,n4]) (show u64N x.slots<4294967296 by omega) (by omega);have k3:numI b 16 4=((u64N x.g:Nat):Int):=ZdB (A:=layN (u64N x.seq) 8++(layN (u64N x.blocks) 4++layN (u64N x.slots) 4)) (by rw[S];simp only[List.append_assoc];rfl) (by simp only[List.length_append,n8,n4]) (show u64N x.g<4294967296 by omega) (by omega);have k4:numI b 20 4=((u64N x.used:Nat):Int):=ZdB (A:=layN (u64N x.seq) 8++(layN (u64N x.blocks) 4++(layN (u64N x.slots) 4++layN (u64N x.g) 4))) (by rw[S];simp only[List.append_assoc];rfl) (by simp only[List.length_append,n8,n4]) (show u64N x.used<4294967296 by omega) (by omega);have k5:numI b 24 4=((u64N x.free:Nat):Int):=ZdB (A:=layN (u64N x.seq) 8++(layN (u64N x.blocks) 4++(layN (u64N x.slots) 4++(layN (u64N x.g) 4++layN (u64N x.used) 4)))) (by rw[S];simp only[List.append_assoc];rfl) (by simp only[List.length_append,n8,n4]) (show u64N x.free<4294967296 by omega) (by omega);have k6:numI b 28 2=((u64N x.fan:Nat):Int):=ZdB (A:=layN (u64N x.seq) 8++(layN (u64N x.blocks) 4++(layN (u64N x.slots) 4++(layN (u64N x.g) 4++(layN (u64N x.used) 4++layN (u64N x.free) 4))))) (by rw[S];simp only[List.append_assoc];rfl) (by simp only[List.length_append,n8,n4]) (show u64N x.fan<65536 by omega) (by omega);have k7:numI b 30 2=((u64N x.dir:Nat):Int):=ZdB (A:=layN (u64N x.seq) 8++(layN (u64N x.blocks) 4++(layN (u64N x.slots) 4++(layN (u64N x.g) 4++(layN (u64N x.used) 4++(layN (u64N x.free) 4++layN (u64N x.fan) 2)))))) (by rw[S];simp only[List.append_assoc];rfl) (by simp only[List.length_append,n8,n4,n2]) (show u64N x.dir<65536 by omega) (by omega);have kc:(List.range x.charts.length).map (fun j=>numI b (32+2*j) 2)=x.charts:=by
  refine ZxE (A:=layN (u64N x.seq) 8++(layN (u64N x.blocks) 4++(layN (u64N x.slots) 4++(layN (u64N x.g) 4++(layN (u64N x.used) 4++(layN (u64N x.free) 4++(layN (u64N x.fan) 2++layN (u64N x.dir) 2))))))) (D:=ZO (56-(supS x).length)) x.charts (fun k hk=>?_) (by rw[S];simp only[List.append_assoc]) (by simp only[List.length_append,n8,n4,n2]);obtain⟨i,hi,rfl⟩:=List.getElem_of_mem hk;have:=(h.ch i hi).1;rw[List.getD_eq_getElem?_getD,List.getElem?_eq_getElem hi]at this;have:=(Zh9 x x.charts[i]).1 this;omega
 unfold supOf;rw[k0,k1,k2,k3,k4,k5,k6,k7,kc,u1,u2,u3,u4,u5,u6,u7]
theorem Zyo {x:SupV} (h:ZI x=true):getS (Zc9 x)=some x:=by
 have hs:=(Zfg x).1 h;unfold getS;rw[ZuP hs];simp only;rw[Zxc hs,h,decide_eq_true (ZkF hs)];have hno:Zz ((fillF (supS x) 56).drop (32+2*x.charts.length))=true:=by
  unfold fillF;rw[←ZnD,List.drop_left];exact ZpG _
 rw[hno];rfl
theorem Zwn {x:StV} {e p:Int} {B:List UInt8} {s:SupV} (h:ZdF x e p=some (B,s)):s=supB x e∧ZI s=true∧B=ovB (chartsB (usedB x) (needC x) 0 (mk2 x).2).B (64*(p%2).toNat) (Zc9 s)∧((usedB x).length:Int)≤x.blocks:=by
 unfold ZdF at h;cases hc:(decide (((usedB x).length:Int)>x.blocks)|| !ZI (supB x e))with
 |true=>rw[hc]at h;cases h
 |false=>
  rw[hc,cond_false]at h;cases h;rw[Bool.or_eq_false_iff,decide_eq_false_iff_not,Bool.not_eq_false']at hc;exact⟨rfl,hc.2,rfl,by omega⟩
theorem ZxR (x:StV):(chartsB (usedB x) (needC x) 0 (mk2 x).2).B.length=64*x.blocks.toNat:=by
 rw[(Ex.all x).len];unfold mk0 ZO;exact List.length_replicate
theorem ZwZ {n k:Nat} (h:64*k+64≤n):lineB (ZO n) k=ZO 64:=by
 unfold lineB ZO;rw[List.drop_replicate,List.take_replicate,Nat.min_eq_left (by omega)]
theorem ZxH:getS (ZO 64)=none:=by
 have:openB (ZO 64)=none:=by
  unfold openB;have:ZfB (ZO 64)=false:=by
   unfold ZfB;have:(ZO 64).getD 4 0=0:=rfl;rw[this];rfl
  rw[this];rfl
 unfold getS;rw[this]
theorem ZmY {x:StV} {e:Int} {B:List UInt8} {s:SupV} (h:ZdF x e 0=some (B,s)):B.length=64*s.blocks.toNat∧16≤s.blocks∧s.blocks≤3072∧readS B 0=some s∧readS B 1=none:=by
 obtain⟨h1,h2,h3,h4⟩:=Zwn h;have hs:=(Zfg s).1 h2;obtain⟨g1,g2,_⟩:=Zb4 hs.g;have hb:s.blocks=x.blocks:=by rw[h1];rfl
 have hl:=ZxR x;have hpl:=Zwb hs;have h3:B=ovB (chartsB (usedB x) (needC x) 0 (mk2 x).2).B (64*0) (Zc9 s):=h3;have hBl:B.length=64*x.blocks.toNat:=by rw[h3,ZmC _ (by omega),hl]
 refine⟨by rw[hb];exact hBl,g1,g2,?_,?_⟩
 ·unfold readS
  rw[decide_eq_true (by omega),cond_true];have:lineF B 0=Zc9 s:=by
   rw[h3];exact ZzX (by omega) hpl
  rw[this];exact Zyo h2
 ·unfold readS
  rw[decide_eq_true (by omega),cond_true];have:lineF B 1=ZO 64:=by
   rw[h3];refine(ZvU (by omega) hpl (by omega)).trans (((Ex.all x).line 1 (show 1<2 by omega)).trans ?_);exact ZwZ (by omega)
  rw[this];exact ZxH
theorem Zwi {B:List UInt8} {r k:Nat} {x:SupV} (h:readS (B.take r) k=some x):readS B k=some x:=by
 obtain⟨h1,h2⟩:=ZkZ h;rw[List.length_take]at h1;have:lineF (B.take r) k=lineF B k:=by
  unfold lineF;rw[List.drop_take,List.take_take,Nat.min_eq_left (by omega)]
 unfold readS;rw[decide_eq_true (by omega),cond_true,←this,h2]
theorem Zw8 {x:StV} {e:Int} {B:List UInt8} {s:SupV} (h:ZdF x e 0=some (B,s)) {r:Nat} (hr:r<B.length):Zcp (B.take r)=(none,30)∨Zcp (B.take r)=(none,31):=by
 obtain⟨h1,h2,h3,h4,h5⟩:=ZmY h;unfold Zcp;cases hp:pickF (B.take r)with
 |none=>exact .inl rfl
 |some y=>
  right;obtain⟨k,hk,hrk⟩:=Zom hp;have hy:=Zwi hrk;have hys:y=s:=by
   have:k=0∨k=1:=by omega
   rcases this with rfl|rfl
   ·rw[h4]at hy;exact(Option.some.inj hy).symm
   ·rw[h5]at hy;cases hy
  subst hys;have hlen:(B.take r).length=r:=by rw[List.length_take];omega
  have hw:walkF (wkOf (B.take r) y)=some none:=by
   unfold walkF;have e1:(wkOf (B.take r) y).sup=y:=rfl;have e2:(wkOf (B.take r) y).img=B.take r:=rfl;rw[e1,e2,(Zrc (ZkZ hrk).2).1,cond_true,hlen,decide_eq_false (by omega),cond_false]
  simp only;rw[hw]
end Go.Gv.F
