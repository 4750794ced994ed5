/- A line of a device, as octets; a superblock out of it. -/
import Derived.Test.YtegglibipjjblaaGreatDoorGvCDev
namespace Go.Gv.F
open Go.Gv
variable {β:Type}
theorem Zmf (v i:Nat):layN v (i+1)=layN v i++[UInt8.ofNat (v/256^i)]:=by rw[Znz];rfl
theorem Zzv (w:Nat):IntKind.wrap .u8 (w:Int)=((UInt8.ofNat w).toNat:Int):=by
 show(w:Int)%(2^8)=((w%256:Nat):Int);have:((2:Int)^8)=256:=by decide
 omega
theorem ZtK {A:List DV} {z d:DV} {i n:Nat} (h:A.length=i) (hi:i<n):(A++List.replicate (n-i) z).set i d=(A++[d])++List.replicate (n-(i+1)) z:=by
 rw[List.set_append_right _ _ (by omega),h,Nat.sub_self,show n-i=(n-(i+1))+1 by omega,List.replicate_succ,List.set_cons_zero,List.append_assoc];rfl
theorem Ztg {Bd:Za} (h:Zjx Bd) (n v:Nat) (st:St) (hn:12≤n):
  Ok (fun o=>∃p s',o=(.val [.slice 1 p 8],s')∧Pre st s'∧FByt s' p (layN v 8)) (run Bd n 337 [.int .u64 v,.int .i64 8] st):=by
 obtain⟨n,rfl⟩: ∃m,n=m+1:=⟨n-1,by omega⟩;rw[Zf,h.eq];unfold Zgm;simp only[J_i,J_b,D_nil,Zb6,Zc];rw[show decide ((8:Int)<0)=false from rfl,show decide ((8:Int)>8)=false from rfl,cond_false,cond_false,Ze (by decide),Zu];have h8:(8:Int).toNat=8:=rfl;rw[h8,show rep 8 [DV.int .u8 0]=List.replicate 8 (DV.int .u8 0)from rfl];refine Zk _ (fun q y s=>∃i:Nat,y=[.int .u64 ((v/256^i:Nat):Int),.int .i64 i]∧i≤8∧8-i≤q∧s=st++[some ⟨false,octs (layN v i)++List.replicate (8-i) (.int .u8 0)⟩]) ?_ 8 n _ _ ⟨0,by simp,by omega,by omega,by simp[octs,layN]⟩ (by omega);rintro q _ s ⟨i,rfl,hi,hq,rfl⟩ rec hrec;simp only[J_i,D_nil];have hol:(octs (layN v i)).length=i:=by rw[Zt,Zq]
 by_cases hlt:i<8
 ·rw[decide_eq_true (show(i:Int)<((8:Nat):Int) by omega),cond_true,Ze (Zl hlt),Int.toNat_natCast,Nat.mul_one,Zq7 _ (by rw[List.length_append,hol,List.length_replicate];omega),ZtK hol hlt,Zd (by omega) (by omega),show((2:Int)^8)=((256:Nat):Int) by decide,Zf0]
  refine hrec (8-(i+1)) _ _ (by omega) ⟨i+1,by rw[Nat.div_div_eq_div_mul,←Nat.pow_succ];rfl,by omega,by omega,?_⟩;rw[Zmf,Zga,Zzv];rfl
 ·rw[decide_eq_false (show ¬(i:Int)<((8:Nat):Int) by omega),cond_false,ZE]
  have:i=8:=by omega
  subst this;have hpr:=Pre.new st (some (⟨false,octs (layN v 8)++List.replicate (8-8) (.int .u8 0)⟩:Blk));have hown:Own st (st++[some (⟨false,octs (layN v 8)++List.replicate (8-8) (.int .u8 0)⟩:Blk)]) (some (st.length,0)) (octs (layN v 8)):=⟨hpr,.inr ⟨st.length,rfl,Nat.le_refl _,by simp⟩⟩;exact .mk ⟨_,_,rfl,ZL hpr,hown.fz⟩
def octsW (W:List Nat):List UInt8:=(W.map fun w=>layN w 8).flatten
theorem ZqS: ∀(W:List Nat),(octsW W).length=8*W.length
 |[]=>rfl
 |w::r=>by
  have:=ZqS r;unfold octsW at this⊢;rw[List.map_cons,List.flatten_cons,List.length_append,this,Zq,List.length_cons];omega
theorem ZxA (V W:List Nat):octsW (V++W)=octsW V++octsW W:=by unfold octsW;rw[List.map_append,List.flatten_append]
theorem Zn6 {Bd:Za} (h:Zgg Bd) (n:Nat) (a:Option (Nat×Nat)) (W:List Nat) (st:St) (ha:Sl st a (Zp W)) (hl:W.length<1000000) (hn:W.length+20≤n):
  Ok (fun o=>∃p s',o=(.val [.slice 1 p (8*W.length)],s')∧Pre st s'∧FByt s' p (octsW W)) (run Bd n 332 [.slice 1 a W.length] st):=by
 obtain⟨n,rfl⟩: ∃m,n=m+1:=⟨n-1,by omega⟩;rw[Zf,h.eq];unfold ZdQ;simp only[J_l,D_nil,Zb6,Zc];refine Zk _ (fun q y s=>∃(i z:Nat) (p:Option (Nat×Nat)),y=[.slice z p (8*i),.int .i64 i]∧(z=1∨p=none)∧i≤W.length∧W.length-i≤q∧Own st s p (octs (octsW (W.take i)))) ?_ W.length n _ _ ⟨0,0,none,rfl,.inr rfl,Nat.zero_le _,by omega,Own.nil (.refl st)⟩ (by omega);rintro q _ s ⟨i,z,p,rfl,hz,hi,hq,ho⟩ rec hrec;simp only[Zm 1 z p _ hz,J_i,D_nil];by_cases hlt:i<W.length
 ·obtain⟨i1,o1,rfl⟩:=ha.some_of (by rw[Zb3];omega)
  have hgc:(Zp W)[i]? =some (.int .u64 (W[i]:Nat)):=by unfold Zp;rw[List.getElem?_map,List.getElem?_eq_getElem hlt];rfl
  rw[decide_eq_true (show(i:Int)<(W.length:Int) by omega),cond_true,nn_some',Ze (Zl hlt),Int.toNat_natCast,(ha.mono ho.1).get1 hgc];simp only[D_int];refine Ok.call (Ztg h.q113 n W[i] s (by omega)) ?_;rintro _ ⟨p',s1,rfl,hp1,hf⟩;refine⟨_,s1,rfl,?_⟩;simp only[J_l,D_nil];have hl8:(octs (layN W[i] 8)).length=8*1:=by rw[Zt,Zq]
  have hrd:=rd_eq (β:=List DV) hf.byt;rw[hl8]at hrd;rw[hrd];obtain⟨p2,s2,h1,h2⟩:=(ho.mono hp1).app (β:=List DV) (sz:=1) (n:=8*i) (m:=8) (lim:=70368744177664) (ds:=octs (layN W[i] 8)) (by omega) (by rw[Zt,ZqS,List.length_take];omega) (by omega) (by omega);rw[h2,Zd (by omega) (by omega)];refine hrec (W.length-(i+1)) _ _ (by omega) ⟨i+1,1,p2,rfl,.inl rfl,by omega,by omega,?_⟩;rw[List.take_add_one,List.getElem?_eq_getElem hlt,ZxA,Zga];rw[show octsW (some W[i]).toList=layN W[i] 8 by simp[octsW]];exact h1
 ·rw[decide_eq_false (show ¬(i:Int)<(W.length:Int) by omega),cond_false,ZE]
  have:i=W.length:=by omega
  subst this;rw[List.take_length]at ho;exact .mk ⟨p,_,rfl,ZL ho.1,ho.fz⟩
theorem Zx0: ∀(l:List UInt8) (k:Nat),8*k≤l.length→((List.range k).map fun i=>(l.drop (8*i)).take 8).flatten=l.take (8*k)
 |l,0,_=>by simp
 |l,k+1,h=>by
  rw[List.range_succ,List.map_append,List.flatten_append,Zx0 l k (by omega),show 8*(k+1)=8*k+8 by omega,List.take_add];simp
theorem Zu5 {l:List UInt8} {k:Nat} (h:8*k≤l.length):octsW (ZX l k)=l.take (8*k):=by
 rw[←Zx0 l k h];unfold octsW ZX;rw[List.map_map];congr 1;refine List.map_congr_left fun i hi=>?_
 rw[List.mem_range]at hi;have:((l.drop (8*i)).take 8).length=8:=by rw[List.length_take,List.length_drop];omega
 show layN (leN ((l.drop (8*i)).take 8)) 8=_;have h2:=Zur ((l.drop (8*i)).take 8)
 rwa [this]at h2
def lineF (l:List UInt8) (k:Nat):List UInt8:=(l.drop (64*k)).take 64
theorem Zsl {Bd:Za} (h:Zh0 Bd) (n d:Nat) (l:List UInt8) (at':Nat) (st:St) (hd:DevM st d (ZX l (8*(l.length/64)))) (hl:l.length<262144) (hat:at'<1000000) (hn:100≤n):
  Ok (fun o=>∃s',Pre st s'∧if at'<l.length/64 then ∃p,o=(.val [.slice 1 p 64,.int .i64 0],s')∧FByt s' p (lineF l at')else o=(.val [.slice 0 none 0,.int .i64 2],s')) (run Bd n 329 [.ptr (some (d,0)),.int .i64 at'] st):=by
 obtain⟨n,rfl⟩: ∃m,n=m+3:=⟨n-3,by omega⟩;have hm:=ZsS h.q115 n d _ at' st hd (by rw[ZcV];omega);rw[Zf,h.eq];unfold ZfN;simp only[J_p,J_i,D_nil];rw[Zi hm,ZcV,Nat.mul_div_cancel_left _ (by omega),decide_eq_false (show ¬(at':Int)<0 by omega),Bool.false_or];simp only[J_i,D_nil];by_cases hlt:at'<l.length/64
 ·rw[decide_eq_false (show ¬(at':Int)≥((l.length/64:Nat):Int) by omega),cond_false,show(!((0:Int)==0))=false from rfl,cond_false,Zu]
  simp only[if_pos hlt,Zc];have hcell:([.int .u64 0,.int .u64 0,.int .u64 0,.int .u64 0,.int .u64 0,.int .u64 0,.int .u64 0,.int .u64 0]:List DV)=List.replicate 8 (.int .u64 0):=rfl;rw[hcell];obtain⟨W,hW⟩: ∃W,ZX (lineF l at') 8=W:=⟨_,rfl⟩;have hWl:W.length=8:=by rw[←hW,ZcV]
  have hget: ∀i,i<8→(ZX l (8*(l.length/64)))[at'*8+i]? =W[i]? :=fun i hi=>by
   rw[←hW,ZkD (by omega),ZkD hi];unfold lineF;rw[List.drop_take,List.take_take,List.drop_drop,Nat.min_eq_left (by omega),show 8*(at'*8+i)=64*at'+8*i by omega]
  refine Zk _ (fun q y s=>∃i:Nat,y=[.int .i64 i]∧i≤8∧8-i≤q∧s=st++[some ⟨false,Zp (W.take i)++List.replicate (8-i) (.int .u64 0)⟩]) ?_ 8 (n+2) _ _ ⟨0,rfl,by omega,by omega,by simp[Zp]⟩ (by omega);rintro q _ s ⟨i,rfl,hi,hq,rfl⟩ rec hrec;simp only[J_i,D_nil];have hwl:(Zp (W.take i)).length=i:=by rw[Zb3,List.length_take];omega
  by_cases hi8:i<8
  ·have hWi:W[i]? =some (W[i]'(by omega)):=List.getElem?_eq_getElem _
   generalize W[i]'(by omega)=w at hWi;have hload:=Zqb h.q23 n d _ (at'*8+i) w _ (hd.mono (Pre.new st (some (⟨false,Zp (W.take i)++List.replicate (8-i) (.int .u64 0)⟩:Blk)))) (by rw[hget i hi8];exact hWi);have e1:wr64 (wr64 ((at':Int)*8)+(i:Int))=((at'*8+i:Nat):Int):=by
    have:wr64 ((at':Int)*8)=((at'*8:Nat):Int):=by
     rw[show(at':Int)*8=((at'*8:Nat):Int) by omega];exact Zd (by omega) (by omega)
    rw[this,←Int.natCast_add];exact Zd (by omega) (by omega)
   rw[decide_eq_true (show(i:Int)<8 by omega),cond_true,e1,Zi hload];simp only[J_i,D_nil];rw[show(!((0:Int)==0))=false from rfl,cond_false,Ze (Zl hi8),Int.toNat_natCast,Nat.mul_one,Nat.add_zero,Zq7 _ (by rw[List.length_append,hwl,List.length_replicate];omega),ZtK hwl hi8,Zd (by omega) (by omega)];refine hrec (8-(i+1)) _ _ (by omega) ⟨i+1,rfl,by omega,by omega,?_⟩;rw[List.take_add_one,hWi,Zoj];rfl
  ·have:i=8:=by omega
   subst this;rw[decide_eq_false (show ¬((8:Nat):Int)<8 by omega),cond_false];have ht:W.take 8=W:=List.take_of_length_le (by omega);rw[ht];have hpr:=Pre.new st (some (⟨false,Zp W++List.replicate (8-8) (.int .u64 0)⟩:Blk));have hgt:(st++[some (⟨false,Zp W++List.replicate (8-8) (.int .u64 0)⟩:Blk)])[st.length]? =some (some ⟨false,Zp W⟩):=by simp
   generalize (st++[some (⟨false,Zp W++List.replicate (8-8) (.int .u64 0)⟩:Blk)])=s1 at hpr hgt;have hw8:(Zp W).length=8:=by rw[Zb3];exact hWl
   rw[ZT hgt (by omega)];have hsl:Sl s1 (some (st.length,0)) (Zp W):=⟨false,_,hgt,by omega,by rw[List.drop_zero,List.take_of_length_le (by omega)]⟩;have ho:=Zn6 h.q54 (n+2) (some (st.length,0)) W s1 hsl (by omega) (by omega);rw[hWl]at ho;refine Ok.call ho ?_;rintro _ ⟨p,s2,rfl,hp2,hf⟩;refine⟨_,s2,rfl,?_⟩;simp only[J_l,D_nil,Zb];refine .mk ⟨s2,hpr.trans hp2,p,rfl,?_⟩;have hll:(lineF l at').length=64:=by unfold lineF;rw[List.length_take,List.length_drop];omega
   rw[←hW,Zu5 (by omega),List.take_of_length_le (by omega)]at hf;exact hf
 ·rw[decide_eq_true (show(at':Int)≥((l.length/64:Nat):Int) by omega),cond_true,show(!((2:Int)==0))=true from rfl,cond_true,Zb]
  simp only[if_neg hlt];exact .mk ⟨st,.refl st,rfl⟩
end Go.Gv.F
