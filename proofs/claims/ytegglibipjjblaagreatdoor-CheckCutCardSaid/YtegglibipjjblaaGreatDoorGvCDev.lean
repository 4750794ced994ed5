/- A device made of octets: the program's layer 5, as far as it is read. -/
import Derived.Test.YtegglibipjjblaaGreatDoorGvBMc
import Derived.Test.YtegglibipjjblaaGreatDoorGvZMc
namespace Go.Gv.F
open Go.Gv
variable {β:Type}
theorem Zpt {Bd:Za} (h:Z5 Bd) (n:Nat) (a:Option (Nat×Nat)) (l:List UInt8) (st:St) (ha:Byt st a l) (hl:8≤l.length) (hn:12≤n):
  run Bd n 285 [.slice 1 a l.length] st=some (.val [.int .u64 (leN (l.take 8))],st):=by
 have ht:(l.take 8).length=8:=by rw[List.length_take];omega
 have h8:=Z6 h n a (l.take 8) st (ha.takes 8) (by omega) hn;obtain⟨n,rfl⟩: ∃m,n=m+1:=⟨n-1,by omega⟩;rw[Zf,h.eq]at h8⊢;unfold ZdK at h8⊢;rw[ht]at h8;simp only[J_l,D_nil]at h8⊢;have e1:(if (8:Int)<((8:Nat):Int)then(8:Int)else((8:Nat):Int))=8:=by decide
 have e2:(if (8:Int)<(l.length:Int)then(8:Int)else(l.length:Int))=8:=by
  by_cases h9:(8:Int)<(l.length:Int)
  ·rw[if_pos h9]
  ·rw[if_neg h9];omega
 simp only[e1]at h8;simp only[e2];rw[Ze (by decide)]at h8;rw[Ze (by rw[Bool.and_eq_true,decide_eq_true_iff,decide_eq_true_iff];omega)];exact h8
def ZX (l:List UInt8) (k:Nat):List Nat:=(List.range k).map fun i=>leN ((l.drop (8*i)).take 8)
theorem ZcV (l:List UInt8) (k:Nat):(ZX l k).length=k:=by unfold ZX;rw[List.length_map,List.length_range]
theorem Zm5 (l:List UInt8) (k:Nat):ZX l (k+1)=ZX l k++[leN ((l.drop (8*k)).take 8)]:=by
 unfold ZX;rw[List.range_succ,List.map_append];rfl
theorem ZkD {l:List UInt8} {k i:Nat} (h:i<k):(ZX l k)[i]? =some (leN ((l.drop (8*i)).take 8)):=by
 unfold ZX;rw[List.getElem?_map,List.getElem?_range h];rfl
theorem Zoj (l m:List Nat):Zp (l++m)=Zp l++Zp m:=by unfold Zp;rw[List.map_append]
theorem Zb3 (l:List Nat):(Zp l).length=l.length:=by unfold Zp;rw[List.length_map]
theorem Zp5 {Bd:Za} (h:Zg6 Bd) (n:Nat) (a:Option (Nat×Nat)) (l:List UInt8) (k:Nat) (st:St) (ha:Byt st a l) (hk:l.length=8*k) (hl:l.length<1000000) (hn:k+20≤n):
  Ok (fun o=>∃p s',o=(.val [.slice 1 p k],s')∧Pre st s'∧Fz s' p (Zp (ZX l k))) (run Bd n 328 [.slice 1 a l.length] st):=by
 obtain⟨n,rfl⟩: ∃m,n=m+1:=⟨n-1,by omega⟩;rw[Zf,h.eq];unfold ZeD;simp only[J_l,D_nil,Zb6,Zc];refine Zk _ (fun q y s=>∃(i z:Nat) (b p:Option (Nat×Nat)),y=[.slice 1 b (l.length-8*i),.slice z p i]∧(z=1∨p=none)∧i≤k∧k-i≤q∧Byt st b (l.drop (8*i))∧Own st s p (Zp (ZX l i))) ?_ k n _ _ ⟨0,0,a,none,by rw[Nat.mul_zero,Nat.sub_zero],.inr rfl,Nat.zero_le _,by omega,ha,Own.nil (.refl st)⟩ (by omega);rintro q _ s ⟨i,z,b,p,rfl,hz,hi,hq,hb,ho⟩ rec hrec;simp only[J_l,Zm 1 z p _ hz,D_nil];by_cases hlt:i<k
 ·have hdl:(l.drop (8*i)).length=l.length-8*i:=List.length_drop
  rw[decide_eq_true (show((l.length-8*i:Nat):Int)≥8 by omega),cond_true];have hr:=Zpt h.q94 n b (l.drop (8*i)) s (hb.mono ho.1) (by omega) (by omega);rw[hdl]at hr;rw[Zi hr];simp only[J_i,D_nil];obtain⟨p',s',h1,h2⟩:=ho.push (β:=List DV) (sz:=1) (n:=i) (lim:=8796093022208) [.int .u64 (leN ((l.drop (8*i)).take 8):Nat)] (by omega) (by rw[Zb3,ZcV,Nat.mul_one]) rfl (by omega);rw[h2];rw[Ze rfl];refine hrec (k-(i+1)) _ _ (by omega) ⟨i+1,1,cutA true b 8,p',by rw[show l.length-8*i-8=l.length-8*(i+1) by omega],.inl rfl,by omega,by omega,?_,?_⟩
  ·have:=hb.cutA (k:=8) (by omega)
   rwa [List.drop_drop,show 8*i+8=8*(i+1) by omega]at this
  ·rw[Zm5,Zoj];exact h1
 ·rw[decide_eq_false (show ¬((l.length-8*i:Nat):Int)≥8 by omega),cond_false,ZE]
  have:i=k:=by omega
  subst this;exact .mk ⟨p,_,rfl,ZL ho.1,ho.fz⟩
def Zdw (ws:List Nat):List DV:=(ws.map fun w=>[.int .u64 (w:Nat),.int .u64 (w:Nat),.int .u64 0,.bool false]).flatten
theorem ZwI (l m:List Nat):Zdw (l++m)=Zdw l++Zdw m:=by unfold Zdw;rw[List.map_append,List.flatten_append]
theorem Zko: ∀(l:List Nat),(Zdw l).length=l.length*4
 |[]=>rfl
 |w::r=>by
  have:=Zko r;unfold Zdw at this⊢;rw[List.map_cons,List.flatten_cons,List.length_append,this,List.length_cons];show 4+r.length*4=(r.length+1)*4;omega
theorem Zoa: ∀ {l:List Nat} {i w:Nat},l[i]? =some w→(Zdw l)[i*4+1]? =some (.int .u64 w)
 |[],i,w,h=>by simp at h
 |x::r,0,w,h=>by
  simp only[List.getElem?_cons_zero,Option.some.injEq]at h;subst h;rfl
 |x::r,i+1,w,h=>by
  have:=Zoa (l:=r) (i:=i) (by simpa using h);unfold Zdw at this⊢;rw[List.map_cons,List.flatten_cons,List.getElem?_append_right (by show 4≤_;omega),show(i+1)*4+1-([DV.int .u64 (x:Nat),.int .u64 (x:Nat),.int .u64 0,.bool false]:List DV).length=i*4+1 by show _-4=_;omega];exact this
def devC (z:Nat) (c:Option (Nat×Nat)) (n:Nat):List DV:=[.slice z c n,.slice 0 none 0,.int .i64 0,.bool false,.bool false,.int .i64 0,.int .i64 0]
def DevM (s:St) (d:Nat) (ws:List Nat):Prop:=∃(f:Bool) (z:Nat) (c:Option (Nat×Nat)),s[d]? =some (some ⟨f,devC z c ws.length⟩)∧(z=4∨c=none)∧Sl s c (Zdw ws)
theorem DevM.mono {s s':St} {d:Nat} {ws:List Nat} (h:DevM s d ws) (k:Pre s s'):DevM s' d ws:=by
 obtain⟨f,z,c,h1,h2,h3⟩:=h;exact⟨f,z,c,k.get h1,h2,h3.mono k⟩
theorem Zt2 {Bd:Za} (h:Zju Bd) (n:Nat) (a:Option (Nat×Nat)) (l:List UInt8) (st:St) (ha:Byt st a l) (hl:l.length<262144) (hn:40000≤n):
  Ok (fun o=>∃d s',o=(.val [.ptr (some (d,0))],s')∧Pre st s'∧DevM s' d (ZX l (8*(l.length/64)))) (run Bd n 325 [.slice 1 a l.length] st):=by
 obtain⟨n,rfl⟩: ∃m,n=m+1:=⟨n-1,by omega⟩;rw[Zf,h.eq];unfold ZgJ;simp only[J_l,D_nil];rw[Zu];obtain⟨k,hk⟩: ∃k,l.length/64=k:=⟨_,rfl⟩;have hk2:64*k≤l.length∧k<4096:=by omega
 have e1:wr64 (Int.tdiv ((l.length:Nat):Int) 64)=(k:Int):=by
  rw[Int.tdiv_eq_ediv_of_nonneg (by omega)];exact(Zd (by omega) (by omega)).trans (by omega)
 have e2:(if (4096:Int)<(k:Int)then(4096:Int)else(k:Int))=(k:Int):=if_neg (by omega);have e3:wr64 ((k:Int)*64)=((64*k:Nat):Int):=by
  rw[show((k:Int)*64)=((64*k:Nat):Int) by omega];exact Zd (by omega) (by omega)
 simp only[e1,e2,e3,Int.toNat_natCast];rw[Ze (by rw[Bool.and_eq_true,decide_eq_true_iff,decide_eq_true_iff];omega)];have hp0:=Pre.new st (some (⟨false,[.slice 0 none 0,.slice 0 none 0,.int .i64 0,.bool false,.bool false,.int .i64 0,.int .i64 0]⟩:Blk));have hd0:(st++[some (⟨false,[.slice 0 none 0,.slice 0 none 0,.int .i64 0,.bool false,.bool false,.int .i64 0,.int .i64 0]⟩:Blk)])[st.length]? =some (some ⟨false,devC 0 none 0⟩):=by simp[devC]
 generalize (st++[some (⟨false,[.slice 0 none 0,.slice 0 none 0,.int .i64 0,.bool false,.bool false,.int .i64 0,.int .i64 0]⟩:Blk)])=s1 at hp0 hd0;have htl:(l.take (64*k)).length=64*k:=by rw[List.length_take];omega
 have hw:=Zp5 h.q68 n a (l.take (64*k)) (8*k) s1 ((ha.mono hp0).takes _) (by omega) (by omega) (by omega);rw[htl]at hw;refine Ok.call hw ?_;rintro _ ⟨p,s2,rfl,hp2,hfz⟩;refine⟨_,s2,rfl,?_⟩;have ew:ZX (l.take (64*k)) (8*k)=ZX l (8*k):=by
  unfold ZX;refine List.map_congr_left fun i hi=>?_
  rw[List.mem_range]at hi;rw[List.drop_take,List.take_take,Nat.min_eq_left (by omega)]
 rw[ew]at hfz;simp only[J_l,D_nil,Zc];refine Zk _ (fun q y s=>∃(i z:Nat) (c:Option (Nat×Nat)),y=[.int .i64 i]∧i≤8*k∧8*k-i≤q∧Fz s p (Zp (ZX l (8*k)))∧s[st.length]? =some (some ⟨false,devC z c i⟩)∧(z=4∨c=none)∧Own st s c (Zdw (ZX l i))∧∀o,c≠some (st.length,o)) ?_ (8*k) n _ _ ⟨0,0,none,rfl,Nat.zero_le _,by omega,hfz,hp2.get hd0,.inr rfl,Own.nil (hp0.trans hp2),fun o e=>by cases e⟩ (by omega);rintro q _ s ⟨i,z,c,rfl,hi,hq,hf,hd,hz,ho,hne⟩ rec hrec;simp only[J_i,D_nil];by_cases hlt:i<8*k
 ·rw[decide_eq_true (show(i:Int)<((8*k:Nat):Int) by omega),cond_true]
  obtain⟨i1,o1,rfl⟩:=hf.1.some_of (by rw[Zb3,ZcV];omega);have hg:=ZkD (l:=l) hlt;have hgc:(Zp (ZX l (8*k)))[i]? =some (.int .u64 (leN ((l.drop (8*i)).take 8):Nat)):=by unfold Zp;rw[List.getElem?_map,hg];rfl
  rw[nn_some',Ze (Zl hlt),Int.toNat_natCast,hf.1.get1 hgc];simp only[D_int];rw[Zn (d:= .slice z c i) hd rfl,ZB 4 z c i hz];obtain⟨c',s',h0,h1,h2,h3,h4⟩:=ho.push3 (β:=List DV) (sz:=4) (n:=i) (lim:=2199023255552) [.int .u64 (leN ((l.drop (8*i)).take 8):Nat),.int .u64 (leN ((l.drop (8*i)).take 8):Nat),.int .u64 0,.bool false] (by omega) (by rw[Zko,ZcV]) rfl (by omega);rw[h4];have hd':s'[st.length]? =some (some ⟨false,devC z c i⟩):=h3 st.length _ hd hne;have hlt':st.length<s.length:=(List.getElem?_eq_some_iff.1 hd).1;rw[Z1 hd' (by show 0<7;omega),Zd (by omega) (by omega)];have hb2:s'[c']? =some (some ⟨false,Zdw (ZX l i)++[.int .u64 (leN ((l.drop (8*i)).take 8):Nat),.int .u64 (leN ((l.drop (8*i)).take 8):Nat),.int .u64 0,.bool false]⟩):=by
   rcases h1.2 with⟨e,_⟩|⟨j,e,_,h5⟩
   ·cases e
   ·cases e;exact h5
  refine hrec (8*k-(i+1)) _ _ (by omega) ⟨i+1,4,some (c',0),rfl,by omega,by omega,(hf.kp h2).kp (Kp.set hd' _),?_,.inl rfl,?_,fun o e=>by cases e;omega⟩
  ·rw[List.getElem?_set_self (List.getElem?_eq_some_iff.1 hd').1]
   rfl
  ·refine⟨Zcj h1.1 (Nat.le_refl _) _,.inr ⟨c',rfl,by omega,?_⟩⟩
   rw[List.getElem?_set_ne (by omega),hb2,Zm5,ZwI];rfl
 ·rw[decide_eq_false (show ¬(i:Int)<((8*k:Nat):Int) by omega),cond_false,Zb]
  have:i=8*k:=by omega
  subst this;refine .mk ⟨st.length,s,rfl,ho.1,?_⟩;rw[hk];exact⟨false,z,c,by rw[ZcV];exact hd,hz,ho.sl⟩
theorem Zo5 {Bd:Za} (h:Zdi Bd) (n d:Nat) (ws:List Nat) (st:St) (hd:DevM st d ws) (hl:ws.length<1000000):run Bd (n+1) 335 [.ptr (some (d,0))] st=some (.val [.int .i64 ((ws.length/8:Nat):Int)],st):=by
 obtain⟨f,z,c,h1,h2,h3⟩:=hd;rw[Zf,h.eq];unfold Zcc;simp only[J_p,D_nil,nn_some'];rw[Zn (d:= .slice z c ws.length) h1 rfl,ZB 4 z c _ h2,Zb];have:wr64 (Int.tdiv ((ws.length:Nat):Int) 8)=((ws.length/8:Nat):Int):=by
  rw[Int.tdiv_eq_ediv_of_nonneg (by omega)];exact(Zd (by omega) (by omega)).trans (by omega)
 rw[this]
theorem Zst {Bd:Za} (h:Zed Bd) (n d:Nat) (ws:List Nat) (x y:Int) (st:St) (hd:DevM st d ws):run Bd (n+1) 336 [.ptr (some (d,0)),.int .i64 x,.int .i64 y] st=some (.val [.int .i64 (bif decide (x<0)||decide (x≥y)then 2 else 0)],st):=by
 obtain⟨f,z,c,h1,h2,h3⟩:=hd;rw[Zf,h.eq];unfold ZcG;simp only[J_p,J_i,D_nil,nn_some'];rw[Zn (d:= .bool false) h1 rfl];simp only[D_bool,cond_false,Zc,J_b,D_nil];cases decide (x<0)with
 |true=>rfl
 |false=>
  rw[cond_false,Bool.false_or];cases decide (x≥y)<;>rfl
theorem Zqb {Bd:Za} (h:ZdI Bd) (n d:Nat) (ws:List Nat) (i w:Nat) (st:St) (hd:DevM st d ws) (hi:ws[i]? =some w):run Bd (n+2) 333 [.ptr (some (d,0)),.int .i64 i] st=some (.val [.int .u64 w,.int .i64 0],st):=by
 have hlt:i<ws.length:=(List.getElem?_eq_some_iff.1 hi).1;have hm:=Zst h.q26 n d ws i ws.length st hd;obtain⟨f,z,c,h1,h2,h3⟩:=hd;rw[Zf,h.eq];unfold Zcz;simp only[J_p,J_i,D_nil,nn_some'];rw[Zn (d:= .slice z c ws.length) h1 rfl,ZB 4 z c _ h2];rw[Zi hm];rw[decide_eq_false (show ¬(i:Int)<0 by omega),decide_eq_false (show ¬(i:Int)≥(ws.length:Int) by omega)];simp only[Bool.or_false,cond_false,J_i,D_nil];show M.load1 d 0 _ st=_;rw[Zn (d:= .slice z c ws.length) h1 rfl,ZB 4 z c _ h2];obtain⟨i1,o1,rfl⟩:=h3.some_of (by rw[Zko];omega);rw[nn_some',Ze (Zl hlt),Int.toNat_natCast,show i*4+o1+1=(i*4+1)+o1 by omega,h3.get (Zoa hi)];rfl
theorem ZsS {Bd:Za} (h:ZjI Bd) (n d:Nat) (ws:List Nat) (x:Int) (st:St) (hd:DevM st d ws) (hl:ws.length<1000000):run Bd (n+2) 331 [.ptr (some (d,0)),.int .i64 x] st=some (.val [.int .i64 (bif decide (x<0)||decide (x≥((ws.length/8:Nat):Int))then 2 else 0)],st):=by
 rw[Zf,h.eq];unfold ZgK;simp only[J_p,J_i,D_nil,Zc,Option.isNone_some,cond_false,J_b];cases decide (x<0)with
 |true=>rfl
 |false=>
  rw[cond_false,Bool.false_or,Zi (Zo5 h.q12 n d ws st hd hl)];simp only[J_i,D_nil];cases decide (x≥((ws.length/8:Nat):Int))<;>rfl
end Go.Gv.F
