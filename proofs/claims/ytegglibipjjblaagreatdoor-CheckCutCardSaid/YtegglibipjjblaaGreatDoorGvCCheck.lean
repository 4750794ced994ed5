/- An image is checked: the program's layer 27. -/
import Derived.Test.YtegglibipjjblaaGreatDoorGvCPick
namespace Go.Gv.F
open Go.Gv
variable {β:Type}
theorem Zrc {l:List UInt8} {x:SupV} (h:getS l=some x):ZI x=true∧x.charts.length≤8:=by
 unfold getS at h;cases ho:openB l with
 |none=>rw[ho]at h;cases h
 |some q=>
  obtain⟨k,n,t⟩:=q;rw[ho]at h;simp only at h;cases h1:decide (k=7)&&decide (n≤8)with
  |false=>rw[h1]at h;cases h
  |true=>
   rw[h1,cond_true]at h;rw[Bool.and_eq_true,decide_eq_true_iff,decide_eq_true_iff]at h1;cases h2:ZI (supOf t n)&&Zz (t.drop (32+2*n))with
   |false=>rw[h2]at h;cases h
   |true=>
    rw[h2,cond_true]at h;cases h;rw[Bool.and_eq_true]at h2;exact⟨h2.1,by rw[show(supOf t n).charts.length=n from Zjf t n];exact h1.2⟩
theorem ZkZ {l:List UInt8} {k:Nat} {x:SupV} (h:readS l k=some x):k<l.length/64∧getS (lineF l k)=some x:=by
 unfold readS at h;cases h1:decide (k<l.length/64)with
 |false=>rw[h1]at h;cases h
 |true=>rw[h1,cond_true]at h;exact⟨of_decide_eq_true h1,h⟩
theorem Zpj {a b:Option SupV} {x:SupV} (h:stepP a b=some x):a=some x∨b=some x:=by
 cases a with
 |none=>cases b with
  |none=>cases h
  |some y=>exact .inr h
 |some z=>cases b with
  |none=>exact .inl h
  |some y=>
   have h:(bif decide (y.seq>z.seq)then some y else some z)=some x:=h;cases hd:decide (y.seq>z.seq)with
   |true=>rw[hd,cond_true]at h;exact .inr h
   |false=>rw[hd,cond_false]at h;exact .inl h
theorem Zom {l:List UInt8} {x:SupV} (h:pickF l=some x): ∃k,k<2∧readS l k=some x:=by
 unfold pickF at h;rcases Zpj h with h|h
 ·rcases Zpj h with h|h
  ·cases h
  ·exact⟨0,by omega,h⟩
 ·exact⟨1,by omega,h⟩
def Zcp (img:List UInt8):Option (SupV×WkV)×Int:=match pickF img with
 |none=>(none,30)
 |some x=>match walkF (wkOf img x)with
  |some (some v)=>bif Zkj img x v.W then(some (x,v),0)else(none,32)
  |_=>(none,31)
def Zz5 (st:St) (r:Option (SupV×WkV)×Int) (o:Out (List DV)×St):Prop:=∃s',Pre st s'∧match r with
 |(none,e)=>o=(.val [.agg (stC st0 0 none 0 none 0 none),.ptr none,.int .i64 e],s')∧e≠0
 |(some (x,v),_)=>∃z2 p2 z3 p3 z4 p4 i j,o=(.val [.agg (stC (stOf x v) z2 p2 z3 p3 z4 p4),.ptr (some (i,0)),.int .i64 0],s')∧(z2=2∨p2=none)∧(z3=1∨p3=none)∧(z4=1∨p4=none)∧StR s' (stOf x v) p2 p3 p4∧SetM s' false i j x.blocks.toNat (x.charts.foldl (addW x.blocks.toNat) v.W)
theorem Sl.words {s:St} {j:Nat} {f f':Bool} {W W':List Nat} (hj:s[j]? =some (some ⟨f,Zp W⟩)) (hl:W'.length=W.length) {p:Option (Nat×Nat)} {cs:List DV} (h:Sl s p cs) (hn: ∀(d:DV) (r:List DV) (w:Nat),cs=d::r→d≠ .int .u64 w):Sl (s.set j (some ⟨f',Zp W'⟩)) p cs:=by
 cases p with
 |none=>exact h
 |some q=>
  obtain⟨i,o⟩:=q;obtain⟨g,all,h1,h2,h3⟩:=h;by_cases hij:i=j
  ·subst hij
   rw[hj]at h1;cases h1;have hc:cs=[]:=by
    cases cs with
    |nil=>rfl
    |cons d r=>
     exfalso;have hlt:o<(Zp W).length:=by
      rw[List.length_cons]at h2;omega
     have h4:(Zp W)[o]? =some d:=by
      have:=congrArg (fun l:List DV=>l[0]?) h3;simpa using this
     rw[Zb3]at hlt;have h5:(Zp W)[o]? =some (.int .u64 (W[o]:Nat)):=by
      unfold Zp;rw[List.getElem?_map,List.getElem?_eq_getElem hlt];rfl
     rw[h5]at h4;exact hn d r _ rfl (Option.some.inj h4).symm
   subst hc;refine⟨f',_,List.getElem?_set_self (List.getElem?_eq_some_iff.1 hj).1,?_,rfl⟩;rw[Zb3,hl,←Zb3];exact h2
  ·exact⟨g,all,by rw[List.getElem?_set_ne (fun e=>hij e.symm)];exact h1,h2,h3⟩
theorem StR.words {s:St} {j:Nat} {f f':Bool} {W W':List Nat} (hj:s[j]? =some (some ⟨f,Zp W⟩)) (hl:W'.length=W.length) {x:StV} {p1 p2 p3:Option (Nat×Nat)} (h:StR s x p1 p2 p3):StR (s.set j (some ⟨f',Zp W'⟩)) x p1 p2 p3:=by
 have hi: ∀(l:List Int) (d:DV) (r:List DV) (w:Nat),ints l=d::r→d≠ .int .u64 w:=fun l d r w e=>by
  cases l with
  |nil=>cases e
  |cons a l=>cases e;intro e;cases e
 obtain⟨ds,h1,h2⟩:=h.hp;refine⟨⟨ds,h1.words hj hl fun d r w e=>?_,h2.ents fun p es k=>k.words hj hl fun d r w e=>?_⟩,h.gn.words hj hl (hi _),h.fr.words hj hl (hi _)⟩
 ·cases hh:x.heaps with
  |nil=>rw[hh]at h2;rw[show ds=[]from h2]at e;cases e
  |cons y t=>
   rw[hh]at h2;obtain⟨z,p,t',_,h3,_⟩:=h2;rw[h3]at e;cases e;intro e;cases e
 ·cases es with
  |nil=>cases e
  |cons a l=>cases e;intro e;cases e
theorem ZpZ {Bd:Za} (h:Zg8 Bd) (n:Nat) (a:Option (Nat×Nat)) (img:List UInt8) (st:St) (ht:Tabs st) (ha:Byt st a img) (hl:img.length<262144) (hn:50000≤n):
  Ok (Zz5 st (Zcp img)) (run Bd n 324 [.slice 1 a img.length] st):=by
 obtain⟨n,rfl⟩: ∃m,n=m+1:=⟨n-1,by omega⟩;obtain⟨R,hR⟩: ∃R,Zcp img=R:=⟨_,rfl⟩;rw[hR];unfold Zcp at hR;rw[Zf,h.eq];unfold Zey;simp only[J_l,D_nil];refine Ok.call (Zt2 h.q114 n a img st ha hl (by omega)) ?_;rintro _ ⟨d,s1,rfl,hp1,hd⟩;refine⟨_,s1,rfl,?_⟩;simp only[J_p,D_nil];refine Ok.call (Zts h.q126 n d img s1 hd hl (by omega)) ?_;rintro _ ⟨s2,cs,k,b,rfl,hp2,hm⟩;refine⟨_,s2,rfl,?_⟩;have hb:=hm.b;cases hpk:pickF img with
 |none=>
  rw[hpk]at hm hb hR;subst hb;obtain⟨⟨z,rfl⟩,_⟩:=hm;rw[Z2];unfold zeroZ;simp only[J_i,Zm 1 z none _ (.inr rfl),J_b,D_nil];rw[show(!Option.isSome (none:Option SupV))=true from rfl,cond_true,Zb,←hR];exact .mk ⟨s2,hp1.trans hp2,rfl,by omega⟩
 |some x=>
 rw[hpk]at hm hb hR;simp only at hR;subst hb;obtain⟨q,rfl,_,hq⟩:=hm;obtain⟨kx,_,hrx⟩:=Zom hpk;obtain⟨hsf,hcl⟩:=Zrc (ZkZ hrx).2;rw[Z2];unfold supC;simp only[J_i,J_l,J_b,D_nil];rw[show(!Option.isSome (some x))=false from rfl,cond_false];have hsup:([.int .i64 x.seq,.int .i64 x.blocks,.int .i64 x.slots,.int .i64 x.g,.int .i64 x.fan,.int .i64 x.used,.int .i64 x.free,.int .i64 x.dir,.slice 1 q x.charts.length]:List DV)=supC x q:=rfl;simp only[hsup];have hp12:=hp1.trans hp2;have ha2:=ha.mono hp12;refine Ok.call (Zk3 h.q109 n a img x q s2 ha2 hq (by omega) (by omega) (by omega)) ?_;intro o ho;cases hw:walkF (wkOf img x)with
 |none=>
  rw[hw]at ho hR;obtain⟨s3,rfl,hp3⟩:=ho;refine⟨_,s3,rfl,?_⟩;rw[Z2];unfold stC;simp only[J_i,Zm 2 0 none _ (.inr rfl),Zm 1 0 none _ (.inr rfl),J_p,D_nil];rw[show(!((2:Int)==0))=true from rfl,cond_true,Zb,←hR];exact .mk ⟨s3,hp12.trans hp3,rfl,by omega⟩
 |some w=>
 cases w with
 |none=>
  rw[hw]at ho hR;obtain⟨s3,rfl,hp3⟩:=ho;refine⟨_,s3,rfl,?_⟩;rw[Z2];unfold stC;simp only[J_i,Zm 2 0 none _ (.inr rfl),Zm 1 0 none _ (.inr rfl),J_p,D_nil];rw[show(!((31:Int)==0))=true from rfl,cond_true,Zb,←hR];exact .mk ⟨s3,hp12.trans hp3,rfl,by omega⟩
 |some v=>
 rw[hw]at ho hR;simp only at hR;obtain⟨s3,z2,p2,z3,p3,z4,p4,i,j,rfl,hp3,hz2,hz3,hz4,hst,hset,hj,hij⟩:=ho;refine⟨_,s3,rfl,?_⟩;rw[Z2];unfold stC;simp only[J_i,Zm 2 z2 p2 _ hz2,Zm 1 z3 p3 _ hz3,Zm 1 z4 p4 _ hz4,J_p,D_nil];rw[show(!((0:Int)==0))=false from rfl,cond_false];have hp13:=hp12.trans hp3;refine Ok.call (ZoZ h.q50 n a img x q (some (x.blocks.toNat,v.W)) (some (i,0)) s3 (ht.mono hp13) (ha2.mono hp3) (hq.mono hp3) ⟨false,i,j,rfl,hset⟩ (by omega) (by omega) (by omega)) ?_;rintro _ ⟨s4,rfl,hp4⟩;refine⟨_,s4,rfl,?_⟩;have hch:ZiB img x (some (x.blocks.toNat,v.W))=Zkj img x v.W:=by
  unfold ZiB;rw[hw];simp
 rw[hch];simp only[J_b,D_nil];cases hcr:Zkj img x v.W with
 |false=>
  rw[hcr,cond_false]at hR;rw[Bool.not_false,cond_true,Zb,←hR];exact .mk ⟨s4,hp13.trans hp4,rfl,by omega⟩
 |true=>
  rw[hcr,cond_true]at hR;rw[Bool.not_true,cond_false];have hoff:Off [j] q:=fun b o e hm=>by
   subst e;have:=Sl.lt hq;rw[List.mem_singleton]at hm;omega
  have hset4:=hset.pre hp4;rw[Zi (Zeg h.q45 n x.charts q s4 hset4 hij (hq.mono (hp3.trans hp4)) hoff (by omega) (by omega))];simp only[D_nil,Zb];rw[←hR];have hf:=ZbZ x.blocks.toNat x.charts v.W;have h2:=hp2.len;have h1:=hp1.len;refine .mk ⟨_,Zcj (hp13.trans hp4) (by omega) _,2,p2,1,p3,1,p4,i,j,rfl,.inl rfl,.inl rfl,.inl rfl,(hst.pre hp4).words hset4.wd hf.1,hset4.add hij _ hf.1 (hf.2 hset.lt)⟩
def ZhS (l:List HeapV) (a:Int):Int:=l.foldl (fun a h=>wr64 (a+(h.ents.length:Nat))) a
def ZwR (x:SupV) (v:WkV):List DV:=[.int .i64 (ZhS v.heaps 0),.int .i64 (v.heaps.length:Nat),.int .i64 (v.free.length:Nat),.int .i64 (wr64 (wr64 (((v.gens.length:Nat):Int)-ZhS v.heaps 0)-((v.free.length:Nat):Int))),.int .i64 (Zkd (x.charts.foldl (addW x.blocks.toNat) v.W))]
def Zmw:List DV:=[.int .i64 0,.int .i64 0,.int .i64 0,.int .i64 0,.int .i64 0]
def Zz2 (st:St) (r:Option (SupV×WkV)×Int) (o:Out (List DV)×St):Prop:=∃s',Pre st s'∧match r with
 |(none,e)=>o=(.val [.agg Zmw,.int .i64 e],s')
 |(some (x,v),_)=>o=(.val [.agg (ZwR x v),.int .i64 0],s')
theorem Zf3 {Bd:Za} (h:Zc6 Bd) (n:Nat) (a:Option (Nat×Nat)) (img:List UInt8) (st:St) (ht:Tabs st) (ha:Byt st a img) (hl:img.length<262144) (hh: ∀x v e,Zcp img=(some (x,v),e)→v.heaps.length<1000) (hn:50010≤n):
  Ok (Zz2 st (Zcp img)) (run Bd n 323 [.slice 1 a img.length] st):=by
 obtain⟨n,rfl⟩: ∃m,n=m+1:=⟨n-1,by omega⟩;rw[Zf,h.eq];unfold Zc8;simp only[J_l,D_nil];refine Ok.call (ZpZ h.q62 n a img st ht ha hl (by omega)) ?_;rintro o ⟨s1,hp1,ho⟩;obtain⟨R,hR⟩: ∃R,Zcp img=R:=⟨_,rfl⟩;rw[hR]at ho⊢;obtain⟨r,e⟩:=R;cases r with
 |none=>
  simp only at ho;obtain⟨rfl,he⟩:=ho;refine⟨_,s1,rfl,?_⟩;rw[Z2];unfold stC;simp only[J_i,Zm 2 0 none _ (.inr rfl),Zm 1 0 none _ (.inr rfl),J_p,D_nil];rw[show(!(e==0))=true by rw[beq_eq_false_iff_ne.2 he];rfl,cond_true,Zb];exact .mk ⟨s1,hp1,rfl⟩
 |some q=>
  obtain⟨x,v⟩:=q;have hhl:=hh x v e hR;simp only at ho;obtain⟨z2,p2,z3,p3,z4,p4,i,j,rfl,hz2,hz3,hz4,hst,hset⟩:=ho;refine⟨_,s1,rfl,?_⟩;rw[Z2];unfold stC;simp only[J_i,Zm 2 z2 p2 _ hz2,Zm 1 z3 p3 _ hz3,Zm 1 z4 p4 _ hz4,J_p,D_nil];rw[show(!((0:Int)==0))=false from rfl,cond_false];have hcn:run Bd n 183 [.ptr (some (i,0))] s1=some (.val [.int .i64 (Zkd (x.charts.foldl (addW x.blocks.toNat) v.W))],s1):=ok_eq (Zsh h.q29 n s1 hset (by omega));rw[ZcD hcn (.refl s1)];simp only[J_i,D_nil,Zc];have e1:(stOf x v).heaps=v.heaps:=rfl;have e2:(stOf x v).gens=v.gens:=rfl;have e3:(stOf x v).free=v.free:=rfl;obtain⟨ds,hs,hhe⟩:=hst.hp;rw[e1]at hhe;rw[e1,e2,e3];refine Zk _ (fun q y s=>∃k:Nat,y=[.agg [.int .i64 (ZhS (v.heaps.take k) 0),.int .i64 (v.heaps.length:Nat),.int .i64 (v.free.length:Nat),.int .i64 0,.int .i64 (Zkd (x.charts.foldl (addW x.blocks.toNat) v.W))],.int .i64 k]∧k≤v.heaps.length∧v.heaps.length-k≤q∧s=s1) ?_ v.heaps.length n _ _ ⟨0,rfl,Nat.zero_le _,by omega,rfl⟩ (by omega);rintro q _ s ⟨k,rfl,hk,hq,rfl⟩ rec hrec;rw[Z2];simp only[J_i,D_nil];by_cases hlt:k<v.heaps.length
  ·obtain⟨i1,o1,rfl⟩:=hs.some_of (by rw[hhe.len];omega)
   have eg:v.heaps[k]? =some v.heaps[k]:=List.getElem?_eq_getElem hlt;obtain⟨za,pa,hza,hpa,la⟩:=Zxq (β:=List DV) hs hhe eg;rw[decide_eq_true (show(k:Int)<(v.heaps.length:Int) by omega),cond_true,nn_some',Ze (Zl hlt),Int.toNat_natCast,la];unfold heapZ;simp only[J_s,Zm 4 za pa _ hza,D_nil];rw[Zd (x:=(k:Int)+1) (by omega) (by omega)];refine hrec (v.heaps.length-(k+1)) _ _ (by omega) ⟨k+1,?_,by omega,by omega,rfl⟩;rw[List.take_succ_eq_append_getElem hlt];unfold ZhS;rw[List.foldl_append];rfl
  ·rw[decide_eq_false (show ¬(k:Int)<(v.heaps.length:Int) by omega),cond_false,Z2]
   simp only[J_i,D_nil,Zb];have:k=v.heaps.length:=by omega
   subst this;rw[List.take_length];exact .mk ⟨s,hp1,rfl⟩
end Go.Gv.F
