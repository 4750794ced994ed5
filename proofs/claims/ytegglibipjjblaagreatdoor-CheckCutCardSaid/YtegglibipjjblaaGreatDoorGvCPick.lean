/- The root that counts, and the check of an image: the program's layers 16 and 27. -/
import Derived.Test.YtegglibipjjblaaGreatDoorGvCSup
import Derived.Test.YtegglibipjjblaaGreatDoorGvZMe
namespace Go.Gv.F
open Go.Gv
variable {β:Type}
def readS (img:List UInt8) (k:Nat):Option SupV:=bif decide (k<img.length/64)then getS (lineF img k)else none
def stepP:Option SupV→Option SupV→Option SupV
 |b,none=>b
 |none,some y=>some y
 |some x,some y=>bif decide (y.seq>x.seq)then some y else some x
def pickF (img:List UInt8):Option SupV:=stepP (stepP none (readS img 0)) (readS img 1)
theorem J_sup (x:SupV) (p:Option (Nat×Nat)) (l:List DV) (K:List DV→List DV→M β):J.a (.agg (supC x p)::l) K=K (supC x p) l:=rfl
theorem Z2 (cs l:List DV) (K:List DV→List DV→M β):J.a (.agg cs::l) K=K cs l:=rfl
theorem Zt4 {Bd:Za} (h:Zjr Bd) (n d:Nat) (l:List UInt8) (k:Nat) (st:St) (hd:DevM st d (ZX l (8*(l.length/64)))) (hl:l.length<262144) (hk:k<2) (hn:300≤n):
  Ok (SupQ st (readS l k)) (run Bd n 327 [.ptr (some (d,0)),.int .i64 k] st):=by
 obtain⟨n,rfl⟩: ∃m,n=m+1:=⟨n-1,by omega⟩;obtain⟨r,hr⟩: ∃r,readS l k=r:=⟨_,rfl⟩;rw[hr];unfold readS at hr;rw[Zf,h.eq];unfold Zgp;simp only[J_p,J_i,D_nil,Zc];rw[decide_eq_false (show ¬(k:Int)<0 by omega),cond_false,decide_eq_false (show ¬(k:Int)≥2 by omega)];simp only[J_b,D_nil,cond_false];refine Ok.call (Zsl h.q95 n d l k st hd hl (by omega) (by omega)) ?_;rintro o ⟨s1,hp1,ho⟩;by_cases hlt:k<l.length/64
 ·rw[if_pos hlt]at ho
  obtain⟨p,rfl,hf⟩:=ho;rw[decide_eq_true hlt,cond_true]at hr;refine⟨_,s1,rfl,?_⟩;simp only[J_l,J_i,D_nil];rw[show(!((0:Int)==0))=false from rfl,cond_false];have hll:(lineF l k).length=64:=by unfold lineF;rw[List.length_take,List.length_drop];omega
  have hg:=ZsX h.q128 n p (lineF l k) s1 hf.byt (by omega) (by omega);rw[hll,hr]at hg;refine Ok.call hg ?_;rintro o ⟨s2,hp2,ho⟩;cases r with
  |none=>
   obtain⟨z,rfl⟩:=ho;refine⟨_,s2,rfl,?_⟩;rw[Z2];unfold zeroZ;simp only[J_i,Zm 1 z none _ (.inr rfl),J_b,D_nil,Zb];exact .mk ⟨s2,hp1.trans hp2,1,rfl⟩
  |some x=>
   simp only at ho;obtain⟨q,rfl,hq⟩:=ho;refine⟨_,s2,rfl,?_⟩;rw[J_sup];unfold supC;simp only[J_i,J_l,J_b,D_nil,Zb];exact .mk ⟨s2,hp1.trans hp2,q,rfl,hq⟩
 ·rw[if_neg hlt]at ho
  subst ho;rw[decide_eq_false hlt,cond_false]at hr;refine⟨_,s1,rfl,?_⟩;simp only[Zm 1 0 none _ (.inr rfl),J_i,D_nil];rw[show(!((2:Int)==0))=true from rfl,cond_true,Zb,←hr];exact .mk ⟨s1,hp1,0,rfl⟩
def SupM (s:St) (r:Option SupV) (cs:List DV) (b:Bool):Prop:=match r with
 |none=>(∃z,cs=zeroZ z)∧b=false
 |some x=>∃p,cs=supC x p∧b=true∧Sl s p (ints x.charts)
theorem SupM.mono {s s':St} {r:Option SupV} {cs:List DV} {b:Bool} (h:SupM s r cs b) (k:Pre s s'):SupM s' r cs b:=by
 cases r with
 |none=>exact h
 |some x=>obtain⟨p,h1,h2,h3⟩:=h;exact⟨p,h1,h2,h3.mono k⟩
def nineC (a1 a2 a3 a4 a5 a6 a7 a8:Int) (z:Nat) (p:Option (Nat×Nat)) (n:Nat):List DV:=[.int .i64 a1,.int .i64 a2,.int .i64 a3,.int .i64 a4,.int .i64 a5,.int .i64 a6,.int .i64 a7,.int .i64 a8,.slice z p n]
theorem SupM.nine {s:St} {r:Option SupV} {cs:List DV} {b:Bool} (h:SupM s r cs b): ∃a1 a2 a3 a4 a5 a6 a7 a8 z p n,cs=nineC a1 a2 a3 a4 a5 a6 a7 a8 z p n∧(z=1∨p=none)∧(∀x,r=some x→a1=x.seq)∧SupM s r (nineC a1 a2 a3 a4 a5 a6 a7 a8 1 p n) b:=by
 cases r with
 |none=>
  obtain⟨⟨z,rfl⟩,rfl⟩:=h;exact⟨0,0,0,0,0,0,0,0,z,none,0,rfl,.inr rfl,fun x e=>(by cases e),⟨1,rfl⟩,rfl⟩
 |some x=>
  obtain⟨p,rfl,rfl,h3⟩:=h;exact⟨_,_,_,_,_,_,_,_,1,p,_,rfl,.inl rfl,fun x e=>(by cases e;rfl),p,rfl,rfl,h3⟩
theorem SupQ.out {st:St} {r:Option SupV} {o:Out (List DV)×St} (h:SupQ st r o): ∃s' cs b,o=(.val [.agg cs,.bool b],s')∧Pre st s'∧SupM s' r cs b:=by
 obtain⟨s',hp,h⟩:=h;cases r with
 |none=>obtain⟨z,h⟩:=h;exact⟨s',_,_,h,hp,⟨z,rfl⟩,rfl⟩
 |some x=>obtain⟨p,h1,h2⟩:=h;exact⟨s',_,_,h1,hp,p,rfl,rfl,h2⟩
theorem SupM.b {s:St} {r:Option SupV} {cs:List DV} {b:Bool} (h:SupM s r cs b):b=r.isSome:=by
 cases r with
 |none=>exact h.2
 |some x=>obtain⟨p,_,h2,_⟩:=h;exact h2
def PickQ (st:St) (r:Option SupV) (o:Out (List DV)×St):Prop:=∃s' cs k b,o=(.val [.agg cs,.int .i64 k,.bool b],s')∧Pre st s'∧SupM s' r cs b
def bestP (l:List UInt8):Nat→Option SupV
 |0=>none
 |i+1=>stepP (bestP l i) (readS l i)
theorem Zts {Bd:Za} (h:Zjg Bd) (n d:Nat) (l:List UInt8) (st:St) (hd:DevM st d (ZX l (8*(l.length/64)))) (hl:l.length<262144) (hn:400≤n):
  Ok (PickQ st (pickF l)) (run Bd n 326 [.ptr (some (d,0))] st):=by
 obtain⟨n,rfl⟩: ∃m,n=m+4:=⟨n-4,by omega⟩;rw[Zf,h.eq];unfold ZgP;simp only[J_p,D_nil];refine Ok.join fun jk1 h1=>?_
 refine Zk _ (fun q y s=>∃(i:Nat) (cs:List DV) (k:Int) (b:Bool),y=[.agg cs,.int .i64 k,.bool b,.int .i64 i]∧i≤2∧2-i≤q∧Pre st s∧SupM s (bestP l i) cs b) ?_ 2 (n+3) _ _ ⟨0,_,0,false,rfl,by omega,by omega,.refl st,⟨0,rfl⟩,rfl⟩ (by omega);rintro q _ s ⟨i,cs,k,b,rfl,hi,hq,hp,hm⟩ rec hrec;obtain⟨a1,a2,a3,a4,a5,a6,a7,a8,z,p,m,rfl,hz,hseq,hm1⟩:=hm.nine;rw[Z2];unfold nineC;simp only[J_i,Zm 1 z p _ hz,J_b,D_nil];by_cases hlt:i<2
 ·rw[decide_eq_true (show(i:Int)<2 by omega),cond_true]
  refine Ok.call (Zt4 h.q127 (n+3) d l i s (hd.mono hp) hl hlt (by omega)) ?_;intro o ho;obtain⟨s1,cs1,b1,rfl,hp1,hm2⟩:=ho.out;refine⟨_,s1,rfl,?_⟩;obtain⟨c1,c2,c3,c4,c5,c6,c7,c8,z',p',m',rfl,hz',hseq',hm3⟩:=hm2.nine;rw[Z2];unfold nineC;simp only[J_i,Zm 1 z' p' _ hz',J_b,D_nil];have hw:wr64 ((i:Int)+1)=((i+1:Nat):Int):=Zd (by omega) (by omega);refine Ok.join fun jk2 h2=>?_
  have A2: ∀c r,stepP (bestP l i) (readS l i)=(bif c then readS l i else bestP l i)→r=c→(c=true→b1=true)→Ok (PickQ st (pickF l)) (jk2 [.bool r] s1):=by
   intro c r e er ht;subst er;rw[h2];simp only[J_b,D_nil,Zc];cases r with
   |true=>
    rw[cond_true,Z2];simp only[J_i,J_l,J_b,D_nil];rw[hw];refine hrec (2-(i+1)) _ _ (by omega) ⟨i+1,_,_,true,rfl,by omega,by omega,hp.trans hp1,?_⟩;rw[cond_true]at e;show SupM s1 (stepP (bestP l i) (readS l i)) _ _;rw[e];rw[ht rfl]at hm3;exact hm3
   |false=>
    rw[cond_false,Z2];simp only[J_i,J_l,J_b,D_nil];rw[hw];refine hrec (2-(i+1)) _ _ (by omega) ⟨i+1,_,_,b,rfl,by omega,by omega,hp.trans hp1,?_⟩;rw[cond_false]at e;show SupM s1 (stepP (bestP l i) (readS l i)) _ _;rw[e];exact hm1.mono hp1
  have hb1:=hm2.b;have hb:=hm.b;cases hr:readS l i with
  |none=>
   rw[hr]at hb1;subst hb1;rw[show(Option.isSome (none:Option SupV))=false from rfl,cond_false];exact A2 false false (by rw[hr];cases bestP l i<;>rfl) rfl (fun e=>by cases e)
  |some y=>
   rw[hr]at hb1;subst hb1;rw[show(Option.isSome (some y))=true from rfl,cond_true,Zc];cases hbe:bestP l i with
   |none=>
    rw[hbe]at hb;subst hb;rw[show(!Option.isSome (none:Option SupV))=true from rfl,cond_true];simp only[J_b,D_nil];exact A2 true true (by rw[hr,hbe];rfl) rfl (fun _=>rfl)
   |some x=>
    rw[hbe]at hb;subst hb;rw[show(!Option.isSome (some x))=false from rfl,cond_false];simp only[J_b,D_nil];refine A2 (decide (y.seq>x.seq)) _ (by rw[hr,hbe];rfl) ?_ (fun _=>rfl);rw[hseq' y hr,hseq x hbe]
 ·rw[decide_eq_false (show ¬(i:Int)<2 by omega),cond_false,h1]
  have:i=2:=by omega
  subst this;simp only[Z2,J_i,J_l,J_b,D_nil,Zb];exact .mk ⟨s,_,k,b,rfl,hp,hm1⟩
end Go.Gv.F
