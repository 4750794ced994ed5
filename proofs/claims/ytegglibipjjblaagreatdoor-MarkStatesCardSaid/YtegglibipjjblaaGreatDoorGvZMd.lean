/- States alike: the program's own comparison. -/
import Derived.Test.YtegglibipjjblaaGreatDoorGvZMc
namespace Go.Gv.F
open Go.Gv
variable {β:Type}
theorem Zxg (c c':Zg) (n:Nat) (args:List DV):ZQ c n args=xu c' n args:=rfl
theorem Zkg {Bd:Za} (h:Z9 Bd) (n za zb:Nat) (l m:List bc) (p q:Option (Nat×Nat)) (st:St) (uM:za=4\/p=none) (uN:zb=4\/q=none) (hp:Sl st p (bK l)) (hq:Sl st q (bK m)) (hl:l.length<=50000) (hn:50100<=n):
  Ok (fun o=>∃b,o=(.val [.bool b],st)/\(b=true↔l=m)) (run Bd n 235 [.slice za p l.length,.slice zb q m.length] st):=by
 obtain⟨n,rfl⟩: ∃m,n=m+1:=⟨n-1,by omega⟩;have:=ZiP (Bd:=fun _=>xu) ⟨rfl⟩ (n+1) za zb l m p q st uM uN hp hq hl hn;rw[Zf]at this;rw[Zf,h.eq,Zxg _ (run (fun _=>xu) n)];exact this
theorem Ztr {Bd:Za} (h:Hg Bd) (n za zb:Nat) (x y:cJ) (p q:Option (Nat×Nat)) (st:St) (uM:za=4\/p=none) (uN:zb=4\/q=none) (hp:Sl st p (bK x.aK)) (hq:Sl st q (bK y.aK)) (hl:x.aK.length<=50000) (hn:50110<=n):
  Ok (fun o=>∃b,o=(.val [.bool b],st)/\(b=true↔x=y)) (run Bd n 199 [.agg (kX x za p),.agg (kX y zb q)] st):=by
 obtain⟨n,rfl⟩: ∃m,n=m+1:=⟨n-1,by omega⟩;rw[Zf,h.eq];unfold Hr kX;rw[bU];simp only[bV,Zm 4 za p _ uM,ae];rw[bU];simp only[bV,Zm 4 zb q _ uN,ae,Zb];by_cases nC:x.name=y.name
 ·rw[show(x.name==y.name)=true by rw[nC];exact fH _,cond_true]
  refine Ok.call (Zkg h.q2 n 4 4 x.aK y.aK p q st (.inl rfl) (.inl rfl) hp hq hl (by omega)) ?_;rintro _ ⟨c,rfl,hc⟩;refine⟨_,st,rfl,?_⟩;simp only[ai,ae,Zc];refine .mk ⟨c,rfl,hc.trans ⟨fun e=>?_,fun e=>by rw[e]⟩⟩;cases x;cases y;simp only at nC e;subst nC e;rfl
 ·rw[show(x.name==y.name)=false from cg.2 nC,cond_false]
  simp only[ai,ae,Zc];exact .mk ⟨false,rfl,by simp only[nQ,false_iff];exact fun e=>nC (by rw[e])⟩
theorem ZqY {s:St} {i o j:Nat} {ds:List DV} {xs:List cJ} {x:cJ} (hs:Sl s (some (i,o)) ds) (hh:hU s ds xs) (e:xs[j]? =some x): ∃z p,(z=4\/p=none)/\Sl s p (bK x.aK)/\∀K:List DV->M β,M.load i (j*2+o) 2 K s=K (kX x z p) s:=by
 obtain⟨z,p,hz,h1,_,_,h2⟩:=hh.get e;have hj:j<xs.length:=(cw.1 e).1;exact⟨z,p,hz,h2,fun K=>by rw[hs.I8 (k:=j*2) (n:=2) (by rw[hh.len];omega) K,h1]⟩
theorem ZmA {Bd:Za} (h:ZB Bd) (h2:Hg Bd) (n z1 z2:Nat) (xs ys:List cJ) (p q:Option (Nat×Nat)) (st:St) (iu:z1=2\/p=none) (gv:z2=2\/q=none) (hx: ∃ds,Sl st p ds/\hU st ds xs) (hy: ∃ds,Sl st q ds/\hU st ds ys) (sz:KM xs) (hn:50120<=n):
  Ok (fun o=>∃b,o=(.val [.bool b],st)/\(b=true↔xs=ys)) (run Bd n 198 [.slice z1 p xs.length,.slice z2 q ys.length,.func 199 [] []] st):=by
 obtain⟨n,rfl⟩: ∃m,n=m+1:=⟨n-1,by omega⟩;rw[Zf,h.eq];unfold Zu;simp only[Zm 2 z1 p _ iu,Zm 2 z2 q _ gv,KJ,ae];have no:xs≠ys->Ok (fun o=>∃b,o=(.val [.bool b],st)/\(b=true↔xs=ys)) ((M.ret [.bool false]:M (List DV)) st):=by
  intro hm;rw[Zc];exact .mk ⟨false,rfl,by simp[hm]⟩
 by_cases hlen:xs.length=ys.length;rotate_left
 ·rw[show((xs.length:Int)==(ys.length:Int))=false from cg.2 (by omega),bu,cond_true]
  exact no fun e=>hlen (by rw[e])
 rw[show((xs.length:Int)==(ys.length:Int))=true by rw[hlen];exact fH _,bg,cond_false,Zb];obtain⟨ds,hs,hh⟩:=hx;obtain⟨es,gs,gh⟩:=hy;have cL:=sz.len;refine Zl _ (fun k v s=>∃i:Nat,v=[.int .i64 i]/\i<=xs.length/\xs.length-i<=k/\s=st/\∀j,j<i->xs[j]? =ys[j]?) ?_ xs.length n _ _ ⟨0,rfl,bH _,by omega,rfl,fun j hj=>absurd hj (sc j)⟩ (by omega);rintro k _ s ⟨i,rfl,hi,hk,rfl,bW⟩ rec aD;simp only[al,ae];by_cases aj:i<xs.length
 ·obtain⟨i1,o1,rfl⟩:=hs.cm (by rw[hh.len];omega)
  obtain⟨i2,o2,rfl⟩:=gs.cm (by rw[gh.len];omega);have e1:xs[i]? =some xs[i]:=ba aj;have e2:ys[i]? =some ys[i]:=ba (by omega);generalize xs[i]=a at e1;generalize ys[i]=b at e2;have PX:=sz.aK a (kK e1);obtain⟨za,pa,uM,QN,la⟩:=ZqY (β:=List DV) hs hh e1;obtain⟨zb,pb,uN,QO,lb⟩:=ZqY (β:=List DV) gs gh e2;rw[ah (show(i:Int)<(xs.length:Int) by omega),cond_true,aW,Ze (Zk aj),aY,la];unfold kX;simp only[bV,Zm 4 za pa _ uM,ae];rw[aW,Ze (Zk (by omega)),lb];unfold kX;simp only[bV,Zm 4 zb pb _ uN,ae];refine Ok.call (Ztr h2 n 4 4 a b pa pb s (.inl rfl) (.inl rfl) QN QO PX (by omega)) ?_;rintro _ ⟨c,rfl,hc⟩;refine⟨_,s,rfl,?_⟩;simp only[ai,ae];cases c with
  |false=>
   rw[bu,cond_true];exact no fun e=>by
    rw[<-e,e1]at e2;cases e2;cases hc.2 rfl
  |true=>
   have cR:a=b:=hc.1 rfl;rw[bg,cond_false,Zd (by omega) (by omega)];refine aD (xs.length-(i+1)) _ _ (by omega) ⟨i+1,rfl,by omega,by omega,rfl,fun j hj=>?_⟩;by_cases ij:j<i
   ·exact bW j ij
   ·have:j=i:=by omega
    subst this;rw[e1,e2,cR]
 ·rw[ao (show ¬(i:Int)<(xs.length:Int) by omega),cond_false,Zc]
  refine .mk ⟨true,rfl,?_⟩;simp only[true_iff];exact mP fun j=>by
   by_cases hj:j<i
   ·exact bW j hj
   ·rw[dL (by omega),dL (by omega)]
theorem Zf9 {Bd:Za} (h:KT Bd) (n:Nat) (ws vs:List Int) (a b:Option (Nat×Nat)) (st:St) (ha:Sl st a (ints ws)) (hb:Sl st b (ints vs)) (hn:ws.length+2<=n) (hs:ws.length<1000000):
  Ok (fun o=>o=(.val [.bool (decide (ws=vs))],st)) (run Bd n 114 [.slice 1 a ws.length,.slice 1 b vs.length] st):=by
 obtain⟨n,rfl⟩: ∃m,n=m+1:=⟨n-1,by omega⟩;rw[Zf,h.eq,ZoI];exact Zv9 _ n ws vs 1 1 a b st (.inl rfl) (.inl rfl) ha hb (by omega) (by omega)
theorem ZlO {Bd:Za} (h:Hp Bd) (n:Nat) (x y:cK) (z1 z2 z3:Nat) (p1 p2 p3:Option (Nat×Nat)) (yW u9 va:Nat) (q1 q2 q3:Option (Nat×Nat)) (st:St) (iu:z1=2\/p1=none) (gv:z2=1\/p2=none) (iZ:z3=1\/p3=none)
  (Re:yW=2\/q1=none) (Rf:u9=1\/q2=none) (Rg:va=1\/q3=none) (hx:l8 st x p1 p2 p3) (hy:l8 st y q1 q2 q3) (sz:zn x) (hn:50200<=n):
  Ok (fun o=>∃b,o=(.val [.bool b],st)/\(b=true↔x=y)) (run Bd n 174 [.agg (cP x z1 p1 z2 p2 z3 p3),.agg (cP y yW q1 u9 q2 va q3)] st):=by
 obtain⟨n,rfl⟩: ∃m,n=m+1:=⟨n-1,by omega⟩;rw[Zf,h.eq];unfold Hl;have ag: ∀(v:cK) (z1 z2 z3:Nat) (p1 p2 p3:Option (Nat×Nat)) (l:List DV) (K:List DV->List DV->M (List DV)),J.a (.agg (cP v z1 p1 z2 p2 z3 p3)::l) K=K (cP v z1 p1 z2 p2 z3 p3) l:=fun _ _ _ _ _ _ _ _ _=>rfl
 simp only[ag];unfold cP;simp only[al,Zm 2 z1 p1 _ iu,Zm 1 z2 p2 _ gv,Zm 1 z3 p3 _ iZ,Zm 2 yW q1 _ Re,Zm 1 u9 q2 _ Rf,Zm 1 va q3 _ Rg,ae,Zb];have no:x≠y->Ok (fun o=>∃b,o=(.val [.bool b],st)/\(b=true↔x=y)) (some (Out.val [DV.bool false],st)):=fun hm=> .mk ⟨false,rfl,by simp[hm]⟩
 have hg:((x.blocks==y.blocks)&&((x.bX==y.bX)&&((x.g==y.g)&&true)))=true↔x.blocks=y.blocks/\x.bX=y.bX/\x.g=y.g:=by
  simp only[wZ,aH,lW]
 cases lM:((x.blocks==y.blocks)&&((x.bX==y.bX)&&((x.g==y.g)&&true)))with
 |false=>
  rw[cond_false];simp only[ai,ae,cond_false,Zc];refine no fun e=>?_
  rw[hg.2 ⟨by rw[e],by rw[e],by rw[e]⟩]at lM;cases lM
 |true=>
 have qC:=hg.1 lM;rw[cond_true];refine Ok.call (ZmA h.q0 h.Xr n 2 2 x.av y.av p1 q1 st (.inl rfl) (.inl rfl) hx.hp hy.hp sz.h (by omega)) ?_;rintro _ ⟨c,rfl,hc⟩;refine⟨_,st,rfl,?_⟩;simp only[ai,ae];cases c with
 |false=>
  rw[cond_false];simp only[cond_false,Zc];exact no fun e=>by cases hc.2 (by rw[e])
 |true=>
 have Da:=hc.1 rfl;rw[cond_true];refine Ok.call (Zf9 h.q10 n x.gens y.gens p2 q2 st hx.gn hy.gn (by have:=sz.g;omega) (by have:=sz.g;omega)) ?_;rintro _ rfl;refine⟨_,st,rfl,?_⟩;simp only[ai,ae];by_cases nz:x.gens=y.gens;rotate_left
 ·rw[ao nz,cond_false]
  simp only[Zc];exact no fun e=>nz (by rw[e])
 rw[ah nz,cond_true];refine Ok.call (Zf9 h.q10 n x.free y.free p3 q3 st hx.fr hy.fr (by have:=sz.f;omega) (by have:=sz.f;omega)) ?_;rintro _ rfl;refine⟨_,st,rfl,?_⟩;simp only[ai,ae,Zc];by_cases eK:x.free=y.free;rotate_left
 ·rw[ao eK]
  exact no fun e=>eK (by rw[e])
 rw[ah eK];refine .mk ⟨true,rfl,?_⟩;simp only[true_iff];cases x;cases y;simp only at qC nz eK Da;obtain⟨h1,h2,h3⟩:=qC;subst h1 h2 h3 nz eK Da;rfl
end Go.Gv.F
namespace Go.Gv.F
open Go.Gv
theorem sw (w j:Nat):dG w j=w.testBit j:=by rw[Nat.testBit_eq_decide_div_mod_eq];rfl
theorem ZvQ: ∀(w:Nat),0<w->∃k m,w=2^k*(2*m+1)
 |0,h=>absurd h (by decide)
 |w+1,_=>by
  by_cases h:(w+1)%2=1
  ·exact⟨0,(w+1)/2,by omega⟩
  ·obtain⟨k,m,e⟩:=ZvQ ((w+1)/2) (by omega)
   exact⟨k+1,m,by rw[mS,Nat.mul_right_comm,<-e];omega⟩
termination_by w=>w
decreasing_by omega
theorem tR (k a j:Nat):(2^k*a).testBit j=(decide (k<=j)&&a.testBit (j-k)):=by
 rw[Nat.testBit_two_pow_mul]
theorem Cf (m i:Nat):(2*m+1).testBit i=(decide (i=0)||(2*m).testBit i):=by
 cases i with
 |zero=>simp[Nat.testBit_zero]
 |succ i=>
  rw[Nat.testBit_succ,Nat.testBit_succ,show(2*m+1)/2=m by omega,show 2*m/2=m by omega];simp
theorem ZqZ (m:Nat):(2*m).testBit 0=false:=by simp[Nat.testBit_zero]
theorem ZyZ (k a b j:Nat) (h:b<2^k):(2^k*a+b).testBit j=if j<k then b.testBit j else a.testBit (j-k):=by
 rw[Nat.testBit_two_pow_mul_add a h]
theorem Zzp (k m:Nat):2^k*(2*m+1)&&& (2^k*(2*m+1)-1)=2^k*(2*m):=by
 have hp:0<2^k:=mT k;have e:2^k*(2*m+1)-1=2^k*(2*m)+(2^k-1):=by rw[Nat.mul_add,dx];omega
 rw[e];refine Ew fun j=>?_
 rw[Nat.testBit_and,tR,ZyZ k _ _ j (by omega),tR];by_cases hj:j<k
 ·rw[ao (by omega)];simp
 ·rw[ay hj,ah (show k<=j by omega),Cf]
  cases h0:decide (j-k=0)with
  |true=>rw[mU h0,ZqZ];rfl
  |false=>simp
theorem Zz4 (k m n:Nat) (hk:k<n) (h:2^k*(2*m+1)<2^n):2^k*(2*m+1)&&& (2^n-2^k*(2*m+1))=2^k:=by
 have hp:0<2^k:=mT k;have hn:2^n=2^k*(2*2^(n-k-1)):=by rw[<-Nat.pow_succ',<-Nat.pow_add];congr 1;omega
 rw[hn]at h⊢;have hm:2*m+1<2*2^(n-k-1):=Nat.lt_of_mul_lt_mul_left h;have dH:m<2^(n-k-1):=by omega
 rw[<-Nat.mul_sub,show 2*2^(n-k-1)-(2*m+1)=2*(2^(n-k-1)-(m+1))+1 by omega];refine Ew fun j=>?_
 rw[Nat.testBit_and,tR,tR,Nat.testBit_two_pow,Cf,Cf];by_cases hj:k<=j
 ·rw[ah hj]
  by_cases h0:j=k
  ·subst h0;simp
  ·rw[ao (show ¬k=j by omega),ao (show ¬j-k=0 by omega)]
   obtain⟨i,hi⟩: ∃i,j-k=i+1:=⟨j-k-1,by omega⟩;rw[hi,Nat.testBit_succ,Nat.testBit_succ,Nat.mul_div_cancel_left _ (by decide),Nat.mul_div_cancel_left _ (by decide),Nat.testBit_two_pow_sub_succ dH];cases m.testBit i<;>simp
 ·rw[ao hj,ao (show ¬k=j by omega)];rfl
def nb (w:Nat):List Nat:=(List.range 64).filter (dG w)
theorem ZwU:nb 0=[]:=by
 unfold nb;rw[Ky];intro j _;rw[sw,Nat.zero_testBit];simp
theorem Zxz (k n:Nat) (h:k<n):List.range n=List.range k++k::List.range' (k+1) (n-k-1):=by
 have:n=k+(1+(n-k-1)):=by omega
 rw[Ev,Ev]
 conv=>lhs;rw[this]
 rw[<-List.range'_append_1,qT 1,Bs,dy]
theorem Zwn (k m:Nat) (hk:k<64):nb (2^k*(2*m+1))=k::nb (2^k*(2*m)):=by
 unfold nb;rw[Zxz k 64 hk,w8,w8,List.filter_cons,List.filter_cons];have h1: ∀a,(List.range k).filter (dG (2^k*a))=[]:=fun a=>by
  rw[Ky];intro j hj;rw[sw,tR,ao (by have:=jd.1 hj;omega)];simp
 have h2:dG (2^k*(2*m+1)) k=true:=by rw[sw,tR,Cf];simp
 have h3:dG (2^k*(2*m)) k=false:=by rw[sw,tR,pV,ZqZ];simp
 rw[h1,h1,h2,h3,aF rfl,ay (by decide),fu,fu];refine congrArg (k:: ·) (List.filter_congr fun j hj=>?_);rw[sw,sw,tR,tR,Cf,ao (show ¬j-k=0 by have:=List.mem_range'_1.1 hj;omega)];rfl
theorem Nl (w:Nat):(nb w).length<=64:=by
 have:=List.length_filter_le (dG w) (List.range 64);rw[Eu]at this;exact this
def sH:Nat->List Nat->List Int
 |_,[]=>[]
 |b,w::r=>(nb w).map (fun j=>((b*64+j:Nat):Int))++sH (b+1) r
def lh (W:List Nat):List Int:=sH 0 W
theorem Zpq: ∀(b:Nat) (W:List Nat),(sH b W).length<=64*W.length
 |_,[]=>aA _
 |b,w::r=>by
  unfold sH;have:=Zpq (b+1) r;have:=Nl w;rw[aZ,lV,ee];omega
theorem Zoz: ∀(b:Nat) (W:List Nat) (w:Nat),sH b (W++[w])=sH b W++(nb w).map (fun j=>(((b+W.length)*64+j:Nat):Int))
 |b,[],w=>by simp[sH]
 |b,x::r,w=>by
  rw[j3];unfold sH;rw[Zoz (b+1) r w,dB,ee,Nat.add_right_comm b 1,lA b]
theorem Zwy (W:List Nat) {i:Nat} (h:i<W.length):lh (W.take (i+1))=lh (W.take i)++(nb W[i]).map (fun j=>((i*64+j:Nat):Int)):=by
 unfold lh;rw[kL h,Zoz,cn,jK (by omega),dy]
end Go.Gv.F
namespace Go.Gv.F
open Go.Gv
variable {β:Type}
def KN (Bd:Za):Prop:=∀(n k m:Nat) (st:St),tK st->k<64->2^k*(2*m+1)<18446744073709551616->run Bd (n+1) 86 [.int .u64 ((2^k*(2*m+1):Nat):Int)] st=some (.val [.int .i64 (k:Int)],st)
theorem Zw7 {a b:Nat} (ha:a<18446744073709551616) (hb:b<18446744073709551616):bits .and .u64 (a:Int) (b:Int)=((a&&& b:Nat):Int):=SK ha hb
theorem LK (W:List Nat) (i:Nat):(lh (W.take i)).length<=64*W.length:=by
 have h1:=Zpq 0 (W.take i);unfold lh;rw[cn]at h1;have:min i W.length<=W.length:=Nat.min_le_right _ _;omega
theorem Zma {Bd:Za} (h:FB Bd) (hz:KN Bd) (n:Nat) {f:Bool} {i j m:Nat} {W:List Nat} (st:St) (ht:tK st) (hs:eU st f i j m W) (hn:80<=n):
  Ok (fun o=>∃p s',o=(.val [.slice 1 p (lh W).length],s')/\aw st s'/\Sl s' p (ints (lh W))/\∀b∈aC p,st.length<=b) (run Bd n 172 [.ptr (some (i,0))] st):=by
 obtain⟨n,rfl⟩: ∃k,n=k+2:=⟨n-2,by omega⟩;rw[Zf,h.eq];unfold FG;simp only[fa,ae,aW];rw[Zn hs.hd rfl];simp only[jw,Zb];have hle:=hs.le;have hlen:=hs.len;refine Zl _ (fun q y s=>∃(a z:Nat) (p:Option (Nat×Nat)),y=[.slice z p (lh (W.take a)).length,.int .i64 a]/\(z=1\/p=none)/\a<=W.length/\W.length-a<=q/\bh st s p (ints (lh (W.take a)))) ?_ W.length (n+1) _ _ ⟨0,0,none,rfl,.inr rfl,bH _,by omega,bh.nil (.refl st)⟩ (by omega);rintro q _ s ⟨a,z,p,rfl,Rj,ha,hq,ho⟩ rec aD;simp only[al,Zm 1 z p _ Rj,ae];have gu:=hs.pre ho.1;by_cases aj:a<W.length
 ·rw[ah (show(a:Int)<(W.length:Int) by omega),cond_true,aW,Ze (Zk aj),aY]
  have Q9:W[a]? =some W[a]:=ba aj;have DG:=hs.lt _ (gC aj);rw[Zn (d:= .int .u64 (W[a]:Nat)) gu.wd (by rw[dx,dC];simp[ZD,aj])];simp only[aS];have qF:=Zwy W aj;have hA:=LK W a;have hB:=LK W (a+1);generalize lh (W.take a)=A at ho qF hA;generalize W[a]=w at DG qF;have cc:af ((a:Int)+1)=((a+1:Nat):Int):=Zd (by omega) (by omega);have fE:af ((a:Int)*64)=((a*64:Nat):Int):=by rw[Zd (by omega) (by omega)];omega
  simp only[cc,fE];obtain⟨F,hF⟩: ∃F:Nat->Int,(fun j=>((a*64+j:Nat):Int))=F:=⟨_,rfl⟩;rw[hF]at qF;refine Zl _ (fun q' y t=>∃(w' z':Nat) (D:List Nat) (p':Option (Nat×Nat)),y=[.slice z' p' (A++D.map F).length,.int .u64 (w':Int)]/\(z'=1\/p'=none)/\w'<18446744073709551616/\D++nb w'=nb w/\(nb w').length<=q'/\bh st t p' (ints (A++D.map F))) ?_ 64 (n+1) _ _ ⟨w,1,[],p,by rw[List.map_nil,dZ],.inl rfl,DG,rfl,Nl w,by rw[List.map_nil,dZ];exact ho⟩ (by omega);rintro q' _ t ⟨w',z',D,p',rfl,WW,Ua,hD,wD,yl⟩ dW pE;simp only[al,Zm 1 z' p' _ WW,ae];by_cases hw0:w'=0
  ·subst hw0
   rw[show(!(((0:Nat):Int)==0))=false from rfl,cond_false];simp only[br,ae];rw[ZwU,dZ]at hD;rw[hD,<-qF]at yl⊢;exact aD (W.length-(a+1)) _ _ (by omega) ⟨a+1,1,p',rfl,.inl rfl,by omega,aA _,yl⟩
  ·have hnz:(!((w':Int)==0))=true:=by rw[gZ,cg];omega
   obtain⟨k,m',e⟩:=ZvQ w' (by omega);have hk:k<64:=by
    rcases eJ k 64 with h|h
    ·exact h
    ·have h1:2^64<=2^k:=pU (by decide) h
     have h2:2^k*1<=2^k*(2*m'+1):=Nat.mul_le_mul_left _ (by omega);have h3:(2:Nat)^64=18446744073709551616:=by decide
     omega
   rw[hnz,cond_true];subst e;rw[Zj (hz n k m' t (ht.mono yl.1) hk Ua)];simp only[al,ae];have nE:af (((a*64:Nat):Int)+(k:Int))=F k:=by rw[<-hF];exact Zd (by omega) (by omega)
   rw[nE];have rH:IntKind.wrap .u64 (((2^k*(2*m'+1):Nat):Int)-1)=((2^k*(2*m'+1)-1:Nat):Int):=by
    have h1:(((2^k*(2*m'+1):Nat):Int)-1)=((2^k*(2*m'+1)-1:Nat):Int):=by omega
    rw[h1];exact tY (by omega)
   have fC:bits .and .u64 (((2^k*(2*m'+1):Nat):Int)) (IntKind.wrap .u64 (((2^k*(2*m'+1):Nat):Int)-1))=((2^k*(2*m'):Nat):Int):=by
    rw[rH,Zw7 Ua (by omega),Zzp]
   rw[fC];rw[Zwn k m' hk]at hD wD;have hlD:(A++D.map F).length<=1000000:=by
    have h1:=congrArg List.length hD;rw[aZ]at h1;have:=Nl w;rw[aZ,lV];omega
   obtain⟨p2,s2,dq,nA,he⟩:=yl.wT (β:=List DV) (sz:=1) (n:=(A++D.map F).length) (lim:=8796093022208) [.int .i64 (F k)] (sf 0) (by simp[ints]) rfl (by omega);refine Eq.mpr (congrArg (Ok _) (he _)) ?_;refine pE (nb (2^k*(2*m'))).length _ _ (by simp at wD;omega) ⟨_,1,D++[k],p2,?_,.inl rfl,?_,by rw[dB];exact hD,aA _,?_⟩
   ·rw[dD,<-dB,aZ (as:=A++D.map F)];rfl
   ·have:2^k*(2*m')<=2^k*(2*m'+1):=Nat.mul_le_mul_left _ (by omega)
    omega
   ·rw[dD,<-dB]
    unfold ints at dq⊢;rw[dD (l₁:=A++D.map F)];exact dq
 ·rw[ao (show ¬(a:Int)<(W.length:Int) by omega),cond_false]
  simp only[br,ae,Zc];rw[cF (by omega)]at ho⊢;refine .mk ⟨p,s,rfl,ho.1,ho.sl,fun b hb=>?_⟩;rcases ho.2 with⟨rfl,_⟩|⟨i',rfl,h1,_⟩
  ·cases hb
  ·rw[bP.1 hb];exact h1
end Go.Gv.F
namespace Go.Gv.F
open Go.Gv
variable {β:Type}
def Uz (x:Int):Int:=match ER (fun _ _=>fail) 0 [.int .u64 x] []with
 |some (.val [.int _ v],_)=>v
 |_=>0
theorem ZsP {Bd:Za} (h:K1 Bd) (n:Nat) (x:Int) (st:St):run Bd (n+1) 210 [.int .u64 x] st=some (.val [.int .i64 (Uz x)],st):=by
 rw[Zf,h.eq];rfl
def OJ:Int->List Nat->Int
 |a,[]=>a
 |a,w::r=>OJ (af (a+Uz w)) r
def IJ (W:List Nat):Int:=OJ 0 W
theorem Zsh {Bd:Za} (h:K9 Bd) (n:Nat) {f:Bool} {i j m:Nat} {W:List Nat} (st:St) (hs:eU st f i j m W) (hn:80<=n):Ok (fun o=>o=(.val [.int .i64 (IJ W)],st)) (run Bd n 183 [.ptr (some (i,0))] st):=by
 obtain⟨n,rfl⟩: ∃k,n=k+2:=⟨n-2,by omega⟩;rw[Zf,h.eq];unfold FO;simp only[fa,ae,aW];rw[Zn hs.hd rfl];simp only[jw,Zb];have hle:=hs.le;have hlen:=hs.len;refine Zl _ (fun q y s=>∃(a:Nat) (c:Int),y=[.int .i64 c,.int .i64 a]/\a<=W.length/\W.length-a<=q/\s=st/\OJ c (W.drop a)=IJ W) ?_ W.length (n+1) _ _ ⟨0,0,rfl,bH _,by omega,rfl,rfl⟩ (by omega);rintro q _ s ⟨a,c,rfl,ha,hq,rfl,hc⟩ rec aD;simp only[al,ae];by_cases aj:a<W.length
 ·rw[ah (show(a:Int)<(W.length:Int) by omega),cond_true,aW,Ze (Zk aj),aY]
  rw[Zn (d:= .int .u64 (W[a]:Nat)) hs.wd (by rw[dx,dC];simp[ZD,aj])];simp only[aS];rw[Zj (ZsP h.q16 n _ s)];simp only[al,ae];have cc:af ((a:Int)+1)=((a+1:Nat):Int):=Zd (by omega) (by omega);rw[cc];refine aD (W.length-(a+1)) _ _ (by omega) ⟨a+1,_,rfl,by omega,aA _,rfl,?_⟩;rw[<-hc,hJ aj];rfl
 ·rw[ao (show ¬(a:Int)<(W.length:Int) by omega),cond_false]
  simp only[Zc];rw[mO (by omega)]at hc;exact .mk (by rw[<-hc];rfl)
theorem ZqG {Bd:Za} (h:KR Bd) (n:Nat) (W V:List Nat) (a b:Nat) (f g:Bool) (st:St) (ha:st[a]? =some (some ⟨f,ZD W⟩)) (hb:st[b]? =some (some ⟨g,ZD V⟩)) (hW:W.length<100000) (hn:W.length+3<=n):
  Ok (fun o=>o=(.val [.bool (decide (W=V))],st)) (run Bd n 236 [.slice 1 (some (a,0)) W.length,.slice 1 (some (b,0)) V.length] st):=by
 obtain⟨n,rfl⟩: ∃k,n=k+2:=⟨n-2,by omega⟩;rw[Zf,h.eq];unfold Z6;simp only[br,ae];have no:W≠V->Ok (fun o=>o=(.val [.bool (decide (W=V))],st)) ((M.ret [.bool false]:M (List DV)) st):=by
  intro hm;rw[Zc];exact .mk (by rw[ao hm])
 by_cases hlen:W.length=V.length;rotate_left
 ·rw[show((W.length:Int)==(V.length:Int))=false from cg.2 (by omega),bu,cond_true]
  exact no fun e=>hlen (by rw[e])
 rw[show((W.length:Int)==(V.length:Int))=true by rw[hlen];exact fH _,bg,cond_false,Zb];refine Zl _ (fun k v s=>∃i:Nat,v=[.int .i64 i]/\i<=W.length/\W.length-i<=k/\s=st/\∀j,j<i->W[j]? =V[j]?) ?_ W.length (n+1) _ _ ⟨0,rfl,bH _,by omega,rfl,fun j hj=>absurd hj (sc j)⟩ (by omega);rintro k _ s ⟨i,rfl,hi,hk,rfl,bW⟩ rec aD;simp only[al,ae];by_cases aj:i<W.length
 ·have lO:i<V.length:=by omega
  rw[ah (show(i:Int)<(W.length:Int) by omega),cond_true,aW,Ze (Zk aj),aY];rw[Zn (d:= .int .u64 (W[i]:Nat)) ha (by rw[dx,dC];simp[ZD,aj])];simp only[aS];rw[aW,Ze (Zk lO)];rw[Zn (d:= .int .u64 (V[i]:Nat)) hb (by rw[dx,dC];simp[ZD,lO])];simp only[aS];by_cases hw:W[i]=V[i]
  ·rw[show(((W[i]:Nat):Int)==((V[i]:Nat):Int))=true by rw[hw];exact fH _,bg,cond_false,Zd (by omega) (by omega)]
   refine aD (W.length-(i+1)) _ _ (by omega) ⟨i+1,rfl,by omega,by omega,rfl,fun j hj=>?_⟩;by_cases ij:j<i
   ·exact bW j ij
   ·have:j=i:=by omega
    subst this;rw[ba aj,ba lO,hw]
  ·rw[show(((W[i]:Nat):Int)==((V[i]:Nat):Int))=false from cg.2 (by omega),bu,cond_true]
   exact no fun e=>hw (by subst e;rfl)
 ·rw[ao (show ¬(i:Int)<(W.length:Int) by omega),cond_false,Zc]
  refine .mk ?_;have:W=V:=mP fun j=>by
   by_cases hj:j<i
   ·exact bW j hj
   ·rw[dL (by omega),dL (by omega)]
  rw[ah this]
theorem ZlA {Bd:Za} (h:Lj Bd) (n:Nat) {f g:Bool} {i j m i2 j2 m2:Nat} {W V:List Nat} (st:St) (hs:eU st f i j m W) (jG:eU st g i2 j2 m2 V) (hn:80<=n):
  Ok (fun o=>o=(.val [.bool (decide (m=m2)&&decide (W=V))],st)) (run Bd n 202 [.ptr (some (i,0)),.ptr (some (i2,0))] st):=by
 obtain⟨n,rfl⟩: ∃k,n=k+1:=⟨n-1,by omega⟩;rw[Zf,h.eq];unfold FC;simp only[fa,ae,aW];rw[Zn hs.hd rfl];simp only[aS];rw[Zn jG.hd rfl];simp only[aS,Zb];have hle:=hs.le;have hlen:=hs.len;by_cases hm:m=m2
 ·rw[show((m:Int)==(m2:Int))=true by rw[hm];exact fH _,cond_true,Zn hs.hd rfl]
  simp only[jw];rw[Zn jG.hd rfl];simp only[jw];refine Ok.call (ZqG h.q5 n W V j j2 f g st hs.wd jG.wd (by omega) (by omega)) ?_;rintro _ rfl;refine⟨_,st,rfl,?_⟩;simp only[ai,ae,Zc];exact .mk (by rw[ah hm,cI])
 ·rw[show((m:Int)==(m2:Int))=false from cg.2 (by omega),cond_false]
  simp only[ai,ae,Zc];exact .mk (by rw[ao hm,eE])
def oe (l:List ZJ):List DV:=(l.map Zz).flatten
theorem HC {x:ZJ} (h:x.cO.length=48):(Zz x).length=49:=by unfold Zz;rw[ee,Zt,h]
theorem MN: ∀ {l:List ZJ},(∀x∈l,x.cO.length=48)->(oe l).length=l.length*49
 |[],_=>rfl
 |x::l,h=>by
  show(Zz x++oe l).length=_;rw[aZ,HC (h x (by simp)),MN fun y hy=>h y (by simp[hy]),ee];omega
theorem Znk: ∀ {l:List ZJ} {j:Nat} {e:ZJ},(∀x∈l,x.cO.length=48)->l[j]? =some e->((oe l).drop (j*49)).take 49=Zz e
 |[],j,e,_,h=>by simp at h
 |x::l,0,e,hl,h=>by
  simp only[gJ,cQ]at h;subst h;rw[nV,dw];have:=HC (hl x (by simp));show(Zz x++oe l).take 49=_;rw[<-this,vg]
 |x::l,j+1,e,hl,h=>by
  have e2:oe (x::l)=Zz x++oe l:=rfl;have h49:=HC (hl x (by simp));rw[e2,show(j+1)*49=(Zz x).length+j*49 by omega,<-iM,pR];exact Znk (fun y hy=>hl y (by simp[hy])) (by simpa using h)
theorem ZuP (l m:List ZJ):oe (l++m)=oe l++oe m:=by
 unfold oe;rw[dD,vb]
def DY (m:Nat) (x:ZJ):Bool:=bif decide (0<(fO x 384).length)then decide ((fO x 384).getLastD 0>=(m:Int))else false
def Ad (m:Nat):Nat->List ZJ->List Nat->Option (List Nat)
 |_,[],W=>some W
 |i,x::r,W=>bif decide (x.no=i)&& !DY m x then Ad m (i+1) r ((fO x 384).foldl (c9 m) W)else none
def Az (m:Nat) (l:List ZJ):Option (List Nat):=bif decide ((l.length:Int)=nM m 384)then Ad m 0 l (oJ m [])else none
theorem ZpE {Bd:Za} (h:L5 Bd) (n:Nat) (x:Int) (st:St):run Bd (n+1) 240 [.int .i64 x] st=some (.val [.int .i64 (nM x 384)],st):=by
 rw[Zf,h.eq];rfl
theorem ZuA {Bd:Za} (h:MO Bd) (n m:Nat) (l:List ZJ) (p:Option (Nat×Nat)) (z:Nat) (st:St) (hm:m<=3072) (hz:z=49\/p=none) (hl:Sl st p (oe l)) (xU: ∀x∈l,x.cO.length=48/\x.no<8) (il:l.length<1000) (hn:2000<=n):
  Ok (fun o=>∃s',aw st s'/\match Az m l with
   |none=>o=(.val [.ptr none,.bool false],s')
   |some F=>∃i j,o=(.val [.ptr (some (i,0)),.bool true],s')/\eU s' false i j m F) (run Bd n 200 [.int .i64 (m:Int),.slice z p l.length] st):=by
 obtain⟨n,rfl⟩: ∃k,n=k+2:=⟨n-2,by omega⟩;obtain⟨R,hR⟩: ∃R,Az m l=R:=⟨_,rfl⟩;rw[hR];unfold Az at hR;rw[Zf,h.eq];unfold G0;simp only[al,Zm 49 z p _ hz,ae];rw[Zb,ao (show ¬((m:Nat):Int)<0 by omega),cond_false,ao (show ¬((m:Nat):Int)>3072 by omega)];simp only[ai,ae];rw[Zb,cond_false,Zj (ZpE h.q56 n m st)];simp only[al,ai,ae];have hq:(((l.length:Nat):Int)==nM m 384)=decide (((l.length:Nat):Int)=nM m 384):=rfl;rw[hq];cases AL:decide (((l.length:Nat):Int)=nM m 384)with
 |false=>
  rw[AL,cond_false]at hR;rw[bu,cond_true,Zc,<-hR];exact .mk ⟨st,.refl st,rfl⟩
 |true=>
 rw[AL,cond_true]at hR;rw[bg,cond_false];obtain⟨s1,e1,aJ,Jy,JP⟩:=Nt h.Bh (n+1) m [] none st hm rfl (by show 0<1000000;omega) (by show 0+4<=n+1;omega);have qg:run Bd (n+1) 177 [.int .i64 (m:Int),.slice 0 none 0] st=some (.val [.ptr (some (st.length+1,0))],s1):=by
  rw[Zf,h.Bh.eq]at e1⊢;exact e1
 rw[Zj qg];simp only[fa,ae];rw[Zb];refine Zl _ (fun q y s=>∃(i:Nat) (W:List Nat),y=[.int .i64 i]/\i<=l.length/\l.length-i<=q/\aw st s/\eU s false (st.length+1) st.length m W/\Ad m i (l.drop i) W=R) ?_ l.length (n+1) _ _ ⟨0,_,rfl,bH _,by omega,aJ,JP,hR⟩ (by omega);rintro q _ s ⟨i,W,rfl,hi,hq,fD,cu,az⟩ rec aD;simp only[al,ae];by_cases aj:i<l.length
 ·have cL:=hl.mono fD
  have iY:l[i]? =some l[i]:=ba aj;obtain⟨PA,h8x⟩:=xU _ (gC aj);have hlen:=MN fun x hx=>(xU x hx).1
  obtain⟨i1,o1,rfl⟩:=cL.cm (by rw[hlen];omega);have jj:l.drop i=l[i]::l.drop (i+1):=hJ aj;rw[jj]at az;rw[ah (show(i:Int)<(l.length:Int) by omega),cond_true,aW,Ze (Zk aj),aY,cL.I8 (k:=i*49) (n:=49) (by rw[hlen];omega),Znk (fun x hx=>(xU x hx).1) iY];generalize l[i]=x at az PA h8x;unfold Ad at az;have gR:(bQ x.cO).length=48:=by rw[Zt,PA]
  show Ok _ (J.i .i64 (.int .i64 x.no::bQ x.cO) _ s);simp only[al];rw[bB gR,bB (by simp[gR])];refine Ok.call (Zr1 h.q82 (n+1) x PA h8x s (by omega)) ?_;rintro _ ⟨px,s2,rfl,bj,qA⟩;refine⟨_,s2,rfl,?_⟩;simp only[br,ae];have tg:=cu.pre bj;have Yp:=ZrA x 384;have iX: ∀t,aw st t->R=none->Ok (fun o=>∃s',aw st s'/\match R with
   |none=>o=(.val [.ptr none,.bool false],s')
   |some F=>∃i j,o=(.val [.ptr (some (i,0)),.bool true],s')/\eU s' false i j m F) ((M.ret [.ptr none,.bool false]:M (List DV)) t):=by
   intro t ht e;rw[e,Zc];exact .mk ⟨t,ht,rfl⟩
  have bp:((((x.no:Nat):Int))==((i:Nat):Int))=decide (x.no=i):=by
   by_cases e:x.no=i
   ·rw[e,ah rfl];exact fH _
   ·rw[ao e];exact cg.2 (by omega)
  rw[bp];cases bA:decide (x.no=i)with
  |false=>
   rw[bA,eE,cond_false]at az;rw[Zb,bu,cond_true];simp only[ai,ae,cond_true];exact iX s2 (fD.trans bj) az.symm
  |true=>
  rw[bA,cI]at az;obtain⟨ov,rF⟩: ∃ov,DY m x=ov:=⟨_,rfl⟩;rw[rF]at az;unfold DY at rF;refine Ok.join fun ca V0=>?_
  have hA:Ok (fun o=>∃s',aw st s'/\match R with
   |none=>o=(.val [.ptr none,.bool false],s')
   |some F=>∃i j,o=(.val [.ptr (some (i,0)),.bool true],s')/\eU s' false i j m F) (ca [.bool ov] s2):=by
   rw[V0];simp only[ai,ae];cases ov with
   |true=>
    rw[bg,cond_false]at az;rw[cond_true];exact iX s2 (fD.trans bj) az.symm
   |false=>
    rw[bu,cond_true]at az;rw[cond_false];have Ds:jN [st.length] px:=fun b o e hb=>by
     rw[bP.1 hb]at e;subst e;obtain⟨all,e1⟩:=qA.2 _ _ rfl;rw[tg.wd]at e1;cases e1
    rw[Zj (Hn h.yK (n+1) (fO x 384) px s2 tg (by omega) qA.1 Ds (by omega) (by omega))];simp only[ae];have cc:af ((i:Int)+1)=((i+1:Nat):Int):=Zd (by omega) (by omega);rw[cc];have Wv:=fD.trans bj;refine aD (l.length-(i+1)) _ _ (by omega) ⟨i+1,_,rfl,by omega,aA _,xE Wv (aA _) _,tg.add (by omega) _ (by rw[(sq m _ _).1]) ((sq m _ _).2 tg.lt),az⟩
  rw[bg,cond_false,Zb];cases uG:decide (0<(fO x 384).length)with
  |false=>
   rw[uG,cond_false]at rF;have:=vj uG;rw[ao (show ¬(((fO x 384).length:Nat):Int)>0 by omega),cond_false];simp only[ai,ae];subst rF;exact hA
  |true=>
   rw[uG,cond_true]at rF;have Yw:=mU uG;obtain⟨i2,o2,rfl⟩:=qA.1.cm (by simp[ints];omega);have fE:af ((((fO x 384).length:Nat):Int)-1)=(((fO x 384).length-1:Nat):Int):=by rw[Zd (by omega) (by omega)];omega
   rw[ah (show(((fO x 384).length:Nat):Int)>0 by omega),cond_true,aW,fE,Ze (Zk (by omega)),aY,qA.1.dj (Zw (by omega))];simp only[aS];have V3:(fO x 384)[(fO x 384).length-1]'(by omega)=(fO x 384).getLastD 0:=by
    rw[List.getLastD_eq_getLast?,List.getLast?_eq_getElem?,ba (by omega)];rfl
   rw[V3,rF];simp only[ai,ae];exact hA
 ·rw[ao (show ¬(i:Int)<(l.length:Int) by omega),cond_false]
  simp only[Zc];rw[mO (by omega)]at az;rw[<-az];exact .mk ⟨s,fD,_,_,rfl,cu⟩
end Go.Gv.F
namespace Go.Gv.F
open Go.Gv
variable {β:Type}
def bO (v:Int):Nat:=(v%18446744073709551616).toNat
def pO (v:Int):UInt8:=UInt8.ofNat (v%256).toNat
theorem od (v:Int):bO v<18446744073709551616:=by unfold bO;omega
theorem Zzw {x:Nat} (h:x<18446744073709551616):bO (x:Int)=x:=by unfold bO;omega
theorem zK (v:Int):IntKind.wrap .u64 v=((bO v:Nat):Int):=by
 have e:v=v/18446744073709551616*18446744073709551616+((bO v:Nat):Int):=by unfold bO;omega
 have h:=tY (od v);have hm:IntKind.wrap .u64 v=v%18446744073709551616:=rfl;rw[hm];unfold bO;omega
theorem Zt8 (v:Int):IntKind.wrap .u8 v=((pO v).toNat:Int):=by
 have hm:IntKind.wrap .u8 v=v%256:=rfl;rw[hm];unfold pO;show _=(((v%256).toNat%256:Nat):Int);omega
theorem ZpX {Bd:Za} (h:LI Bd) (n:Nat) (v i:Nat) (hv:v<18446744073709551616) (st:St) (hi:i<1000) (hn:i+3<=n):
  Ok (fun o=>o=(.val [.int .u8 ((v/256^i%256:Nat):Int)],st)) (run Bd n 248 [.int .u64 (v:Int),.int .i64 (i:Int)] st):=by
 obtain⟨n,rfl⟩: ∃k,n=k+2:=⟨n-2,by omega⟩;rw[Zf,h.eq];unfold Gh;simp only[al,ae,Zb];refine Zl _ (fun q y s=>∃k:Nat,y=[.int .u64 ((v/256^k:Nat):Int),.int .i64 (k:Int)]/\k<=i/\i-k<=q/\s=st) ?_ i (n+1) _ _ ⟨0,by rw[zh,Nat.div_one];rfl,bH _,by omega,rfl⟩ (by omega);rintro q _ s ⟨k,rfl,hk,hq,rfl⟩ rec aD;simp only[al,ae];have hd:v/256^k<18446744073709551616:=xe (Bw _ _) hv;by_cases aj:k<i
 ·rw[ah (show(k:Int)<(i:Int) by omega),cond_true]
  have h1:((v/256^k:Nat):Int).tdiv 256=((v/256^(k+1):Nat):Int):=by
   rw[mS,<-KA];rfl
  have h2:v/256^(k+1)<18446744073709551616:=xe (Bw _ _) hv;rw[h1,tY h2,Zd (by omega) (by omega)];exact aD (i-(k+1)) _ _ (by omega) ⟨k+1,rfl,by omega,aA _,rfl⟩
 ·rw[ao (show ¬(k:Int)<(i:Int) by omega),cond_false]
  have:k=i:=by omega
  subst this;simp only[Zc];refine .mk ?_;have h1:((v/256^k:Nat):Int).tmod 256=((v/256^k%256:Nat):Int):=rfl;rw[h1];have h2:IntKind.wrap .u8 ((v/256^k%256:Nat):Int)=((v/256^k%256:Nat):Int):=by
   show((v/256^k%256:Nat):Int)%256=_;omega
  rw[h2]
theorem ZxY (v n:Nat):bS v (n+1)=bS v n++[UInt8.ofNat (v/256^n)]:=by
 rw[Zta];rfl
theorem ZwI (x:Nat) (_h:x<256):oX [.int .u8 (x:Int)]=some [UInt8.ofNat x]:=rfl
theorem ZR {Bd:Za} (h:tL Bd) (n:Nat) (v k:Nat) (hv:v<18446744073709551616) (st:St) (hk:k<1000) (hn:k+10<=n):
  Ok (fun o=>∃s',o=(.val [.str (bS v k)],s')/\aw st s') (run Bd n 213 [.int .u64 (v:Int),.int .i64 (k:Int)] st):=by
 obtain⟨n,rfl⟩: ∃k,n=k+2:=⟨n-2,by omega⟩;rw[Zf,h.eq];unfold G3;simp only[al,ae,Zb];refine Zl _ (fun q y s=>∃i:Nat,y=[.str (bS v i),.int .i64 (i:Int)]/\i<=k/\k-i<=q/\aw st s) ?_ k (n+1) _ _ ⟨0,rfl,bH _,by omega,.refl st⟩ (by omega);rintro q _ s ⟨i,rfl,hi,hq,hp⟩ rec aD;simp only[bV,al,ae];by_cases aj:i<k
 ·rw[ah (show(i:Int)<(k:Int) by omega),cond_true]
  refine Ok.call (ZpX h.q69 (n+1) v i hv s (by omega) (by omega)) ?_;rintro _ rfl;refine⟨_,s,rfl,?_⟩;simp only[al,ae];rw[Zy,Ch (by show 0+1<=1;omega)];show Ok _ (D.cO [.int .u8 ((v/256^i%256:Nat):Int)] _ _);unfold D.cO;rw[ZwI _ (Nat.mod_lt _ (by decide))];simp only;rw[Ze (gD (by rw[Zq];show i+1<=_;omega)),Zd (by omega) (by omega)];refine aD (k-(i+1)) _ _ (by omega) ⟨i+1,?_,by omega,aA _,hp.trans (aw.new _ _)⟩;rw[ZxY];have:UInt8.ofNat (v/256^i%256)=UInt8.ofNat (v/256^i):=by
   refine UInt8.toNat_inj.1 ?_;show v/256^i%256%256=v/256^i%256;omega
  rw[this];rfl
 ·rw[ao (show ¬(i:Int)<(k:Int) by omega),cond_false]
  have:i=k:=by omega
  subst this;simp only[Zc];exact .mk ⟨s,rfl,hp⟩
theorem Zsn {Bd:Za} (h:L9 Bd) (n:Nat) (x:Nat) (hx:x<4294967296) (st:St):run Bd (n+1) 288 [.int .u32 (x:Int)] st=some (.val [.int .u32 (lu x:Nat)],st):=by
 rw[Zf,h.eq];unfold GD lu;simp only[al,ae];have h1:((x:Int).tmod 2==1)=decide (x%2=1):=by
  have e:(x:Int).tmod 2=((x%2:Nat):Int):=rfl;rw[e];by_cases h:x%2=1
  ·rw[h,ah rfl];rfl
  ·rw[ao h];exact cg.2 (by omega)
 have h2:(x:Int).tdiv 2=((x/2:Nat):Int):=rfl;rw[h1,h2,vK (by omega)];by_cases h:x%2=1
 ·rw[ah h,cond_true,aF h]
  have:=yV (x:=x/2) (y:=2197175160) (by omega) (by omega);rw[show((2197175160:Nat):Int)=2197175160 from rfl]at this;rw[this];rfl
 ·rw[ao h,cond_false,ay h];rfl
theorem Zqm {Bd:Za} (h:LP Bd) (n:Nat) (x k:Nat) (hx:x<4294967296) (st:St) (hk:k<1000) (hn:k+4<=n):
  Ok (fun o=>o=(.val [.int .u32 (Zv k x:Nat)],st)) (run Bd n 264 [.int .u32 (x:Int),.int .i64 (k:Int)] st):=by
 obtain⟨n,rfl⟩: ∃k,n=k+2:=⟨n-2,by omega⟩;rw[Zf,h.eq];unfold FU;simp only[al,ae,Zb];have lO: ∀i,Zv i x<4294967296:=fun i=>by
  induction i with
  |zero=>exact hx
  |succ i ih=>rw[GV];exact Zt6 ih
 refine Zl _ (fun q y s=>∃i:Nat,y=[.int .u32 ((Zv i x:Nat):Int),.int .i64 (i:Int)]/\i<=k/\k-i<=q/\s=st) ?_ k (n+1) _ _ ⟨0,rfl,bH _,by omega,rfl⟩ (by omega);rintro q _ s ⟨i,rfl,hi,hq,rfl⟩ rec aD;simp only[al,ae];by_cases aj:i<k
 ·rw[ah (show(i:Int)<(k:Int) by omega),cond_true,Zj (Zsn h.q94 n _ (lO i) s)]
  simp only[al,ae];rw[<-GV,Zd (by omega) (by omega)];exact aD (k-(i+1)) _ _ (by omega) ⟨i+1,rfl,by omega,aA _,rfl⟩
 ·rw[ao (show ¬(i:Int)<(k:Int) by omega),cond_false]
  have:i=k:=by omega
  subst this;simp only[Zc];exact .mk rfl
theorem ZtZ {Bd:Za} (h:MC Bd) (n:Nat) (a:Option (Nat×Nat)) (l:List UInt8) (st:St) (ha:dF st a l) (hl:l.length<1000000) (hn:l.length+20<=n):
  Ok (fun o=>o=(.val [.int .u32 (qb l:Nat)],st)) (run Bd n 242 [.slice 1 a l.length] st):=by
 obtain⟨n,rfl⟩: ∃k,n=k+2:=⟨n-2,by omega⟩;rw[Zf,h.eq];unfold G7;simp only[br,ae,Zb];refine Zl _ (fun q y s=>∃(i:Nat),y=[.int .u32 (((l.take i).foldl oG 4294967295:Nat):Int),.int .i64 (i:Int)]/\i<=l.length/\l.length-i<=q/\s=st) ?_ l.length (n+1) _ _ ⟨0,rfl,bH _,by omega,rfl⟩ (by omega);rintro q _ s ⟨i,rfl,hi,hq,rfl⟩ rec aD;simp only[al,ae];have hx:=Cm (l.take i) (x:=4294967295) (by omega);by_cases aj:i<l.length
 ·obtain⟨i1,o1,rfl⟩:=ha.cm (by omega)
  have iY:l[i]? =some l[i]:=ba aj;have gS:l.take (i+1)=l.take i++[l[i]]:=kL aj;rw[ah (show(i:Int)<(l.length:Int) by omega),cond_true,aW,Ze (Zk aj),aY,ha.dj iY];simp only[aS];have hc:=(l[i]).toNat_lt;rw[vK (by omega),yV hx (by omega)];refine Ok.call (Zqm h.q70 (n+1) _ 8 (By (n:=32) (by omega) (by omega)) s (by omega) (by omega)) ?_;rintro _ rfl;refine⟨_,s,rfl,?_⟩;simp only[al,ae];rw[Zd (by omega) (by omega)];refine aD (l.length-(i+1)) _ _ (by omega) ⟨i+1,?_,by omega,aA _,rfl⟩;rw[gS,List.foldl_append];rfl
 ·rw[ao (show ¬(i:Int)<(l.length:Int) by omega),cond_false]
  simp only[Zc];rw[cF (by omega)]at hx⊢;refine .mk ?_;have h1:(4294967295:Int)-((l.foldl oG 4294967295:Nat):Int)=((qb l:Nat):Int):=by unfold qb;omega
  rw[h1,vK (OR l)]
def ZZ (n:Nat):List UInt8:=List.replicate n 0
def dX (s:List UInt8) (n:Nat):List UInt8:=s++ZZ (n-s.length)
def lR (kind tag:Int) (body:List UInt8):List UInt8:=[pO kind,pO tag,0,0]++dX body 56
def fG (kind tag:Int) (body:List UInt8):List UInt8:=bS (qb (lR kind tag body)) 4++lR kind tag body
theorem Zrf (n:Nat):fj n [.int .u8 0]=bQ (ZZ n):=by
 unfold fj ZZ bQ;rw[List.map_replicate];induction n with
 |zero=>rfl
 |succ n ih=>rw[sb,mQ,ih,sb];rfl
theorem ZrZ {Bd:Za} (h:Mn Bd) (n:Nat) (s:List UInt8) (k:Nat) (hs:s.length<1000000) (hk:k<1000000) (st:St):
  Ok (fun o=>∃s',o=(.val [.str (dX s k)],s')/\aw st s') (run Bd (n+1) 249 [.str s,.int .i64 (k:Int)] st):=by
 rw[Zf,h.eq];unfold Gx;simp only[bV,al,ae];have hw:af ((k:Int)-(s.length:Int))=(k:Int)-(s.length:Int):=Zd (by omega) (by omega);have hd:(if (k:Int)-(s.length:Int)<0 then(0:Int)else(k:Int)-(s.length:Int))=((k-s.length:Nat):Int):=by
  split<;>omega
 simp only[hw,hd,aY];rw[Ze (by rw[aH,aH,bx,bx,bx];omega),Zy];rw[Zrf,Ch (by rw[Zt];unfold ZZ;rw[oO];omega),dw,cF (by rw[Zt];unfold ZZ;rw[oO];omega),<-vC,EB];rw[Ze (gD (by unfold ZZ;rw[oO];omega)),Zc];exact .mk ⟨_,rfl,aw.new _ _⟩
theorem xm {Bd:Za} (h:tM Bd) (n:Nat) (kind tag:Int) (body:List UInt8) (hb:body.length<100000) (st:St) (hn:body.length+200<=n):
  Ok (fun o=>∃s',o=(.val [.str (fG kind tag body)],s')/\aw st s') (run Bd n 214 [.int .i64 kind,.int .i64 tag,.str body] st):=by
 obtain⟨n,rfl⟩: ∃k,n=k+2:=⟨n-2,by omega⟩;rw[Zf,h.eq];unfold GC;simp only[bV,al,ae];have wb:([.int .u8 (IntKind.wrap .u8 kind),.int .u8 (IntKind.wrap .u8 tag),.int .u8 0,.int .u8 0]:List DV)=bQ [pO kind,pO tag,0,0]:=by
  rw[Zt8,Zt8];rfl
 rw[wb,Zy,Ch (by rw[Zt];show 0+4<=4;omega),dw,cF (by rw[Zt];show 4<=4;omega),<-vC,EB];refine Ok.ew (ZrZ h.q95 n body 56 (by omega) (by omega) _) ?_;rintro _ ⟨s1,rfl,aJ⟩;refine⟨_,s1,rfl,aJ,?_⟩;simp only[bV,ae];have eI:(dX body 56).length<=100056:=by
  unfold dX ZZ;rw[aZ,oO];omega
 have hS:[pO kind,pO tag,0,0]++dX body 56=lR kind tag body:=rfl;have hSl:(lR kind tag body).length=4+(dX body 56).length:=by unfold lR;rw[aZ];rfl
 have Yk:(dX body 56).length<=body.length+56:=by
  unfold dX ZZ;rw[aZ,oO];omega
 rw[Ze (gD (by show 4+_<=_;omega)),hS,Zy];refine Ok.call (ZtZ h.Xt (n+1) (some (s1.length,0)) (lR kind tag body) _ ⟨false,ZH (lR kind tag body),by simp,Nat.le_of_eq (by rw[dy,vC]),by rw[dw,vC,oQ]⟩ (by omega) (by omega)) ?_;rintro _ rfl;refine⟨_,_,rfl,?_⟩;simp only[al,ae];have hc:=OR (lR kind tag body);rw[tY (by omega)];refine Ok.call (ZR h.kD (n+1) _ 4 (by omega) _ (by omega) (by omega)) ?_;rintro _ ⟨s2,rfl,bj⟩;refine⟨_,_,rfl,?_⟩;simp only[bV,ae];rw[Ze (gD (by rw[Zq];omega)),Zc];exact .mk ⟨s2,rfl,(((aw.new _ _).trans aJ).trans (aw.new _ _)).trans bj⟩
theorem ZrJ {Bd:Za} (h:Ms Bd) (n:Nat) (a:Int) (k:Nat) (hk:0<k) (ik:k<1000000000) (_ha: -9223372036854775808<=a/\a<=9223372036854775807) (st:St):run Bd (n+1) 179 [.int .i64 a,.int .i64 (k:Int)] st=some (.val [.int .i64 (a%(k:Int))],st):=by
 rw[Zf,h.eq];unfold GO;simp only[al,ae];have h0:(!((k:Int)==0))=true:=by rw[gZ,cg];omega
 rw[Ze h0,Ze h0,Zc];have hb:=Int.tmod_lt_of_pos a (show(0:Int)<k by omega);have eH: -(k:Int)<a.tmod k:=by
  have:=Int.neg_tmod a k;have h3:=Int.tmod_lt_of_pos (-a) (show(0:Int)<k by omega);omega
 have hw:af (a.tmod k+k)=a.tmod k+k:=Zd (by omega) (by omega);rw[hw];have he:(a.tmod k+k).tmod k=a%k:=by
  rw[Int.tmod_eq_emod_of_nonneg (by omega),Int.add_emod_right];have e:a.tmod k=a+k*(-(a.tdiv k)):=by
   have:=Int.mul_tdiv_add_tmod a k;rw[Int.mul_neg];omega
  rw[e,Int.add_mul_emod_self_left]
 rw[he]
end Go.Gv.F
namespace Go.Gv.F
open Go.Gv
variable {β:Type}
def cU (l:List Int):List UInt8:=(l.map fun k=>bS (bO k) 2).flatten
theorem ZO (l:List Int):(cU l).length=2*l.length:=by
 unfold cU;induction l with
 |nil=>rfl
 |cons k l ih=>rw[gK,mQ,aZ,Zq,ih,ee];omega
theorem BZ (l:List Int) {i:Nat} (h:i<l.length):cU (l.take (i+1))=cU (l.take i)++bS (bO l[i]) 2:=by
 unfold cU;rw[kL h,dD,vb];simp
def lI (k:Int):Bool:=decide (k>=2)&&decide (k<=3071)
theorem Lr {Bd:Za} (h:BL Bd) (n:Nat) (k:Int) (st:St):run Bd (n+1) 251 [.int .i64 k] st=some (.val [.bool (lI k)],st):=by
 rw[Zf,h.eq];unfold FZ lI;simp only[al,ae,Zb];cases decide (k>=2)<;>rfl
theorem ZF {a b:Nat} (h:a<=b) (K:M β):M.ak (Nat.ble a b) K=K:=Ze (gD h) K
def qK (x:jy):List UInt8:=bS (bO x.bD.key) 8++bS (bO x.bD.value) 8++bS (bO x.bD.slot) 4++bS (bO x.bD.gen) 4++cU x.kids
def nI (x:jy):List UInt8:=fG 1 x.kids.length (qK x)
theorem ZuE {Bd:Za} (h:My Bd) (n:Nat) (x:jy) (z:Nat) (p:Option (Nat×Nat)) (st:St) (hz:z=1\/p=none) (hs:Sl st p (ints x.kids)) (hl:x.kids.length<1000) (hn:2400<=n):
  Ok (fun o=>∃s',o=(.val [.str (nI x)],s')/\aw st s') (run Bd n 250 [.agg (uS x z p)] st):=by
 obtain⟨n,rfl⟩: ∃k,n=k+2:=⟨n-2,by omega⟩;rw[Zf,h.eq];unfold GZ uS fA;simp only[j3,fu];rw[bU];simp only[al,Zm 1 z p _ hz,ae,zK];refine Ok.ew (ZR h.kD (n+1) _ 8 (od _) st (by omega) (by omega)) ?_;rintro _ ⟨s1,rfl,aJ⟩;refine⟨_,s1,rfl,aJ,?_⟩;simp only[bV,ae];refine Ok.ew (ZR h.kD (n+1) _ 8 (od _) s1 (by omega) (by omega)) ?_;rintro _ ⟨s2,rfl,bj⟩;refine⟨_,s2,rfl,bj,?_⟩;simp only[bV,ae];rw[ZF (by rw[Zq,Zq];omega)];refine Ok.ew (ZR h.kD (n+1) _ 4 (od _) s2 (by omega) (by omega)) ?_;rintro _ ⟨s3,rfl,cG⟩;refine⟨_,s3,rfl,cG,?_⟩;simp only[bV,ae];rw[ZF (by rw[aZ,Zq,Zq,Zq];omega)];refine Ok.ig (ZR h.kD (n+1) _ 4 (od _) s3 (by omega) (by omega)) ?_;rintro _ ⟨s4,rfl,gG⟩;refine⟨_,s4,rfl,?_⟩;simp only[bV,ae];rw[ZF (by rw[aZ,aZ,Zq,Zq,Zq,Zq];omega),Zb];have hP:=((aJ.trans bj).trans cG).trans gG;obtain⟨A,hA⟩: ∃A,bS (bO x.bD.key) 8++bS (bO x.bD.value) 8++bS (bO x.bD.slot) 4++bS (bO x.bD.gen) 4=A:=⟨_,rfl⟩;have fK:A.length=24:=by rw[<-hA];simp[Zq]
 rw[hA];refine Zl _ (fun q y s=>∃i:Nat,y=[.str (A++cU (x.kids.take i)),.int .i64 (i:Int)]/\i<=x.kids.length/\x.kids.length-i<=q/\aw st s) ?_ x.kids.length (n+1) _ _ ⟨0,by rw[Bv];show _=[DV.str (A++[]),_];rw[dZ];rfl,bH _,by omega,hP⟩ (by omega);rintro q _ s ⟨i,rfl,hi,hq,fD⟩ rec aD;simp only[bV,al,ae];by_cases aj:i<x.kids.length
 ·have cL:=hs.mono fD
  obtain⟨i1,o1,rfl⟩:=cL.cm (by simp[ints];omega);rw[ah (show(i:Int)<(x.kids.length:Int) by omega),cond_true,aW,Ze (Zk aj),aY,cL.dj (Zw aj)];simp only[aS];refine Ok.call (ZR h.kD (n+1) _ 2 (od _) s (by omega) (by omega)) ?_;rintro _ ⟨s5,rfl,jl⟩;refine⟨_,s5,rfl,?_⟩;simp only[bV,ae];rw[ZF (by rw[aZ,ZO,Zq,cn,fK];omega),Zd (by omega) (by omega)];refine aD (x.kids.length-(i+1)) _ _ (by omega) ⟨i+1,by rw[BZ _ aj,dB];rfl,by omega,aA _,fD.trans jl⟩
 ·rw[ao (show ¬(i:Int)<(x.kids.length:Int) by omega),cond_false]
  rw[cF (by omega)];refine Ok.call (xm h.pL (n+1) 1 x.kids.length (A++cU x.kids) (by rw[aZ,ZO];omega) s (by rw[aZ,ZO];omega)) ?_;rintro _ ⟨s5,rfl,jl⟩;refine⟨_,s5,rfl,?_⟩;simp only[bV,ae,Zc];refine .mk ⟨s5,?_,fD.trans jl⟩;unfold nI qK;rw[hA]
def nK (x:bF):Bool:= !(decide (x.gen<0)||decide (x.gen>4294967295))&&(bif x.live then decide (x.gen>0)&&lI x.block else(decide (x.block>=0)&&decide (x.block<=1792))&&(!(x.gen==0)||x.block==0))
theorem Zsd {Bd:Za} (h:Mg Bd) (n:Nat) (x:bF) (st:St):run Bd (n+2) 252 [.agg (fQ x)] st=some (.val [.bool (nK x)],st):=by
 rw[Zf,h.eq];unfold GG nK fQ;rw[bU];simp only[ai,al,ae,Zb];have e0:=Lr h.D6 n x.block st;cases decide (x.gen<0)with
 |true=>rfl
 |false=>
 cases decide (x.gen>4294967295)with
 |true=>rfl
 |false=>
 simp only[cond_false,Bool.or_self,bu,cI];cases x.live with
 |true=>
  simp only[cond_true];cases decide (x.gen>0)with
  |true=>
   simp only[cond_true];rw[Zj e0];simp only[ai,ae,Zc,cI]
  |false=>simp only[cond_false,Zc,eE]
 |false=>
  simp only[cond_false];cases decide (x.block>=0)with
  |false=>simp only[cond_false,Zc,eE]
  |true=>
   simp only[cond_true,cI];cases decide (x.block<=1792)with
   |false=>simp only[cond_false,Zc,eE]
   |true=>
    simp only[cond_true,cI];cases(x.gen==0)with
    |true=>simp only[bg,cond_false,Zc,pQ]
    |false=>simp only[bu,cond_true,Zc,tC]
def ZS:List bF->List UInt8
 |[]=>[]
 |x::r=>bS (bO x.gen) 4++bS (bO x.block) 4++ZS r
def eQ:Nat->List bF->Nat
 |_,[]=>0
 |k,x::r=>(bif x.live then 2^k else 0)+eQ (k+1) r
theorem BO: ∀l:List bF,(ZS l).length=8*l.length
 |[]=>rfl
 |x::r=>by rw[ZS,aZ,aZ,Zq,Zq,BO r,ee];omega
theorem MT: ∀l m:List bF,ZS (l++m)=ZS l++ZS m
 |[],m=>rfl
 |x::r,m=>by rw[j3,ZS,ZS,MT r m,<-dB]
theorem Zrv: ∀(k:Nat) (l m:List bF),eQ k (l++m)=eQ k l+eQ (k+l.length) m
 |k,[],m=>by simp[eQ]
 |k,x::r,m=>by rw[j3,eQ,eQ,Zrv (k+1) r m,ee,show k+1+r.length=k+(r.length+1) by omega,lA]
theorem N3: ∀(k:Nat) (l:List bF),eQ k l+2^k<=2^(k+l.length)
 |k,[]=>by simp[eQ]
 |k,x::r=>by
  have:=N3 (k+1) r;rw[eQ,ee,show k+(r.length+1)=k+1+r.length by omega];have e:2^(k+1)=2*2^k:=by rw[mS];omega
  cases x.live with
  |true=>rw[cond_true];omega
  |false=>rw[cond_false];omega
def og (l:List bF):Option (List UInt8):=bif l.all nK then some (fG 2 (eQ 0 l:Nat) (ZS l))else none
def tt:Option (List UInt8)->List DV
 |some s=>[.str s,.bool true]
 |none=>[.str [],.bool false]
theorem ZsC {Bd:Za} (h:Mh Bd) (n:Nat) (l:List bF) (hl:l.length=7) (st:St) (hn:400<=n):
  Ok (fun o=>∃s',o=(.val (tt (og l)),s')/\aw st s') (run Bd n 219 [.agg (bR l)] st):=by
 obtain⟨n,rfl⟩: ∃k,n=k+3:=⟨n-3,by omega⟩;obtain⟨R,hR⟩: ∃R,og l=R:=⟨_,rfl⟩;rw[hR];unfold og at hR;rw[Zf,h.eq];unfold GR;have dz:(bR l).length=21:=by rw[ZP,hl]
 rw[bU,bB dz];simp only[ae];rw[bB dz,Zb];refine Zl _ (fun q y s=>∃i:Nat,y=[.str (ZS (l.take i)),.int .i64 ((eQ 0 (l.take i):Nat):Int),.int .i64 (i:Int)]/\i<=7/\7-i<=q/\aw st s/\(l.take i).all nK=true) ?_ 7 (n+2) _ _ ⟨0,rfl,bH _,by omega,.refl st,rfl⟩ (by omega);rintro q _ s ⟨i,rfl,hi,hq,fD,bW⟩ rec aD;simp only[bV,al,ae];by_cases aj:i<7
 ·have ox:i<l.length:=by omega
  have gS:l.take (i+1)=l.take i++[l[i]]:=kL ox;have iY:l[i]? =some l[i]:=ba ox;have wb:((bR l).drop (i*3)).take 3=fQ l[i]:=HS iY;rw[ah (show(i:Int)<7 by omega),cond_true,Ze (show au (i:Int) 7=true from Zk aj),aY,ZF (by omega),wb];have fN:l[i]∈l:=gC ox;generalize l[i]=x at gS fN;rw[bB (cs:=fQ x) (n:=3) rfl,Zj (Zsd h.q98 n x s)];simp only[ai,ae];cases hx:nK x with
  |false=>
   rw[bu,cond_true,Zc];have bA:l.all nK=false:=by
    rw[y6];exact⟨x,fN,by rw[hx];decide⟩
   rw[bA,cond_false]at hR;rw[<-hR];exact .mk ⟨s,rfl,fD⟩
  |true=>
   rw[bg,cond_false];unfold fQ;rw[j7 (d:= .bool x.live) rfl];simp only[xh];have pG:=N3 0 (l.take i);rw[cn,jK (by omega),dy]at pG;have h7:2^i<=2^7:=pU (by decide) (by omega);have Vj:2^7=128:=by decide
   have Vu:(l.take (i+1)).all nK=true:=by rw[gS,qR,bW];simp[hx]
   refine Ok.join fun aB wq=>?_
   have hA:Ok (fun o=>∃s',o=(.val (tt R),s')/\aw st s') (aB [.int .i64 ((eQ 0 (l.take (i+1)):Nat):Int)] s):=by
    rw[wq];simp only[al,ae];rw[j7 (d:= .int .i64 x.gen) rfl];simp only[aS,zK];refine Ok.ew (ZR h.kD (n+2) _ 4 (od _) s (by omega) (by omega)) ?_;rintro _ ⟨s1,rfl,aJ⟩;refine⟨_,s1,rfl,aJ,?_⟩;simp only[bV,ae];have cL:=BO (l.take i);rw[cn]at cL;rw[ZF (by rw[cL,Zq];omega),j7 (d:= .int .i64 x.block) rfl];simp only[aS];refine Ok.ig (ZR h.kD (n+2) _ 4 (od _) s1 (by omega) (by omega)) ?_;rintro _ ⟨s2,rfl,bj⟩;refine⟨_,s2,rfl,?_⟩;simp only[bV,ae];rw[ZF (by rw[aZ,cL,Zq,Zq];omega),Zd (by omega) (by omega)];refine aD (7-(i+1)) _ _ (by omega) ⟨i+1,?_,by omega,aA _,(fD.trans aJ).trans bj,Vu⟩;rw[gS,MT];simp[ZS]
   have JT:eQ 0 (l.take (i+1))=eQ 0 (l.take i)+(bif x.live then 2^i else 0):=by
    rw[gS,Zrv,cn,jK (by omega),dy];simp[eQ]
   cases gr:x.live with
   |false=>
    rw[gr,cond_false]at JT;have WO:eQ 0 (l.take i)=eQ 0 (l.take (i+1)):=JT.symm;rw[cond_false,WO];exact hA
   |true=>
    rw[gr,cond_true]at JT;rw[cond_true,Ze (ah (by omega)),jK (by omega)];have e1:af (1*2^i)=((2^i:Nat):Int):=by
     rw[Int.one_mul,show((2:Int)^i)=((2^i:Nat):Int) by push_cast;rfl];exact Zd (by omega) (by omega)
    rw[e1,Zd (by omega) (by omega)];have e2:((eQ 0 (l.take i):Nat):Int)+((2^i:Nat):Int)=((eQ 0 (l.take (i+1)):Nat):Int):=by rw[JT];omega
    rw[e2];exact hA
 ·rw[ao (show ¬(i:Int)<7 by omega),cond_false]
  rw[cF (by omega)]at bW⊢;rw[bW,cond_true]at hR;have cL:=BO l;refine Ok.call (xm h.pL (n+2) 2 (eQ 0 l:Nat) (ZS l) (by omega) s (by omega)) ?_;rintro _ ⟨s1,rfl,aJ⟩;refine⟨_,s1,rfl,?_⟩;simp only[bV,ae,Zc];rw[<-hR];exact .mk ⟨s1,rfl,fD.trans aJ⟩
end Go.Gv.F
namespace Go.Gv.F
open Go.Gv
variable {β:Type}
def kb (l:List Int):Option (List UInt8):=bif l.all fun k=>k==0||lI k then some (fG 3 0 (cU l))else none
theorem ZmJ {Bd:Za} (h:MD Bd) (n:Nat) (l:List Int) (hl:l.length=16) (st:St) (hn:400<=n):
  Ok (fun o=>∃s',o=(.val (tt (kb l)),s')/\aw st s') (run Bd n 218 [.agg (ints l)] st):=by
 obtain⟨n,rfl⟩: ∃k,n=k+3:=⟨n-3,by omega⟩;obtain⟨R,hR⟩: ∃R,kb l=R:=⟨_,rfl⟩;rw[hR];unfold kb at hR;rw[Zf,h.eq];unfold Hi;have dz:(ints l).length=16:=by simp[ints,hl]
 rw[bU,bB dz];simp only[ae];rw[bB dz,Zb];refine Zl _ (fun q y s=>∃i:Nat,y=[.str (cU (l.take i)),.int .i64 (i:Int)]/\i<=16/\16-i<=q/\aw st s/\((l.take i).all fun k=>k==0||lI k)=true) ?_ 16 (n+2) _ _ ⟨0,rfl,bH _,by omega,.refl st,rfl⟩ (by omega);rintro q _ s ⟨i,rfl,hi,hq,fD,bW⟩ rec aD;simp only[bV,al,ae];by_cases aj:i<16
 ·have ox:i<l.length:=by omega
  have gS:l.take (i+1)=l.take i++[l[i]]:=kL ox;have AV:(ints l)[i*1]? =some (.int .i64 l[i]):=by rw[dx];exact Zw ox
  have fN:l[i]∈l:=gC ox;have Dg:=BZ l ox;have Js:au (i:Int) 16=true:=Zk aj;rw[ah (show(i:Int)<16 by omega),cond_true];simp only[aY];rw[Ze Js,j7 AV];simp only[aS];generalize l[i]=x at gS AV fN Dg;refine Ok.join fun aB wq=>?_
  have bA:(x==0||lI x)=false->Ok (fun o=>∃s',o=(.val (tt R),s')/\aw st s') ((M.ret [.str (bs []),.bool false]:M (List DV)) s):=fun e=>by
   have bA:(l.all fun k=>k==0||lI k)=false:=by
    rw[y6];exact⟨x,fN,by rw[e];decide⟩
   rw[bA,cond_false]at hR;rw[<-hR,Zc];exact .mk ⟨s,rfl,fD⟩
  have JX:(x==0||lI x)=true->Ok (fun o=>∃s',o=(.val (tt R),s')/\aw st s') (aB [.bool false] s):=fun e=>by
   rw[wq];simp only[ai,ae];rw[cond_false,Ze Js,j7 AV];simp only[aS,zK];refine Ok.call (ZR h.kD (n+2) _ 2 (od _) s (by omega) (by omega)) ?_;rintro _ ⟨s1,rfl,aJ⟩;refine⟨_,s1,rfl,?_⟩;simp only[bV,ae];rw[ZF (by rw[ZO,Zq,cn];omega),Zd (by omega) (by omega)];refine aD (16-(i+1)) _ _ (by omega) ⟨i+1,by rw[Dg];rfl,by omega,aA _,fD.trans aJ,?_⟩;rw[gS,qR,bW];simpa using e
  cases h0:(x==0)with
  |true=>
   rw[bg,cond_false];exact JX (by rw[h0];rfl)
  |false=>
   rw[bu,cond_true,Ze Js,j7 AV];simp only[aS];rw[Zj (Lr h.D6 (n+1) x s)];simp only[ai,ae];cases hb:lI x with
   |true=>exact JX (by rw[hb,Bool.or_true])
   |false=>
    rw[wq];simp only[ai,ae,bu,cond_true];exact bA (by rw[h0,hb];rfl)
 ·rw[ao (show ¬(i:Int)<16 by omega),cond_false]
  rw[cF (by omega)]at bW⊢;rw[bW,cond_true]at hR;have cL:=ZO l;refine Ok.call (xm h.pL (n+2) 3 0 (cU l) (by omega) s (by omega)) ?_;rintro _ ⟨s1,rfl,aJ⟩;refine⟨_,s1,rfl,?_⟩;simp only[bV,ae,Zc];rw[<-hR];exact .mk ⟨s1,rfl,fD.trans aJ⟩
def oF (x:oV):List UInt8:=fG 5 x.name.length (bS (bO x.mask) 4++cU x.cS++x.name)
theorem ZtG {Bd:Za} (h:MH Bd) (n:Nat) (x:oV) (hl:x.cS.length=12) (hm:x.name.length<60000) (st:St) (hn:x.name.length+500<=n):
  Ok (fun o=>∃s',o=(.val [.str (oF x)],s')/\aw st s') (run Bd n 216 [.agg (ri x)] st):=by
 obtain⟨n,rfl⟩: ∃k,n=k+3:=⟨n-3,by omega⟩;rw[Zf,h.eq];unfold G6 ri;have dz:(ints x.cS).length=12:=by simp[ints,hl]
 rw[bU];simp only[bV,al];rw[bB dz];simp only[ae];rw[bB (n:=14) (by simp[dz])];simp only[zK];refine Ok.call (ZR h.kD (n+2) _ 4 (od _) st (by omega) (by omega)) ?_;rintro _ ⟨s0,rfl,uF⟩;refine⟨_,s0,rfl,?_⟩;simp only[bV,ae];rw[Zb];have hA:(bS (bO x.mask) 4).length=4:=Zq _ _;unfold oF;generalize bS (bO x.mask) 4=A at hA;refine Zl _ (fun q y s=>∃i:Nat,y=[.str (A++cU (x.cS.take i)),.int .i64 (i:Int)]/\i<=12/\12-i<=q/\aw st s) ?_ 12 (n+2) _ _ ⟨0,by rw[Bv];show _=[DV.str (A++[]),_];rw[dZ];rfl,bH _,by omega,uF⟩ (by omega);rintro q _ s ⟨i,rfl,hi,hq,fD⟩ rec aD;simp only[bV,al,ae];by_cases aj:i<12
 ·have ox:i<x.cS.length:=by omega
  have AV:(ints x.cS)[i*1]? =some (.int .i64 x.cS[i]):=by rw[dx];exact Zw ox
  rw[ah (show(i:Int)<12 by omega),cond_true];simp only[aY];rw[Ze (show au (i:Int) 12=true from Zk aj),j7 AV];simp only[aS];refine Ok.call (ZR h.kD (n+2) _ 2 (od _) s (by omega) (by omega)) ?_;rintro _ ⟨s1,rfl,aJ⟩;refine⟨_,s1,rfl,?_⟩;simp only[bV,ae];rw[ZF (by rw[aZ,hA,ZO,Zq,cn];omega),Zd (by omega) (by omega)];exact aD (12-(i+1)) _ _ (by omega) ⟨i+1,by rw[BZ _ ox,dB];rfl,by omega,aA _,fD.trans aJ⟩
 ·rw[ao (show ¬(i:Int)<12 by omega),cond_false]
  rw[cF (by omega)];have cL:=ZO x.cS;rw[ZF (by rw[aZ];omega)];refine Ok.call (xm h.pL (n+2) 5 x.name.length (A++cU x.cS++x.name) (by rw[aZ,aZ];omega) s (by rw[aZ,aZ];omega)) ?_;rintro _ ⟨s1,rfl,aJ⟩;refine⟨_,s1,rfl,?_⟩;simp only[bV,ae,Zc];exact .mk ⟨s1,rfl,fD.trans aJ⟩
def qd:List Int->Nat->Bool
 |_l,0=>true
 |l,i+1=>qd l i&&(lI (l.getD i 0)&& !decide (l.getD i 0∈l.take i))
def p8 (l:List Int):Option (List UInt8):=bif decide (1<=l.length)&&(decide (l.length<=16)&&qd l l.length)then some (fG 6 l.length (cU l))else none
theorem Zum {l:List Int} : ∀ {i j:Nat},i<=j->qd l j=true->qd l i=true
 |i,0,h,e=>by
  have:i=0:=by omega
  subst this;rfl
 |i,j+1,h,e=>by
  by_cases pC:i=j+1
  ·subst pC;exact e
  ·unfold qd at e
   rw[aH]at e;exact Zum (by omega) e.1
theorem Zuq {Bd:Za} (h:MF Bd) (n:Nat) (l:List Int) (z:Nat) (p:Option (Nat×Nat)) (st:St) (hz:z=1\/p=none) (hs:Sl st p (ints l)) (hl:l.length<1000) (hn:2500<=n):
  Ok (fun o=>∃s',o=(.val (tt (p8 l)),s')/\aw st s') (run Bd n 215 [.slice z p l.length] st):=by
 obtain⟨n,rfl⟩: ∃k,n=k+3:=⟨n-3,by omega⟩;obtain⟨R,hR⟩: ∃R,p8 l=R:=⟨_,rfl⟩;rw[hR];unfold p8 at hR;rw[Zf,h.eq];unfold Ha;simp only[Zm 1 z p _ hz,ae];rw[Zb];have iX: ∀s,aw st s->R=none->Ok (fun o=>∃s',o=(.val (tt R),s')/\aw st s') ((M.ret [.str (bs []),.bool false]:M (List DV)) s):=fun s fD e=>by
  rw[e,Zc];exact .mk ⟨s,rfl,fD⟩
 by_cases h1:1<=l.length;rotate_left
 ·rw[ah (show((l.length:Nat):Int)<1 by omega),cond_true]
  simp only[ai,ae,cond_true];refine iX st (.refl st) ?_;rw[ao h1,eE,cond_false]at hR;exact hR.symm
 by_cases nk:l.length<=16;rotate_left
 ·rw[ao (show ¬((l.length:Nat):Int)<1 by omega),cond_false,ah (show((l.length:Nat):Int)>16 by omega)]
  simp only[ai,ae,cond_true];refine iX st (.refl st) ?_;rw[ao nk,eE,rY,cond_false]at hR;exact hR.symm
 rw[ah h1,ah nk,cI,cI]at hR;rw[ao (show ¬((l.length:Nat):Int)<1 by omega),cond_false,ao (show ¬((l.length:Nat):Int)>16 by omega)];simp only[ai,ae];rw[cond_false,Zb];have TM: ∀i,i<=l.length->qd l i=false->R=none:=fun i hi e=>by
  cases hf:qd l l.length with
  |true=>rw[Zum hi hf]at e;cases e
  |false=>rw[hf,cond_false]at hR;exact hR.symm
 refine Zl _ (fun q y s=>∃i:Nat,y=[.str (cU (l.take i)),.int .i64 (i:Int)]/\i<=l.length/\l.length-i<=q/\aw st s/\qd l i=true) ?_ l.length (n+2) _ _ ⟨0,rfl,bH _,by omega,.refl st,rfl⟩ (by omega);rintro q _ s ⟨i,rfl,hi,hq,fD,bW⟩ rec aD;simp only[bV,al,ae];by_cases aj:i<l.length
 ·have cL:=hs.mono fD
  obtain⟨i1,o1,rfl⟩:=cL.cm (by simp[ints];omega);have qB:l.getD i 0=l[i]:=by rw[bM,ba aj];rfl
  have Dg:=BZ l aj;have dN:qd l (i+1)=(lI l[i]&& !decide (l[i]∈l.take i)):=by
   show(qd l i&&_)=_;rw[bW,cI,qB]
  have dM:(ints l)[i]? =some (.int .i64 l[i]):=Zw aj;rw[ah (show(i:Int)<(l.length:Int) by omega),cond_true,Zb,aW,Ze (Zk aj)];simp only[aY];rw[cL.dj dM];simp only[aS];obtain⟨x,hx⟩: ∃x,l[i]=x:=⟨_,rfl⟩;rw[hx]at dM Dg dN⊢;rw[Zj (Lr h.D6 (n+1) x s)];simp only[ai,ae];cases hb:lI x with
  |false=>
   rw[bu,cond_true];exact iX s fD (TM (i+1) (by omega) (by rw[dN,hb];rfl))
  |true=>
   rw[bg,cond_false,Zb];refine Zl _ (fun q y t=>∃k:Nat,y=[.int .i64 (k:Int)]/\k<=i/\i-k<=q/\t=s/\x∉l.take k) ?_ i (n+2) _ _ ⟨0,rfl,bH _,by omega,rfl,by simp⟩ (by omega);rintro q2 _ t ⟨k,rfl,hk,uH,rfl,wu⟩ dW pE;simp only[al,ae];by_cases hlk:k<i
   ·have ik:k<l.length:=by omega
    have Qn:(ints l)[k]? =some (.int .i64 l[k]):=Zw ik;rw[ah (show(k:Int)<(i:Int) by omega),cond_true,aW,Ze (Zk ik)];simp only[aY];rw[cL.dj Qn];simp only[aS];rw[aW,Ze (Zk aj)];rw[cL.dj dM];simp only[aS];by_cases he:l[k]=x
    ·rw[show(l[k]==x)=true by rw[he];exact fH _,cond_true]
     refine iX t fD (TM (i+1) (by omega) ?_);have:x∈l.take i:=by
      rw[<-he];exact List.mem_take_iff_getElem.2 ⟨k,by omega,rfl⟩
     rw[dN,ah this,bg,rY]
    ·rw[show(l[k]==x)=false from cg.2 he,cond_false,Zd (by omega) (by omega)]
     refine pE (i-(k+1)) _ _ (by omega) ⟨k+1,rfl,by omega,aA _,rfl,?_⟩;rw[kL ik];intro hm;rcases de.1 hm with hm|hm
     ·exact wu hm
     ·exact he (bP.1 hm).symm
   ·rw[ao (show ¬(k:Int)<(i:Int) by omega),cond_false]
    have:k=i:=by omega
    subst this;rw[aW,Ze (Zk aj),cL.dj dM];simp only[aS,zK];refine Ok.call (ZR h.kD (n+2) _ 2 (od _) t (by omega) (by omega)) ?_;rintro _ ⟨s1,rfl,aJ⟩;refine⟨_,s1,rfl,?_⟩;simp only[bV,ae];rw[ZF (by rw[ZO,Zq,cn];omega),Zd (by omega) (by omega)];exact aD (l.length-(k+1)) _ _ (by omega) ⟨k+1,by rw[Dg];rfl,by omega,aA _,fD.trans aJ,by rw[dN,hb,ao wu];rfl⟩
 ·rw[ao (show ¬(i:Int)<(l.length:Int) by omega),cond_false]
  have:i=l.length:=by omega
  subst this;rw[oQ];rw[bW,cond_true]at hR;have cL:=ZO l;refine Ok.call (xm h.pL (n+2) 6 l.length (cU l) (by omega) s (by omega)) ?_;rintro _ ⟨s1,rfl,aJ⟩;refine⟨_,s1,rfl,?_⟩;simp only[bV,ae,Zc];rw[<-hR];exact .mk ⟨s1,rfl,fD.trans aJ⟩
end Go.Gv.F
namespace Go.Gv.F
open Go.Gv
variable {β:Type}
theorem ZrS {Bd:Za} (h:Mq Bd) (n a e:Nat) (ha:a<100000) (he:0<e) (he2:e<1000) (st:St) (hn:a+10<=n):
  Ok (fun o=>o=(.val [.int .i64 (((a+e-1)/e:Nat):Int)],st)) (run Bd n 220 [.int .i64 (a:Int),.int .i64 (e:Int)] st):=by
 obtain⟨n,rfl⟩: ∃k,n=k+2:=⟨n-2,by omega⟩;rw[Zf,h.eq];unfold GM;simp only[al,ae,Zb];have hm:(a+e-1)/e<=a:=by
  rcases xd a with h0|h0
  ·subst h0
   rw[dy,Nat.div_eq_of_lt (by omega)];exact aA _
  ·refine Nat.div_le_of_le_mul ?_
   have:1*(e-1)<=a*(e-1):=tH _ h0;have h2:e*a=a+a*(e-1):=by
    obtain⟨f,rfl⟩: ∃f,e=f+1:=⟨e-1,by omega⟩;rw[Nat.add_sub_cancel,pS,Nat.one_mul,qU f];omega
   omega
 have Db: ∀k,k*e<a↔k<(a+e-1)/e:=fun k=>by
  rw[Nat.lt_iff_add_one_le,Nat.lt_iff_add_one_le,Nat.le_div_iff_mul_le he,pS,Nat.one_mul];omega
 generalize (a+e-1)/e=m at hm Db;refine Zl _ (fun q y s=>∃k:Nat,y=[.int .i64 (k:Int)]/\k<=m/\m-k<=q/\s=st) ?_ m (n+1) _ _ ⟨0,rfl,bH _,by omega,rfl⟩ (by omega);rintro q _ s ⟨k,rfl,hk,hq,rfl⟩ rec aD;simp only[al,ae];have hke:k*e<=100000*1000:=Nat.mul_le_mul (by omega) (by omega);have hw:af ((k:Int)*(e:Int))=((k*e:Nat):Int):=by
  rw[show((k:Int)*(e:Int))=((k*e:Nat):Int) by push_cast;rfl];exact Zd (by omega) (by omega)
 rw[hw];have:=Db k;by_cases aj:k*e<a
 ·rw[ah (show((k*e:Nat):Int)<(a:Int) by omega),cond_true,Zd (by omega) (by omega)]
  exact aD (m-(k+1)) _ _ (by have:=this.1 aj;omega) ⟨k+1,rfl,this.1 aj,aA _,rfl⟩
 ·rw[ao (show ¬((k*e:Nat):Int)<(a:Int) by omega),cond_false]
  have ik:k=m:=by
   have: ¬k<m:=fun h=>aj (this.2 h)
   omega
  rw[ik];simp only[Zc];exact .mk rfl
theorem Zjd {Bd:Za} (h:Gn Bd) (n a:Nat) (s g:Int) (ha:a<100000) (st:St) (hn:a+20<=n):
  Ok (fun o=>o=(.val [.int .i64 (((a+383)/384:Nat):Int)],st)) (run Bd n 196 [.agg [.int .i64 (a:Int),.int .i64 s,.int .i64 g]] st):=by
 obtain⟨n,rfl⟩: ∃k,n=k+2:=⟨n-2,by omega⟩;rw[Zf,h.eq];unfold Gp;rw[bU];simp only[al,ae];refine Ok.call (ZrS h.Xk (n+1) a 384 ha (by decide) (by decide) st (by omega)) ?_;rintro _ rfl;refine⟨_,st,rfl,?_⟩;simp only[al,ae,Zc];exact .mk rfl
theorem or8 {x y:Nat} (hx:x<256) (hy:y<256):bits .or .u8 (x:Int) (y:Int)=((x|||y:Nat):Int):=by
 show IntKind.wrap .u8 ((BitVec.ofInt 8 (x:Int)|||BitVec.ofInt 8 (y:Int)).toNat:Int)=_;have e: ∀z:Nat,z<256->(BitVec.ofInt 8 (z:Int)).toNat=z:=fun z hz=>by
  rw[Es];omega
 rw[BitVec.toNat_or,e x hx,e y hy];have h:x|||y<256:=Ey (n:=8) hx hy;show((x|||y:Nat):Int)%256=_;omega
def sJ (b:List UInt8) (k:Nat):List UInt8:=b.set (k/8) (UInt8.ofNat ((b.getD (k/8) 0).toNat|||2^(k%8)))
theorem Hv (b:List UInt8) (k:Nat):(sJ b k).length=b.length:=by unfold sJ;rw[ju]
def tO (p:Nat) (x:Int):Bool:=decide (x>=((384*p:Nat):Int))&&decide (x<((384*p+384:Nat):Int))
def pZ (p:Nat):List UInt8->List Int->List UInt8
 |b,[]=>b
 |b,x::r=>pZ p (bif tO p x then sJ b (x-((384*p:Nat):Int)).toNat else b) r
def gf (p:Nat) (l:List Int):ZJ:=⟨p,pZ p (List.replicate 48 0) l⟩
theorem HJ (p:Nat): ∀(l:List Int) (b:List UInt8),(pZ p b l).length=b.length
 |[],_=>rfl
 |x::r,b=>by
  unfold pZ;rw[HJ p r];cases tO p x with
  |true=>exact Hv b _
  |false=>rfl
theorem Zyt (b:List UInt8) (k:Nat) (c:UInt8):bQ (b.set k c)=(bQ b).set k (.int .u8 c.toNat):=by
 unfold bQ;rw[zc]
theorem Zse {Bd:Za} (h:Zip Bd) (n p:Nat) (l:List Int) (a:Option (Nat×Nat)) (z:Nat) (st:St) (hz:z=1\/a=none) (hs:Sl st a (ints l)) (hp:p<1000) (hl:l.length<100000) (hx: ∀x∈l,0<=x/\x<1000000) (hn:l.length+10<=n):
  Ok (fun o=>o=(.val [.agg (Zz (gf p l))],st)) (run Bd n 192 [.int .i64 (p:Int),.slice z a l.length] st):=by
 obtain⟨n,rfl⟩: ∃k,n=k+2:=⟨n-2,by omega⟩;rw[Zf,h.eq];unfold GB;simp only[al,Zm 1 z a _ hz,ae];rw[Zb];have cc:af (384*(p:Int))=((384*p:Nat):Int):=by
  rw[show(384*(p:Int))=((384*p:Nat):Int) by omega];exact Zd (by omega) (by omega)
 have fE:af (((384*p:Nat):Int)+384)=((384*p+384:Nat):Int):=by
  rw[Zd (by omega) (by omega)];omega
 simp only[cc,fE];obtain⟨G,hG⟩: ∃G,pZ p (List.replicate 48 0) l=G:=⟨_,rfl⟩;have hR:gf p l=⟨p,G⟩:=by unfold gf;rw[hG]
 rw[hR];refine Zl _ (fun q y s=>∃(i:Nat) (b:List UInt8),y=[.agg (.int .i64 (p:Int)::bQ b),.int .i64 (i:Int)]/\i<=l.length/\l.length-i<=q/\s=st/\b.length=48/\pZ p b (l.drop i)=G) ?_ l.length (n+1) _ _ ⟨0,List.replicate 48 0,rfl,bH _,by omega,rfl,oO,hG⟩ (by omega);rintro q _ s ⟨i,b,rfl,hi,hq,rfl,hb,az⟩ rec aD;have gR:(bQ b).length=48:=by rw[Zt,hb]
 rw[bU];simp only[al,ae];rw[bB gR];by_cases aj:i<l.length
 ·obtain⟨i1,o1,rfl⟩:=hs.cm (by simp[ints];omega)
  have dM:(ints l)[i]? =some (.int .i64 l[i]):=Zw aj;have jj:l.drop i=l[i]::l.drop (i+1):=hJ aj;have fN:l[i]∈l:=gC aj;rw[jj]at az;obtain⟨x,JW⟩: ∃x,l[i]=x:=⟨_,rfl⟩;rw[JW]at dM az fN;obtain⟨uL,mD⟩:=hx x fN;unfold pZ at az;rw[ah (show(i:Int)<(l.length:Int) by omega),cond_true,aW,Ze (Zk aj)];simp only[aY];rw[hs.dj dM];simp only[aS];have nE:af ((i:Int)+1)=((i+1:Nat):Int):=Zd (by omega) (by omega);rw[nE];refine Ok.join fun aB wq=>?_
  have hA: ∀c,tO p x=c->Ok (fun o=>o=(.val [.agg (Zz ⟨p,G⟩)],s)) (aB [.bool c] s):=by
   intro c hc;rw[wq];simp only[ai,ae];rw[hc]at az;rw[Zb];cases c with
   |false=>
    rw[cond_false]at az;rw[cond_false];show Ok _ (J.a [.agg (.int .i64 (p:Int)::bQ b)] _ s);rw[bU];simp only[al];rw[bB gR];simp only[ae];exact aD (l.length-(i+1)) _ _ (by omega) ⟨i+1,b,rfl,by omega,aA _,rfl,hb,az⟩
   |true=>
    rw[cond_true]at az;unfold tO at hc;rw[aH,bx,bx]at hc;obtain⟨k,hk⟩: ∃k:Nat,x-((384*p:Nat):Int)=(k:Int):=⟨(x-((384*p:Nat):Int)).toNat,by omega⟩;rw[hk,aY]at az;have ik:k<384:=by omega
    have Ra:af (x-((384*p:Nat):Int))=(k:Int):=by rw[hk];exact Zd (by omega) (by omega)
    have hdv:af ((k:Int).tdiv 8)=((k/8:Nat):Int):=by
     rw[show(k:Int).tdiv 8=((k/8:Nat):Int)from rfl];exact Zd (by omega) (by omega)
    have iU:(k:Int).tmod 8=((k%8:Nat):Int):=rfl;rw[cond_true,aW,Ze (Zk aj),hs.dj dM];simp only[aS,Ra,hdv,iU,aY];have hk8:k/8<48:=by omega
    have uo:b[k/8]? =some (b.getD (k/8) 0):=by
     rw[bM,ba (by omega)];rfl
    have Jn:=(b.getD (k/8) 0).toNat_lt;rw[Ze (show au ((k/8:Nat):Int) 48=true from Zk hk8),j7 (i:=k/8*1) (by rw[dx];exact N8 uo)];simp only[aS];rw[Ze (ah (by omega)),Ze (show au ((k/8:Nat):Int) 48=true from Zk hk8),ZF (by omega)];have h28:2^(k%8)<=2^7:=pU (by decide) (by omega);have Vj:2^7=128:=by decide
    have DA:IntKind.wrap .u8 (1*2^(min (k%8) 8))=((2^(k%8):Nat):Int):=by
     rw[jK (by omega),Int.one_mul,show((2:Int)^(k%8))=((2^(k%8):Nat):Int) by push_cast;rfl];generalize 2^(k%8)=w at h28;show((w:Nat):Int)%256=_;omega
    rw[DA,or8 Jn (by omega)];have hor:(b.getD (k/8) 0).toNat|||2^(k%8)<256:=Ey (n:=8) Jn (by omega);have cu:bN (bQ b) (k/8*1) [.int .u8 (((b.getD (k/8) 0).toNat|||2^(k%8):Nat):Int)]=bQ (sJ b k):=by
     rw[dx,xC _ _ _ (by omega)];unfold sJ;rw[Zyt];congr 2;show _=(((((b.getD (k/8) 0).toNat|||2^(k%8))%256:Nat)):Int);omega
    rw[cu];show Ok _ (J.a [.agg (.int .i64 (p:Int)::bQ (sJ b k))] _ s);rw[bU];simp only[al];have QK:(bQ (sJ b k)).length=48:=by rw[Zt,Hv,hb]
    rw[bB QK];simp only[ae];exact aD (l.length-(i+1)) _ _ (by omega) ⟨i+1,sJ b k,rfl,by omega,aA _,rfl,by rw[Hv,hb],az⟩
  cases sX:decide (x>=((384*p:Nat):Int))with
  |false=>
   rw[cond_false];exact hA false (by unfold tO;rw[sX,eE])
  |true=>
   rw[cond_true,aW,Ze (Zk aj),hs.dj dM];simp only[aS];exact hA _ (by unfold tO;rw[sX,cI])
 ·rw[ao (show ¬(i:Int)<(l.length:Int) by omega),cond_false]
  rw[mO (by omega)]at az;rw[bU];simp only[al];rw[bB gR];simp only[ae];rw[bB (by simp[gR]),Zc];refine .mk ?_;rw[<-az];rfl
def su (x:ZJ):List UInt8:=fG 4 x.no x.cO
theorem Zte {Bd:Za} (h:MB Bd) (n:Nat) (x:ZJ) (hl:x.cO.length=48) (st:St) (hn:400<=n):
  Ok (fun o=>∃s',o=(.val [.str (su x)],s')/\aw st s') (run Bd n 193 [.agg (Zz x)] st):=by
 obtain⟨n,rfl⟩: ∃k,n=k+2:=⟨n-2,by omega⟩;rw[Zf,h.eq];unfold Ho Zz;have gR:(bQ x.cO).length=48:=by rw[Zt,hl]
 rw[bU];simp only[al];rw[bB gR];simp only[ae];rw[bB (n:=49) (by simp[gR]),Zy];rw[Zn (i:=st.length) (f:=false) (all:= .int .i64 x.no::bQ x.cO) (d:= .int .i64 x.no) (by simp) rfl];simp only[aS];have bW:(DV.int .i64 x.no::bQ x.cO).length=49:=by simp[gR]
 rw[Ch (by rw[bW];omega),Ch (by rw[bW];omega)];have wc:(List.drop 1 (DV.int .i64 x.no::bQ x.cO)).take 48=ZH x.cO:=by
  rw[List.drop_succ_cons,dw,cF (by omega),vC]
 rw[wc,EB];refine Ok.call (xm h.pL (n+1) 4 x.no x.cO (by omega) _ (by omega)) ?_;rintro _ ⟨s1,rfl,aJ⟩;refine⟨_,s1,rfl,?_⟩;simp only[bV,ae,Zc];exact .mk ⟨s1,rfl,(aw.new _ _).trans aJ⟩
end Go.Gv.F
namespace Go.Gv.F
open Go.Gv
variable {β:Type}
structure vq (x:eX):Prop where
 s0:1<=x.seq
 s1:x.seq<=4611686018427387904
 g:lL x.blocks x.bX x.g=true
 u0:0<=x.used
 u1:x.used<=x.bX
 f0:0<=x.free
 f1:x.free<=x.used
 t0:x.used=0->x.cA=0
 t1:0<x.used->kC x x.cA=true
 d:x.dir≠0->kC x x.dir=true
 len:((x.aG.length:Nat):Int)=tS x.blocks x.bX x.g
 ch: ∀i,i<x.aG.length->kC x (x.aG.getD i 0)=true/\x.aG.getD i 0∉x.aG.take i
theorem Zue (x:eX):mY x=true↔ ∀i,i<x.aG.length->kC x (x.aG.getD i 0)=true/\x.aG.getD i 0∉x.aG.take i:=by
 unfold mY;rw[gm];constructor
 ·intro h i hi
  have:=h i (jd.2 hi);rw[aH,gZ,j6]at this;exact this
 ·intro h i hi
  rw[aH,gZ,j6];exact h i (jd.1 hi)
theorem BU (x:eX):jz x=true↔vq x:=by
 unfold jz;rw[aH,aH,Zue,gZ,gZ];simp only[kJ,j6,Bool.not_eq_false'];constructor
 ·rintro⟨⟨a1,a2,a3,a4,a5,a6,a7⟩,⟨b1,b2,b3,b4⟩,c⟩
  refine⟨by omega,by omega,a3,by omega,by omega,by omega,by omega,fun h=>?_,fun h=>?_,fun h=>?_,?_,c⟩
  ·rw[h]at b1
   simpa using b1
  ·rw[ah h,cond_true]at b2
   simpa using b2
  ·rw[show(x.dir==0)=false from cg.2 h,bu,cond_true]at b3
   simpa using b3
  ·simpa using b4
 ·intro h
  refine⟨⟨by have:=h.s0;omega,by have:=h.s1;omega,h.g,by have:=h.u0;omega,by have:=h.u1;omega,by have:=h.f0;omega,by have:=h.f1;omega⟩,⟨?_,?_,?_,?_⟩,h.ch⟩
  ·by_cases hu:x.used=0
   ·rw[h.t0 hu];cases(x.used==0)<;>rfl
   ·rw[show(x.used==0)=false from cg.2 hu];rfl
  ·by_cases hu:0<x.used
   ·rw[h.t1 hu];cases decide (x.used>0)<;>rfl
   ·rw[ao hu];rfl
  ·by_cases hu:x.dir=0
   ·rw[hu];rfl
   ·rw[h.d hu];cases(!(x.dir==0))<;>rfl
  ·rw[h.len];exact fH _
theorem ZtY (x:eX) (k:Int):kC x k=true↔2<=k/\k<x.blocks:=by
 unfold kC;by_cases h:k>=2
 ·rw[ah h,cond_true,bx];omega
 ·rw[ao h,cond_false];simp;omega
theorem ZwL {b s g:Int} (h:lL b s g=true):tS b s g=(((b.toNat+383)/384:Nat):Int):=by
 obtain⟨g1,g2,_⟩:=sr h;unfold tS nM;rw[h,cond_true];obtain⟨m,rfl⟩: ∃m:Nat,b=m:=⟨b.toNat,by omega⟩;rw[aY,Zd (x:=(m:Int)+384) (by omega) (by omega),Zd (x:=(m:Int)+384-1) (by omega) (by omega),show((m:Int)+384-1)=((m+383:Nat):Int) by omega,show(((m+383:Nat):Int).tdiv 384)=(((m+383)/384:Nat):Int)from rfl];exact Zd (by omega) (by omega)
theorem ZyO {Q:Out (List DV)×St->Prop} {Kn:List DV->M (List DV)} (n:Nat) (b:Int) (l:List Int) (p:Option (Nat×Nat)) (s:St) (hs:Sl s p (ints l)) (hl:l.length<5000) (hn:l.length<n)
  (bA: ∀k∈l,¬(2<=k/\k<b)->Ok Q ((M.ret [.bool false]:M (List DV)) s)) (JX:(∀k∈l,2<=k/\k<b)->Ok Q (Kn [] s)):
  Ok Q (M.loop (fun aN st=>
       J.i .i64 st fun i st=>
      D.nil st<|
      bif decide (i<(l.length:Int))then
       M.nn p fun i1 o=>
      M.ak (au i l.length)<|
      M.ar i1 (i.toNat*1+o) fun d=>
      D.int .i64 d fun x=>
      M.join (fun st=>J.b st fun b7 st=>D.nil st<|
       bif b7 then
       M.ret [.bool false]
      else
       aN [.int .i64 (af (i+1))]) fun jH=>
      bif decide (x<2)then
       jH [.bool true]
      else
       M.nn p fun i2 o1=>
      M.ak (au i l.length)<|
      M.ar i2 (i.toNat*1+o1) fun d1=>
      D.int .i64 d1 fun x1=>
      jH [.bool (decide (x1>=b))]
      else
       Kn []) n [.int .i64 0] s):=by
 refine Zl _ (fun q y t=>∃i:Nat,y=[.int .i64 (i:Int)]/\i<=l.length/\l.length-i<=q/\t=s/\∀k∈l.take i,2<=k/\k<b) ?_ l.length n _ _ ⟨0,rfl,bH _,by omega,rfl,fun k hk=>by cases hk⟩ hn;rintro q _ t ⟨i,rfl,hi,hq,rfl,bW⟩ rec aD;simp only[al,ae];by_cases aj:i<l.length
 ·obtain⟨i1,o1,rfl⟩:=hs.cm (by simp[ints];omega)
  have dM:(ints l)[i]? =some (.int .i64 l[i]):=Zw aj;have gS:l.take (i+1)=l.take i++[l[i]]:=kL aj;have fN:l[i]∈l:=gC aj;rw[ah (show(i:Int)<(l.length:Int) by omega),cond_true,aW,Ze (Zk aj)];simp only[aY];rw[hs.dj dM];simp only[aS];generalize l[i]=x at dM gS fN;rw[Zb];by_cases h2:x<2
  ·rw[ah h2,cond_true]
   simp only[ai,ae,cond_true];exact bA x fN (by omega)
  ·rw[ao h2,cond_false,aW,Ze (Zk aj),hs.dj dM]
   simp only[aS,ai,ae];by_cases h3:x>=b
   ·rw[ah h3,cond_true]
    exact bA x fN (by omega)
   ·rw[ao h3,cond_false,Zd (by omega) (by omega)]
    refine aD (l.length-(i+1)) _ _ (by omega) ⟨i+1,rfl,by omega,aA _,rfl,fun k hk=>?_⟩;rw[gS]at hk;rcases de.1 hk with hk|hk
    ·exact bW k hk
    ·rw[bP.1 hk];omega
 ·rw[ao (show ¬(i:Int)<(l.length:Int) by omega),cond_false]
  rw[cF (by omega)]at bW;exact JX bW
theorem Zp9 {Bd:Za} (h:LH Bd) (n:Nat) (x:eX) (p:Option (Nat×Nat)) (st:St) (hs:Sl st p (ints x.aG)) (hl:x.aG.length<1000) (hn:5000<=n):
  Ok (fun o=>∃s',o=(.val [.bool (jz x)],s')/\aw st s') (run Bd n 195 [.agg (dK x p)] st):=by
 obtain⟨n,rfl⟩: ∃k,n=k+2:=⟨n-2,by omega⟩;rw[Zf,h.eq];unfold F3 dK;rw[bU];simp only[al,br,ae];have hF: ∀s,aw st s->¬vq x->Ok (fun o=>∃s',o=(.val [.bool (jz x)],s')/\aw st s') ((M.ret [.bool false]:M (List DV)) s):=fun s hp e=>by
  have:jz x=false:=by
   cases hs:jz x with
   |false=>rfl
   |true=>exact absurd ((BU x).1 hs) e
  rw[this,Zc];exact .mk ⟨s,rfl,hp⟩
 rw[Zb];by_cases h1:x.seq<1
 ·rw[ah h1,cond_true]
  simp only[ai,ae];rw[Zb,cond_true];simp only[ai,ae];rw[cond_true];exact hF st (.refl st) fun k=>by have:=k.s0;omega
 rw[ao h1,cond_false];simp only[ai,ae];rw[Zb];by_cases h2:x.seq>4611686018427387904
 ·rw[ah h2,cond_true]
  simp only[ai,ae];rw[cond_true];exact hF st (.refl st) fun k=>by have:=k.s1;omega
 rw[ao h2,cond_false,Zj (Zkj h.RT n x.blocks x.bX x.g st)];simp only[ai,ae];cases hg:lL x.blocks x.bX x.g with
 |false=>
  rw[bu,cond_true];exact hF st (.refl st) fun k=>by have:=k.g;rw[hg]at this;cases this
 |true=>
 obtain⟨g1,g2,g3,g4,g5,g6⟩:=sr hg;rw[bg,cond_false,Zb];by_cases h3:x.used<0
 ·rw[ah h3,cond_true]
  simp only[ai,ae];rw[Zb,cond_true];simp only[ai,ae];rw[Zb,cond_true];simp only[ai,ae];rw[Zb,cond_true];simp only[ai,ae];rw[cond_true];exact hF st (.refl st) fun k=>by have:=k.u0;omega
 rw[ao h3,cond_false];by_cases h4:x.used>x.bX
 ·rw[ah h4]
  simp only[ai,ae];rw[Zb,cond_true];simp only[ai,ae];rw[Zb,cond_true];simp only[ai,ae];rw[Zb,cond_true];simp only[ai,ae];rw[cond_true];exact hF st (.refl st) fun k=>by have:=k.u1;omega
 rw[ao h4];simp only[ai,ae];rw[Zb,cond_false];by_cases h5:x.free<0
 ·rw[ah h5]
  simp only[ai,ae];rw[Zb,cond_true];simp only[ai,ae];rw[Zb,cond_true];simp only[ai,ae];rw[cond_true];exact hF st (.refl st) fun k=>by have:=k.f0;omega
 rw[ao h5];simp only[ai,ae];rw[Zb,cond_false];by_cases h6:x.free>x.used
 ·rw[ah h6]
  simp only[ai,ae];rw[Zb,cond_true];simp only[ai,ae];rw[cond_true];exact hF st (.refl st) fun k=>by have:=k.f1;omega
 rw[ao h6];simp only[ai,ae];rw[Zb,cond_false];obtain⟨m,hm⟩: ∃m:Nat,x.blocks=m:=⟨x.blocks.toNat,by omega⟩;have qm:=ZwL hg;rw[hm,aY]at qm;rw[hm];refine Ok.ig (Zjd h.RR (n+1) m x.bX x.g (by omega) st (by omega)) ?_;rintro _ rfl;refine⟨_,st,rfl,?_⟩;simp only[al,ai,ae];by_cases h7:((x.aG.length:Nat):Int)=(((m+383)/384:Nat):Int);rotate_left
 ·rw[show(((x.aG.length:Nat):Int)==(((m+383)/384:Nat):Int))=false from cg.2 h7,bu,cond_true]
  exact hF st (.refl st) fun k=>by have:=k.len;rw[hm,qm]at this;exact h7 this
 rw[show(((x.aG.length:Nat):Int)==(((m+383)/384:Nat):Int))=true by rw[h7];exact fH _,bg,cond_false];have dN: ∀k,kC x k=true↔2<=k/\k<(m:Int):=fun k=>by rw[ZtY,hm]
 refine Ok.join fun iJ Qu=>?_
 have A7: ∀(q:Option (Nat×Nat)) (z:Nat) (l:List Int) (s:St),bh st s q (ints l)->(z=1\/q=none)->l.length<=1->(x.used=0->x.cA=0)->(l=if x.used=0 then[]else[x.cA])->Ok (fun o=>∃s',o=(.val [.bool (jz x)],s')/\aw st s') (iJ [.slice z q l.length] s):=by
  intro q z l s ho hz ow Q5 hle;rw[Qu];simp only[Zm 1 z q _ hz,ae];refine Ok.join fun jm Qv=>?_
  have A8: ∀(q:Option (Nat×Nat)) (l:List Int) (s:St),bh st s q (ints l)->l.length<=2->(l=(if x.used=0 then[]else[x.cA])++(if x.dir=0 then[]else[x.dir]))->Ok (fun o=>∃s',o=(.val [.bool (jz x)],s')/\aw st s') (jm [.slice 1 q l.length] s):=by
   intro q l s ho lN hle;rw[Qv];simp only[br,ae];refine Ok.join fun iK Ju=>?_
   have VI: ∀i k,i<x.aG.length->k<i->x.aG[k]? =x.aG[i]? ->¬vq x:=fun i k hi hk e hS=>by
    have:=(hS.ch i hi).2;rw[bM,ba hi]at this;refine this (List.mem_take_iff_getElem.2 ⟨k,by omega,?_⟩);rw[ba (by omega),ba hi]at e;exact vi e
   refine Zl _ (fun r y t=>∃(i z:Nat) (q:Option (Nat×Nat)),y=[.slice z q (l++x.aG.take i).length,.int .i64 (i:Int)]/\(z=1\/q=none)/\i<=x.aG.length/\x.aG.length-i<=r/\bh st t q (ints (l++x.aG.take i))/\∀j,j<i->x.aG.getD j 0∉x.aG.take j) ?_ x.aG.length (n+1) _ _ ⟨0,1,q,by simp,.inl rfl,bH _,by omega,by simpa using ho,fun j hj=>absurd hj (sc j)⟩ (by omega);rintro r _ t ⟨i,z,q,rfl,hz,hi,hr,ho,C4⟩ rec aD;simp only[al,Zm 1 z q _ hz,ae];have bE:=hs.mono ho.1;by_cases aj:i<x.aG.length
   ·obtain⟨i1,o1,rfl⟩:=hs.cm (by simp[ints];omega)
    have dM:(ints x.aG)[i]? =some (.int .i64 x.aG[i]):=Zw aj;have gS:x.aG.take (i+1)=x.aG.take i++[x.aG[i]]:=kL aj;rw[ah (show(i:Int)<(x.aG.length:Int) by omega),cond_true,Zb,aW,Ze (Zk aj)];simp only[aY];rw[bE.dj dM];simp only[aS];have il:(l++x.aG.take i).length<=2000:=by rw[aZ,cn];omega
    obtain⟨q2,t2,dq,nA,he⟩:=ho.wT (β:=List DV) (sz:=1) (n:=(l++x.aG.take i).length) (lim:=8796093022208) [.int .i64 x.aG[i]] (sf 0) (by simp[ints]) rfl (by omega);refine Eq.mpr (congrArg (Ok _) (he _)) ?_;rw[Zb];have Bb:=hs.mono dq.1;refine Zl _ (fun q y u=>∃k:Nat,y=[.int .i64 (k:Int)]/\k<=i/\i-k<=q/\u=t2/\x.aG[i]∉x.aG.take k) ?_ i (n+1) _ _ ⟨0,rfl,bH _,by omega,rfl,by simp⟩ (by omega);rintro r2 _ u ⟨k,rfl,hk,mB,rfl,wu⟩ dW pE;simp only[al,ae];by_cases hlk:k<i
    ·have ik:k<x.aG.length:=by omega
     have Qn:(ints x.aG)[k]? =some (.int .i64 x.aG[k]):=Zw ik;rw[ah (show(k:Int)<(i:Int) by omega),cond_true,aW,Ze (Zk ik)];simp only[aY];rw[Bb.dj Qn];simp only[aS];rw[aW,Ze (Zk aj),Bb.dj dM];simp only[aS];by_cases he:x.aG[k]=x.aG[i]
     ·rw[show(x.aG[k]==x.aG[i])=true by rw[he];exact fH _,cond_true]
      exact hF u dq.1 (VI i k aj hlk (by rw[ba ik,ba aj,he]))
     ·rw[show(x.aG[k]==x.aG[i])=false from cg.2 he,cond_false,Zd (by omega) (by omega)]
      refine pE (i-(k+1)) _ _ (by omega) ⟨k+1,rfl,by omega,aA _,rfl,?_⟩;rw[kL ik];intro lP;rcases de.1 lP with lP|lP
      ·exact wu lP
      ·exact he (bP.1 lP).symm
    ·rw[ao (show ¬(k:Int)<(i:Int) by omega),cond_false]
     have:k=i:=by omega
     subst this;simp only[br,ae];rw[Zd (by omega) (by omega)];refine aD (x.aG.length-(k+1)) _ _ (by omega) ⟨k+1,1,q2,?_,.inl rfl,by omega,aA _,?_,fun j hj=>?_⟩
     ·rw[gS,<-dB,aZ (as:=l++x.aG.take k)];rfl
     ·rw[gS,<-dB]
      unfold ints at dq⊢;rw[dD (l₁:=l++x.aG.take k)];exact dq
     ·by_cases wo:j=k
      ·subst wo
       rw[bM,ba aj];exact wu
      ·exact C4 j (by omega)
   ·rw[ao (show ¬(i:Int)<(x.aG.length:Int) by omega),cond_false]
    have:i=x.aG.length:=by omega
    subst this;rw[oQ]at ho⊢;rw[Ju];simp only[br,ae];refine Ok.join fun ku Qs=>?_
    refine ZyO (Kn:=ku) (n+1) m (l++x.aG) q t ho.sl (by rw[aZ];omega) (by rw[aZ];omega) ?_ ?_
    ·intro k hk AJ
     refine hF t ho.1 fun hS=>AJ ?_
     rw[<-dN];rcases de.1 hk with hk|hk
     ·rw[hle]at hk
      rcases de.1 hk with hk|hk
      ·by_cases hu:x.used=0
       ·rw[aF hu]at hk;cases hk
       ·rw[ay hu]at hk;rw[bP.1 hk];exact hS.t1 (by omega)
      ·by_cases hu:x.dir=0
       ·rw[aF hu]at hk;cases hk
       ·rw[ay hu]at hk;rw[bP.1 hk];exact hS.d hu
     ·obtain⟨i,hi,rfl⟩:=List.mem_iff_getElem.1 hk
      have:=(hS.ch i hi).1;rw[bM,ba hi]at this;exact this
    ·intro bW
     have:jz x=true:=by
      refine(BU x).2 ⟨by omega,by omega,hg,by omega,by omega,by omega,by omega,Q5,fun hu=>?_,fun hu=>?_,by rw[hm,qm];exact h7,fun i hi=>⟨?_,C4 i hi⟩⟩
      ·rw[dN]
       exact bW _ (de.2 (.inl (by rw[hle,ay (by omega)];simp)))
      ·rw[dN]
       exact bW _ (de.2 (.inl (by rw[hle,ay hu];simp)))
      ·rw[dN,bM,ba hi]
       exact bW _ (de.2 (.inr (gC hi)))
     rw[Qs];simp only[ae];rw[this,Zc];exact .mk ⟨t,rfl,ho.1⟩
  by_cases uq:x.dir=0
  ·rw[show(!(x.dir==0))=false by rw[uq];rfl,cond_false]
   exact A8 q l s ho (by omega) (by rw[aF uq,dZ];exact hle)
  ·rw[show(!(x.dir==0))=true by rw[gZ];exact cg.2 uq,cond_true]
   obtain⟨q2,t2,dq,nA,he⟩:=ho.wT (β:=List DV) (sz:=1) (n:=l.length) (lim:=8796093022208) [.int .i64 x.dir] (sf 0) (by simp[ints]) rfl (by omega);refine Eq.mpr (congrArg (Ok _) (he _)) ?_;have:=A8 q2 (l++[x.dir]) t2 (by unfold ints at dq⊢;rw[dD];exact dq) (by simp;omega) (by rw[ay uq,<-hle]);rw[aZ]at this;exact this
 by_cases wH:x.used=0
 ·rw[show(x.used==0)=true by rw[wH];rfl,cond_true]
  by_cases hfn:x.cA=0
  ·rw[show(!(x.cA==0))=false by rw[hfn];rfl,cond_false]
   exact A7 none 0 [] st (bh.nil (.refl st)) (.inr rfl) (by simp) (fun _=>hfn) (by rw[aF wH])
  ·rw[show(!(x.cA==0))=true by rw[gZ];exact cg.2 hfn,cond_true]
   exact hF st (.refl st) fun k=>hfn (k.t0 wH)
 ·rw[show(x.used==0)=false from cg.2 wH,cond_false]
  obtain⟨q2,t2,dq,nA,he⟩:=(bh.nil (.refl st)).wT (β:=List DV) (sz:=1) (n:=0) (lim:=8796093022208) [.int .i64 x.cA] (sf 0) rfl rfl (by omega);refine Eq.mpr (congrArg (Ok _) (he _)) ?_;exact A7 q2 1 [x.cA] t2 dq (.inl rfl) (by simp) (fun e=>absurd e wH) (by rw[ay wH])
end Go.Gv.F
namespace Go.Gv.F
open Go.Gv
theorem ZAx (k m:Nat) (hk:k<64) (h:2^k*(2*m+1)<18446744073709551616):bits .and .u64 ((2^k*(2*m+1):Nat):Int) (IntKind.wrap .u64 (0-((2^k*(2*m+1):Nat):Int)))=((2^k:Nat):Int):=by
 have hp:0<2^k*(2*m+1):=Nat.mul_pos (mT k) (by omega);have np:(2:Nat)^64=18446744073709551616:=by decide
 have hn:=Zz4 k m 64 hk (by omega);generalize 2^k*(2*m+1)=w at h hp hn⊢;have e:IntKind.wrap .u64 (0-(w:Int))=((2^64-w:Nat):Int):=by
  show(0-(w:Int))%18446744073709551616=_;omega
 rw[e,Zw7 h (by omega),hn]
def Bm (k:Nat):Nat:=(2^k*285870213051353865%18446744073709551616)/288230376151711744
def Sw (d:Option DV) (k:Nat):Bool:=match d with
 |some (.int .u8 n)=>n==(k:Int)
 |_=>false
theorem ZAc {d:Option DV} {k:Nat} (h:Sw d k=true):d=some (.int .u8 (k:Int)):=by
 unfold Sw at h;split at h
 ·rw[lW.1 h]
 ·cases h
theorem Zxu: ∀k,k<64->Bm k<64/\Sw (Kr[Bm k]?) k=true:=by decide+kernel
theorem ZAB (k:Nat) (h:k<64):Bm k<64/\Kr[Bm k]? =some (.int .u8 (k:Int)):=⟨(Zxu k h).1,ZAc (Zxu k h).2⟩
theorem Zzm (x c:Nat):(IntKind.wrap .u64 ((x:Int)*((c:Nat):Int))).fdiv (2^58)=((x*c%18446744073709551616/288230376151711744:Nat):Int):=by
 have e1:((x:Int)*((c:Nat):Int))=((x*c:Nat):Int):=by push_cast;rfl
 have e2:(2:Int)^58=((288230376151711744:Nat):Int):=by decide
 rw[e1,ZzP,e2,zX]
theorem UL {Bd:Za} (h:KV Bd):KN Bd:=by
 intro n k m st ht hk hw;rw[Zf,h.eq];have hand:=ZAx k m hk hw;have hp:0<2^k*(2*m+1):=Nat.mul_pos (mT k) (by omega);generalize 2^k*(2*m+1)=w at hand hp hw;obtain⟨h1,h2⟩:=ZAB k hk;have DA:(IntKind.wrap .u64 (((2^k:Nat):Int)*285870213051353865)).fdiv (2^58)=((Bm k:Nat):Int):=Zzm (2^k) 285870213051353865;unfold BC Ph;simp only[al,ae];rw[hand,DA,show((w:Int)==0)=false from cg.2 (by omega),cond_false,Ze (show au ((Bm k:Nat):Int) 64=true from Zk h1),aY,dx,dC];rw[Zn (i:=2) (f:=true) (all:=Kr) (d:= .int .u8 (k:Int)) (ht 2 _ rfl) h2];simp only[aS,Zc];rw[Zd (by omega) (by omega)]
end Go.Gv.F
