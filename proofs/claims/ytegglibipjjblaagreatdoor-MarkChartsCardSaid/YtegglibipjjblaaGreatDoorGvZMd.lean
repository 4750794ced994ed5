/- States alike: the program's own comparison. -/
import Derived.Test.YtegglibipjjblaaGreatDoorGvZMc
namespace Go.Gv.F
open Go.Gv
variable {β:Type}
theorem Zx4 (c c':Zg) (n:Nat) (args:List DV):ZU c n args=Cn c' n args:=rfl
theorem ZkT {Bd:Za} (h:Mg Bd) (n za zb:Nat) (l m:List bm) (p q:Option (Nat×Nat)) (st:St) (vB:za=4\/p=none) (vC:zb=4\/q=none) (hp:Sl st p (bP l)) (hq:Sl st q (bP m)) (hl:l.length<=50000) (hn:50100<=n):
  Ok (fun o=>∃b,o=(.val [.bool b],st)/\(b=true↔l=m)) (run Bd n 235 [.slice za p l.length,.slice zb q m.length] st):=by
 obtain⟨n,rfl⟩: ∃m,n=m+1:=⟨n-1,by omega⟩;have:=ZoD (Bd:=fun _=>Cn) ⟨rfl⟩ (n+1) za zb l m p q st vB vC hp hq hl hn;rw[Zf]at this;rw[Zf,h.eq,Zx4 _ (run (fun _=>Cn) n)];exact this
theorem Zuq {Bd:Za} (h:Ig Bd) (n za zb:Nat) (x y:cN) (p q:Option (Nat×Nat)) (st:St) (vB:za=4\/p=none) (vC:zb=4\/q=none) (hp:Sl st p (bP x.aN)) (hq:Sl st q (bP y.aN)) (hl:x.aN.length<=50000) (hn:50110<=n):
  Ok (fun o=>∃b,o=(.val [.bool b],st)/\(b=true↔x=y)) (run Bd n 199 [.agg (lG x za p),.agg (lG y zb q)] st):=by
 obtain⟨n,rfl⟩: ∃m,n=m+1:=⟨n-1,by omega⟩;rw[Zf,h.eq];unfold H7 lG;rw[bZ];simp only[bU,Zm 4 za p _ vB,ae];rw[bZ];simp only[bU,Zm 4 zb q _ vC,ae,Zc];by_cases vq:x.name=y.name
 ·rw[show(x.name==y.name)=true by rw[vq];exact gN _,cond_true]
  refine Ok.call (ZkT h.q2 n 4 4 x.aN y.aN p q st (.inl rfl) (.inl rfl) hp hq hl (by omega)) ?_;rintro _ ⟨c,rfl,hc⟩;refine⟨_,st,rfl,?_⟩;simp only[ai,ae,Ze];refine .mk ⟨c,rfl,hc.trans ⟨fun e=>?_,fun e=>by rw[e]⟩⟩;cases x;cases y;simp only at vq e;subst vq e;rfl
 ·rw[show(x.name==y.name)=false from cx.2 vq,cond_false]
  simp only[ai,ae,Ze];exact .mk ⟨false,rfl,by simp only[oe,false_iff];exact fun e=>vq (by rw[e])⟩
theorem Zr4 {s:St} {i o j:Nat} {ds:List DV} {xs:List cN} {x:cN} (hs:Sl s (some (i,o)) ds) (hh:iz s ds xs) (e:xs[j]? =some x): ∃z p,(z=4\/p=none)/\Sl s p (bP x.aN)/\∀K:List DV->M β,M.load i (j*2+o) 2 K s=K (lG x z p) s:=by
 obtain⟨z,p,hz,h1,_,_,h2⟩:=hh.get e;have hj:j<xs.length:=(cd.1 e).1;exact⟨z,p,hz,h2,fun K=>by rw[hs.Kb (k:=j*2) (n:=2) (by rw[hh.len];omega) K,h1]⟩
theorem Zl2 {Bd:Za} (h:ZD Bd) (h2:Ig Bd) (n z1 z2:Nat) (xs ys:List cN) (p q:Option (Nat×Nat)) (st:St) (jn:z1=2\/p=none) (gZ:z2=2\/q=none) (hx: ∃ds,Sl st p ds/\iz st ds xs) (hy: ∃ds,Sl st q ds/\iz st ds ys) (sz:L9 xs) (hn:50120<=n):
  Ok (fun o=>∃b,o=(.val [.bool b],st)/\(b=true↔xs=ys)) (run Bd n 198 [.slice z1 p xs.length,.slice z2 q ys.length,.func 199 [] []] st):=by
 obtain⟨n,rfl⟩: ∃m,n=m+1:=⟨n-1,by omega⟩;rw[Zf,h.eq];unfold Zv;simp only[Zm 2 z1 p _ jn,Zm 2 z2 q _ gZ,L7,ae];have no:xs≠ys->Ok (fun o=>∃b,o=(.val [.bool b],st)/\(b=true↔xs=ys)) ((M.ret [.bool false]:M (List DV)) st):=by
  intro hm;rw[Ze];exact .mk ⟨false,rfl,by simp[hm]⟩
 by_cases hlen:xs.length=ys.length;rotate_left
 ·rw[show((xs.length:Int)==(ys.length:Int))=false from cx.2 (by omega),bD,cond_true]
  exact no fun e=>hlen (by rw[e])
 rw[show((xs.length:Int)==(ys.length:Int))=true by rw[hlen];exact gN _,bx,cond_false,Zc];obtain⟨ds,hs,hh⟩:=hx;obtain⟨es,gs,gh⟩:=hy;have df:=sz.len;refine Zl _ (fun k v s=>∃i:Nat,v=[.int .i64 i]/\i<=xs.length/\xs.length-i<=k/\s=st/\∀j,j<i->xs[j]? =ys[j]?) ?_ xs.length n _ _ ⟨0,rfl,bH _,by omega,rfl,fun j hj=>absurd hj (uu j)⟩ (by omega);rintro k _ s ⟨i,rfl,hi,hk,rfl,ca⟩ rec aD;simp only[al,ae];by_cases aj:i<xs.length
 ·obtain⟨i1,o1,rfl⟩:=hs.ck (by rw[hh.len];omega)
  obtain⟨i2,o2,rfl⟩:=gs.ck (by rw[gh.len];omega);have e1:xs[i]? =some xs[i]:=ba aj;have e2:ys[i]? =some ys[i]:=ba (by omega);generalize xs[i]=a at e1;generalize ys[i]=b at e2;have hae:=sz.aN a (lh e1);obtain⟨za,pa,vB,hpa,la⟩:=Zr4 (β:=List DV) hs hh e1;obtain⟨zb,pb,vC,hpb,lb⟩:=Zr4 (β:=List DV) gs gh e2;rw[ah (show(i:Int)<(xs.length:Int) by omega),cond_true,aV,Zd (Zk aj),aX,la];unfold lG;simp only[bU,Zm 4 za pa _ vB,ae];rw[aV,Zd (Zk (by omega)),lb];unfold lG;simp only[bU,Zm 4 zb pb _ vC,ae];refine Ok.call (Zuq h2 n 4 4 a b pa pb s (.inl rfl) (.inl rfl) hpa hpb hae (by omega)) ?_;rintro _ ⟨c,rfl,hc⟩;refine⟨_,s,rfl,?_⟩;simp only[ai,ae];cases c with
  |false=>
   rw[bD,cond_true];exact no fun e=>by
    rw[<-e,e1]at e2;cases e2;cases hc.2 rfl
  |true=>
   have dc:a=b:=hc.1 rfl;rw[bx,cond_false,Zb (by omega) (by omega)];refine aD (xs.length-(i+1)) _ _ (by omega) ⟨i+1,rfl,by omega,by omega,rfl,fun j hj=>?_⟩;by_cases jf:j<i
   ·exact ca j jf
   ·have:j=i:=by omega
    subst this;rw[e1,e2,dc]
 ·rw[ao (show ¬(i:Int)<(xs.length:Int) by omega),cond_false,Ze]
  refine .mk ⟨true,rfl,?_⟩;simp only[true_iff];exact na fun j=>by
   by_cases hj:j<i
   ·exact ca j hj
   ·rw[dT (by omega),dT (by omega)]
theorem Zgv {Bd:Za} (h:Mj Bd) (n:Nat) (ws vs:List Int) (a b:Option (Nat×Nat)) (st:St) (ha:Sl st a (ints ws)) (hb:Sl st b (ints vs)) (hn:ws.length+2<=n) (hs:ws.length<1000000):
  Ok (fun o=>o=(.val [.bool (decide (ws=vs))],st)) (run Bd n 114 [.slice 1 a ws.length,.slice 1 b vs.length] st):=by
 obtain⟨n,rfl⟩: ∃m,n=m+1:=⟨n-1,by omega⟩;rw[Zf,h.eq,Zp5];exact ZwZ _ n ws vs 1 1 a b st (.inl rfl) (.inl rfl) ha hb (by omega) (by omega)
theorem Zup {Bd:Za} (h:Oc Bd) (n:Nat) (x y:cT) (z1 z2 z3:Nat) (p1 p2 p3:Option (Nat×Nat)) (Ud Fk Fl:Nat) (q1 q2 q3:Option (Nat×Nat)) (st:St) (jn:z1=2\/p1=none) (gZ:z2=1\/p2=none) (jR:z3=1\/p3=none)
  (YE:Ud=2\/q1=none) (YF:Fk=1\/q2=none) (YG:Fl=1\/q3=none) (hx:oq st x p1 p2 p3) (hy:oq st y q1 q2 q3) (sz:Cg x) (hn:50200<=n):
  Ok (fun o=>∃b,o=(.val [.bool b],st)/\(b=true↔x=y)) (run Bd n 174 [.agg (dA x z1 p1 z2 p2 z3 p3),.agg (dA y Ud q1 Fk q2 Fl q3)] st):=by
 obtain⟨n,rfl⟩: ∃m,n=m+1:=⟨n-1,by omega⟩;rw[Zf,h.eq];unfold H9;have ag: ∀(v:cT) (z1 z2 z3:Nat) (p1 p2 p3:Option (Nat×Nat)) (l:List DV) (K:List DV->List DV->M (List DV)),J.a (.agg (dA v z1 p1 z2 p2 z3 p3)::l) K=K (dA v z1 p1 z2 p2 z3 p3) l:=fun _ _ _ _ _ _ _ _ _=>rfl
 simp only[ag];unfold dA;simp only[al,Zm 2 z1 p1 _ jn,Zm 1 z2 p2 _ gZ,Zm 1 z3 p3 _ jR,Zm 2 Ud q1 _ YE,Zm 1 Fk q2 _ YF,Zm 1 Fl q3 _ YG,ae,Zc];have no:x≠y->Ok (fun o=>∃b,o=(.val [.bool b],st)/\(b=true↔x=y)) (some (Out.val [DV.bool false],st)):=fun hm=> .mk ⟨false,rfl,by simp[hm]⟩
 have hg:((x.blocks==y.blocks)&&((x.cu==y.cu)&&((x.g==y.g)&&true)))=true↔x.blocks=y.blocks/\x.cu=y.cu/\x.g=y.g:=by
  simp only[vQ,aH,mu]
 cases pU:((x.blocks==y.blocks)&&((x.cu==y.cu)&&((x.g==y.g)&&true)))with
 |false=>
  rw[cond_false];simp only[ai,ae,cond_false,Ze];refine no fun e=>?_
  rw[hg.2 ⟨by rw[e],by rw[e],by rw[e]⟩]at pU;cases pU
 |true=>
 have vg:=hg.1 pU;rw[cond_true];refine Ok.call (Zl2 h.q0 h.aac n 2 2 x.aB y.aB p1 q1 st (.inl rfl) (.inl rfl) hx.hp hy.hp sz.h (by omega)) ?_;rintro _ ⟨c,rfl,hc⟩;refine⟨_,st,rfl,?_⟩;simp only[ai,ae];cases c with
 |false=>
  rw[cond_false];simp only[cond_false,Ze];exact no fun e=>by cases hc.2 (by rw[e])
 |true=>
 have hhp:=hc.1 rfl;rw[cond_true];refine Ok.call (Zgv h.q10 n x.gens y.gens p2 q2 st hx.gn hy.gn (by have:=sz.g;omega) (by have:=sz.g;omega)) ?_;rintro _ rfl;refine⟨_,st,rfl,?_⟩;simp only[ai,ae];by_cases vj:x.gens=y.gens;rotate_left
 ·rw[ao vj,cond_false]
  simp only[Ze];exact no fun e=>vj (by rw[e])
 rw[ah vj,cond_true];refine Ok.call (Zgv h.q10 n x.free y.free p3 q3 st hx.fr hy.fr (by have:=sz.f;omega) (by have:=sz.f;omega)) ?_;rintro _ rfl;refine⟨_,st,rfl,?_⟩;simp only[ai,ae,Ze];by_cases fR:x.free=y.free;rotate_left
 ·rw[ao fR]
  exact no fun e=>fR (by rw[e])
 rw[ah fR];refine .mk ⟨true,rfl,?_⟩;simp only[true_iff];cases x;cases y;simp only at vg vj fR hhp;obtain⟨h1,h2,h3⟩:=vg;subst h1 h2 h3 vj fR hhp;rfl
end Go.Gv.F
namespace Go.Gv.F
open Go.Gv
theorem qB (w j:Nat):dM w j=w.testBit j:=by rw[Nat.testBit_eq_decide_div_mod_eq];rfl
theorem ZwO: ∀(w:Nat),0<w->∃k m,w=2^k*(2*m+1)
 |0,h=>absurd h (by decide)
 |w+1,_=>by
  by_cases h:(w+1)%2=1
  ·exact⟨0,(w+1)/2,by omega⟩
  ·obtain⟨k,m,e⟩:=ZwO ((w+1)/2) (by omega)
   exact⟨k+1,m,by rw[nb,Nat.mul_right_comm,<-e];omega⟩
termination_by w=>w
decreasing_by omega
theorem uA (k a j:Nat):(2^k*a).testBit j=(decide (k<=j)&&a.testBit (j-k)):=by
 rw[Nat.testBit_two_pow_mul]
theorem CY (m i:Nat):(2*m+1).testBit i=(decide (i=0)||(2*m).testBit i):=by
 cases i with
 |zero=>simp[Nat.testBit_zero]
 |succ i=>
  rw[Nat.testBit_succ,Nat.testBit_succ,show(2*m+1)/2=m by omega,show 2*m/2=m by omega];simp
theorem Zr8 (m:Nat):(2*m).testBit 0=false:=by simp[Nat.testBit_zero]
theorem Zz9 (k a b j:Nat) (h:b<2^k):(2^k*a+b).testBit j=if j<k then b.testBit j else a.testBit (j-k):=by
 rw[Nat.testBit_two_pow_mul_add a h]
theorem ZzP (k m:Nat):2^k*(2*m+1)&&& (2^k*(2*m+1)-1)=2^k*(2*m):=by
 have hp:0<2^k:=nc k;have e:2^k*(2*m+1)-1=2^k*(2*m)+(2^k-1):=by rw[Nat.mul_add,di];omega
 rw[e];refine B6 fun j=>?_
 rw[Nat.testBit_and,uA,Zz9 k _ _ j (by omega),uA];by_cases hj:j<k
 ·rw[ao (by omega)];simp
 ·rw[ax hj,ah (show k<=j by omega),CY]
  cases h0:decide (j-k=0)with
  |true=>rw[lY h0,Zr8];rfl
  |false=>simp
theorem ZAn (k m n:Nat) (hk:k<n) (h:2^k*(2*m+1)<2^n):2^k*(2*m+1)&&& (2^n-2^k*(2*m+1))=2^k:=by
 have hp:0<2^k:=nc k;have hn:2^n=2^k*(2*2^(n-k-1)):=by rw[<-Nat.pow_succ',<-Nat.pow_add];congr 1;omega
 rw[hn]at h⊢;have hm:2*m+1<2*2^(n-k-1):=Nat.lt_of_mul_lt_mul_left h;have dr:m<2^(n-k-1):=by omega
 rw[<-Nat.mul_sub,show 2*2^(n-k-1)-(2*m+1)=2*(2^(n-k-1)-(m+1))+1 by omega];refine B6 fun j=>?_
 rw[Nat.testBit_and,uA,uA,Nat.testBit_two_pow,CY,CY];by_cases hj:k<=j
 ·rw[ah hj]
  by_cases h0:j=k
  ·subst h0;simp
  ·rw[ao (show ¬k=j by omega),ao (show ¬j-k=0 by omega)]
   obtain⟨i,hi⟩: ∃i,j-k=i+1:=⟨j-k-1,by omega⟩;rw[hi,Nat.testBit_succ,Nat.testBit_succ,Nat.mul_div_cancel_left _ (by decide),Nat.mul_div_cancel_left _ (by decide),Nat.testBit_two_pow_sub_succ dr];cases m.testBit i<;>simp
 ·rw[ao hj,ao (show ¬k=j by omega)];rfl
def nx (w:Nat):List Nat:=(List.range 64).filter (dM w)
theorem Zxy:nx 0=[]:=by
 unfold nx;rw[List.filter_eq_nil_iff];intro j _;rw[qB,Nat.zero_testBit];simp
theorem Zy0 (k n:Nat) (h:k<n):List.range n=List.range k++k::List.range' (k+1) (n-k-1):=by
 have:n=k+(1+(n-k-1)):=by omega
 rw[Fy,Fy]
 conv=>lhs;rw[this]
 rw[<-List.range'_append_1,rH 1,B2,dj]
theorem ZxK (k m:Nat) (hk:k<64):nx (2^k*(2*m+1))=k::nx (2^k*(2*m)):=by
 unfold nx;rw[Zy0 k 64 hk,zQ,zQ,List.filter_cons,List.filter_cons];have h1: ∀a,(List.range k).filter (dM (2^k*a))=[]:=fun a=>by
  rw[List.filter_eq_nil_iff];intro j hj;rw[qB,uA,ao (by have:=jE.1 hj;omega)];simp
 have h2:dM (2^k*(2*m+1)) k=true:=by rw[qB,uA,CY];simp
 have h3:dM (2^k*(2*m)) k=false:=by rw[qB,uA,qw,Zr8];simp
 rw[h1,h1,h2,h3,aG rfl,ax (by decide),fe,fe];refine congrArg (k:: ·) (List.filter_congr fun j hj=>?_);rw[qB,qB,uA,uA,CY,ao (show ¬j-k=0 by have:=List.mem_range'_1.1 hj;omega)];rfl
theorem O2 (w:Nat):(nx w).length<=64:=by
 have:=List.length_filter_le (dM w) (List.range 64);rw[Fv]at this;exact this
def qI:Nat->List Nat->List Int
 |_,[]=>[]
 |b,w::r=>(nx w).map (fun j=>((b*64+j:Nat):Int))++qI (b+1) r
def eI (W:List Nat):List Int:=qI 0 W
theorem IH: ∀(b:Nat) (W:List Nat),(qI b W).length<=64*W.length
 |_,[]=>ay _
 |b,w::r=>by
  unfold qI;have:=IH (b+1) r;have:=O2 w;rw[bg,lS,dF];omega
theorem ZpX: ∀(b:Nat) (W:List Nat) (w:Nat),qI b (W++[w])=qI b W++(nx w).map (fun j=>(((b+W.length)*64+j:Nat):Int))
 |b,[],w=>by simp[qI]
 |b,x::r,w=>by
  rw[kz];unfold qI;rw[ZpX (b+1) r w,dD,dF,Nat.add_right_comm b 1,lU b]
theorem ZxF (W:List Nat) {i:Nat} (h:i<W.length):eI (W.take (i+1))=eI (W.take i)++(nx W[i]).map (fun j=>((i*64+j:Nat):Int)):=by
 unfold eI;rw[jG h,ZpX,bW,j1 (by omega),dj]
end Go.Gv.F
namespace Go.Gv.F
open Go.Gv
variable {β:Type}
def Ma (Bd:Za):Prop:=∀(n k m:Nat) (st:St),ux st->k<64->2^k*(2*m+1)<18446744073709551616->run Bd (n+1) 86 [.int .u64 ((2^k*(2*m+1):Nat):Int)] st=some (.val [.int .i64 (k:Int)],st)
theorem Zy8 {a b:Nat} (ha:a<18446744073709551616) (hb:b<18446744073709551616):bits .and .u64 (a:Int) (b:Int)=((a&&& b:Nat):Int):=Uj ha hb
theorem Nx (W:List Nat) (i:Nat):(eI (W.take i)).length<=64*W.length:=by
 have h1:=IH 0 (W.take i);unfold eI;rw[bW]at h1;have:min i W.length<=W.length:=Nat.min_le_right _ _;omega
theorem Zm3 {Bd:Za} (h:Gt Bd) (hz:Ma Bd) (n:Nat) {f:Bool} {i j m:Nat} {W:List Nat} (st:St) (ht:ux st) (hs:eY st f i j m W) (hn:80<=n):
  Ok (fun o=>∃p s',o=(.val [.slice 1 p (eI W).length],s')/\ar st s'/\Sl s' p (ints (eI W))/\∀b∈aF p,st.length<=b) (run Bd n 172 [.ptr (some (i,0))] st):=by
 obtain⟨n,rfl⟩: ∃k,n=k+2:=⟨n-2,by omega⟩;rw[Zf,h.eq];unfold Gm;simp only[fm,ae,aV];rw[Zn hs.hd rfl];simp only[jJ,Zc];have hle:=hs.le;have hlen:=hs.len;refine Zl _ (fun q y s=>∃(a z:Nat) (p:Option (Nat×Nat)),y=[.slice z p (eI (W.take a)).length,.int .i64 a]/\(z=1\/p=none)/\a<=W.length/\W.length-a<=q/\aY st s p (ints (eI (W.take a)))) ?_ W.length (n+1) _ _ ⟨0,0,none,rfl,.inr rfl,bH _,by omega,aY.nil (.refl st)⟩ (by omega);rintro q _ s ⟨a,z,p,rfl,SS,ha,hq,ho⟩ rec aD;simp only[al,Zm 1 z p _ SS,ae];have ga:=hs.pre ho.1;by_cases aj:a<W.length
 ·rw[ah (show(a:Int)<(W.length:Int) by omega),cond_true,aV,Zd (Zk aj),aX]
  have SM:W[a]? =some W[a]:=ba aj;have Et:=hs.lt _ (fK aj);rw[Zn (d:= .int .u64 (W[a]:Nat)) ga.wd (by rw[di,dG];simp[ZG,aj])];simp only[aM];have rl:=ZxF W aj;have hA:=Nx W a;have hB:=Nx W (a+1);generalize eI (W.take a)=A at ho rl hA;generalize W[a]=w at Et rl;have cj:af ((a:Int)+1)=((a+1:Nat):Int):=Zb (by omega) (by omega);have fU:af ((a:Int)*64)=((a*64:Nat):Int):=by rw[Zb (by omega) (by omega)];omega
  simp only[cj,fU];obtain⟨F,hF⟩: ∃F:Nat->Int,(fun j=>((a*64+j:Nat):Int))=F:=⟨_,rfl⟩;rw[hF]at rl;refine Zl _ (fun q' y t=>∃(w' z':Nat) (D:List Nat) (p':Option (Nat×Nat)),y=[.slice z' p' (A++D.map F).length,.int .u64 (w':Int)]/\(z'=1\/p'=none)/\w'<18446744073709551616/\D++nx w'=nx w/\(nx w').length<=q'/\aY st t p' (ints (A++D.map F))) ?_ 64 (n+1) _ _ ⟨w,1,[],p,by rw[List.map_nil,ez],.inl rfl,Et,rfl,O2 w,by rw[List.map_nil,ez];exact ho⟩ (by omega);rintro q' _ t ⟨w',z',D,p',rfl,YH,VI,hD,xj,yV⟩ dO nO;simp only[al,Zm 1 z' p' _ YH,ae];by_cases hw0:w'=0
  ·subst hw0
   rw[show(!(((0:Nat):Int)==0))=false from rfl,cond_false];simp only[bh,ae];rw[Zxy,ez]at hD;rw[hD,<-rl]at yV⊢;exact aD (W.length-(a+1)) _ _ (by omega) ⟨a+1,1,p',rfl,.inl rfl,by omega,ay _,yV⟩
  ·have hnz:(!((w':Int)==0))=true:=by rw[hJ,cx];omega
   obtain⟨k,m',e⟩:=ZwO w' (by omega);have hk:k<64:=by
    rcases eM k 64 with h|h
    ·exact h
    ·have h1:2^64<=2^k:=oh (by decide) h
     have h2:2^k*1<=2^k*(2*m'+1):=Nat.mul_le_mul_left _ (by omega);have h3:(2:Nat)^64=18446744073709551616:=by decide
     omega
   rw[hnz,cond_true];subst e;rw[Zi (hz n k m' t (ht.mono yV.1) hk VI)];simp only[al,ae];have nR:af (((a*64:Nat):Int)+(k:Int))=F k:=by rw[<-hF];exact Zb (by omega) (by omega)
   rw[nR];have sq:IntKind.wrap .u64 (((2^k*(2*m'+1):Nat):Int)-1)=((2^k*(2*m'+1)-1:Nat):Int):=by
    have h1:(((2^k*(2*m'+1):Nat):Int)-1)=((2^k*(2*m'+1)-1:Nat):Int):=by omega
    rw[h1];exact uN (by omega)
   have fS:bits .and .u64 (((2^k*(2*m'+1):Nat):Int)) (IntKind.wrap .u64 (((2^k*(2*m'+1):Nat):Int)-1))=((2^k*(2*m'):Nat):Int):=by
    rw[sq,Zy8 VI (by omega),ZzP]
   rw[fS];rw[ZxK k m' hk]at hD xj;have hlD:(A++D.map F).length<=1000000:=by
    have h1:=congrArg List.length hD;rw[bg]at h1;have:=O2 w;rw[bg,lS];omega
   obtain⟨p2,s2,cK,nL,he⟩:=yV.xJ (β:=List DV) (sz:=1) (n:=(A++D.map F).length) (lim:=8796093022208) [.int .i64 (F k)] (sN 0) (by simp[ints]) rfl (by omega);refine Eq.mpr (congrArg (Ok _) (he _)) ?_;refine nO (nx (2^k*(2*m'))).length _ _ (by simp at xj;omega) ⟨_,1,D++[k],p2,?_,.inl rfl,?_,by rw[dD];exact hD,ay _,?_⟩
   ·rw[dL,<-dD,bg (as:=A++D.map F)];rfl
   ·have:2^k*(2*m')<=2^k*(2*m'+1):=Nat.mul_le_mul_left _ (by omega)
    omega
   ·rw[dL,<-dD]
    unfold ints at cK⊢;rw[dL (l₁:=A++D.map F)];exact cK
 ·rw[ao (show ¬(a:Int)<(W.length:Int) by omega),cond_false]
  simp only[bh,ae,Ze];rw[cA (by omega)]at ho⊢;refine .mk ⟨p,s,rfl,ho.1,ho.sl,fun b hb=>?_⟩;rcases ho.2 with⟨rfl,_⟩|⟨i',rfl,h1,_⟩
  ·cases hb
  ·rw[bK.1 hb];exact h1
end Go.Gv.F
namespace Go.Gv.F
open Go.Gv
variable {β:Type}
def V5 (x:Int):Int:=match F9 (fun _ _=>fail) 0 [.int .u64 x] []with
 |some (.val [.int _ v],_)=>v
 |_=>0
theorem ZuE {Bd:Za} (h:Mr Bd) (n:Nat) (x:Int) (st:St):run Bd (n+1) 210 [.int .u64 x] st=some (.val [.int .i64 (V5 x)],st):=by
 rw[Zf,h.eq];rfl
def PZ:Int->List Nat->Int
 |a,[]=>a
 |a,w::r=>PZ (af (a+V5 w)) r
def JO (W:List Nat):Int:=PZ 0 W
theorem Zs7 {Bd:Za} (h:MD Bd) (n:Nat) {f:Bool} {i j m:Nat} {W:List Nat} (st:St) (hs:eY st f i j m W) (hn:80<=n):Ok (fun o=>o=(.val [.int .i64 (JO W)],st)) (run Bd n 183 [.ptr (some (i,0))] st):=by
 obtain⟨n,rfl⟩: ∃k,n=k+2:=⟨n-2,by omega⟩;rw[Zf,h.eq];unfold GB;simp only[fm,ae,aV];rw[Zn hs.hd rfl];simp only[jJ,Zc];have hle:=hs.le;have hlen:=hs.len;refine Zl _ (fun q y s=>∃(a:Nat) (c:Int),y=[.int .i64 c,.int .i64 a]/\a<=W.length/\W.length-a<=q/\s=st/\PZ c (W.drop a)=JO W) ?_ W.length (n+1) _ _ ⟨0,0,rfl,bH _,by omega,rfl,rfl⟩ (by omega);rintro q _ s ⟨a,c,rfl,ha,hq,rfl,hc⟩ rec aD;simp only[al,ae];by_cases aj:a<W.length
 ·rw[ah (show(a:Int)<(W.length:Int) by omega),cond_true,aV,Zd (Zk aj),aX]
  rw[Zn (d:= .int .u64 (W[a]:Nat)) hs.wd (by rw[di,dG];simp[ZG,aj])];simp only[aM];rw[Zi (ZuE h.q16 n _ s)];simp only[al,ae];have cj:af ((a:Int)+1)=((a+1:Nat):Int):=Zb (by omega) (by omega);rw[cj];refine aD (W.length-(a+1)) _ _ (by omega) ⟨a+1,_,rfl,by omega,ay _,rfl,?_⟩;rw[<-hc,gT aj];rfl
 ·rw[ao (show ¬(a:Int)<(W.length:Int) by omega),cond_false]
  simp only[Ze];rw[mZ (by omega)]at hc;exact .mk (by rw[<-hc];rfl)
theorem Zrx {Bd:Za} (h:Mf Bd) (n:Nat) (W V:List Nat) (a b:Nat) (f g:Bool) (st:St) (ha:st[a]? =some (some ⟨f,ZG W⟩)) (hb:st[b]? =some (some ⟨g,ZG V⟩)) (hW:W.length<100000) (hn:W.length+3<=n):
  Ok (fun o=>o=(.val [.bool (decide (W=V))],st)) (run Bd n 236 [.slice 1 (some (a,0)) W.length,.slice 1 (some (b,0)) V.length] st):=by
 obtain⟨n,rfl⟩: ∃k,n=k+2:=⟨n-2,by omega⟩;rw[Zf,h.eq];unfold Z6;simp only[bh,ae];have no:W≠V->Ok (fun o=>o=(.val [.bool (decide (W=V))],st)) ((M.ret [.bool false]:M (List DV)) st):=by
  intro hm;rw[Ze];exact .mk (by rw[ao hm])
 by_cases hlen:W.length=V.length;rotate_left
 ·rw[show((W.length:Int)==(V.length:Int))=false from cx.2 (by omega),bD,cond_true]
  exact no fun e=>hlen (by rw[e])
 rw[show((W.length:Int)==(V.length:Int))=true by rw[hlen];exact gN _,bx,cond_false,Zc];refine Zl _ (fun k v s=>∃i:Nat,v=[.int .i64 i]/\i<=W.length/\W.length-i<=k/\s=st/\∀j,j<i->W[j]? =V[j]?) ?_ W.length (n+1) _ _ ⟨0,rfl,bH _,by omega,rfl,fun j hj=>absurd hj (uu j)⟩ (by omega);rintro k _ s ⟨i,rfl,hi,hk,rfl,ca⟩ rec aD;simp only[al,ae];by_cases aj:i<W.length
 ·have jP:i<V.length:=by omega
  rw[ah (show(i:Int)<(W.length:Int) by omega),cond_true,aV,Zd (Zk aj),aX];rw[Zn (d:= .int .u64 (W[i]:Nat)) ha (by rw[di,dG];simp[ZG,aj])];simp only[aM];rw[aV,Zd (Zk jP)];rw[Zn (d:= .int .u64 (V[i]:Nat)) hb (by rw[di,dG];simp[ZG,jP])];simp only[aM];by_cases hw:W[i]=V[i]
  ·rw[show(((W[i]:Nat):Int)==((V[i]:Nat):Int))=true by rw[hw];exact gN _,bx,cond_false,Zb (by omega) (by omega)]
   refine aD (W.length-(i+1)) _ _ (by omega) ⟨i+1,rfl,by omega,by omega,rfl,fun j hj=>?_⟩;by_cases jf:j<i
   ·exact ca j jf
   ·have:j=i:=by omega
    subst this;rw[ba aj,ba jP,hw]
  ·rw[show(((W[i]:Nat):Int)==((V[i]:Nat):Int))=false from cx.2 (by omega),bD,cond_true]
   exact no fun e=>hw (by subst e;rfl)
 ·rw[ao (show ¬(i:Int)<(W.length:Int) by omega),cond_false,Ze]
  refine .mk ?_;have:W=V:=na fun j=>by
   by_cases hj:j<i
   ·exact ca j hj
   ·rw[dT (by omega),dT (by omega)]
  rw[ah this]
theorem Znc {Bd:Za} (h:MS Bd) (n:Nat) {f g:Bool} {i j m i2 j2 m2:Nat} {W V:List Nat} (st:St) (hs:eY st f i j m W) (jQ:eY st g i2 j2 m2 V) (hn:80<=n):
  Ok (fun o=>o=(.val [.bool (decide (m=m2)&&decide (W=V))],st)) (run Bd n 202 [.ptr (some (i,0)),.ptr (some (i2,0))] st):=by
 obtain⟨n,rfl⟩: ∃k,n=k+1:=⟨n-1,by omega⟩;rw[Zf,h.eq];unfold Gp;simp only[fm,ae,aV];rw[Zn hs.hd rfl];simp only[aM];rw[Zn jQ.hd rfl];simp only[aM,Zc];have hle:=hs.le;have hlen:=hs.len;by_cases hm:m=m2
 ·rw[show((m:Int)==(m2:Int))=true by rw[hm];exact gN _,cond_true,Zn hs.hd rfl]
  simp only[jJ];rw[Zn jQ.hd rfl];simp only[jJ];refine Ok.call (Zrx h.q5 n W V j j2 f g st hs.wd jQ.wd (by omega) (by omega)) ?_;rintro _ rfl;refine⟨_,st,rfl,?_⟩;simp only[ai,ae,Ze];exact .mk (by rw[ah hm,cI])
 ·rw[show((m:Int)==(m2:Int))=false from cx.2 (by omega),cond_false]
  simp only[ai,ae,Ze];exact .mk (by rw[ao hm,eL])
def ou (l:List ZA):List DV:=(l.map Zz).flatten
theorem II {x:ZA} (h:x.bT.length=48):(Zz x).length=49:=by unfold Zz;rw[dF,Zr,h]
theorem N4: ∀ {l:List ZA},(∀x∈l,x.bT.length=48)->(ou l).length=l.length*49
 |[],_=>rfl
 |x::l,h=>by
  show(Zz x++ou l).length=_;rw[bg,II (h x (by simp)),N4 fun y hy=>h y (by simp[hy]),dF];omega
theorem ZnW: ∀ {l:List ZA} {j:Nat} {e:ZA},(∀x∈l,x.bT.length=48)->l[j]? =some e->((ou l).drop (j*49)).take 49=Zz e
 |[],j,e,_,h=>by simp at h
 |x::l,0,e,hl,h=>by
  simp only[gV,cX]at h;subst h;rw[nf,dE];have:=II (hl x (by simp));show(Zz x++ou l).take 49=_;rw[<-this,vT]
 |x::l,j+1,e,hl,h=>by
  have e2:ou (x::l)=Zz x++ou l:=rfl;have h49:=II (hl x (by simp));rw[e2,show(j+1)*49=(Zz x).length+j*49 by omega,<-iK,qm];exact ZnW (fun y hy=>hl y (by simp[hy])) (by simpa using h)
theorem ZwA (l m:List ZA):ou (l++m)=ou l++ou m:=by
 unfold ou;rw[dL,vR]
def xI (m:Nat) (x:ZA):Bool:=bif decide (0<(dz x 384).length)then decide ((dz x 384).getLastD 0>=(m:Int))else false
def wx (m:Nat):Nat->List ZA->List Nat->Option (List Nat)
 |_,[],W=>some W
 |i,x::r,W=>bif decide (x.no=i)&& !xI m x then wx m (i+1) r ((dz x 384).foldl (da m) W)else none
def uV (m:Nat) (l:List ZA):Option (List Nat):=bif decide ((l.length:Int)=lN m 384)then wx m 0 l (gm m [])else none
theorem Zq3 {Bd:Za} (h:M8 Bd) (n:Nat) (x:Int) (st:St):run Bd (n+1) 240 [.int .i64 x] st=some (.val [.int .i64 (lN x 384)],st):=by
 rw[Zf,h.eq];rfl
theorem Zvf {Bd:Za} (h:N9 Bd) (n m:Nat) (l:List ZA) (p:Option (Nat×Nat)) (z:Nat) (st:St) (hm:m<=3072) (hz:z=49\/p=none) (hl:Sl st p (ou l)) (qT: ∀x∈l,x.bT.length=48/\x.no<8) (iD:l.length<1000) (hn:2000<=n):
  Ok (fun o=>∃s',ar st s'/\match uV m l with
   |none=>o=(.val [.ptr none,.bool false],s')
   |some F=>∃i j,o=(.val [.ptr (some (i,0)),.bool true],s')/\eY s' false i j m F) (run Bd n 200 [.int .i64 (m:Int),.slice z p l.length] st):=by
 obtain⟨n,rfl⟩: ∃k,n=k+2:=⟨n-2,by omega⟩;obtain⟨R,hR⟩: ∃R,uV m l=R:=⟨_,rfl⟩;rw[hR];unfold uV at hR;rw[Zf,h.eq];unfold Ie;simp only[al,Zm 49 z p _ hz,ae];rw[Zc,ao (show ¬((m:Nat):Int)<0 by omega),cond_false,ao (show ¬((m:Nat):Int)>3072 by omega)];simp only[ai,ae];rw[Zc,cond_false,Zi (Zq3 h.q57 n m st)];simp only[al,ai,ae];have hq:(((l.length:Nat):Int)==lN m 384)=decide (((l.length:Nat):Int)=lN m 384):=rfl;rw[hq];cases Bu:decide (((l.length:Nat):Int)=lN m 384)with
 |false=>
  rw[Bu,cond_false]at hR;rw[bD,cond_true,Ze,<-hR];exact .mk ⟨st,.refl st,rfl⟩
 |true=>
 rw[Bu,cond_true]at hR;rw[bx,cond_false];obtain⟨s1,e1,aI,KX,Le⟩:=Iz h.xK (n+1) m [] none st hm rfl (by show 0<1000000;omega) (by show 0+4<=n+1;omega);have qO:run Bd (n+1) 177 [.int .i64 (m:Int),.slice 0 none 0] st=some (.val [.ptr (some (st.length+1,0))],s1):=by
  rw[Zf,h.xK.eq]at e1⊢;exact e1
 rw[Zi qO];simp only[fm,ae];rw[Zc];refine Zl _ (fun q y s=>∃(i:Nat) (W:List Nat),y=[.int .i64 i]/\i<=l.length/\l.length-i<=q/\ar st s/\eY s false (st.length+1) st.length m W/\wx m i (l.drop i) W=R) ?_ l.length (n+1) _ _ ⟨0,_,rfl,bH _,by omega,aI,Le,hR⟩ (by omega);rintro q _ s ⟨i,W,rfl,hi,hq,fT,cg,aA⟩ rec aD;simp only[al,ae];by_cases aj:i<l.length
 ·have df:=hl.mono fT
  have jm:l[i]? =some l[i]:=ba aj;obtain⟨QY,h8x⟩:=qT _ (fK aj);have hlen:=N4 fun x hx=>(qT x hx).1
  obtain⟨i1,o1,rfl⟩:=df.ck (by rw[hlen];omega);have jy:l.drop i=l[i]::l.drop (i+1):=gT aj;rw[jy]at aA;rw[ah (show(i:Int)<(l.length:Int) by omega),cond_true,aV,Zd (Zk aj),aX,df.Kb (k:=i*49) (n:=49) (by rw[hlen];omega),ZnW (fun x hx=>(qT x hx).1) jm];generalize l[i]=x at aA QY h8x;unfold wx at aA;have gQ:(bj x.bT).length=48:=by rw[Zr,QY]
  show Ok _ (J.i .i64 (.int .i64 x.no::bj x.bT) _ s);simp only[al];rw[bF gQ,bF (by simp[gQ])];refine Ok.call (ZsE h.q84 (n+1) x QY h8x s (by omega)) ?_;rintro _ ⟨px,s2,rfl,bd,rf⟩;refine⟨_,s2,rfl,?_⟩;simp only[bh,ae];have tR:=cg.pre bd;have abi:=Zsn x 384;have jl: ∀t,ar st t->R=none->Ok (fun o=>∃s',ar st s'/\match R with
   |none=>o=(.val [.ptr none,.bool false],s')
   |some F=>∃i j,o=(.val [.ptr (some (i,0)),.bool true],s')/\eY s' false i j m F) ((M.ret [.ptr none,.bool false]:M (List DV)) t):=by
   intro t ht e;rw[e,Ze];exact .mk ⟨t,ht,rfl⟩
  have bn:((((x.no:Nat):Int))==((i:Nat):Int))=decide (x.no=i):=by
   by_cases e:x.no=i
   ·rw[e,ah rfl];exact gN _
   ·rw[ao e];exact cx.2 (by omega)
  rw[bn];cases bz:decide (x.no=i)with
  |false=>
   rw[bz,eL,cond_false]at aA;rw[Zc,bD,cond_true];simp only[ai,ae,cond_true];exact jl s2 (fT.trans bd) aA.symm
  |true=>
  rw[bz,cI]at aA;obtain⟨ov,pX⟩: ∃ov,xI m x=ov:=⟨_,rfl⟩;rw[pX]at aA;unfold xI at pX;refine Ok.join fun cm XI=>?_
  have hA:Ok (fun o=>∃s',ar st s'/\match R with
   |none=>o=(.val [.ptr none,.bool false],s')
   |some F=>∃i j,o=(.val [.ptr (some (i,0)),.bool true],s')/\eY s' false i j m F) (cm [.bool ov] s2):=by
   rw[XI];simp only[ai,ae];cases ov with
   |true=>
    rw[bx,cond_false]at aA;rw[cond_true];exact jl s2 (fT.trans bd) aA.symm
   |false=>
    rw[bD,cond_true]at aA;rw[cond_false];have D9:j6 [st.length] px:=fun b o e hb=>by
     rw[bK.1 hb]at e;subst e;obtain⟨all,e1⟩:=rf.2 _ _ rfl;rw[tR.wd]at e1;cases e1
    rw[Zi (Ij h.zy (n+1) (dz x 384) px s2 tR (by omega) rf.1 D9 (by omega) (by omega))];simp only[ae];have cj:af ((i:Int)+1)=((i+1:Nat):Int):=Zb (by omega) (by omega);rw[cj];have X7:=fT.trans bd;refine aD (l.length-(i+1)) _ _ (by omega) ⟨i+1,_,rfl,by omega,ay _,uF X7 (ay _) _,tR.add (by omega) _ (by rw[(Z8 m _ _).1]) ((Z8 m _ _).2 tR.lt),aA⟩
  rw[bx,cond_false,Zc];cases tN:decide (0<(dz x 384).length)with
  |false=>
   rw[tN,cond_false]at pX;have:=uv tN;rw[ao (show ¬(((dz x 384).length:Nat):Int)>0 by omega),cond_false];simp only[ai,ae];subst pX;exact hA
  |true=>
   rw[tN,cond_true]at pX;have abt:=lY tN;obtain⟨i2,o2,rfl⟩:=rf.1.ck (by simp[ints];omega);have fU:af ((((dz x 384).length:Nat):Int)-1)=(((dz x 384).length-1:Nat):Int):=by rw[Zb (by omega) (by omega)];omega
   rw[ah (show(((dz x 384).length:Nat):Int)>0 by omega),cond_true,aV,fU,Zd (Zk (by omega)),aX,rf.1.cP (Zu (by omega))];simp only[aM];have Sb:(dz x 384)[(dz x 384).length-1]'(by omega)=(dz x 384).getLastD 0:=by
    rw[List.getLastD_eq_getLast?,List.getLast?_eq_getElem?,ba (by omega)];rfl
   rw[Sb,pX];simp only[ai,ae];exact hA
 ·rw[ao (show ¬(i:Int)<(l.length:Int) by omega),cond_false]
  simp only[Ze];rw[mZ (by omega)]at aA;rw[<-aA];exact .mk ⟨s,fT,_,_,rfl,cg⟩
end Go.Gv.F
namespace Go.Gv.F
open Go.Gv
variable {β:Type}
def bS (v:Int):Nat:=(v%18446744073709551616).toNat
def nZ (v:Int):UInt8:=UInt8.ofNat (v%256).toNat
theorem ow (v:Int):bS v<18446744073709551616:=by unfold bS;omega
theorem ZAr {x:Nat} (h:x<18446744073709551616):bS (x:Int)=x:=by unfold bS;omega
theorem Ax (v:Int):IntKind.wrap .u64 v=((bS v:Nat):Int):=by
 have e:v=v/18446744073709551616*18446744073709551616+((bS v:Nat):Int):=by unfold bS;omega
 have h:=uN (ow v);have hm:IntKind.wrap .u64 v=v%18446744073709551616:=rfl;rw[hm];unfold bS;omega
theorem Pn (v:Int):IntKind.wrap .u8 v=((nZ v).toNat:Int):=by
 have hm:IntKind.wrap .u8 v=v%256:=rfl;rw[hm];unfold nZ;show _=(((v%256).toNat%256:Nat):Int);omega
theorem Zro {Bd:Za} (h:Nf Bd) (n:Nat) (v i:Nat) (hv:v<18446744073709551616) (st:St) (hi:i<1000) (hn:i+3<=n):
  Ok (fun o=>o=(.val [.int .u8 ((v/256^i%256:Nat):Int)],st)) (run Bd n 248 [.int .u64 (v:Int),.int .i64 (i:Int)] st):=by
 obtain⟨n,rfl⟩: ∃k,n=k+2:=⟨n-2,by omega⟩;rw[Zf,h.eq];unfold GL;simp only[al,ae,Zc];refine Zl _ (fun q y s=>∃k:Nat,y=[.int .u64 ((v/256^k:Nat):Int),.int .i64 (k:Int)]/\k<=i/\i-k<=q/\s=st) ?_ i (n+1) _ _ ⟨0,by rw[zZ,Nat.div_one];rfl,bH _,by omega,rfl⟩ (by omega);rintro q _ s ⟨k,rfl,hk,hq,rfl⟩ rec aD;simp only[al,ae];have hd:v/256^k<18446744073709551616:=xW (B5 _ _) hv;by_cases aj:k<i
 ·rw[ah (show(k:Int)<(i:Int) by omega),cond_true]
  have h1:((v/256^k:Nat):Int).tdiv 256=((v/256^(k+1):Nat):Int):=by
   rw[nb,<-LU];rfl
  have h2:v/256^(k+1)<18446744073709551616:=xW (B5 _ _) hv;rw[h1,uN h2,Zb (by omega) (by omega)];exact aD (i-(k+1)) _ _ (by omega) ⟨k+1,rfl,by omega,ay _,rfl⟩
 ·rw[ao (show ¬(k:Int)<(i:Int) by omega),cond_false]
  have:k=i:=by omega
  subst this;simp only[Ze];refine .mk ?_;have h1:((v/256^k:Nat):Int).tmod 256=((v/256^k%256:Nat):Int):=rfl;rw[h1];have h2:IntKind.wrap .u8 ((v/256^k%256:Nat):Int)=((v/256^k%256:Nat):Int):=by
   show((v/256^k%256:Nat):Int)%256=_;omega
  rw[h2]
theorem Zzf (v n:Nat):bR v (n+1)=bR v n++[UInt8.ofNat (v/256^n)]:=by
 rw[ZuJ];rfl
theorem ZxY (x:Nat) (_h:x<256):pD [.int .u8 (x:Int)]=some [UInt8.ofNat x]:=rfl
theorem ZO {Bd:Za} (h:sT Bd) (n:Nat) (v k:Nat) (hv:v<18446744073709551616) (st:St) (hk:k<1000) (hn:k+10<=n):
  Ok (fun o=>∃s',o=(.val [.str (bR v k)],s')/\ar st s') (run Bd n 213 [.int .u64 (v:Int),.int .i64 (k:Int)] st):=by
 obtain⟨n,rfl⟩: ∃k,n=k+2:=⟨n-2,by omega⟩;rw[Zf,h.eq];unfold HJ;simp only[al,ae,Zc];refine Zl _ (fun q y s=>∃i:Nat,y=[.str (bR v i),.int .i64 (i:Int)]/\i<=k/\k-i<=q/\ar st s) ?_ k (n+1) _ _ ⟨0,rfl,bH _,by omega,.refl st⟩ (by omega);rintro q _ s ⟨i,rfl,hi,hq,hp⟩ rec aD;simp only[bU,al,ae];by_cases aj:i<k
 ·rw[ah (show(i:Int)<(k:Int) by omega),cond_true]
  refine Ok.call (Zro h.q70 (n+1) v i hv s (by omega) (by omega)) ?_;rintro _ rfl;refine⟨_,s,rfl,?_⟩;simp only[al,ae];rw[Zw,CX (by show 0+1<=1;omega)];show Ok _ (D.bT [.int .u8 ((v/256^i%256:Nat):Int)] _ _);unfold D.bT;rw[ZxY _ (Nat.mod_lt _ (by decide))];simp only;rw[Zd (gx (by rw[Zq];show i+1<=_;omega)),Zb (by omega) (by omega)];refine aD (k-(i+1)) _ _ (by omega) ⟨i+1,?_,by omega,ay _,hp.trans (ar.new _ _)⟩;rw[Zzf];have:UInt8.ofNat (v/256^i%256)=UInt8.ofNat (v/256^i):=by
   refine UInt8.toNat_inj.1 ?_;show v/256^i%256%256=v/256^i%256;omega
  rw[this];rfl
 ·rw[ao (show ¬(i:Int)<(k:Int) by omega),cond_false]
  have:i=k:=by omega
  subst this;simp only[Ze];exact .mk ⟨s,rfl,hp⟩
theorem ZsY {Bd:Za} (h:NJ Bd) (n:Nat) (x:Nat) (hx:x<4294967296) (st:St):run Bd (n+1) 288 [.int .u32 (x:Int)] st=some (.val [.int .u32 (lM x:Nat)],st):=by
 rw[Zf,h.eq];unfold H2 lM;simp only[al,ae];have h1:((x:Int).tmod 2==1)=decide (x%2=1):=by
  have e:(x:Int).tmod 2=((x%2:Nat):Int):=rfl;rw[e];by_cases h:x%2=1
  ·rw[h,ah rfl];rfl
  ·rw[ao h];exact cx.2 (by omega)
 have h2:(x:Int).tdiv 2=((x/2:Nat):Int):=rfl;rw[h1,h2,wA (by omega)];by_cases h:x%2=1
 ·rw[ah h,cond_true,aG h]
  have:=zK (x:=x/2) (y:=2197175160) (by omega) (by omega);rw[show((2197175160:Nat):Int)=2197175160 from rfl]at this;rw[this];rfl
 ·rw[ao h,cond_false,ax h];rfl
theorem Zrs {Bd:Za} (h:M7 Bd) (n:Nat) (x k:Nat) (hx:x<4294967296) (st:St) (hk:k<1000) (hn:k+4<=n):
  Ok (fun o=>o=(.val [.int .u32 (Zx k x:Nat)],st)) (run Bd n 264 [.int .u32 (x:Int),.int .i64 (k:Int)] st):=by
 obtain⟨n,rfl⟩: ∃k,n=k+2:=⟨n-2,by omega⟩;rw[Zf,h.eq];unfold GV;simp only[al,ae,Zc];have jP: ∀i,Zx i x<4294967296:=fun i=>by
  induction i with
  |zero=>exact hx
  |succ i ih=>rw[HQ];exact Zt3 ih
 refine Zl _ (fun q y s=>∃i:Nat,y=[.int .u32 ((Zx i x:Nat):Int),.int .i64 (i:Int)]/\i<=k/\k-i<=q/\s=st) ?_ k (n+1) _ _ ⟨0,rfl,bH _,by omega,rfl⟩ (by omega);rintro q _ s ⟨i,rfl,hi,hq,rfl⟩ rec aD;simp only[al,ae];by_cases aj:i<k
 ·rw[ah (show(i:Int)<(k:Int) by omega),cond_true,Zi (ZsY h.q96 n _ (jP i) s)]
  simp only[al,ae];rw[<-HQ,Zb (by omega) (by omega)];exact aD (k-(i+1)) _ _ (by omega) ⟨i+1,rfl,by omega,ay _,rfl⟩
 ·rw[ao (show ¬(i:Int)<(k:Int) by omega),cond_false]
  have:i=k:=by omega
  subst this;simp only[Ze];exact .mk rfl
theorem ZmT {Bd:Za} (h:Im Bd) (n:Nat) (a:Option (Nat×Nat)) (l:List UInt8) (st:St) (ha:dp st a l) (hl:l.length<1000000) (hn:l.length+20<=n):
  Ok (fun o=>o=(.val [.int .u32 (lB l:Nat)],st)) (run Bd n 242 [.slice 1 a l.length] st):=by
 obtain⟨n,rfl⟩: ∃k,n=k+2:=⟨n-2,by omega⟩;rw[Zf,h.eq];unfold Iq;simp only[bh,ae,Zc];refine Zl _ (fun q y s=>∃(i:Nat),y=[.int .u32 (((l.take i).foldl oR 4294967295:Nat):Int),.int .i64 (i:Int)]/\i<=l.length/\l.length-i<=q/\s=st) ?_ l.length (n+1) _ _ ⟨0,rfl,bH _,by omega,rfl⟩ (by omega);rintro q _ s ⟨i,rfl,hi,hq,rfl⟩ rec aD;simp only[al,ae];have hx:=C6 (l.take i) (x:=4294967295) (by omega);by_cases aj:i<l.length
 ·obtain⟨i1,o1,rfl⟩:=ha.ck (by omega)
  have jm:l[i]? =some l[i]:=ba aj;have fj:l.take (i+1)=l.take i++[l[i]]:=jG aj;rw[ah (show(i:Int)<(l.length:Int) by omega),cond_true,aV,Zd (Zk aj),aX,ha.cP jm];simp only[aM];have hc:=(l[i]).toNat_lt;rw[wA (by omega),zK hx (by omega)];refine Ok.call (Zrs h.q71 (n+1) _ 8 (Cc (n:=32) (by omega) (by omega)) s (by omega) (by omega)) ?_;rintro _ rfl;refine⟨_,s,rfl,?_⟩;simp only[al,ae];rw[Zb (by omega) (by omega)];refine aD (l.length-(i+1)) _ _ (by omega) ⟨i+1,?_,by omega,ay _,rfl⟩;rw[fj,List.foldl_append];rfl
 ·rw[ao (show ¬(i:Int)<(l.length:Int) by omega),cond_false]
  simp only[Ze];rw[cA (by omega)]at hx⊢;refine .mk ?_;have h1:(4294967295:Int)-((l.foldl oR 4294967295:Nat):Int)=((lB l:Nat):Int):=by unfold lB;omega
  rw[h1,wA (Jx l)]
def ZR (n:Nat):List UInt8:=List.replicate n 0
def dK (s:List UInt8) (n:Nat):List UInt8:=s++ZR (n-s.length)
def ko (kind tag:Int) (body:List UInt8):List UInt8:=[nZ kind,nZ tag,0,0]++dK body 56
def fu (kind tag:Int) (body:List UInt8):List UInt8:=bR (lB (ko kind tag body)) 4++ko kind tag body
theorem Zso (n:Nat):fD n [.int .u8 0]=bj (ZR n):=by
 unfold fD ZR bj;rw[List.map_replicate];induction n with
 |zero=>rfl
 |succ n ih=>rw[sM,mo,ih,sM];rfl
theorem ZsX {Bd:Za} (h:NT Bd) (n:Nat) (s:List UInt8) (k:Nat) (hs:s.length<1000000) (hk:k<1000000) (st:St):
  Ok (fun o=>∃s',o=(.val [.str (dK s k)],s')/\ar st s') (run Bd (n+1) 249 [.str s,.int .i64 (k:Int)] st):=by
 rw[Zf,h.eq];unfold Hr;simp only[bU,al,ae];have hw:af ((k:Int)-(s.length:Int))=(k:Int)-(s.length:Int):=Zb (by omega) (by omega);have hd:(if (k:Int)-(s.length:Int)<0 then(0:Int)else(k:Int)-(s.length:Int))=((k-s.length:Nat):Int):=by
  split<;>omega
 simp only[hw,hd,aX];rw[Zd (by rw[aH,aH,bc,bc,bc];omega),Zw];rw[Zso,CX (by rw[Zr];unfold ZR;rw[ph];omega),dE,cA (by rw[Zr];unfold ZR;rw[ph];omega),<-rX,z7];rw[Zd (gx (by unfold ZR;rw[ph];omega)),Ze];exact .mk ⟨_,rfl,ar.new _ _⟩
theorem yf {Bd:Za} (h:uy Bd) (n:Nat) (kind tag:Int) (body:List UInt8) (hb:body.length<100000) (st:St) (hn:body.length+200<=n):
  Ok (fun o=>∃s',o=(.val [.str (fu kind tag body)],s')/\ar st s') (run Bd n 214 [.int .i64 kind,.int .i64 tag,.str body] st):=by
 obtain⟨n,rfl⟩: ∃k,n=k+2:=⟨n-2,by omega⟩;rw[Zf,h.eq];unfold H3;simp only[bU,al,ae];have tA:([.int .u8 (IntKind.wrap .u8 kind),.int .u8 (IntKind.wrap .u8 tag),.int .u8 0,.int .u8 0]:List DV)=bj [nZ kind,nZ tag,0,0]:=by
  rw[Pn,Pn];rfl
 rw[tA,Zw,CX (by rw[Zr];show 0+4<=4;omega),dE,cA (by rw[Zr];show 4<=4;omega),<-rX,z7];refine Ok.dW (ZsX h.q97 n body 56 (by omega) (by omega) _) ?_;rintro _ ⟨s1,rfl,aI⟩;refine⟨_,s1,rfl,aI,?_⟩;simp only[bU,ae];have eC:(dK body 56).length<=100056:=by
  unfold dK ZR;rw[bg,ph];omega
 have hS:[nZ kind,nZ tag,0,0]++dK body 56=ko kind tag body:=rfl;have hSl:(ko kind tag body).length=4+(dK body 56).length:=by unfold ko;rw[bg];rfl
 have abd:(dK body 56).length<=body.length+56:=by
  unfold dK ZR;rw[bg,ph];omega
 rw[Zd (gx (by show 4+_<=_;omega)),hS,Zw];refine Ok.call (ZmT h.Tp (n+1) (some (s1.length,0)) (ko kind tag body) _ ⟨false,ZF (ko kind tag body),by simp,Nat.le_of_eq (by rw[dj,rX]),by rw[dE,rX,pj]⟩ (by omega) (by omega)) ?_;rintro _ rfl;refine⟨_,_,rfl,?_⟩;simp only[al,ae];have hc:=Jx (ko kind tag body);rw[uN (by omega)];refine Ok.call (ZO h.jV (n+1) _ 4 (by omega) _ (by omega) (by omega)) ?_;rintro _ ⟨s2,rfl,bd⟩;refine⟨_,_,rfl,?_⟩;simp only[bU,ae];rw[Zd (gx (by rw[Zq];omega)),Ze];exact .mk ⟨s2,rfl,(((ar.new _ _).trans aI).trans (ar.new _ _)).trans bd⟩
theorem Cs {Bd:Za} (h:Cq Bd) (n:Nat) (a:Int) (k:Nat) (hk:0<k) (gX:k<1000000000) (_ha: -9223372036854775808<=a/\a<=9223372036854775807) (st:St):run Bd (n+1) 179 [.int .i64 a,.int .i64 (k:Int)] st=some (.val [.int .i64 (a%(k:Int))],st):=by
 rw[Zf,h.eq];unfold Hv;simp only[al,ae];have h0:(!((k:Int)==0))=true:=by rw[hJ,cx];omega
 rw[Zd h0,Zd h0,Ze];have hb:=Int.tmod_lt_of_pos a (show(0:Int)<k by omega);have eQ: -(k:Int)<a.tmod k:=by
  have:=Int.neg_tmod a k;have h3:=Int.tmod_lt_of_pos (-a) (show(0:Int)<k by omega);omega
 have hw:af (a.tmod k+k)=a.tmod k+k:=Zb (by omega) (by omega);rw[hw];have he:(a.tmod k+k).tmod k=a%k:=by
  rw[Int.tmod_eq_emod_of_nonneg (by omega),Int.add_emod_right];have e:a.tmod k=a+k*(-(a.tdiv k)):=by
   have:=Int.mul_tdiv_add_tmod a k;rw[Int.mul_neg];omega
  rw[e,Int.add_mul_emod_self_left]
 rw[he]
end Go.Gv.F
namespace Go.Gv.F
open Go.Gv
variable {β:Type}
def c8 (l:List Int):List UInt8:=(l.map fun k=>bR (bS k) 2).flatten
theorem ZS (l:List Int):(c8 l).length=2*l.length:=by
 unfold c8;induction l with
 |nil=>rfl
 |cons k l ih=>rw[gM,mo,bg,Zq,ih,dF];omega
theorem CJ (l:List Int) {i:Nat} (h:i<l.length):c8 (l.take (i+1))=c8 (l.take i)++bR (bS l[i]) 2:=by
 unfold c8;rw[jG h,dL,vR];simp
def me (k:Int):Bool:=decide (k>=2)&&decide (k<=3071)
theorem MK {Bd:Za} (h:Cr Bd) (n:Nat) (k:Int) (st:St):run Bd (n+1) 251 [.int .i64 k] st=some (.val [.bool (me k)],st):=by
 rw[Zf,h.eq];unfold GG me;simp only[al,ae,Zc];cases decide (k>=2)<;>rfl
theorem ZJ {a b:Nat} (h:a<=b) (K:M β):M.ak (Nat.ble a b) K=K:=Zd (gx h) K
def rq (x:jL):List UInt8:=bR (bS x.bI.key) 8++bR (bS x.bI.value) 8++bR (bS x.bI.slot) 4++bR (bS x.bI.gen) 4++c8 x.kids
def nV (x:jL):List UInt8:=fu 1 x.kids.length (rq x)
theorem Zun {Bd:Za} (h:NH Bd) (n:Nat) (x:jL) (z:Nat) (p:Option (Nat×Nat)) (st:St) (hz:z=1\/p=none) (hs:Sl st p (ints x.kids)) (hl:x.kids.length<1000) (hn:2400<=n):
  Ok (fun o=>∃s',o=(.val [.str (nV x)],s')/\ar st s') (run Bd n 250 [.agg (vH x z p)] st):=by
 obtain⟨n,rfl⟩: ∃k,n=k+2:=⟨n-2,by omega⟩;rw[Zf,h.eq];unfold Iu vH fN;simp only[kz,fe];rw[bZ];simp only[al,Zm 1 z p _ hz,ae,Ax];refine Ok.dW (ZO h.jV (n+1) _ 8 (ow _) st (by omega) (by omega)) ?_;rintro _ ⟨s1,rfl,aI⟩;refine⟨_,s1,rfl,aI,?_⟩;simp only[bU,ae];refine Ok.dW (ZO h.jV (n+1) _ 8 (ow _) s1 (by omega) (by omega)) ?_;rintro _ ⟨s2,rfl,bd⟩;refine⟨_,s2,rfl,bd,?_⟩;simp only[bU,ae];rw[ZJ (by rw[Zq,Zq];omega)];refine Ok.dW (ZO h.jV (n+1) _ 4 (ow _) s2 (by omega) (by omega)) ?_;rintro _ ⟨s3,rfl,cn⟩;refine⟨_,s3,rfl,cn,?_⟩;simp only[bU,ae];rw[ZJ (by rw[bg,Zq,Zq,Zq];omega)];refine Ok.fW (ZO h.jV (n+1) _ 4 (ow _) s3 (by omega) (by omega)) ?_;rintro _ ⟨s4,rfl,gA⟩;refine⟨_,s4,rfl,?_⟩;simp only[bU,ae];rw[ZJ (by rw[bg,bg,Zq,Zq,Zq,Zq];omega),Zc];have hP:=((aI.trans bd).trans cn).trans gA;obtain⟨A,hA⟩: ∃A,bR (bS x.bI.key) 8++bR (bS x.bI.value) 8++bR (bS x.bI.slot) 4++bR (bS x.bI.gen) 4=A:=⟨_,rfl⟩;have fY:A.length=24:=by rw[<-hA];simp[Zq]
 rw[hA];refine Zl _ (fun q y s=>∃i:Nat,y=[.str (A++c8 (x.kids.take i)),.int .i64 (i:Int)]/\i<=x.kids.length/\x.kids.length-i<=q/\ar st s) ?_ x.kids.length (n+1) _ _ ⟨0,by rw[xV];show _=[DV.str (A++[]),_];rw[ez];rfl,bH _,by omega,hP⟩ (by omega);rintro q _ s ⟨i,rfl,hi,hq,fT⟩ rec aD;simp only[bU,al,ae];by_cases aj:i<x.kids.length
 ·have df:=hs.mono fT
  obtain⟨i1,o1,rfl⟩:=df.ck (by simp[ints];omega);rw[ah (show(i:Int)<(x.kids.length:Int) by omega),cond_true,aV,Zd (Zk aj),aX,df.cP (Zu aj)];simp only[aM];refine Ok.call (ZO h.jV (n+1) _ 2 (ow _) s (by omega) (by omega)) ?_;rintro _ ⟨s5,rfl,ik⟩;refine⟨_,s5,rfl,?_⟩;simp only[bU,ae];rw[ZJ (by rw[bg,ZS,Zq,bW,fY];omega),Zb (by omega) (by omega)];refine aD (x.kids.length-(i+1)) _ _ (by omega) ⟨i+1,by rw[CJ _ aj,dD];rfl,by omega,ay _,fT.trans ik⟩
 ·rw[ao (show ¬(i:Int)<(x.kids.length:Int) by omega),cond_false]
  rw[cA (by omega)];refine Ok.call (yf h.qf (n+1) 1 x.kids.length (A++c8 x.kids) (by rw[bg,ZS];omega) s (by rw[bg,ZS];omega)) ?_;rintro _ ⟨s5,rfl,ik⟩;refine⟨_,s5,rfl,?_⟩;simp only[bU,ae,Ze];refine .mk ⟨s5,?_,fT.trans ik⟩;unfold nV rq;rw[hA]
def nX (x:bL):Bool:= !(decide (x.gen<0)||decide (x.gen>4294967295))&&(bif x.live then decide (x.gen>0)&&me x.block else(decide (x.block>=0)&&decide (x.block<=1792))&&(!(x.gen==0)||x.block==0))
theorem Zs9 {Bd:Za} (h:NQ Bd) (n:Nat) (x:bL) (st:St):run Bd (n+2) 252 [.agg (gk x)] st=some (.val [.bool (nX x)],st):=by
 rw[Zf,h.eq];unfold Hn nX gk;rw[bZ];simp only[ai,al,ae,Zc];have e0:=MK h.EU n x.block st;cases decide (x.gen<0)with
 |true=>rfl
 |false=>
 cases decide (x.gen>4294967295)with
 |true=>rfl
 |false=>
 simp only[cond_false,Bool.or_self,bD,cI];cases x.live with
 |true=>
  simp only[cond_true];cases decide (x.gen>0)with
  |true=>
   simp only[cond_true];rw[Zi e0];simp only[ai,ae,Ze,cI]
  |false=>simp only[cond_false,Ze,eL]
 |false=>
  simp only[cond_false];cases decide (x.block>=0)with
  |false=>simp only[cond_false,Ze,eL]
  |true=>
   simp only[cond_true,cI];cases decide (x.block<=1792)with
   |false=>simp only[cond_false,Ze,eL]
   |true=>
    simp only[cond_true,cI];cases(x.gen==0)with
    |true=>simp only[bx,cond_false,Ze,ql]
    |false=>simp only[bD,cond_true,Ze,ui]
def ZW:List bL->List UInt8
 |[]=>[]
 |x::r=>bR (bS x.gen) 4++bR (bS x.block) 4++ZW r
def eZ:Nat->List bL->Nat
 |_,[]=>0
 |k,x::r=>(bif x.live then 2^k else 0)+eZ (k+1) r
theorem CL: ∀l:List bL,(ZW l).length=8*l.length
 |[]=>rfl
 |x::r=>by rw[ZW,bg,bg,Zq,Zq,CL r,dF];omega
theorem NX: ∀l m:List bL,ZW (l++m)=ZW l++ZW m
 |[],m=>rfl
 |x::r,m=>by rw[kz,ZW,ZW,NX r m,<-dD]
theorem Zr6: ∀(k:Nat) (l m:List bL),eZ k (l++m)=eZ k l+eZ (k+l.length) m
 |k,[],m=>by simp[eZ]
 |k,x::r,m=>by rw[kz,eZ,eZ,Zr6 (k+1) r m,dF,show k+1+r.length=k+(r.length+1) by omega,lU]
theorem Pv: ∀(k:Nat) (l:List bL),eZ k l+2^k<=2^(k+l.length)
 |k,[]=>by simp[eZ]
 |k,x::r=>by
  have:=Pv (k+1) r;rw[eZ,dF,show k+(r.length+1)=k+1+r.length by omega];have e:2^(k+1)=2*2^k:=by rw[nb];omega
  cases x.live with
  |true=>rw[cond_true];omega
  |false=>rw[cond_false];omega
def ot (l:List bL):Option (List UInt8):=bif l.all nX then some (fu 2 (eZ 0 l:Nat) (ZW l))else none
def ub:Option (List UInt8)->List DV
 |some s=>[.str s,.bool true]
 |none=>[.str [],.bool false]
theorem ZsS {Bd:Za} (h:NK Bd) (n:Nat) (l:List bL) (hl:l.length=7) (st:St) (hn:400<=n):
  Ok (fun o=>∃s',o=(.val (ub (ot l)),s')/\ar st s') (run Bd n 219 [.agg (bV l)] st):=by
 obtain⟨n,rfl⟩: ∃k,n=k+3:=⟨n-3,by omega⟩;obtain⟨R,hR⟩: ∃R,ot l=R:=⟨_,rfl⟩;rw[hR];unfold ot at hR;rw[Zf,h.eq];unfold Ht;have dq:(bV l).length=21:=by rw[ZT,hl]
 rw[bZ,bF dq];simp only[ae];rw[bF dq,Zc];refine Zl _ (fun q y s=>∃i:Nat,y=[.str (ZW (l.take i)),.int .i64 ((eZ 0 (l.take i):Nat):Int),.int .i64 (i:Int)]/\i<=7/\7-i<=q/\ar st s/\(l.take i).all nX=true) ?_ 7 (n+2) _ _ ⟨0,rfl,bH _,by omega,.refl st,rfl⟩ (by omega);rintro q _ s ⟨i,rfl,hi,hq,fT,ca⟩ rec aD;simp only[bU,al,ae];by_cases aj:i<7
 ·have oJ:i<l.length:=by omega
  have fj:l.take (i+1)=l.take i++[l[i]]:=jG oJ;have jm:l[i]? =some l[i]:=ba oJ;have tA:((bV l).drop (i*3)).take 3=gk l[i]:=Jd jm;rw[ah (show(i:Int)<7 by omega),cond_true,Zd (show av (i:Int) 7=true from Zk aj),aX,ZJ (by omega),tA];have dy:l[i]∈l:=fK oJ;generalize l[i]=x at fj dy;rw[bF (cs:=gk x) (n:=3) rfl,Zi (Zs9 h.Y3 n x s)];simp only[ai,ae];cases hx:nX x with
  |false=>
   rw[bD,cond_true,Ze];have bz:l.all nX=false:=by
    rw[zO];exact⟨x,dy,by rw[hx];decide⟩
   rw[bz,cond_false]at hR;rw[<-hR];exact .mk ⟨s,rfl,fT⟩
  |true=>
   rw[bx,cond_false];unfold gk;rw[kB (d:= .bool x.live) rfl];simp only[vW];have p8:=Pv 0 (l.take i);rw[bW,j1 (by omega),dj]at p8;have h7:2^i<=2^7:=oh (by decide) (by omega);have WV:2^7=128:=by decide
   have W9:(l.take (i+1)).all nX=true:=by rw[fj,rF,ca];simp[hx]
   refine Ok.join fun aC tI=>?_
   have hA:Ok (fun o=>∃s',o=(.val (ub R),s')/\ar st s') (aC [.int .i64 ((eZ 0 (l.take (i+1)):Nat):Int)] s):=by
    rw[tI];simp only[al,ae];rw[kB (d:= .int .i64 x.gen) rfl];simp only[aM,Ax];refine Ok.dW (ZO h.jV (n+2) _ 4 (ow _) s (by omega) (by omega)) ?_;rintro _ ⟨s1,rfl,aI⟩;refine⟨_,s1,rfl,aI,?_⟩;simp only[bU,ae];have df:=CL (l.take i);rw[bW]at df;rw[ZJ (by rw[df,Zq];omega),kB (d:= .int .i64 x.block) rfl];simp only[aM];refine Ok.fW (ZO h.jV (n+2) _ 4 (ow _) s1 (by omega) (by omega)) ?_;rintro _ ⟨s2,rfl,bd⟩;refine⟨_,s2,rfl,?_⟩;simp only[bU,ae];rw[ZJ (by rw[bg,df,Zq,Zq];omega),Zb (by omega) (by omega)];refine aD (7-(i+1)) _ _ (by omega) ⟨i+1,?_,by omega,ay _,(fT.trans aI).trans bd,W9⟩;rw[fj,NX];simp[ZW]
   have Li:eZ 0 (l.take (i+1))=eZ 0 (l.take i)+(bif x.live then 2^i else 0):=by
    rw[fj,Zr6,bW,j1 (by omega),dj];simp[eZ]
   cases gE:x.live with
   |false=>
    rw[gE,cond_false]at Li;have Yv:eZ 0 (l.take i)=eZ 0 (l.take (i+1)):=Li.symm;rw[cond_false,Yv];exact hA
   |true=>
    rw[gE,cond_true]at Li;rw[cond_true,Zd (ah (by omega)),j1 (by omega)];have e1:af (1*2^i)=((2^i:Nat):Int):=by
     rw[Int.one_mul,show((2:Int)^i)=((2^i:Nat):Int) by push_cast;rfl];exact Zb (by omega) (by omega)
    rw[e1,Zb (by omega) (by omega)];have e2:((eZ 0 (l.take i):Nat):Int)+((2^i:Nat):Int)=((eZ 0 (l.take (i+1)):Nat):Int):=by rw[Li];omega
    rw[e2];exact hA
 ·rw[ao (show ¬(i:Int)<7 by omega),cond_false]
  rw[cA (by omega)]at ca⊢;rw[ca,cond_true]at hR;have df:=CL l;refine Ok.call (yf h.qf (n+2) 2 (eZ 0 l:Nat) (ZW l) (by omega) s (by omega)) ?_;rintro _ ⟨s1,rfl,aI⟩;refine⟨_,s1,rfl,?_⟩;simp only[bU,ae,Ze];rw[<-hR];exact .mk ⟨s1,rfl,fT.trans aI⟩
end Go.Gv.F
namespace Go.Gv.F
open Go.Gv
variable {β:Type}
def kH (l:List Int):Option (List UInt8):=bif l.all fun k=>k==0||me k then some (fu 3 0 (c8 l))else none
theorem ZmD {Bd:Za} (h:Ob Bd) (n:Nat) (l:List Int) (hl:l.length=16) (st:St) (hn:400<=n):
  Ok (fun o=>∃s',o=(.val (ub (kH l)),s')/\ar st s') (run Bd n 218 [.agg (ints l)] st):=by
 obtain⟨n,rfl⟩: ∃k,n=k+3:=⟨n-3,by omega⟩;obtain⟨R,hR⟩: ∃R,kH l=R:=⟨_,rfl⟩;rw[hR];unfold kH at hR;rw[Zf,h.eq];unfold H8;have dq:(ints l).length=16:=by simp[ints,hl]
 rw[bZ,bF dq];simp only[ae];rw[bF dq,Zc];refine Zl _ (fun q y s=>∃i:Nat,y=[.str (c8 (l.take i)),.int .i64 (i:Int)]/\i<=16/\16-i<=q/\ar st s/\((l.take i).all fun k=>k==0||me k)=true) ?_ 16 (n+2) _ _ ⟨0,rfl,bH _,by omega,.refl st,rfl⟩ (by omega);rintro q _ s ⟨i,rfl,hi,hq,fT,ca⟩ rec aD;simp only[bU,al,ae];by_cases aj:i<16
 ·have oJ:i<l.length:=by omega
  have fj:l.take (i+1)=l.take i++[l[i]]:=jG oJ;have BF:(ints l)[i*1]? =some (.int .i64 l[i]):=by rw[di];exact Zu oJ
  have dy:l[i]∈l:=fK oJ;have DZ:=CJ l oJ;have KO:av (i:Int) 16=true:=Zk aj;rw[ah (show(i:Int)<16 by omega),cond_true];simp only[aX];rw[Zd KO,kB BF];simp only[aM];generalize l[i]=x at fj BF dy DZ;refine Ok.join fun aC tI=>?_
  have bz:(x==0||me x)=false->Ok (fun o=>∃s',o=(.val (ub R),s')/\ar st s') ((M.ret [.str (bs []),.bool false]:M (List DV)) s):=fun e=>by
   have bz:(l.all fun k=>k==0||me k)=false:=by
    rw[zO];exact⟨x,dy,by rw[e];decide⟩
   rw[bz,cond_false]at hR;rw[<-hR,Ze];exact .mk ⟨s,rfl,fT⟩
  have Ln:(x==0||me x)=true->Ok (fun o=>∃s',o=(.val (ub R),s')/\ar st s') (aC [.bool false] s):=fun e=>by
   rw[tI];simp only[ai,ae];rw[cond_false,Zd KO,kB BF];simp only[aM,Ax];refine Ok.call (ZO h.jV (n+2) _ 2 (ow _) s (by omega) (by omega)) ?_;rintro _ ⟨s1,rfl,aI⟩;refine⟨_,s1,rfl,?_⟩;simp only[bU,ae];rw[ZJ (by rw[ZS,Zq,bW];omega),Zb (by omega) (by omega)];refine aD (16-(i+1)) _ _ (by omega) ⟨i+1,by rw[DZ];rfl,by omega,ay _,fT.trans aI,?_⟩;rw[fj,rF,ca];simpa using e
  cases h0:(x==0)with
  |true=>
   rw[bx,cond_false];exact Ln (by rw[h0];rfl)
  |false=>
   rw[bD,cond_true,Zd KO,kB BF];simp only[aM];rw[Zi (MK h.EU (n+1) x s)];simp only[ai,ae];cases hb:me x with
   |true=>exact Ln (by rw[hb,Bool.or_true])
   |false=>
    rw[tI];simp only[ai,ae,bD,cond_true];exact bz (by rw[h0,hb];rfl)
 ·rw[ao (show ¬(i:Int)<16 by omega),cond_false]
  rw[cA (by omega)]at ca⊢;rw[ca,cond_true]at hR;have df:=ZS l;refine Ok.call (yf h.qf (n+2) 3 0 (c8 l) (by omega) s (by omega)) ?_;rintro _ ⟨s1,rfl,aI⟩;refine⟨_,s1,rfl,?_⟩;simp only[bU,ae,Ze];rw[<-hR];exact .mk ⟨s1,rfl,fT.trans aI⟩
def oQ (x:pH):List UInt8:=fu 5 x.name.length (bR (bS x.mask) 4++c8 x.cY++x.name)
theorem ZuZ {Bd:Za} (h:Oa Bd) (n:Nat) (x:pH) (hl:x.cY.length=12) (hm:x.name.length<60000) (st:St) (hn:x.name.length+500<=n):
  Ok (fun o=>∃s',o=(.val [.str (oQ x)],s')/\ar st s') (run Bd n 216 [.agg (rV x)] st):=by
 obtain⟨n,rfl⟩: ∃k,n=k+3:=⟨n-3,by omega⟩;rw[Zf,h.eq];unfold HS rV;have dq:(ints x.cY).length=12:=by simp[ints,hl]
 rw[bZ];simp only[bU,al];rw[bF dq];simp only[ae];rw[bF (n:=14) (by simp[dq])];simp only[Ax];refine Ok.call (ZO h.jV (n+2) _ 4 (ow _) st (by omega) (by omega)) ?_;rintro _ ⟨s0,rfl,vu⟩;refine⟨_,s0,rfl,?_⟩;simp only[bU,ae];rw[Zc];have hA:(bR (bS x.mask) 4).length=4:=Zq _ _;unfold oQ;generalize bR (bS x.mask) 4=A at hA;refine Zl _ (fun q y s=>∃i:Nat,y=[.str (A++c8 (x.cY.take i)),.int .i64 (i:Int)]/\i<=12/\12-i<=q/\ar st s) ?_ 12 (n+2) _ _ ⟨0,by rw[xV];show _=[DV.str (A++[]),_];rw[ez];rfl,bH _,by omega,vu⟩ (by omega);rintro q _ s ⟨i,rfl,hi,hq,fT⟩ rec aD;simp only[bU,al,ae];by_cases aj:i<12
 ·have oJ:i<x.cY.length:=by omega
  have BF:(ints x.cY)[i*1]? =some (.int .i64 x.cY[i]):=by rw[di];exact Zu oJ
  rw[ah (show(i:Int)<12 by omega),cond_true];simp only[aX];rw[Zd (show av (i:Int) 12=true from Zk aj),kB BF];simp only[aM];refine Ok.call (ZO h.jV (n+2) _ 2 (ow _) s (by omega) (by omega)) ?_;rintro _ ⟨s1,rfl,aI⟩;refine⟨_,s1,rfl,?_⟩;simp only[bU,ae];rw[ZJ (by rw[bg,hA,ZS,Zq,bW];omega),Zb (by omega) (by omega)];exact aD (12-(i+1)) _ _ (by omega) ⟨i+1,by rw[CJ _ oJ,dD];rfl,by omega,ay _,fT.trans aI⟩
 ·rw[ao (show ¬(i:Int)<12 by omega),cond_false]
  rw[cA (by omega)];have df:=ZS x.cY;rw[ZJ (by rw[bg];omega)];refine Ok.call (yf h.qf (n+2) 5 x.name.length (A++c8 x.cY++x.name) (by rw[bg,bg];omega) s (by rw[bg,bg];omega)) ?_;rintro _ ⟨s1,rfl,aI⟩;refine⟨_,s1,rfl,?_⟩;simp only[bU,ae,Ze];exact .mk ⟨s1,rfl,fT.trans aI⟩
def qM:List Int->Nat->Bool
 |_l,0=>true
 |l,i+1=>qM l i&&(me (l.getD i 0)&& !decide (l.getD i 0∈l.take i))
def qG (l:List Int):Option (List UInt8):=bif decide (1<=l.length)&&(decide (l.length<=16)&&qM l l.length)then some (fu 6 l.length (c8 l))else none
theorem ZtQ {l:List Int} : ∀ {i j:Nat},i<=j->qM l j=true->qM l i=true
 |i,0,h,e=>by
  have:i=0:=by omega
  subst this;rfl
 |i,j+1,h,e=>by
  by_cases nK:i=j+1
  ·subst nK;exact e
  ·unfold qM at e
   rw[aH]at e;exact ZtQ (by omega) e.1
theorem Zu4 {Bd:Za} (h:N1 Bd) (n:Nat) (l:List Int) (z:Nat) (p:Option (Nat×Nat)) (st:St) (hz:z=1\/p=none) (hs:Sl st p (ints l)) (hl:l.length<1000) (hn:2500<=n):
  Ok (fun o=>∃s',o=(.val (ub (qG l)),s')/\ar st s') (run Bd n 215 [.slice z p l.length] st):=by
 obtain⟨n,rfl⟩: ∃k,n=k+3:=⟨n-3,by omega⟩;obtain⟨R,hR⟩: ∃R,qG l=R:=⟨_,rfl⟩;rw[hR];unfold qG at hR;rw[Zf,h.eq];unfold Ib;simp only[Zm 1 z p _ hz,ae];rw[Zc];have jl: ∀s,ar st s->R=none->Ok (fun o=>∃s',o=(.val (ub R),s')/\ar st s') ((M.ret [.str (bs []),.bool false]:M (List DV)) s):=fun s fT e=>by
  rw[e,Ze];exact .mk ⟨s,rfl,fT⟩
 by_cases h1:1<=l.length;rotate_left
 ·rw[ah (show((l.length:Nat):Int)<1 by omega),cond_true]
  simp only[ai,ae,cond_true];refine jl st (.refl st) ?_;rw[ao h1,eL,cond_false]at hR;exact hR.symm
 by_cases nE:l.length<=16;rotate_left
 ·rw[ao (show ¬((l.length:Nat):Int)<1 by omega),cond_false,ah (show((l.length:Nat):Int)>16 by omega)]
  simp only[ai,ae,cond_true];refine jl st (.refl st) ?_;rw[ao nE,eL,rE,cond_false]at hR;exact hR.symm
 rw[ah h1,ah nE,cI,cI]at hR;rw[ao (show ¬((l.length:Nat):Int)<1 by omega),cond_false,ao (show ¬((l.length:Nat):Int)>16 by omega)];simp only[ai,ae];rw[cond_false,Zc];have Vd: ∀i,i<=l.length->qM l i=false->R=none:=fun i hi e=>by
  cases hf:qM l l.length with
  |true=>rw[ZtQ hi hf]at e;cases e
  |false=>rw[hf,cond_false]at hR;exact hR.symm
 refine Zl _ (fun q y s=>∃i:Nat,y=[.str (c8 (l.take i)),.int .i64 (i:Int)]/\i<=l.length/\l.length-i<=q/\ar st s/\qM l i=true) ?_ l.length (n+2) _ _ ⟨0,rfl,bH _,by omega,.refl st,rfl⟩ (by omega);rintro q _ s ⟨i,rfl,hi,hq,fT,ca⟩ rec aD;simp only[bU,al,ae];by_cases aj:i<l.length
 ·have df:=hs.mono fT
  obtain⟨i1,o1,rfl⟩:=df.ck (by simp[ints];omega);have rh:l.getD i 0=l[i]:=by rw[bJ,ba aj];rfl
  have DZ:=CJ l aj;have dQ:qM l (i+1)=(me l[i]&& !decide (l[i]∈l.take i)):=by
   show(qM l i&&_)=_;rw[ca,cI,rh]
  have cJ:(ints l)[i]? =some (.int .i64 l[i]):=Zu aj;rw[ah (show(i:Int)<(l.length:Int) by omega),cond_true,Zc,aV,Zd (Zk aj)];simp only[aX];rw[df.cP cJ];simp only[aM];obtain⟨x,hx⟩: ∃x,l[i]=x:=⟨_,rfl⟩;rw[hx]at cJ DZ dQ⊢;rw[Zi (MK h.EU (n+1) x s)];simp only[ai,ae];cases hb:me x with
  |false=>
   rw[bD,cond_true];exact jl s fT (Vd (i+1) (by omega) (by rw[dQ,hb];rfl))
  |true=>
   rw[bx,cond_false,Zc];refine Zl _ (fun q y t=>∃k:Nat,y=[.int .i64 (k:Int)]/\k<=i/\i-k<=q/\t=s/\x∉l.take k) ?_ i (n+2) _ _ ⟨0,rfl,bH _,by omega,rfl,by simp⟩ (by omega);rintro q2 _ t ⟨k,rfl,hk,tQ,rfl,w9⟩ dO nO;simp only[al,ae];by_cases hlk:k<i
   ·have gX:k<l.length:=by omega
    have Bz:(ints l)[k]? =some (.int .i64 l[k]):=Zu gX;rw[ah (show(k:Int)<(i:Int) by omega),cond_true,aV,Zd (Zk gX)];simp only[aX];rw[df.cP Bz];simp only[aM];rw[aV,Zd (Zk aj)];rw[df.cP cJ];simp only[aM];by_cases he:l[k]=x
    ·rw[show(l[k]==x)=true by rw[he];exact gN _,cond_true]
     refine jl t fT (Vd (i+1) (by omega) ?_);have:x∈l.take i:=by
      rw[<-he];exact List.mem_take_iff_getElem.2 ⟨k,by omega,rfl⟩
     rw[dQ,ah this,bx,rE]
    ·rw[show(l[k]==x)=false from cx.2 he,cond_false,Zb (by omega) (by omega)]
     refine nO (i-(k+1)) _ _ (by omega) ⟨k+1,rfl,by omega,ay _,rfl,?_⟩;rw[jG gX];intro hm;rcases cW.1 hm with hm|hm
     ·exact w9 hm
     ·exact he (bK.1 hm).symm
   ·rw[ao (show ¬(k:Int)<(i:Int) by omega),cond_false]
    have:k=i:=by omega
    subst this;rw[aV,Zd (Zk aj),df.cP cJ];simp only[aM,Ax];refine Ok.call (ZO h.jV (n+2) _ 2 (ow _) t (by omega) (by omega)) ?_;rintro _ ⟨s1,rfl,aI⟩;refine⟨_,s1,rfl,?_⟩;simp only[bU,ae];rw[ZJ (by rw[ZS,Zq,bW];omega),Zb (by omega) (by omega)];exact aD (l.length-(k+1)) _ _ (by omega) ⟨k+1,by rw[DZ];rfl,by omega,ay _,fT.trans aI,by rw[dQ,hb,ao w9];rfl⟩
 ·rw[ao (show ¬(i:Int)<(l.length:Int) by omega),cond_false]
  have:i=l.length:=by omega
  subst this;rw[pj];rw[ca,cond_true]at hR;have df:=ZS l;refine Ok.call (yf h.qf (n+2) 6 l.length (c8 l) (by omega) s (by omega)) ?_;rintro _ ⟨s1,rfl,aI⟩;refine⟨_,s1,rfl,?_⟩;simp only[bU,ae,Ze];rw[<-hR];exact .mk ⟨s1,rfl,fT.trans aI⟩
end Go.Gv.F
namespace Go.Gv.F
open Go.Gv
variable {β:Type}
theorem Zss {Bd:Za} (h:NR Bd) (n a e:Nat) (ha:a<100000) (he:0<e) (wU:e<1000) (st:St) (hn:a+10<=n):
  Ok (fun o=>o=(.val [.int .i64 (((a+e-1)/e:Nat):Int)],st)) (run Bd n 220 [.int .i64 (a:Int),.int .i64 (e:Int)] st):=by
 obtain⟨n,rfl⟩: ∃k,n=k+2:=⟨n-2,by omega⟩;rw[Zf,h.eq];unfold Hw;simp only[al,ae,Zc];have hm:(a+e-1)/e<=a:=by
  rcases vU a with h0|h0
  ·subst h0
   rw[dj,Nat.div_eq_of_lt (by omega)];exact ay _
  ·refine Nat.div_le_of_le_mul ?_
   have:1*(e-1)<=a*(e-1):=uq _ h0;have h2:e*a=a+a*(e-1):=by
    obtain⟨f,rfl⟩: ∃f,e=f+1:=⟨e-1,by omega⟩;rw[Nat.add_sub_cancel,qu,Nat.one_mul,pq f];omega
   omega
 have DT: ∀k,k*e<a↔k<(a+e-1)/e:=fun k=>by
  rw[Nat.lt_iff_add_one_le,Nat.lt_iff_add_one_le,Nat.le_div_iff_mul_le he,qu,Nat.one_mul];omega
 generalize (a+e-1)/e=m at hm DT;refine Zl _ (fun q y s=>∃k:Nat,y=[.int .i64 (k:Int)]/\k<=m/\m-k<=q/\s=st) ?_ m (n+1) _ _ ⟨0,rfl,bH _,by omega,rfl⟩ (by omega);rintro q _ s ⟨k,rfl,hk,hq,rfl⟩ rec aD;simp only[al,ae];have hke:k*e<=100000*1000:=Nat.mul_le_mul (by omega) (by omega);have hw:af ((k:Int)*(e:Int))=((k*e:Nat):Int):=by
  rw[show((k:Int)*(e:Int))=((k*e:Nat):Int) by push_cast;rfl];exact Zb (by omega) (by omega)
 rw[hw];have:=DT k;by_cases aj:k*e<a
 ·rw[ah (show((k*e:Nat):Int)<(a:Int) by omega),cond_true,Zb (by omega) (by omega)]
  exact aD (m-(k+1)) _ _ (by have:=this.1 aj;omega) ⟨k+1,rfl,this.1 aj,ay _,rfl⟩
 ·rw[ao (show ¬((k*e:Nat):Int)<(a:Int) by omega),cond_false]
  have gX:k=m:=by
   have: ¬k<m:=fun h=>aj (this.2 h)
   omega
  rw[gX];simp only[Ze];exact .mk rfl
theorem ZjJ {Bd:Za} (h:Ha Bd) (n a:Nat) (s g:Int) (ha:a<100000) (st:St) (hn:a+20<=n):
  Ok (fun o=>o=(.val [.int .i64 (((a+383)/384:Nat):Int)],st)) (run Bd n 196 [.agg [.int .i64 (a:Int),.int .i64 s,.int .i64 g]] st):=by
 obtain⟨n,rfl⟩: ∃k,n=k+2:=⟨n-2,by omega⟩;rw[Zf,h.eq];unfold GQ;rw[bZ];simp only[al,ae];refine Ok.call (Zss h.Y4 (n+1) a 384 ha (by decide) (by decide) st (by omega)) ?_;rintro _ rfl;refine⟨_,st,rfl,?_⟩;simp only[al,ae,Ze];exact .mk rfl
theorem or8 {x y:Nat} (hx:x<256) (hy:y<256):bits .or .u8 (x:Int) (y:Int)=((x|||y:Nat):Int):=by
 show IntKind.wrap .u8 ((BitVec.ofInt 8 (x:Int)|||BitVec.ofInt 8 (y:Int)).toNat:Int)=_;have e: ∀z:Nat,z<256->(BitVec.ofInt 8 (z:Int)).toNat=z:=fun z hz=>by
  rw[Fs];omega
 rw[BitVec.toNat_or,e x hx,e y hy];have h:x|||y<256:=FB (n:=8) hx hy;show((x|||y:Nat):Int)%256=_;omega
def ta (b:List UInt8) (k:Nat):List UInt8:=b.set (k/8) (UInt8.ofNat ((b.getD (k/8) 0).toNat|||2^(k%8)))
theorem Ix (b:List UInt8) (k:Nat):(ta b k).length=b.length:=by unfold ta;rw[hU]
def uG (p:Nat) (x:Int):Bool:=decide (x>=((384*p:Nat):Int))&&decide (x<((384*p+384:Nat):Int))
def nr (p:Nat):List UInt8->List Int->List UInt8
 |b,[]=>b
 |b,x::r=>nr p (bif uG p x then ta b (x-((384*p:Nat):Int)).toNat else b) r
def dX (p:Nat) (l:List Int):ZA:=⟨p,nr p (List.replicate 48 0) l⟩
theorem yh (p:Nat): ∀(l:List Int) (b:List UInt8),(nr p b l).length=b.length
 |[],_=>rfl
 |x::r,b=>by
  unfold nr;rw[yh p r];cases uG p x with
  |true=>exact Ix b _
  |false=>rfl
theorem ZzN (b:List UInt8) (k:Nat) (c:UInt8):bj (b.set k c)=(bj b).set k (.int .u8 c.toNat):=by
 unfold bj;rw[zT]
theorem ZlF {Bd:Za} (h:H5 Bd) (n p:Nat) (l:List Int) (a:Option (Nat×Nat)) (z:Nat) (st:St) (hz:z=1\/a=none) (hs:Sl st a (ints l)) (hp:p<1000) (hl:l.length<100000) (hx: ∀x∈l,0<=x/\x<1000000) (hn:l.length+10<=n):
  Ok (fun o=>o=(.val [.agg (Zz (dX p l))],st)) (run Bd n 192 [.int .i64 (p:Int),.slice z a l.length] st):=by
 obtain⟨n,rfl⟩: ∃k,n=k+2:=⟨n-2,by omega⟩;rw[Zf,h.eq];unfold Ho;simp only[al,Zm 1 z a _ hz,ae];rw[Zc];have cj:af (384*(p:Int))=((384*p:Nat):Int):=by
  rw[show(384*(p:Int))=((384*p:Nat):Int) by omega];exact Zb (by omega) (by omega)
 have fU:af (((384*p:Nat):Int)+384)=((384*p+384:Nat):Int):=by
  rw[Zb (by omega) (by omega)];omega
 simp only[cj,fU];obtain⟨G,hG⟩: ∃G,nr p (List.replicate 48 0) l=G:=⟨_,rfl⟩;have hR:dX p l=⟨p,G⟩:=by unfold dX;rw[hG]
 rw[hR];refine Zl _ (fun q y s=>∃(i:Nat) (b:List UInt8),y=[.agg (.int .i64 (p:Int)::bj b),.int .i64 (i:Int)]/\i<=l.length/\l.length-i<=q/\s=st/\b.length=48/\nr p b (l.drop i)=G) ?_ l.length (n+1) _ _ ⟨0,List.replicate 48 0,rfl,bH _,by omega,rfl,ph,hG⟩ (by omega);rintro q _ s ⟨i,b,rfl,hi,hq,rfl,hb,aA⟩ rec aD;have gQ:(bj b).length=48:=by rw[Zr,hb]
 rw[bZ];simp only[al,ae];rw[bF gQ];by_cases aj:i<l.length
 ·obtain⟨i1,o1,rfl⟩:=hs.ck (by simp[ints];omega)
  have cJ:(ints l)[i]? =some (.int .i64 l[i]):=Zu aj;have jy:l.drop i=l[i]::l.drop (i+1):=gT aj;have dy:l[i]∈l:=fK aj;rw[jy]at aA;obtain⟨x,Lm⟩: ∃x,l[i]=x:=⟨_,rfl⟩;rw[Lm]at cJ aA dy;obtain⟨vA,mQ⟩:=hx x dy;unfold nr at aA;rw[ah (show(i:Int)<(l.length:Int) by omega),cond_true,aV,Zd (Zk aj)];simp only[aX];rw[hs.cP cJ];simp only[aM];have nR:af ((i:Int)+1)=((i+1:Nat):Int):=Zb (by omega) (by omega);rw[nR];refine Ok.join fun aC tI=>?_
  have hA: ∀c,uG p x=c->Ok (fun o=>o=(.val [.agg (Zz ⟨p,G⟩)],s)) (aC [.bool c] s):=by
   intro c hc;rw[tI];simp only[ai,ae];rw[hc]at aA;rw[Zc];cases c with
   |false=>
    rw[cond_false]at aA;rw[cond_false];show Ok _ (J.a [.agg (.int .i64 (p:Int)::bj b)] _ s);rw[bZ];simp only[al];rw[bF gQ];simp only[ae];exact aD (l.length-(i+1)) _ _ (by omega) ⟨i+1,b,rfl,by omega,ay _,rfl,hb,aA⟩
   |true=>
    rw[cond_true]at aA;unfold uG at hc;rw[aH,bc,bc]at hc;obtain⟨k,hk⟩: ∃k:Nat,x-((384*p:Nat):Int)=(k:Int):=⟨(x-((384*p:Nat):Int)).toNat,by omega⟩;rw[hk,aX]at aA;have gX:k<384:=by omega
    have SN:af (x-((384*p:Nat):Int))=(k:Int):=by rw[hk];exact Zb (by omega) (by omega)
    have hdv:af ((k:Int).tdiv 8)=((k/8:Nat):Int):=by
     rw[show(k:Int).tdiv 8=((k/8:Nat):Int)from rfl];exact Zb (by omega) (by omega)
    have jh:(k:Int).tmod 8=((k%8:Nat):Int):=rfl;rw[cond_true,aV,Zd (Zk aj),hs.cP cJ];simp only[aM,SN,hdv,jh,aX];have hk8:k/8<48:=by omega
    have tz:b[k/8]? =some (b.getD (k/8) 0):=by
     rw[bJ,ba (by omega)];rfl
    have KE:=(b.getD (k/8) 0).toNat_lt;rw[Zd (show av ((k/8:Nat):Int) 48=true from Zk hk8),kB (i:=k/8*1) (by rw[di];exact PC tz)];simp only[aM];rw[Zd (ah (by omega)),Zd (show av ((k/8:Nat):Int) 48=true from Zk hk8),ZJ (by omega)];have h28:2^(k%8)<=2^7:=oh (by decide) (by omega);have WV:2^7=128:=by decide
    have El:IntKind.wrap .u8 (1*2^(min (k%8) 8))=((2^(k%8):Nat):Int):=by
     rw[j1 (by omega),Int.one_mul,show((2:Int)^(k%8))=((2^(k%8):Nat):Int) by push_cast;rfl];generalize 2^(k%8)=w at h28;show((w:Nat):Int)%256=_;omega
    rw[El,or8 KE (by omega)];have hor:(b.getD (k/8) 0).toNat|||2^(k%8)<256:=FB (n:=8) KE (by omega);have cg:bC (bj b) (k/8*1) [.int .u8 (((b.getD (k/8) 0).toNat|||2^(k%8):Nat):Int)]=bj (ta b k):=by
     rw[di,yl _ _ _ (by omega)];unfold ta;rw[ZzN];congr 2;show _=(((((b.getD (k/8) 0).toNat|||2^(k%8))%256:Nat)):Int);omega
    rw[cg];show Ok _ (J.a [.agg (.int .i64 (p:Int)::bj (ta b k))] _ s);rw[bZ];simp only[al];have Sn:(bj (ta b k)).length=48:=by rw[Zr,Ix,hb]
    rw[bF Sn];simp only[ae];exact aD (l.length-(i+1)) _ _ (by omega) ⟨i+1,ta b k,rfl,by omega,ay _,rfl,by rw[Ix,hb],aA⟩
  cases tE:decide (x>=((384*p:Nat):Int))with
  |false=>
   rw[cond_false];exact hA false (by unfold uG;rw[tE,eL])
  |true=>
   rw[cond_true,aV,Zd (Zk aj),hs.cP cJ];simp only[aM];exact hA _ (by unfold uG;rw[tE,cI])
 ·rw[ao (show ¬(i:Int)<(l.length:Int) by omega),cond_false]
  rw[mZ (by omega)]at aA;rw[bZ];simp only[al];rw[bF gQ];simp only[ae];rw[bF (by simp[gQ]),Ze];refine .mk ?_;rw[<-aA];rfl
def mD (x:ZA):List UInt8:=fu 4 x.no x.bT
theorem ZmJ {Bd:Za} (h:HM Bd) (n:Nat) (x:ZA) (hl:x.bT.length=48) (st:St) (hn:400<=n):
  Ok (fun o=>∃s',o=(.val [.str (mD x)],s')/\ar st s') (run Bd n 193 [.agg (Zz x)] st):=by
 obtain⟨n,rfl⟩: ∃k,n=k+2:=⟨n-2,by omega⟩;rw[Zf,h.eq];unfold Is Zz;have gQ:(bj x.bT).length=48:=by rw[Zr,hl]
 rw[bZ];simp only[al];rw[bF gQ];simp only[ae];rw[bF (n:=49) (by simp[gQ]),Zw];rw[Zn (i:=st.length) (f:=false) (all:= .int .i64 x.no::bj x.bT) (d:= .int .i64 x.no) (by simp) rfl];simp only[aM];have ca:(DV.int .i64 x.no::bj x.bT).length=49:=by simp[gQ]
 rw[CX (by rw[ca];omega),CX (by rw[ca];omega)];have wT:(List.drop 1 (DV.int .i64 x.no::bj x.bT)).take 48=ZF x.bT:=by
  rw[List.drop_succ_cons,dE,cA (by omega),rX]
 rw[wT,z7];refine Ok.call (yf h.qf (n+1) 4 x.no x.bT (by omega) _ (by omega)) ?_;rintro _ ⟨s1,rfl,aI⟩;refine⟨_,s1,rfl,?_⟩;simp only[bU,ae,Ze];exact .mk ⟨s1,rfl,(ar.new _ _).trans aI⟩
end Go.Gv.F
namespace Go.Gv.F
open Go.Gv
variable {β:Type}
structure uw (x:eU):Prop where
 s0:1<=x.seq
 s1:x.seq<=4611686018427387904
 g:mj x.blocks x.cu x.g=true
 u0:0<=x.used
 u1:x.used<=x.cu
 f0:0<=x.free
 f1:x.free<=x.used
 t0:x.used=0->x.cE=0
 t1:0<x.used->kS x x.cE=true
 d:x.dir≠0->kS x x.dir=true
 len:((x.az.length:Nat):Int)=uC x.blocks x.cu x.g
 ch: ∀i,i<x.az.length->kS x (x.az.getD i 0)=true/\x.az.getD i 0∉x.az.take i
theorem ZtD (x:eU):nj x=true↔ ∀i,i<x.az.length->kS x (x.az.getD i 0)=true/\x.az.getD i 0∉x.az.take i:=by
 unfold nj;rw[gv];constructor
 ·intro h i hi
  have:=h i (jE.2 hi);rw[aH,hJ,j3]at this;exact this
 ·intro h i hi
  rw[aH,hJ,j3];exact h i (jE.1 hi)
theorem Cy (x:eU):jM x=true↔uw x:=by
 unfold jM;rw[aH,aH,ZtD,hJ,hJ];simp only[kZ,j3,Bool.not_eq_false'];constructor
 ·rintro⟨⟨a1,a2,a3,a4,a5,a6,a7⟩,⟨b1,b2,b3,b4⟩,c⟩
  refine⟨by omega,by omega,a3,by omega,by omega,by omega,by omega,fun h=>?_,fun h=>?_,fun h=>?_,?_,c⟩
  ·rw[h]at b1
   simpa using b1
  ·rw[ah h,cond_true]at b2
   simpa using b2
  ·rw[show(x.dir==0)=false from cx.2 h,bD,cond_true]at b3
   simpa using b3
  ·simpa using b4
 ·intro h
  refine⟨⟨by have:=h.s0;omega,by have:=h.s1;omega,h.g,by have:=h.u0;omega,by have:=h.u1;omega,by have:=h.f0;omega,by have:=h.f1;omega⟩,⟨?_,?_,?_,?_⟩,h.ch⟩
  ·by_cases hu:x.used=0
   ·rw[h.t0 hu];cases(x.used==0)<;>rfl
   ·rw[show(x.used==0)=false from cx.2 hu];rfl
  ·by_cases hu:0<x.used
   ·rw[h.t1 hu];cases decide (x.used>0)<;>rfl
   ·rw[ao hu];rfl
  ·by_cases hu:x.dir=0
   ·rw[hu];rfl
   ·rw[h.d hu];cases(!(x.dir==0))<;>rfl
  ·rw[h.len];exact gN _
theorem Pp (x:eU) (k:Int):kS x k=true↔2<=k/\k<x.blocks:=by
 unfold kS;by_cases h:k>=2
 ·rw[ah h,cond_true,bc];omega
 ·rw[ao h,cond_false];simp;omega
theorem ZpL {b s g:Int} (h:mj b s g=true):uC b s g=(((b.toNat+383)/384:Nat):Int):=by
 obtain⟨g1,g2,_⟩:=rM h;unfold uC lN;rw[h,cond_true];obtain⟨m,rfl⟩: ∃m:Nat,b=m:=⟨b.toNat,by omega⟩;rw[aX,Zb (x:=(m:Int)+384) (by omega) (by omega),Zb (x:=(m:Int)+384-1) (by omega) (by omega),show((m:Int)+384-1)=((m+383:Nat):Int) by omega,show(((m+383:Nat):Int).tdiv 384)=(((m+383)/384:Nat):Int)from rfl];exact Zb (by omega) (by omega)
theorem ZzE {Q:Out (List DV)×St->Prop} {Kn:List DV->M (List DV)} (n:Nat) (b:Int) (l:List Int) (p:Option (Nat×Nat)) (s:St) (hs:Sl s p (ints l)) (hl:l.length<5000) (hn:l.length<n)
  (bz: ∀k∈l,¬(2<=k/\k<b)->Ok Q ((M.ret [.bool false]:M (List DV)) s)) (Ln:(∀k∈l,2<=k/\k<b)->Ok Q (Kn [] s)):
  Ok Q (M.loop (fun aK st=>
       J.i .i64 st fun i st=>
      D.nil st<|
      bif decide (i<(l.length:Int))then
       M.nn p fun i1 o=>
      M.ak (av i l.length)<|
      M.au i1 (i.toNat*1+o) fun d=>
      D.int .i64 d fun x=>
      M.join (fun st=>J.b st fun b7 st=>D.nil st<|
       bif b7 then
       M.ret [.bool false]
      else
       aK [.int .i64 (af (i+1))]) fun jS=>
      bif decide (x<2)then
       jS [.bool true]
      else
       M.nn p fun i2 o1=>
      M.ak (av i l.length)<|
      M.au i2 (i.toNat*1+o1) fun d1=>
      D.int .i64 d1 fun x1=>
      jS [.bool (decide (x1>=b))]
      else
       Kn []) n [.int .i64 0] s):=by
 refine Zl _ (fun q y t=>∃i:Nat,y=[.int .i64 (i:Int)]/\i<=l.length/\l.length-i<=q/\t=s/\∀k∈l.take i,2<=k/\k<b) ?_ l.length n _ _ ⟨0,rfl,bH _,by omega,rfl,fun k hk=>by cases hk⟩ hn;rintro q _ t ⟨i,rfl,hi,hq,rfl,ca⟩ rec aD;simp only[al,ae];by_cases aj:i<l.length
 ·obtain⟨i1,o1,rfl⟩:=hs.ck (by simp[ints];omega)
  have cJ:(ints l)[i]? =some (.int .i64 l[i]):=Zu aj;have fj:l.take (i+1)=l.take i++[l[i]]:=jG aj;have dy:l[i]∈l:=fK aj;rw[ah (show(i:Int)<(l.length:Int) by omega),cond_true,aV,Zd (Zk aj)];simp only[aX];rw[hs.cP cJ];simp only[aM];generalize l[i]=x at cJ fj dy;rw[Zc];by_cases h2:x<2
  ·rw[ah h2,cond_true]
   simp only[ai,ae,cond_true];exact bz x dy (by omega)
  ·rw[ao h2,cond_false,aV,Zd (Zk aj),hs.cP cJ]
   simp only[aM,ai,ae];by_cases h3:x>=b
   ·rw[ah h3,cond_true]
    exact bz x dy (by omega)
   ·rw[ao h3,cond_false,Zb (by omega) (by omega)]
    refine aD (l.length-(i+1)) _ _ (by omega) ⟨i+1,rfl,by omega,ay _,rfl,fun k hk=>?_⟩;rw[fj]at hk;rcases cW.1 hk with hk|hk
    ·exact ca k hk
    ·rw[bK.1 hk];omega
 ·rw[ao (show ¬(i:Int)<(l.length:Int) by omega),cond_false]
  rw[cA (by omega)]at ca;exact Ln ca
theorem ZqD {Bd:Za} (h:MY Bd) (n:Nat) (x:eU) (p:Option (Nat×Nat)) (st:St) (hs:Sl st p (ints x.az)) (hl:x.az.length<1000) (hn:5000<=n):
  Ok (fun o=>∃s',o=(.val [.bool (jM x)],s')/\ar st s') (run Bd n 195 [.agg (dI x p)] st):=by
 obtain⟨n,rfl⟩: ∃k,n=k+2:=⟨n-2,by omega⟩;rw[Zf,h.eq];unfold HB dI;rw[bZ];simp only[al,bh,ae];have hF: ∀s,ar st s->¬uw x->Ok (fun o=>∃s',o=(.val [.bool (jM x)],s')/\ar st s') ((M.ret [.bool false]:M (List DV)) s):=fun s hp e=>by
  have:jM x=false:=by
   cases hs:jM x with
   |false=>rfl
   |true=>exact absurd ((Cy x).1 hs) e
  rw[this,Ze];exact .mk ⟨s,rfl,hp⟩
 rw[Zc];by_cases h1:x.seq<1
 ·rw[ah h1,cond_true]
  simp only[ai,ae];rw[Zc,cond_true];simp only[ai,ae];rw[cond_true];exact hF st (.refl st) fun k=>by have:=k.s0;omega
 rw[ao h1,cond_false];simp only[ai,ae];rw[Zc];by_cases h2:x.seq>4611686018427387904
 ·rw[ah h2,cond_true]
  simp only[ai,ae];rw[cond_true];exact hF st (.refl st) fun k=>by have:=k.s1;omega
 rw[ao h2,cond_false,Zi (ZkK h.TD n x.blocks x.cu x.g st)];simp only[ai,ae];cases hg:mj x.blocks x.cu x.g with
 |false=>
  rw[bD,cond_true];exact hF st (.refl st) fun k=>by have:=k.g;rw[hg]at this;cases this
 |true=>
 obtain⟨g1,g2,g3,g4,g5,g6⟩:=rM hg;rw[bx,cond_false,Zc];by_cases h3:x.used<0
 ·rw[ah h3,cond_true]
  simp only[ai,ae];rw[Zc,cond_true];simp only[ai,ae];rw[Zc,cond_true];simp only[ai,ae];rw[Zc,cond_true];simp only[ai,ae];rw[cond_true];exact hF st (.refl st) fun k=>by have:=k.u0;omega
 rw[ao h3,cond_false];by_cases h4:x.used>x.cu
 ·rw[ah h4]
  simp only[ai,ae];rw[Zc,cond_true];simp only[ai,ae];rw[Zc,cond_true];simp only[ai,ae];rw[Zc,cond_true];simp only[ai,ae];rw[cond_true];exact hF st (.refl st) fun k=>by have:=k.u1;omega
 rw[ao h4];simp only[ai,ae];rw[Zc,cond_false];by_cases h5:x.free<0
 ·rw[ah h5]
  simp only[ai,ae];rw[Zc,cond_true];simp only[ai,ae];rw[Zc,cond_true];simp only[ai,ae];rw[cond_true];exact hF st (.refl st) fun k=>by have:=k.f0;omega
 rw[ao h5];simp only[ai,ae];rw[Zc,cond_false];by_cases h6:x.free>x.used
 ·rw[ah h6]
  simp only[ai,ae];rw[Zc,cond_true];simp only[ai,ae];rw[cond_true];exact hF st (.refl st) fun k=>by have:=k.f1;omega
 rw[ao h6];simp only[ai,ae];rw[Zc,cond_false];obtain⟨m,hm⟩: ∃m:Nat,x.blocks=m:=⟨x.blocks.toNat,by omega⟩;have qV:=ZpL hg;rw[hm,aX]at qV;rw[hm];refine Ok.fW (ZjJ h.TB (n+1) m x.cu x.g (by omega) st (by omega)) ?_;rintro _ rfl;refine⟨_,st,rfl,?_⟩;simp only[al,ai,ae];by_cases h7:((x.az.length:Nat):Int)=(((m+383)/384:Nat):Int);rotate_left
 ·rw[show(((x.az.length:Nat):Int)==(((m+383)/384:Nat):Int))=false from cx.2 h7,bD,cond_true]
  exact hF st (.refl st) fun k=>by have:=k.len;rw[hm,qV]at this;exact h7 this
 rw[show(((x.az.length:Nat):Int)==(((m+383)/384:Nat):Int))=true by rw[h7];exact gN _,bx,cond_false];have dQ: ∀k,kS x k=true↔2<=k/\k<(m:Int):=fun k=>by rw[Pp,hm]
 refine Ok.join fun iU RV=>?_
 have A7: ∀(q:Option (Nat×Nat)) (z:Nat) (l:List Int) (s:St),aY st s q (ints l)->(z=1\/q=none)->l.length<=1->(x.used=0->x.cE=0)->(l=if x.used=0 then[]else[x.cE])->Ok (fun o=>∃s',o=(.val [.bool (jM x)],s')/\ar st s') (iU [.slice z q l.length] s):=by
  intro q z l s ho hz oI SI hle;rw[RV];simp only[Zm 1 z q _ hz,ae];refine Ok.join fun iG RW=>?_
  have A8: ∀(q:Option (Nat×Nat)) (l:List Int) (s:St),aY st s q (ints l)->l.length<=2->(l=(if x.used=0 then[]else[x.cE])++(if x.dir=0 then[]else[x.dir]))->Ok (fun o=>∃s',o=(.val [.bool (jM x)],s')/\ar st s') (iG [.slice 1 q l.length] s):=by
   intro q l s ho kh hle;rw[RW];simp only[bh,ae];refine Ok.join fun iV KQ=>?_
   have Xq: ∀i k,i<x.az.length->k<i->x.az[k]? =x.az[i]? ->¬uw x:=fun i k hi hk e hS=>by
    have:=(hS.ch i hi).2;rw[bJ,ba hi]at this;refine this (List.mem_take_iff_getElem.2 ⟨k,by omega,?_⟩);rw[ba (by omega),ba hi]at e;exact sP e
   refine Zl _ (fun r y t=>∃(i z:Nat) (q:Option (Nat×Nat)),y=[.slice z q (l++x.az.take i).length,.int .i64 (i:Int)]/\(z=1\/q=none)/\i<=x.az.length/\x.az.length-i<=r/\aY st t q (ints (l++x.az.take i))/\∀j,j<i->x.az.getD j 0∉x.az.take j) ?_ x.az.length (n+1) _ _ ⟨0,1,q,by simp,.inl rfl,bH _,by omega,by simpa using ho,fun j hj=>absurd hj (uu j)⟩ (by omega);rintro r _ t ⟨i,z,q,rfl,hz,hi,hr,ho,DN⟩ rec aD;simp only[al,Zm 1 z q _ hz,ae];have bB:=hs.mono ho.1;by_cases aj:i<x.az.length
   ·obtain⟨i1,o1,rfl⟩:=hs.ck (by simp[ints];omega)
    have cJ:(ints x.az)[i]? =some (.int .i64 x.az[i]):=Zu aj;have fj:x.az.take (i+1)=x.az.take i++[x.az[i]]:=jG aj;rw[ah (show(i:Int)<(x.az.length:Int) by omega),cond_true,Zc,aV,Zd (Zk aj)];simp only[aX];rw[bB.cP cJ];simp only[aM];have iD:(l++x.az.take i).length<=2000:=by rw[bg,bW];omega
    obtain⟨q2,t2,cK,nL,he⟩:=ho.xJ (β:=List DV) (sz:=1) (n:=(l++x.az.take i).length) (lim:=8796093022208) [.int .i64 x.az[i]] (sN 0) (by simp[ints]) rfl (by omega);refine Eq.mpr (congrArg (Ok _) (he _)) ?_;rw[Zc];have y9:=hs.mono cK.1;refine Zl _ (fun q y u=>∃k:Nat,y=[.int .i64 (k:Int)]/\k<=i/\i-k<=q/\u=t2/\x.az[i]∉x.az.take k) ?_ i (n+1) _ _ ⟨0,rfl,bH _,by omega,rfl,by simp⟩ (by omega);rintro r2 _ u ⟨k,rfl,hk,jz,rfl,w9⟩ dO nO;simp only[al,ae];by_cases hlk:k<i
    ·have gX:k<x.az.length:=by omega
     have Bz:(ints x.az)[k]? =some (.int .i64 x.az[k]):=Zu gX;rw[ah (show(k:Int)<(i:Int) by omega),cond_true,aV,Zd (Zk gX)];simp only[aX];rw[y9.cP Bz];simp only[aM];rw[aV,Zd (Zk aj),y9.cP cJ];simp only[aM];by_cases he:x.az[k]=x.az[i]
     ·rw[show(x.az[k]==x.az[i])=true by rw[he];exact gN _,cond_true]
      exact hF u cK.1 (Xq i k aj hlk (by rw[ba gX,ba aj,he]))
     ·rw[show(x.az[k]==x.az[i])=false from cx.2 he,cond_false,Zb (by omega) (by omega)]
      refine nO (i-(k+1)) _ _ (by omega) ⟨k+1,rfl,by omega,ay _,rfl,?_⟩;rw[jG gX];intro ji;rcases cW.1 ji with ji|ji
      ·exact w9 ji
      ·exact he (bK.1 ji).symm
    ·rw[ao (show ¬(k:Int)<(i:Int) by omega),cond_false]
     have:k=i:=by omega
     subst this;simp only[bh,ae];rw[Zb (by omega) (by omega)];refine aD (x.az.length-(k+1)) _ _ (by omega) ⟨k+1,1,q2,?_,.inl rfl,by omega,ay _,?_,fun j hj=>?_⟩
     ·rw[fj,<-dD,bg (as:=l++x.az.take k)];rfl
     ·rw[fj,<-dD]
      unfold ints at cK⊢;rw[dL (l₁:=l++x.az.take k)];exact cK
     ·by_cases rj:j=k
      ·subst rj
       rw[bJ,ba aj];exact w9
      ·exact DN j (by omega)
   ·rw[ao (show ¬(i:Int)<(x.az.length:Int) by omega),cond_false]
    have:i=x.az.length:=by omega
    subst this;rw[pj]at ho⊢;rw[KQ];simp only[bh,ae];refine Ok.join fun kO RT=>?_
    refine ZzE (Kn:=kO) (n+1) m (l++x.az) q t ho.sl (by rw[bg];omega) (by rw[bg];omega) ?_ ?_
    ·intro k hk u7
     refine hF t ho.1 fun hS=>u7 ?_
     rw[<-dQ];rcases cW.1 hk with hk|hk
     ·rw[hle]at hk
      rcases cW.1 hk with hk|hk
      ·by_cases hu:x.used=0
       ·rw[aG hu]at hk;cases hk
       ·rw[ax hu]at hk;rw[bK.1 hk];exact hS.t1 (by omega)
      ·by_cases hu:x.dir=0
       ·rw[aG hu]at hk;cases hk
       ·rw[ax hu]at hk;rw[bK.1 hk];exact hS.d hu
     ·obtain⟨i,hi,rfl⟩:=List.mem_iff_getElem.1 hk
      have:=(hS.ch i hi).1;rw[bJ,ba hi]at this;exact this
    ·intro ca
     have:jM x=true:=by
      refine(Cy x).2 ⟨by omega,by omega,hg,by omega,by omega,by omega,by omega,SI,fun hu=>?_,fun hu=>?_,by rw[hm,qV];exact h7,fun i hi=>⟨?_,DN i hi⟩⟩
      ·rw[dQ]
       exact ca _ (cW.2 (.inl (by rw[hle,ax (by omega)];simp)))
      ·rw[dQ]
       exact ca _ (cW.2 (.inl (by rw[hle,ax hu];simp)))
      ·rw[dQ,bJ,ba hi]
       exact ca _ (cW.2 (.inr (fK hi)))
     rw[RT];simp only[ae];rw[this,Ze];exact .mk ⟨t,rfl,ho.1⟩
  by_cases va:x.dir=0
  ·rw[show(!(x.dir==0))=false by rw[va];rfl,cond_false]
   exact A8 q l s ho (by omega) (by rw[aG va,ez];exact hle)
  ·rw[show(!(x.dir==0))=true by rw[hJ];exact cx.2 va,cond_true]
   obtain⟨q2,t2,cK,nL,he⟩:=ho.xJ (β:=List DV) (sz:=1) (n:=l.length) (lim:=8796093022208) [.int .i64 x.dir] (sN 0) (by simp[ints]) rfl (by omega);refine Eq.mpr (congrArg (Ok _) (he _)) ?_;have:=A8 q2 (l++[x.dir]) t2 (by unfold ints at cK⊢;rw[dL];exact cK) (by simp;omega) (by rw[ax va,<-hle]);rw[bg]at this;exact this
 by_cases xr:x.used=0
 ·rw[show(x.used==0)=true by rw[xr];rfl,cond_true]
  by_cases hfn:x.cE=0
  ·rw[show(!(x.cE==0))=false by rw[hfn];rfl,cond_false]
   exact A7 none 0 [] st (aY.nil (.refl st)) (.inr rfl) (by simp) (fun _=>hfn) (by rw[aG xr])
  ·rw[show(!(x.cE==0))=true by rw[hJ];exact cx.2 hfn,cond_true]
   exact hF st (.refl st) fun k=>hfn (k.t0 xr)
 ·rw[show(x.used==0)=false from cx.2 xr,cond_false]
  obtain⟨q2,t2,cK,nL,he⟩:=(aY.nil (.refl st)).xJ (β:=List DV) (sz:=1) (n:=0) (lim:=8796093022208) [.int .i64 x.cE] (sN 0) rfl rfl (by omega);refine Eq.mpr (congrArg (Ok _) (he _)) ?_;exact A7 q2 1 [x.cE] t2 cK (.inl rfl) (by simp) (fun e=>absurd e xr) (by rw[ax xr])
end Go.Gv.F
namespace Go.Gv.F
open Go.Gv
theorem ZBx (k m:Nat) (hk:k<64) (h:2^k*(2*m+1)<18446744073709551616):bits .and .u64 ((2^k*(2*m+1):Nat):Int) (IntKind.wrap .u64 (0-((2^k*(2*m+1):Nat):Int)))=((2^k:Nat):Int):=by
 have hp:0<2^k*(2*m+1):=Nat.mul_pos (nc k) (by omega);have mK:(2:Nat)^64=18446744073709551616:=by decide
 have hn:=ZAn k m 64 hk (by omega);generalize 2^k*(2*m+1)=w at h hp hn⊢;have e:IntKind.wrap .u64 (0-(w:Int))=((2^64-w:Nat):Int):=by
  show(0-(w:Int))%18446744073709551616=_;omega
 rw[e,Zy8 h (by omega),hn]
def BS (k:Nat):Nat:=(2^k*285870213051353865%18446744073709551616)/288230376151711744
def T4 (d:Option DV) (k:Nat):Bool:=match d with
 |some (.int .u8 n)=>n==(k:Int)
 |_=>false
theorem ZAA {d:Option DV} {k:Nat} (h:T4 d k=true):d=some (.int .u8 (k:Int)):=by
 unfold T4 at h;split at h
 ·rw[mu.1 h]
 ·cases h
theorem ZyU: ∀k,k<64->BS k<64/\T4 (LN[BS k]?) k=true:=by decide+kernel
theorem ZBs (k:Nat) (h:k<64):BS k<64/\LN[BS k]? =some (.int .u8 (k:Int)):=⟨(ZyU k h).1,ZAA (ZyU k h).2⟩
theorem Zzu (x c:Nat):(IntKind.wrap .u64 ((x:Int)*((c:Nat):Int))).fdiv (2^58)=((x*c%18446744073709551616/288230376151711744:Nat):Int):=by
 have e1:((x:Int)*((c:Nat):Int))=((x*c:Nat):Int):=by push_cast;rfl
 have e2:(2:Int)^58=((288230376151711744:Nat):Int):=by decide
 rw[e1,ZBb,e2,AJ]
theorem Wh {Bd:Za} (h:Mh Bd):Ma Bd:=by
 intro n k m st ht hk hw;rw[Zf,h.eq];have hand:=ZBx k m hk hw;have hp:0<2^k*(2*m+1):=Nat.mul_pos (nc k) (by omega);generalize 2^k*(2*m+1)=w at hand hp hw;obtain⟨h1,h2⟩:=ZBs k hk;have El:(IntKind.wrap .u64 (((2^k:Nat):Int)*285870213051353865)).fdiv (2^58)=((BS k:Nat):Int):=Zzu (2^k) 285870213051353865;unfold Ci QF;simp only[al,ae];rw[hand,El,show((w:Int)==0)=false from cx.2 (by omega),cond_false,Zd (show av ((BS k:Nat):Int) 64=true from Zk h1),aX,di,dG];rw[Zn (i:=2) (f:=true) (all:=LN) (d:= .int .u8 (k:Int)) (ht 2 _ rfl) h2];simp only[aM,Ze];rw[Zb (by omega) (by omega)]
end Go.Gv.F
