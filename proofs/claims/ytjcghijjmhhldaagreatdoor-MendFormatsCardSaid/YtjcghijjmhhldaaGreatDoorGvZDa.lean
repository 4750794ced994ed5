/- Words that last: the program's device as it is written. -/
import Derived.Test.YtjcghijjmhhldaaGreatDoorGvZCa
import Derived.Test.YtjcghijjmhhldaaGreatDoorGvZMg
set_option linter.all false
namespace Go.Gv.F
open Go.Gv
variable {β:Type}
def Fk (T:al) (s s':St):Prop:=Fx T s s'/\Kp s s'
theorem Fk.refl (T:al) (s:St):Fk T s s:=⟨.refl T s,.refl s⟩
theorem Fk.trans {T:al} {a b c:St} (h:Fk T a b) (k:Fk T b c):Fk T a c:=⟨h.1.trans k.1,h.2.trans k.2⟩
theorem Fk.pre {T:al} {s s':St} (h:ax s s'):Fk T s s':=⟨.pre T h,h.kp⟩
theorem Fk.mono {T T':al} {a b:St} (h:Fk T a b) (k: ∀x∈T,x∈T'):Fk T' a b:=⟨h.1.mono k,h.2⟩
theorem Fk.set {s:St} {j:Nat} {cs:af} (h:s[j]? =some (some ⟨false,cs⟩)) (b:Option aH):Fk [j] s (s.set j b):=⟨.set s j b,.set h b⟩
theorem Znh (x:Int):aq (aq x+1)=aq (x+1):=by
 unfold aq;rw[IntKind.wrap_i64,IntKind.wrap_i64,IntKind.wrap_i64];omega
def ay.pl (D:ay):Int:=bif D.bT.isEmpty then-1 else D.bT.getD D.at_ 0
def ay.kT (D:ay):Nat:=bif D.bT.isEmpty then D.at_ else(D.at_+1)%D.bT.length
def tN (c:aU) (w:Nat):aU:=⟨w,c.s,0,false⟩
def c0:aU:=⟨0,0,0,false⟩
def CE (cs:List aU) (i:Nat):List aU:=cs.set i (tN (cs.getD i c0) (cs.getD i c0).s)
def ay.ev (D:ay):List aU:=bif decide (0<=D.pl)&&decide (0<D.cs.length)then CE D.cs (D.pl.toNat%D.cs.length)else D.cs
def ay.step (D:ay):ay:=⟨D.ev,D.bT,D.kT,bif D.fN then D.left-1==0 else D.off,D.fN,bif D.fN then D.left-1 else D.left,D.steps+1⟩
structure ay.W (D:ay):Prop where
 ai:D.bT.isEmpty=false->D.at_<D.bT.length
 pn:D.bT.length<1000000
 cn:D.cs.length<1000000
 lf:D.fN=true->D.off=false->0<D.left
 lr: -4611686018427387904<=D.left/\D.left<4611686018427387904
theorem ZsS (cs:List aU) (i:Nat):(CE cs i).length=cs.length:=by simp[CE]
theorem ay.MM (D:ay):D.ev.length=D.cs.length:=by
 unfold ay.ev;cases decide (0<=D.pl)&&decide (0<D.cs.length)with
 |true=>exact ZsS _ _
 |false=>rfl
variable {f:Bool} {K X:M af} {d i j k lim m n p sz w y:Nat} {s s' s0 st:St} {α:Type} {c:ZJ} {as ats l:ak} {T ws:al}
theorem DM {l:List α} (h:l.isEmpty=false):0<l.length:=by cases l<;>simp at h⊢
theorem ay.W.step {D:ay} (h:D.W) (ho:D.off=false):D.step.W:=by
 have⟨h1,h2,h3,h4,h5⟩:=h;refine⟨λe=>?_,h2,by show D.ev.length<_;rw[D.MM];exact h3,λe f=>?_,?_⟩
 .show(bif D.bT.isEmpty then D.at_ else(D.at_+1)%D.bT.length)<_
  rw[show D.bT.isEmpty=false from e];exact vy _ (DM e)
 .replace e:D.fN=true:=e
  replace f:(bif D.fN then D.left-1==0 else D.off)=false:=f
  show 0<(bif D.fN then D.left-1 else D.left);have:=h4 e ho;rw[e,aa]at f⊢;have:=iG.1 f;omega
 .show-4611686018427387904<=(bif D.fN then D.left-1 else D.left)/\(bif D.fN then D.left-1 else D.left)<_
  cases e:D.fN with
  |true=>have:=h4 e ho;rw[aa];omega
  |false=>exact h5
structure iR (s:St) (d b z zp:Nat) (c p:Option (Nat×Nat)) (V:ay):Prop where
 hd:s[d]? =some (some ⟨false,gm z zp c p V⟩)
 hz:z=4\/c=none
 hp:zp=1\/p=none
 pl:Fz s p (ints V.bT)
 cl:Dj s d b c V.cs
variable {V:ay}
theorem cQ.out {b:Nat} (h:cQ s d b V): ∃z zp c p,iR s d b z zp c p V:=by
 have⟨z,zp,c,p,h1,h2,h3,h4,h5⟩:=h;exact⟨z,zp,c,p,h1,h2,h3,h4,h5⟩
variable {st:St} {d b z zp:Nat} {cw pw:ah} {V:ay}
theorem iR.dev (h:iR st d b z zp cw pw V):cQ st d b V:=⟨z,zp,cw,pw,h.hd,h.hz,h.hp,h.pl,h.cl⟩
theorem iR.lt (h:iR st d b z zp cw pw V):d<st.length:=(cF.1 h.hd).1
theorem iR.ou (h:iR st d b z zp cw pw V) (V':ay) (ep:V'.bT=V.bT) (ec:V'.cs=V.cs):iR (st.set d (some ⟨false,gm z zp cw pw V'⟩)) d b z zp cw pw V':=by
 refine⟨eJ h.lt,h.hz,h.hp,?_,?_⟩
 .rw[ep];exact h.pl.kp (Kp.set h.hd _)
 .rw[ec]
  rcases h.cl with e|⟨e1,e2,e3⟩
  .exact .inl e
  .exact .inr ⟨e1,e2,by rw[cz AC];exact e3⟩
theorem iR.fk (h:iR st d b z zp cw pw V) (x:Option aH):Fk [d,b] st (st.set d x):=(Fk.set h.hd x).mono Do
theorem iR.cell (h:iR st d b z zp cw pw V) (hc:0<V.cs.length):cw=some (b,0)/\b≠d/\st[b]? =some (some ⟨false,ZG V.cs⟩):=by
 rcases h.cl with⟨_,e⟩|e
 .rw[e]at hc;cases hc
 .exact e
theorem iR.cells (h:iR st d b z zp cw pw V) (hc:0<V.cs.length) (cs':List aU) (hl:cs'.length=V.cs.length):iR (st.set b (some ⟨false,ZG cs'⟩)) d b z zp cw pw { V with cs:=cs' } /\Fk [d,b] st (st.set b (some ⟨false,ZG cs'⟩)):=by
 have⟨h1,h2,h3⟩:=h.cell hc;refine⟨⟨?_,h.hz,h.hp,h.pl.kp (Kp.set h3 _),.inr ⟨h1,h2,eJ (cF.1 h3).1⟩⟩,(Fk.set h3 _).mono Do⟩;rw[cz h2,h.hd];unfold gm;rw[hl]
theorem iR.fx (h:iR st d b z zp cw pw V) (k:Fk T st s') (hd:d∉T) (hb:b∉T):iR s' d b z zp cw pw V:=
 ⟨k.1.2 d _ hd h.hd,h.hz,h.hp,h.pl.kp k.2,h.cl.imp id λ⟨h1,h2,h3⟩=>⟨h1,h2,k.1.2 b _ hb h3⟩⟩
theorem cQ.fx {T:al} {s':St} (h:cQ st d b V) (k:Fk T st s') (hd:d∉T) (hb:b∉T):cQ s' d b V:=by
 have⟨z,zp,cw,pw,h⟩:=h.out;exact(h.fx k hd hb).dev
theorem cQ.pre {s':St} (h:cQ st d b V) (k:ax st s'):cQ s' d b V:=h.fx (T:=[]) (.pre k) Do Do
theorem AW {s:List α} {x:α} (h:s[i]? =some x):s.set i x=s:=by
 refine xo λk=>?_
 by_cases e:i=k
 .subst e;rw[h,eJ (cF.1 h).1]
 .rw[cz e]
theorem vQ {x x':aU} {k:Nat} {v:DV} (hk:k<4) (e:od x'=(od x).set k v): ∀ {l:List aU} {i:Nat},l[i]? =some x->(ZG l).set (i*4+k) v=ZG (l.set i x')
 |[],i,h=>by simp at h
 |y::r,0,h=>by
  rw[jI,eO]at h;subst h;show(od y++ZG r).set (0*4+k) v=od x'++ZG r;rw[vA,ei,List.set_append_left _ _ (by simpa [od]using hk),e]
 |y::r,i+1,h=>by
  have:=vQ hk e (l:=r) (i:=i) (by simpa using h);show(od y++ZG r).set ((i+1)*4+k) v=od y++ZG (r.set i x');rw[xx _ _ (by show 4<=_;omega),<-this];congr 2;show(i+1)*4+k-4=_;omega
variable {Bd:Ze} [h:HA Bd]
theorem ZjN (n:Nat) {cs:List aU} {x:aU} (st:St) (hb:st[b]? =some (some ⟨false,ZG cs⟩)) (hx:cs[i]? =some x):
  run Bd (n+1) 391 [.ptr (some (b,i*4)),.w w] st=some (.val [],st.set b (some ⟨false,ZG (cs.set i (tN x w))⟩)):=by
 have hi:i<cs.length:=Fd
 have hl:b<st.length:=Fd
 have e1:=vQ (k:=0) (v:= .w w) (x':=⟨w,x.s,x.t,x.f⟩) (x:=x) EQ rfl hx;have e2:=vQ (k:=2) (v:= .w 0) (x':=⟨w,x.s,0,x.f⟩) (x:=⟨w,x.s,x.t,x.f⟩) EQ rfl (eJ hi);have e3:=vQ (k:=3) (v:= .bool false) (x':=tN x w) (x:=⟨w,x.s,0,x.f⟩) EQ rfl (eJ (l:=cs.set i ⟨w,x.s,x.t,x.f⟩) (by simpa using hi));rw[Zb,h.Ue];unfold Ir cV Lb
 try dsimp only
 rw[bF,ar,ao,aD,Zs hb (by rw[qX];omega),aD,show(ZG cs).set (i*4) (.w w)=_ from e1,Zs (eJ hl) (by rw[qX,kH];omega),aD,e2,vx,Zs (eJ hl) (by rw[qX,kH,kH];omega),e3,vx,vx,vx,Zh]
theorem Zo3 (n:Nat) (hd:iR st d b z zp cw pw V) (hw:V.W):
  run Bd (n+1) 422 [.ptr (some (d,1))] st=some (.val [.i V.pl],st.set d (some ⟨false,gm z zp cw pw { V with at_:=V.kT }⟩)):=by
 rw[Zb,h.UJ];unfold HL ck Zl Zw Li ay.pl ay.kT
 try dsimp only
 rw[bF,ao,aD,Zf hd.hd (d:= .slice zp pw V.bT.length) rfl,Zu 1 zp pw _ hd.hp];cases e:V.bT.isEmpty with
 |true=>
  have hl:((V.bT.length:Int)==0)=true:=by rw[List.isEmpty_iff]at e;rw[e];rfl
  rw[hl,aa,aa,Zh,show({ V with at_:=bif true then V.at_ else(V.at_+1)%V.bT.length } :ay)=V from rfl,AW hd.hd]
 |false=>
  have hl:=DM e;have ml:=hw.ai e;have jZ:=hw.pn;have cS:((V.bT.length:Int)==0)=false:=iG.2 AC;obtain⟨i1,o1,rfl⟩:=hd.pl.1.dP (by simpa [ints]using hl);rw[cS,ae,aD,Zf hd.hd (d:= .slice zp (some (i1,o1)) V.bT.length) rfl,Zu 1 zp _ _ hd.hp,aD,Zf hd.hd (d:= .i V.at_) rfl,bm,aD,Zg (Zo ml),bw,hd.pl.1.fj (ZN ml),bm,aD,Zf hd.hd (d:= .i V.at_) rfl,bm,aD,Zf hd.hd (d:= .slice zp (some (i1,o1)) V.bT.length) rfl,Zu 1 zp _ _ hd.hp,Zg (by rw[cS];rfl),aD,Zs hd.hd (by show 2<7;decide),Zh,Zc,ae,ae,gF,dt ml,show((V.at_:Int)+1).tmod (V.bT.length:Int)=(((V.at_+1)%V.bT.length:Nat):Int)from rfl];rfl
theorem ZmS (n:Nat) (st:St) (hd:cQ st d b V) (hw:V.W) (ho:V.off=false):
  Ok (λo=>∃s',o=(.val [],s')/\Fk [d,b] st s'/\cQ s' d b V.step) (run Bd (n+2) 421 [.ptr (some (d,0))] st):=by
 have⟨z,zp,c,p,h0⟩:=hd.out;rw[Zb,h.UI];unfold HY ck Zl aX aB Q_ lW ZL C_ Li Lp Lb
 try dsimp only
 rw[bF,ao,aD,Zf h0.hd (d:= .i (aq V.steps)) rfl,bm,aD,Zs h0.hd (by show 6<7;decide),Znh,aD];have h1:=h0.ou { V with steps:=V.steps+1 } rfl rfl;have k1:=h0.fk (some ⟨false,gm z zp c p { V with steps:=V.steps+1 }⟩);rw[show(gm z zp c p V).set (0+6) (.i (aq ((V.steps:Int)+1)))=gm z zp c p { V with steps:=V.steps+1 } from rfl];generalize st.set d (some ⟨false,gm z zp c p { V with steps:=V.steps+1 }⟩)=s1 at h1 k1;have cD:ay.W { V with steps:=V.steps+1 } :=⟨hw.ai,hw.pn,hw.cn,hw.lf,hw.lr⟩;rw[Zj (Zo3 n h1 cD),ar,ao];have h2:=h1.ou { V with steps:=V.steps+1,at_:=V.kT } rfl rfl;have k2:=k1.trans (h1.fk (some ⟨false,gm z zp c p { V with steps:=V.steps+1,at_:=V.kT }⟩));rw[show gm z zp c p { ({ V with steps:=V.steps+1 } :ay)with at_:=ay.kT { V with steps:=V.steps+1 } } =gm z zp c p { V with steps:=V.steps+1,at_:=V.kT } from rfl];generalize s1.set d (some ⟨false,gm z zp c p { V with steps:=V.steps+1,at_:=V.kT }⟩)=s2 at h2 k2;refine Ok.join λav e1=>?_
 have A: ∀(cs':List aU) (s:St),cs'=V.ev->Fk [d,b] st s->iR s d b z zp c p { V with steps:=V.steps+1,at_:=V.kT,cs:=cs' } ->Ok (λo=>∃s',o=(.val [],s')/\Fk [d,b] st s'/\cQ s' d b V.step)
   ((dU (λst=>aL st<|au []) λbp=>bif V.fN then aF (some (d,0)) λi4 o4=>bc i4 (o4+5) λd3=>dj .i64 d3 λx3=>aF (some (d,0)) λi5 o5=>bB i5 (o5+5) [.i (aq (x3-1))]<|aF (some (d,0)) λi6 o6=>bc i6 (o6+5) λd4=>dj .i64 d4 λx4=>aF (some (d,0)) λi7 o7=>bB i7 (o7+3) [.bool (x4==0)]<|bp []else bp []:M af) s):=by
  intro cs' s ec ks hs;rw[Zi];cases ea:V.fN with
  |false=>
   rw[ae];simp only[ao,Zh];refine .mk ⟨s,rfl,ks,?_⟩;have:V.step= { V with steps:=V.steps+1,at_:=V.kT,cs:=cs' } :=by unfold ay.step;rw[ea,ec];rfl
   rw[this];exact hs.dev
  |true=>
   have hl:=hw.lf ea ho;have hlr:=hw.lr;have g1:=hs.ou { V with steps:=V.steps+1,at_:=V.kT,cs:=cs',left:=V.left-1 } rfl rfl;rw[aa,aD,Zf hs.hd (d:= .i V.left) rfl,bm,aD,Zs hs.hd (by show 5<7;decide),Zc,aD];have k3:=ks.trans (hs.fk (some ⟨false,gm z zp c p { V with steps:=V.steps+1,at_:=V.kT,cs:=cs',left:=V.left-1 }⟩));rw[show(gm z zp c p { V with steps:=V.steps+1,at_:=V.kT,cs:=cs' }).set (0+5) (.i (V.left-1))=gm z zp c p { V with steps:=V.steps+1,at_:=V.kT,cs:=cs',left:=V.left-1 } from rfl];generalize s.set d (some ⟨false,gm z zp c p { V with steps:=V.steps+1,at_:=V.kT,cs:=cs',left:=V.left-1 }⟩)=s3 at g1 k3;rw[Zf g1.hd (d:= .i (V.left-1)) rfl,bm,aD,Zs g1.hd (by show 3<7;decide)];simp only[ao,Zh];have:V.step= { V with steps:=V.steps+1,at_:=V.kT,cs:=cs',left:=V.left-1,off:=V.left-1==0 } :=by unfold ay.step;rw[ea,ec];rfl
   rw[this];exact .mk ⟨_,rfl,k3.trans (g1.fk _),(g1.ou { V with steps:=V.steps+1,at_:=V.kT,cs:=cs',left:=V.left-1,off:=V.left-1==0 } rfl rfl).dev⟩
 have B: ∀r,r=(decide (0<=V.pl)&&decide (0<V.cs.length))->Ok (λo=>∃s',o=(.val [],s')/\Fk [d,b] st s'/\cQ s' d b V.step) (av [.bool r] s2):=by
  intro r er;rw[e1];dsimp only;rw[aA,ao,Zi];cases r with
  |false=>
   rw[ae];dsimp only;rw[ao,aD,Zf h2.hd (d:= .bool V.fN) rfl,qQ];exact A V.cs s2 (by unfold ay.ev;rw[<-er];rfl) k2 h2
  |true=>
   have⟨q1,q2⟩:=Bool.and_eq_true_iff.1 er.symm;have fY:=oA q1;have eu:=oA q2;have⟨hc,rH,eM⟩:=h2.cell eu;subst hc;have cS:((V.cs.length:Int)==0)=false:=iG.2 AC;have⟨m,hm⟩: ∃m:Nat,V.pl=m:=⟨V.pl.toNat,AC⟩;have aw:m%V.cs.length<V.cs.length:=vy _ eu;have NO:ay.pl { V with steps:=V.steps+1 } =(m:Int):=hm;rw[aa,aD,Zf h2.hd (d:= .slice z (some (b,0)) V.cs.length) rfl,Zu 4 z _ _ h2.hz,aD,Zf h2.hd (d:= .slice z (some (b,0)) V.cs.length) rfl,Zu 4 z _ _ h2.hz,Zg (by rw[cS];rfl),aD,NO,show(m:Int).tmod (V.cs.length:Int)=((m%V.cs.length:Nat):Int)from rfl,Zg (Zo aw),bw];have hx:V.cs[m%V.cs.length]? =some (V.cs.getD (m%V.cs.length) c0):=by rw[gF,dt aw];rfl
   rw[Zf eM (show(ZG V.cs)[m%V.cs.length*4+0+1]? =_ from(ux EQ hx).trans rfl),bm,dK (m%V.cs.length*4),Zj (ZjN n s2 eM hx),ao];dsimp only;rw[ao,aD];have⟨g1,g2⟩:=h2.cells eu (V.cs.set (m%V.cs.length) (tN (V.cs.getD (m%V.cs.length) c0) (V.cs.getD (m%V.cs.length) c0).s)) Do;rw[Zf g1.hd (d:= .bool V.fN) rfl,qQ];refine A _ _ ?_ (k2.trans g2) g1;unfold ay.ev CE;rw[<-er,aa,hm,bw]
 have NO:ay.pl { V with steps:=V.steps+1 } =V.pl:=rfl;rw[NO];by_cases q:0<=V.pl
 .rw[aI (show V.pl>=0 from q),aa,aD,Zf h2.hd (d:= .slice z c V.cs.length) rfl,Zu 4 z _ _ h2.hz]
  refine B _ ?_;rw[aI q,ez];exact decide_eq_decide.2 AC
 .rw[aK (show ¬V.pl>=0 from q),ae]
  exact B _ (by rw[aK q];rfl)
def ay.op (V:ay) (f:List aU->List aU):ay×Int:=bif V.off then(V,3)else(({ V with cs:=f V.cs } :ay).step,0)
def sh (i w:Nat) (cs:List aU):List aU:=cs.set i { cs.getD i c0 with s:=w }
def yQ (c:aU):aU:=⟨c.l,c.s,c.s,true⟩
def fw (c:aU):aU:=bif c.f then tN c c.t else c
def ay.sg (V:ay) (i w:Nat):ay×Int:=V.op (sh i w)
def UL (i:Nat) (cs:List aU):List aU:=(List.range 8).foldl (λcs k=>cs.set (i*8+k) (yQ (cs.getD (i*8+k) c0))) cs
def ay.rE (V:ay) (i:Nat):ay×Int:=V.op (UL i)
def ay.fP (V:ay):ay×Int:=V.op (List.map fw)
def cZ (r:ay×Int) (f:ay->ay×Int):ay×Int:=bif r.2==0 then f r.1 else r
def ay.jb (V:ay) (i:Nat):al->ay×Int
 |[]=>(V,0)
 |w::r=>cZ (V.sg i w) λV=>V.jb (i+1) r
def gi (st:St) (d b:Nat) (m:Nat) (r:ay×Int) (o:Out af×St):Prop:=∃s',o=(.val [.i r.2],s')/\Fk [d,b] st s'/\cQ s' d b r.1/\r.1.W/\r.1.cs.length=m
theorem K5 (i w:Nat) (cs:List aU):(sh i w cs).length=cs.length:=by simp[sh]
theorem ay.W.cs {V:ay} (h:V.W) (cs:List aU) (hl:cs.length=V.cs.length):ay.W { V with cs:=cs } :=⟨h.ai,h.pn,by show cs.length<_;rw[hl];exact h.cn,h.lf,h.lr⟩
theorem Mf (n:Nat) {x:Int} (cs:List aU) (hl:cs.length=V.cs.length) (hw:V.W) (ho:V.off=false) (k:Fk [d,b] st s) (hd:cQ s d b { V with cs:=cs }) (r:ay×Int) (hr:r=(({ V with cs:=cs } :ay).step,x)) (K:af->M af) (hK:K []=au [.i x]):
  Ok (gi st d b V.cs.length r) (cK (run Bd (n+2) 421 [.ptr (some (d,0))]) (λds=>aL ds (K ds)) s):=by
 have eZ:=hw.cs cs hl;refine Ok.cv (ZmS n s hd eZ ho) λs' ⟨k',hp⟩=>?_
 rw[ao,hK,Zh,hr];exact .mk ⟨s',rfl,k.trans k',hp,eZ.step ho,by show(ay.ev _).length=_;rw[ay.MM];exact hl⟩
theorem LP {Q:List aU->List aU} (hd:cQ st d b V) (hw:V.W) (ho:V.off=true) (r:ay×Int) (hr:r=V.op Q):Ok (gi st d b V.cs.length r) ((au [.i 3]:M af) st):=by
 rw[hr,Zh];unfold ay.op;rw[ho];exact .mk ⟨st,rfl,.refl _ _,hd,hw,rfl⟩
theorem yF {cs:List aU} (h:i<cs.length):cs[i]? =some (cs.getD i c0):=by
 rw[gF,dt h];rfl
theorem Zhy (n i w:Nat) (st:St) (hd:cQ st d b V) (hw:V.W) (hi:i<V.cs.length:=by omega):
  Ok (gi st d b V.cs.length (V.sg i w)) (run Bd (n+3) 417 [.ptr (some (d,0)),.i i,.w w] st):=by
 have⟨z,zp,c,p,h0⟩:=hd.out;rw[Zb,h.UE];unfold Hk uy aX N_ C_ kf Li cV Lp
 try dsimp only
 rw[bF,ar,ar,ao,aD,Zf h0.hd (d:= .slice z c V.cs.length) rfl,Zu 4 z _ _ h0.hz,Zj (DE (n+1) d i V.cs.length st h0.hd),ar,ao];cases ho:V.off with
 |true=>exact LP hd hw ho _ rfl
 |false=>
  have⟨hc,rH,eM⟩:=h0.cell AC;subst hc;rw[aK (AC:¬(i:Int)<0),aK (AC:¬(i:Int)>=(V.cs.length:Int)),xl,ae,ae,show(!((0:Int)==0))=false from rfl,ae,aD,Zf h0.hd (d:= .slice z (some (b,0)) V.cs.length) rfl,Zu 4 z _ _ h0.hz,aD,Zg (Zo hi),bw];have hx:=yF hi;have e1:=vQ (k:=1) (v:= .w w) (x:=V.cs.getD i c0) (x':= { V.cs.getD i c0 with s:=w }) EQ rfl hx;rw[Zs eM (by rw[qX];omega),dK,e1];have⟨g1,g2⟩:=h0.cells AC (V.cs.set i { V.cs.getD i c0 with s:=w }) Do;refine Mf n (x:=0) (sh i w V.cs) (K5 _ _ _) hw ho g2 g1.dev _ ?_ _ rfl;unfold ay.sg ay.op;rw[ho];rfl
def eo (i k:Nat) (cs:List aU):List aU:=(List.range k).foldl (λcs k=>cs.set (i*8+k) (yQ (cs.getD (i*8+k) c0))) cs
theorem vV (i:Nat) (cs:List aU): ∀k,(eo i k cs).length=cs.length
 |0=>rfl
 |k+1=>by
  have:=vV i cs k;unfold eo at this⊢;rw[lN,Dc];show(List.set _ _ _).length=_;rw[kH,this]
theorem AH (i k:Nat) (cs:List aU):eo i (k+1) cs=(eo i k cs).set (i*8+k) (yQ ((eo i k cs).getD (i*8+k) c0)):=by
 unfold eo;rw[lN,Dc];rfl
theorem Zhk (n i:Nat) (st:St) (hd:cQ st d b V) (hw:V.W) (hi:i<V.cs.length/8:=by omega) (hn:20<=n:=by omega):
  Ok (gi st d b V.cs.length (V.rE i)) (run Bd n 416 [.ptr (some (d,0)),.i i] st):=by
 obtain⟨n,rfl⟩: ∃m,n=m+3:=⟨n-3,AC⟩;have⟨z,zp,c,p,h0⟩:=hd.out;have jj:=hw.cn;rw[Zb,h.UD];unfold HB gy aX Q_ C_ bY ZL Lp kf Li cV Lb
 try dsimp only
 rw[bF,ar,ao,Zj (Dz (n+1) d st h0.hd h0.hz hw.cn),ar,ao,Zj (DE (n+1) d i _ st h0.hd),ar,ao];cases ho:V.off with
 |true=>exact LP hd hw ho _ rfl
 |false=>
  have⟨hc,rH,eM⟩:=h0.cell AC;subst hc;rw[aK (AC:¬(i:Int)<0),aK (AC:¬(i:Int)>=((V.cs.length/8:Nat):Int)),xl,ae,ae,show(!((0:Int)==0))=false from rfl,ae];refine Ok.join λav e1=>?_
  refine Zn _ (λq y s=>∃k:Nat,y=[.i k]/\k<=8/\8-k<=q/\Fk [d,b] st s/\iR s d b z zp (some (b,0)) p { V with cs:=eo i k V.cs }) ?_ 8 (n+2) _ _ ⟨0,rfl,AC,AC,.refl _ _,h0⟩ AC;rintro q _ s ⟨k,rfl,hk,hq,ks,hs⟩ rec aQ;rw[ar,ao];have nu:=vV i V.cs k;by_cases aw:k<8
  .have fH:s[b]? =some (some ⟨false,ZG (eo i k V.cs)⟩):=(hs.cell (by show 0<(eo i k V.cs).length;omega)).2.2
   have e2:aq (aq ((i:Int)*8)+(k:Int))=((i*8+k:Nat):Int):=by
    have:aq ((i:Int)*8)=((i*8:Nat):Int):=by
     rw[show(i:Int)*8=((i*8:Nat):Int) by omega];exact Zc
    rw[this,<-Int.natCast_add];exact Zc
   have hx:=yF (cs:=eo i k V.cs) (i:=i*8+k) AC;have g1:=vQ (k:=2) (v:= .w ((eo i k V.cs).getD (i*8+k) c0).s) (x:=(eo i k V.cs).getD (i*8+k) c0) (x':= { (eo i k V.cs).getD (i*8+k) c0 with t:=((eo i k V.cs).getD (i*8+k) c0).s }) EQ rfl hx;have g2:=vQ (k:=3) (v:= .bool true) (x:= { (eo i k V.cs).getD (i*8+k) c0 with t:=((eo i k V.cs).getD (i*8+k) c0).s }) (x':=yQ ((eo i k V.cs).getD (i*8+k) c0)) EQ rfl (eJ (l:=eo i k V.cs) (i:=i*8+k) AC);have⟨p1,p2⟩:=hs.cells (by show 0<(eo i k V.cs).length;omega) (eo i (k+1) V.cs) (by show _=(eo i k V.cs).length;rw[vV,vV]);rw[aI (AC:(k:Int)<8),aa,aD,Zf hs.hd (d:= .slice z (some (b,0)) (eo i k V.cs).length) rfl,Zu 4 z _ _ h0.hz,aD,e2,Zg (Zo),bw,dK,Zf fH ((ux EQ hx).trans rfl),bm,Zs fH (by rw[qX];omega),g1,Zs (eJ (cF.1 fH).1) (by rw[qX,kH];omega),g2,vx,vx,<-AH,Zc];exact aQ (8-(k+1)) _ _ AC ⟨k+1,rfl,AC,AC,ks.trans p2,p1⟩
  .have:k=8:=AC
   subst this;rw[aK (AC:¬((8:Nat):Int)<8),ae,e1];dsimp only;rw[ao];refine Mf n (x:=0) (eo i 8 V.cs) nu hw ho ks hs.dev _ ?_ _ rfl;unfold ay.rE ay.op;rw[ho];rfl
theorem Zl3 (n:Nat) (st:St) (hd:cQ st d b V) (hw:V.W) (hn:V.cs.length+20<=n):
  Ok (gi st d b V.cs.length V.fP) (run Bd n 413 [.ptr (some (d,0))] st):=by
 obtain⟨n,rfl⟩: ∃m,n=m+3:=⟨n-3,AC⟩;have⟨z,zp,c,p,h0⟩:=hd.out;have jj:=hw.cn;rw[Zb,h.UA];unfold Hz ck aX Q_ C_ bY N_ lW ZL kf Li Lp
 try dsimp only
 rw[bF,ao,Zj (DE (n+1) d 0 1 st h0.hd),ar,ao];cases ho:V.off with
 |true=>exact LP hd hw ho _ rfl
 |false=>
  rw[ae,show(bif decide ((0:Int)<0)||decide ((0:Int)>=1)then(2:Int)else 0)=0 from rfl,show(!((0:Int)==0))=false from rfl,ae,aD,Zf h0.hd (d:= .slice z c V.cs.length) rfl,Zu 4 z _ _ h0.hz];refine Ok.join λav e1=>?_
  have nu: ∀k,((V.cs.take k).map fw++V.cs.drop k).length=V.cs.length:=λk=>by
   rw[cq,dE,dh,ft];omega
  refine Zn _ (λq y s=>∃k:Nat,y=[.i k]/\k<=V.cs.length/\V.cs.length-k<=q/\Fk [d,b] st s/\iR s d b z zp c p { V with cs:=(V.cs.take k).map fw++V.cs.drop k }) ?_ V.cs.length (n+2) _ _ ⟨0,rfl,AC,AC,.refl _ _,h0⟩ AC;rintro q _ s ⟨k,rfl,hk,hq,ks,hs⟩ rec aQ;rw[ar,ao];have hl:=nu k;by_cases aw:k<V.cs.length
  .have⟨hc,_,fH⟩:=hs.cell (AC:0<((V.cs.take k).map fw++V.cs.drop k).length)
   subst hc
   replace fH:s[b]? =some (some ⟨false,ZG ((V.cs.take k).map fw++V.cs.drop k)⟩):=fH
   have hx:((V.cs.take k).map fw++V.cs.drop k)[k]? =some V.cs[k]:=by
    rw[iO (by rw[dE,dh];omega),dE,dh,je AC,mO,xq,dK,dt aw]
   have bN:((V.cs.take k).map fw++V.cs.drop k).set k (fw V.cs[k])=(V.cs.take (k+1)).map fw++V.cs.drop (k+1):=by
    rw[xx _ _ (by rw[dE,dh];omega),dE,dh,je AC,mO,il aw,List.set_cons_zero,pE aw,fb,gX];rfl
   have⟨p1,p2⟩:=hs.cells (AC:0<((V.cs.take k).map fw++V.cs.drop k).length) ((V.cs.take (k+1)).map fw++V.cs.drop (k+1)) ((nu _).trans (nu _).symm);generalize V.cs[k]=x at hx bN;rw[aI (AC:(k:Int)<(V.cs.length:Int)),aa,aD,Zf hs.hd (d:= .slice z (some (b,0)) ((V.cs.take k).map fw++V.cs.drop k).length) rfl,Zu 4 z _ _ h0.hz,aD,hl,Zg (Zo aw),bw,dK (k*4),Zf fH ((ux EQ hx).trans rfl),qQ,Zi];have cD:aq ((k:Int)+1)=((k+1:Nat):Int):=Zc;have Na:=aQ (V.cs.length-(k+1)) [.i (k+1:Nat)] (s.set b (some ⟨false,ZG ((V.cs.take (k+1)).map fw++V.cs.drop (k+1))⟩)) AC ⟨k+1,rfl,AC,AC,ks.trans p2,p1⟩;cases hf:x.f with
   |true=>
    have tw:fw x=tN x x.t:=by unfold fw;rw[hf];rfl
    rw[aa,Zf fH ((ux EQ hx).trans rfl),bm,Zj (ZjN (n+1) s fH hx),ao];dsimp only;rw[ao,cD,<-tw,bN];exact Na
   |false=>
    have tw:fw x=x:=by unfold fw;rw[hf];rfl
    rw[ae];dsimp only;rw[ao,cD];rw[tw,AW hx]at bN;rw[<-bN,AW fH]at Na;exact Na
  .have:k=V.cs.length:=AC
   subst this;rw[lO,zY,gE]at hs;rw[aK (AC:¬(V.cs.length:Int)<(V.cs.length:Int)),ae,e1];dsimp only;rw[ao];refine Mf n (x:=0) (V.cs.map fw) Do hw ho ks hs.dev _ ?_ _ rfl;unfold ay.fP ay.op;rw[ho];rfl
variable {r:ay×Int}
theorem sU (h:(r.2==0)=false) (f:ay->ay×Int):cZ r f=r:=by unfold cZ;rw[h];rfl
theorem lA (h:(r.2==0)=true) (f:ay->ay×Int):cZ r f=f r.1:=by unfold cZ;rw[h];rfl
theorem rf (r:ay×Int) (f g:ay->ay×Int):cZ (cZ r f) g=cZ r λV=>cZ (f V) g:=by
 cases h:r.2==0 with
 |false=>rw[sU h,sU h,sU h]
 |true=>rw[lA h,lA h]
def ay.put (V:ay) (line first:Nat) (ws:al):ay×Int:=cZ (V.jb (line*8+first) ws) λV=>V.rE line
def ay.head (V:ay) (k w:Nat):ay×Int:=cZ (V.put k 0 [w]) ay.fP
def ay.tail (V:ay) (k:Nat) (ws:al):ay×Int:=cZ (V.put k 1 (ws.drop 1)) ay.fP
def ay.lay (V:ay) (k:Nat) (ws:al):ay×Int:=cZ (V.head k 0) λV=>cZ (V.tail k ws) λV=>V.head k (ws.getD 0 0)
def ay.yH (V:ay):ay×Int:=cZ (V.put 0 0 [0]) λV=>cZ (V.put 1 0 [0]) ay.fP
variable {m:Nat}
theorem gi.pre (k:Fk [d,b] st s) {o:Out af×St} (h:gi s d b m r o):gi st d b m r o:=by
 have⟨s',e,k',h⟩:=h;exact⟨s',e,k.trans k',h⟩
theorem q8 (k:Fk [d,b] st s) (h:Ok (gi s d b m r) (X s)):Ok (gi st d b m r) (cK X (λds=>az .i64 ds λx ds=>aL ds<|au [.i x]) s):=by
 refine Ok.call h ?_;rintro _ ⟨s',rfl,k',h⟩;refine⟨_,s',rfl,?_⟩;rw[ar,ao,Zh];exact .mk ⟨s',rfl,k.trans k',h⟩
theorem pR {f:ay->ay×Int} (k:Fk [d,b] st s) (h:Ok (gi s d b m r) (X s))
  (hK: ∀s',(r.2==0)=true->Fk [d,b] st s'->cQ s' d b r.1->r.1.W->r.1.cs.length=m->Ok (gi st d b m (f r.1)) (K s')):
  Ok (gi st d b m (cZ r f)) (cK X (λds=>az .i64 ds λx ds=>aL ds<|bif !(x==0)then au [.i x]else K) s):=by
 refine Ok.call h ?_;rintro _ ⟨s',rfl,k',h1,h2,h3⟩;refine⟨_,s',rfl,?_⟩;rw[ar,ao];cases e:r.2==0 with
 |false=>
  rw[cy,aa,Zh,sU e];exact .mk ⟨s',rfl,k.trans k',h1,h2,h3⟩
 |true=>
  rw[bU,ae,lA e];exact hK s' e (k.trans k') h1 h2 h3
theorem cQ.lt {st:St} (h:cQ st d b V):d<st.length:=by
 have⟨z,zp,c,p,h0⟩:=h.out;exact h0.lt
theorem cQ.blt (h:cQ st d b V) (hc:0<V.cs.length):b<st.length:=by
 have⟨z,zp,c,p,h0⟩:=h.out;exact(cF.1 (h0.cell hc).2.2).1
theorem dF.fresh (h:cQ st d b V) (hc:0<V.cs.length):dF [d,b] (some (st.length,0)):=by
 have h1:=h.lt;have h2:=h.blt hc;intro b' o e hm;cases e;rw[dR,cA]at hm;omega
variable {V':ay}
theorem KM (hk:k<ws.length) (h:V.jb i ws=V'.jb (i+k) (ws.drop k)):V.jb i ws=cZ (V'.sg (i+k) ws[k]) λV=>V.jb (i+(k+1)) (ws.drop (k+1)):=by
 rw[h,il hk];rfl
theorem Zir (n line first:Nat) (ws:al) (a:ah) (st:St) (hd:cQ st d b V) (hw:V.W) (hi:line<V.cs.length/8) (hf:first+ws.length<=8) (ha:Sl st a (Zm ws)) (ho:dF [d,b] a) (hn:40<=n:=by omega):
  Ok (gi st d b V.cs.length (V.put line first ws)) (run Bd n 412 [.ptr (some (d,0)),.i line,.i first,.slice 1 a ws.length] st):=by
 obtain⟨n,rfl⟩: ∃m,n=m+4:=⟨n-4,AC⟩;have jj:=hw.cn;rw[Zb,h.Uz];unfold II bG Q_ aX bY ZF cP Li kQ
 try dsimp only
 rw[bF,ar,ar,bd,ao];refine Ok.join λav e1=>?_
 refine Zn _ (λq y s=>∃(k:Nat) (V':ay),y=[.i k]/\k<=ws.length/\ws.length-k<=q/\Fk [d,b] st s/\cQ s d b V'/\V'.W/\V'.cs.length=V.cs.length/\V.jb (line*8+first) ws=V'.jb (line*8+first+k) (ws.drop k)) ?_ ws.length (n+3) _ _ ⟨0,V,rfl,AC,AC,.refl _ _,hd,hw,rfl,rfl⟩ AC;rintro q _ s ⟨k,V',rfl,hk,hq,ks,dO,eZ,fy,hV⟩ rec aQ;rw[ar,ao];unfold ay.put;by_cases aw:k<ws.length
 .have hs:=Sl.fx ha ks.1 ho
  obtain⟨i1,o1,rfl⟩:=hs.dP (by rw[Z8];omega);have hg:(Zm ws)[k]? =some (.w (ws[k]:Nat)):=by simp[Zm,aw]
  have bx:=KM aw hV;rw[bx,rf];generalize ws[k]=w at hg bx;have e2:aq (aq (aq ((line:Int)*8)+(first:Int))+(k:Int))=((line*8+first+k:Nat):Int):=by
   have h1:aq ((line:Int)*8)=((line*8:Nat):Int):=by
    rw[show(line:Int)*8=((line*8:Nat):Int) by omega];exact Zc
   rw[h1,<-Int.natCast_add,Zc (x:=((line*8+first:Nat):Int)),<-Int.natCast_add];exact Zc
  rw[aI (AC:(k:Int)<(ws.length:Int)),aa,aD,Zg (Zo aw),bw,hs.fj hg,bm,e2,<-fy];refine pR ks (Zhy n (line*8+first+k) w s dO eZ) λs' e0 k' h1 h2 h3=>?_
  rw[lA e0]at bx;rw[Zc];have hr:=aQ (ws.length-(k+1)) [.i (k+1:Nat)] s' AC ⟨k+1,_,rfl,AC,AC,k',h1,h2,h3.trans fy,bx⟩;unfold ay.put at hr;rw[bx]at hr;rw[fy];exact hr
 .have:k=ws.length:=AC
  subst this;rw[zY]at hV;rw[aK (AC:¬(ws.length:Int)<(ws.length:Int)),ae,e1];dsimp only;rw[ao,hV,show V'.jb (line*8+first+ws.length) []=(V',0)from rfl,lA rfl,<-fy];exact q8 ks (Zhk (n+3) line s dO eZ)
theorem DF (n:Nat) (st:St) (hd:cQ st d b V) (hw:V.W) (hn:V.cs.length+30<=n:=by omega):
  Ok (gi st d b V.cs.length V.fP) (run Bd n 399 [.ptr (some (d,0))] st):=by
 obtain _|n:=n;omega;rw[Zb,h.Ul];unfold Jg ck aX Li Lp
 try dsimp only
 rw[bF,ao,pF,ae];exact q8 (.refl _ _) (Zl3 n st hd hw AC)
theorem ZrW (n i:Nat) (hd:cQ st d b V) (hw:V.W) (hi:i<V.cs.length/8):run Bd (n+2) 331 [.ptr (some (d,0)),.i i] st=some (.val [.i 0],st):=by
 have⟨z,zp,c,p,h0⟩:=hd.out;rw[Zkb n d i st h0.hd h0.hz hw.cn,aK (AC:¬(i:Int)<0),aK (AC:¬(i:Int)>=((V.cs.length/8:Nat):Int))];rfl
theorem Jy (n i w:Nat) (st:St) (hd:cQ st d b V) (hw:V.W) (hi:i<V.cs.length/8:=by omega) (hn:50<=n:=by omega):
  Ok (gi st d b V.cs.length (V.put i 0 [w])) (run Bd n 400 [.ptr (some (d,0)),.i i,.i 0,.w w] st):=by
 obtain⟨n,rfl⟩: ∃m,n=m+3:=⟨n-3,AC⟩;rw[Zb,h.Um];unfold Jd Es aX aB cP Li cV Lb
 try dsimp only
 rw[bF,ar,ar,ar,ao,Zj (ZrW n i hd hw hi),ar,ao,show(!((0:Int)==0))=false from rfl,ae,Zi,show decide ((0:Int)<0)=false from rfl,ae,show decide ((0:Int)>=8)=false from rfl];dsimp only;rw[aA,ao,ae,Zv];have hp:=ax.new st (some ⟨false,[.w w]⟩);have dO:=hd.pre hp;exact q8 (.pre hp) (Zir (n+2) i 0 [w] (some (st.length,0)) _ dO hw hi Do (pY st _) (dF.fresh hd AC))
theorem Zmt (n i:Nat) (a:ah) (l:aj) (st:St) (hd:cQ st d b V) (hw:V.W) (hi:i<V.cs.length/8) (ha:cC st a l) (hl:l.length=64) (hn:50<=n):
  Ok (gi st d b V.cs.length (V.put i 0 (Zy l 8))) (run Bd n 403 [.ptr (some (d,0)),.i i,.slice 1 a 64] st):=by
 obtain⟨n,rfl⟩: ∃m,n=m+3:=⟨n-3,AC⟩;rw[Zb,h.Uq];unfold IX bG aX dZ cP Li bh
 try dsimp only
 rw[bF,ar,bd,ao,Zj (ZrW n i hd hw hi),ar,ao,show(!((0:Int)==0))=false from rfl,ae,show(!(((64:Nat):Int)==64))=false from rfl,ae];have wT:=Im (n+2) a l 8 st ha;rw[hl]at wT;refine Ok.call wT ?_;rintro _ ⟨q,s1,rfl,hp,hf⟩;refine⟨_,s1,rfl,?_⟩;rw[bd,ao];have dO:=hd.pre hp;have lD:dF [d,b] q:=by
  intro b' o e hm;have⟨all,h1⟩:=hf.2 b' o e;have⟨z,zp,c,p,h0⟩:=dO.out;have⟨_,_,h2⟩:=h0.cell AC;have h3:=h0.hd;rw[dR,cA]at hm;rcases hm with rfl|rfl
  .rw[h1]at h3;cases h3
  .rw[h1]at h2;cases h2
 have:=Zir (n+2) i 0 (Zy l 8) q s1 dO hw hi (by rw[Z1];omega) hf.1 lD;rw[Z1]at this;exact q8 (.pre hp) this
theorem ZkN (n:Nat) (hd:cQ st d b V) (hw:V.W) (hi:2<=V.cs.length/8):run Bd (n+2) 398 [.ptr (some (d,0))] st=some (.val [.i 0],st):=by
 have⟨z,zp,c,p,h0⟩:=hd.out;rw[Zb,h.Uk];unfold Kw ck aX Li Lp
 try dsimp only
 rw[bF,ao,pF,ae,Zj (Dz n d st h0.hd h0.hz hw.cn),ar,ao,aK (AC:¬((V.cs.length/8:Nat):Int)<2)];rfl
theorem ZjP (n i w:Nat) (st:St) (hd:cQ st d b V) (hw:V.W) (hi:i<V.cs.length/8:=by omega) (hn:V.cs.length+60<=n:=by omega):
  Ok (gi st d b V.cs.length (V.head i w)) (run Bd n 405 [.ptr (some (d,0)),.i i,.w w] st):=by
 obtain _|n:=n;omega;rw[Zb,h.Us];unfold JG uy aX rh Li Lp
 try dsimp only
 rw[bF,ar,ar,ao];refine pR (.refl _ _) (Jy n i w st hd hw hi) λs' _ k h1 h2 h3=>?_
 rw[<-h3];exact q8 k (DF n s' h1 h2)
theorem ZoV (n i:Nat) (ws:al) (a:ah) (st:St) (hd:cQ st d b V) (hw:V.W) (hi:i<V.cs.length/8) (hl:ws.length=8) (ha:Sl st a (Zm ws)) (ho:dF [d,b] a) (hn:V.cs.length+60<=n):
  Ok (gi st d b V.cs.length (V.tail i ws)) (run Bd n 406 [.ptr (some (d,0)),.i i,.slice 1 a 8] st):=by
 obtain⟨n,rfl⟩: ∃m,n=m+4:=⟨n-4,AC⟩;have jj:=hw.cn;obtain⟨i1,o1,rfl⟩:=ha.dP (by rw[Z8];omega);rw[Zb,h.Ut];unfold J1 bG Q_ aX bY ZF cP Li Lp kQ
 try dsimp only
 rw[bF,ar,bd,ao];refine Ok.join λav e1=>?_
 have iy:(ws.drop 1).length=7:=by rw[ft];omega
 refine Zn _ (λq y s=>∃(k:Nat) (V':ay),y=[.i (k+1:Nat)]/\k<=7/\7-k<=q/\Fk [d,b] st s/\cQ s d b V'/\V'.W/\V'.cs.length=V.cs.length/\V.jb (i*8+1) (ws.drop 1)=V'.jb (i*8+1+k) ((ws.drop 1).drop k)) ?_ 7 (n+3) _ _ ⟨0,V,rfl,AC,AC,.refl _ _,hd,hw,rfl,rfl⟩ AC;rintro q _ s ⟨k,V',rfl,hk,hq,ks,dO,eZ,fy,hV⟩ rec aQ;rw[ar,ao];unfold ay.tail ay.put;by_cases aw:k<7
 .have hs:=Sl.fx ha ks.1 ho
  have hg:(Zm ws)[k+1]? =some (.w (ws[k+1]:Nat)):=by unfold Zm;rw[jJ,dt AC];rfl
  have bx:=KM (ws:=ws.drop 1) AC hV;rw[bx,rf,rf];rw[List.getElem_drop]at bx⊢;rw[show ws[1+k]=ws[k+1]from by congr 1;omega]at bx⊢;generalize ws[k+1]=w at hg bx;have e2:aq (aq ((i:Int)*8)+((k+1:Nat):Int))=((i*8+1+k:Nat):Int):=by
   have h1:aq ((i:Int)*8)=((i*8:Nat):Int):=by
    rw[show(i:Int)*8=((i*8:Nat):Int) by omega];exact Zc
   rw[h1,<-Int.natCast_add,Zc];omega
  rw[aI (AC:((k+1:Nat):Int)<((8:Nat):Int)),aa,aD,Zg (Zo),bw,hs.fj hg,bm,e2,<-fy];refine pR ks (Zhy n (i*8+1+k) w s dO eZ) λs' e0 k' h1 h2 h3=>?_
  rw[lA e0]at bx;rw[Zc];have hr:=aQ (7-(k+1)) [.i (k+1+1:Nat)] s' AC ⟨k+1,_,rfl,AC,AC,k',h1,h2,h3.trans fy,bx⟩;unfold ay.tail ay.put at hr;rw[bx,rf]at hr;rw[fy];exact hr
 .have:k=7:=AC
  subst this;rw[show(ws.drop 1).drop 7=[]from sF AC]at hV;rw[aK (AC:¬((7+1:Nat):Int)<((8:Nat):Int)),ae,e1];dsimp only;rw[ao,hV,show V'.jb (i*8+1+7) []=(V',0)from rfl,lA (r:=(V',0)) rfl,<-fy];refine pR ks (Zhk (n+3) i s dO eZ) λs' _ k h1 h2 h3=>?_
  rw[<-h3];exact q8 k (DF (n+3) s' h1 h2)
theorem Zn4 (n:Nat) (st:St) (hd:cQ st d b V) (hw:V.W) (hi:2<=V.cs.length/8) (hn:V.cs.length+80<=n):
  Ok (gi st d b V.cs.length V.yH) (run Bd n 380 [.ptr (some (d,0))] st):=by
 obtain⟨n,rfl⟩: ∃m,n=m+4:=⟨n-4,AC⟩;rw[Zb,h.T5];unfold Jo ck aX Q_ bY Lp Li rh
 try dsimp only
 rw[bF,ao,Zj (ZkN (n+1) hd hw hi),ar,ao,show(!((0:Int)==0))=false from rfl,ae];refine Ok.join λav e1=>?_
 rw[pN,ar,ao,show decide ((0:Int)<2)=true from rfl,aa];refine pR (.refl _ _) (Jy (n+3) 0 0 st hd hw) λs1 _ k1 h1 h2 h3=>?_
 rw[pN,ar,ao,show decide (aq (0+1)<2)=true from rfl,aa,<-h3,show aq (0+1)=((1:Nat):Int)from rfl];refine pR k1 (Jy (n+3) 1 0 s1 h1 h2) λs2 _ k2 h4 h5 h6=>?_
 rw[pN,ar,ao,show decide (aq (((1:Nat):Int)+1)<2)=false from rfl,ae,e1];dsimp only;rw[ao,<-h6];exact q8 k2 (DF (n+3) s2 h4 h5)
theorem Zju (n:Nat) (kind tag:Int) (a:ah) (body:aj) (st:St) (ha:cC st a body) (hk:1<=kind/\kind<256:=by omega) (ht:0<=tag/\tag<256:=by omega) (hb:body.length<=56:=by omega) (hn:200<=n:=by omega):
  Ok (λo=>∃p s',o=(.val [.slice 1 p 64,.bool true],s')/\ax st s'/\jv s' p (sd kind tag body)) (run Bd n 415 [.i kind,.i tag,.slice 1 a body.length] st):=by
 obtain _|n:=n;omega;rw[Zb,h.UC];unfold Jh bG aB nc dZ iP bh ZD Lb;simp only[ar,bd,aA,ao,mW,Zi];rw[aK (AC:¬kind<1),ae,aK (AC:¬kind>=256),ae,aK (AC:¬tag<0),ae,aK (AC:¬tag>=256),ae,aK (AC:¬(body.length:Int)>56),ae];have hz:fp 64 [.u 0]=aN (Zx 64):=ZnM 64;have h1:((aN (Zx 64)).set 4 (.u (ga kind).toNat)).set 5 (.u (ga tag).toNat)=aN ([0,0,0,0,ga kind,ga tag,0,0]:aj)++(aN (Zx body.length)++aN (Zx (56-body.length))):=by
  rw[<-pJ,<-Ew,<-Ew,<-pJ];congr 1;have:Zx body.length++Zx (56-body.length)=Zx 56:=by
   unfold Zx;rw[List.replicate_append_replicate];congr 1;omega
  rw[this];rfl
 have P4:(Zx 64).length=64:=rfl;rw[hz,Zv,EA,EA,AM _ (by rw[Zp];decide),AM _ (by rw[kH,Zp];decide),h1];have bj:=ax.new st (some (⟨false,aN ([0,0,0,0,ga kind,ga tag,0,0]:aj)++(aN (Zx body.length)++aN (Zx (56-body.length)))⟩:aH));have dG:=kA (β:=af) (ha.mono bj);rw[Zp]at dG;rw[je hb,cL,dG];have iN:=Zoj (β:=af) (s:=st) (A:=aN ([0,0,0,0,ga kind,ga tag,0,0]:aj)) (B:=aN (Zx body.length)++aN (Zx (56-body.length))) (D:=aN body++aN (Zx (56-body.length))) (by simp[Zp,Zx]);have tB:(st++[some (⟨false,aN ([0,0,0,0,ga kind,ga tag,0,0]:aj)++(aN (Zx body.length)++aN (Zx (56-body.length)))⟩:aH)])[st.length]? =some (some ⟨false,aN ([0,0,0,0,ga kind,ga tag,0,0]:aj)++(aN (Zx body.length)++aN (Zx (56-body.length)))⟩):=Do
 have hs8:aN ([0,0,0,0,ga kind,ga tag,0,0]:aj)++(aN body++aN (Zx (56-body.length)))=aN (Zx 4)++aN (gC kind tag body):=by
  rw[<-pJ,<-pJ,<-pJ];rfl
 rw[AX tB (by simp[Zp,Zx]),show cT (aN ([0,0,0,0,ga kind,ga tag,0,0]:aj)++(aN (Zx body.length)++aN (Zx (56-body.length)))) 8 (aN body)=aN ([0,0,0,0,ga kind,ga tag,0,0]:aj)++(aN body++aN (Zx (56-body.length)))from rb _ _ _ _ (by simp[Zp,Zx]),hs8];have bC:=kP bj (aW _) (some ⟨false,aN (Zx 4)++aN (gC kind tag body)⟩);have ql:((st++[some (⟨false,aN ([0,0,0,0,ga kind,ga tag,0,0]:aj)++(aN (Zx body.length)++aN (Zx (56-body.length)))⟩:aH)]).set st.length (some ⟨false,aN (Zx 4)++aN (gC kind tag body)⟩))[st.length]? =some (some ⟨false,aN (Zx 4)++aN (gC kind tag body)⟩):=eJ Do;generalize (st++[some (⟨false,aN ([0,0,0,0,ga kind,ga tag,0,0]:aj)++(aN (Zx body.length)++aN (Zx (56-body.length)))⟩:aH)]).set st.length (some ⟨false,aN (Zx 4)++aN (gC kind tag body)⟩)=s2 at bC ql;have eD:(gC kind tag body).length=60:=by
  unfold gC tk Zx;simp;omega
 rw[Zv];have eC:=ax.new s2 (some (⟨false,[.slice 1 (some (st.length,4)) 60]⟩:aH));have nl:cC (s2++[some (⟨false,[.slice 1 (some (st.length,4)) 60]⟩:aH)]) (some (st.length,4)) (gC kind tag body):=
  ⟨false,_,eC.get ql,by simp[Zp,eD,Zx],by rw[show(aN (Zx 4)++aN (gC kind tag body)).drop 4=aN (gC kind tag body)from List.drop_left' rfl,lO]⟩
 have VY:=ZlU n (some (s2.length,0)) (some (st.length,4)) (gC kind tag body) _ (by rw[eD];exact pY s2 _) nl AC;refine Ok.cv VY λs3 fI=>?_
 have hc:mb (gC kind tag body)<4294967296:=LC _;rw[ar,ao,rl];refine Ok.call (DH n (mb (gC kind tag body)) 4 s3) ?_;rintro _ ⟨p,s4,rfl,iA,hf⟩;refine⟨_,s4,rfl,?_⟩;rw[bd,ao];have Qm:=kA (β:=af) hf.1;rw[Zp,ZH]at Qm;rw[show min 4 64*1=4 from rfl,Qm];have Qk:=eC.trans (fI.trans iA);have BT:=Qk.get ql;rw[AX BT (by simp[Zp,ZH,Zx]),show cT (aN (Zx 4)++aN (gC kind tag body)) 0 (aN (cI (mb (gC kind tag body)) 4))=aN (cI (mb (gC kind tag body)) 4)++aN (gC kind tag body)from rb [] (aN (Zx 4)) (aN (gC kind tag body)) (aN (cI (mb (gC kind tag body)) 4)) (by rw[Zp,Zp,ZH];rfl),<-pJ,ZE];have u4:=bC.trans Qk;have tH:=kP u4 (aW _) (some ⟨false,aN (sd kind tag body)⟩);have Cf:bn st (s4.set st.length (some ⟨false,aN (sd kind tag body)⟩)) (some (st.length,0)) (aN (sd kind tag body)):=⟨tH,.inr ⟨_,rfl,aW _,eJ (cF.1 BT).1⟩⟩;exact .mk ⟨_,_,rfl,ZK tH,Cf.fz⟩
theorem ZoO (n:Nat) (x:ZJ) (hl:x.cE.length=48) (h8:x.no<8) (st:St) (hn:210<=n):
  Ok (λo=>∃p s',o=(.val [.slice 1 p 64,.bool true],s')/\ax st s'/\jv s' p (pL x)) (run Bd n 402 [.agg (Zz x)] st):=by
 obtain⟨n,rfl⟩: ∃m,n=m+2:=⟨n-2,AC⟩;have dY:(aN x.cE).length=48:=by rw[Zp,hl]
 have eu:(Zz x).length=49:=sJ hl;have hr:=λs=>Ziu n x hl s
 rw[Zb,h.Up];unfold JI bA Zl uj
 try dsimp only
 rw[cU];unfold Zz at eu hr⊢;rw[ar,bV dY,ao,mW,bV eu,Zv];have bj:=ax.new st (some (⟨false,.i x.no::aN x.cE⟩:aH));have hg:(st++[some (⟨false,.i x.no::aN x.cE⟩:aH)])[st.length]? =some (some ⟨false,.i x.no::aN x.cE⟩):=Do
 generalize (st++[some (⟨false,.i x.no::aN x.cE⟩:aH)])=s1 at bj hg;rw[ZM hg AC,eG,dJ AC,ar,bV dY,Zj (hr s1),aA,ao,aI h8,bU,ae,Zf hg (d:= .i x.no) rfl,bm,ZM hg (by rw[eu];decide)];have nl:cC s1 (some (st.length,1)) x.cE:=⟨false,_,hg,by rw[eu,dY];decide,by rw[List.drop_succ_cons,eG,lO]⟩;have hs:=Zju (n+1) 4 x.no (some (st.length,1)) x.cE s1 nl;rw[hl]at hs;refine Ok.call hs ?_;rintro _ ⟨p,s2,rfl,bC,hf⟩;refine⟨_,s2,rfl,?_⟩;rw[bd,aA,ao,ZE];exact .mk ⟨p,_,rfl,ZK (bj.trans bC),hf.kp (L8 _ _)⟩
theorem Zuf {x:Nat} (hx:x<256) (hy:y<256): ∃v:Nat,v<256/\bits .andNot .u8 (x:Int) (y:Int)=(v:Int)/\v|||y=x|||y:=by
 refine⟨(BitVec.ofNat 8 x&&& ~~~ BitVec.ofNat 8 y).toNat,BitVec.isLt _,?_,?_⟩
 .show IntKind.wrap .u8 ((BitVec.ofInt 8 (x:Int)&&& ~~~ BitVec.ofInt 8 (y:Int)).toNat:Int)=_
  have h:=(BitVec.ofNat 8 x&&& ~~~ BitVec.ofNat 8 y).isLt;rw[BitVec.ofInt_natCast,BitVec.ofInt_natCast,IntWalk.u8_in _ AC]
 .have e: ∀z:Nat,z<256->(BitVec.ofNat 8 z).toNat=z:=λz hz=>by rw[BitVec.toNat_ofNat];exact Nat.mod_eq_of_lt hz
  have h1:((BitVec.ofNat 8 x&&& ~~~ BitVec.ofNat 8 y)|||BitVec.ofNat 8 y)=(BitVec.ofNat 8 x|||BitVec.ofNat 8 y):=by
   refine BitVec.eq_of_getLsbD_eq λi hi=>?_
   rw[BitVec.getLsbD_or,BitVec.getLsbD_or,BitVec.getLsbD_and,BitVec.getLsbD_not];cases(BitVec.ofNat 8 x).getLsbD i<;>cases(BitVec.ofNat 8 y).getLsbD i<;>simp[hi]
  have h2:=congrArg BitVec.toNat h1;rw[BitVec.toNat_or,BitVec.toNat_or,e x hx,e y hy]at h2;exact h2
theorem Zn3 (n:Nat) (x:ZJ) (a:Nat) (ha:a<1000000) (hl:x.cE.length=48) (h8:x.no<8) (hp:a/384=x.no) (st:St) (hn:10<=n):
  run Bd n 414 [.agg (Zz x),.i a,.bool true] st=some (.val [.agg (Zz ⟨x.no,lz x.cE (a%384)⟩),.bool true],st):=by
 obtain⟨n,rfl⟩: ∃m,n=m+3:=⟨n-3,AC⟩;have dY:(aN x.cE).length=48:=by rw[Zp,hl]
 have eu:(Zz x).length=49:=sJ hl;have hb:=ZjG n x a ha hl h8 st;rw[aI hp,aa]at hb;have hi:a%384/8<48:=AC
 have kW:a%384/8<x.cE.length:=AC
 have⟨c,hc⟩: ∃c,x.cE[a%384/8]? =some c:=⟨_,dt kW⟩;have rL:(aN x.cE)[a%384/8]? =some (.u c.toNat):=EC hc;have h2:2^(a%8)<256:=Dh (n:=8) EQ AC;have⟨v,hv,e1,e2⟩:=Zuf c.toNat_lt h2;rw[Zb,h.UB];unfold Jm jK EP Za iP
 try dsimp only
 rw[cU];unfold Zz at eu hb⊢;rw[ar,bV dY,ar,aA,ao,bV eu,Zj hb,ar,ar,aA,ao,bU,ae,Zg (Zo hi),bw,cL];have ib:cT (aN x.cE) (a%384/8) [.u (v:Int)]=(aN x.cE).set (a%384/8) (.u (v:Int)):=yh _ _ _ AC;have rM:x.cE.getD (a%384/8) 0=c:=by rw[gF,hc];rfl
 have NJ:c.toNat|||2^(a%8)<256:=Nat.or_lt_two_pow (n:=8) c.toNat_lt h2;have bN:cT ((aN x.cE).set (a%384/8) (.u (v:Int))) (a%384/8) [.u ((c.toNat|||2^(a%8):Nat):Int)]=aN (lz x.cE (a%384)):=by
  rw[yh _ _ _ (by rw[kH];omega),vx];unfold lz;rw[Ew,rM,show a%384%8=a%8 by omega];congr 2;show _=(((c.toNat|||2^(a%8))%256:Nat):Int);omega
 have F8:(aN (lz x.cE (a%384))).length=48:=by rw[Zp,xT,hl]
 rw[lq rL,bm,Zg (Zo hi),pS AC,Zi,aa,Zg (Zo hi),e1,ib,lq (eJ AC),bm,Zg (Zo hi),pS AC,or8 hv h2,e2,bN];dsimp only;rw[cU,ar,bV F8,ao,bV (by rw[eK,F8]),Zh]
def yS (W:al):Nat->Nat->Int
 |0,_=> -1
 |k+1,a=>bif ey W a then yS W k (a+1)else(a:Int)
def MO (m:Nat) (W:al):Int:=yS W m 0
theorem Zp9 (n:Nat) {W:al} (st:St) (hs:dT st f i j m W) (hn:m+10<=n):
  run Bd n 383 [.ptr (some (i,0)),.i 0] st=some (.val [.i (MO m W)],st):=by
 obtain⟨n,rfl⟩: ∃k,n=k+3:=⟨n-3,AC⟩;have hle:=hs.le;rw[Zb,h.T8];unfold H3 gy Q_ bY Zl bA Li cP
 try dsimp only
 rw[bF,ar,ao,show(if (0:Int)<0 then(0:Int)else 0)=((0:Nat):Int)from rfl];refine ok_eq ?_;refine Ok.join λav e1=>?_
 refine Zn _ (λq y s=>∃k:Nat,y=[.i (k:Nat)]/\k<=m/\m-k<=q/\s=st/\MO m W=yS W (m-k) k) ?_ m (n+2) _ _ ⟨0,rfl,AC,AC,rfl,rfl⟩ AC;rintro q _ s ⟨k,rfl,hk,hq,rfl,hg⟩ rec aQ;rw[ar,ao,aD,Zf hs.hd (d:= .i m) rfl,bm];by_cases aw:k<m
 .rw[show m-k=(m-(k+1))+1 by omega]at hg
  unfold yS at hg;rw[aI (AC:(k:Int)<(m:Int)),aa,Zj (JP n k s hs),aA,ao,show iY m (k:Int)=true from by unfold iY;rw[aI AC,aI AC];rfl,bw,ez];cases e:ey W k with
  |true=>
   rw[e,aa]at hg;rw[bU,ae,Zc];exact aQ (m-(k+1)) _ _ AC ⟨k+1,rfl,AC,AC,rfl,hg⟩
  |false=>
   rw[e,ae]at hg;rw[cy,aa,Zh,hg];exact .mk rfl
 .rw[show m-k=0 by omega]at hg
  rw[aK (AC:¬(k:Int)<(m:Int)),ae,e1];dsimp only;rw[ao,Zh,hg];exact .mk rfl
theorem JL (p:Nat) (x:Int): ∀(l:ak) (b:aj),rp p b (l++[x])=bif inPlace p x then lz (rp p b l) (x-((384*p:Nat):Int)).toNat else rp p b l
 |[],b=>rfl
 |y::l,b=>JL p x l _
theorem yf (p:Nat) (l:ak):(fB p l).cE.length=48:=(Zl1 p l _).trans qO
theorem ZpG {L:List ZJ} (hL: ∀x∈L,x.cE.length=48) (hp:p<L.length) (hc:c.cE.length=48):cT (Z0 L) (p*49) (Zz c)=Z0 (L.set p c):=by
 have e:L=L.take p++(L[p]::L.drop (p+1)):=by rw[<-il hp,List.take_append_drop]
 have e2:L.set p c=L.take p++(c::L.drop (p+1)):=by
  rw[List.set_eq_take_append_cons_drop,bO hp]
 have hl:(Z0 (L.take p)).length=p*49:=by
  rw[uv λx hx=>hL x (List.mem_of_mem_take hx),dh,je AC]
 rw[e2]
 conv=>lhs;rw[e]
 rw[DX,DX,<-hl];exact rb _ _ _ _ (by rw[sJ hc,sJ (hL _ (nP hp))])
theorem Zq2 {K a:Nat} (hk:k<l.length) (ha:l[k]=(a:Int)) (_hK:a/384<K):
  ((List.range K).map λq=>fB q (l.take k)).set (a/384) ⟨a/384,lz (fB (a/384) (l.take k)).cE (a%384)⟩=(List.range K).map λq=>fB q (l.take (k+1)):=by
 refine List.ext_getElem Do λq h1 h2=>?_
 rw[List.getElem_set,List.getElem_map,List.getElem_map,List.getElem_range,pE hk,ha];unfold fB;by_cases e:a/384=q
 .subst e
  rw[bO rfl,JL,show inPlace (a/384) (a:Int)=true from by unfold inPlace;rw[aI AC,aI AC];rfl,aa,show((a:Int)-((384*(a/384):Nat):Int)).toNat=a%384 by omega]
 .rw[cG e,JL,show inPlace q (a:Int)=false from by
   unfold inPlace;by_cases h:q<a/384
   .rw[aK (AC:¬(a:Int)<((384*q+384:Nat):Int)),zW]
   .rw[aK (AC:¬(a:Int)>=((384*q:Nat):Int)),gN],ae]
theorem Ztk (h:m<=3072):nJ (m:Int) 384=(((m+383)/384:Nat):Int):=by
 unfold nJ;rw[Zc (x:=(m:Int)+384),show(m:Int)+384-1=((m+383:Nat):Int) by omega,Zc (x:=((m+383:Nat):Int)),show((m+383:Nat):Int).tdiv 384=(((m+383)/384:Nat):Int)from rfl];exact Zc
def sV (m:Nat) (l:ak):List ZJ:=(List.range ((m+383)/384)).map λq=>fB q l
theorem ZqJ : ∀x∈sV m l,x.cE.length=48:=by
 intro x hx;have⟨q,_,e⟩:=ox.1 hx;rw[<-e];exact yf q l
theorem Zmq (hz:uq Bd) (n:Nat) {W:al} (st:St) (ht:kL st) (hs:dT st f i j m W) (hm:0<m) (hW: ∀b,ey W b=true->b<m) (hn:4000<=n):
  Ok (λo=>∃p s',o=(.val [.slice 49 p ((m+383)/384)],s')/\ax st s'/\(∀b∈aC p,st.length<=b)/\Sl s' p (Z0 (sV m (iD W)))) (run Bd n 401 [.ptr (some (i,0))] st):=by
 obtain⟨n,rfl⟩: ∃k,n=k+2:=⟨n-2,AC⟩;have hle:=hs.le;have qg:=hs.len;rw[Zb,h.Uo];unfold HN ck Zl aX dZ Q_ bY Zw jK bQ Li Lp Za lT
 try dsimp only
 rw[bF,ao,aD,Zf hs.hd (d:= .i m) rfl,bm,Zj (ZiI n m st),ar,ao,Ztk hle];have⟨K,hK⟩: ∃K,(m+383)/384=K:=⟨_,rfl⟩;rw[hK];refine Ok.join λav e1=>?_
 refine Zn _ (λq y s=>∃(k z:Nat) (p:ah),y=[.slice z p k,.i k]/\(z=49\/p=none)/\k<=K/\K-k<=q/\bn st s p (Z0 ((List.range k).map λq=>fB q []))) ?_ K (n+1) _ _ ⟨0,0,none,rfl,.inr rfl,AC,AC,bn.nil (.refl st)⟩ AC;rintro q _ s ⟨k,z,p,rfl,iV,hk,hq,ho⟩ rec aQ;rw[Zr 49 z p _ iV,ar,ao];by_cases aw:k<K
 .have⟨p',s',h1,h2⟩:=ho.push (β:=af) (sz:=49) (n:=k) (lim:=1256584717458) (Zz ⟨k,List.replicate 48 0⟩) AC (by
   rw[uv,dE,z6];intro x hx;have⟨q,_,e⟩:=ox.1 hx;rw[<-e];exact yf q []) (sJ qO) AC
  rw[aI (AC:(k:Int)<(K:Int)),aa];refine(congrArg (Ok _) (h2 _)).mpr ?_;rw[Zc];refine aQ (K-(k+1)) _ _ AC ⟨k+1,49,p',rfl,.inl rfl,AC,AC,?_⟩;rw[lN,fb,DX];exact h1
 have:k=K:=AC
 subst this;rw[aK (AC:¬(k:Int)<(k:Int)),ae,e1];dsimp only;have hk0:0<k:=AC
 have BY: ∀x∈(List.range k).map (λq=>fB q []),x.cE.length=48:=by
  intro x hx;have⟨q,_,e⟩:=ox.1 hx;rw[<-e];exact yf q []
 obtain⟨bo,rfl,uR,hsb⟩: ∃bo,p=some (bo,0)/\st.length<=bo/\s[bo]? =some (some ⟨false,Z0 ((List.range k).map λq=>fB q [])⟩):=by
  rcases ho.2 with⟨_,e⟩|h
  .have:=congrArg List.length e
   rw[uv BY,dE,z6]at this;simp at this;omega
  .exact h
 have V4:z=49:=by rcases iV with e|e;exact e;cases e
 subst V4;rw[bd,ao];refine Ok.call (Zkg hz (n+1) s (ht.mono ho.1) (hs.pre ho.1)) ?_;rintro _ ⟨p2,s2,rfl,bC,eD,gr⟩;refine⟨_,s2,rfl,?_⟩;rw[bd,ao];have⟨l,hl⟩: ∃l,iD W=l:=⟨_,rfl⟩;have rQ: ∀y∈l,∃b:Nat,y=(b:Int)/\b<m:=λy hy=>by
  rw[<-hl]at hy;have⟨b,e,hb⟩:=ZrK.1 hy;exact⟨b,e,hW b hb⟩
 have iL:l.length<=64*W.length:=by rw[<-hl];have:=IF W W.length;rwa [lO]at this
 unfold sV;rw[hl]at eD⊢;rw[hK];have VN:=bC.get hsb;have W0:bo<s.length:=(cF.1 hsb).1;have lD:dF [bo] p2:=dF.aC λb hb B4=>by
  have:=gr b hb;rw[cA.1 B4]at this;omega
 refine Ok.join λaG e2=>?_
 have MT: ∀t,∀x∈(List.range k).map (λq=>fB q (l.take t)),x.cE.length=48:=by
  intro t x hx;have⟨q,_,e⟩:=ox.1 hx;rw[<-e];exact yf q _
 refine Zn _ (λq y s'=>∃t:Nat,y=[.i t]/\t<=l.length/\l.length-t<=q/\Fx [bo] s2 s'/\ax st s'/\s'[bo]? =some (some ⟨false,Z0 ((List.range k).map λq=>fB q (l.take t))⟩)) ?_ l.length (n+1) _ _ ⟨0,rfl,AC,AC,.refl _ _,ho.1.trans bC,VN⟩ AC;rintro q' _ s' ⟨t,rfl,wR,u5,cH,wP,dH⟩ rec aQ;rw[ar,ao];have mu:=Sl.fx eD cH lD;by_cases kX:t<l.length
 .obtain⟨i1,o1,rfl⟩:=mu.dP (by simp[ints];omega)
  have⟨a,ha,ham⟩:=rQ l[t] (nP kX);have fY:a/384<k:=AC
  have rL:((List.range k).map λq=>fB q (l.take t))[a/384]? =some (fB (a/384) (l.take t)):=by
   rw[jJ,List.getElem?_range fY];rfl
  have bx:=Zq2 kX ha fY;have tt:aq ((a:Int).tdiv 384)=((a/384:Nat):Int):=by
   rw[show(a:Int).tdiv 384=((a/384:Nat):Int)from rfl];exact Zc
  have BZ:=DL (MT t) rL;have hlen:=uv (MT t);rw[dE,z6]at hlen;have Gr:=yf (a/384) (l.take t);have hmk:=Zn3 (n+1) (fB (a/384) (l.take t)) a AC Gr (AC:a/384<8) rfl s' AC;have zs:(aN (fB (a/384) (l.take t)).cE).length=48:=by rw[Zp,Gr]
  have NH:(aN (lz (fB (a/384) (l.take t)).cE (a%384))).length=48:=by rw[Zp,xT,Gr]
  have iN:=ZpG (c:=⟨a/384,lz (fB (a/384) (l.take t)).cE (a%384)⟩) (MT t) (p:=a/384) (by rw[dE,z6];exact fY) (by rw[xT,Gr]);rw[bx]at iN;rw[aI (AC:(t:Int)<(l.length:Int)),aa,aD,Zg (Zo kX),bw,mu.fj (ZN kX),bm,aD,ha,tt,Zg (Zo fY),bw,dK,ZM dH AC,BZ];unfold Zz at hmk iN⊢;rw[ar,bV zs,Zj hmk,cU,ar,bV NH,aA,ao,aD,Zg (Zo fY),bV (by rw[eK,NH]),dK,AX dH (by rw[eK,NH];omega),show(fB (a/384) (l.take t)).no=a/384 from rfl,iN,Zc];exact aQ (l.length-(t+1)) _ _ AC ⟨t+1,rfl,AC,AC,cH.trans (Fx.set _ _ _),kP wP uR _,eJ (cF.1 dH).1⟩
 .have:t=l.length:=AC
  subst this;rw[lO]at dH;rw[aK (AC:¬(l.length:Int)<(l.length:Int)),ae,e2];dsimp only;rw[ao,Zh];exact .mk ⟨some (bo,0),s',rfl,wP,λb hb=>by rw[show b=bo from cA.1 hb];exact uR,⟨false,_,dH,Do,Do⟩⟩
def ay.oe (V:ay):List ZJ->ak->ay×Int
 |c::cs,a::as=>cZ (V.put a.toNat 0 (Zy (pL c) 8)) λV=>V.oe cs as
 |_,_=>V.fP
theorem Jb (h:c.cE.length=48):(pL c).length=64:=Zno
theorem Zqo {s:St} {a:ah} (ht: ∀x∈T,x<st.length) (h: ∀x∈aC a,st.length<=x):dF T a:=
 dF.aC λx hx hm=>by have:=ht x hm;have:=h x hx;omega
theorem Zpr {cs:List ZJ} (hk:k<cs.length) (fQ:k<as.length) {x:ay×Int} (h:x=V'.oe (cs.drop k) (as.drop k)):x=cZ (V'.put as[k].toNat 0 (Zy (pL cs[k]) 8)) λV=>V.oe (cs.drop (k+1)) (as.drop (k+1)):=by
 rw[h,il hk,il fQ];rfl
theorem ZlP (hz:uq Bd) (n:Nat) {W:al} {a:ah} (st:St) (ht:kL st) (hs:dT st f i j m W) (hm:0<m) (hW: ∀b,ey W b=true->b<m)
  (hd:cQ st d b V) (hw:V.W) (ha:Sl st a (ints ats)) (tq:ats.length=(m+383)/384) (oS: ∀x∈ats,0<=x/\x.toNat<V.cs.length/8) (ho:dF [d,b] a) (hn:V.cs.length+4100<=n):
  Ok (gi st d b V.cs.length (V.oe (sV m (iD W)) ats)) (run Bd n 381 [.ptr (some (d,0)),.ptr (some (i,0)),.slice 1 a ats.length] st):=by
 obtain _|n:=n;omega;have hle:=hs.le;have zC:0<ats.length:=AC
 have fH:0<V.cs.length:=by
  have:=oS _ (nP zC);omega
 have hTl: ∀x∈[d,b],x<st.length:=λx hx=>by
  rw[dR,cA]at hx;rcases hx with rfl|rfl
  .exact hd.lt
  .exact hd.blt fH
 rw[Zb,h.T6];unfold H8 bG Q_ aX bY N_ uj Zw Lp Li
 try dsimp only
 rw[bF,bF,bd,ao];refine Ok.call (Zmq hz n st ht hs hm hW AC) ?_;rintro _ ⟨p,s1,rfl,bj,nn,eD⟩;refine⟨_,s1,rfl,?_⟩;have⟨L,hL⟩: ∃L,sV m (iD W)=L:=⟨_,rfl⟩;have FK:L.length=ats.length:=by rw[<-hL,tq];unfold sV;simp
 have MZ: ∀x∈L,x.cE.length=48:=by rw[<-hL];exact ZqJ
 have hL8: ∀x∈L,x.no<8:=by
  intro x hx;rw[<-hL]at hx;have⟨q,hq,e⟩:=ox.1 hx;have:=vw.1 hq;rw[<-e];show q<8;omega
 rw[hL]at eD⊢;rw[<-tq,bd,ao];have cX:dF [d,b] p:=Zqo (s:=st) hTl nn;have mj:=ha.mono bj;have W2:=uv MZ;refine Ok.mono (P:=gi s1 d b V.cs.length (V.oe L ats)) ?_ λo=>gi.pre (.pre bj)
 refine Ok.join λav e1=>?_
 refine Zn _ (λq y s=>∃(k:Nat) (V':ay),y=[.i k]/\k<=ats.length/\ats.length-k<=q/\Fk [d,b] s1 s/\cQ s d b V'/\V'.W/\V'.cs.length=V.cs.length/\V.oe L ats=V'.oe (L.drop k) (ats.drop k)) ?_ ats.length n _ _ ⟨0,V,rfl,AC,AC,.refl _ _,hd.pre bj,hw,rfl,rfl⟩ AC;rintro q _ s ⟨k,V',rfl,hk,hq,ks,dO,eZ,fy,hV⟩ rec aQ;rw[ar,ao];by_cases aw:k<ats.length
 .have ib:=Sl.fx eD ks.1 cX
  have j3:=Sl.fx mj ks.1 ho;have bx:=Zpr AC aw hV;have BI:=oS _ (nP aw);have⟨c,hc,hg⟩: ∃c,L[k]' AC=c/\L[k]? =some c:=⟨_,rfl,dt _⟩;have uU:=MZ c (z7 hg);have wz:=hL8 c (z7 hg);have zs:(aN c.cE).length=48:=by rw[Zp,uU]
  have BU:=ZN aw;obtain⟨i1,o1,rfl⟩:=ib.dP AC;obtain⟨i2,o2,rfl⟩:=j3.dP (by simp[ints];omega);have⟨f1,all,g1,g2,g3⟩:=ib;have M7:(all.drop (k*49+o1)).take 49=Zz c:=by
   have e3:=DL MZ hg;rw[<-g3,xm,List.take_take,je AC,kd,oz o1]at e3;exact e3
  rw[hc]at bx;generalize ats[k]=x at bx BI BU;obtain⟨xa,rfl⟩: ∃xa:Nat,x=(xa:Int):=⟨x.toNat,AC⟩;rw[bw]at bx BI;rw[bx,aI (AC:(k:Int)<(ats.length:Int)),aa,aD,Zg (Zo aw),bw,ZM g1 AC,M7];have Cg:=ZoO n c uU wz s AC;unfold Zz at Cg⊢;rw[ar,bV zs,bV (by rw[eK,zs])];refine Ok.call Cg ?_;rintro _ ⟨p4,s2,rfl,bC,hf⟩;refine⟨_,s2,rfl,?_⟩;have zx:=j3.mono bC;rw[bd,aA,ao,bU,ae,aD,Zg (Zo aw),zx.fj BU,bm,<-fy];refine pR (ks.trans (.pre bC)) (Zmt n xa p4 (pL c) s2 (dO.pre bC) eZ AC hf.l9 (Jb uU) AC) λs' e0 k' h1 h2 h3=>?_
  rw[lA e0]at bx;rw[Zc];have hr:=aQ (ats.length-(k+1)) [.i (k+1:Nat)] s' AC ⟨k+1,_,rfl,AC,AC,k',h1,h2,h3.trans fy,bx⟩;rw[bx]at hr;rw[fy];exact hr
 .have:k=ats.length:=AC
  subst this;rw[sF (AC:L.length<=ats.length),zY]at hV;rw[aK (AC:¬(ats.length:Int)<(ats.length:Int)),ae,e1];dsimp only;rw[ao,hV,show V'.oe [] []=V'.fP from rfl,<-fy];exact q8 ks (DF n s dO eZ)
theorem bn.Mq {a:ah} {cs:af} (h:bn s0 s a cs) {ds:af} (hz:0<sz) (hn:cs.length=n*sz) (hm:0<m) (hl:n+m<=lim):
  ∃p s',bn s0 s' p (cs++ds)/\Fx (aC a) s s'/\(∀b∈aC p,s.length<=b)/\∀K:ah->M β,cB sz a n ds m lim K s=K p s':=by
 have hb:Nat.beq m 0=false:=by cases m with|zero=>cases hm|succ m=>rfl
 rcases h.2 with⟨rfl,rfl⟩|⟨i,rfl,hi,hs⟩
 .have h0:n=0:=by
   rcases Ab.1 (show n*sz=0 by simpa using hn.symm)with h|h
   .exact h
   .omega
  subst h0;refine⟨some (s.length,0),s++[some ⟨false,ds⟩],⟨h.1.trans (.new _ _),.inr ⟨s.length,rfl,h.1.len,Do⟩⟩,.pre _ (.new _ _),λb hb=>by rw[show b=s.length from cA.1 hb];exact aW _,λK=>?_⟩;unfold cB;rw[hb,fE hl,aa,ae];rfl
 .have cX:s.fJ i=some cs:=by grind[St.fJ]
  refine⟨some (s.length,0),s.set i none++[some ⟨false,cs++ds⟩],⟨(kP h.1 hi none).trans (.new _ _),Fd⟩,(Fx.set s i none).trans (.pre _ (.new _ _)),λb hb=>by rw[show b=s.length from cA.1 hb];exact aW _,λK=>?_⟩;unfold cB;simp only[hb,fE hl,aa,ae,cX];rw[ei,fE AC];grind
def tW (x:db):ak:=[x.blocks,x.ef,x.g,x.used,x.free]
def lF (k:Nat) (l:ak):aj:=(l.map λv=>cI (dX v) k).flatten
theorem KR (k:Nat): ∀l:ak,(lF k l).length=k*l.length
 |[]=>rfl
 |v::r=>by
  have:=KR k r;unfold lF at this⊢;rw[pC,zZ,cq,ZH,this,eK,Nat.mul_add];omega
theorem ZlN (h:i<l.length):lF k (l.take (i+1))=lF k (l.take i)++cI (dX l[i]) k:=by
 rw[pE h];unfold lF;rw[fb,List.flatten_append];simp
theorem ZoA (n:Nat) (x:db) (p:ah) (st:St) (hs:Sl st p (ints x.bg)) (h0:0<x.bg.length) (hl:x.bg.length<=8) (hr:lV x=true) (hn:300<=n):
  Ok (λo=>∃q s',o=(.val [.slice 1 q 64,.bool true],s')/\ax st s'/\jv s' q (oI x)) (run Bd n 404 [.agg (cN x p)] st):=by
 obtain _|n:=n;omega;have Cr:=Ib n x p st hs AC;rw[hr]at Cr;rw[Zb,h.Ur];unfold J5 ZQ bA dZ jx uj oG Zl ZO cV bh gH ZD gj
 try dsimp only
 rw[cU];unfold cN at Cr⊢;simp only[ar,bd,ao];rw[mW,Zj Cr,aA,ao,bU,ae,Ec,Zv];have bj:ax st (st++[some (⟨false,cN x p⟩:aH)]++[some (⟨false,Zm [dX x.seq]⟩:aH)]):=(ax.new _ _).trans (.new _ _);have Qt:Sl (st++[some (⟨false,cN x p⟩:aH)]++[some (⟨false,Zm [dX x.seq]⟩:aH)]) (some ((st++[some (⟨false,cN x p⟩:aH)]).length,0)) (Zm [dX x.seq]):=pY _ _;rw[show(st++[some (⟨false,[.i x.seq,.i x.blocks,.i x.ef,.i x.g,.i x.de,.i x.used,.i x.free,.i x.dir,.slice 1 p x.bg.length]⟩:aH)]++[some (⟨false,[.w (dX x.seq:Int)]⟩:aH)])=st++[some (⟨false,cN x p⟩:aH)]++[some (⟨false,Zm [dX x.seq]⟩:aH)]from rfl,
  show(st++[some (⟨false,[.i x.seq,.i x.blocks,.i x.ef,.i x.g,.i x.de,.i x.used,.i x.free,.i x.dir,.slice 1 p x.bg.length]⟩:aH)]).length=(st++[some (⟨false,cN x p⟩:aH)]).length from rfl]
 generalize st++[some (⟨false,cN x p⟩:aH)]++[some (⟨false,Zm [dX x.seq]⟩:aH)]=s1 at bj Qt;refine Ok.call (Iw n _ [dX x.seq] s1 Qt Do (by show 1+20<=n;omega)) ?_;rintro _ ⟨q1,s2,rfl,nv⟩;refine⟨_,s2,rfl,?_⟩;rw[bd,ao];have e8:df [dX x.seq]=cI (dX x.seq) 8:=by unfold df;simp
 rw[e8]at nv;refine Ok.join λav e1=>?_
 refine Zn _ (λq y s=>∃(i:Nat) (b:ah),y=[.slice 1 b (8+4*i),.i i]/\i<=5/\5-i<=q/\bn s1 s b (aN (cI (dX x.seq) 8++lF 4 ((tW x).take i)))) ?_ 5 n _ _ ⟨0,q1,rfl,AC,AC,by rw[show lF 4 ((tW x).take 0)=[]from rfl,gE];exact nv⟩ AC;rintro q _ s ⟨i,b,rfl,hi,hq,ho⟩ rec aQ;rw[bd,ar,ao];have dY:(aN (cI (dX x.seq) 8++lF 4 ((tW x).take i))).length=(8+4*i)*1:=by
  rw[Zp,cq,ZH,KR,dh,je (by show i<=5;omega)];omega
 by_cases aw:i<5
 .have zk:i<(tW x).length:=aw
  have hg:([.i x.blocks,.i x.ef,.i x.g,.i x.used,.i x.free]:af)[i]? =some (.i (tW x)[i]):=ZN zk;rw[aI (AC:(i:Int)<5),aa,Zg (Zo aw),bw,cL,lq hg,bm,Ec];refine Ok.call (DH n (dX (tW x)[i]) 4 s) ?_;rintro _ ⟨p9,s3,rfl,eC,hf⟩;refine⟨_,s3,rfl,?_⟩;rw[bd,ao];have dG:=kA (β:=af) hf.1;rw[Zp,ZH]at dG;rw[show 4*1=4 from rfl,dG];have⟨b',s',h1,h2⟩:=(ho.mono eC).app (β:=af) (sz:=1) (n:=8+4*i) (m:=4) (lim:=70368744177664) (ds:=aN (cI (dX (tW x)[i]) 4)) EQ dY EQ AC;rw[h2,Zc];refine aQ (5-(i+1)) _ _ AC ⟨i+1,b',rfl,AC,AC,?_⟩;rw[ZlN zk,<-gX,pJ];exact h1
 have:i=5:=AC
 subst this;rw[aK (AC:¬((5:Nat):Int)<5),ae,e1];dsimp only;rw[bd,ao,Zv];have⟨A,hA⟩: ∃A,cI (dX x.seq) 8++lF 4 ((tW x).take 5)=A:=⟨_,rfl⟩;rw[hA]at ho dY;have fI:=ax.new s (some (⟨false,[.i x.de,.i x.dir]⟩:aH));have hof:bn s (s++[some (⟨false,[.i x.de,.i x.dir]⟩:aH)]) (some (s.length,0)) [.i x.de,.i x.dir]:=⟨fI,Do⟩;have oU:=(hs.mono bj).mono (ho.1.trans fI);have dG:=kA (β:=af) oU;rw[show(ints x.bg).length=x.bg.length by simp[ints]]at dG;rw[cL,dG];have⟨r,s4,h1,h2,h3,h4⟩:=hof.Mq (β:=af) (sz:=1) (n:=2) (m:=x.bg.length) (lim:=8796093022208) (ds:=ints x.bg) EQ rfl h0 AC;rw[h4];have hob:bn s1 s4 b (aN A):=by
  refine⟨ho.1.trans h1.1,ho.2.imp id λ⟨j,g1,g2,g3⟩=>⟨j,g1,g2,h1.1.get g3⟩⟩
 have⟨l,Nz⟩: ∃l,x.de::x.dir::x.bg=l:=⟨_,rfl⟩;have eD:Sl s4 r (ints l):=by
  have:=h1.sl;rw[<-Nz];exact this
 have iL:l.length=2+x.bg.length:=by rw[<-Nz,eK,eK];omega
 have M5: ∀j∈aC b,j∉aC r:=λj hj hr=>by
  have g:=h3 j hr;have g2:=fI.len;rcases ho.2 with⟨rfl,_⟩|⟨i',rfl,_,g3⟩
  .cases hj
  .have:=(cF.1 g3).1
   rw[show j=i' from cA.1 hj]at g;have:(s++[some (⟨false,[.i x.de,.i x.dir]⟩:aH)]).length=s.length+1:=Do
   omega
 refine Ok.join λaG e2=>?_
 refine Zn _ (λq y s'=>∃(i:Nat) (b:ah),y=[.slice 1 b (28+2*i),.i i]/\i<=l.length/\l.length-i<=q/\bn s1 s' b (aN (A++lF 2 (l.take i)))/\Sl s' r (ints l)/\∀j∈aC b,j∉aC r) ?_ l.length n _ _ ⟨0,b,rfl,AC,AC,by rw[show lF 2 (l.take 0)=[]from rfl,gE];exact hob,eD,M5⟩ AC;rintro q _ s' ⟨i,b,rfl,hi,hq,ho,eD,M5⟩ rec aQ;rw[bd,ar,ao];have MR:A.length=28:=by rw[<-Zp];omega
 have dY:(aN (A++lF 2 (l.take i))).length=(28+2*i)*1:=by
  rw[Zp,cq,MR,KR,dh,je hi];omega
 by_cases aw:i<l.length
 .obtain⟨i1,o1,rfl⟩:=eD.dP (by simp[ints];omega)
  rw[aI (AC:(i:Int)<((2+x.bg.length:Nat):Int)),aa,aD,Zg (Zo),bw,eD.fj (ZN aw),bm,Ec];refine Ok.call (DH n (dX l[i]) 2 s') ?_;rintro _ ⟨p9,s5,rfl,iA,hf⟩;refine⟨_,s5,rfl,?_⟩;rw[bd,ao];have dG:=kA (β:=af) hf.1;rw[Zp,ZH]at dG;rw[show 2*1=2 from rfl,dG];have⟨b',s6,g1,g2,g3,g4⟩:=(ho.mono iA).Mq (β:=af) (sz:=1) (n:=28+2*i) (m:=2) (lim:=70368744177664) (ds:=aN (cI (dX l[i]) 2)) EQ dY EQ AC;rw[g4,Zc];have Qu:=eD.mono iA;refine aQ (l.length-(i+1)) _ _ AC ⟨i+1,b',rfl,AC,AC,?_,Qu.fx g2 (dF.aC λj hj hm=>M5 j hm hj),λj hj hr=>?_⟩
  .rw[ZlN aw,<-gX,pJ]
   exact g1
  .have:=g3 j hj
   have:=Sl.lt Qu;rw[show j=i1 from cA.1 hr]at*
   omega
 .have:i=l.length:=AC
  subst this;rw[lO]at ho dY;rw[aK (AC:¬(l.length:Int)<((2+x.bg.length:Nat):Int)),ae,e2];dsimp only;rw[bd,ao];have gr:(A++lF 2 l).length=28+2*l.length:=by rw[<-Zp];omega
  have tI:=Zju n 7 x.bg.length b (A++lF 2 l) s' ho.sl;rw[gr]at tI;refine Ok.call tI ?_;rintro _ ⟨q2,s7,rfl,tH,hf⟩;refine⟨_,s7,rfl,?_⟩;rw[bd,aA,ao,ZE];have wC:sd 7 x.bg.length (A++lF 2 l)=oI x:=by
   unfold oI;congr 1;rw[<-hA,<-Nz];unfold CZ tW lF tO;simp
  rw[wC]at hf;exact .mk ⟨q2,_,rfl,ZK ((bj.trans ho.1).trans tH),hf.kp (L8 _ _)⟩
theorem Zt7 {q:ah} {cs:af} (hd:cQ s d b V) (hc:0<V.cs.length) (hf:Fz s q cs):dF [d,b] q:=by
 intro b' o e hm;have⟨all,h1⟩:=hf.2 b' o e;have⟨z,zp,c,p,h0⟩:=hd.out;have⟨_,_,h2⟩:=h0.cell hc;have h3:=h0.hd;rw[dR,cA]at hm;rcases hm with rfl|rfl
 .rw[h1]at h3;cases h3
 .rw[h1]at h2;cases h2
theorem kL.kp (h:kL s) (k:Kp s s'):kL s':=λi b e=>by
 have⟨all,hb⟩: ∃all,b=some ⟨true,all⟩:=by
  rcases i with _|_|_|_|_|_|i
  all_goals first|exact⟨_,(xE e).symm⟩|cases e
 subst hb;exact k i all (h i _ e)
theorem ZqK {x:db} (h:vJ x):0<x.bg.length:=by
 have h1:=h.len;have h2:=uu h.g;rw[Kq h.g]at h1;omega
theorem Zp2 (n i:Nat) (x:db) (p:ah) (st:St) (hd:cQ st d b V) (hw:V.W) (hi:i<2) (h2:2<=V.cs.length/8) (hs:Sl st p (ints x.bg)) (hx:vJ x) (hn:V.cs.length+400<=n):
  Ok (gi st d b V.cs.length (V.lay i (Zy (oI x) 8))) (run Bd n 382 [.ptr (some (d,0)),.i i,.agg (cN x p)] st):=by
 obtain⟨n,rfl⟩: ∃m,n=m+3:=⟨n-3,AC⟩;have iN:=ZoA (n+2) x p st hs (ZqK hx) (Ky hx) ((Zlx x).2 hx) AC;rw[Zb,h.T7];unfold Kg DD aX uj aB dZ ZL Lp Li ZO bh kQ Lb
 try dsimp only
 rw[bF,ar,cU];unfold cN at iN⊢;simp only[ar,bd,ao];rw[Zj (ZkN n hd hw h2),ar,ao,show(!((0:Int)==0))=false from rfl,ae];refine Ok.call iN ?_;rintro _ ⟨q,s1,rfl,bj,hf⟩;refine⟨_,s1,rfl,?_⟩;rw[bd,aA,ao,Zi,bU,ae,aK (AC:¬(i:Int)<0)];dsimp only;rw[aA,ao,Zi,ae,aK (AC:¬(i:Int)>=2)];dsimp only;rw[aA,ao,ae];have wT:=Im (n+2) q (oI x) 8 s1 hf.l9 (by rw[D3 hx]) (by rw[D3 hx];omega);rw[D3 hx]at wT;refine Ok.call wT ?_;rintro _ ⟨r,s2,rfl,bC,jV⟩;refine⟨_,s2,rfl,?_⟩;rw[bd,ao];have hp:=bj.trans bC;have⟨ws,pb⟩: ∃ws,Zy (oI x) 8=ws:=⟨_,rfl⟩;have mB:ws.length=8:=by rw[<-pb,Z1]
 rw[pb]at jV⊢;have iS:=hd.pre hp;refine Ok.mono (P:=gi s2 d b V.cs.length (V.lay i ws)) ?_ λo=>gi.pre (.pre hp)
 have lD:dF [d,b] r:=Zt7 iS AC jV;unfold ay.lay;refine pR (.refl _ _) (ZjP (n+2) i 0 s2 iS hw) λs3 _ k3 d3 w3 l3=>?_
 rw[<-l3];refine pR k3 (ZoV (n+2) i ws r s3 d3 w3 AC mB (jV.kp k3.2).1 lD AC) λs4 _ k4 d4 w4 l4=>?_
 have h4:=(jV.kp k4.2).1;obtain⟨i1,o1,rfl⟩:=h4.dP (by rw[Z8];omega);have hg:(Zm ws)[0]? =some (.w (ws.getD 0 0:Nat)):=by
  unfold Zm;rw[jJ,gF,dt AC];rfl
 rw[aD,Zg FS,h4.get hg,bm,<-l4];exact q8 k4 (ZjP (n+2) i (ws.getD 0 0) s4 d4 w4)
theorem bn.OA {a:ah} {cs:af} (h:bn s0 s a cs) (ds:af) (hz:0<sz) (hn:cs.length=n*sz) (hd:ds.length=sz) (hl:n+1<=lim):
  ∃p s',bn s0 s' p (cs++ds)/\Fx (aC a) s s'/\(∀b∈aC p,s.length<=b)/\∀K:ah->M β,(bH ds λi=>bP i 0 sz λcs'=>cB sz a n cs' 1 lim K) s=K p s':=by
 have⟨p,s',h1,h2,h3,h4⟩:=(h.mono (.new s (some ⟨false,ds⟩))).Mq (β:=β) (ds:=ds) hz hn (vz 0) hl;refine⟨p,s',h1,(Fx.pre _ (.new _ _)).trans h2,λb hb=>?_,λK=>?_⟩
 .have:=h3 b hb
  simp at this;omega
 .rw[Zv,ZM (f:=false) (all:=ds) Do AC,eG,dJ AC]
  exact h4 K
def pX (g s gn:Int):db:=⟨1,g,s,gn,0,0,0,0,ZB 2 ((g.toNat+383)/384)⟩
theorem ZnP {g s gn:Int} (h:kq g s gn=true):vJ (pX g s gn):=by
 have hp:=uu h;refine⟨by show(1:Int)<=1;decide,by show(1:Int)<=_;decide,h,by show(0:Int)<=0;decide,by show(0:Int)<=s;omega,by show(0:Int)<=0;decide,by show(0:Int)<=0;decide,λ_=>rfl,λe=>absurd e (by show ¬(0:Int)<0;decide),λe=>absurd rfl e,?_,λi hi=>?_⟩
 .rw[show(pX g s gn).bg.length=(g.toNat+383)/384 from Z9 _ _]
  exact(Kq h).symm
 .replace hi:i<(ZB 2 ((g.toNat+383)/384)).length:=hi
  rw[Z9]at hi;show jE (pX g s gn) ((ZB 2 _).getD i 0)=true/\(ZB 2 _).getD i 0∉(ZB 2 _).take i;rw[ZpF _ _ _ hi];constructor
  .unfold jE
   rw[aI AC,aa];exact aI (by show((2+i:Nat):Int)<g;omega)
  .intro hm
   have⟨k,hk,e⟩:=List.mem_take_iff_getElem.1 hm;unfold ZB at e;rw[List.getElem_map,List.getElem_range]at e;omega
def ay.fmt (V:ay) (g s gn:Int):ay×Int:=
 bif !kq g s gn then(V,22)else bif decide (((V.cs.length/8:Nat):Int)<g)then(V,2)else
 cZ V.yH λV=>cZ (V.oe (sV g.toNat (ZB 0 ((g.toNat+383)/384+2))) (ZB 2 ((g.toNat+383)/384))) λV=>V.lay 0 (Zy (oI (pX g s gn)) 8)
theorem Zud {W:al} (hk:k<m) (h: ∀b,ey W b=true↔b<k):MO m W=(k:Int):=by
 have key: ∀j a,a+j=m->a<=k->yS W j a=(k:Int):=by
  intro j;induction j with
  |zero=>intro a e ha;omega
  |succ j ih=>
   intro a e ha;unfold yS;by_cases e2:a=k
   .subst e2
    have:ey W a=false:=by
     cases e3:ey W a with
     |false=>rfl
     |true=>have:=(h a).1 e3;omega
    rw[this];rfl
   .rw[(h a).2 AC,aa]
    exact ih (a+1) AC AC
 exact key m 0 AC AC
theorem Zix (hz:uq Bd) (n:Nat) (g gs gn:Int) (st:St) (ht:kL st) (hd:cQ st d b V) (hw:V.W) (hn:V.cs.length+8000<=n):
  Ok (gi st d b V.cs.length (V.fmt g gs gn)) (run Bd n 356 [.ptr (some (d,0)),.agg [.i g,.i gs,.i gn]] st):=by
 obtain⟨n,rfl⟩: ∃m,n=m+3:=⟨n-3,AC⟩;have⟨z,zp,c,p,h0⟩:=hd.out;rw[Zb,h.TS];unfold IA pK bA nR aX iH ZQ ZA bQ C_ Li p6 Lp gH lu Ah cP jM ZO ay.fmt
 try dsimp only
 rw[bF,cU];simp only[ar,ao];rw[pF,ae,Zj (Iy (n+1) g gs gn st),aA,ao];cases hg:kq g gs gn with
 |false=>exact .mk ⟨st,rfl,.refl _ _,hd,hw,rfl⟩
 |true=>
 have hgp:=uu hg;obtain⟨m,rfl⟩: ∃m:Nat,g=(m:Int):=⟨g.toNat,AC⟩;rw[bU,ae,ae,vU (Dz (n+1) d st h0.hd h0.hz hw.cn),ar,ao];by_cases aw:((V.cs.length/8:Nat):Int)<(m:Int)
 .rw[aI aw]
  exact .mk ⟨st,rfl,.refl _ _,hd,hw,rfl⟩
 rw[aK aw,ae,ae,bw];refine pR (.refl _ _) (Zn4 (n+2) st hd hw AC AC) λs1 _ k1 d1 w1 l1=>?_
 generalize V.yH.1=U at d1 w1 l1⊢;have hUl:0<U.cs.length:=AC
 have⟨K,hK⟩: ∃K,(m+383)/384=K:=⟨_,rfl⟩;rw[Zv];have jZ:=ax.new s1 (some (⟨false,ints [0,1]⟩:aH));have Qs:Sl (s1++[some (⟨false,ints [0,1]⟩:aH)]) (some (s1.length,0)) (ints [0,1]):=pY s1 _;rw[show(s1++[some (⟨false,[.i 0,.i 1]⟩:aH)])=s1++[some (⟨false,ints [0,1]⟩:aH)]from rfl];generalize (s1++[some (⟨false,ints [0,1]⟩:aH)])=s2 at jZ Qs;have⟨s3,cm,eC,u2,bN⟩:=xS (n+2) m [0,1] (some (s1.length,0)) s2 AC Qs Do (by show 2+4<=n+2;omega);have oX:s1.length<=s2.length:=jZ.len;rw[show([0,1]:ak).length=2 from rfl]at cm;rw[Zj cm,bF,ao,Zj (Zii n m gs gn s3),ar,ao,Kq hg,bw,hK];have zu:=jZ.trans eC;have⟨i,hi⟩: ∃i,s2.length+1=i:=⟨_,rfl⟩;have⟨j,hj⟩: ∃j,s2.length=j:=⟨_,rfl⟩;rw[hi,hj]at bN;rw[hi];refine Ok.join λav e1=>?_
 refine Zn _ (λq y s=>∃(k z:Nat) (r:ah) (W:al),y=[.agg [.i 1,.i m,.i gs,.i gn,.i 0,.i 0,.i 0,.i 0,.slice z r k],.i k]/\(z=1\/r=none)/\k<=K/\K-k<=q/\bn s1 s r (ints (ZB 2 k))/\dT s false i j m W/\(∀b,ey W b=true↔b<k+2)/\i∉aC r/\j∉aC r) ?_ K (n+2) _ _ ⟨0,0,none,_,rfl,.inr rfl,AC,AC,bn.nil zu,bN,λb=>?_,by simp[aC],by simp[aC]⟩ AC;rotate_left
 .rw[ZtR]
  simp;omega
 rintro q _ s ⟨k,z,r,W,rfl,iV,hk,hq,ho,hs,hW,hir,hjr⟩ rec aQ;rw[cU];simp only[ar,Zr 1 z r _ iV,ao];by_cases aw:k<K
 .have PY:=Zp9 (n+2) s hs AC
  rw[Zud (AC:k+2<m) hW]at PY;rw[aI (AC:(k:Int)<(K:Int)),aa,Zj PY,ar,ao,Zv];have NM:=ax.new s (some (⟨false,ints [((k+2:Nat):Int)]⟩:aH));have Qv:Sl (s++[some (⟨false,ints [((k+2:Nat):Int)]⟩:aH)]) (some (s.length,0)) (ints [((k+2:Nat):Int)]):=pY s _;rw[show(s++[some (⟨false,[.i ((k+2:Nat):Int)]⟩:aH)])=s++[some (⟨false,ints [((k+2:Nat):Int)]⟩:aH)]from rfl];have BW:j<s.length:=(cF.1 hs.wd).1;generalize (s++[some (⟨false,ints [((k+2:Nat):Int)]⟩:aH)])=s4 at NM Qv;have wQ:=hs.pre NM;have BG:=Aq (n+2) [((k+2:Nat):Int)] (some (s.length,0)) s4 wQ AC Qv (λb' o e hm=>by cases e;rw[cA]at hm;omega) Do (by show 1+3<=n+2;omega);rw[show[((k+2:Nat):Int)].length=1 from rfl]at BG;rw[Zj BG,ao];have hs5:=wQ.add AC ([((k+2:Nat):Int)].foldl (ej m) W) (qW m _ W).1 ((qW m _ W).2 wQ.lt);have zr:bn s1 (s4.set j (some ⟨false,Zm ([((k+2:Nat):Int)].foldl (ej m) W)⟩)) r (ints (ZB 2 k)):=by
   have h4:=ho.mono NM;refine⟨kP h4.1 AC _,h4.2.imp id λ⟨x,g1,g2,g3⟩=>⟨x,g1,g2,?_⟩⟩;rw[cz (λe=>hjr (by rw[g1,e];simp[aC]))];exact g3
  have⟨r',s6,g1,g2,g3,g4⟩:=zr.OA (β:=af) (sz:=1) (n:=k) (lim:=8796093022208) [.i ((k+2:Nat):Int)] AC (by rw[show(ints (ZB 2 k)).length=(ZB 2 k).length by simp[ints],Z9,cL]) rfl AC;rw[g4,Zc];have hl5:(s4.set j (some (⟨false,Zm ([((k+2:Nat):Int)].foldl (ej m) W)⟩:aH))).length=s4.length:=kH;have kW:i<s4.length:=(cF.1 wQ.hd).1;have W7:j<s4.length:=(cF.1 wQ.wd).1;refine aQ (K-(k+1)) _ _ AC ⟨k+1,1,r',_,rfl,.inl rfl,AC,AC,?_,hs5.fx g2 hir hjr,λb'=>?_,λhm=>?_,λhm=>?_⟩
  .rw[JT,oz 2 k]
   unfold ints at g1⊢;rw[fb];exact g1
  .rw[List.foldl_cons,List.foldl_nil,ym hs.len,kb,hW,aZ,bD]
   unfold iY;rw[aZ,bD,bD];omega
  .have:=g3 i hm;omega
  .have:=g3 j hm;omega
 .have:k=K:=AC
  subst this;rw[aK (AC:¬(k:Int)<(k:Int)),ae,e1];dsimp only;rw[cU];simp only[ar,Zr 1 z r _ iV,ao];have hlk:(ZB 2 k).length=k:=Z9 _ _;have hlw:=ZpT hW;have lD:dF [d,b] r:=Zqo (s:=s1) (T:=[d,b]) (λx hx=>by
   rw[dR,cA]at hx;rcases hx with e|e
   .rw[e];exact d1.lt
   .rw[e];exact d1.blt hUl) λx hx=>by
    rcases ho.2 with⟨rfl,_⟩|⟨y,rfl,g,_⟩
    .cases hx
    .rw[show x=y from cA.1 hx];exact g
  have oU:=ZlP hz (n+2) (a:=r) (ats:=ZB 2 k) s ((ht.kp k1.2).mono ho.1) hs AC (λb hb=>by have:=(hW b).1 hb;omega) (d1.pre ho.1) w1 ho.sl (by rw[hlk,hK]) (λx hx=>by have:=Kz hx;omega) lD AC;rw[hlk,hlw,<-hK]at oU;have zg:=k1.trans (.pre ho.1);rw[<-hK]at ho⊢;refine Ok.mono (P:=gi s d b U.cs.length _) ?_ λo hq=>l1▸gi.pre zg hq
  refine pR (.refl _ _) oU λs7 _ k7 d7 w7 l7=>?_
  rw[<-l7];have hL:=Zp2 (n+2) 0 (pX m gs gn) r s7 d7 w7 EQ AC (Sl.fx ho.sl k7.1 lD) (ZnP hg) AC;rw[show cN (pX (m:Int) gs gn) r=[.i 1,.i m,.i gs,.i gn,.i 0,.i 0,.i 0,.i 0,.slice 1 r ((m+383)/384)]from by
   unfold cN;rw[show(pX (m:Int) gs gn).bg.length=(m+383)/384 from Z9 _ _];rfl]at hL
  exact q8 k7 hL
def ay.arm (V:ay) (n:Int):ay:=bif V.off then V else { V with fN:=decide (n>=0),left:=n,off:=n==0 }
def ay.zJ (V:ay) (l:ak):ay:= { V with bT:=l,at_:=0 }
theorem ay.W.arm (h:V.W) {n:Int} (hn: -4611686018427387904<=n/\n<4611686018427387904):(V.arm n).W:=by
 unfold ay.arm;cases V.off with
 |true=>exact h
 |false=>
  refine⟨h.ai,h.pn,h.cn,λe f=>?_,hn⟩;have h1:n>=0:=oA e;have h2:=iG.1 f;show 0<n;omega
theorem ay.W.zJ (h:V.W) {l:ak} (hl:l.length<1000000):(V.zJ l).W:=⟨λe=>DM e,hl,h.cn,h.lf,h.lr⟩
theorem Zsi {cs:List aU} (h:cs.length<1000000):(mg cs).W:=⟨λe=>absurd (show true=false from e) EQ,by show 0<1000000;decide,h,λe=>absurd (show false=true from e) EQ,by show-4611686018427387904<=(0:Int)/\(0:Int)<4611686018427387904;decide⟩
theorem ZnQ (n:Nat) (x:Int) (st:St) (hd:cQ st d b V):
  ∃s',run Bd (n+1) 359 [.ptr (some (d,0)),.i x] st=some (.val [],s')/\Fk [d,b] st s'/\cQ s' d b (V.arm x):=by
 have⟨z,zp,c,p,h0⟩:=hd.out;rw[Zb,h.TV];unfold HP gy lW Lb Li ay.arm
 try dsimp only
 rw[bF,ar,ao,aD,Zf h0.hd (d:= .bool V.off) rfl,qQ];cases V.off with
 |true=>exact⟨st,rfl,.refl _ _,hd⟩
 |false=>
  rw[ae,ae,aD,Zs h0.hd (by show 4<7;decide),aD];have h1:=h0.ou { V with fN:=decide (x>=0) } rfl rfl;have k1:=h0.fk (some ⟨false,gm z zp c p { V with fN:=decide (x>=0) }⟩);rw[show(gm z zp c p V).set (0+4) (.bool (decide (x>=0)))=gm z zp c p { V with fN:=decide (x>=0) } from rfl];generalize st.set d (some ⟨false,gm z zp c p { V with fN:=decide (x>=0) }⟩)=s1 at h1 k1;rw[Zs h1.hd (by show 5<7;decide),aD];have h2:=h1.ou { V with fN:=decide (x>=0),left:=x } rfl rfl;have k2:=k1.trans (h1.fk (some ⟨false,gm z zp c p { V with fN:=decide (x>=0),left:=x }⟩));rw[show(gm z zp c p { V with fN:=decide (x>=0) }).set (0+5) (.i x)=gm z zp c p { V with fN:=decide (x>=0),left:=x } from rfl];generalize s1.set d (some ⟨false,gm z zp c p { V with fN:=decide (x>=0),left:=x }⟩)=s2 at h2 k2;rw[Zs h2.hd (by show 3<7;decide),Zh];exact⟨_,rfl,k2.trans (h2.fk _),(h2.ou { V with fN:=decide (x>=0),left:=x,off:=x==0 } rfl rfl).dev⟩
theorem Zpg (n:Nat) (l:ak) (a:ah) (st:St) (ha:Sl st a (ints l)) (hl:l.length<100000):
  Ok (λo=>∃z p s',o=(.val [.slice z p l.length],s')/\(z=1\/p=none)/\ax st s'/\Fz s' p (ints l)) (run Bd (n+1) 379 [.slice 1 a l.length] st):=by
 rw[Zb,h.T4];unfold HE bG bh
 try dsimp only
 rw[bd,ao,mW];have kW:(ints l).length=l.length:=by simp[ints]
 cases a with
 |none=>
  have e:ints l=[]:=ha;rw[e]at kW;rw[Option.isNone_none,aa,ZE,e,<-kW];exact .mk ⟨0,none,_,rfl,.inr rfl,ZK (.refl st),Fz.nil _⟩
 |some q=>
  rw[pF,ae,Zv];have hp:=ax.new st (some (⟨false,[]⟩:aH));have dG:=kA (β:=af) (ha.mono hp);rw[kW]at dG;rw[cL,dG];have wN:bn st (st++[some (⟨false,[]⟩:aH)]) (some (st.length,0)) []:=⟨hp,Do⟩;by_cases h0:l.length=0
  .have e:ints l=[]:=vv AC
   rw[e,h0,show(cB 1 (some (st.length,0)) 0 ([]:af) 0 8796093022208:(ah->M af)->M af)=λK=>K (some (st.length,0))from rfl];dsimp only;rw[ZE];exact .mk ⟨1,_,_,rfl,.inl rfl,ZK hp,wN.fz⟩
  .have⟨p,s',h1,h2⟩:=wN.app (β:=af) (sz:=1) (n:=0) (m:=l.length) (lim:=8796093022208) (ds:=ints l) EQ rfl AC AC
   rw[h2,ZE,ei];exact .mk ⟨1,p,_,rfl,.inl rfl,ZK h1.1,h1.fz⟩
theorem Zmr (n:Nat) (l:ak) (a:ah) (st:St) (hd:cQ st d b V) (ha:Sl st a (ints l)) (hl:l.length<100000):
  Ok (λo=>∃s',o=(.val [],s')/\Fk [d,b] st s'/\cQ s' d b (V.zJ l)) (run Bd (n+2) 354 [.ptr (some (d,0)),.slice 1 a l.length] st):=by
 rw[Zb,h.TQ];unfold H0 bG dZ bh gj
 try dsimp only
 rw[bF,bd,ao];refine Ok.call (Zpg n l a st ha hl) ?_;rintro _ ⟨z1,p1,s1,rfl,iV,bj,hf⟩;refine⟨_,s1,rfl,?_⟩;rw[Zr 1 z1 p1 _ iV,ao,aD];have⟨z,zp,c,p,h0⟩:=(hd.pre bj).out;rw[AX h0.hd (by show 0+1+2<=7;decide),Zh];refine .mk ⟨_,rfl,(Fk.pre bj).trans (h0.fk _),z,1,c,p1,eJ h0.lt,h0.hz,.inl rfl,hf.kp (Kp.set h0.hd _),?_⟩;rcases h0.cl with e|⟨e1,e2,e3⟩
 .exact .inl e
 .exact .inr ⟨e1,e2,by rw[cz AC];exact e3⟩
theorem Zl7 (n:Nat) (st:St) (hd:cQ st d b V):run Bd (n+1) 374 [.ptr (some (d,0))] st=some (.val [.i (aq V.steps)],st):=by
 have⟨z,zp,c,p,h0⟩:=hd.out;rw[Zb,h.T1];unfold Hy ck Zl Li
 try dsimp only
 rw[bF,ao,aD,Zf h0.hd (d:= .i (aq V.steps)) rfl,bm,Zh]
def LQ (Bd:Ze) (g:Nat) (f:aU->Nat):Prop:=∀(n:Nat) (st:St) (b i:Nat) (cs:List aU) (x:aU) (fz:Bool),st[b]? =some (some ⟨fz,ZG cs⟩)->cs[i]? =some x->run Bd (n+1) g [.ptr (some (b,i*4))] st=some (.val [.w (f x:Nat)],st)
theorem Zrf:LQ Bd 393 aU.l:=by
 intro n st b i cs x fz hb hx;rw[Zb,h.Ug];unfold HF ck ZL cV
 try dsimp only
 rw[bF,ao,aD,Zf hb (show(ZG cs)[i*4]? =_ from(ux (k:=0) EQ hx).trans rfl),bm,Zh]
theorem ZrO:LQ Bd 397 aU.s:=by
 intro n st b i cs x fz hb hx;rw[Zb,h.Uj];unfold HH ck ZL cV
 try dsimp only
 rw[bF,ao,aD,Zf hb ((ux EQ hx).trans rfl),bm,Zh]
theorem ZgT (n g:Nat) (f:aU->Nat) (hf:LQ Bd g f) (st:St) (hd:cQ st d b V) (hw:V.W) (hn:V.cs.length+40<=n:=by omega):
  Ok (λo=>∃p s',o=(.val [.slice 1 p (8*V.cs.length)],s')/\bn st s' p (aN (df (V.cs.map f)))) (run Bd n 392 [.ptr (some (d,0)),.func g [] []] st):=by
 obtain⟨n,rfl⟩: ∃m,n=m+2:=⟨n-2,AC⟩;have jj:=hw.cn;have⟨z,zp,c,p,h0⟩:=hd.out;rw[Zb,h.Uf];unfold Hp Q_ dZ bY N_ kR cV bh Lp Li
 try dsimp only
 rw[bF,show ∀K:Nat->af->af->af->M af,Bo [.func g [] []] K=K g [] [] []from λK=>rfl,ao,aD,Zf h0.hd (d:= .slice z c V.cs.length) rfl,Zu 4 z _ _ h0.hz,Zg (by rw[aZ,aZ,bD,bD,bD];omega),bw,qZ,Zv,aD];have bj:=ax.new st (some (⟨false,List.replicate V.cs.length (.w 0)⟩:aH));have h1:=(hd.pre bj);have g1:=h0.fx (T:=[]) (.pre bj) Do Do;rw[Zf g1.hd (d:= .slice z c V.cs.length) rfl,Zu 4 z _ _ h0.hz];refine Ok.join λav e1=>?_
 refine Zn _ (λq y s=>∃i:Nat,y=[.i i]/\i<=V.cs.length/\V.cs.length-i<=q/\s=st++[some ⟨false,Zm ((V.cs.take i).map f)++List.replicate (V.cs.length-i) (.w 0)⟩]) ?_ V.cs.length (n+1) _ _ ⟨0,rfl,AC,AC,by simp[Zm]⟩ AC;rintro q _ s ⟨i,rfl,hi,hq,rfl⟩ rec aQ;rw[ar,ao];have mB:(Zm ((V.cs.take i).map f)).length=i:=by rw[Z8,dE,dh];omega
 have qw:=ax.new st (some (⟨false,Zm ((V.cs.take i).map f)++List.replicate (V.cs.length-i) (.w 0)⟩:aH));by_cases aw:i<V.cs.length
 .have gs:=h0.fx (T:=[]) (.pre qw) Do Do
  have⟨hc,_,eM⟩:=gs.cell AC;subst hc;have hx:=yF aw;rw[aI (AC:(i:Int)<(V.cs.length:Int)),aa,aD,Zf gs.hd (d:= .slice z (some (b,0)) V.cs.length) rfl,Zu 4 z _ _ h0.hz,aD,Zg (Zo aw),bw,dK (i*4),show([]++[DV.ptr (some (b,i*4))]++[]:af)=[.ptr (some (b,i*4))]from rfl,Zj (hf n _ b i V.cs _ false eM hx),ar,ao,Zg (Zo aw),cL,AM _ (by rw[cq,mB,qO];omega),Ll mB aw,Zc];refine aQ (V.cs.length-(i+1)) _ _ AC ⟨i+1,rfl,AC,AC,?_⟩;rw[xy,hx,fb,Kl];rfl
 .have:i=V.cs.length:=AC
  subst this;rw[aK (AC:¬(V.cs.length:Int)<(V.cs.length:Int)),ae,e1];dsimp only;rw[ao,lO,mO,List.replicate_zero,gE];have eD:=pY st (Zm (V.cs.map f));have NN:=ax.new st (some (⟨false,Zm (V.cs.map f)⟩:aH));generalize (st++[some (⟨false,Zm (V.cs.map f)⟩:aH)])=s2 at eD NN;have ho:=Iw (n+1) (some (st.length,0)) (V.cs.map f) s2 eD (by rw[dE];omega) (by rw[dE];omega);rw[dE]at ho;refine Ok.call ho ?_;rintro _ ⟨q2,s3,rfl,hf⟩;refine⟨_,s3,rfl,?_⟩;rw[bd,ao,Zh];exact .mk ⟨q2,s3,rfl,NN.trans hf.1,hf.2.imp id λ⟨j,a1,a2,a3⟩=>⟨j,a1,fF NN.len a2,a3⟩⟩
theorem Zig (n:Nat) (st:St) (hd:cQ st d b V) (hw:V.W) (hn:V.cs.length+50<=n:=by omega):
  Ok (λo=>∃p s',o=(.val [.slice 1 p (8*V.cs.length)],s')/\bn st s' p (aN (df (V.cs.map aU.s)))) (run Bd n 372 [.ptr (some (d,0))] st):=by
 obtain _|n:=n;omega;rw[Zb,h.T0];unfold HT ck dZ bh
 try dsimp only
 rw[bF,ao];refine Ok.call (ZgT n 397 aU.s (ZrO) st hd hw) ?_;rintro _ ⟨q,s1,rfl,ho⟩;refine⟨_,s1,rfl,?_⟩;rw[bd,ao,Zh];exact .mk ⟨q,s1,rfl,ho⟩
theorem ZlT (n:Nat) (st:St) (hd:cQ st d b V) (hw:V.W) (hn:V.cs.length+50<=n):
  Ok (λo=>∃p s',o=(.val [.slice 1 p (8*V.cs.length)],s')/\bn st s' p (aN (df (V.cs.map aU.l)))) (run Bd n 364 [.ptr (some (d,0))] st):=by
 obtain _|n:=n;omega;rw[Zb,h.TY];unfold Hs ck dZ bh
 try dsimp only
 rw[bF,ao];refine Ok.call (ZgT n 393 aU.l (Zrf) st hd hw) ?_;rintro _ ⟨q,s1,rfl,ho⟩;refine⟨_,s1,rfl,?_⟩;rw[bd,ao,Zh];exact .mk ⟨q,s1,rfl,ho⟩
theorem ZpN (n k:Nat) (st:St) (hk:k<=4096):
  ∃s',run Bd (n+1) 377 [.i k] st=some (.val [.ptr (some (st.length+1,0)),.i 0],s')/\ax st s'/\cQ s' (st.length+1) st.length (mg (List.replicate (k*8) c0)):=by
 rw[Zb,h.T2];unfold K0 bQ aB cP Lb
 try dsimp only
 have e8:aq ((k:Int)*8)=((k*8:Nat):Int):=by
  rw[show(k:Int)*8=((k*8:Nat):Int) by omega];exact Zc
 rw[ar,ao,Zi,aK (AC:¬(k:Int)<0),ae,aK (AC:¬(k:Int)>4096)];dsimp only;rw[aA,ao,ae,e8,Zg (by rw[aZ,aZ,bD,bD,bD];omega),bw,Zv,Zv,Zh];have VE:fp (k*8) [.w 0,.w 0,.w 0,.bool false]=ZG (List.replicate (k*8) c0):=by
  unfold ZG;rw[List.map_replicate];rfl
 rw[VE];have hp:=(ax.new st (some (⟨false,ZG (List.replicate (k*8) c0)⟩:aH))).trans (.new _ (some ⟨false,[.slice 4 (some (st.length,0)) (k*8),.slice 0 none 0,.i 0,.bool false,.bool false,.i 0,.i 0]⟩));refine⟨_,Do,hp,4,0,some (st.length,0),none,?_,.inl rfl,.inr rfl,Fz.nil _,.inr ⟨rfl,AC,?_⟩⟩
 .rw[iO Do]
  simp[gm,mg,aq];decide
 .rw[lj Do]
  simp;rfl
end Go.Gv.F
