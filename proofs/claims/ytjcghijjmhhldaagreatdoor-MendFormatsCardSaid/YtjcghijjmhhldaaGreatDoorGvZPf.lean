/- States: in memory; which ones may be; small functions over them. -/
import Derived.Test.YtjcghijjmhhldaaGreatDoorGvZPe
set_option linter.all false
namespace Go.Gv.F
open Go.Gv
structure eL where
 slot:Int
 gen:Int
 key:Int
 value:Int
structure kJ where
 name:aj
 oP:List eL
structure Ds where
 blocks:Int
 ef:Int
 g:Int
 bI:List kJ
 dp:ak
 free:ak
def qd (e:eL):af:=[.i e.slot,.i e.gen,.i e.key,.i e.value]
def eY (l:List eL):af:=(l.map qd).flatten
theorem pM (l:List eL):(eY l).length=l.length*4:=by
 unfold eY;induction l with
 |nil=>rfl
 |cons e l ih=>rw[pC,zZ,cq,ih,eK];show 4+_=_;omega
theorem ZnL (l m:List eL):eY (l++m)=eY l++eY m:=by
 simp[eY]
def rK (h:kJ) (z:Nat) (p:ah):af:=[.str h.name,.slice z p h.oP.length]
def oD (s:St):af->List kJ->Prop
 |ds,[]=>ds=[]
 |ds,x::r=>∃z p t,(z=4\/p=none)/\ds=rK x z p++t/\Sl s p (eY x.oP)/\oD s t r
theorem ya (x:kJ) (z:Nat) (p:ah):(rK x z p).length=2:=rfl
theorem Zu {β:Type} (sz z:Nat) (a:ah) (n:Nat) (h:z=sz\/a=none) (K:ah->Nat->M β):bJ sz (.slice z a n) K=K a n:=by
 rcases h with rfl|rfl
 .exact eH _ _ _ _
 simp
theorem oD.len {s:St} : ∀ {ds:af} {xs:List kJ},oD s ds xs->ds.length=xs.length*2
 |ds,[],h=>by rw[show ds=[]from h];rfl
 |ds,x::r,⟨z,p,t,_,h1,_,h3⟩=>by rw[h1,cq,h3.len,ya,eK];omega
theorem oD.get {s:St} : ∀ {ds:af} {xs:List kJ},oD s ds xs->∀ {j:Nat} {x:kJ},xs[j]? =some x->∃z p,(z=4\/p=none)/\(ds.drop (j*2)).take 2=rK x z p/\ds[j*2]? =some (.str x.name)/\ds[j*2+1]? =some (.slice z p x.oP.length)/\Sl s p (eY x.oP)
 |_,[],_,j,x,e=>by simp at e
 |ds,y::r,⟨zq,q,t,hzq,h1,h2,h3⟩,0,x,e=>by
  simp only[jI,eO]at e;subst e;subst h1;exact⟨zq,q,hzq,rfl,rfl,rfl,h2⟩
 |ds,y::r,⟨zq,q,t,hzq,h1,h2,h3⟩,j+1,x,e=>by
  have⟨z,p,hz,g1,g2,g3,g4⟩:=h3.get (j:=j) (x:=x) (by simpa using e);refine⟨z,p,hz,?_,?_,?_,g4⟩
  .rw[h1,show(j+1)*2=(rK y zq q).length+j*2 by rw[ya];omega,<-kd,List.drop_left]
   exact g1
  .rw[h1,iO (by rw[ya];omega),ya,show(j+1)*2-2=j*2 by omega]
   exact g2
  .rw[h1,iO (by rw[ya];omega),ya,show(j+1)*2+1-2=j*2+1 by omega]
   exact g3
def jH (x:Ds) (z1:Nat) (p1:ah) (z2:Nat) (p2:ah) (z3:Nat) (p3:ah):af:=
 [.i x.blocks,.i x.ef,.i x.g,.slice z1 p1 x.bI.length,.slice z2 p2 x.dp.length,.slice z3 p3 x.free.length]
structure StR (s:St) (x:Ds) (p1 p2 p3:Option (Nat×Nat)):Prop where
 hp: ∃ds,Sl s p1 ds/\oD s ds x.bI
 gn:Sl s p2 (ints x.dp)
 fr:Sl s p3 (ints x.free)
def kq (b s g:Int):Bool:=decide (b>=16)&&(decide (b<=3072)&&(decide (s>=1)&&(decide (s<=1792)&&(decide (g>=1)&&decide (g<=4294967295)))))
def yB (a b:eL):Bool:=if a.key≠b.key then decide (a.key<b.key)else if a.slot≠b.slot then decide (a.slot<b.slot)else decide (a.gen<b.gen)
theorem ZlX (b s g:Int) (st:St) (X:Zd->Nat->af->M af) (hX: ∀c n,X c n [.agg [.i b,.i s,.i g]] st=Aw c n [.agg [.i b,.i s,.i g]] st) (c:Zd) (n:Nat):
  X c n [.agg [.i b,.i s,.i g]] st=some (.val [.bool (kq b s g)],st):=by
 rw[hX];unfold Aw pK aB Lb kq;simp only[cU,ar,ao];cases decide (b>=16)with
 |false=>simp only[Zi,ae,aA,ao];rfl
 |true=>
 cases decide (b<=3072)with
 |false=>simp only[Zi,ae,aa,aA,ao];rfl
 |true=>
 cases decide (s>=1)with
 |false=>simp only[Zi,ae,aa,aA,ao];rfl
 |true=>
 cases decide (s<=1792)with
 |false=>simp only[Zi,ae,aa,aA,ao];rfl
 |true=>
 cases decide (g>=1)with
 |false=>simp only[Zi,ae,aa,aA,ao];rfl
 |true=>
  simp only[Zi,aa,aA,ao];rfl
variable {Bd:Ze} [h:HA Bd]
theorem Iy (n:Nat) (b s g:Int) (st:St):run Bd (n+1) 145 [.agg [.i b,.i s,.i g]] st=some (.val [.bool (kq b s g)],st):=by
 rw[Zb,h.RV];exact ZlX b s g st Aw (λ_ _=>rfl) _ _
theorem Zm6 (n:Nat) (b s g:Int) (st:St):run Bd (n+1) 141 [.agg [.i b,.i s,.i g]] st=some (.val [.bool (kq b s g)],st):=by
 rw[Zb,h.RU];exact ZlX b s g st IP (λ_ _=>rfl) _ _
def eX (x y:Int):Int:=if x<y then-1 else if x>y then 1 else 0
theorem Ku {Bd:Ze} (h:Ai Bd) (n:Nat) (x y:Int) (st:St):run Bd (n+2) 161 [.i x,.i y] st=some (.val [.i (eX x y)],st):=by
 have e: ∀z:Int,run Bd (n+1) 163 [.i z] st=some (.val [.bool false],st):=by
  intro z;rw[Zb,h.q1.eq];unfold Ak bQ Lb
  try dsimp only
  simp[ar,ao,Ad,bU,Zh]
 rw[Zb,h.eq];unfold Aj bQ bA Li eX;simp only[ar,ao];rw[Zj (e x),aA,ao,Zj (e y),aA,ao,ae];by_cases h1:x<y
 .rw[aI h1,aa,bO h1];rfl
 .rw[aK h1,ae,cG h1]
  by_cases h2:x>y
  .rw[aI h2,aa,bO h2];rfl
  .rw[aK h2,ae,cG h2];rfl
theorem Pv {Bd:Ze} (h:xK Bd) (n:Nat) (hn:8<=n) (a b:eL) (st:St):
  Ok (λo=>∃z s',o=(.val [.i z],s')/\ax st s'/\decide (z>=0)= !yB a b) (run Bd n 159 [.agg (qd a),.agg (qd b)] st):=by
 obtain⟨n,rfl⟩: ∃m,n=m+3:=⟨n-3,AC⟩;rw[Zb,h.eq];unfold Am oH nR aX gH sI bh Li qd;simp only[cU,ar,ao];rw[vU (Ku h.q0 n a.key b.key st),ar,ao,vU (Ku h.q0 n a.slot b.slot st),ar,ao,Zj (Ku h.q0 n a.gen b.gen st),ar,ao,Zv];have hp:=ax.new st (some ⟨false,[DV.int .i64 (eX a.key b.key),.i (eX a.slot b.slot),.i (eX a.gen b.gen)]⟩);have hs:Sl (st++[some ⟨false,[DV.int .i64 (eX a.key b.key),.i (eX a.slot b.slot),.i (eX a.gen b.gen)]⟩]) (some (st.length,0)) [DV.int .i64 (eX a.key b.key),.i (eX a.slot b.slot),.i (eX a.gen b.gen)]:=pY st _;generalize (st++[some ⟨false,[DV.int .i64 (eX a.key b.key),.i (eX a.slot b.slot),.i (eX a.gen b.gen)]⟩])=s1 at hp hs;have NJ:run Bd (n+2) 162 [.slice 1 (some (st.length,0)) 3] s1=some (.val [.i (if eX a.key b.key≠0 then eX a.key b.key else if eX a.slot b.slot≠0 then eX a.slot b.slot else eX a.gen b.gen)],s1):=by
  rw[Zb,h.q2.eq];unfold Av bG Q_ bY Zw Li
  try dsimp only
  obtain⟨n,rfl⟩: ∃m,n=m+5:=⟨n-5,AC⟩;rw[bd,ao,Zi];have step: ∀(m i:Nat) (z:Int) (R:Option (Out af×St)),i<3->[DV.int .i64 (eX a.key b.key),.i (eX a.slot b.slot),.i (eX a.gen b.gen)][i]? =some (.i z)->
    (z≠0->R=some (.val [.i z],s1))->∀(F:(af->M af)->af->M af),True:=Do
  clear step;have ld: ∀(i:Nat) (d:DV) (K:DV->M af),[DV.int .i64 (eX a.key b.key),.i (eX a.slot b.slot),.i (eX a.gen b.gen)][i]? =some d->bc st.length (i*1+0) K s1=K d s1:=λi d K hd=>hs.fj hd K
  rw[pN,ar,ao,show decide ((0:Int)<((3:Nat):Int))=true from rfl,aa,aD,Zg FS,show(0:Int).toNat=0 from rfl,ld 0 _ _ rfl,bm];by_cases c1:eX a.key b.key=0
  .have e1:(eX a.key b.key==0)=true:=by rw[c1];rfl
   rw[e1,bU,ae,cG (by simp[c1]),pN,ar,ao,show aq ((0:Int)+1)=1 from Zc,show decide ((1:Int)<((3:Nat):Int))=true from rfl,aa,aD,Zg FS,show(1:Int).toNat=1 from rfl,ld 1 _ _ rfl,bm];by_cases c2:eX a.slot b.slot=0
   .have e2:(eX a.slot b.slot==0)=true:=by rw[c2];rfl
    rw[e2,bU,ae,cG (by simp[c2]),pN,ar,ao,show aq ((1:Int)+1)=2 from Zc,show decide ((2:Int)<((3:Nat):Int))=true from rfl,aa,aD,Zg FS,show(2:Int).toNat=2 from rfl,ld 2 _ _ rfl,bm];by_cases c3:eX a.gen b.gen=0
    .have e3:(eX a.gen b.gen==0)=true:=by rw[c3];rfl
     rw[e3,bU,ae,pN,ar,ao,show aq ((2:Int)+1)=3 from Zc,show decide ((3:Int)<((3:Nat):Int))=false from rfl,ae,c3];rfl
    .have e3:(eX a.gen b.gen==0)=false:=iG.2 c3
     rw[e3,cy,aa];rfl
   .have e2:(eX a.slot b.slot==0)=false:=iG.2 c2
    rw[e2,cy,aa,bO c2];rfl
  .have e1:(eX a.key b.key==0)=false:=iG.2 c1
   rw[e1,cy,aa,bO c1];rfl
 rw[Zj NJ,ar,ao,Zh];refine .mk ⟨_,s1,rfl,hp,?_⟩;grind[yB,eX]
variable {β:Type}
theorem Zr2 {s:St} {i o j:Nat} {ds:af} {xs:List kJ} {x:kJ} (hs:Sl s (some (i,o)) ds) (hh:oD s ds xs) (e:xs[j]? =some x) (K:DV->M β):bc i (j*2+o) K s=K (.str x.name) s:=by
 have⟨_,p,_,_,g2,_,_⟩:=hh.get e;exact hs.get g2 K
end Go.Gv.F
namespace Go.Gv.F
open Go.Gv
variable {β:Type}
theorem J_f (f:Nat) (ff fc r:af) (K:Nat->af->af->af->M β):Bo (.func f ff fc::r) K=K f ff fc r:=rfl
variable {Bd:Ze} [h:HA Bd]
theorem ZmM (n z f:Nat) (ff fc:af) (l:ak) (p:ah) (st:St) (P:Int->Bool) (hz:z=1\/p=none) (hs:Sl st p (ints l)) (hn:l.length+10<=n) (hl:l.length<1000000)
  (hc: ∀v∈l,run Bd (n-2) f (ff++[.i v]++fc) st=some (.val [.bool (P v)],st)):
  run Bd n 147 [.slice z p l.length,.func f ff fc] st=some (.val [.bool (l.any P)],st):=by
 obtain⟨n,rfl⟩: ∃m,n=m+2:=⟨n-2,AC⟩;rw[Zb,h.RW];unfold Hh aX Lb
 try dsimp only
 rw[Zr 1 z p _ hz,J_f,ao];have wH:Ok (λo=>∃y:Int,o=(.val [.i y],st)/\decide (y>=0)=l.any P) (run Bd (n+1) 156 [.slice 1 p l.length,.func f ff fc] st):=by
  rw[Zb,h.RX];unfold Hf Q_ bY Zw bA Li
  try dsimp only
  rw[bd,J_f,ao,Zi];refine Zn _ (λq y s=>∃i:Nat,y=[.i i]/\i<=l.length/\l.length-i<=q/\s=st/\∀v∈l.take i,P v=false) ?_ l.length n _ _ Fd AC;rintro q _ s ⟨i,rfl,hi,hq,rfl,dq⟩ rec aQ;simp only[ar,ao];by_cases aw:i<l.length
  .obtain⟨i1,o1,rfl⟩:=hs.dP (by simp[ints];omega)
   rw[aI (AC:(i:Int)<(l.length:Int)),aa,aD,Zg (Zo aw),bw,hs.fj (d:= .i l[i]) (by simp[ints,aw]),bm];have hv:=hc l[i] (nP aw);rw[show n+2-2=n by omega]at hv;rw[Zj hv,aA,ao];cases hp:P l[i]with
   |true=>
    rw[aa,Zh];refine .mk ⟨_,rfl,?_⟩;rw[aI AC,List.any_eq_true.2 ⟨_,nP aw,hp⟩]
   |false=>
    rw[ae,Zc];refine aQ (l.length-(i+1)) _ _ AC ⟨i+1,rfl,AC,AC,rfl,?_⟩;intro v hv;rw[pE aw]at hv;grind
  .rw[aK (AC:¬(i:Int)<(l.length:Int)),ae,Zh]
   rw[dJ AC]at dq;refine .mk ⟨_,rfl,?_⟩;rw[show decide ((-1:Int)>=0)=false from rfl];grind
 obtain⟨_,e,y,rfl,hy⟩:=wH;rw[Zj e];simp[ar,ao,hy,Zh]
end Go.Gv.F
