/- slices.SortFunc at entries (slot, gen, key, value), by key, slot and gen: a body of our own. -/
import Derived.Test.YtegglibipjjblaaGreatDoorGvZRun
set_option linter.all false
namespace Go.Gv
abbrev E4:=Int×Int×Int×Int
def fY (x y:E4):Bool:=decide (x.2.2.1<y.2.2.1)||(x.2.2.1==y.2.2.1&&(decide (x.1<y.1)||(x.1==y.1&&decide (x.2.1<y.2.1))))
def Fb (x:E4):List E4->List E4
 |[]=>[x]
 |y::r=>bif fY x y then x::y::r else y::Fb x r
def kb:List E4->List E4
 |[]=>[]
 |x::r=>Fb x (kb r)
def Ef:List E4->Bool
 |[]=>true
 |x::r=>r.all (λy=>fY x y||fY y x)&&Ef r
def tN (x:E4):ah:=[.i x.1,.i x.2.1,.i x.2.2.1,.i x.2.2.2]
def nR:List E4->ah
 |[]=>[]
 |x::r=>tN x++nR r
def AJ:ah->Option (List E4)
 |[]=>some []
 | .i a:: .i b:: .i c:: .i d::r=>(match AJ r with|some l=>some ((a,b,c,d)::l)|none=>none)
 |_=>none
def Jc:an:=λ_ _ args=>
 match args with
 |[.slice 4 a n,.func 159 [] []]=>(match a with
  |none=>bif Nat.beq n 0 then aw []else fail
  |some (i,o)=>λs=>match s.iB i with
   |some cs=>bif Nat.ble (o+n*4) cs.length then(match AJ ((cs.drop o).take (n*4))with
    |some l=>bif Ef l&&Nat.ble n 1000000 then aw [] (s.set i (some ⟨false,cG cs o (nR (kb l))⟩))else none
    |none=>none)else none
   |none=>none)
 |_=>fail
theorem D7 (x y:E4):fY x y=true↔x.2.2.1<y.2.2.1\/(x.2.2.1=y.2.2.1/\(x.1<y.1\/(x.1=y.1/\x.2.1<y.2.1))):=by
 simp[fY]
variable {y:E4}
theorem Vh {x:E4} (h:fY x y=true):fY y x=false:=by
 rw[D7]at h;grind[D7]
variable {z:E4}
theorem Nl {x:E4} (h:fY x y=true) (k:fY y z=true):fY x z=true:=by
 rw[D7]at*;omega
theorem Zwe {x:E4} (h:fY x y=false) (k:fY y z=false):fY x z=false:=by
 cases e:fY x z
 .rfl
 .have h1: ¬fY x y=true:=by rw[h];simp
  have h2: ¬fY y z=true:=by rw[k];simp
  rw[D7]at*
  omega
theorem VG (x:E4): ∀l,(Fb x l).Perm (x::l)
 |[]=> .refl _
 |y::r=>by
  unfold Fb;cases fY x y
  .exact((VG x r).cons y).trans (.swap x y r)
  .exact .refl _
theorem IG: ∀l,(kb l).Perm l
 |[]=> .refl _
 |x::r=>(VG x _).trans ((IG r).cons x)
def Ap (x y:E4):Prop:=fY x y=true\/fY y x=true
theorem UM: ∀ {l:List E4},Ef l=true->l.Pairwise Ap
 |[],_=> .nil
 |x::r,h=>by
  simp only[Ef,aS,qP,mB]at h;exact .cons (λy hy=>h.1 y hy) (UM h.2)
theorem ZnE (x:E4): ∀ {l:List E4},l.Pairwise (λa b=>fY a b=true)->(∀y∈l,Ap x y)->(Fb x l).Pairwise (λa b=>fY a b=true)
 |[],_,_=>by simp[Fb]
 |y::r,h,ha=>by
  cases h with
  |cons h1 h2=>
   unfold Fb;cases e:fY x y
   .refine .cons (λz hz=>?_) (ZnE x h2 λz hz=>ha z (tj _ hz));rcases ep.1 ((VG x r).mem_iff.1 hz)with rfl|hz
    .rcases ha y pz with h|h
     .rw[e]at h;cases h
     .exact h
    .exact h1 z hz
   .refine .cons (λz hz=>?_) (.cons h1 h2);rcases ep.1 hz with rfl|hz
    .exact e
    .exact Nl e (h1 z hz)
theorem Tl: ∀ {l:List E4},l.Pairwise Ap->(kb l).Pairwise (λa b=>fY a b=true)
 |[],_=> .nil
 |x::r,.cons h1 h2=>ZnE x (Tl h2) λy hy=>h1 y ((IG r).mem_iff.1 hy)
theorem Ap.symm {x:E4} (h:Ap x y):Ap y x:=h.elim .inr .inl
theorem ZoG {l l':List E4} (hp:l'.Perm l) (ha:l.Pairwise Ap) (hs:l'.Pairwise (λa b=>fY b a=false)):l'=kb l:=by
 have vj:l'.Pairwise Ap:=(hp.pairwise_iff λh=>h.symm).2 ha;have jt:l'.Pairwise (λa b=>fY a b=true):=by
  refine List.Pairwise.imp₂ ?_ vj hs;intro a b h1 h2;rcases h1 with h|h
  .exact h
  grind
 refine List.Perm.eq_of_pairwise (le:=λa b=>fY a b=true) (λa b _ _ h1 h2=>?_) jt (Tl ha) (hp.trans (IG l).symm);rw[Vh h1]at h2;cases h2
theorem UK (l:List E4):(kb l).length=l.length:=(IG l).length_eq
theorem Ga: ∀l:List E4,(nR l).length=l.length*4
 |[]=>rfl
 |x::r=>by rw[nR,ba,Ga r,cQ];show 4+_=_;omega
theorem ZrL: ∀ {ds:ah} {l:List E4},AJ ds=some l->ds=nR l
 |[],l,h=>by cases h;rfl
 | .i a:: .i b:: .i c:: .i d::r,l,h=>by
  unfold AJ at h;cases hr:AJ r
  .rw[hr]at h;cases h
  .rename_i l';rw[hr]at h;cases h;rw[ZrL hr];rfl
noncomputable section
def akD (c:Int):Op->Op
 | .binOp .mul t x (.const (.int k _)) t'=> .binOp .mul t x (.const (.int k c)) t'
 |o=>o
def ZAt (c:Int) (o:Oper):Oper:= { o with op:=akD c o.op }
def Jo (c:Int):Code->Code
 | .region i ops d=> .region i ⟨ops.toList.map (ZAt c)⟩ d
 | .seq a b=> .seq (Jo c a) (Jo c b)
 | .cond o a b=> .cond o (Jo c a) (Jo c b)
 |x=>x
def ad9 (c:Int) (f:Func):Func:= { f with body:=f.body.map (Jo c) }
def Xx (k:Int):Zf->Nat->ah->M ah:=λ_ _ args=>
 aC .u64 args λx args=>
 aF args<|
 bif x==0 then
  aw [.i 64]
 else
  aA (aO ((IntKind.wrap .u64 ((bits .and .u64 x (IntKind.wrap .u64 (0-x)))*k)).fdiv (2^58)) 64)<|
  bH 2 ((((IntKind.wrap .u64 ((bits .and .u64 x (IntKind.wrap .u64 (0-x)))*k)).fdiv (2^58)).toNat)*1+0) λd=>
  db .u8 d λx1=>
  aw [.i (aq (x1))]
def Ig:an:=Xx 285870213051353865
theorem ZBs {C:bE} {A:FA} {f:Func} (h: ∀c,wh C A (ad9 c f)=Xx c) (e:ad9 285870213051353865 f=f):wh C A f=Ig:=by
 have:=h 285870213051353865;rw[e]at this;exact this
end
set_option maxRecDepth 10000
set_option maxHeartbeats 4000000
noncomputable section
def SO:an:=λc n args=>
 mF args λs=>jm λb0=>gj (λout lQ=>cw b0 (bj out lQ)) λax=>dc (λaV st=>ft st λs1 st=>ck st λgJ eY=>bif decide ((s1.length:Int)>0)then c9 (c 15 (Ls s1)) λds=>jx ds λx x1=>cj (Li x) λi=>bV i 0 1 λcs=>cu 1 gJ eY cs 1 8796093022208 λp=>aA (decide (0<=x1)&&decide (x1<=(s1.length:Int)))<|aV [.str (s1.drop x1.toNat),.slice 1 p (eY+1)]else ax (bj gJ eY)) n [.str s,.slice 0 none 0]
def SN:an:=λc n args=>
 mF args λs=>aA (aO 0 s.length)<|bif decide (ZX s 0<128)then aw (gG (aq (ZX s 0)) 1)else az (λb1=>az (λb2=>bif b2 then aA (aO 1 s.length)<|aw (gG (aq ((aq ((aq (IntKind.wrap .u8 ((ZX s 0)-192)))*64))+(aq (IntKind.wrap .u8 ((ZX s 1)-128))))) 2)else az (λb3=>Q_ (aw (gG 65533 1)) λbG=>bif b3 then Ib (λlo=>Ib (λhi=>bF (c 19 (DU s 1 lo hi)) λx=>az (λb4=>bif b4 then aA (aO 1 s.length)<|aA (aO 2 s.length)<|aw (gG (aq ((aq ((aq ((aq (IntKind.wrap .u8 ((ZX s 0)-224)))*4096))+(aq ((aq (IntKind.wrap .u8 ((ZX s 1)-128)))*64))))+(aq (IntKind.wrap .u8 ((ZX s 2)-128))))) 3)else bG []) λhZ=>bif x then bF (c 19 (DU s 2 128 191)) λx1=>hZ (Lb x1)else hZ (Lb false)) λdS=>bif (ZX s 0)==237 then dS (lA 159)else dS (lA 191)) λcA=>bif (ZX s 0)==224 then cA (lA 160)else cA (lA 128)else az (λb5=>Q_ (bG []) λjc=>bif b5 then Ib (λlo1=>Ib (λKe=>bF (c 19 (DU s 1 lo1 Ke)) λx2=>az (λb6=>az (λb7=>
 bif b7 then aA (aO 1 s.length)<|aA (aO 2 s.length)<|aA (aO 3 s.length)<|aw (gG (aq ((aq ((aq ((aq ((aq (IntKind.wrap .u8 ((ZX s 0)-240)))*262144))+(aq ((aq (IntKind.wrap .u8 ((ZX s 1)-128)))*4096))))+(aq ((aq (IntKind.wrap .u8 ((ZX s 2)-128)))*64))))+(aq (IntKind.wrap .u8 ((ZX s 3)-128))))) 4)else jc []) λoP=>bif b6 then bF (c 19 (DU s 3 128 191)) λx3=>oP (Lb x3)else oP (Lb false)) λrI=>bif x2 then bF (c 19 (DU s 2 128 191)) λx4=>rI (Lb x4)else rI (Lb false)) λlO=>bif (ZX s 0)==244 then lO (lA 143)else lO (lA 191)) λkZ=>bif (ZX s 0)==240 then kZ (lA 144)else kZ (lA 128)else jc []) λjb=>bif decide (ZX s 0>=240)then jb (Lb (decide (ZX s 0<=244)))else jb (Lb false)) λaW=>bif decide (ZX s 0>=224)then aW (Lb (decide (ZX s 0<=239)))else aW (Lb false)) λaG=>bif b1 then bF (c 19 (DU s 1 128 191)) λx5=>aG (Lb x5)else aG (Lb false)) λax=>bif decide (ZX s 0>=194)then ax (Lb (decide (ZX s 0<=223)))else ax (Lb false)
def Rv:an:=λc n args=>
 ft args λs args=>aC .i64 args λbR args=>Zq3 args λlo hi=>az (λb1=>az (λb2=>aw (Lb b2)) λaG=>bif b1 then aA (aO bR s.length)<|aG (Lb (decide (ZX s bR<=hi)))else aG (Lb false)) λax=>bif decide (bR<(s.length:Int))then aA (aO bR s.length)<|ax (Lb (decide (ZX s bR>=lo)))else ax (Lb false)
end
noncomputable section
def S6:an:=λc n args=>
 mF args λs=>qg (λn1=>aw (Lb (decide (n1>0)))) λax=>dc (λaV st=>aC .i64 st λn2 st=>Ms st λp=>bif Nat.blt p s.length then az (λb1=>bif b1 then aw (Lb false)else aV [.i (aq (n2+1)),.nat (p+wR s p)]) λaG=>bif decide (aq (n2+1)>8)then aG (Lb true)else bF (c 28 (DH (Eg s p))) λx=>aG (Lb (!x))else ax (Li n2)) n [.i 0,.nat 0]
def Ss:an:=λc n args=>
 mF args λs=>jL (c 12 (Ls s)) λx xn=>az (λb1=>az (λok=>aw (Lb ok)) λaG=>dc (λaV st=>gT st λDl st=>cT st λi=>bif decide (i<(xn:Int))then az (λb2=>aV (FO b2 (aq (i+1)))) λaW=>bif Dl then Zo 1 x i xn λx1=>bF (c 29 (Li x1)) λx2=>aW (Lb x2)else aW (Lb false)else aG (Lb Dl)) n (FO b1 0)) λax=>bif decide ((xn:Int)>0)then ax (Lb (decide ((xn:Int)<=8)))else ax (Lb false)
def Vm:an:=λc n args=>
 aC .i32 args λr1 args=>aF args<|c9 (c 54 []) λds=>bp ds λcs ds=>bC cs 12<|aF ds<|Q_ (aw (Lb false)) λax=>dj (λaV x=>bif decide (x<6)then aA (aO x 6)<|bC ((cs.drop (x.toNat*2)).take 2) 2<|eW ((cs.drop (x.toNat*2)).take 2) 0 λd=>db .i32 d λx1=>az (λb1=>bif b1 then aw (Lb true)else aV (Li (aq (x+1)))) λaG=>bif decide (r1>=x1)then eW ((cs.drop (x.toNat*2)).take 2) 1 λd1=>db .i32 d1 λx2=>aG (Lb (decide (r1<=x2)))else aG (Lb false)else ax []) n (Li 0)
def Uv:an:=λc n args=>
 cT args λr1=>az (λb1=>az (λb2=>az (λb3=>az (λb4=>az (λb5=>az (λb6=>aw (Lb b6)) λdS=>bif b5 then dS (Lb true)else az (λb7=>dS (Lb b7)) λhZ=>bif decide (r1>=161)then hZ (Lb (decide (r1<=65519)))else hZ (Lb false)) λcA=>bif b4 then cA (Lb true)else cA (Lb (r1==95))) λbG=>bif b3 then bG (Lb true)else bG (Lb (r1==45))) λaW=>bif b2 then aW (Lb true)else az (λb8=>aW (Lb b8)) λjb=>bif decide (r1>=48)then jb (Lb (decide (r1<=57)))else jb (Lb false)) λaG=>bif b1 then aG (Lb true)else az (λb9=>aG (Lb b9)) λjc=>bif decide (r1>=65)then jc (Lb (decide (r1<=90)))else jc (Lb false)) λax=>bif decide (r1>=97)then ax (Lb (decide (r1<=122)))else ax (Lb false)
def Te:an:=λc n args=>
 mF args λs=>jm λb0=>gj (λout lQ=>cw b0 (bj out lQ)) λax=>dc (λaV st=>ca 1 st λgJ eY st=>Ms st λp=>bif Nat.blt p s.length then cj (DH (Eg s p)) λi=>bV i 0 1 λcs=>cu 1 gJ eY cs 1 17592186044416 λp1=>aV [.slice 1 p1 (eY+1),.nat (p+wR s p)]else ax (bj gJ eY)) n [.slice 0 none 0,.nat 0]
def RT:an:=λc n args=>
 ft args λa args=>mF args λb1=>jL (c 34 (Ls a)) λx xn=>jL (c 34 (Ls b1)) λx1 lq=>cK (c 57 [.slice 1 x xn,.slice 1 x1 lq]) λx2=>aw (Li x2)
def RA:an:=λc n args=>
 ft args λa args=>mF args λb1=>jL (c 12 (Ls a)) λx xn=>jL (c 12 (Ls b1)) λx1 lq=>Q_ (bif decide ((xn:Int)<(lq:Int))then aw (Li (-1))else bif decide ((xn:Int)>(lq:Int))then aw (Li 1)else aw (Li 0)) λax=>dj (λaV i=>az (λb2=>bif b2 then Zo 1 x i xn λx2=>Zo 1 x1 i lq λx3=>bif decide (x2<x3)then aw (Li (-1))else Zo 1 x i xn λx4=>Zo 1 x1 i lq λx5=>bif decide (x4>x5)then aw (Li 1)else aV (Li (aq (i+1)))else ax []) λaG=>bif decide (i<(xn:Int))then aG (Lb (decide (i<(lq:Int))))else aG (Lb false)) n (Li 0)
def ZlW:an:=λc n args=>
 aF args<|aw [.agg [.int .i32 97,.int .i32 122,.int .i32 65,.int .i32 90,.int .i32 48,.int .i32 57,.int .i32 45,.int .i32 45,.int .i32 95,.int .i32 95,.int .i32 161,.int .i32 65519]]
def QY:an:=λc n args=>
 ca 1 args λs1 Fi args=>ck args λs2 HQ=>Q_ (bif decide ((Fi:Int)<(HQ:Int))then aw (Li (-1))else aw (Li 0)) λax=>dj (λaV x=>bif decide (x<(Fi:Int))then N_ s1 x Fi λi o=>bH i (x.toNat*1+o) λd=>db .i32 d λx1=>bif decide (x>=(HQ:Int))then aw (Li 1)else N_ s2 x HQ λi1 o1=>bH i1 (x.toNat*1+o1) λd1=>db .i32 d1 λx2=>cK (c 64 [.int .i32 x1,.int .i32 x2]) λx3=>bif !(x3==0)then aw (Li x3)else aV (Li (aq (x+1)))else ax []) n (Li 0)
def Q9:an:=λc n args=>
 aC .i32 args λx args=>aC .i32 args λy args=>aF args<|bF (c 72 (DH x)) λx1=>bF (c 72 (DH y)) λx2=>bif x1 then bif x2 then aw (Li 0)else aw (Li (-1))else bif x2 then aw (Li 1)else bif decide (x<y)then aw (Li (-1))else bif decide (x>y)then aw (Li 1)else aw (Li 0)
def RH:an:=λc n args=>
 aC .i32 args λx args=>aF args<|aw (Lb (!(x==x)))
end
noncomputable section
end
noncomputable section
end
noncomputable section
end
noncomputable section
end
noncomputable section
end
noncomputable section
end
noncomputable section
end
noncomputable section
def T3:an:=λc n args=>
 yq args λx x1 x2 x3 eO x4 dU x5 jg=>bF (c 141 (vX x x1 x2)) λx6=>az (λb1=>az (λb2=>bif b2 then aw (Lb false)else c9 (c 142 (BP x x1 x2 x3 eO x4 dU x5 jg)) λds=>ca 4 ds λx7 wV ds=>aF ds<|az (λb3=>bif b3 then aw (Lb false)else aA (decide (0<=(dU:Int))&&decide ((dU:Int)<=(dU:Int))&&decide ((dU:Int)<=70368744177664))<|cj (iO ((dU:Int).toNat) (Lb false)) λi=>Q_ (Q_ (Q_ (aw (Lb true)) λdS=>dj (λaV i1=>bif decide (i1<(dU:Int))then Zo 1 x4 i1 dU λx8=>az (λb4=>az (λb5=>bif b5 then aw (Lb false)else aV (Li (aq (i1+1)))) λjb=>bif b4 then jb (Lb true)else aA (aO i1 ((dU:Int).toNat))<|si i (i1.toNat*1) λx9=>az (λb6=>az (λb7=>jb (Lb b7)) λkZ=>bif b6 then bF (c 143 (fj x5 jg i1)) λdr=>kZ (Lb (!dr))else kZ (Lb false)) λjc=>bif !x9 then Zo 1 x4 i1 dU λeU=>jc (Lb (decide (eU<x2)))else jc (Lb false)) λhZ=>bif decide (x8<1)then hZ (Lb true)else Zo 1 x4 i1 dU λfZ=>
 hZ (Lb (decide (fZ>x2)))else dS []) n (Li 0)) λcA=>dj (λdP i5=>bif decide (i5<(jg:Int))then Zo 1 x5 i5 jg λgE=>az (λb8=>az (λb9=>az (λGI=>az (λXu=>bif Xu then aw (Lb false)else dP (Li (aq (i5+1)))) λLh=>bif GI then Lh (Lb true)else aA (decide (0<=i5)&&decide (i5<=(jg:Int)))<|bF (c 143 (fj x5 i5.toNat gE)) λiQ=>Lh (Lb iQ)) λoP=>bif b9 then oP (Lb true)else Zo 1 x4 gE dU λgN=>oP (Lb (decide (gN>=x2)))) λrI=>bif b8 then rI (Lb true)else aA (aO gE ((dU:Int).toNat))<|si i (gE.toNat*1) λgX=>rI (Lb gX)) λlO=>bif decide (gE<0)then lO (Lb true)else lO (Lb (decide (gE>=(dU:Int))))else cA []) n (Li 0)) λbG=>dj (λwP i8=>bif decide (i8<(wV:Int))then N_ x7 i8 wV λi9 o5=>bV i9 (i8.toNat*4+o5) 2 λbU=>jx bU λjf kM=>az (λXv=>az (λXw=>az (λb14=>bif b14 then aw (Lb false)else aA (aO jf ((dU:Int).toNat))<|dE i (jf.toNat*1) (Lb true)<|wP (Li (aq (i8+1)))) λad5=>
 bif Xw then ad5 (Lb true)else Zo 1 x4 jf dU λll=>ad5 (Lb (!(kM==ll)))) λad4=>bif Xv then ad4 (Lb true)else aA (aO jf ((dU:Int).toNat))<|si i (jf.toNat*1) λmA=>ad4 (Lb mA)) λad3=>bif decide (jf<0)then ad3 (Lb true)else ad3 (Lb (decide (jf>=(dU:Int))))else bG []) n (Li 0)) λaW=>bif decide ((wV:Int)>(dU:Int))then aW (Lb true)else aW (Lb (decide ((jg:Int)>(dU:Int))))) λaG=>bif b1 then aG (Lb true)else bF (c 144 [.slice 2 x3 eO]) λqO=>aG (Lb (!qO))) λax=>bif !x6 then ax (Lb true)else ax (Lb (decide ((dU:Int)>x1)))
def Sp:an:=λc n args=>
 yq args λx x1 x2 x3 eO x4 dU x5 jg=>az (λb1=>az (λb2=>az (λb3=>bif b3 then aw (Lb false)else Q_ (aw (Lb true)) λbG=>dj (λaV i=>bif decide (i<(eO:Int))then N_ x3 i eO λi1 o=>bH i1 (i.toNat*2+o+1) λd=>dB 4 d λx6 tf=>az (λb4=>bif b4 then aw (Lb false)else aV (Li (aq (i+1)))) λcA=>bif decide ((tf:Int)>40)then cA (Lb true)else Aj 2 x3 i eO λx7=>cA (Lb (decide ((x7.length:Int)>60)))else bG []) n (Li 0)) λaW=>bif b2 then aW (Lb true)else aW (Lb (decide (x>400)))) λaG=>bif b1 then aG (Lb true)else aG (Lb (decide ((jg:Int)>60)))) λax=>bif decide ((eO:Int)>8)then ax (Lb true)else ax (Lb (decide ((dU:Int)>60)))
def SS:an:=λc n args=>
 D1 args λg g1 g2=>az (λb1=>az (λb2=>az (λb3=>az (λb4=>az (λb5=>aw (Lb b5)) λcA=>bif b4 then cA (Lb (decide (g2<=4294967295)))else cA (Lb false)) λbG=>bif b3 then bG (Lb (decide (g2>=1)))else bG (Lb false)) λaW=>bif b2 then aW (Lb (decide (g1<=1792)))else aW (Lb false)) λaG=>bif b1 then aG (Lb (decide (g1>=1)))else aG (Lb false)) λax=>bif decide (g>=16)then ax (Lb (decide (g<=3072)))else ax (Lb false)
def Ru:an:=λc n args=>
 yq args λx x1 x2 x3 eO x4 dU x5 jg=>jm λb0=>DK (λout lQ=>cw b0 (tx out lQ)) λax=>dc (λaV st=>ca 4 st λgJ eY st=>cT st λi=>bif decide (i<(eO:Int))then N_ x3 i eO λi1 o=>bH i1 (i.toNat*2+o+1) λd=>dB 4 d λx6 tf=>dV x6 (tf*4) λbU=>cu 4 gJ eY bU tf 2199023255552 λp=>aV [.slice 4 p (eY+tf),.i (aq (i+1))]else ax (tx gJ eY)) n (jy none 0 0)
def UF:an:=λc n args=>
 q9 args λl ln n1=>Q_ (aw (Lb false)) λax=>dj (λaV i=>bif decide (i<(ln:Int))then Zo 1 l i ln λx=>bif x==n1 then aw (Lb true)else aV (Li (aq (i+1)))else ax []) n (Li 0)
def SG:an:=λc n args=>
 ca 2 args λl ln args=>aF args<|bif decide ((ln:Int)>16)then aw (Lb false)else Q_ (aw (Lb true)) λax=>dj (λaV i=>bif decide (i<(ln:Int))then Q_ (aV (Li (aq (i+1)))) λaG=>Aj 2 l i ln λx=>bF (c 27 (Ls x)) λx1=>az (λb1=>bif b1 then aw (Lb false)else Q_ (aG []) λbG=>dj (λdP k=>N_ l i ln λi2 o1=>bH i2 (i.toNat*2+o1+1) λd1=>dB 4 d1 λx2 di=>bif decide (k<(di:Int))then N_ l i ln λi3 o2=>bH i3 (i.toNat*2+o2+1) λd2=>dB 4 d2 λx3 eO=>bK x3 λi4 o3=>aA (aO (aq (k-1)) eO)<|bV i4 (((aq (k-1)).toNat)*4+o3) 4 λcs=>xo cs λx4 x5 x6 x7=>N_ l i ln λi5 o4=>bH i5 (i.toNat*2+o4+1) λd3=>dB 4 d3 λx8 uB=>N_ x8 k uB λi6 o5=>bV i6 (k.toNat*4+o5) 4 λbU=>xo bU λx9 dr eU fZ=>bF (c 155 (BU x4 x5 x6 x7 x9 dr eU fZ)) λgE=>bif !gE then aw (Lb false)else dP (Li (aq (k+1)))else bG []) n (Li 1)) λaW=>bif !x1 then aW (Lb true)else az (λb2=>aW (Lb b2)) λcA=>bif decide (i>0)then bK l λi7 o6=>
 aA (aO (aq (i-1)) ln)<|bH i7 (((aq (i-1)).toNat)*2+o6) λd4=>Cm d4 λiQ=>Aj 2 l i ln λgN=>cK (c 40 [.str iQ,.str gN]) λgX=>cA (Lb (decide (gX>=0)))else cA (Lb false)else ax []) n (Li 0)
def Iy:an:=λc n args=>
 D1 args λg g1 g2=>az (λb1=>az (λb2=>az (λb3=>az (λb4=>az (λb5=>aw (Lb b5)) λcA=>bif b4 then cA (Lb (decide (g2<=4294967295)))else cA (Lb false)) λbG=>bif b3 then bG (Lb (decide (g2>=1)))else bG (Lb false)) λaW=>bif b2 then aW (Lb (decide (g1<=1792)))else aW (Lb false)) λaG=>bif b1 then aG (Lb (decide (g1>=1)))else aG (Lb false)) λax=>bif decide (g>=16)then ax (Lb (decide (g<=3072)))else ax (Lb false)
def QZ:an:=λc n args=>
 ca 1 args λs sn args=>WC args λf ff fc args=>aF args<|cK (c 156 [.slice 1 s sn,.func f ff fc]) λx=>aw (Lb (decide (x>=0)))
def SF:an:=λc n args=>
 MF args λa a1 a2 a3 b1 b2 b3 b4=>bif !(a2==b3)then aw (Lb (decide (a2<b3)))else bif !(a==b1)then aw (Lb (decide (a<b1)))else aw (Lb (decide (a1<b2)))
def QX:an:=λc n args=>
 ca 1 args λs sn args=>WC args λf ff fc args=>aF args<|Q_ (aw (Li (-1))) λax=>dj (λaV x=>bif decide (x<(sn:Int))then Zo 1 s x sn λx1=>bF (c f (ff++(Li x1)++fc)) λx2=>bif x2 then aw (Li x)else aV (Li (aq (x+1)))else ax []) n (Li 0)
def Ij:an:=λc n args=>
 MF args λa a1 a2 a3 b1 b2 b3 b4=>nh (c 161 (gG a2 b3)) λx=>nh (c 161 (gG a b1)) λx1=>cK (c 161 (gG a1 b2)) λx2=>cj (Ag x x1 x2) λi=>cK (c 162 (bj (some (i,0)) 3)) λx3=>aw (Li x3)
def Ih:an:=λc n args=>
 jx args λx y=>bF (c 163 (Li x)) λx1=>bF (c 163 (Li y)) λx2=>bif x1 then bif x2 then aw (Li 0)else aw (Li (-1))else bif x2 then aw (Li 1)else bif decide (x<y)then aw (Li (-1))else bif decide (x>y)then aw (Li 1)else aw (Li 0)
def Ix:an:=λc n args=>
 ck args λale aez=>Q_ (aw (Li 0)) λax=>dj (λaV x=>bif decide (x<(aez:Int))then Zo 1 ale x aez λx1=>bif !(x1==0)then aw (Li x1)else aV (Li (aq (x+1)))else ax []) n (Li 0)
def Is:an:=λc n args=>
 cT args λx=>aw (Lb (!(x==x)))
end
structure MJ (Bd:Zg):Prop where
 eq:Bd 162=Ix
structure MG (Bd:Zg):Prop where
 eq:Bd 163=Is
structure Ii (Bd:Zg):Prop where
 eq:Bd 161=Ih
 q1:MG Bd
structure FT (Bd:Zg):Prop where
 eq:Bd 159=Ij
 q2:MJ Bd
 q0:Ii Bd
