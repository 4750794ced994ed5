/- slices.SortFunc at entries (slot, gen, key, value), by key, slot and gen: a body of our own. -/
import Derived.Test.YtegglibipjjblaaGreatDoorGvDef
import Derived.Test.YtegglibipjjblaaGreatDoorGvZRun
namespace Go.Gv
abbrev E4:=Int×Int×Int×Int
def fp (x y:E4):Bool:=decide (x.2.2.1<y.2.2.1)||(x.2.2.1==y.2.2.1&&(decide (x.1<y.1)||(x.1==y.1&&decide (x.2.1<y.2.1))))
def Dn (x:E4):List E4->List E4
 |[]=>[x]
 |y::r=>bif fp x y then x::y::r else y::Dn x r
def jS:List E4->List E4
 |[]=>[]
 |x::r=>Dn x (jS r)
def Cy:List E4->Bool
 |[]=>true
 |x::r=>r.all (λy=>fp x y||fp y x)&&Cy r
def rU (x:E4):ah:=[.int .i64 x.1,.int .i64 x.2.1,.int .i64 x.2.2.1,.int .i64 x.2.2.2]
def ml:List E4->ah
 |[]=>[]
 |x::r=>rU x++ml r
def yJ:ah->Option (List E4)
 |[]=>some []
 | .int .i64 a:: .int .i64 b:: .int .i64 c:: .int .i64 d::r=>(match yJ r with|some l=>some ((a,b,c,d)::l)|none=>none)
 |_=>none
def Hh:ao:=λ_ _ args=>
 match args with
 |[.slice 4 a n,.func 159 [] []]=>(match a with
  |none=>bif Nat.beq n 0 then ay []else fail
  |some (i,o)=>λs=>match s.gE i with
   |some cs=>bif Nat.ble (o+n*4) cs.length then(match yJ ((cs.drop o).take (n*4))with
    |some l=>bif Cy l&&Nat.ble n 1000000 then ay [] (s.set i (some ⟨false,cw cs o (ml (jS l))⟩))else none
    |none=>none)else none
   |none=>none)
 |_=>fail
theorem Cm (x y:E4):fp x y=true↔x.2.2.1<y.2.2.1\/(x.2.2.1=y.2.2.1/\(x.1<y.1\/(x.1=y.1/\x.2.1<y.2.1))):=by
 simp[fp]
variable {y:E4}
theorem Se {x:E4} (h:fp x y=true):fp y x=false:=by
 rw[Cm]at h;cases e:fp y x with
 |false=>rfl
 |true=>rw[Cm]at e;omega
variable {z:E4}
theorem Ss {x:E4} (h:fp x y=true) (k:fp y z=true):fp x z=true:=by
 rw[Cm]at*;omega
theorem Zul {x:E4} (h:fp x y=false) (k:fp y z=false):fp x z=false:=by
 cases e:fp x z with
 |false=>rfl
 |true=>
  have h1: ¬fp x y=true:=by rw[h];simp
  have h2: ¬fp y z=true:=by rw[k];simp
  rw[Cm]at*
  omega
theorem RU (x:E4): ∀l,(Dn x l).Perm (x::l)
 |[]=> .refl _
 |y::r=>by
  unfold Dn;cases fp x y with
  |true=>exact .refl _
  |false=>exact((RU x r).cons y).trans (.swap x y r)
theorem KF: ∀l,(jS l).Perm l
 |[]=> .refl _
 |x::r=>(RU x _).trans ((KF r).cons x)
def Ap (x y:E4):Prop:=fp x y=true\/fp y x=true
theorem Si: ∀ {l:List E4},Cy l=true->l.Pairwise Ap
 |[],_=> .nil
 |x::r,h=>by
  simp only[Cy,aR,lA,lz]at h;exact .cons (λy hy=>h.1 y hy) (Si h.2)
theorem ZmK (x:E4): ∀ {l:List E4},l.Pairwise (λa b=>fp a b=true)->(∀y∈l,Ap x y)->(Dn x l).Pairwise (λa b=>fp a b=true)
 |[],_,_=>by simp[Dn]
 |y::r,h,ha=>by
  cases h with
  |cons h1 h2=>
   unfold Dn;cases e:fp x y with
   |true=>
    refine .cons (λz hz=>?_) (.cons h1 h2);rcases dC.1 hz with rfl|hz
    .exact e
    .exact Ss e (h1 z hz)
   |false=>
    refine .cons (λz hz=>?_) (ZmK x h2 λz hz=>ha z (rp _ hz));rcases dC.1 ((RU x r).mem_iff.1 hz)with rfl|hz
    .rcases ha y oa with h|h
     .rw[e]at h;cases h
     .exact h
    .exact h1 z hz
theorem Zl2: ∀ {l:List E4},l.Pairwise Ap->(jS l).Pairwise (λa b=>fp a b=true)
 |[],_=> .nil
 |x::r,.cons h1 h2=>ZmK x (Zl2 h2) λy hy=>h1 y ((KF r).mem_iff.1 hy)
theorem Ap.symm {x:E4} (h:Ap x y):Ap y x:=h.elim .inr .inl
theorem ZnV {l l':List E4} (hp:l'.Perm l) (ha:l.Pairwise Ap) (hs:l'.Pairwise (λa b=>fp b a=false)):l'=jS l:=by
 have AO:l'.Pairwise Ap:=(hp.pairwise_iff λh=>h.symm).2 ha;have iB:l'.Pairwise (λa b=>fp a b=true):=by
  refine List.Pairwise.imp₂ ?_ AO hs;intro a b h1 h2;rcases h1 with h|h
  .exact h
  .rw[h2]at h;cases h
 refine List.Perm.eq_of_pairwise (le:=λa b=>fp a b=true) (λa b _ _ h1 h2=>?_) iB (Zl2 ha) (hp.trans (KF l).symm);rw[Se h1]at h2;cases h2
theorem Sm (l:List E4):(jS l).length=l.length:=(KF l).length_eq
theorem Ek: ∀l:List E4,(ml l).length=l.length*4
 |[]=>rfl
 |x::r=>by rw[ml,bz,Ek r,cH];show 4+_=_;omega
theorem ZpC: ∀ {ds:ah} {l:List E4},yJ ds=some l->ds=ml l
 |[],l,h=>by cases h;rfl
 | .int .i64 a:: .int .i64 b:: .int .i64 c:: .int .i64 d::r,l,h=>by
  unfold yJ at h;cases hr:yJ r with
  |none=>rw[hr]at h;cases h
  |some l'=>
   rw[hr]at h;cases h;rw[ZpC hr];rfl
noncomputable section
def af8 (c:Int):Op->Op
 | .binOp .mul t x (.const (.int k _)) t'=> .binOp .mul t x (.const (.int k c)) t'
 |o=>o
def Zxr (c:Int) (o:Oper):Oper:= { o with op:=af8 c o.op }
def Hl (c:Int):Code->Code
 | .region i ops d=> .region i ⟨ops.toList.map (Zxr c)⟩ d
 | .seq a b=> .seq (Hl c a) (Hl c b)
 | .cond o a b=> .cond o (Hl c a) (Hl c b)
 |x=>x
def Y2 (c:Int) (f:Func):Func:= { f with body:=f.body.map (Hl c) }
def Ua (k:Int):Zf->Nat->ah->M ah:=λ_ _ args=>
 aF .u64 args λx args=>
 aJ args<|
 bif x==0 then
  ay [.int .i64 64]
 else
  aC (aQ ((IntKind.wrap .u64 ((bits .and .u64 x (IntKind.wrap .u64 (0-x)))*k)).fdiv (2^58)) 64)<|
  bG 2 ((((IntKind.wrap .u64 ((bits .and .u64 x (IntKind.wrap .u64 (0-x)))*k)).fdiv (2^58)).toNat)*1+0) λd=>
  cT .u8 d λx1=>
  ay [.int .i64 (ar (x1))]
def Gs:ao:=Ua 285870213051353865
theorem Zyn {C:bB} {A:FA} {f:Func} (h: ∀c,uw C A (Y2 c f)=Ua c) (e:Y2 285870213051353865 f=f):uw C A f=Gs:=by
 have:=h 285870213051353865;rw[e]at this;exact this
end
set_option linter.unusedVariables false
set_option maxRecDepth 10000
set_option maxHeartbeats 4000000
noncomputable section
def PN:ao:=λc n args=>
 kW args λs=>iU λb0=>gk (λout nS=>cu b0 (bD out nS)) λaA=>cY (λaV st=>eE st λs1 st=>ck st λiN fS=>bif decide ((s1.length:Int)>0)then c9 (c 15 (Ls s1)) λds=>gP ds λx x1=>cg (Li x) λi=>bS i 0 1 λcs=>cm 1 iN fS cs 1 8796093022208 λp=>aC (decide (0<=x1)&&decide (x1<=(s1.length:Int)))<|aV [.str (s1.drop x1.toNat),.slice 1 p (fS+1)]else aA (bD iN fS)) n [.str s,.slice 0 none 0]
def Qp:ao:=λc n args=>
 kW args λs=>aC (aQ 0 s.length)<|bif decide (ZP s 0<128)then ay (fV (ar (ZP s 0)) 1)else az (λb1=>az (λb2=>bif b2 then aC (aQ 1 s.length)<|ay (fV (ar ((ar ((ar (IntKind.wrap .u8 ((ZP s 0)-192)))*64))+(ar (IntKind.wrap .u8 ((ZP s 1)-128))))) 2)else az (λb3=>Q_ (ay (fV 65533 1)) λbC=>bif b3 then Gn (λlo=>Gn (λhi=>bd (c 19 (B5 s 1 lo hi)) λx=>az (λb4=>bif b4 then aC (aQ 1 s.length)<|aC (aQ 2 s.length)<|ay (fV (ar ((ar ((ar ((ar (IntKind.wrap .u8 ((ZP s 0)-224)))*4096))+(ar ((ar (IntKind.wrap .u8 ((ZP s 1)-128)))*64))))+(ar (IntKind.wrap .u8 ((ZP s 2)-128))))) 3)else bC []) λfW=>bif x then bd (c 19 (B5 s 2 128 191)) λx1=>fW (Lb x1)else fW (Lb false)) λdw=>bif (ZP s 0)==237 then dw (lH 159)else dw (lH 191)) λcd=>bif (ZP s 0)==224 then cd (lH 160)else cd (lH 128)else az (λb5=>Q_ (bC []) λgN=>bif b5 then Gn (λlo1=>Gn (λIf=>bd (c 19 (B5 s 1 lo1 If)) λx2=>az (λb6=>az (λb7=>
 bif b7 then aC (aQ 1 s.length)<|aC (aQ 2 s.length)<|aC (aQ 3 s.length)<|ay (fV (ar ((ar ((ar ((ar ((ar (IntKind.wrap .u8 ((ZP s 0)-240)))*262144))+(ar ((ar (IntKind.wrap .u8 ((ZP s 1)-128)))*4096))))+(ar ((ar (IntKind.wrap .u8 ((ZP s 2)-128)))*64))))+(ar (IntKind.wrap .u8 ((ZP s 3)-128))))) 4)else gN []) λnb=>bif b6 then bd (c 19 (B5 s 3 128 191)) λx3=>nb (Lb x3)else nb (Lb false)) λpX=>bif x2 then bd (c 19 (B5 s 2 128 191)) λx4=>pX (Lb x4)else pX (Lb false)) λkq=>bif (ZP s 0)==244 then kq (lH 143)else kq (lH 191)) λjP=>bif (ZP s 0)==240 then jP (lH 144)else jP (lH 128)else gN []) λgM=>bif decide (ZP s 0>=240)then gM (Lb (decide (ZP s 0<=244)))else gM (Lb false)) λaS=>bif decide (ZP s 0>=224)then aS (Lb (decide (ZP s 0<=239)))else aS (Lb false)) λaI=>bif b1 then bd (c 19 (B5 s 1 128 191)) λx5=>aI (Lb x5)else aI (Lb false)) λaA=>bif decide (ZP s 0>=194)then aA (Lb (decide (ZP s 0<=223)))else aA (Lb false)
def Pk:ao:=λc n args=>
 eE args λs args=>aF .i64 args λbZ args=>Zqc args λlo hi=>az (λb1=>az (λb2=>ay (Lb b2)) λaI=>bif b1 then aC (aQ bZ s.length)<|aI (Lb (decide (ZP s bZ<=hi)))else aI (Lb false)) λaA=>bif decide (bZ<(s.length:Int))then aC (aQ bZ s.length)<|aA (Lb (decide (ZP s bZ>=lo)))else aA (Lb false)
end
set_option linter.unusedVariables false
set_option maxRecDepth 10000
set_option maxHeartbeats 4000000
noncomputable section
def P3:ao:=λc n args=>
 kW args λs=>oj (λn1=>ay (Lb (decide (n1>0)))) λaA=>cY (λaV st=>aF .i64 st λn2 st=>JX st λp=>bif Nat.blt p s.length then az (λb1=>bif b1 then ay (Lb false)else aV [.int .i64 (ar (n2+1)),.nat (p+u7 s p)]) λaI=>bif decide (ar (n2+1)>8)then aI (Lb true)else bd (c 28 (BV (CD s p))) λx=>aI (Lb (!x))else aA (Li n2)) n [.int .i64 0,.nat 0]
def PE:ao:=λc n args=>
 kW args λs=>mc (c 12 (Ls s)) λx xn=>az (λb1=>az (λok=>ay (Lb ok)) λaI=>cY (λaV st=>gW st λBz st=>cA st λi=>bif decide (i<(xn:Int))then az (λb2=>aV (DU b2 (ar (i+1)))) λaS=>bif Bz then Zn 1 x i xn λx1=>bd (c 29 (Li x1)) λx2=>aS (Lb x2)else aS (Lb false)else aI (Lb Bz)) n (DU b1 0)) λaA=>bif decide ((xn:Int)>0)then aA (Lb (decide ((xn:Int)<=8)))else aA (Lb false)
def RR:ao:=λc n args=>
 aF .i32 args λr1 args=>aJ args<|c9 (c 54 []) λds=>bn ds λcs ds=>bx cs 12<|aJ ds<|Q_ (ay (Lb false)) λaA=>cI (λaV x=>bif decide (x<6)then aC (aQ x 6)<|bx ((cs.drop (x.toNat*2)).take 2) 2<|eD ((cs.drop (x.toNat*2)).take 2) 0 λd=>cT .i32 d λx1=>az (λb1=>bif b1 then ay (Lb true)else aV (Li (ar (x+1)))) λaI=>bif decide (r1>=x1)then eD ((cs.drop (x.toNat*2)).take 2) 1 λd1=>cT .i32 d1 λx2=>aI (Lb (decide (r1<=x2)))else aI (Lb false)else aA []) n (Li 0)
def RD:ao:=λc n args=>
 cA args λr1=>az (λb1=>az (λb2=>az (λb3=>az (λb4=>az (λb5=>az (λb6=>ay (Lb b6)) λdw=>bif b5 then dw (Lb true)else az (λb7=>dw (Lb b7)) λfW=>bif decide (r1>=161)then fW (Lb (decide (r1<=65519)))else fW (Lb false)) λcd=>bif b4 then cd (Lb true)else cd (Lb (r1==95))) λbC=>bif b3 then bC (Lb true)else bC (Lb (r1==45))) λaS=>bif b2 then aS (Lb true)else az (λb8=>aS (Lb b8)) λgM=>bif decide (r1>=48)then gM (Lb (decide (r1<=57)))else gM (Lb false)) λaI=>bif b1 then aI (Lb true)else az (λb9=>aI (Lb b9)) λgN=>bif decide (r1>=65)then gN (Lb (decide (r1<=90)))else gN (Lb false)) λaA=>bif decide (r1>=97)then aA (Lb (decide (r1<=122)))else aA (Lb false)
def QK:ao:=λc n args=>
 kW args λs=>iU λb0=>gk (λout nS=>cu b0 (bD out nS)) λaA=>cY (λaV st=>bL 1 st λiN fS st=>JX st λp=>bif Nat.blt p s.length then cg (BV (CD s p)) λi=>bS i 0 1 λcs=>cm 1 iN fS cs 1 17592186044416 λp1=>aV [.slice 1 p1 (fS+1),.nat (p+u7 s p)]else aA (bD iN fS)) n [.slice 0 none 0,.nat 0]
def OZ:ao:=λc n args=>
 eE args λa args=>kW args λb1=>mc (c 34 (Ls a)) λx xn=>mc (c 34 (Ls b1)) λx1 kP=>cQ (c 57 (uf x xn x1 kP)) λx2=>ay (Li x2)
def Pg:ao:=λc n args=>
 eE args λa args=>kW args λb1=>mc (c 12 (Ls a)) λx xn=>mc (c 12 (Ls b1)) λx1 kP=>Q_ (bif decide ((xn:Int)<(kP:Int))then ay (Li (-1))else bif decide ((xn:Int)>(kP:Int))then ay (Li 1)else ay (Li 0)) λaA=>cI (λaV i=>az (λb2=>bif b2 then Zn 1 x i xn λx2=>Zn 1 x1 i kP λx3=>bif decide (x2<x3)then ay (Li (-1))else Zn 1 x i xn λx4=>Zn 1 x1 i kP λx5=>bif decide (x4>x5)then ay (Li 1)else aV (Li (ar (i+1)))else aA []) λaI=>bif decide (i<(xn:Int))then aI (Lb (decide (i<(kP:Int))))else aI (Lb false)) n (Li 0)
def ZlA:ao:=λc n args=>
 aJ args<|ay [.agg [.int .i32 97,.int .i32 122,.int .i32 65,.int .i32 90,.int .i32 48,.int .i32 57,.int .i32 45,.int .i32 45,.int .i32 95,.int .i32 95,.int .i32 161,.int .i32 65519]]
def Ot:ao:=λc n args=>
 bL 1 args λs1 ni args=>ck args λs2 qY=>Q_ (bif decide ((ni:Int)<(qY:Int))then ay (Li (-1))else ay (Li 0)) λaA=>cI (λaV x=>bif decide (x<(ni:Int))then N_ s1 x ni λi o=>bG i (x.toNat*1+o) λd=>cT .i32 d λx1=>bif decide (x>=(qY:Int))then ay (Li 1)else N_ s2 x qY λi1 o1=>bG i1 (x.toNat*1+o1) λd1=>cT .i32 d1 λx2=>cQ (c 64 [.int .i32 x1,.int .i32 x2]) λx3=>bif !(x3==0)then ay (Li x3)else aV (Li (ar (x+1)))else aA []) n (Li 0)
def Ow:ao:=λc n args=>
 aF .i32 args λx args=>aF .i32 args λy args=>aJ args<|bd (c 72 (BV x)) λx1=>bd (c 72 (BV y)) λx2=>bif x1 then bif x2 then ay (Li 0)else ay (Li (-1))else bif x2 then ay (Li 1)else bif decide (x<y)then ay (Li (-1))else bif decide (x>y)then ay (Li 1)else ay (Li 0)
def OJ:ao:=λc n args=>
 aF .i32 args λx args=>aJ args<|ay (Lb (!(x==x)))
end
set_option linter.unusedVariables false
set_option maxRecDepth 10000
set_option maxHeartbeats 4000000
noncomputable section
end
set_option linter.unusedVariables false
set_option maxRecDepth 10000
set_option maxHeartbeats 4000000
noncomputable section
end
set_option linter.unusedVariables false
set_option maxRecDepth 10000
set_option maxHeartbeats 4000000
noncomputable section
end
set_option linter.unusedVariables false
set_option maxRecDepth 10000
set_option maxHeartbeats 4000000
noncomputable section
end
set_option linter.unusedVariables false
set_option maxRecDepth 10000
set_option maxHeartbeats 4000000
noncomputable section
def GL:ao:=λc n args=>
 bL 1 args λa an args=>ck args λb1 bQ=>bif !((an:Int)==(bQ:Int))then ay (Lb false)else Q_ (ay (Lb true)) λaA=>cI (λaV i=>bif decide (i<(an:Int))then Zn 1 a i an λx=>Zn 1 b1 i bQ λx1=>bif !(x==x1)then ay (Lb false)else aV (Li (ar (i+1)))else aA []) n (Li 0)
def OF:ao:=λc n args=>
 bL 1 args λs1 ni args=>ck args λs2 qY=>bif !((ni:Int)==(qY:Int))then ay (Lb false)else Q_ (ay (Lb true)) λaA=>cI (λaV x=>bif decide (x<(ni:Int))then Zn 1 s1 x ni λx1=>Zn 1 s2 x qY λx2=>bif !(x1==x2)then ay (Lb false)else aV (Li (ar (x+1)))else aA []) n (Li 0)
end
set_option linter.unusedVariables false
set_option maxRecDepth 10000
set_option maxHeartbeats 4000000
noncomputable section
end
set_option linter.unusedVariables false
set_option maxRecDepth 10000
set_option maxHeartbeats 4000000
noncomputable section
end
set_option linter.unusedVariables false
set_option maxRecDepth 10000
set_option maxHeartbeats 4000000
noncomputable section
def Rj:ao:=λc n args=>
 ZF args λx x1 x2 x3 dZ x4 dh x5 gF=>bd (c 141 (ur x x1 x2)) λx6=>az (λb1=>az (λb2=>bif b2 then ay (Lb false)else c9 (c 142 (zU x x1 x2 x3 dZ x4 dh x5 gF)) λds=>bL 4 ds λx7 vg ds=>aJ ds<|az (λb3=>bif b3 then ay (Lb false)else aC (decide (0<=(dh:Int))&&decide ((dh:Int)<=(dh:Int))&&decide ((dh:Int)<=70368744177664))<|cg (ig ((dh:Int).toNat) (Lb false)) λi=>Q_ (Q_ (Q_ (ay (Lb true)) λdw=>cI (λaV i1=>bif decide (i1<(dh:Int))then Zn 1 x4 i1 dh λx8=>az (λb4=>az (λb5=>bif b5 then ay (Lb false)else aV (Li (ar (i1+1)))) λgM=>bif b4 then gM (Lb true)else aC (aQ i1 ((dh:Int).toNat))<|ql i (i1.toNat*1) λx9=>az (λb6=>az (λb7=>gM (Lb b7)) λjP=>bif b6 then bd (c 143 (eW x5 gF i1)) λdx=>jP (Lb (!dx))else jP (Lb false)) λgN=>bif !x9 then Zn 1 x4 i1 dh λeV=>gN (Lb (decide (eV<x2)))else gN (Lb false)) λfW=>bif decide (x8<1)then fW (Lb true)else Zn 1 x4 i1 dh λfL=>
 fW (Lb (decide (fL>x2)))else dw []) n (Li 0)) λcd=>cI (λdA i5=>bif decide (i5<(gF:Int))then Zn 1 x5 i5 gF λgp=>az (λb8=>az (λb9=>az (λxg=>az (λT5=>bif T5 then ay (Lb false)else dA (Li (ar (i5+1)))) λI6=>bif xg then I6 (Lb true)else aC (decide (0<=i5)&&decide (i5<=(gF:Int)))<|bd (c 143 (eW x5 i5.toNat gp)) λik=>I6 (Lb ik)) λnb=>bif b9 then nb (Lb true)else Zn 1 x4 gp dh λgx=>nb (Lb (decide (gx>=x2)))) λpX=>bif b8 then pX (Lb true)else aC (aQ gp ((dh:Int).toNat))<|ql i (gp.toNat*1) λgT=>pX (Lb gT)) λkq=>bif decide (gp<0)then kq (Lb true)else kq (Lb (decide (gp>=(dh:Int))))else cd []) n (Li 0)) λbC=>cI (λuY i8=>bif decide (i8<(vg:Int))then N_ x7 i8 vg λi9 o5=>bS i9 (i8.toNat*4+o5) 2 λbN=>gP bN λiP kO=>az (λT6=>az (λT7=>az (λb14=>bif b14 then ay (Lb false)else aC (aQ iP ((dh:Int).toNat))<|ee i (iP.toNat*1) (Lb true)<|uY (Li (ar (i8+1)))) λYX=>
 bif T7 then YX (Lb true)else Zn 1 x4 iP dh λjT=>YX (Lb (!(kO==jT)))) λYW=>bif T6 then YW (Lb true)else aC (aQ iP ((dh:Int).toNat))<|ql i (iP.toNat*1) λkQ=>YW (Lb kQ)) λYV=>bif decide (iP<0)then YV (Lb true)else YV (Lb (decide (iP>=(dh:Int))))else bC []) n (Li 0)) λaS=>bif decide ((vg:Int)>(dh:Int))then aS (Lb true)else aS (Lb (decide ((gF:Int)>(dh:Int))))) λaI=>bif b1 then aI (Lb true)else bd (c 144 [.slice 2 x3 dZ]) λnp=>aI (Lb (!np))) λaA=>bif !x6 then aA (Lb true)else aA (Lb (decide ((dh:Int)>x1)))
def Zip:ao:=λc n args=>
 bn args λcs args=>aF .i64 cs λa r=>ZK r λa1 a2 a3 EK a4 T0 a5 T1=>ZF args λb1 b2 b3 b4 HF b5 T8 b6 T9=>az (λb7=>az (λb8=>az (λb9=>bif b9 then ay (Lb false)else Q_ (ay (Lb true)) λbC=>cI (λaV i=>bif decide (i<(EK:Int))then ua 2 a3 i EK λx=>ua 2 b4 i HF λx1=>az (λxg=>bif xg then ay (Lb false)else aV (Li (ar (i+1)))) λcd=>bif !(x==x1)then cd (Lb true)else N_ a3 i EK λi3 o2=>bG i3 (i.toNat*2+o2+1) λd2=>dE 4 d2 λx2 di=>N_ b4 i HF λi4 o3=>bG i4 (i.toNat*2+o3+1) λd3=>dE 4 d3 λx3 dZ=>bd (c 153 [.slice 4 x2 di,.slice 4 x3 dZ]) λx4=>cd (Lb (!x4))else bC []) n (Li 0)) λaS=>bif b8 then aS (Lb true)else bd (c 113 (uf a5 T1 b6 T9)) λx5=>aS (Lb (!x5))) λaI=>bif b7 then aI (Lb true)else bd (c 113 (uf a4 T0 b5 T8)) λx6=>aI (Lb (!x6))) λaA=>bif !((a==b1)&&((a1==b2)&&((a2==b3)&&true)))then aA (Lb true)else aA (Lb (!((EK:Int)==(HF:Int))))
def PH:ao:=λc n args=>
 ZF args λx x1 x2 x3 dZ x4 dh x5 gF=>az (λb1=>az (λb2=>az (λb3=>bif b3 then ay (Lb false)else Q_ (ay (Lb true)) λbC=>cI (λaV i=>bif decide (i<(dZ:Int))then N_ x3 i dZ λi1 o=>bG i1 (i.toNat*2+o+1) λd=>dE 4 d λx6 mI=>az (λb4=>bif b4 then ay (Lb false)else aV (Li (ar (i+1)))) λcd=>bif decide ((mI:Int)>40)then cd (Lb true)else ua 2 x3 i dZ λx7=>cd (Lb (decide ((x7.length:Int)>60)))else bC []) n (Li 0)) λaS=>bif b2 then aS (Lb true)else aS (Lb (decide (x>400)))) λaI=>bif b1 then aI (Lb true)else aI (Lb (decide ((gF:Int)>60)))) λaA=>bif decide ((dZ:Int)>8)then aA (Lb true)else aA (Lb (decide ((dh:Int)>60)))
def PL:ao:=λc n args=>
 Ci args λg g1 g2=>az (λb1=>az (λb2=>az (λb3=>az (λb4=>az (λb5=>ay (Lb b5)) λcd=>bif b4 then cd (Lb (decide (g2<=4294967295)))else cd (Lb false)) λbC=>bif b3 then bC (Lb (decide (g2>=1)))else bC (Lb false)) λaS=>bif b2 then aS (Lb (decide (g1<=1792)))else aS (Lb false)) λaI=>bif b1 then aI (Lb (decide (g1>=1)))else aI (Lb false)) λaA=>bif decide (g>=16)then aA (Lb (decide (g<=3072)))else aA (Lb false)
def O1:ao:=λc n args=>
 ZF args λx x1 x2 x3 dZ x4 dh x5 gF=>iU λb0=>BY (λout nS=>cu b0 (tU out nS)) λaA=>cY (λaV st=>bL 4 st λiN fS st=>cA st λi=>bif decide (i<(dZ:Int))then N_ x3 i dZ λi1 o=>bG i1 (i.toNat*2+o+1) λd=>dE 4 d λx6 mI=>da x6 (mI*4) λbN=>cm 4 iN fS bN mI 2199023255552 λp=>aV [.slice 4 p (fS+mI),.int .i64 (ar (i+1))]else aA (tU iN fS)) n (j1 none 0 0)
def Q2:ao:=λc n args=>
 rL args λl ln n1=>Q_ (ay (Lb false)) λaA=>cI (λaV i=>bif decide (i<(ln:Int))then Zn 1 l i ln λx=>bif x==n1 then ay (Lb true)else aV (Li (ar (i+1)))else aA []) n (Li 0)
def Qf:ao:=λc n args=>
 bL 2 args λl ln args=>aJ args<|bif decide ((ln:Int)>16)then ay (Lb false)else Q_ (ay (Lb true)) λaA=>cI (λaV i=>bif decide (i<(ln:Int))then Q_ (aV (Li (ar (i+1)))) λaI=>ua 2 l i ln λx=>bd (c 27 (Ls x)) λx1=>az (λb1=>bif b1 then ay (Lb false)else Q_ (aI []) λbC=>cI (λdA k=>N_ l i ln λi2 o1=>bG i2 (i.toNat*2+o1+1) λd1=>dE 4 d1 λx2 di=>bif decide (k<(di:Int))then N_ l i ln λi3 o2=>bG i3 (i.toNat*2+o2+1) λd2=>dE 4 d2 λx3 dZ=>bJ x3 λi4 o3=>aC (aQ (ar (k-1)) dZ)<|bS i4 (((ar (k-1)).toNat)*4+o3) 4 λcs=>pE cs λx4 x5 x6 x7=>N_ l i ln λi5 o4=>bG i5 (i.toNat*2+o4+1) λd3=>dE 4 d3 λx8 tK=>N_ x8 k tK λi6 o5=>bS i6 (k.toNat*4+o5) 4 λbN=>pE bN λx9 dx eV fL=>bd (c 155 (zT x4 x5 x6 x7 x9 dx eV fL)) λgp=>bif !gp then ay (Lb false)else dA (Li (ar (k+1)))else bC []) n (Li 1)) λaS=>bif !x1 then aS (Lb true)else az (λb2=>aS (Lb b2)) λcd=>bif decide (i>0)then bJ l λi7 o6=>
 aC (aQ (ar (i-1)) ln)<|bG i7 (((ar (i-1)).toNat)*2+o6) λd4=>Ay d4 λik=>ua 2 l i ln λgx=>cQ (c 40 [.str ik,.str gx]) λgT=>cd (Lb (decide (gT>=0)))else cd (Lb false)else aA []) n (Li 0)
def Gy:ao:=λc n args=>
 Ci args λg g1 g2=>az (λb1=>az (λb2=>az (λb3=>az (λb4=>az (λb5=>ay (Lb b5)) λcd=>bif b4 then cd (Lb (decide (g2<=4294967295)))else cd (Lb false)) λbC=>bif b3 then bC (Lb (decide (g2>=1)))else bC (Lb false)) λaS=>bif b2 then aS (Lb (decide (g1<=1792)))else aS (Lb false)) λaI=>bif b1 then aI (Lb (decide (g1>=1)))else aI (Lb false)) λaA=>bif decide (g>=16)then aA (Lb (decide (g<=3072)))else aA (Lb false)
def Ol:ao:=λc n args=>
 bL 1 args λs sn args=>L5 args λf ff fc args=>aJ args<|cQ (c 156 [.slice 1 s sn,.func f ff fc]) λx=>ay (Lb (decide (x>=0)))
def D4:ao:=λc n args=>
 bL 4 args λa an args=>bL 4 args λb1 bQ args=>aJ args<|bif !((an:Int)==(bQ:Int))then ay (Lb false)else Q_ (ay (Lb true)) λaA=>cI (λaV i=>bif decide (i<(an:Int))then N_ a i an λi1 o=>bS i1 (i.toNat*4+o) 4 λcs=>pE cs λx x1 x2 x3=>N_ b1 i bQ λi2 o1=>bS i2 (i.toNat*4+o1) 4 λbN=>pE bN λx4 x5 x6 x7=>bif !((x==x4)&&((x1==x5)&&((x2==x6)&&((x3==x7)&&true))))then ay (Lb false)else aV (Li (ar (i+1)))else aA []) n (Li 0)
def Qe:ao:=λc n args=>
 J5 args λa a1 a2 a3 b1 b2 b3 b4=>bif !(a2==b3)then ay (Lb (decide (a2<b3)))else bif !(a==b1)then ay (Lb (decide (a<b1)))else ay (Lb (decide (a1<b2)))
def Ou:ao:=λc n args=>
 bL 1 args λs sn args=>L5 args λf ff fc args=>aJ args<|Q_ (ay (Li (-1))) λaA=>cI (λaV x=>bif decide (x<(sn:Int))then Zn 1 s x sn λx1=>bd (c f (ff++(Li x1)++fc)) λx2=>bif x2 then ay (Li x)else aV (Li (ar (x+1)))else aA []) n (Li 0)
def GC:ao:=λc n args=>
 J5 args λa a1 a2 a3 b1 b2 b3 b4=>mK (c 161 (fV a2 b3)) λx=>mK (c 161 (fV a b1)) λx1=>cQ (c 161 (fV a1 b2)) λx2=>cg (yo x x1 x2) λi=>cQ (c 162 (bD (some (i,0)) 3)) λx3=>ay (Li x3)
def Gx:ao:=λc n args=>
 gP args λx y=>bd (c 163 (Li x)) λx1=>bd (c 163 (Li y)) λx2=>bif x1 then bif x2 then ay (Li 0)else ay (Li (-1))else bif x2 then ay (Li 1)else bif decide (x<y)then ay (Li (-1))else bif decide (x>y)then ay (Li 1)else ay (Li 0)
def GB:ao:=λc n args=>
 ck args λagJ aaz=>Q_ (ay (Li 0)) λaA=>cI (λaV x=>bif decide (x<(aaz:Int))then Zn 1 agJ x aaz λx1=>bif !(x1==0)then ay (Li x1)else aV (Li (ar (x+1)))else aA []) n (Li 0)
def Gu:ao:=λc n args=>
 cA args λx=>ay (Lb (!(x==x)))
end
structure Ke (Bd:Zh):Prop where
 eq:Bd 162=GB
structure J7 (Bd:Zh):Prop where
 eq:Bd 163=Gu
structure Gw (Bd:Zh):Prop where
 eq:Bd 161=Gx
 q1:J7 Bd
structure D0 (Bd:Zh):Prop where
 eq:Bd 159=GC
 q2:Ke Bd
 q0:Gw Bd
structure Pf (Bd:Zh):Prop where
 eq:Bd 153=D4
end Go.Gv
