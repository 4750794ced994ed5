/- slices.SortFunc at entries (slot, gen, key, value), by key, slot and gen: a body of our own. -/
import Derived.Test.YtegglibipjjblaaGreatDoorGvDef
import Derived.Test.YtegglibipjjblaaGreatDoorGvZRun
set_option linter.all false
namespace Go.Gv
abbrev E4:=Int×Int×Int×Int
def fm (x y:E4):Bool:=decide (x.2.2.1<y.2.2.1)||(x.2.2.1==y.2.2.1&&(decide (x.1<y.1)||(x.1==y.1&&decide (x.2.1<y.2.1))))
def CQ (x:E4):List E4->List E4
 |[]=>[x]
 |y::r=>bif fm x y then x::y::r else y::CQ x r
def jM:List E4->List E4
 |[]=>[]
 |x::r=>CQ x (jM r)
def B2:List E4->Bool
 |[]=>true
 |x::r=>r.all (λy=>fm x y||fm y x)&&B2 r
def q9 (x:E4):ah:=[.int .i64 x.1,.int .i64 x.2.1,.int .i64 x.2.2.1,.int .i64 x.2.2.2]
def lQ:List E4->ah
 |[]=>[]
 |x::r=>q9 x++lQ r
def yl:ah->Option (List E4)
 |[]=>some []
 | .int .i64 a:: .int .i64 b:: .int .i64 c:: .int .i64 d::r=>(match yl r with|some l=>some ((a,b,c,d)::l)|none=>none)
 |_=>none
def GX:ao:=λ_ _ args=>
 match args with
 |[.slice 4 a n,.func 159 [] []]=>(match a with
  |none=>bif Nat.beq n 0 then ay []else fail
  |some (i,o)=>λs=>match s.hY i with
   |some cs=>bif Nat.ble (o+n*4) cs.length then(match yl ((cs.drop o).take (n*4))with
    |some l=>bif B2 l&&Nat.ble n 1000000 then ay [] (s.set i (some ⟨false,cq cs o (lQ (jM l))⟩))else none
    |none=>none)else none
   |none=>none)
 |_=>fail
theorem BT (x y:E4):fm x y=true↔x.2.2.1<y.2.2.1\/(x.2.2.1=y.2.2.1/\(x.1<y.1\/(x.1=y.1/\x.2.1<y.2.1))):=by
 simp[fm]
variable {y:E4}
theorem QR {x:E4} (h:fm x y=true):fm y x=false:=by
 rw[BT]at h;grind[BT]
variable {z:E4}
theorem Rg {x:E4} (h:fm x y=true) (k:fm y z=true):fm x z=true:=by
 rw[BT]at*;omega
theorem Ztw {x:E4} (h:fm x y=false) (k:fm y z=false):fm x z=false:=by
 cases e:fm x z with
 |false=>rfl
 |true=>
  have h1: ¬fm x y=true:=by rw[h];simp
  have h2: ¬fm y z=true:=by rw[k];simp
  rw[BT]at*
  omega
theorem RC (x:E4): ∀l,(CQ x l).Perm (x::l)
 |[]=> .refl _
 |y::r=>by
  unfold CQ;cases fm x y with
  |true=>exact .refl _
  |false=>exact((RC x r).cons y).trans (.swap x y r)
theorem J1: ∀l,(jM l).Perm l
 |[]=> .refl _
 |x::r=>(RC x _).trans ((J1 r).cons x)
def Ap (x y:E4):Prop:=fm x y=true\/fm y x=true
theorem RD: ∀ {l:List E4},B2 l=true->l.Pairwise Ap
 |[],_=> .nil
 |x::r,h=>by
  simp only[B2,aW,uF,l9]at h;exact .cons (λy hy=>h.1 y hy) (RD h.2)
theorem Zmw (x:E4): ∀ {l:List E4},l.Pairwise (λa b=>fm a b=true)->(∀y∈l,Ap x y)->(CQ x l).Pairwise (λa b=>fm a b=true)
 |[],_,_=>by simp[CQ]
 |y::r,h,ha=>by
  cases h with
  |cons h1 h2=>
   unfold CQ;cases e:fm x y with
   |true=>
    refine .cons (λz hz=>?_) (.cons h1 h2);rcases dW.1 hz with rfl|hz
    .exact e
    .exact Rg e (h1 z hz)
   |false=>
    refine .cons (λz hz=>?_) (Zmw x h2 λz hz=>ha z (wb _ hz));rcases dW.1 ((RC x r).mem_iff.1 hz)with rfl|hz
    .rcases ha y sb with h|h
     .rw[e]at h;cases h
     .exact h
    .exact h1 z hz
theorem Zlh: ∀ {l:List E4},l.Pairwise Ap->(jM l).Pairwise (λa b=>fm a b=true)
 |[],_=> .nil
 |x::r,.cons h1 h2=>Zmw x (Zlh h2) λy hy=>h1 y ((J1 r).mem_iff.1 hy)
theorem Ap.symm {x:E4} (h:Ap x y):Ap y x:=h.elim .inr .inl
theorem ZnQ {l l':List E4} (hp:l'.Perm l) (ha:l.Pairwise Ap) (hs:l'.Pairwise (λa b=>fm b a=false)):l'=jM l:=by
 have Cj:l'.Pairwise Ap:=(hp.pairwise_iff λh=>h.symm).2 ha;have iy:l'.Pairwise (λa b=>fm a b=true):=by
  refine List.Pairwise.imp₂ ?_ Cj hs;intro a b h1 h2;rcases h1 with h|h
  .exact h
  grind
 refine List.Perm.eq_of_pairwise (le:=λa b=>fm a b=true) (λa b _ _ h1 h2=>?_) iy (Zlh ha) (hp.trans (J1 l).symm);rw[QR h1]at h2;cases h2
theorem QX (l:List E4):(jM l).length=l.length:=(J1 l).length_eq
theorem DW: ∀l:List E4,(lQ l).length=l.length*4
 |[]=>rfl
 |x::r=>by rw[lQ,bA,DW r,cO];show 4+_=_;omega
theorem ZpP: ∀ {ds:ah} {l:List E4},yl ds=some l->ds=lQ l
 |[],l,h=>by cases h;rfl
 | .int .i64 a:: .int .i64 b:: .int .i64 c:: .int .i64 d::r,l,h=>by
  unfold yl at h;cases hr:yl r with
  |none=>rw[hr]at h;cases h
  |some l'=>
   rw[hr]at h;cases h;rw[ZpP hr];rfl
noncomputable section
def aft (c:Int):Op->Op
 | .binOp .mul t x (.const (.int k _)) t'=> .binOp .mul t x (.const (.int k c)) t'
 |o=>o
def Zw6 (c:Int) (o:Oper):Oper:= { o with op:=aft c o.op }
def G7 (c:Int):Code->Code
 | .region i ops d=> .region i ⟨ops.toList.map (Zw6 c)⟩ d
 | .seq a b=> .seq (G7 c a) (G7 c b)
 | .cond o a b=> .cond o (G7 c a) (G7 c b)
 |x=>x
def Yv (c:Int) (f:Func):Func:= { f with body:=f.body.map (G7 c) }
def Tx (k:Int):Zg->Nat->ah->M ah:=λ_ _ args=>
 aF .u64 args λx args=>
 aJ args<|
 bif x==0 then
  ay [.int .i64 64]
 else
  aB (aP ((IntKind.wrap .u64 ((bits .and .u64 x (IntKind.wrap .u64 (0-x)))*k)).fdiv (2^58)) 64)<|
  bF 2 ((((IntKind.wrap .u64 ((bits .and .u64 x (IntKind.wrap .u64 (0-x)))*k)).fdiv (2^58)).toNat)*1+0) λd=>
  cP .u8 d λx1=>
  ay [.int .i64 (ar (x1))]
def F5:ao:=Tx 285870213051353865
theorem ZxO {C:bx} {A:FA} {f:Func} (h: ∀c,tS C A (Yv c f)=Tx c) (e:Yv 285870213051353865 f=f):tS C A f=F5:=by
 have:=h 285870213051353865;rw[e]at this;exact this
end
set_option linter.unusedVariables false
set_option maxRecDepth 10000
set_option maxHeartbeats 4000000
noncomputable section
def OZ:ao:=λc n args=>
 kK args λs=>jn λb0=>fX (λout nB=>cu b0 (bE out nB)) λaA=>cW (λaU st=>ep st λs1 st=>cm st λiH fO=>bif decide ((s1.length:Int)>0)then cY (c 15 (Ls s1)) λds=>gK ds λx x1=>cd (Li x) λi=>bQ i 0 1 λcs=>cj 1 iH fO cs 1 8796093022208 λp=>aB (decide (0<=x1)&&decide (x1<=(s1.length:Int)))<|aU [.str (s1.drop x1.toNat),.slice 1 p (fO+1)]else aA (bE iH fO)) n [.str s,.slice 0 none 0]
def Pa:ao:=λc n args=>
 kK args λs=>aB (aP 0 s.length)<|bif decide (ZQ s 0<128)then ay (fW (ar (ZQ s 0)) 1)else az (λb1=>az (λb2=>bif b2 then aB (aP 1 s.length)<|ay (fW (ar ((ar ((ar (IntKind.wrap .u8 ((ZQ s 0)-192)))*64))+(ar (IntKind.wrap .u8 ((ZQ s 1)-128))))) 2)else az (λb3=>Q_ (ay (fW 65533 1)) λbz=>bif b3 then FZ (λlo=>FZ (λhi=>aY (c 19 (BN s 1 lo hi)) λx=>az (λb4=>bif b4 then aB (aP 1 s.length)<|aB (aP 2 s.length)<|ay (fW (ar ((ar ((ar ((ar (IntKind.wrap .u8 ((ZQ s 0)-224)))*4096))+(ar ((ar (IntKind.wrap .u8 ((ZQ s 1)-128)))*64))))+(ar (IntKind.wrap .u8 ((ZQ s 2)-128))))) 3)else bz []) λfS=>bif x then aY (c 19 (BN s 2 128 191)) λx1=>fS (Lb x1)else fS (Lb false)) λdp=>bif (ZQ s 0)==237 then dp (mj 159)else dp (mj 191)) λca=>bif (ZQ s 0)==224 then ca (mj 160)else ca (mj 128)else az (λb5=>Q_ (bz []) λgH=>bif b5 then FZ (λlo1=>FZ (λHR=>aY (c 19 (BN s 1 lo1 HR)) λx2=>az (λb6=>az (λb7=>
 bif b7 then aB (aP 1 s.length)<|aB (aP 2 s.length)<|aB (aP 3 s.length)<|ay (fW (ar ((ar ((ar ((ar ((ar (IntKind.wrap .u8 ((ZQ s 0)-240)))*262144))+(ar ((ar (IntKind.wrap .u8 ((ZQ s 1)-128)))*4096))))+(ar ((ar (IntKind.wrap .u8 ((ZQ s 2)-128)))*64))))+(ar (IntKind.wrap .u8 ((ZQ s 3)-128))))) 4)else gH []) λmI=>bif b6 then aY (c 19 (BN s 3 128 191)) λx3=>mI (Lb x3)else mI (Lb false)) λpj=>bif x2 then aY (c 19 (BN s 2 128 191)) λx4=>pj (Lb x4)else pj (Lb false)) λj7=>bif (ZQ s 0)==244 then j7 (mj 143)else j7 (mj 191)) λjJ=>bif (ZQ s 0)==240 then jJ (mj 144)else jJ (mj 128)else gH []) λgG=>bif decide (ZQ s 0>=240)then gG (Lb (decide (ZQ s 0<=244)))else gG (Lb false)) λaR=>bif decide (ZQ s 0>=224)then aR (Lb (decide (ZQ s 0<=239)))else aR (Lb false)) λaI=>bif b1 then aY (c 19 (BN s 1 128 191)) λx5=>aI (Lb x5)else aI (Lb false)) λaA=>bif decide (ZQ s 0>=194)then aA (Lb (decide (ZQ s 0<=223)))else aA (Lb false)
def OK:ao:=λc n args=>
 ep args λs args=>aF .i64 args λbW args=>Zpw args λlo hi=>az (λb1=>az (λb2=>ay (Lb b2)) λaI=>bif b1 then aB (aP bW s.length)<|aI (Lb (decide (ZQ s bW<=hi)))else aI (Lb false)) λaA=>bif decide (bW<(s.length:Int))then aB (aP bW s.length)<|aA (Lb (decide (ZQ s bW>=lo)))else aA (Lb false)
end
set_option linter.unusedVariables false
set_option maxRecDepth 10000
set_option maxHeartbeats 4000000
noncomputable section
def Qc:ao:=λc n args=>
 kK args λs=>nM (λn1=>ay (Lb (decide (n1>0)))) λaA=>cW (λaU st=>aF .i64 st λn2 st=>Ju st λp=>bif Nat.blt p s.length then az (λb1=>bif b1 then ay (Lb false)else aU [.int .i64 (ar (n2+1)),.nat (p+uy s p)]) λaI=>bif decide (ar (n2+1)>8)then aI (Lb true)else aY (c 28 (Bu (BX s p))) λx=>aI (Lb (!x))else aA (Li n2)) n [.int .i64 0,.nat 0]
def Pm:ao:=λc n args=>
 kK args λs=>lN (c 12 (Ls s)) λx xn=>az (λb1=>az (λok=>ay (Lb ok)) λaI=>cW (λaU st=>gP st λA0 st=>cy st λi=>bif decide (i<(xn:Int))then az (λb2=>aU (Du b2 (ar (i+1)))) λaR=>bif A0 then Zn 1 x i xn λx1=>aY (c 29 (Li x1)) λx2=>aR (Lb x2)else aR (Lb false)else aI (Lb A0)) n (Du b1 0)) λaA=>bif decide ((xn:Int)>0)then aA (Lb (decide ((xn:Int)<=8)))else aA (Lb false)
def Ro:ao:=λc n args=>
 aF .i32 args λr1 args=>aJ args<|cY (c 54 []) λds=>bj ds λcs ds=>bu cs 12<|aJ ds<|Q_ (ay (Lb false)) λaA=>cH (λaU x=>bif decide (x<6)then aB (aP x 6)<|bu ((cs.drop (x.toNat*2)).take 2) 2<|ej ((cs.drop (x.toNat*2)).take 2) 0 λd=>cP .i32 d λx1=>az (λb1=>bif b1 then ay (Lb true)else aU (Li (ar (x+1)))) λaI=>bif decide (r1>=x1)then ej ((cs.drop (x.toNat*2)).take 2) 1 λd1=>cP .i32 d1 λx2=>aI (Lb (decide (r1<=x2)))else aI (Lb false)else aA []) n (Li 0)
def Q2:ao:=λc n args=>
 cy args λr1=>az (λb1=>az (λb2=>az (λb3=>az (λb4=>az (λb5=>az (λb6=>ay (Lb b6)) λdp=>bif b5 then dp (Lb true)else az (λb7=>dp (Lb b7)) λfS=>bif decide (r1>=161)then fS (Lb (decide (r1<=65519)))else fS (Lb false)) λca=>bif b4 then ca (Lb true)else ca (Lb (r1==95))) λbz=>bif b3 then bz (Lb true)else bz (Lb (r1==45))) λaR=>bif b2 then aR (Lb true)else az (λb8=>aR (Lb b8)) λgG=>bif decide (r1>=48)then gG (Lb (decide (r1<=57)))else gG (Lb false)) λaI=>bif b1 then aI (Lb true)else az (λb9=>aI (Lb b9)) λgH=>bif decide (r1>=65)then gH (Lb (decide (r1<=90)))else gH (Lb false)) λaA=>bif decide (r1>=97)then aA (Lb (decide (r1<=122)))else aA (Lb false)
def PE:ao:=λc n args=>
 kK args λs=>jn λb0=>fX (λout nB=>cu b0 (bE out nB)) λaA=>cW (λaU st=>bN 1 st λiH fO st=>Ju st λp=>bif Nat.blt p s.length then cd (Bu (BX s p)) λi=>bQ i 0 1 λcs=>cj 1 iH fO cs 1 17592186044416 λp1=>aU [.slice 1 p1 (fO+1),.nat (p+uy s p)]else aA (bE iH fO)) n [.slice 0 none 0,.nat 0]
def OB:ao:=λc n args=>
 ep args λa args=>kK args λb1=>lN (c 34 (Ls a)) λx xn=>lN (c 34 (Ls b1)) λx1 kH=>cM (c 57 (tH x xn x1 kH)) λx2=>ay (Li x2)
def N4:ao:=λc n args=>
 ep args λa args=>kK args λb1=>lN (c 12 (Ls a)) λx xn=>lN (c 12 (Ls b1)) λx1 kH=>Q_ (bif decide ((xn:Int)<(kH:Int))then ay (Li (-1))else bif decide ((xn:Int)>(kH:Int))then ay (Li 1)else ay (Li 0)) λaA=>cH (λaU i=>az (λb2=>bif b2 then Zn 1 x i xn λx2=>Zn 1 x1 i kH λx3=>bif decide (x2<x3)then ay (Li (-1))else Zn 1 x i xn λx4=>Zn 1 x1 i kH λx5=>bif decide (x4>x5)then ay (Li 1)else aU (Li (ar (i+1)))else aA []) λaI=>bif decide (i<(xn:Int))then aI (Lb (decide (i<(kH:Int))))else aI (Lb false)) n (Li 0)
def ZlH:ao:=λc n args=>
 aJ args<|ay [.agg [.int .i32 97,.int .i32 122,.int .i32 65,.int .i32 90,.int .i32 48,.int .i32 57,.int .i32 45,.int .i32 45,.int .i32 95,.int .i32 95,.int .i32 161,.int .i32 65519]]
def NQ:ao:=λc n args=>
 bN 1 args λs1 mO args=>cm args λs2 qz=>Q_ (bif decide ((mO:Int)<(qz:Int))then ay (Li (-1))else ay (Li 0)) λaA=>cH (λaU x=>bif decide (x<(mO:Int))then N_ s1 x mO λi o=>bF i (x.toNat*1+o) λd=>cP .i32 d λx1=>bif decide (x>=(qz:Int))then ay (Li 1)else N_ s2 x qz λi1 o1=>bF i1 (x.toNat*1+o1) λd1=>cP .i32 d1 λx2=>cM (c 64 [.int .i32 x1,.int .i32 x2]) λx3=>bif !(x3==0)then ay (Li x3)else aU (Li (ar (x+1)))else aA []) n (Li 0)
def NT:ao:=λc n args=>
 aF .i32 args λx args=>aF .i32 args λy args=>aJ args<|aY (c 72 (Bu x)) λx1=>aY (c 72 (Bu y)) λx2=>bif x1 then bif x2 then ay (Li 0)else ay (Li (-1))else bif x2 then ay (Li 1)else bif decide (x<y)then ay (Li (-1))else bif decide (x>y)then ay (Li 1)else ay (Li 0)
def Ob:ao:=λc n args=>
 aF .i32 args λx args=>aJ args<|ay (Lb (!(x==x)))
end
set_option linter.unusedVariables false
set_option maxRecDepth 10000
set_option maxHeartbeats 4000000
noncomputable section
end
set_option linter.unusedVariables false
set_option maxRecDepth 10000
set_option maxHeartbeats 4000000
noncomputable section
end
set_option linter.unusedVariables false
set_option maxRecDepth 10000
set_option maxHeartbeats 4000000
noncomputable section
end
set_option linter.unusedVariables false
set_option maxRecDepth 10000
set_option maxHeartbeats 4000000
noncomputable section
end
set_option linter.unusedVariables false
set_option maxRecDepth 10000
set_option maxHeartbeats 4000000
noncomputable section
def Ga:ao:=λc n args=>
 bN 1 args λa an args=>cm args λb1 bX=>bif !((an:Int)==(bX:Int))then ay (Lb false)else Q_ (ay (Lb true)) λaA=>cH (λaU i=>bif decide (i<(an:Int))then Zn 1 a i an λx=>Zn 1 b1 i bX λx1=>bif !(x==x1)then ay (Lb false)else aU (Li (ar (i+1)))else aA []) n (Li 0)
def N2:ao:=λc n args=>
 bN 1 args λs1 mO args=>cm args λs2 qz=>bif !((mO:Int)==(qz:Int))then ay (Lb false)else Q_ (ay (Lb true)) λaA=>cH (λaU x=>bif decide (x<(mO:Int))then Zn 1 s1 x mO λx1=>Zn 1 s2 x qz λx2=>bif !(x1==x2)then ay (Lb false)else aU (Li (ar (x+1)))else aA []) n (Li 0)
end
set_option linter.unusedVariables false
set_option maxRecDepth 10000
set_option maxHeartbeats 4000000
noncomputable section
end
set_option linter.unusedVariables false
set_option maxRecDepth 10000
set_option maxHeartbeats 4000000
noncomputable section
end
set_option linter.unusedVariables false
set_option maxRecDepth 10000
set_option maxHeartbeats 4000000
noncomputable section
def Qa:ao:=λc n args=>
 ZD args λx x1 x2 x3 dU x4 da x5 gz=>aY (c 141 (tP x x1 x2)) λx6=>az (λb1=>az (λb2=>bif b2 then ay (Lb false)else cY (c 142 (zy x x1 x2 x3 dU x4 da x5 gz)) λds=>bN 4 ds λx7 uD ds=>aJ ds<|az (λb3=>bif b3 then ay (Lb false)else aB (decide (0<=(da:Int))&&decide ((da:Int)<=(da:Int))&&decide ((da:Int)<=70368744177664))<|cd (hZ ((da:Int).toNat) (Lb false)) λi=>Q_ (Q_ (Q_ (ay (Lb true)) λdp=>cH (λaU i1=>bif decide (i1<(da:Int))then Zn 1 x4 i1 da λx8=>az (λb4=>az (λb5=>bif b5 then ay (Lb false)else aU (Li (ar (i1+1)))) λgG=>bif b4 then gG (Lb true)else aB (aP i1 ((da:Int).toNat))<|sE i (i1.toNat*1) λx9=>az (λb6=>az (λb7=>gG (Lb b7)) λjJ=>bif b6 then aY (c 143 (eU x5 gz i1)) λdq=>jJ (Lb (!dq))else jJ (Lb false)) λgH=>bif !x9 then Zn 1 x4 i1 da λeS=>gH (Lb (decide (eS<x2)))else gH (Lb false)) λfS=>bif decide (x8<1)then fS (Lb true)else Zn 1 x4 i1 da λfJ=>
 fS (Lb (decide (fJ>x2)))else dp []) n (Li 0)) λca=>cH (λdt i5=>bif decide (i5<(gz:Int))then Zn 1 x5 i5 gz λgj=>az (λb8=>az (λb9=>az (λwM=>az (λTs=>bif Ts then ay (Lb false)else dt (Li (ar (i5+1)))) λIE=>bif wM then IE (Lb true)else aB (decide (0<=i5)&&decide (i5<=(gz:Int)))<|aY (c 143 (eU x5 i5.toNat gj)) λij=>IE (Lb ij)) λmI=>bif b9 then mI (Lb true)else Zn 1 x4 gj da λgq=>mI (Lb (decide (gq>=x2)))) λpj=>bif b8 then pj (Lb true)else aB (aP gj ((da:Int).toNat))<|sE i (gj.toNat*1) λgN=>pj (Lb gN)) λj7=>bif decide (gj<0)then j7 (Lb true)else j7 (Lb (decide (gj>=(da:Int))))else ca []) n (Li 0)) λbz=>cH (λuw i8=>bif decide (i8<(uD:Int))then N_ x7 i8 uD λi9 o5=>bQ i9 (i8.toNat*4+o5) 2 λbM=>gK bM λiJ kG=>az (λTt=>az (λTu=>az (λb14=>bif b14 then ay (Lb false)else aB (aP iJ ((da:Int).toNat))<|eI i (iJ.toNat*1) (Lb true)<|uw (Li (ar (i8+1)))) λYq=>
 bif Tu then Yq (Lb true)else Zn 1 x4 iJ da λiX=>Yq (Lb (!(kG==iX)))) λYp=>bif Tt then Yp (Lb true)else aB (aP iJ ((da:Int).toNat))<|sE i (iJ.toNat*1) λkI=>Yp (Lb kI)) λYo=>bif decide (iJ<0)then Yo (Lb true)else Yo (Lb (decide (iJ>=(da:Int))))else bz []) n (Li 0)) λaR=>bif decide ((uD:Int)>(da:Int))then aR (Lb true)else aR (Lb (decide ((gz:Int)>(da:Int))))) λaI=>bif b1 then aI (Lb true)else aY (c 144 [.slice 2 x3 dU]) λmT=>aI (Lb (!mT))) λaA=>bif !x6 then aA (Lb true)else aA (Lb (decide ((da:Int)>x1)))
def PN:ao:=λc n args=>
 bj args λcs args=>aF .i64 cs λa r=>ZH r λa1 a2 a3 Ej a4 Tm a5 Tn=>ZD args λb1 b2 b3 b4 Hj b5 Tv b6 Tw=>az (λb7=>az (λb8=>az (λb9=>bif b9 then ay (Lb false)else Q_ (ay (Lb true)) λbz=>cH (λaU i=>bif decide (i<(Ej:Int))then tD 2 a3 i Ej λx=>tD 2 b4 i Hj λx1=>az (λwM=>bif wM then ay (Lb false)else aU (Li (ar (i+1)))) λca=>bif !(x==x1)then ca (Lb true)else N_ a3 i Ej λi3 o2=>bF i3 (i.toNat*2+o2+1) λd2=>dB 4 d2 λx2 dc=>N_ b4 i Hj λi4 o3=>bF i4 (i.toNat*2+o3+1) λd3=>dB 4 d3 λx3 dU=>aY (c 153 [.slice 4 x2 dc,.slice 4 x3 dU]) λx4=>ca (Lb (!x4))else bz []) n (Li 0)) λaR=>bif b8 then aR (Lb true)else aY (c 113 (tH a5 Tn b6 Tw)) λx5=>aR (Lb (!x5))) λaI=>bif b7 then aI (Lb true)else aY (c 113 (tH a4 Tm b5 Tv)) λx6=>aI (Lb (!x6))) λaA=>bif !((a==b1)&&((a1==b2)&&((a2==b3)&&true)))then aA (Lb true)else aA (Lb (!((Ej:Int)==(Hj:Int))))
def O0:ao:=λc n args=>
 ZD args λx x1 x2 x3 dU x4 da x5 gz=>az (λb1=>az (λb2=>az (λb3=>bif b3 then ay (Lb false)else Q_ (ay (Lb true)) λbz=>cH (λaU i=>bif decide (i<(dU:Int))then N_ x3 i dU λi1 o=>bF i1 (i.toNat*2+o+1) λd=>dB 4 d λx6 nH=>az (λb4=>bif b4 then ay (Lb false)else aU (Li (ar (i+1)))) λca=>bif decide ((nH:Int)>40)then ca (Lb true)else tD 2 x3 i dU λx7=>ca (Lb (decide ((x7.length:Int)>60)))else bz []) n (Li 0)) λaR=>bif b2 then aR (Lb true)else aR (Lb (decide (x>400)))) λaI=>bif b1 then aI (Lb true)else aI (Lb (decide ((gz:Int)>60)))) λaA=>bif decide ((dU:Int)>8)then aA (Lb true)else aA (Lb (decide ((da:Int)>60)))
def O3:ao:=λc n args=>
 BK args λg g1 g2=>az (λb1=>az (λb2=>az (λb3=>az (λb4=>az (λb5=>ay (Lb b5)) λca=>bif b4 then ca (Lb (decide (g2<=4294967295)))else ca (Lb false)) λbz=>bif b3 then bz (Lb (decide (g2>=1)))else bz (Lb false)) λaR=>bif b2 then aR (Lb (decide (g1<=1792)))else aR (Lb false)) λaI=>bif b1 then aI (Lb (decide (g1>=1)))else aI (Lb false)) λaA=>bif decide (g>=16)then aA (Lb (decide (g<=3072)))else aA (Lb false)
def OJ:ao:=λc n args=>
 ZD args λx x1 x2 x3 dU x4 da x5 gz=>jn λb0=>Bx (λout nB=>cu b0 (tw out nB)) λaA=>cW (λaU st=>bN 4 st λiH fO st=>cy st λi=>bif decide (i<(dU:Int))then N_ x3 i dU λi1 o=>bF i1 (i.toNat*2+o+1) λd=>dB 4 d λx6 nH=>dw x6 (nH*4) λbM=>cj 4 iH fO bM nH 2199023255552 λp=>aU [.slice 4 p (fO+nH),.int .i64 (ar (i+1))]else aA (tw iH fO)) n (jQ none 0 0)
def QC:ao:=λc n args=>
 qV args λl ln n1=>Q_ (ay (Lb false)) λaA=>cH (λaU i=>bif decide (i<(ln:Int))then Zn 1 l i ln λx=>bif x==n1 then ay (Lb true)else aU (Li (ar (i+1)))else aA []) n (Li 0)
def Pf:ao:=λc n args=>
 bN 2 args λl ln args=>aJ args<|bif decide ((ln:Int)>16)then ay (Lb false)else Q_ (ay (Lb true)) λaA=>cH (λaU i=>bif decide (i<(ln:Int))then Q_ (aU (Li (ar (i+1)))) λaI=>tD 2 l i ln λx=>aY (c 27 (Ls x)) λx1=>az (λb1=>bif b1 then ay (Lb false)else Q_ (aI []) λbz=>cH (λdt k=>N_ l i ln λi2 o1=>bF i2 (i.toNat*2+o1+1) λd1=>dB 4 d1 λx2 dc=>bif decide (k<(dc:Int))then N_ l i ln λi3 o2=>bF i3 (i.toNat*2+o2+1) λd2=>dB 4 d2 λx3 dU=>bJ x3 λi4 o3=>aB (aP (ar (k-1)) dU)<|bQ i4 (((ar (k-1)).toNat)*4+o3) 4 λcs=>oJ cs λx4 x5 x6 x7=>N_ l i ln λi5 o4=>bF i5 (i.toNat*2+o4+1) λd3=>dB 4 d3 λx8 rZ=>N_ x8 k rZ λi6 o5=>bQ i6 (k.toNat*4+o5) 4 λbM=>oJ bM λx9 dq eS fJ=>aY (c 155 (zw x4 x5 x6 x7 x9 dq eS fJ)) λgj=>bif !gj then ay (Lb false)else dt (Li (ar (k+1)))else bz []) n (Li 1)) λaR=>bif !x1 then aR (Lb true)else az (λb2=>aR (Lb b2)) λca=>bif decide (i>0)then bJ l λi7 o6=>
 aB (aP (ar (i-1)) ln)<|bF i7 (((ar (i-1)).toNat)*2+o6) λd4=>Aa d4 λij=>tD 2 l i ln λgq=>cM (c 40 [.str ij,.str gq]) λgN=>ca (Lb (decide (gN>=0)))else ca (Lb false)else aA []) n (Li 0)
def Gm:ao:=λc n args=>
 BK args λg g1 g2=>az (λb1=>az (λb2=>az (λb3=>az (λb4=>az (λb5=>ay (Lb b5)) λca=>bif b4 then ca (Lb (decide (g2<=4294967295)))else ca (Lb false)) λbz=>bif b3 then bz (Lb (decide (g2>=1)))else bz (Lb false)) λaR=>bif b2 then aR (Lb (decide (g1<=1792)))else aR (Lb false)) λaI=>bif b1 then aI (Lb (decide (g1>=1)))else aI (Lb false)) λaA=>bif decide (g>=16)then aA (Lb (decide (g<=3072)))else aA (Lb false)
def NJ:ao:=λc n args=>
 bN 1 args λs sn args=>Lo args λf ff fc args=>aJ args<|cM (c 156 [.slice 1 s sn,.func f ff fc]) λx=>ay (Lb (decide (x>=0)))
def DC:ao:=λc n args=>
 bN 4 args λa an args=>bN 4 args λb1 bX args=>aJ args<|bif !((an:Int)==(bX:Int))then ay (Lb false)else Q_ (ay (Lb true)) λaA=>cH (λaU i=>bif decide (i<(an:Int))then N_ a i an λi1 o=>bQ i1 (i.toNat*4+o) 4 λcs=>oJ cs λx x1 x2 x3=>N_ b1 i bX λi2 o1=>bQ i2 (i.toNat*4+o1) 4 λbM=>oJ bM λx4 x5 x6 x7=>bif !((x==x4)&&((x1==x5)&&((x2==x6)&&((x3==x7)&&true))))then ay (Lb false)else aU (Li (ar (i+1)))else aA []) n (Li 0)
def Pn:ao:=λc n args=>
 JD args λa a1 a2 a3 b1 b2 b3 b4=>bif !(a2==b3)then ay (Lb (decide (a2<b3)))else bif !(a==b1)then ay (Lb (decide (a<b1)))else ay (Lb (decide (a1<b2)))
def NP:ao:=λc n args=>
 bN 1 args λs sn args=>Lo args λf ff fc args=>aJ args<|Q_ (ay (Li (-1))) λaA=>cH (λaU x=>bif decide (x<(sn:Int))then Zn 1 s x sn λx1=>aY (c f (ff++(Li x1)++fc)) λx2=>bif x2 then ay (Li x)else aU (Li (ar (x+1)))else aA []) n (Li 0)
def Gc:ao:=λc n args=>
 JD args λa a1 a2 a3 b1 b2 b3 b4=>mh (c 161 (fW a2 b3)) λx=>mh (c 161 (fW a b1)) λx1=>cM (c 161 (fW a1 b2)) λx2=>cd (xQ x x1 x2) λi=>cM (c 162 (bE (some (i,0)) 3)) λx3=>ay (Li x3)
def F8:ao:=λc n args=>
 gK args λx y=>aY (c 163 (Li x)) λx1=>aY (c 163 (Li y)) λx2=>bif x1 then bif x2 then ay (Li 0)else ay (Li (-1))else bif x2 then ay (Li 1)else bif decide (x<y)then ay (Li (-1))else bif decide (x>y)then ay (Li 1)else ay (Li 0)
def Gl:ao:=λc n args=>
 cm args λaf2 YZ=>Q_ (ay (Li 0)) λaA=>cH (λaU x=>bif decide (x<(YZ:Int))then Zn 1 af2 x YZ λx1=>bif !(x1==0)then ay (Li x1)else aU (Li (ar (x+1)))else aA []) n (Li 0)
def F6:ao:=λc n args=>
 cy args λx=>ay (Lb (!(x==x)))
end
structure JL (Bd:Zh):Prop where
 eq:Bd 162=Gl
structure JE (Bd:Zh):Prop where
 eq:Bd 163=F6
structure F9 (Bd:Zh):Prop where
 eq:Bd 161=F8
 q1:JE Bd
structure Dz (Bd:Zh):Prop where
 eq:Bd 159=Gc
 q2:JL Bd
 q0:F9 Bd
structure OO (Bd:Zh):Prop where
 eq:Bd 153=DC
end Go.Gv
