/- slices.SortFunc at entries (slot, gen, key, value), by key, slot and gen: a body of our own. -/
import Derived.Test.YtegglibipjjblaaGreatDoorGvZRun
set_option linter.all false
namespace Go.Gv
abbrev E4:=Int×Int×Int×Int
def fL (x y:E4):Bool:=decide (x.2.2.1<y.2.2.1)||(x.2.2.1==y.2.2.1&&(decide (x.1<y.1)||(x.1==y.1&&decide (x.2.1<y.2.1))))
def ED (x:E4):List E4->List E4
 |[]=>[x]
 |y::r=>bif fL x y then x::y::r else y::ED x r
def jB:List E4->List E4
 |[]=>[]
 |x::r=>ED x (jB r)
def DO:List E4->Bool
 |[]=>true
 |x::r=>r.all (λy=>fL x y||fL y x)&&DO r
def su (x:E4):ah:=[.int .i64 x.1,.int .i64 x.2.1,.int .i64 x.2.2.1,.int .i64 x.2.2.2]
def mM:List E4->ah
 |[]=>[]
 |x::r=>su x++mM r
def Ag:ah->Option (List E4)
 |[]=>some []
 | .int .i64 a:: .int .i64 b:: .int .i64 c:: .int .i64 d::r=>(match Ag r with|some l=>some ((a,b,c,d)::l)|none=>none)
 |_=>none
def Ix:ao:=λ_ _ args=>
 match args with
 |[.slice 4 a n,.func 159 [] []]=>(match a with
  |none=>bif Nat.beq n 0 then ay []else fail
  |some (i,o)=>λs=>match s.il i with
   |some cs=>bif Nat.ble (o+n*4) cs.length then(match Ag ((cs.drop o).take (n*4))with
    |some l=>bif DO l&&Nat.ble n 1000000 then ay [] (s.set i (some ⟨false,cE cs o (mM (jB l))⟩))else none
    |none=>none)else none
   |none=>none)
 |_=>fail
def DF (x y:E4):fL x y=true↔x.2.2.1<y.2.2.1\/(x.2.2.1=y.2.2.1/\(x.1<y.1\/(x.1=y.1/\x.2.1<y.2.1))):=by
 simp[fL]
variable {y:E4}
def UB {x:E4} (h:fL x y=true):fL y x=false:=by
 rw[DF]at h;grind[DF]
variable {z:E4}
def UA {x:E4} (h:fL x y=true) (k:fL y z=true):fL x z=true:=by
 rw[DF]at*;omega
def Zu7 {x:E4} (h:fL x y=false) (k:fL y z=false):fL x z=false:=by
 cases e:fL x z with
 |false=>rfl
 |true=>
  have h1: ¬fL x y=true:=by rw[h];simp
  have h2: ¬fL y z=true:=by rw[k];simp
  rw[DF]at*
  omega
def Ug (x:E4): ∀l,(ED x l).Perm (x::l)
 |[]=> .refl _
 |y::r=>by
  unfold ED;cases fL x y with
  |true=>exact .refl _
  |false=>exact((Ug x r).cons y).trans (.swap x y r)
def H7: ∀l,(jB l).Perm l
 |[]=> .refl _
 |x::r=>(Ug x _).trans ((H7 r).cons x)
def Ap (x y:E4):Prop:=fL x y=true\/fL y x=true
def Ux: ∀ {l:List E4},DO l=true->l.Pairwise Ap
 |[],_=> .nil
 |x::r,h=>by
  simp only[DO,aY,vR,lT]at h;exact .cons (λy hy=>h.1 y hy) (Ux h.2)
def Znv (x:E4): ∀ {l:List E4},l.Pairwise (λa b=>fL a b=true)->(∀y∈l,Ap x y)->(ED x l).Pairwise (λa b=>fL a b=true)
 |[],_,_=>by simp[ED]
 |y::r,h,ha=>by
  cases h with
  |cons h1 h2=>
   unfold ED;cases e:fL x y with
   |true=>
    refine .cons (λz hz=>?_) (.cons h1 h2);rcases eF.1 hz with rfl|hz
    .exact e
    .exact UA e (h1 z hz)
   |false=>
    refine .cons (λz hz=>?_) (Znv x h2 λz hz=>ha z (zs _ hz));rcases eF.1 ((Ug x r).mem_iff.1 hz)with rfl|hz
    .rcases ha y uq with h|h
     .rw[e]at h;cases h
     .exact h
    .exact h1 z hz
def SB: ∀ {l:List E4},l.Pairwise Ap->(jB l).Pairwise (λa b=>fL a b=true)
 |[],_=> .nil
 |x::r,.cons h1 h2=>Znv x (SB h2) λy hy=>h1 y ((H7 r).mem_iff.1 hy)
def Ap.symm {x:E4} (h:Ap x y):Ap y x:=h.elim .inr .inl
def Zpc {l l':List E4} (hp:l'.Perm l) (ha:l.Pairwise Ap) (hs:l'.Pairwise (λa b=>fL b a=false)):l'=jB l:=by
 have tP:l'.Pairwise Ap:=(hp.pairwise_iff λh=>h.symm).2 ha;have iQ:l'.Pairwise (λa b=>fL a b=true):=by
  refine List.Pairwise.imp₂ ?_ tP hs;intro a b h1 h2;rcases h1 with h|h
  .exact h
  grind
 refine List.Perm.eq_of_pairwise (le:=λa b=>fL a b=true) (λa b _ _ h1 h2=>?_) iQ (SB ha) (hp.trans (H7 l).symm);rw[UB h1]at h2;cases h2
def Uj (l:List E4):(jB l).length=l.length:=(H7 l).length_eq
def FB: ∀l:List E4,(mM l).length=l.length*4
 |[]=>rfl
 |x::r=>by rw[mM,bB,FB r,cO];show 4+_=_;omega
def ZqQ: ∀ {ds:ah} {l:List E4},Ag ds=some l->ds=mM l
 |[],l,h=>by cases h;rfl
 | .int .i64 a:: .int .i64 b:: .int .i64 c:: .int .i64 d::r,l,h=>by
  unfold Ag at h;cases hr:Ag r with
  |none=>rw[hr]at h;cases h
  |some l'=>
   rw[hr]at h;cases h;rw[ZqQ hr];rfl
noncomputable section
def ai2 (c:Int):Op->Op
 | .binOp .mul t x (.const (.int k _)) t'=> .binOp .mul t x (.const (.int k c)) t'
 |o=>o
def Zzh (c:Int) (o:Oper):Oper:= { o with op:=ai2 c o.op }
def IK (c:Int):Code->Code
 | .region i ops d=> .region i ⟨ops.toList.map (Zzh c)⟩ d
 | .seq a b=> .seq (IK c a) (IK c b)
 | .cond o a b=> .cond o (IK c a) (IK c b)
 |x=>x
def acj (c:Int) (f:Func):Func:= { f with body:=f.body.map (IK c) }
def Wd (k:Int):Zf->Nat->ah->M ah:=λ_ _ args=>
 aD .u64 args λx args=>
 aL args<|
 bif x==0 then
  ay [.int .i64 64]
 else
  aC (aR ((IntKind.wrap .u64 ((bits .and .u64 x (IntKind.wrap .u64 (0-x)))*k)).fdiv (2^58)) 64)<|
  bD 2 ((((IntKind.wrap .u64 ((bits .and .u64 x (IntKind.wrap .u64 (0-x)))*k)).fdiv (2^58)).toNat)*1+0) λd=>
  cY .u8 d λx1=>
  ay [.int .i64 (ar (x1))]
def HM:ao:=Wd 285870213051353865
def ZAm {C:bC} {A:FA} {f:Func} (h: ∀c,uZ C A (acj c f)=Wd c) (e:acj 285870213051353865 f=f):uZ C A f=HM:=by
 have:=h 285870213051353865;rw[e]at this;exact this
end
set_option maxRecDepth 10000
set_option maxHeartbeats 4000000
noncomputable section
def RW:ao:=λc n args=>
 jJ args λs=>gD λb0=>fB (λout kR=>bZ b0 (aZ out kR)) λaz=>cS (λaV st=>eQ st λs1 st=>bV st λgu eK=>bif decide ((s1.length:Int)>0)then cQ (c 15 (Ls s1)) λds=>iX ds λx x1=>cd (Li x) λi=>bS i 0 1 λcs=>cm 1 gu eK cs 1 8796093022208 λp=>aC (decide (0<=x1)&&decide (x1<=(s1.length:Int)))<|aV [.str (s1.drop x1.toNat),.slice 1 p (eK+1)]else az (aZ gu eK)) n [.str s,.slice 0 none 0]
def RC:ao:=λc n args=>
 jJ args λs=>aC (aR 0 s.length)<|bif decide (ZT s 0<128)then ay (gJ (ar (ZT s 0)) 1)else aA (λb1=>aA (λb2=>bif b2 then aC (aR 1 s.length)<|ay (gJ (ar ((ar ((ar (IntKind.wrap .u8 ((ZT s 0)-192)))*64))+(ar (IntKind.wrap .u8 ((ZT s 1)-128))))) 2)else aA (λb3=>Q_ (ay (gJ 65533 1)) λbz=>bif b3 then HJ (λlo=>HJ (λhi=>bq (c 19 (Dt s 1 lo hi)) λx=>aA (λb4=>bif b4 then aC (aR 1 s.length)<|aC (aR 2 s.length)<|ay (gJ (ar ((ar ((ar ((ar (IntKind.wrap .u8 ((ZT s 0)-224)))*4096))+(ar ((ar (IntKind.wrap .u8 ((ZT s 1)-128)))*64))))+(ar (IntKind.wrap .u8 ((ZT s 2)-128))))) 3)else bz []) λgN=>bif x then bq (c 19 (Dt s 2 128 191)) λx1=>gN (Lb x1)else gN (Lb false)) λdp=>bif (ZT s 0)==237 then dp (lF 159)else dp (lF 191)) λck=>bif (ZT s 0)==224 then ck (lF 160)else ck (lF 128)else aA (λb5=>Q_ (bz []) λiD=>bif b5 then HJ (λlo1=>HJ (λJI=>bq (c 19 (Dt s 1 lo1 JI)) λx2=>aA (λb6=>aA (λb7=>
 bif b7 then aC (aR 1 s.length)<|aC (aR 2 s.length)<|aC (aR 3 s.length)<|ay (gJ (ar ((ar ((ar ((ar ((ar (IntKind.wrap .u8 ((ZT s 0)-240)))*262144))+(ar ((ar (IntKind.wrap .u8 ((ZT s 1)-128)))*4096))))+(ar ((ar (IntKind.wrap .u8 ((ZT s 2)-128)))*64))))+(ar (IntKind.wrap .u8 ((ZT s 3)-128))))) 4)else iD []) λnF=>bif b6 then bq (c 19 (Dt s 3 128 191)) λx3=>nF (Lb x3)else nF (Lb false)) λqf=>bif x2 then bq (c 19 (Dt s 2 128 191)) λx4=>qf (Lb x4)else qf (Lb false)) λkQ=>bif (ZT s 0)==244 then kQ (lF 143)else kQ (lF 191)) λkl=>bif (ZT s 0)==240 then kl (lF 144)else kl (lF 128)else iD []) λiC=>bif decide (ZT s 0>=240)then iC (Lb (decide (ZT s 0<=244)))else iC (Lb false)) λaW=>bif decide (ZT s 0>=224)then aW (Lb (decide (ZT s 0<=239)))else aW (Lb false)) λaI=>bif b1 then bq (c 19 (Dt s 1 128 191)) λx5=>aI (Lb x5)else aI (Lb false)) λaz=>bif decide (ZT s 0>=194)then az (Lb (decide (ZT s 0<=223)))else az (Lb false)
def QB:ao:=λc n args=>
 eQ args λs args=>aD .i64 args λbP args=>Zq9 args λlo hi=>aA (λb1=>aA (λb2=>ay (Lb b2)) λaI=>bif b1 then aC (aR bP s.length)<|aI (Lb (decide (ZT s bP<=hi)))else aI (Lb false)) λaz=>bif decide (bP<(s.length:Int))then aC (aR bP s.length)<|az (Lb (decide (ZT s bP>=lo)))else az (Lb false)
end
noncomputable section
def Sq:ao:=λc n args=>
 jJ args λs=>oL (λn1=>ay (Lb (decide (n1>0)))) λaz=>cS (λaV st=>aD .i64 st λn2 st=>Lz st λp=>bif Nat.blt p s.length then aA (λb1=>bif b1 then ay (Lb false)else aV [.int .i64 (ar (n2+1)),.nat (p+vJ s p)]) λaI=>bif decide (ar (n2+1)>8)then aI (Lb true)else bq (c 28 (De (DM s p))) λx=>aI (Lb (!x))else az (Li n2)) n [.int .i64 0,.nat 0]
def Rt:ao:=λc n args=>
 jJ args λs=>iL (c 12 (Ls s)) λx xn=>aA (λb1=>aA (λok=>ay (Lb ok)) λaI=>cS (λaV st=>gC st λCK st=>cP st λi=>bif decide (i<(xn:Int))then aA (λb2=>aV (zD b2 (ar (i+1)))) λaW=>bif CK then Zn 1 x i xn λx1=>bq (c 29 (Li x1)) λx2=>aW (Lb x2)else aW (Lb false)else aI (Lb CK)) n (zD b1 0)) λaz=>bif decide ((xn:Int)>0)then az (Lb (decide ((xn:Int)<=8)))else az (Lb false)
def UK:ao:=λc n args=>
 aD .i32 args λr1 args=>aL args<|cQ (c 54 []) λds=>ba ds λcs ds=>bA cs 12<|aL ds<|Q_ (ay (Lb false)) λaz=>cM (λaV x=>bif decide (x<6)then aC (aR x 6)<|bA ((cs.drop (x.toNat*2)).take 2) 2<|eJ ((cs.drop (x.toNat*2)).take 2) 0 λd=>cY .i32 d λx1=>aA (λb1=>bif b1 then ay (Lb true)else aV (Li (ar (x+1)))) λaI=>bif decide (r1>=x1)then eJ ((cs.drop (x.toNat*2)).take 2) 1 λd1=>cY .i32 d1 λx2=>aI (Lb (decide (r1<=x2)))else aI (Lb false)else az []) n (Li 0)
def Tt:ao:=λc n args=>
 cP args λr1=>aA (λb1=>aA (λb2=>aA (λb3=>aA (λb4=>aA (λb5=>aA (λb6=>ay (Lb b6)) λdp=>bif b5 then dp (Lb true)else aA (λb7=>dp (Lb b7)) λgN=>bif decide (r1>=161)then gN (Lb (decide (r1<=65519)))else gN (Lb false)) λck=>bif b4 then ck (Lb true)else ck (Lb (r1==95))) λbz=>bif b3 then bz (Lb true)else bz (Lb (r1==45))) λaW=>bif b2 then aW (Lb true)else aA (λb8=>aW (Lb b8)) λiC=>bif decide (r1>=48)then iC (Lb (decide (r1<=57)))else iC (Lb false)) λaI=>bif b1 then aI (Lb true)else aA (λb9=>aI (Lb b9)) λiD=>bif decide (r1>=65)then iD (Lb (decide (r1<=90)))else iD (Lb false)) λaz=>bif decide (r1>=97)then az (Lb (decide (r1<=122)))else az (Lb false)
def Sp:ao:=λc n args=>
 jJ args λs=>gD λb0=>fB (λout kR=>bZ b0 (aZ out kR)) λaz=>cS (λaV st=>bW 1 st λgu eK st=>Lz st λp=>bif Nat.blt p s.length then cd (De (DM s p)) λi=>bS i 0 1 λcs=>cm 1 gu eK cs 1 17592186044416 λp1=>aV [.slice 1 p1 (eK+1),.nat (p+vJ s p)]else az (aZ gu eK)) n [.slice 0 none 0,.nat 0]
def QT:ao:=λc n args=>
 eQ args λa args=>jJ args λb1=>iL (c 34 (Ls a)) λx xn=>iL (c 34 (Ls b1)) λx1 jD=>cw (c 57 (we x xn x1 jD)) λx2=>ay (Li x2)
def Q8:ao:=λc n args=>
 eQ args λa args=>jJ args λb1=>iL (c 12 (Ls a)) λx xn=>iL (c 12 (Ls b1)) λx1 jD=>Q_ (bif decide ((xn:Int)<(jD:Int))then ay (Li (-1))else bif decide ((xn:Int)>(jD:Int))then ay (Li 1)else ay (Li 0)) λaz=>cM (λaV i=>aA (λb2=>bif b2 then Zn 1 x i xn λx2=>Zn 1 x1 i jD λx3=>bif decide (x2<x3)then ay (Li (-1))else Zn 1 x i xn λx4=>Zn 1 x1 i jD λx5=>bif decide (x4>x5)then ay (Li 1)else aV (Li (ar (i+1)))else az []) λaI=>bif decide (i<(xn:Int))then aI (Lb (decide (i<(jD:Int))))else aI (Lb false)) n (Li 0)
def ZmX:ao:=λc n args=>
 aL args<|ay [.agg [.int .i32 97,.int .i32 122,.int .i32 65,.int .i32 90,.int .i32 48,.int .i32 57,.int .i32 45,.int .i32 45,.int .i32 95,.int .i32 95,.int .i32 161,.int .i32 65519]]
def P5:ao:=λc n args=>
 bW 1 args λs1 EL args=>bV args λs2 Hm=>Q_ (bif decide ((EL:Int)<(Hm:Int))then ay (Li (-1))else ay (Li 0)) λaz=>cM (λaV x=>bif decide (x<(EL:Int))then N_ s1 x EL λi o=>bD i (x.toNat*1+o) λd=>cY .i32 d λx1=>bif decide (x>=(Hm:Int))then ay (Li 1)else N_ s2 x Hm λi1 o1=>bD i1 (x.toNat*1+o1) λd1=>cY .i32 d1 λx2=>cw (c 64 [.int .i32 x1,.int .i32 x2]) λx3=>bif !(x3==0)then ay (Li x3)else aV (Li (ar (x+1)))else az []) n (Li 0)
def Qs:ao:=λc n args=>
 aD .i32 args λx args=>aD .i32 args λy args=>aL args<|bq (c 72 (De x)) λx1=>bq (c 72 (De y)) λx2=>bif x1 then bif x2 then ay (Li 0)else ay (Li (-1))else bif x2 then ay (Li 1)else bif decide (x<y)then ay (Li (-1))else bif decide (x>y)then ay (Li 1)else ay (Li 0)
def QH:ao:=λc n args=>
 aD .i32 args λx args=>aL args<|ay (Lb (!(x==x)))
end
noncomputable section
end
noncomputable section
end
noncomputable section
end
noncomputable section
end
noncomputable section
def LR:ao:=λc n args=>
 bW 1 args λa an args=>bV args λb1 bX=>bif !((an:Int)==(bX:Int))then ay (Lb false)else Q_ (ay (Lb true)) λaz=>cM (λaV i=>bif decide (i<(an:Int))then Zn 1 a i an λx=>Zn 1 b1 i bX λx1=>bif !(x==x1)then ay (Lb false)else aV (Li (ar (i+1)))else az []) n (Li 0)
end
noncomputable section
end
noncomputable section
end
noncomputable section
def SX:ao:=λc n args=>
 ba args λcs args=>aD .i64 cs λx r=>Zx r λx1 x2 x3 ee x4 dC x5 gO=>aL args<|bq (c 141 (uQ x x1 x2)) λx6=>aA (λb1=>aA (λb2=>bif b2 then ay (Lb false)else cQ (c 142 (Bo x x1 x2 x3 ee x4 dC x5 gO)) λds=>bW 4 ds λx7 vM ds=>aL ds<|aA (λb3=>bif b3 then ay (Lb false)else aC (decide (0<=(dC:Int))&&decide ((dC:Int)<=(dC:Int))&&decide ((dC:Int)<=70368744177664))<|cd (gY ((dC:Int).toNat) (Lb false)) λi=>Q_ (Q_ (Q_ (ay (Lb true)) λdp=>cM (λaV i1=>bif decide (i1<(dC:Int))then Zn 1 x4 i1 dC λx8=>aA (λb4=>aA (λb5=>bif b5 then ay (Lb false)else aV (Li (ar (i1+1)))) λiC=>bif b4 then iC (Lb true)else aC (aR i1 ((dC:Int).toNat))<|qQ i (i1.toNat*1) λx9=>aA (λb6=>aA (λb7=>iC (Lb b7)) λkl=>bif b6 then bq (c 143 (dY x5 gO i1)) λcV=>kl (Lb (!cV))else kl (Lb false)) λiD=>bif !x9 then Zn 1 x4 i1 dC λeB=>iD (Lb (decide (eB<x2)))else iD (Lb false)) λgN=>
 bif decide (x8<1)then gN (Lb true)else Zn 1 x4 i1 dC λfj=>gN (Lb (decide (fj>x2)))else dp []) n (Li 0)) λck=>cM (λdw i5=>bif decide (i5<(gO:Int))then Zn 1 x5 i5 gO λfH=>aA (λb8=>aA (λb9=>aA (λBV=>aA (λV9=>bif V9 then ay (Lb false)else dw (Li (ar (i5+1)))) λKB=>bif BV then KB (Lb true)else aC (decide (0<=i5)&&decide (i5<=(gO:Int)))<|bq (c 143 (dY x5 i5.toNat fH)) λgG=>KB (Lb gG)) λnF=>bif b9 then nF (Lb true)else Zn 1 x4 fH dC λfS=>nF (Lb (decide (fS>=x2)))) λqf=>bif b8 then qf (Lb true)else aC (aR fH ((dC:Int).toNat))<|qQ i (fH.toNat*1) λfN=>qf (Lb fN)) λkQ=>bif decide (fH<0)then kQ (Lb true)else kQ (Lb (decide (fH>=(dC:Int))))else ck []) n (Li 0)) λbz=>cM (λvH i8=>bif decide (i8<(vM:Int))then N_ x7 i8 vM λi9 o5=>bS i9 (i8.toNat*4+o5) 2 λbM=>iX bM λgH iG=>aA (λWa=>aA (λWb=>aA (λb14=>
 bif b14 then ay (Lb false)else aC (aR gH ((dC:Int).toNat))<|dI i (gH.toNat*1) (Lb true)<|vH (Li (ar (i8+1)))) λace=>bif Wb then ace (Lb true)else Zn 1 x4 gH dC λiH=>ace (Lb (!(iG==iH)))) λacd=>bif Wa then acd (Lb true)else aC (aR gH ((dC:Int).toNat))<|qQ i (gH.toNat*1) λjE=>acd (Lb jE)) λacb=>bif decide (gH<0)then acb (Lb true)else acb (Lb (decide (gH>=(dC:Int))))else bz []) n (Li 0)) λaW=>bif decide ((vM:Int)>(dC:Int))then aW (Lb true)else aW (Lb (decide ((gO:Int)>(dC:Int))))) λaI=>bif b1 then aI (Lb true)else bq (c 144 [.slice 2 x3 ee]) λnO=>aI (Lb (!nO))) λaz=>bif !x6 then az (Lb true)else az (Lb (decide ((dC:Int)>x1)))
def Sj:ao:=λc n args=>
 ba args λcs args=>aD .i64 cs λa r=>Zx r λa1 a2 a3 Nx a4 a4n a5 a5n=>ba args λbM args=>aD .i64 bM λb1 r=>Zx r λb2 b3 b4 Wc b5 b5n b6 b6n=>aL args<|aA (λb7=>aA (λb8=>aA (λb9=>bif b9 then ay (Lb false)else Q_ (ay (Lb true)) λbz=>cM (λaV i=>bif decide (i<(Nx:Int))then xy 2 a3 i Nx λx=>xy 2 b4 i Wc λx1=>aA (λBV=>bif BV then ay (Lb false)else aV (Li (ar (i+1)))) λck=>bif !(x==x1)then ck (Lb true)else N_ a3 i Nx λi3 o2=>bD i3 (i.toNat*2+o2+1) λd2=>dr 4 d2 λx2 cW=>N_ b4 i Wc λi4 o3=>bD i4 (i.toNat*2+o3+1) λd3=>dr 4 d3 λx3 ee=>bq (c 153 [.slice 4 x2 cW,.slice 4 x3 ee]) λx4=>ck (Lb (!x4))else bz []) n (Li 0)) λaW=>bif b8 then aW (Lb true)else bq (c 113 (we a5 a5n b6 b6n)) λx5=>aW (Lb (!x5))) λaI=>bif b7 then aI (Lb true)else bq (c 113 (we a4 a4n b5 b5n)) λx6=>aI (Lb (!x6))) λaz=>bif !((a==b1)&&((a1==b2)&&((a2==b3)&&true)))then az (Lb true)else az (Lb (!((Nx:Int)==(Wc:Int))))
def Rn:ao:=λc n args=>
 DB args λg g1 g2=>aA (λb1=>aA (λb2=>aA (λb3=>aA (λb4=>aA (λb5=>ay (Lb b5)) λck=>bif b4 then ck (Lb (decide (g2<=4294967295)))else ck (Lb false)) λbz=>bif b3 then bz (Lb (decide (g2>=1)))else bz (Lb false)) λaW=>bif b2 then aW (Lb (decide (g1<=1792)))else aW (Lb false)) λaI=>bif b1 then aI (Lb (decide (g1>=1)))else aI (Lb false)) λaz=>bif decide (g>=16)then az (Lb (decide (g<=3072)))else az (Lb false)
def Qz:ao:=λc n args=>
 ba args λcs args=>aD .i64 cs λx r=>Zx r λx1 x2 x3 ee x4 dC x5 gO=>aL args<|gD λb0=>Dh (λout kR=>bZ b0 (rW out kR)) λaz=>cS (λaV st=>bW 4 st λgu eK st=>cP st λi=>bif decide (i<(ee:Int))then N_ x3 i ee λi1 o=>bD i1 (i.toNat*2+o+1) λd=>dr 4 d λx6 pJ=>dy x6 (pJ*4) λbM=>cm 4 gu eK bM pJ 2199023255552 λp=>aV [.slice 4 p (eK+pJ),.int .i64 (ar (i+1))]else az (rW gu eK)) n (iw none 0 0)
def TI:ao:=λc n args=>
 oe args λl ln n1=>Q_ (ay (Lb false)) λaz=>cM (λaV i=>bif decide (i<(ln:Int))then Zn 1 l i ln λx=>bif x==n1 then ay (Lb true)else aV (Li (ar (i+1)))else az []) n (Li 0)
def RA:ao:=λc n args=>
 bW 2 args λl ln args=>aL args<|bif decide ((ln:Int)>16)then ay (Lb false)else Q_ (ay (Lb true)) λaz=>cM (λaV i=>bif decide (i<(ln:Int))then Q_ (aV (Li (ar (i+1)))) λaI=>xy 2 l i ln λx=>bq (c 27 (Ls x)) λx1=>aA (λb1=>bif b1 then ay (Lb false)else Q_ (aI []) λbz=>cM (λdw k=>N_ l i ln λi2 o1=>bD i2 (i.toNat*2+o1+1) λd1=>dr 4 d1 λx2 cW=>bif decide (k<(cW:Int))then N_ l i ln λi3 o2=>bD i3 (i.toNat*2+o2+1) λd2=>dr 4 d2 λx3 ee=>bH x3 λi4 o3=>aC (aR (ar (k-1)) ee)<|bS i4 (((ar (k-1)).toNat)*4+o3) 4 λcs=>sd cs λx4 x5 x6 x7=>N_ l i ln λi5 o4=>bD i5 (i.toNat*2+o4+1) λd3=>dr 4 d3 λx8 kt=>N_ x8 k kt λi6 o5=>bS i6 (k.toNat*4+o5) 4 λbM=>sd bM λx9 cV eB fj=>bq (c 155 (Bv x4 x5 x6 x7 x9 cV eB fj)) λfH=>bif !fH then ay (Lb false)else dw (Li (ar (k+1)))else bz []) n (Li 1)) λaW=>bif !x1 then aW (Lb true)else aA (λb2=>aW (Lb b2)) λck=>bif decide (i>0)then bH l λi7 o6=>
 aC (aR (ar (i-1)) ln)<|bD i7 (((ar (i-1)).toNat)*2+o6) λd4=>BT d4 λgG=>xy 2 l i ln λfS=>cw (c 40 [.str gG,.str fS]) λfN=>ck (Lb (decide (fN>=0)))else ck (Lb false)else az []) n (Li 0)
def HY:ao:=λc n args=>
 DB args λg g1 g2=>aA (λb1=>aA (λb2=>aA (λb3=>aA (λb4=>aA (λb5=>ay (Lb b5)) λck=>bif b4 then ck (Lb (decide (g2<=4294967295)))else ck (Lb false)) λbz=>bif b3 then bz (Lb (decide (g2>=1)))else bz (Lb false)) λaW=>bif b2 then aW (Lb (decide (g1<=1792)))else aW (Lb false)) λaI=>bif b1 then aI (Lb (decide (g1>=1)))else aI (Lb false)) λaz=>bif decide (g>=16)then az (Lb (decide (g<=3072)))else az (Lb false)
def P9:ao:=λc n args=>
 bW 1 args λs sn args=>VA args λf ff fc args=>aL args<|cw (c 156 [.slice 1 s sn,.func f ff fc]) λx=>ay (Lb (decide (x>=0)))
def QC:ao:=λc n args=>
 bW 4 args λa an args=>bW 4 args λb1 bX args=>aL args<|bif !((an:Int)==(bX:Int))then ay (Lb false)else Q_ (ay (Lb true)) λaz=>cM (λaV i=>bif decide (i<(an:Int))then N_ a i an λi1 o=>bS i1 (i.toNat*4+o) 4 λcs=>sd cs λx x1 x2 x3=>N_ b1 i bX λi2 o1=>bS i2 (i.toNat*4+o1) 4 λbM=>sd bM λx4 x5 x6 x7=>bif !((x==x4)&&((x1==x5)&&((x2==x6)&&((x3==x7)&&true))))then ay (Lb false)else aV (Li (ar (i+1)))else az []) n (Li 0)
def RN:ao:=λc n args=>
 LP args λa a1 a2 a3 b1 b2 b3 b4=>bif !(a2==b3)then ay (Lb (decide (a2<b3)))else bif !(a==b1)then ay (Lb (decide (a<b1)))else ay (Lb (decide (a1<b2)))
def P7:ao:=λc n args=>
 bW 1 args λs sn args=>VA args λf ff fc args=>aL args<|Q_ (ay (Li (-1))) λaz=>cM (λaV x=>bif decide (x<(sn:Int))then Zn 1 s x sn λx1=>bq (c f (ff++(Li x1)++fc)) λx2=>bif x2 then ay (Li x)else aV (Li (ar (x+1)))else az []) n (Li 0)
def HR:ao:=λc n args=>
 LP args λa a1 a2 a3 b1 b2 b3 b4=>lW (c 161 (gJ a2 b3)) λx=>lW (c 161 (gJ a b1)) λx1=>cw (c 161 (gJ a1 b2)) λx2=>cd (zF x x1 x2) λi=>cw (c 162 (aZ (some (i,0)) 3)) λx3=>ay (Li x3)
def HN:ao:=λc n args=>
 iX args λx y=>bq (c 163 (Li x)) λx1=>bq (c 163 (Li y)) λx2=>bif x1 then bif x2 then ay (Li 0)else ay (Li (-1))else bif x2 then ay (Li 1)else bif decide (x<y)then ay (Li (-1))else bif decide (x>y)then ay (Li 1)else ay (Li 0)
def HZ:ao:=λc n args=>
 bV args λajz acM=>Q_ (ay (Li 0)) λaz=>cM (λaV x=>bif decide (x<(acM:Int))then Zn 1 ajz x acM λx1=>bif !(x1==0)then ay (Li x1)else aV (Li (ar (x+1)))else az []) n (Li 0)
def HS:ao:=λc n args=>
 cP args λx=>ay (Lb (!(x==x)))
end
structure LS (Bd:Zh):Prop where
 eq:Bd 162=HZ
structure LN (Bd:Zh):Prop where
 eq:Bd 163=HS
structure HO (Bd:Zh):Prop where
 eq:Bd 161=HN
 q1:LN Bd
structure Fk (Bd:Zh):Prop where
 eq:Bd 159=HR
 q2:LS Bd
 q0:HO Bd
structure Rb (Bd:Zh):Prop where
 eq:Bd 153=QC
end Go.Gv
