/- slices.SortFunc at entries (slot, gen, key, value), by key, slot and gen: a body of our own. -/
import Derived.Test.YtegglibipjjblaaGreatDoorGvZRun
set_option linter.all false
namespace Go.Gv
abbrev E4:=Int×Int×Int×Int
def fL (x y:E4):Bool:=decide (x.2.2.1<y.2.2.1)||(x.2.2.1==y.2.2.1&&(decide (x.1<y.1)||(x.1==y.1&&decide (x.2.1<y.2.1))))
def EI (x:E4):List E4->List E4
 |[]=>[x]
 |y::r=>bif fL x y then x::y::r else y::EI x r
def jC:List E4->List E4
 |[]=>[]
 |x::r=>EI x (jC r)
def DP:List E4->Bool
 |[]=>true
 |x::r=>r.all (λy=>fL x y||fL y x)&&DP r
def sy (x:E4):ah:=[.i x.1,.i x.2.1,.i x.2.2.1,.i x.2.2.2]
def mO:List E4->ah
 |[]=>[]
 |x::r=>sy x++mO r
def Aj:ah->Option (List E4)
 |[]=>some []
 | .i a:: .i b:: .i c:: .i d::r=>(match Aj r with|some l=>some ((a,b,c,d)::l)|none=>none)
 |_=>none
def IC:ao:=λ_ _ args=>
 match args with
 |[.s 4 a n,.func 159 [] []]=>(match a with
  |none=>bif Nat.beq n 0 then ay []else fail
  |some (i,o)=>λs=>match s.ik i with
   |some cs=>bif Nat.ble (o+n*4) cs.length then(match Aj ((cs.drop o).take (n*4))with
    |some l=>bif DP l&&Nat.ble n 1000000 then ay [] (s.set i (some ⟨false,cE cs o (mO (jC l))⟩))else none
    |none=>none)else none
   |none=>none)
 |_=>fail
theorem DN (x y:E4):fL x y=true↔x.2.2.1<y.2.2.1\/(x.2.2.1=y.2.2.1/\(x.1<y.1\/(x.1=y.1/\x.2.1<y.2.1))):=by
 simp[fL]
variable {y:E4}
theorem T1 {x:E4} (h:fL x y=true):fL y x=false:=by
 rw[DN]at h;grind[DN]
variable {z:E4}
theorem UD {x:E4} (h:fL x y=true) (k:fL y z=true):fL x z=true:=by
 rw[DN]at*;omega
theorem ZvF {x:E4} (h:fL x y=false) (k:fL y z=false):fL x z=false:=by
 cases e:fL x z with
 |false=>rfl
 |true=>
  have h1: ¬fL x y=true:=by rw[h];simp
  have h2: ¬fL y z=true:=by rw[k];simp
  rw[DN]at*
  omega
theorem UL (x:E4): ∀l,(EI x l).Perm (x::l)
 |[]=> .refl _
 |y::r=>by
  unfold EI;cases fL x y with
  |true=>exact .refl _
  |false=>exact((UL x r).cons y).trans (.swap x y r)
theorem Ig: ∀l,(jC l).Perm l
 |[]=> .refl _
 |x::r=>(UL x _).trans ((Ig r).cons x)
def Ap (x y:E4):Prop:=fL x y=true\/fL y x=true
theorem UM: ∀ {l:List E4},DP l=true->l.Pairwise Ap
 |[],_=> .nil
 |x::r,h=>by
  simp only[DP,aY,vT,lV]at h;exact .cons (λy hy=>h.1 y hy) (UM h.2)
theorem ZnH (x:E4): ∀ {l:List E4},l.Pairwise (λa b=>fL a b=true)->(∀y∈l,Ap x y)->(EI x l).Pairwise (λa b=>fL a b=true)
 |[],_,_=>by simp[EI]
 |y::r,h,ha=>by
  cases h with
  |cons h1 h2=>
   unfold EI;cases e:fL x y with
   |true=>
    refine .cons (λz hz=>?_) (.cons h1 h2);rcases eF.1 hz with rfl|hz
    .exact e
    .exact UD e (h1 z hz)
   |false=>
    refine .cons (λz hz=>?_) (ZnH x h2 λz hz=>ha z (zy _ hz));rcases eF.1 ((UL x r).mem_iff.1 hz)with rfl|hz
    .rcases ha y uv with h|h
     .rw[e]at h;cases h
     .exact h
    .exact h1 z hz
theorem SL: ∀ {l:List E4},l.Pairwise Ap->(jC l).Pairwise (λa b=>fL a b=true)
 |[],_=> .nil
 |x::r,.cons h1 h2=>ZnH x (SL h2) λy hy=>h1 y ((Ig r).mem_iff.1 hy)
theorem Ap.symm {x:E4} (h:Ap x y):Ap y x:=h.elim .inr .inl
theorem Zpa {l l':List E4} (hp:l'.Perm l) (ha:l.Pairwise Ap) (hs:l'.Pairwise (λa b=>fL b a=false)):l'=jC l:=by
 have tS:l'.Pairwise Ap:=(hp.pairwise_iff λh=>h.symm).2 ha;have iQ:l'.Pairwise (λa b=>fL a b=true):=by
  refine List.Pairwise.imp₂ ?_ tS hs;intro a b h1 h2;rcases h1 with h|h
  .exact h
  grind
 refine List.Perm.eq_of_pairwise (le:=λa b=>fL a b=true) (λa b _ _ h1 h2=>?_) iQ (SL ha) (hp.trans (Ig l).symm);rw[T1 h1]at h2;cases h2
theorem Uc (l:List E4):(jC l).length=l.length:=(Ig l).length_eq
theorem FH: ∀l:List E4,(mO l).length=l.length*4
 |[]=>rfl
 |x::r=>by rw[mO,bB,FH r,cO];show 4+_=_;omega
theorem Zrn: ∀ {ds:ah} {l:List E4},Aj ds=some l->ds=mO l
 |[],l,h=>by cases h;rfl
 | .i a:: .i b:: .i c:: .i d::r,l,h=>by
  unfold Aj at h;cases hr:Aj r with
  |none=>rw[hr]at h;cases h
  |some l'=>
   rw[hr]at h;cases h;rw[Zrn hr];rfl
noncomputable section
def ajf (c:Int):Op->Op
 | .binOp .mul t x (.const (.int k _)) t'=> .binOp .mul t x (.const (.int k c)) t'
 |o=>o
def ZzH (c:Int) (o:Oper):Oper:= { o with op:=ajf c o.op }
def IU (c:Int):Code->Code
 | .region i ops d=> .region i ⟨ops.toList.map (ZzH c)⟩ d
 | .seq a b=> .seq (IU c a) (IU c b)
 | .cond o a b=> .cond o (IU c a) (IU c b)
 |x=>x
def acx (c:Int) (f:Func):Func:= { f with body:=f.body.map (IU c) }
def Wp (k:Int):Zf->Nat->ah->M ah:=λ_ _ args=>
 aD .u64 args λx args=>
 aL args<|
 bif x==0 then
  ay [.i 64]
 else
  aC (aR ((IntKind.wrap .u64 ((bits .and .u64 x (IntKind.wrap .u64 (0-x)))*k)).fdiv (2^58)) 64)<|
  bD 2 ((((IntKind.wrap .u64 ((bits .and .u64 x (IntKind.wrap .u64 (0-x)))*k)).fdiv (2^58)).toNat)*1+0) λd=>
  cY .u8 d λx1=>
  ay [.i (ar (x1))]
def HR:ao:=Wp 285870213051353865
theorem ZAh {C:bC} {A:FA} {f:Func} (h: ∀c,va C A (acx c f)=Wp c) (e:acx 285870213051353865 f=f):va C A f=HR:=by
 have:=h 285870213051353865;rw[e]at this;exact this
end
set_option maxRecDepth 10000
set_option maxHeartbeats 4000000
noncomputable section
def Sa:ao:=λc n args=>
 jK args λs=>gD λb0=>fB (λout kS=>bZ b0 (aZ out kS)) λaz=>cS (λaV st=>eR st λs1 st=>bV st λgu eK=>bif decide ((s1.length:Int)>0)then cQ (c 15 (Ls s1)) λds=>iX ds λx x1=>cd (Li x) λi=>bS i 0 1 λcs=>cm 1 gu eK cs 1 8796093022208 λp=>aC (decide (0<=x1)&&decide (x1<=(s1.length:Int)))<|aV [.t (s1.drop x1.toNat),.s 1 p (eK+1)]else az (aZ gu eK)) n [.t s,.s 0 none 0]
def Sb:ao:=λc n args=>
 jK args λs=>aC (aR 0 s.length)<|bif decide (ZS s 0<128)then ay (gJ (ar (ZS s 0)) 1)else aA (λb1=>aA (λb2=>bif b2 then aC (aR 1 s.length)<|ay (gJ (ar ((ar ((ar (IntKind.wrap .u8 ((ZS s 0)-192)))*64))+(ar (IntKind.wrap .u8 ((ZS s 1)-128))))) 2)else aA (λb3=>Q_ (ay (gJ 65533 1)) λbz=>bif b3 then HO (λlo=>HO (λhi=>bq (c 19 (Dz s 1 lo hi)) λx=>aA (λb4=>bif b4 then aC (aR 1 s.length)<|aC (aR 2 s.length)<|ay (gJ (ar ((ar ((ar ((ar (IntKind.wrap .u8 ((ZS s 0)-224)))*4096))+(ar ((ar (IntKind.wrap .u8 ((ZS s 1)-128)))*64))))+(ar (IntKind.wrap .u8 ((ZS s 2)-128))))) 3)else bz []) λgN=>bif x then bq (c 19 (Dz s 2 128 191)) λx1=>gN (Lb x1)else gN (Lb false)) λdp=>bif (ZS s 0)==237 then dp (lH 159)else dp (lH 191)) λck=>bif (ZS s 0)==224 then ck (lH 160)else ck (lH 128)else aA (λb5=>Q_ (bz []) λiD=>bif b5 then HO (λlo1=>HO (λJN=>bq (c 19 (Dz s 1 lo1 JN)) λx2=>aA (λb6=>aA (λb7=>
 bif b7 then aC (aR 1 s.length)<|aC (aR 2 s.length)<|aC (aR 3 s.length)<|ay (gJ (ar ((ar ((ar ((ar ((ar (IntKind.wrap .u8 ((ZS s 0)-240)))*262144))+(ar ((ar (IntKind.wrap .u8 ((ZS s 1)-128)))*4096))))+(ar ((ar (IntKind.wrap .u8 ((ZS s 2)-128)))*64))))+(ar (IntKind.wrap .u8 ((ZS s 3)-128))))) 4)else iD []) λnG=>bif b6 then bq (c 19 (Dz s 3 128 191)) λx3=>nG (Lb x3)else nG (Lb false)) λqg=>bif x2 then bq (c 19 (Dz s 2 128 191)) λx4=>qg (Lb x4)else qg (Lb false)) λkR=>bif (ZS s 0)==244 then kR (lH 143)else kR (lH 191)) λko=>bif (ZS s 0)==240 then ko (lH 144)else ko (lH 128)else iD []) λiC=>bif decide (ZS s 0>=240)then iC (Lb (decide (ZS s 0<=244)))else iC (Lb false)) λaW=>bif decide (ZS s 0>=224)then aW (Lb (decide (ZS s 0<=239)))else aW (Lb false)) λaI=>bif b1 then bq (c 19 (Dz s 1 128 191)) λx5=>aI (Lb x5)else aI (Lb false)) λaz=>bif decide (ZS s 0>=194)then az (Lb (decide (ZS s 0<=223)))else az (Lb false)
def QU:ao:=λc n args=>
 eR args λs args=>aD .i64 args λbP args=>ZqJ args λlo hi=>aA (λb1=>aA (λb2=>ay (Lb b2)) λaI=>bif b1 then aC (aR bP s.length)<|aI (Lb (decide (ZS s bP<=hi)))else aI (Lb false)) λaz=>bif decide (bP<(s.length:Int))then aC (aR bP s.length)<|az (Lb (decide (ZS s bP>=lo)))else az (Lb false)
end
noncomputable section
def Tu:ao:=λc n args=>
 jK args λs=>oL (λn1=>ay (Lb (decide (n1>0)))) λaz=>cS (λaV st=>aD .i64 st λn2 st=>LH st λp=>bif Nat.blt p s.length then aA (λb1=>bif b1 then ay (Lb false)else aV [.i (ar (n2+1)),.nat (p+vL s p)]) λaI=>bif decide (ar (n2+1)>8)then aI (Lb true)else bq (c 28 (Di (DU s p))) λx=>aI (Lb (!x))else az (Li n2)) n [.i 0,.nat 0]
def RH:ao:=λc n args=>
 jK args λs=>iL (c 12 (Ls s)) λx xn=>aA (λb1=>aA (λok=>ay (Lb ok)) λaI=>cS (λaV st=>gC st λCO st=>cP st λi=>bif decide (i<(xn:Int))then aA (λb2=>aV (zH b2 (ar (i+1)))) λaW=>bif CO then Zn 1 x i xn λx1=>bq (c 29 (Li x1)) λx2=>aW (Lb x2)else aW (Lb false)else aI (Lb CO)) n (zH b1 0)) λaz=>bif decide ((xn:Int)>0)then az (Lb (decide ((xn:Int)<=8)))else az (Lb false)
def UI:ao:=λc n args=>
 aD .i32 args λr1 args=>aL args<|cQ (c 54 []) λds=>ba ds λcs ds=>bA cs 12<|aL ds<|Q_ (ay (Lb false)) λaz=>cN (λaV x=>bif decide (x<6)then aC (aR x 6)<|bA ((cs.drop (x.toNat*2)).take 2) 2<|eJ ((cs.drop (x.toNat*2)).take 2) 0 λd=>cY .i32 d λx1=>aA (λb1=>bif b1 then ay (Lb true)else aV (Li (ar (x+1)))) λaI=>bif decide (r1>=x1)then eJ ((cs.drop (x.toNat*2)).take 2) 1 λd1=>cY .i32 d1 λx2=>aI (Lb (decide (r1<=x2)))else aI (Lb false)else az []) n (Li 0)
def Uf:ao:=λc n args=>
 cP args λr1=>aA (λb1=>aA (λb2=>aA (λb3=>aA (λb4=>aA (λb5=>aA (λb6=>ay (Lb b6)) λdp=>bif b5 then dp (Lb true)else aA (λb7=>dp (Lb b7)) λgN=>bif decide (r1>=161)then gN (Lb (decide (r1<=65519)))else gN (Lb false)) λck=>bif b4 then ck (Lb true)else ck (Lb (r1==95))) λbz=>bif b3 then bz (Lb true)else bz (Lb (r1==45))) λaW=>bif b2 then aW (Lb true)else aA (λb8=>aW (Lb b8)) λiC=>bif decide (r1>=48)then iC (Lb (decide (r1<=57)))else iC (Lb false)) λaI=>bif b1 then aI (Lb true)else aA (λb9=>aI (Lb b9)) λiD=>bif decide (r1>=65)then iD (Lb (decide (r1<=90)))else iD (Lb false)) λaz=>bif decide (r1>=97)then az (Lb (decide (r1<=122)))else az (Lb false)
def SF:ao:=λc n args=>
 jK args λs=>gD λb0=>fB (λout kS=>bZ b0 (aZ out kS)) λaz=>cS (λaV st=>bW 1 st λgu eK st=>LH st λp=>bif Nat.blt p s.length then cd (Di (DU s p)) λi=>bS i 0 1 λcs=>cm 1 gu eK cs 1 17592186044416 λp1=>aV [.s 1 p1 (eK+1),.nat (p+vL s p)]else az (aZ gu eK)) n [.s 0 none 0,.nat 0]
def Rj:ao:=λc n args=>
 eR args λa args=>jK args λb1=>iL (c 34 (Ls a)) λx xn=>iL (c 34 (Ls b1)) λx1 jE=>cw (c 57 (wh x xn x1 jE)) λx2=>ay (Li x2)
def QJ:ao:=λc n args=>
 eR args λa args=>jK args λb1=>iL (c 12 (Ls a)) λx xn=>iL (c 12 (Ls b1)) λx1 jE=>Q_ (bif decide ((xn:Int)<(jE:Int))then ay (Li (-1))else bif decide ((xn:Int)>(jE:Int))then ay (Li 1)else ay (Li 0)) λaz=>cN (λaV i=>aA (λb2=>bif b2 then Zn 1 x i xn λx2=>Zn 1 x1 i jE λx3=>bif decide (x2<x3)then ay (Li (-1))else Zn 1 x i xn λx4=>Zn 1 x1 i jE λx5=>bif decide (x4>x5)then ay (Li 1)else aV (Li (ar (i+1)))else az []) λaI=>bif decide (i<(xn:Int))then aI (Lb (decide (i<(jE:Int))))else aI (Lb false)) n (Li 0)
def Zl3:ao:=λc n args=>
 aL args<|ay [.a [.int .i32 97,.int .i32 122,.int .i32 65,.int .i32 90,.int .i32 48,.int .i32 57,.int .i32 45,.int .i32 45,.int .i32 95,.int .i32 95,.int .i32 161,.int .i32 65519]]
def Qi:ao:=λc n args=>
 bW 1 args λs1 ER args=>bV args λs2 Hs=>Q_ (bif decide ((ER:Int)<(Hs:Int))then ay (Li (-1))else ay (Li 0)) λaz=>cN (λaV x=>bif decide (x<(ER:Int))then N_ s1 x ER λi o=>bD i (x.toNat*1+o) λd=>cY .i32 d λx1=>bif decide (x>=(Hs:Int))then ay (Li 1)else N_ s2 x Hs λi1 o1=>bD i1 (x.toNat*1+o1) λd1=>cY .i32 d1 λx2=>cw (c 64 [.int .i32 x1,.int .i32 x2]) λx3=>bif !(x3==0)then ay (Li x3)else aV (Li (ar (x+1)))else az []) n (Li 0)
def Qy:ao:=λc n args=>
 aD .i32 args λx args=>aD .i32 args λy args=>aL args<|bq (c 72 (Di x)) λx1=>bq (c 72 (Di y)) λx2=>bif x1 then bif x2 then ay (Li 0)else ay (Li (-1))else bif x2 then ay (Li 1)else bif decide (x<y)then ay (Li (-1))else bif decide (x>y)then ay (Li 1)else ay (Li 0)
def QZ:ao:=λc n args=>
 aD .i32 args λx args=>aL args<|ay (Lb (!(x==x)))
end
noncomputable section
end
noncomputable section
end
noncomputable section
end
noncomputable section
end
noncomputable section
def Mg:ao:=λc n args=>
 bW 1 args λa an args=>bV args λb1 bX=>bif !((an:Int)==(bX:Int))then ay (Lb false)else Q_ (ay (Lb true)) λaz=>cN (λaV i=>bif decide (i<(an:Int))then Zn 1 a i an λx=>Zn 1 b1 i bX λx1=>bif !(x==x1)then ay (Lb false)else aV (Li (ar (i+1)))else az []) n (Li 0)
end
noncomputable section
end
noncomputable section
end
noncomputable section
def TW:ao:=λc n args=>
 ba args λcs args=>aD .i64 cs λx r=>Zx r λx1 x2 x3 ee x4 dC x5 gO=>aL args<|bq (c 141 (uR x x1 x2)) λx6=>aA (λb1=>aA (λb2=>bif b2 then ay (Lb false)else cQ (c 142 (Bs x x1 x2 x3 ee x4 dC x5 gO)) λds=>bW 4 ds λx7 vO ds=>aL ds<|aA (λb3=>bif b3 then ay (Lb false)else aC (decide (0<=(dC:Int))&&decide ((dC:Int)<=(dC:Int))&&decide ((dC:Int)<=70368744177664))<|cd (il ((dC:Int).toNat) (Lb false)) λi=>Q_ (Q_ (Q_ (ay (Lb true)) λdp=>cN (λaV i1=>bif decide (i1<(dC:Int))then Zn 1 x4 i1 dC λx8=>aA (λb4=>aA (λb5=>bif b5 then ay (Lb false)else aV (Li (ar (i1+1)))) λiC=>bif b4 then iC (Lb true)else aC (aR i1 ((dC:Int).toNat))<|qK i (i1.toNat*1) λx9=>aA (λb6=>aA (λb7=>iC (Lb b7)) λko=>bif b6 then bq (c 143 (dY x5 gO i1)) λcV=>ko (Lb (!cV))else ko (Lb false)) λiD=>bif !x9 then Zn 1 x4 i1 dC λeB=>iD (Lb (decide (eB<x2)))else iD (Lb false)) λgN=>
 bif decide (x8<1)then gN (Lb true)else Zn 1 x4 i1 dC λfj=>gN (Lb (decide (fj>x2)))else dp []) n (Li 0)) λck=>cN (λdw i5=>bif decide (i5<(gO:Int))then Zn 1 x5 i5 gO λfH=>aA (λb8=>aA (λb9=>aA (λBY=>aA (λWl=>bif Wl then ay (Lb false)else dw (Li (ar (i5+1)))) λKI=>bif BY then KI (Lb true)else aC (decide (0<=i5)&&decide (i5<=(gO:Int)))<|bq (c 143 (dY x5 i5.toNat fH)) λgG=>KI (Lb gG)) λnG=>bif b9 then nG (Lb true)else Zn 1 x4 fH dC λfS=>nG (Lb (decide (fS>=x2)))) λqg=>bif b8 then qg (Lb true)else aC (aR fH ((dC:Int).toNat))<|qK i (fH.toNat*1) λfN=>qg (Lb fN)) λkR=>bif decide (fH<0)then kR (Lb true)else kR (Lb (decide (fH>=(dC:Int))))else ck []) n (Li 0)) λbz=>cN (λvJ i8=>bif decide (i8<(vO:Int))then N_ x7 i8 vO λi9 o5=>bS i9 (i8.toNat*4+o5) 2 λbM=>iX bM λgH iG=>aA (λWm=>aA (λWn=>aA (λb14=>
 bif b14 then ay (Lb false)else aC (aR gH ((dC:Int).toNat))<|dI i (gH.toNat*1) (Lb true)<|vJ (Li (ar (i8+1)))) λacr=>bif Wn then acr (Lb true)else Zn 1 x4 gH dC λiH=>acr (Lb (!(iG==iH)))) λacq=>bif Wm then acq (Lb true)else aC (aR gH ((dC:Int).toNat))<|qK i (gH.toNat*1) λjG=>acq (Lb jG)) λacp=>bif decide (gH<0)then acp (Lb true)else acp (Lb (decide (gH>=(dC:Int))))else bz []) n (Li 0)) λaW=>bif decide ((vO:Int)>(dC:Int))then aW (Lb true)else aW (Lb (decide ((gO:Int)>(dC:Int))))) λaI=>bif b1 then aI (Lb true)else bq (c 144 [.s 2 x3 ee]) λnP=>aI (Lb (!nP))) λaz=>bif !x6 then az (Lb true)else az (Lb (decide ((dC:Int)>x1)))
def SN:ao:=λc n args=>
 ba args λcs args=>aD .i64 cs λa r=>Zx r λa1 a2 a3 NG a4 a4n a5 a5n=>ba args λbM args=>aD .i64 bM λb1 r=>Zx r λb2 b3 b4 Wo b5 b5n b6 b6n=>aL args<|aA (λb7=>aA (λb8=>aA (λb9=>bif b9 then ay (Lb false)else Q_ (ay (Lb true)) λbz=>cN (λaV i=>bif decide (i<(NG:Int))then xy 2 a3 i NG λx=>xy 2 b4 i Wo λx1=>aA (λBY=>bif BY then ay (Lb false)else aV (Li (ar (i+1)))) λck=>bif !(x==x1)then ck (Lb true)else N_ a3 i NG λi3 o2=>bD i3 (i.toNat*2+o2+1) λd2=>dr 4 d2 λx2 cW=>N_ b4 i Wo λi4 o3=>bD i4 (i.toNat*2+o3+1) λd3=>dr 4 d3 λx3 ee=>bq (c 153 [.s 4 x2 cW,.s 4 x3 ee]) λx4=>ck (Lb (!x4))else bz []) n (Li 0)) λaW=>bif b8 then aW (Lb true)else bq (c 113 (wh a5 a5n b6 b6n)) λx5=>aW (Lb (!x5))) λaI=>bif b7 then aI (Lb true)else bq (c 113 (wh a4 a4n b5 b5n)) λx6=>aI (Lb (!x6))) λaz=>bif !((a==b1)&&((a1==b2)&&((a2==b3)&&true)))then az (Lb true)else az (Lb (!((NG:Int)==(Wo:Int))))
def Sk:ao:=λc n args=>
 DH args λg g1 g2=>aA (λb1=>aA (λb2=>aA (λb3=>aA (λb4=>aA (λb5=>ay (Lb b5)) λck=>bif b4 then ck (Lb (decide (g2<=4294967295)))else ck (Lb false)) λbz=>bif b3 then bz (Lb (decide (g2>=1)))else bz (Lb false)) λaW=>bif b2 then aW (Lb (decide (g1<=1792)))else aW (Lb false)) λaI=>bif b1 then aI (Lb (decide (g1>=1)))else aI (Lb false)) λaz=>bif decide (g>=16)then az (Lb (decide (g<=3072)))else az (Lb false)
def QR:ao:=λc n args=>
 ba args λcs args=>aD .i64 cs λx r=>Zx r λx1 x2 x3 ee x4 dC x5 gO=>aL args<|gD λb0=>Dl (λout kS=>bZ b0 (rY out kS)) λaz=>cS (λaV st=>bW 4 st λgu eK st=>cP st λi=>bif decide (i<(ee:Int))then N_ x3 i ee λi1 o=>bD i1 (i.toNat*2+o+1) λd=>dr 4 d λx6 pJ=>dy x6 (pJ*4) λbM=>cm 4 gu eK bM pJ 2199023255552 λp=>aV [.s 4 p (eK+pJ),.i (ar (i+1))]else az (rY gu eK)) n (iw none 0 0)
def Ts:ao:=λc n args=>
 oe args λl ln n1=>Q_ (ay (Lb false)) λaz=>cN (λaV i=>bif decide (i<(ln:Int))then Zn 1 l i ln λx=>bif x==n1 then ay (Lb true)else aV (Li (ar (i+1)))else az []) n (Li 0)
def RR:ao:=λc n args=>
 bW 2 args λl ln args=>aL args<|bif decide ((ln:Int)>16)then ay (Lb false)else Q_ (ay (Lb true)) λaz=>cN (λaV i=>bif decide (i<(ln:Int))then Q_ (aV (Li (ar (i+1)))) λaI=>xy 2 l i ln λx=>bq (c 27 (Ls x)) λx1=>aA (λb1=>bif b1 then ay (Lb false)else Q_ (aI []) λbz=>cN (λdw k=>N_ l i ln λi2 o1=>bD i2 (i.toNat*2+o1+1) λd1=>dr 4 d1 λx2 cW=>bif decide (k<(cW:Int))then N_ l i ln λi3 o2=>bD i3 (i.toNat*2+o2+1) λd2=>dr 4 d2 λx3 ee=>bH x3 λi4 o3=>aC (aR (ar (k-1)) ee)<|bS i4 (((ar (k-1)).toNat)*4+o3) 4 λcs=>sh cs λx4 x5 x6 x7=>N_ l i ln λi5 o4=>bD i5 (i.toNat*2+o4+1) λd3=>dr 4 d3 λx8 ku=>N_ x8 k ku λi6 o5=>bS i6 (k.toNat*4+o5) 4 λbM=>sh bM λx9 cV eB fj=>bq (c 155 (Bx x4 x5 x6 x7 x9 cV eB fj)) λfH=>bif !fH then ay (Lb false)else dw (Li (ar (k+1)))else bz []) n (Li 1)) λaW=>bif !x1 then aW (Lb true)else aA (λb2=>aW (Lb b2)) λck=>bif decide (i>0)then bH l λi7 o6=>
 aC (aR (ar (i-1)) ln)<|bD i7 (((ar (i-1)).toNat)*2+o6) λd4=>BW d4 λgG=>xy 2 l i ln λfS=>cw (c 40 [.t gG,.t fS]) λfN=>ck (Lb (decide (fN>=0)))else ck (Lb false)else az []) n (Li 0)
def H5:ao:=λc n args=>
 DH args λg g1 g2=>aA (λb1=>aA (λb2=>aA (λb3=>aA (λb4=>aA (λb5=>ay (Lb b5)) λck=>bif b4 then ck (Lb (decide (g2<=4294967295)))else ck (Lb false)) λbz=>bif b3 then bz (Lb (decide (g2>=1)))else bz (Lb false)) λaW=>bif b2 then aW (Lb (decide (g1<=1792)))else aW (Lb false)) λaI=>bif b1 then aI (Lb (decide (g1>=1)))else aI (Lb false)) λaz=>bif decide (g>=16)then az (Lb (decide (g<=3072)))else az (Lb false)
def Ql:ao:=λc n args=>
 bW 1 args λs sn args=>VN args λf ff fc args=>aL args<|cw (c 156 [.s 1 s sn,.func f ff fc]) λx=>ay (Lb (decide (x>=0)))
def QP:ao:=λc n args=>
 bW 4 args λa an args=>bW 4 args λb1 bX args=>aL args<|bif !((an:Int)==(bX:Int))then ay (Lb false)else Q_ (ay (Lb true)) λaz=>cN (λaV i=>bif decide (i<(an:Int))then N_ a i an λi1 o=>bS i1 (i.toNat*4+o) 4 λcs=>sh cs λx x1 x2 x3=>N_ b1 i bX λi2 o1=>bS i2 (i.toNat*4+o1) 4 λbM=>sh bM λx4 x5 x6 x7=>bif !((x==x4)&&((x1==x5)&&((x2==x6)&&((x3==x7)&&true))))then ay (Lb false)else aV (Li (ar (i+1)))else az []) n (Li 0)
def RS:ao:=λc n args=>
 LX args λa a1 a2 a3 b1 b2 b3 b4=>bif !(a2==b3)then ay (Lb (decide (a2<b3)))else bif !(a==b1)then ay (Lb (decide (a<b1)))else ay (Lb (decide (a1<b2)))
def Qj:ao:=λc n args=>
 bW 1 args λs sn args=>VN args λf ff fc args=>aL args<|Q_ (ay (Li (-1))) λaz=>cN (λaV x=>bif decide (x<(sn:Int))then Zn 1 s x sn λx1=>bq (c f (ff++(Li x1)++fc)) λx2=>bif x2 then ay (Li x)else aV (Li (ar (x+1)))else az []) n (Li 0)
def HV:ao:=λc n args=>
 LX args λa a1 a2 a3 b1 b2 b3 b4=>lY (c 161 (gJ a2 b3)) λx=>lY (c 161 (gJ a b1)) λx1=>cw (c 161 (gJ a1 b2)) λx2=>cd (zI x x1 x2) λi=>cw (c 162 (aZ (some (i,0)) 3)) λx3=>ay (Li x3)
def HS:ao:=λc n args=>
 iX args λx y=>bq (c 163 (Li x)) λx1=>bq (c 163 (Li y)) λx2=>bif x1 then bif x2 then ay (Li 0)else ay (Li (-1))else bif x2 then ay (Li 1)else bif decide (x<y)then ay (Li (-1))else bif decide (x>y)then ay (Li 1)else ay (Li 0)
def H6:ao:=λc n args=>
 bV args λajM acY=>Q_ (ay (Li 0)) λaz=>cN (λaV x=>bif decide (x<(acY:Int))then Zn 1 ajM x acY λx1=>bif !(x1==0)then ay (Li x1)else aV (Li (ar (x+1)))else az []) n (Li 0)
def HZ:ao:=λc n args=>
 cP args λx=>ay (Lb (!(x==x)))
end
structure Mi (Bd:Zh):Prop where
 eq:Bd 162=H6
structure LV (Bd:Zh):Prop where
 eq:Bd 163=HZ
structure HT (Bd:Zh):Prop where
 eq:Bd 161=HS
 q1:LV Bd
structure Fs (Bd:Zh):Prop where
 eq:Bd 159=HV
 q2:Mi Bd
 q0:HT Bd
structure QT (Bd:Zh):Prop where
 eq:Bd 153=QP
end Go.Gv
