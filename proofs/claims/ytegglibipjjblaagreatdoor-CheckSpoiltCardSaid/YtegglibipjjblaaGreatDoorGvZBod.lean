/- slices.SortFunc at entries (slot, gen, key, value), by key, slot and gen: a body of our own. -/
import Derived.Test.YtegglibipjjblaaGreatDoorGvZRun
set_option linter.all false
namespace Go.Gv
abbrev E4:=Int×Int×Int×Int
def fT (x y:E4):Bool:=decide (x.2.2.1<y.2.2.1)||(x.2.2.1==y.2.2.1&&(decide (x.1<y.1)||(x.1==y.1&&decide (x.2.1<y.2.1))))
def Fq (x:E4):List E4->List E4
 |[]=>[x]
 |y::r=>bif fT x y then x::y::r else y::Fq x r
def jQ:List E4->List E4
 |[]=>[]
 |x::r=>Fq x (jQ r)
def Ek:List E4->Bool
 |[]=>true
 |x::r=>r.all (λy=>fT x y||fT y x)&&Ek r
def tg (x:E4):ah:=[.i x.1,.i x.2.1,.i x.2.2.1,.i x.2.2.2]
def nb:List E4->ah
 |[]=>[]
 |x::r=>tg x++nb r
def AL:ah->Option (List E4)
 |[]=>some []
 | .i a:: .i b:: .i c:: .i d::r=>(match AL r with|some l=>some ((a,b,c,d)::l)|none=>none)
 |_=>none
def Jl:ao:=λ_ _ args=>
 match args with
 |[.slice 4 a n,.func 159 [] []]=>(match a with
  |none=>bif Nat.beq n 0 then ax []else fail
  |some (i,o)=>λs=>match s.gP i with
   |some cs=>bif Nat.ble (o+n*4) cs.length then(match AL ((cs.drop o).take (n*4))with
    |some l=>bif Ek l&&Nat.ble n 1000000 then ax [] (s.set i (some ⟨false,cG cs o (nb (jQ l))⟩))else none
    |none=>none)else none
   |none=>none)
 |_=>fail
theorem Ef (x y:E4):fT x y=true↔x.2.2.1<y.2.2.1\/(x.2.2.1=y.2.2.1/\(x.1<y.1\/(x.1=y.1/\x.2.1<y.2.1))):=by
 simp[fT]
variable {y:E4}
theorem Vh {x:E4} (h:fT x y=true):fT y x=false:=by
 rw[Ef]at h;grind[Ef]
variable {z:E4}
theorem U7 {x:E4} (h:fT x y=true) (k:fT y z=true):fT x z=true:=by
 rw[Ef]at*;omega
theorem Zvy {x:E4} (h:fT x y=false) (k:fT y z=false):fT x z=false:=by
 cases e:fT x z with
 |false=>rfl
 |true=>
  have h1: ¬fT x y=true:=by rw[h];simp
  have h2: ¬fT y z=true:=by rw[k];simp
  rw[Ef]at*
  omega
theorem Vi (x:E4): ∀l,(Fq x l).Perm (x::l)
 |[]=> .refl _
 |y::r=>by
  unfold Fq;cases fT x y with
  |true=>exact .refl _
  |false=>exact((Vi x r).cons y).trans (.swap x y r)
theorem IS: ∀l,(jQ l).Perm l
 |[]=> .refl _
 |x::r=>(Vi x _).trans ((IS r).cons x)
def Ap (x y:E4):Prop:=fT x y=true\/fT y x=true
theorem Ve: ∀ {l:List E4},Ek l=true->l.Pairwise Ap
 |[],_=> .nil
 |x::r,h=>by
  simp only[Ek,aY,wF,mm]at h;exact .cons (λy hy=>h.1 y hy) (Ve h.2)
theorem Zn3 (x:E4): ∀ {l:List E4},l.Pairwise (λa b=>fT a b=true)->(∀y∈l,Ap x y)->(Fq x l).Pairwise (λa b=>fT a b=true)
 |[],_,_=>by simp[Fq]
 |y::r,h,ha=>by
  cases h with
  |cons h1 h2=>
   unfold Fq;cases e:fT x y with
   |true=>
    refine .cons (λz hz=>?_) (.cons h1 h2);rcases eM.1 hz with rfl|hz
    .exact e
    .exact U7 e (h1 z hz)
   |false=>
    refine .cons (λz hz=>?_) (Zn3 x h2 λz hz=>ha z (xT _ hz));rcases eM.1 ((Vi x r).mem_iff.1 hz)with rfl|hz
    .rcases ha y tV with h|h
     .rw[e]at h;cases h
     .exact h
    .exact h1 z hz
theorem Tf: ∀ {l:List E4},l.Pairwise Ap->(jQ l).Pairwise (λa b=>fT a b=true)
 |[],_=> .nil
 |x::r,.cons h1 h2=>Zn3 x (Tf h2) λy hy=>h1 y ((IS r).mem_iff.1 hy)
theorem Ap.symm {x:E4} (h:Ap x y):Ap y x:=h.elim .inr .inl
theorem Zpk {l l':List E4} (hp:l'.Perm l) (ha:l.Pairwise Ap) (hs:l'.Pairwise (λa b=>fT b a=false)):l'=jQ l:=by
 have uB:l'.Pairwise Ap:=(hp.pairwise_iff λh=>h.symm).2 ha;have iY:l'.Pairwise (λa b=>fT a b=true):=by
  refine List.Pairwise.imp₂ ?_ uB hs;intro a b h1 h2;rcases h1 with h|h
  .exact h
  grind
 refine List.Perm.eq_of_pairwise (le:=λa b=>fT a b=true) (λa b _ _ h1 h2=>?_) iY (Tf ha) (hp.trans (IS l).symm);rw[Vh h1]at h2;cases h2
theorem VA (l:List E4):(jQ l).length=l.length:=(IS l).length_eq
theorem Gb: ∀l:List E4,(nb l).length=l.length*4
 |[]=>rfl
 |x::r=>by rw[nb,bz,Gb r,cQ];show 4+_=_;omega
theorem ZrI: ∀ {ds:ah} {l:List E4},AL ds=some l->ds=nb l
 |[],l,h=>by cases h;rfl
 | .i a:: .i b:: .i c:: .i d::r,l,h=>by
  unfold AL at h;cases hr:AL r with
  |none=>rw[hr]at h;cases h
  |some l'=>
   rw[hr]at h;cases h;rw[ZrI hr];rfl
noncomputable section
def aj6 (c:Int):Op->Op
 | .binOp .mul t x (.const (.int k _)) t'=> .binOp .mul t x (.const (.int k c)) t'
 |o=>o
def Zz5 (c:Int) (o:Oper):Oper:= { o with op:=aj6 c o.op }
def Jz (c:Int):Code->Code
 | .region i ops d=> .region i ⟨ops.toList.map (Zz5 c)⟩ d
 | .seq a b=> .seq (Jz c a) (Jz c b)
 | .cond o a b=> .cond o (Jz c a) (Jz c b)
 |x=>x
def adg (c:Int) (f:Func):Func:= { f with body:=f.body.map (Jz c) }
def Xe (k:Int):Zg->Nat->ah->M ah:=λ_ _ args=>
 aC .u64 args λx args=>
 aI args<|
 bif x==0 then
  ax [.i 64]
 else
  aB (aP ((IntKind.wrap .u64 ((bits .and .u64 x (IntKind.wrap .u64 (0-x)))*k)).fdiv (2^58)) 64)<|
  bD 2 ((((IntKind.wrap .u64 ((bits .and .u64 x (IntKind.wrap .u64 (0-x)))*k)).fdiv (2^58)).toNat)*1+0) λd=>
  de .u8 d λx1=>
  ax [.i (ar (x1))]
def Ir:ao:=Xe 285870213051353865
theorem ZAR {C:bE} {A:FA} {f:Func} (h: ∀c,vE C A (adg c f)=Xe c) (e:adg 285870213051353865 f=f):vE C A f=Ir:=by
 have:=h 285870213051353865;rw[e]at this;exact this
end
set_option maxRecDepth 10000
set_option maxHeartbeats 4000000
noncomputable section
def Sy:ao:=λc n args=>
 jU args λs=>gB λb0=>fJ (λout lj=>cc b0 (ba out lj)) λay=>cY (λaQ st=>fa st λs1 st=>bZ st λgE eU=>bif decide ((s1.length:Int)>0)then cV (c 15 (Ls s1)) λds=>je ds λx x1=>ck (Li x) λi=>bX i 0 1 λcs=>cw 1 gE eU cs 1 8796093022208 λp=>aB (decide (0<=x1)&&decide (x1<=(s1.length:Int)))<|aQ [.str (s1.drop x1.toNat),.slice 1 p (eU+1)]else ay (ba gE eU)) n [.str s,.slice 0 none 0]
def SM:ao:=λc n args=>
 jU args λs=>aB (aP 0 s.length)<|bif decide (ZV s 0<128)then ax (gA (ar (ZV s 0)) 1)else az (λb1=>az (λb2=>bif b2 then aB (aP 1 s.length)<|ax (gA (ar ((ar ((ar (IntKind.wrap .u8 ((ZV s 0)-192)))*64))+(ar (IntKind.wrap .u8 ((ZV s 1)-128))))) 2)else az (λb3=>Q_ (ax (gA 65533 1)) λbA=>bif b3 then Im (λlo=>Im (λhi=>bu (c 19 (D3 s 1 lo hi)) λx=>az (λb4=>bif b4 then aB (aP 1 s.length)<|aB (aP 2 s.length)<|ax (gA (ar ((ar ((ar ((ar (IntKind.wrap .u8 ((ZV s 0)-224)))*4096))+(ar ((ar (IntKind.wrap .u8 ((ZV s 1)-128)))*64))))+(ar (IntKind.wrap .u8 ((ZV s 2)-128))))) 3)else bA []) λgU=>bif x then bu (c 19 (D3 s 2 128 191)) λx1=>gU (Lb x1)else gU (Lb false)) λdA=>bif (ZV s 0)==237 then dA (kM 159)else dA (kM 191)) λcq=>bif (ZV s 0)==224 then cq (kM 160)else cq (kM 128)else az (λb5=>Q_ (bA []) λiO=>bif b5 then Im (λlo1=>Im (λKt=>bu (c 19 (D3 s 1 lo1 Kt)) λx2=>az (λb6=>az (λb7=>
 bif b7 then aB (aP 1 s.length)<|aB (aP 2 s.length)<|aB (aP 3 s.length)<|ax (gA (ar ((ar ((ar ((ar ((ar (IntKind.wrap .u8 ((ZV s 0)-240)))*262144))+(ar ((ar (IntKind.wrap .u8 ((ZV s 1)-128)))*4096))))+(ar ((ar (IntKind.wrap .u8 ((ZV s 2)-128)))*64))))+(ar (IntKind.wrap .u8 ((ZV s 3)-128))))) 4)else iO []) λnR=>bif b6 then bu (c 19 (D3 s 3 128 191)) λx3=>nR (Lb x3)else nR (Lb false)) λqM=>bif x2 then bu (c 19 (D3 s 2 128 191)) λx4=>qM (Lb x4)else qM (Lb false)) λlh=>bif (ZV s 0)==244 then lh (kM 143)else lh (kM 191)) λkG=>bif (ZV s 0)==240 then kG (kM 144)else kG (kM 128)else iO []) λiN=>bif decide (ZV s 0>=240)then iN (Lb (decide (ZV s 0<=244)))else iN (Lb false)) λaW=>bif decide (ZV s 0>=224)then aW (Lb (decide (ZV s 0<=239)))else aW (Lb false)) λaH=>bif b1 then bu (c 19 (D3 s 1 128 191)) λx5=>aH (Lb x5)else aH (Lb false)) λay=>bif decide (ZV s 0>=194)then ay (Lb (decide (ZV s 0<=223)))else ay (Lb false)
def Rs:ao:=λc n args=>
 fa args λs args=>aC .i64 args λbV args=>Na args λlo hi=>az (λb1=>az (λb2=>ax (Lb b2)) λaH=>bif b1 then aB (aP bV s.length)<|aH (Lb (decide (ZV s bV<=hi)))else aH (Lb false)) λay=>bif decide (bV<(s.length:Int))then aB (aP bV s.length)<|ay (Lb (decide (ZV s bV>=lo)))else ay (Lb false)
end
noncomputable section
def Ts:ao:=λc n args=>
 jU args λs=>pA (λn1=>ax (Lb (decide (n1>0)))) λay=>cY (λaQ st=>aC .i64 st λn2 st=>Mo st λp=>bif Nat.blt p s.length then az (λb1=>bif b1 then ax (Lb false)else aQ [.i (ar (n2+1)),.nat (p+wv s p)]) λaH=>bif decide (ar (n2+1)>8)then aH (Lb true)else bu (c 28 (DM (Eo s p))) λx=>aH (Lb (!x))else ay (Li n2)) n [.i 0,.nat 0]
def Sw:ao:=λc n args=>
 jU args λs=>il (c 12 (Ls s)) λx xn=>az (λb1=>az (λok=>ax (Lb ok)) λaH=>cY (λaQ st=>gK st λDp st=>cW st λi=>bif decide (i<(xn:Int))then az (λb2=>aQ (Ad b2 (ar (i+1)))) λaW=>bif Dp then Zn 1 x i xn λx1=>bu (c 29 (Li x1)) λx2=>aW (Lb x2)else aW (Lb false)else aH (Lb Dp)) n (Ad b1 0)) λay=>bif decide ((xn:Int)>0)then ay (Lb (decide ((xn:Int)<=8)))else ay (Lb false)
def U6:ao:=λc n args=>
 aC .i32 args λr1 args=>aI args<|cV (c 54 []) λds=>bh ds λcs ds=>bC cs 12<|aI ds<|Q_ (ax (Lb false)) λay=>cN (λaQ x=>bif decide (x<6)then aB (aP x 6)<|bC ((cs.drop (x.toNat*2)).take 2) 2<|eS ((cs.drop (x.toNat*2)).take 2) 0 λd=>de .i32 d λx1=>az (λb1=>bif b1 then ax (Lb true)else aQ (Li (ar (x+1)))) λaH=>bif decide (r1>=x1)then eS ((cs.drop (x.toNat*2)).take 2) 1 λd1=>de .i32 d1 λx2=>aH (Lb (decide (r1<=x2)))else aH (Lb false)else ay []) n (Li 0)
def U3:ao:=λc n args=>
 cW args λr1=>az (λb1=>az (λb2=>az (λb3=>az (λb4=>az (λb5=>az (λb6=>ax (Lb b6)) λdA=>bif b5 then dA (Lb true)else az (λb7=>dA (Lb b7)) λgU=>bif decide (r1>=161)then gU (Lb (decide (r1<=65519)))else gU (Lb false)) λcq=>bif b4 then cq (Lb true)else cq (Lb (r1==95))) λbA=>bif b3 then bA (Lb true)else bA (Lb (r1==45))) λaW=>bif b2 then aW (Lb true)else az (λb8=>aW (Lb b8)) λiN=>bif decide (r1>=48)then iN (Lb (decide (r1<=57)))else iN (Lb false)) λaH=>bif b1 then aH (Lb true)else az (λb9=>aH (Lb b9)) λiO=>bif decide (r1>=65)then iO (Lb (decide (r1<=90)))else iO (Lb false)) λay=>bif decide (r1>=97)then ay (Lb (decide (r1<=122)))else ay (Lb false)
def TX:ao:=λc n args=>
 jU args λs=>gB λb0=>fJ (λout lj=>cc b0 (ba out lj)) λay=>cY (λaQ st=>bU 1 st λgE eU st=>Mo st λp=>bif Nat.blt p s.length then ck (DM (Eo s p)) λi=>bX i 0 1 λcs=>cw 1 gE eU cs 1 17592186044416 λp1=>aQ [.slice 1 p1 (eU+1),.nat (p+wv s p)]else ay (ba gE eU)) n [.slice 0 none 0,.nat 0]
def Sq:ao:=λc n args=>
 fa args λa args=>jU args λb1=>il (c 34 (Ls a)) λx xn=>il (c 34 (Ls b1)) λx1 jS=>cA (c 57 (wP x xn x1 jS)) λx2=>ax (Li x2)
def Ry:ao:=λc n args=>
 fa args λa args=>jU args λb1=>il (c 12 (Ls a)) λx xn=>il (c 12 (Ls b1)) λx1 jS=>Q_ (bif decide ((xn:Int)<(jS:Int))then ax (Li (-1))else bif decide ((xn:Int)>(jS:Int))then ax (Li 1)else ax (Li 0)) λay=>cN (λaQ i=>az (λb2=>bif b2 then Zn 1 x i xn λx2=>Zn 1 x1 i jS λx3=>bif decide (x2<x3)then ax (Li (-1))else Zn 1 x i xn λx4=>Zn 1 x1 i jS λx5=>bif decide (x4>x5)then ax (Li 1)else aQ (Li (ar (i+1)))else ay []) λaH=>bif decide (i<(xn:Int))then aH (Lb (decide (i<(jS:Int))))else aH (Lb false)) n (Li 0)
def Znj:ao:=λc n args=>
 aI args<|ax [.agg [.int .i32 97,.int .i32 122,.int .i32 65,.int .i32 90,.int .i32 48,.int .i32 57,.int .i32 45,.int .i32 45,.int .i32 95,.int .i32 95,.int .i32 161,.int .i32 65519]]
def QW:ao:=λc n args=>
 bU 1 args λs1 FC args=>bZ args λs2 HW=>Q_ (bif decide ((FC:Int)<(HW:Int))then ax (Li (-1))else ax (Li 0)) λay=>cN (λaQ x=>bif decide (x<(FC:Int))then N_ s1 x FC λi o=>bD i (x.toNat*1+o) λd=>de .i32 d λx1=>bif decide (x>=(HW:Int))then ax (Li 1)else N_ s2 x HW λi1 o1=>bD i1 (x.toNat*1+o1) λd1=>de .i32 d1 λx2=>cA (c 64 [.int .i32 x1,.int .i32 x2]) λx3=>bif !(x3==0)then ax (Li x3)else aQ (Li (ar (x+1)))else ay []) n (Li 0)
def Rc:ao:=λc n args=>
 aC .i32 args λx args=>aC .i32 args λy args=>aI args<|bu (c 72 (DM x)) λx1=>bu (c 72 (DM y)) λx2=>bif x1 then bif x2 then ax (Li 0)else ax (Li (-1))else bif x2 then ax (Li 1)else bif decide (x<y)then ax (Li (-1))else bif decide (x>y)then ax (Li 1)else ax (Li 0)
def Ru:ao:=λc n args=>
 aC .i32 args λx args=>aI args<|ax (Lb (!(x==x)))
end
noncomputable section
end
noncomputable section
end
noncomputable section
end
noncomputable section
end
noncomputable section
def MF:ao:=λc n args=>
 bU 1 args λa an args=>bZ args λb1 bS=>bif !((an:Int)==(bS:Int))then ax (Lb false)else Q_ (ax (Lb true)) λay=>cN (λaQ i=>bif decide (i<(an:Int))then Zn 1 a i an λx=>Zn 1 b1 i bS λx1=>bif !(x==x1)then ax (Lb false)else aQ (Li (ar (i+1)))else ay []) n (Li 0)
end
noncomputable section
end
noncomputable section
end
noncomputable section
def Uk:ao:=λc n args=>
 vq args λx x1 x2 x3 dK x4 dy x5 gr=>bu (c 141 (vw x x1 x2)) λx6=>az (λb1=>az (λb2=>bif b2 then ax (Lb false)else cV (c 142 (ye x x1 x2 x3 dK x4 dy x5 gr)) λds=>bU 4 ds λx7 wA ds=>aI ds<|az (λb3=>bif b3 then ax (Lb false)else aB (decide (0<=(dy:Int))&&decide ((dy:Int)<=(dy:Int))&&decide ((dy:Int)<=70368744177664))<|ck (iD ((dy:Int).toNat) (Lb false)) λi=>Q_ (Q_ (Q_ (ax (Lb true)) λdA=>cN (λaQ i1=>bif decide (i1<(dy:Int))then Zn 1 x4 i1 dy λx8=>az (λb4=>az (λb5=>bif b5 then ax (Lb false)else aQ (Li (ar (i1+1)))) λiN=>bif b4 then iN (Lb true)else aB (aP i1 ((dy:Int).toNat))<|pJ i (i1.toNat*1) λx9=>az (λb6=>az (λb7=>iN (Lb b7)) λkG=>bif b6 then bu (c 143 (ep x5 gr i1)) λcX=>kG (Lb (!cX))else kG (Lb false)) λiO=>bif !x9 then Zn 1 x4 i1 dy λee=>iO (Lb (decide (ee<x2)))else iO (Lb false)) λgU=>bif decide (x8<1)then gU (Lb true)else Zn 1 x4 i1 dy λfj=>
 gU (Lb (decide (fj>x2)))else dA []) n (Li 0)) λcq=>cN (λdC i5=>bif decide (i5<(gr:Int))then Zn 1 x5 i5 gr λfA=>az (λb8=>az (λb9=>az (λCy=>az (λXa=>bif Xa then ax (Lb false)else dC (Li (ar (i5+1)))) λLm=>bif Cy then Lm (Lb true)else aB (decide (0<=i5)&&decide (i5<=(gr:Int)))<|bu (c 143 (ep x5 i5.toNat fA)) λgG=>Lm (Lb gG)) λnR=>bif b9 then nR (Lb true)else Zn 1 x4 fA dy λfQ=>nR (Lb (decide (fQ>=x2)))) λqM=>bif b8 then qM (Lb true)else aB (aP fA ((dy:Int).toNat))<|pJ i (fA.toNat*1) λfI=>qM (Lb fI)) λlh=>bif decide (fA<0)then lh (Lb true)else lh (Lb (decide (fA>=(dy:Int))))else cq []) n (Li 0)) λbA=>cN (λwq i8=>bif decide (i8<(wA:Int))then N_ x7 i8 wA λi9 o5=>bX i9 (i8.toNat*4+o5) 2 λbQ=>je bQ λgH ij=>az (λXb=>az (λXc=>az (λb14=>bif b14 then ax (Lb false)else aB (aP gH ((dy:Int).toNat))<|dG i (gH.toNat*1) (Lb true)<|wq (Li (ar (i8+1)))) λac9=>
 bif Xc then ac9 (Lb true)else Zn 1 x4 gH dy λik=>ac9 (Lb (!(ij==ik)))) λac8=>bif Xb then ac8 (Lb true)else aB (aP gH ((dy:Int).toNat))<|pJ i (gH.toNat*1) λjn=>ac8 (Lb jn)) λac7=>bif decide (gH<0)then ac7 (Lb true)else ac7 (Lb (decide (gH>=(dy:Int))))else bA []) n (Li 0)) λaW=>bif decide ((wA:Int)>(dy:Int))then aW (Lb true)else aW (Lb (decide ((gr:Int)>(dy:Int))))) λaH=>bif b1 then aH (Lb true)else bu (c 144 [.slice 2 x3 dK]) λmT=>aH (Lb (!mT))) λay=>bif !x6 then ay (Lb true)else ay (Lb (decide ((dy:Int)>x1)))
def Tj:ao:=λc n args=>
 bh args λcs args=>aC .i64 cs λa r=>ZF r λa1 a2 a3 Oj a4 a4n a5 a5n=>vq args λb1 b2 b3 b4 Xd b5 b5n b6 b6n=>az (λb7=>az (λb8=>az (λb9=>bif b9 then ax (Lb false)else Q_ (ax (Lb true)) λbA=>cN (λaQ i=>bif decide (i<(Oj:Int))then vo 2 a3 i Oj λx=>vo 2 b4 i Xd λx1=>az (λCy=>bif Cy then ax (Lb false)else aQ (Li (ar (i+1)))) λcq=>bif !(x==x1)then cq (Lb true)else N_ a3 i Oj λi3 o2=>bD i3 (i.toNat*2+o2+1) λd2=>dz 4 d2 λx2 db=>N_ b4 i Xd λi4 o3=>bD i4 (i.toNat*2+o3+1) λd3=>dz 4 d3 λx3 dK=>bu (c 153 [.slice 4 x2 db,.slice 4 x3 dK]) λx4=>cq (Lb (!x4))else bA []) n (Li 0)) λaW=>bif b8 then aW (Lb true)else bu (c 113 (wP a5 a5n b6 b6n)) λx5=>aW (Lb (!x5))) λaH=>bif b7 then aH (Lb true)else bu (c 113 (wP a4 a4n b5 b5n)) λx6=>aH (Lb (!x6))) λay=>bif !((a==b1)&&((a1==b2)&&((a2==b3)&&true)))then ay (Lb true)else ay (Lb (!((Oj:Int)==(Xd:Int))))
def TC:ao:=λc n args=>
 vq args λx x1 x2 x3 dK x4 dy x5 gr=>az (λb1=>az (λb2=>az (λb3=>bif b3 then ax (Lb false)else Q_ (ax (Lb true)) λbA=>cN (λaQ i=>bif decide (i<(dK:Int))then N_ x3 i dK λi1 o=>bD i1 (i.toNat*2+o+1) λd=>dz 4 d λx6 mU=>az (λb4=>bif b4 then ax (Lb false)else aQ (Li (ar (i+1)))) λcq=>bif decide ((mU:Int)>40)then cq (Lb true)else vo 2 x3 i dK λx7=>cq (Lb (decide ((x7.length:Int)>60)))else bA []) n (Li 0)) λaW=>bif b2 then aW (Lb true)else aW (Lb (decide (x>400)))) λaH=>bif b1 then aH (Lb true)else aH (Lb (decide ((gr:Int)>60)))) λay=>bif decide ((dK:Int)>8)then ay (Lb true)else ay (Lb (decide ((dy:Int)>60)))
def SS:ao:=λc n args=>
 D9 args λg g1 g2=>az (λb1=>az (λb2=>az (λb3=>az (λb4=>az (λb5=>ax (Lb b5)) λcq=>bif b4 then cq (Lb (decide (g2<=4294967295)))else cq (Lb false)) λbA=>bif b3 then bA (Lb (decide (g2>=1)))else bA (Lb false)) λaW=>bif b2 then aW (Lb (decide (g1<=1792)))else aW (Lb false)) λaH=>bif b1 then aH (Lb (decide (g1>=1)))else aH (Lb false)) λay=>bif decide (g>=16)then ay (Lb (decide (g<=3072)))else ay (Lb false)
def Sg:ao:=λc n args=>
 vq args λx x1 x2 x3 dK x4 dy x5 gr=>gB λb0=>DP (λout lj=>cc b0 (sJ out lj)) λay=>cY (λaQ st=>bU 4 st λgE eU st=>cW st λi=>bif decide (i<(dK:Int))then N_ x3 i dK λi1 o=>bD i1 (i.toNat*2+o+1) λd=>dz 4 d λx6 mU=>dx x6 (mU*4) λbQ=>cw 4 gE eU bQ mU 2199023255552 λp=>aQ [.slice 4 p (eU+mU),.i (ar (i+1))]else ay (sJ gE eU)) n (iH none 0 0)
def TN:ao:=λc n args=>
 oq args λl ln n1=>Q_ (ax (Lb false)) λay=>cN (λaQ i=>bif decide (i<(ln:Int))then Zn 1 l i ln λx=>bif x==n1 then ax (Lb true)else aQ (Li (ar (i+1)))else ay []) n (Li 0)
def SN:ao:=λc n args=>
 bU 2 args λl ln args=>aI args<|bif decide ((ln:Int)>16)then ax (Lb false)else Q_ (ax (Lb true)) λay=>cN (λaQ i=>bif decide (i<(ln:Int))then Q_ (aQ (Li (ar (i+1)))) λaH=>vo 2 l i ln λx=>bu (c 27 (Ls x)) λx1=>az (λb1=>bif b1 then ax (Lb false)else Q_ (aH []) λbA=>cN (λdC k=>N_ l i ln λi2 o1=>bD i2 (i.toNat*2+o1+1) λd1=>dz 4 d1 λx2 db=>bif decide (k<(db:Int))then N_ l i ln λi3 o2=>bD i3 (i.toNat*2+o2+1) λd2=>dz 4 d2 λx3 dK=>bJ x3 λi4 o3=>aB (aP (ar (k-1)) dK)<|bX i4 (((ar (k-1)).toNat)*4+o3) 4 λcs=>sT cs λx4 x5 x6 x7=>N_ l i ln λi5 o4=>bD i5 (i.toNat*2+o4+1) λd3=>dz 4 d3 λx8 jE=>N_ x8 k jE λi6 o5=>bX i6 (k.toNat*4+o5) 4 λbQ=>sT bQ λx9 cX ee fj=>bu (c 155 (B0 x4 x5 x6 x7 x9 cX ee fj)) λfA=>bif !fA then ax (Lb false)else dC (Li (ar (k+1)))else bA []) n (Li 1)) λaW=>bif !x1 then aW (Lb true)else az (λb2=>aW (Lb b2)) λcq=>bif decide (i>0)then bJ l λi7 o6=>
 aB (aP (ar (i-1)) ln)<|bD i7 (((ar (i-1)).toNat)*2+o6) λd4=>Cw d4 λgG=>vo 2 l i ln λfQ=>cA (c 40 [.str gG,.str fQ]) λfI=>cq (Lb (decide (fI>=0)))else cq (Lb false)else ay []) n (Li 0)
def IC:ao:=λc n args=>
 D9 args λg g1 g2=>az (λb1=>az (λb2=>az (λb3=>az (λb4=>az (λb5=>ax (Lb b5)) λcq=>bif b4 then cq (Lb (decide (g2<=4294967295)))else cq (Lb false)) λbA=>bif b3 then bA (Lb (decide (g2>=1)))else bA (Lb false)) λaW=>bif b2 then aW (Lb (decide (g1<=1792)))else aW (Lb false)) λaH=>bif b1 then aH (Lb (decide (g1>=1)))else aH (Lb false)) λay=>bif decide (g>=16)then ay (Lb (decide (g<=3072)))else ay (Lb false)
def QZ:ao:=λc n args=>
 bU 1 args λs sn args=>Wo args λf ff fc args=>aI args<|cA (c 156 [.slice 1 s sn,.func f ff fc]) λx=>ax (Lb (decide (x>=0)))
def Rt:ao:=λc n args=>
 bU 4 args λa an args=>bU 4 args λb1 bS args=>aI args<|bif !((an:Int)==(bS:Int))then ax (Lb false)else Q_ (ax (Lb true)) λay=>cN (λaQ i=>bif decide (i<(an:Int))then N_ a i an λi1 o=>bX i1 (i.toNat*4+o) 4 λcs=>sT cs λx x1 x2 x3=>N_ b1 i bS λi2 o1=>bX i2 (i.toNat*4+o1) 4 λbQ=>sT bQ λx4 x5 x6 x7=>bif !((x==x4)&&((x1==x5)&&((x2==x6)&&((x3==x7)&&true))))then ax (Lb false)else aQ (Li (ar (i+1)))else ay []) n (Li 0)
def SR:ao:=λc n args=>
 MD args λa a1 a2 a3 b1 b2 b3 b4=>bif !(a2==b3)then ax (Lb (decide (a2<b3)))else bif !(a==b1)then ax (Lb (decide (a<b1)))else ax (Lb (decide (a1<b2)))
def QX:ao:=λc n args=>
 bU 1 args λs sn args=>Wo args λf ff fc args=>aI args<|Q_ (ax (Li (-1))) λay=>cN (λaQ x=>bif decide (x<(sn:Int))then Zn 1 s x sn λx1=>bu (c f (ff++(Li x1)++fc)) λx2=>bif x2 then ax (Li x)else aQ (Li (ar (x+1)))else ay []) n (Li 0)
def Ix:ao:=λc n args=>
 MD args λa a1 a2 a3 b1 b2 b3 b4=>mq (c 161 (gA a2 b3)) λx=>mq (c 161 (gA a b1)) λx1=>cA (c 161 (gA a1 b2)) λx2=>ck (Ae x x1 x2) λi=>cA (c 162 (ba (some (i,0)) 3)) λx3=>ax (Li x3)
def Is:ao:=λc n args=>
 je args λx y=>bu (c 163 (Li x)) λx1=>bu (c 163 (Li y)) λx2=>bif x1 then bif x2 then ax (Li 0)else ax (Li (-1))else bif x2 then ax (Li 1)else bif decide (x<y)then ax (Li (-1))else bif decide (x>y)then ax (Li 1)else ax (Li 0)
def ID:ao:=λc n args=>
 bZ args λakG adJ=>Q_ (ax (Li 0)) λay=>cN (λaQ x=>bif decide (x<(adJ:Int))then Zn 1 akG x adJ λx1=>bif !(x1==0)then ax (Li x1)else aQ (Li (ar (x+1)))else ay []) n (Li 0)
def IB:ao:=λc n args=>
 cW args λx=>ax (Lb (!(x==x)))
end
structure MP (Bd:Zh):Prop where
 eq:Bd 162=ID
structure ME (Bd:Zh):Prop where
 eq:Bd 163=IB
structure It (Bd:Zh):Prop where
 eq:Bd 161=Is
 q1:ME Bd
structure F3 (Bd:Zh):Prop where
 eq:Bd 159=Ix
 q2:MP Bd
 q0:It Bd
structure Se (Bd:Zh):Prop where
 eq:Bd 153=Rt
end Go.Gv
