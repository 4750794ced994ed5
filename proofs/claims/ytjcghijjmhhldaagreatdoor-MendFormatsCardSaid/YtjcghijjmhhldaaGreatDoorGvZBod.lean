/- slices.SortFunc at entries (slot, gen, key, value), by key, slot and gen: a body of our own. -/
import Derived.Test.YtjcghijjmhhldaaGreatDoorGvZRun
set_option linter.all false
namespace Go.Gv
abbrev E4:=Int×Int×Int×Int
def eF (x y:E4):Bool:=decide (x.2.2.1<y.2.2.1)||(x.2.2.1==y.2.2.1&&(decide (x.1<y.1)||(x.1==y.1&&decide (x.2.1<y.2.1))))
def wX (x:E4):List E4->List E4
 |[]=>[x]
 |y::r=>bif eF x y then x::y::r else y::wX x r
def ig:List E4->List E4
 |[]=>[]
 |x::r=>wX x (ig r)
def wa:List E4->Bool
 |[]=>true
 |x::r=>r.all (λy=>eF x y||eF y x)&&wa r
def nh (x:E4):af:=[.i x.1,.i x.2.1,.i x.2.2.1,.i x.2.2.2]
def jz:List E4->af
 |[]=>[]
 |x::r=>nh x++jz r
def tg:af->Option (List E4)
 |[]=>some []
 | .i a:: .i b:: .i c:: .i d::r=>(match tg r with|some l=>some ((a,b,c,d)::l)|none=>none)
 |_=>none
def AT:an:=λ_ _ args=>
 match args with
 |[.slice 4 a n,.func 159 [] []]=>(match a with
  |none=>bif Nat.beq n 0 then au []else fail
  |some (i,o)=>λs=>match s.fJ i with
   |some cs=>bif Nat.ble (o+n*4) cs.length then(match tg ((cs.drop o).take (n*4))with
    |some l=>bif wa l&&Nat.ble n 1000000 then au [] (s.set i (some ⟨false,cT cs o (jz (ig l))⟩))else none
    |none=>none)else none
   |none=>none)
 |_=>fail
theorem yl (x y:E4):eF x y=true↔x.2.2.1<y.2.2.1\/(x.2.2.1=y.2.2.1/\(x.1<y.1\/(x.1=y.1/\x.2.1<y.2.1))):=by
 simp[eF]
variable {y:E4}
theorem Znz {x:E4} (h:eF x y=true):eF y x=false:=by
 rw[yl]at h;grind[yl]
variable {z:E4}
theorem Znk {x:E4} (h:eF x y=true) (k:eF y z=true):eF x z=true:=by
 rw[yl]at*;omega
theorem Zrm {x:E4} (h:eF x y=false) (k:eF y z=false):eF x z=false:=by
 cases e:eF x z with
 |false=>rfl
 |true=>
  have h1: ¬eF x y=true:=by rw[h];simp
  have h2: ¬eF y z=true:=by rw[k];simp
  rw[yl]at*
  omega
theorem KI (x:E4): ∀l,(wX x l).Perm (x::l)
 |[]=> .refl _
 |y::r=>by
  unfold wX;cases eF x y with
  |true=>exact .refl _
  |false=>exact((KI x r).cons y).trans (.swap x y r)
theorem D4: ∀l,(ig l).Perm l
 |[]=> .refl _
 |x::r=>(KI x _).trans ((D4 r).cons x)
def Ap (x y:E4):Prop:=eF x y=true\/eF y x=true
theorem Znl: ∀ {l:List E4},wa l=true->l.Pairwise Ap
 |[],_=> .nil
 |x::r,h=>by
  simp only[wa,aZ,sD,kb]at h;exact .cons (λy hy=>h.1 y hy) (Znl h.2)
theorem ZkS (x:E4): ∀ {l:List E4},l.Pairwise (λa b=>eF a b=true)->(∀y∈l,Ap x y)->(wX x l).Pairwise (λa b=>eF a b=true)
 |[],_,_=>by simp[wX]
 |y::r,h,ha=>by
  cases h with
  |cons h1 h2=>
   unfold wX;cases e:eF x y with
   |true=>
    refine .cons (λz hz=>?_) (.cons h1 h2);rcases dR.1 hz with rfl|hz
    .exact e
    .exact Znk e (h1 z hz)
   |false=>
    refine .cons (λz hz=>?_) (ZkS x h2 λz hz=>ha z (De _ hz));rcases dR.1 ((KI x r).mem_iff.1 hz)with rfl|hz
    .rcases ha y List.mem_cons_self with h|h
     .rw[e]at h;cases h
     .exact h
    .exact h1 z hz
theorem Zkq: ∀ {l:List E4},l.Pairwise Ap->(ig l).Pairwise (λa b=>eF a b=true)
 |[],_=> .nil
 |x::r,.cons h1 h2=>ZkS x (Zkq h2) λy hy=>h1 y ((D4 r).mem_iff.1 hy)
theorem Ap.symm {x:E4} (h:Ap x y):Ap y x:=h.elim .inr .inl
theorem Zq3 {l l':List E4} (hp:l'.Perm l) (ha:l.Pairwise Ap) (hs:l'.Pairwise (λa b=>eF b a=false)):l'=ig l:=by
 have M3:l'.Pairwise Ap:=(hp.pairwise_iff λh=>h.symm).2 ha;have mu:l'.Pairwise (λa b=>eF a b=true):=by
  refine List.Pairwise.imp₂ ?_ M3 hs;intro a b h1 h2;rcases h1 with h|h
  .exact h
  grind
 refine List.Perm.eq_of_pairwise (le:=λa b=>eF a b=true) (λa b _ _ h1 h2=>?_) mu (Zkq ha) (hp.trans (D4 l).symm);rw[Znz h1]at h2;cases h2
theorem KV (l:List E4):(ig l).length=l.length:=(D4 l).length_eq
theorem xQ: ∀l:List E4,(jz l).length=l.length*4
 |[]=>rfl
 |x::r=>by rw[jz,cq,xQ r,eK];show 4+_=_;omega
theorem ZnA: ∀ {ds:af} {l:List E4},tg ds=some l->ds=jz l
 |[],l,h=>by cases h;rfl
 | .i a:: .i b:: .i c:: .i d::r,l,h=>by
  unfold tg at h;cases hr:tg r with
  |none=>rw[hr]at h;cases h
  |some l'=>
   rw[hr]at h;cases h;rw[ZnA hr];rfl
noncomputable section
def Wa (c:Int):Op->Op
 | .binOp .mul t x (.const (.int k _)) t'=> .binOp .mul t x (.const (.int k c)) t'
 |o=>o
def ZtO (c:Int) (o:Oper):Oper:= { o with op:=Wa c o.op }
def Ba (c:Int):Code->Code
 | .region i ops d=> .region i ⟨ops.toList.map (ZtO c)⟩ d
 | .seq a b=> .seq (Ba c a) (Ba c b)
 | .cond o a b=> .cond o (Ba c a) (Ba c b)
 |x=>x
def QJ (c:Int) (f:Func):Func:= { f with body:=f.body.map (Ba c) }
def Ms (k:Int):Zd->Nat->af->M af:=λ_ _ args=>
 az .u64 args λx args=>
 aL args<|
 bif x==0 then
  au [.i 64]
 else
  aJ (bL ((IntKind.wrap .u64 ((bits .and .u64 x (IntKind.wrap .u64 (0-x)))*k)).fdiv (2^58)) 64)<|
  bc 2 ((((IntKind.wrap .u64 ((bits .and .u64 x (IntKind.wrap .u64 (0-x)))*k)).fdiv (2^58)).toNat)*1+0) λd=>
  dj .u8 d λx1=>
  au [.i (aq (x1))]
def Z7:an:=Ms 285870213051353865
theorem Zt9 {C:aY} {A:FA} {f:Func} (h: ∀c,oM C A (QJ c f)=Ms c) (e:QJ 285870213051353865 f=f):oM C A f=Z7:=by
 have:=h 285870213051353865;rw[e]at this;exact this
end
set_option maxRecDepth 10000
set_option maxHeartbeats 4000000
noncomputable section
end
noncomputable section
def Jn:an:=λc n args=>
 gY args λs args=>aL args<|jg (λn1=>au (Lb (decide (n1>0)))) λav=>dL (λaV st=>az .i64 st λn2 st=>Dn st λp=>bif Nat.blt p s.length then aB (λb1=>bif b1 then au (Lb false)else aV [.i (aq (n2+1)),.nat (p+pg s p)]) λaG=>bif decide (aq (n2+1)>8)then aG (Lb true)else bA (c 28 (vG (wb s p))) λx=>aG (Lb (!x))else av (Li n2)) n [.i 0,.nat 0]
def KO:an:=λc n args=>
 az .i32 args λr1 args=>aL args<|cK (c 54 []) λds=>bW ds λcs ds=>bK cs 12<|aL ds<|Q_ (au (Lb false)) λav=>bY (λaV x=>bif decide (x<6)then aJ (bL x 6)<|bK ((cs.drop (x.toNat*2)).take 2) 2<|fe ((cs.drop (x.toNat*2)).take 2) 0 λd=>dj .i32 d λx1=>aB (λb1=>bif b1 then au (Lb true)else aV (Li (aq (x+1)))) λaG=>bif decide (r1>=x1)then fe ((cs.drop (x.toNat*2)).take 2) 1 λd1=>dj .i32 d1 λx2=>aG (Lb (decide (r1<=x2)))else aG (Lb false)else av []) n (Li 0)
def Jt:an:=λc n args=>
 gY args λs args=>aL args<|kS λb0=>jx (λout mF=>gk b0 (bh out mF)) λav=>dL (λaV st=>cj 1 st λjo gL st=>Dn st λp=>bif Nat.blt p s.length then bH (vG (wb s p)) λi=>bP i 0 1 λcs=>cB 1 jo gL cs 1 17592186044416 λp1=>aV [.slice 1 p1 (gL+1),.nat (p+pg s p)]else av (bh jo gL)) n [.slice 0 none 0,.nat 0]
def I3:an:=λc n args=>
 gY args λa args=>gY args λb1 args=>aL args<|dZ (c 34 (Ls a)) λx xn=>dZ (c 34 (Ls b1)) λx1 fD=>aX (c 57 [.slice 1 x xn,.slice 1 x1 fD]) λx2=>au (Li x2)
def ZjQ:an:=λc n args=>
 aL args<|au [.agg [.int .i32 97,.int .i32 122,.int .i32 65,.int .i32 90,.int .i32 48,.int .i32 57,.int .i32 45,.int .i32 45,.int .i32 95,.int .i32 95,.int .i32 161,.int .i32 65519]]
def He:an:=λc n args=>
 cj 1 args λs1 xc args=>bG args λs2 zP=>Q_ (bif decide ((xc:Int)<(zP:Int))then au (Li (-1))else au (Li 0)) λav=>bY (λaV x=>bif decide (x<(xc:Int))then N_ s1 x xc λi o=>bc i (x.toNat*1+o) λd=>dj .i32 d λx1=>bif decide (x>=(zP:Int))then au (Li 1)else N_ s2 x zP λi1 o1=>bc i1 (x.toNat*1+o1) λd1=>dj .i32 d1 λx2=>aX (c 64 [.int .i32 x1,.int .i32 x2]) λx3=>bif !(x3==0)then au (Li x3)else aV (Li (aq (x+1)))else av []) n (Li 0)
def H2:an:=λc n args=>
 az .i32 args λx args=>az .i32 args λy args=>aL args<|bA (c 72 (vG x)) λx1=>bA (c 72 (vG y)) λx2=>bif x1 then bif x2 then au (Li 0)else au (Li (-1))else bif x2 then au (Li 1)else bif decide (x<y)then au (Li (-1))else bif decide (x>y)then au (Li 1)else au (Li 0)
def Io:an:=λc n args=>
 az .i32 args λx args=>aL args<|au (Lb (!(x==x)))
end
noncomputable section
end
noncomputable section
end
noncomputable section
end
noncomputable section
end
noncomputable section
end
noncomputable section
end
noncomputable section
end
noncomputable section
def IP:an:=λc n args=>
 pK args λg g1 g2=>aB (λb1=>aB (λb2=>aB (λb3=>aB (λb4=>aB (λb5=>au (Lb b5)) λdC=>bif b4 then dC (Lb (decide (g2<=4294967295)))else dC (Lb false)) λbR=>bif b3 then bR (Lb (decide (g2>=1)))else bR (Lb false)) λbp=>bif b2 then bp (Lb (decide (g1<=1792)))else bp (Lb false)) λaG=>bif b1 then aG (Lb (decide (g1>=1)))else aG (Lb false)) λav=>bif decide (g>=16)then av (Lb (decide (g<=3072)))else av (Lb false)
def Aw:an:=λc n args=>
 pK args λg g1 g2=>aB (λb1=>aB (λb2=>aB (λb3=>aB (λb4=>aB (λb5=>au (Lb b5)) λdC=>bif b4 then dC (Lb (decide (g2<=4294967295)))else dC (Lb false)) λbR=>bif b3 then bR (Lb (decide (g2>=1)))else bR (Lb false)) λbp=>bif b2 then bp (Lb (decide (g1<=1792)))else bp (Lb false)) λaG=>bif b1 then aG (Lb (decide (g1>=1)))else aG (Lb false)) λav=>bif decide (g>=16)then av (Lb (decide (g<=3072)))else av (Lb false)
def Hh:an:=λc n args=>
 cj 1 args λs sn args=>Bo args λf ff fc args=>aL args<|aX (c 156 [.slice 1 s sn,.func f ff fc]) λx=>au (Lb (decide (x>=0)))
def Hf:an:=λc n args=>
 cj 1 args λs sn args=>Bo args λf ff fc args=>aL args<|Q_ (au (Li (-1))) λav=>bY (λaV x=>bif decide (x<(sn:Int))then Zw 1 s x sn λx1=>bA (c f (ff++(Li x1)++fc)) λx2=>bif x2 then au (Li x)else aV (Li (aq (x+1)))else av []) n (Li 0)
def Am:an:=λc n args=>
 bW args λcs args=>az .i64 cs λa r=>oH r λa1 a2 a3=>bW args λbM args=>az .i64 bM λb1 r=>oH r λb2 b3 b4=>aL args<|nR (c 161 (gH a2 b3)) λx=>nR (c 161 (gH a b1)) λx1=>aX (c 161 (gH a1 b2)) λx2=>bH (sI x x1 x2) λi=>aX (c 162 (bh (some (i,0)) 3)) λx3=>au (Li x3)
def Aj:an:=λc n args=>
 az .i64 args λx args=>bQ args λy=>bA (c 163 (Li x)) λx1=>bA (c 163 (Li y)) λx2=>bif x1 then bif x2 then au (Li 0)else au (Li (-1))else bif x2 then au (Li 1)else bif decide (x<y)then au (Li (-1))else bif decide (x>y)then au (Li 1)else au (Li 0)
def Av:an:=λc n args=>
 bG args λWB Q7=>Q_ (au (Li 0)) λav=>bY (λaV x=>bif decide (x<(Q7:Int))then Zw 1 WB x Q7 λx1=>bif !(x1==0)then au (Li x1)else aV (Li (aq (x+1)))else av []) n (Li 0)
def Ak:an:=λc n args=>
 bQ args λx=>au (Lb (!(x==x)))
end
structure DJ (Bd:Ze):Prop where
 eq:Bd 162=Av
structure Dv (Bd:Ze):Prop where
 eq:Bd 163=Ak
structure Ai (Bd:Ze):Prop where
 eq:Bd 161=Aj
 q1:Dv Bd
structure xK (Bd:Ze):Prop where
 eq:Bd 159=Am
 q2:DJ Bd
 q0:Ai Bd
end Go.Gv
