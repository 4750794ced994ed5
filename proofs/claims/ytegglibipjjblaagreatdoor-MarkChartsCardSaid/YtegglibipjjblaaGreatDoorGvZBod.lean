/- slices.SortFunc at entries (slot, gen, key, value), by key, slot and gen: a body of our own. -/
import Derived.Test.YtegglibipjjblaaGreatDoorGvDef
import Derived.Test.YtegglibipjjblaaGreatDoorGvZRun
namespace Go.Gv
abbrev E4:=Int×Int×Int×Int
def ef (x y:E4):Bool:=decide (x.2.2.1<y.2.2.1)||(x.2.2.1==y.2.2.1&&(decide (x.1<y.1)||(x.1==y.1&&decide (x.2.1<y.2.1))))
def zj (x:E4):List E4->List E4
 |[]=>[x]
 |y::r=>bif ef x y then x::y::r else y::zj x r
def iI:List E4->List E4
 |[]=>[]
 |x::r=>zj x (iI r)
def yx:List E4->Bool
 |[]=>true
 |x::r=>r.all (fun y=>ef x y||ef y x)&&yx r
def oA (x:E4):List DV:=[.int .i64 x.1,.int .i64 x.2.1,.int .i64 x.2.2.1,.int .i64 x.2.2.2]
def kb:List E4->List DV
 |[]=>[]
 |x::r=>oA x++kb r
def uT:List DV->Option (List E4)
 |[]=>some []
 | .int .i64 a:: .int .i64 b:: .int .i64 c:: .int .i64 d::r=>(match uT r with|some l=>some ((a,b,c,d)::l)|none=>none)
 |_=>none
def CU:Zg->Nat->List DV->M (List DV):=fun _ _ args=>
 match args with
 |[.slice 4 a n,.func 159 [] []]=>(match a with
  |none=>bif Nat.beq n 0 then M.ret []else fail
  |some (i,o)=>fun s=>match s.fH i with
   |some cs=>bif Nat.ble (o+n*4) cs.length then(match uT ((cs.drop o).take (n*4))with
    |some l=>bif yx l&&Nat.ble n 1000000 then M.ret [] (s.set i (some ⟨false,bC cs o (kb (iI l))⟩))else none
    |none=>none)else none
   |none=>none)
 |_=>fail
theorem yo (x y:E4):ef x y=true↔x.2.2.1<y.2.2.1\/(x.2.2.1=y.2.2.1/\(x.1<y.1\/(x.1=y.1/\x.2.1<y.2.1))):=by
 simp[ef]
theorem O5 {x y:E4} (h:ef x y=true):ef y x=false:=by
 rw[yo]at h;cases e:ef y x with
 |false=>rfl
 |true=>rw[yo]at e;omega
theorem O3 {x y z:E4} (h:ef x y=true) (k:ef y z=true):ef x z=true:=by
 rw[yo]at*;omega
theorem ZxD {x y z:E4} (h:ef x y=false) (k:ef y z=false):ef x z=false:=by
 cases e:ef x z with
 |false=>rfl
 |true=>
  have h1: ¬ef x y=true:=by rw[h];simp
  have h2: ¬ef y z=true:=by rw[k];simp
  rw[yo]at*
  omega
theorem OK (x:E4): ∀l,(zj x l).Perm (x::l)
 |[]=> .refl _
 |y::r=>by
  unfold zj;cases ef x y with
  |true=>exact .refl _
  |false=>exact((OK x r).cons y).trans (.swap x y r)
theorem Zip: ∀l,(iI l).Perm l
 |[]=> .refl _
 |x::r=>(OK x _).trans ((Zip r).cons x)
def Ap (x y:E4):Prop:=ef x y=true\/ef y x=true
theorem Oh: ∀ {l:List E4},yx l=true->l.Pairwise Ap
 |[],_=> .nil
 |x::r,h=>by
  simp only[yx,aH,gv,jD]at h;exact .cons (fun y hy=>h.1 y hy) (Oh h.2)
theorem ZnQ (x:E4): ∀ {l:List E4},l.Pairwise (fun a b=>ef a b=true)->(∀y∈l,Ap x y)->(zj x l).Pairwise (fun a b=>ef a b=true)
 |[],_,_=>by simp[zj]
 |y::r,h,ha=>by
  cases h with
  |cons h1 h2=>
   unfold zj;cases e:ef x y with
   |true=>
    refine .cons (fun z hz=>?_) (.cons h1 h2);rcases bX.1 hz with rfl|hz
    ·exact e
    ·exact O3 e (h1 z hz)
   |false=>
    refine .cons (fun z hz=>?_) (ZnQ x h2 fun z hz=>ha z (lT _ hz));rcases bX.1 ((OK x r).mem_iff.1 hz)with rfl|hz
    ·rcases ha y jZ with h|h
     ·rw[e]at h;cases h
     ·exact h
    ·exact h1 z hz
theorem Zmc: ∀ {l:List E4},l.Pairwise Ap->(iI l).Pairwise (fun a b=>ef a b=true)
 |[],_=> .nil
 |x::r,.cons h1 h2=>ZnQ x (Zmc h2) fun y hy=>h1 y ((Zip r).mem_iff.1 hy)
theorem Ap.symm {x y:E4} (h:Ap x y):Ap y x:=h.elim .inr .inl
theorem Zqa {l l':List E4} (hp:l'.Perm l) (ha:l.Pairwise Ap) (hs:l'.Pairwise (fun a b=>ef b a=false)):l'=iI l:=by
 have wP:l'.Pairwise Ap:=(hp.pairwise_iff fun h=>h.symm).2 ha;have gY:l'.Pairwise (fun a b=>ef a b=true):=by
  refine List.Pairwise.imp₂ ?_ wP hs;intro a b h1 h2;rcases h1 with h|h
  ·exact h
  ·rw[h2]at h;cases h
 refine List.Perm.eq_of_pairwise (le:=fun a b=>ef a b=true) (fun a b _ _ h1 h2=>?_) gY (Zmc ha) (hp.trans (Zip l).symm);rw[O5 h1]at h2;cases h2
theorem OM (l:List E4):(iI l).length=l.length:=(Zip l).length_eq
theorem Ar: ∀l:List E4,(kb l).length=l.length*4
 |[]=>rfl
 |x::r=>by rw[kb,bg,Ar r,dF];show 4+_=_;omega
theorem Zr2: ∀ {ds:List DV} {l:List E4},uT ds=some l->ds=kb l
 |[],l,h=>by cases h;rfl
 | .int .i64 a:: .int .i64 b:: .int .i64 c:: .int .i64 d::r,l,h=>by
  unfold uT at h;cases hr:uT r with
  |none=>rw[hr]at h;cases h
  |some l'=>
   rw[hr]at h;cases h;rw[Zr2 hr];rfl
end Go.Gv
namespace Go.Gv
noncomputable section
def YM (c:Int):Op->Op
 | .binOp .mul t x (.const (.int k _)) t'=> .binOp .mul t x (.const (.int k c)) t'
 |o=>o
def ZAS (c:Int) (o:Oper):Oper:= { o with op:=YM c o.op }
def C8 (c:Int):Code->Code
 | .region i ops d=> .region i ⟨ops.toList.map (ZAS c)⟩ d
 | .seq a b=> .seq (C8 c a) (C8 c b)
 | .cond o a b=> .cond o (C8 c a) (C8 c b)
 |x=>x
def VQ (c:Int) (f:Func):Func:= { f with body:=f.body.map (C8 c) }
def QF (k:Int):Zg->Nat->List DV->M (List DV):=fun _ _ args=>
 J.i .u64 args fun x args=>
 D.nil args<|
 bif x==0 then
  M.ret [.int .i64 64]
 else
  M.ak (av ((IntKind.wrap .u64 ((bits .and .u64 x (IntKind.wrap .u64 (0-x)))*k)).fdiv (2^58)) 64)<|
  M.au 2 ((((IntKind.wrap .u64 ((bits .and .u64 x (IntKind.wrap .u64 (0-x)))*k)).fdiv (2^58)).toNat)*1+0) fun d=>
  D.int .u8 d fun x1=>
  M.ret [.int .i64 (af (x1))]
def Ci:Zg->Nat->List DV->M (List DV):=QF 285870213051353865
theorem ZBw {C:aP} {A:FA} {f:Func} (h: ∀c,aQ C A (VQ c f)=QF c) (e:VQ 285870213051353865 f=f):aQ C A f=Ci:=by
 have:=h 285870213051353865;rw[e]at this;exact this
end
end Go.Gv
namespace Go.Gv
set_option linter.unusedVariables false
set_option maxRecDepth 10000
set_option maxHeartbeats 4000000
noncomputable section
def GK:Zg->Nat->List DV->M (List DV):=fun c n args=>
 J.s args fun s args=>
 D.nil args<|
 M.base fun b0=>
 M.join (fun st=>
  J.l 1 st fun out qc st=>
  D.nil st<|
  M.gR b0 [.slice 1 out qc]) fun aq=>
 M.loop (fun aK st=>
  J.s st fun s1 st=>
  J.l 1 st fun jU im st=>
  D.nil st<|
  bif decide ((s1.length:Int)>0)then
   M.call (c 15 [.str s1]) fun ds=>
   J.i .i64 ds fun x ds=>
   J.i .i64 ds fun x1 ds=>
   D.nil ds<|
   M.new [.int .i64 x] fun i=>
   M.load i 0 1 fun cs=>
   M.app 1 jU im cs 1 8796093022208 fun p=>
   M.ak (decide (0<=x1)&&decide (x1<=(s1.length:Int)))<|
   aK [.str (s1.drop x1.toNat),.slice 1 p (im+1)]
  else
   aq [.slice 1 jU im]) n [.str s,.slice 0 none 0]
def G3:Zg->Nat->List DV->M (List DV):=fun c n args=>
 J.s args fun s args=>
 D.nil args<|
 M.ak (av 0 s.length)<|
 bif decide (ZI s 0<128)then
  M.ret [.int .i64 (af (ZI s 0)),.int .i64 1]
 else
  M.join (fun st=>J.b st fun b1 st=>D.nil st<|
   M.join (fun st=>J.b st fun b2 st=>D.nil st<|
    bif b2 then
     M.ak (av 1 s.length)<|
     M.ret [.int .i64 (af ((af ((af (IntKind.wrap .u8 ((ZI s 0)-192)))*64))+(af (IntKind.wrap .u8 ((ZI s 1)-128))))),.int .i64 2]
    else
     M.join (fun st=>J.b st fun b3 st=>D.nil st<|
      M.join (fun st=>
       D.nil st<|
      M.ret [.int .i64 65533,.int .i64 1]) fun bu=>
      bif b3 then
       M.join (fun st=>
       J.i .u8 st fun lo st=>
      D.nil st<|
      M.join (fun st=>
       J.i .u8 st fun hi st=>
      D.nil st<|
      M.call (c 19 [.str s,.int .i64 1,.int .u8 lo,.int .u8 hi]) fun ds=>
      J.b ds fun x ds=>
      D.nil ds<|
      M.join (fun st=>J.b st fun b4 st=>D.nil st<|
       bif b4 then
       M.ak (av 1 s.length)<|
      M.ak (av 2 s.length)<|
      M.ret [.int .i64 (af ((af ((af ((af (IntKind.wrap .u8 ((ZI s 0)-224)))*4096))+(af ((af (IntKind.wrap .u8 ((ZI s 1)-128)))*64))))+(af (IntKind.wrap .u8 ((ZI s 2)-128))))),.int .i64 3]
      else
       bu []) fun iU=>
      bif x then
       M.call (c 19 [.str s,.int .i64 2,.int .u8 128,.int .u8 191]) fun ds=>
      J.b ds fun x1 ds=>
      D.nil ds<|
      iU [.bool x1]
      else
       iU [.bool false]) fun eS=>
      bif (ZI s 0)==237 then
       eS [.int .u8 159]
      else
       eS [.int .u8 191]) fun cm=>
      bif (ZI s 0)==224 then
       cm [.int .u8 160]
      else
       cm [.int .u8 128]
      else
       M.join (fun st=>J.b st fun b5 st=>D.nil st<|
       M.join (fun st=>
       D.nil st<|
      bu []) fun iV=>
      bif b5 then
       M.join (fun st=>
       J.i .u8 st fun lo1 st=>
      D.nil st<|
      M.join (fun st=>
       J.i .u8 st fun DS st=>
      D.nil st<|
      M.call (c 19 [.str s,.int .i64 1,.int .u8 lo1,.int .u8 DS]) fun ds=>
      J.b ds fun x2 ds=>
      D.nil ds<|
      M.join (fun st=>J.b st fun b6 st=>D.nil st<|
       M.join (fun st=>J.b st fun b7 st=>D.nil st<|
       bif b7 then
       M.ak (av 1 s.length)<|
      M.ak (av 2 s.length)<|
      M.ak (av 3 s.length)<|
      M.ret [.int .i64 (af ((af ((af ((af ((af (IntKind.wrap .u8 ((ZI s 0)-240)))*262144))+(af ((af (IntKind.wrap .u8 ((ZI s 1)-128)))*4096))))+(af ((af (IntKind.wrap .u8 ((ZI s 2)-128)))*64))))+(af (IntKind.wrap .u8 ((ZI s 3)-128))))),.int .i64 4]
      else
       iV []) fun kP=>
      bif b6 then
       M.call (c 19 [.str s,.int .i64 3,.int .u8 128,.int .u8 191]) fun ds=>
      J.b ds fun x3 ds=>
      D.nil ds<|
      kP [.bool x3]
      else
       kP [.bool false]) fun mT=>
      bif x2 then
       M.call (c 19 [.str s,.int .i64 2,.int .u8 128,.int .u8 191]) fun ds=>
      J.b ds fun x4 ds=>
      D.nil ds<|
      mT [.bool x4]
      else
       mT [.bool false]) fun jS=>
      bif (ZI s 0)==244 then
       jS [.int .u8 143]
      else
       jS [.int .u8 191]) fun kO=>
      bif (ZI s 0)==240 then
       kO [.int .u8 144]
      else
       kO [.int .u8 128]
      else
       iV []) fun iG=>
      bif decide (ZI s 0>=240)then
       iG [.bool (decide (ZI s 0<=244))]
      else
       iG [.bool false]) fun aU=>
     bif decide (ZI s 0>=224)then
      aU [.bool (decide (ZI s 0<=239))]
     else
      aU [.bool false]) fun aC=>
   bif b1 then
    M.call (c 19 [.str s,.int .i64 1,.int .u8 128,.int .u8 191]) fun ds=>
    J.b ds fun x5 ds=>
    D.nil ds<|
    aC [.bool x5]
   else
    aC [.bool false]) fun aq=>
  bif decide (ZI s 0>=194)then
   aq [.bool (decide (ZI s 0<=223))]
  else
   aq [.bool false]
def Gn:Zg->Nat->List DV->M (List DV):=fun c n args=>
 J.s args fun s args=>
 J.i .i64 args fun bE args=>
 J.i .u8 args fun lo args=>
 J.i .u8 args fun hi args=>
 D.nil args<|
 M.join (fun st=>J.b st fun b1 st=>D.nil st<|
  M.join (fun st=>J.b st fun b2 st=>D.nil st<|
   M.ret [.bool b2]) fun aC=>
  bif b1 then
   M.ak (av bE s.length)<|
   aC [.bool (decide (ZI s bE<=hi))]
  else
   aC [.bool false]) fun aq=>
 bif decide (bE<(s.length:Int))then
  M.ak (av bE s.length)<|
  aq [.bool (decide (ZI s bE>=lo))]
 else
  aq [.bool false]
end
structure Mw (Bd:Za):Prop where
 eq:Bd 19=Gn
structure Nh (Bd:Za):Prop where
 eq:Bd 15=G3
 Tw:Mw Bd
structure GI (Bd:Za):Prop where
 eq:Bd 12=GK
 q72:Nh Bd
end Go.Gv
namespace Go.Gv
set_option linter.unusedVariables false
set_option maxRecDepth 10000
set_option maxHeartbeats 4000000
noncomputable section
def Hy:Zg->Nat->List DV->M (List DV):=fun c n args=>
 J.s args fun s args=>
 D.nil args<|
 M.join (fun st=>
  J.i .i64 st fun n1 st=>
  D.nil st<|
  M.ret [.bool (decide (n1>0))]) fun aq=>
 M.loop (fun aK st=>
  J.i .i64 st fun n2 st=>
  J.n st fun p st=>
  D.nil st<|
  bif Nat.blt p s.length then
  M.join (fun st=>J.b st fun b1 st=>D.nil st<|
   bif b1 then
    M.ret [.bool false]
   else
    aK [.int .i64 (af (n2+1)),.nat (p+rz s p)]) fun aC=>
  bif decide (af (n2+1)>8)then
   aC [.bool true]
  else
   M.call (c 28 [.int .i32 (yv s p)]) fun ds=>
   J.b ds fun x ds=>
   D.nil ds<|
   aC [.bool (!x)]
  else
  aq [.int .i64 n2]) n [.int .i64 0,.nat 0]
def G6:Zg->Nat->List DV->M (List DV):=fun c n args=>
 J.s args fun s args=>
 D.nil args<|
 M.call (c 12 [.str s]) fun ds=>
 J.l 1 ds fun x xn ds=>
 D.nil ds<|
 M.join (fun st=>J.b st fun b1 st=>D.nil st<|
  M.join (fun st=>
   J.b st fun ok st=>
   D.nil st<|
   M.ret [.bool ok]) fun aC=>
  M.loop (fun aK st=>
   J.b st fun ok1 st=>
   J.i .i64 st fun i st=>
   D.nil st<|
   bif decide (i<(xn:Int))then
    M.join (fun st=>J.b st fun b2 st=>D.nil st<|
     aK [.bool b2,.int .i64 (af (i+1))]) fun aU=>
    bif ok1 then
     M.nn x fun i1 o=>
     M.ak (av i xn)<|
     M.au i1 (i.toNat*1+o) fun d=>
     D.int .i64 d fun x1=>
     M.call (c 29 [.int .i64 x1]) fun ds=>
     J.b ds fun x2 ds=>
     D.nil ds<|
     aU [.bool x2]
    else
     aU [.bool false]
   else
    aC [.bool ok1]) n [.bool b1,.int .i64 0]) fun aq=>
 bif decide ((xn:Int)>0)then
  aq [.bool (decide ((xn:Int)<=8))]
 else
  aq [.bool false]
def IS:Zg->Nat->List DV->M (List DV):=fun c n args=>
 J.i .i32 args fun r1 args=>
 D.nil args<|
 M.call (c 54 []) fun ds=>
 J.a ds fun cs ds=>
 D.len cs 12<|
 D.nil ds<|
 M.join (fun st=>
  D.nil st<|
  M.ret [.bool false]) fun aq=>
 M.loop (fun aK st=>
  J.i .i64 st fun x st=>
  D.nil st<|
  bif decide (x<6)then
   M.ak (av x 6)<|
   D.len ((cs.drop (x.toNat*2)).take 2) 2<|
   D.nth ((cs.drop (x.toNat*2)).take 2) 0 fun d=>
   D.int .i32 d fun x1=>
   M.join (fun st=>J.b st fun b1 st=>D.nil st<|
    bif b1 then
     M.ret [.bool true]
    else
     aK [.int .i64 (af (x+1))]) fun aC=>
   bif decide (r1>=x1)then
    D.nth ((cs.drop (x.toNat*2)).take 2) 1 fun d1=>
    D.int .i32 d1 fun x2=>
    aC [.bool (decide (r1<=x2))]
   else
    aC [.bool false]
  else
   aq []) n [.int .i64 0]
def IP:Zg->Nat->List DV->M (List DV):=fun c n args=>
 J.i .i64 args fun r1 args=>
 D.nil args<|
 M.join (fun st=>J.b st fun b1 st=>D.nil st<|
  M.join (fun st=>J.b st fun b2 st=>D.nil st<|
   M.join (fun st=>J.b st fun b3 st=>D.nil st<|
    M.join (fun st=>J.b st fun b4 st=>D.nil st<|
     M.join (fun st=>J.b st fun b5 st=>D.nil st<|
      M.join (fun st=>J.b st fun b6 st=>D.nil st<|
       M.ret [.bool b6]) fun eS=>
      bif b5 then
       eS [.bool true]
      else
       M.join (fun st=>J.b st fun b7 st=>D.nil st<|
       eS [.bool b7]) fun iU=>
      bif decide (r1>=161)then
       iU [.bool (decide (r1<=65519))]
      else
       iU [.bool false]) fun cm=>
     bif b4 then
      cm [.bool true]
     else
      cm [.bool (r1==95)]) fun bu=>
    bif b3 then
     bu [.bool true]
    else
     bu [.bool (r1==45)]) fun aU=>
   bif b2 then
    aU [.bool true]
   else
    M.join (fun st=>J.b st fun b8 st=>D.nil st<|
     aU [.bool b8]) fun iG=>
    bif decide (r1>=48)then
     iG [.bool (decide (r1<=57))]
    else
     iG [.bool false]) fun aC=>
  bif b1 then
   aC [.bool true]
  else
   M.join (fun st=>J.b st fun b9 st=>D.nil st<|
    aC [.bool b9]) fun iV=>
   bif decide (r1>=65)then
    iV [.bool (decide (r1<=90))]
   else
    iV [.bool false]) fun aq=>
 bif decide (r1>=97)then
  aq [.bool (decide (r1<=122))]
 else
  aq [.bool false]
def Hq:Zg->Nat->List DV->M (List DV):=fun c n args=>
 J.s args fun s args=>
 D.nil args<|
 M.base fun b0=>
 M.join (fun st=>
  J.l 1 st fun out qc st=>
  D.nil st<|
  M.gR b0 [.slice 1 out qc]) fun aq=>
 M.loop (fun aK st=>
  J.l 1 st fun jU im st=>
  J.n st fun p st=>
  D.nil st<|
  bif Nat.blt p s.length then
  M.new [.int .i32 (yv s p)] fun i=>
  M.load i 0 1 fun cs=>
  M.app 1 jU im cs 1 17592186044416 fun p1=>
  aK [.slice 1 p1 (im+1),.nat (p+rz s p)]
  else
  aq [.slice 1 jU im]) n [.slice 0 none 0,.nat 0]
def Hj:Zg->Nat->List DV->M (List DV):=fun c n args=>
 J.s args fun a args=>
 J.s args fun b1 args=>
 D.nil args<|
 M.call (c 34 [.str a]) fun ds=>
 J.l 1 ds fun x xn ds=>
 D.nil ds<|
 M.call (c 34 [.str b1]) fun ds=>
 J.l 1 ds fun x1 kY ds=>
 D.nil ds<|
 M.call (c 57 [.slice 1 x xn,.slice 1 x1 kY]) fun ds=>
 J.i .i64 ds fun x2 ds=>
 D.nil ds<|
 M.ret [.int .i64 x2]
def Gw:Zg->Nat->List DV->M (List DV):=fun c n args=>
 J.s args fun a args=>
 J.s args fun b1 args=>
 D.nil args<|
 M.call (c 12 [.str a]) fun ds=>
 J.l 1 ds fun x xn ds=>
 D.nil ds<|
 M.call (c 12 [.str b1]) fun ds=>
 J.l 1 ds fun x1 kY ds=>
 D.nil ds<|
 M.join (fun st=>
  D.nil st<|
  bif decide ((xn:Int)<(kY:Int))then
   M.ret [.int .i64 (-1)]
  else
   bif decide ((xn:Int)>(kY:Int))then
    M.ret [.int .i64 1]
   else
    M.ret [.int .i64 0]) fun aq=>
 M.loop (fun aK st=>
  J.i .i64 st fun i st=>
  D.nil st<|
  M.join (fun st=>J.b st fun b2 st=>D.nil st<|
   bif b2 then
    M.nn x fun i1 o=>
    M.ak (av i xn)<|
    M.au i1 (i.toNat*1+o) fun d=>
    D.int .i64 d fun x2=>
    M.nn x1 fun i2 o1=>
    M.ak (av i kY)<|
    M.au i2 (i.toNat*1+o1) fun d1=>
    D.int .i64 d1 fun x3=>
    bif decide (x2<x3)then
     M.ret [.int .i64 (-1)]
    else
     M.nn x fun i3 o2=>
     M.ak (av i xn)<|
     M.au i3 (i.toNat*1+o2) fun d2=>
     D.int .i64 d2 fun x4=>
     M.nn x1 fun i4 o3=>
     M.ak (av i kY)<|
     M.au i4 (i.toNat*1+o3) fun d3=>
     D.int .i64 d3 fun x5=>
     bif decide (x4>x5)then
      M.ret [.int .i64 1]
     else
      aK [.int .i64 (af (i+1))]
   else
    aq []) fun aC=>
  bif decide (i<(xn:Int))then
   aC [.bool (decide (i<(kY:Int)))]
  else
   aC [.bool false]) n [.int .i64 0]
def Np:Zg->Nat->List DV->M (List DV):=fun c n args=>
 D.nil args<|
 M.ret [.agg [.int .i32 97,.int .i32 122,.int .i32 65,.int .i32 90,.int .i32 48,.int .i32 57,.int .i32 45,.int .i32 45,.int .i32 95,.int .i32 95,.int .i32 161,.int .i32 65519]]
def FQ:Zg->Nat->List DV->M (List DV):=fun c n args=>
 J.l 1 args fun s1 kT args=>
 J.l 1 args fun s2 nW args=>
 D.nil args<|
 M.join (fun st=>
  D.nil st<|
  bif decide ((kT:Int)<(nW:Int))then
   M.ret [.int .i64 (-1)]
  else
   M.ret [.int .i64 0]) fun aq=>
 M.loop (fun aK st=>
  J.i .i64 st fun x st=>
  D.nil st<|
  bif decide (x<(kT:Int))then
   M.nn s1 fun i o=>
   M.ak (av x kT)<|
   M.au i (x.toNat*1+o) fun d=>
   D.int .i32 d fun x1=>
   bif decide (x>=(nW:Int))then
    M.ret [.int .i64 1]
   else
    M.nn s2 fun i1 o1=>
    M.ak (av x nW)<|
    M.au i1 (x.toNat*1+o1) fun d1=>
    D.int .i32 d1 fun x2=>
    M.call (c 64 [.int .i32 x1,.int .i32 x2]) fun ds=>
    J.i .i64 ds fun x3 ds=>
    D.nil ds<|
    bif !(x3==0)then
     M.ret [.int .i64 x3]
    else
     aK [.int .i64 (af (x+1))]
  else
   aq []) n [.int .i64 0]
def F3:Zg->Nat->List DV->M (List DV):=fun c n args=>
 J.i .i32 args fun x args=>
 J.i .i32 args fun y args=>
 D.nil args<|
 M.call (c 72 [.int .i32 x]) fun ds=>
 J.b ds fun x1 ds=>
 D.nil ds<|
 M.call (c 72 [.int .i32 y]) fun ds=>
 J.b ds fun x2 ds=>
 D.nil ds<|
 bif x1 then
  bif x2 then
   M.ret [.int .i64 0]
  else
   M.ret [.int .i64 (-1)]
 else
  bif x2 then
   M.ret [.int .i64 1]
  else
   bif decide (x<y)then
    M.ret [.int .i64 (-1)]
   else
    bif decide (x>y)then
     M.ret [.int .i64 1]
    else
     M.ret [.int .i64 0]
def Gz:Zg->Nat->List DV->M (List DV):=fun c n args=>
 J.i .i32 args fun x args=>
 D.nil args<|
 M.ret [.bool (!(x==x))]
end
structure NI (Bd:Za):Prop where
 eq:Bd 54=Np
structure OQ (Bd:Za):Prop where
 eq:Bd 28=IS
 q91:NI Bd
structure Ns (Bd:Za):Prop where
 eq:Bd 26=Hy
 aap:OQ Bd
structure Mh (Bd:Za):Prop where
 eq:Bd 86=Ci
structure Ou (Bd:Za):Prop where
 eq:Bd 29=IP
structure M1 (Bd:Za):Prop where
 eq:Bd 27=G6
 aam:Ou Bd
 LG:GI Bd
structure NN (Bd:Za):Prop where
 eq:Bd 34=Hq
structure MH (Bd:Za):Prop where
 eq:Bd 72=Gz
structure Ml (Bd:Za):Prop where
 eq:Bd 64=F3
 q30:MH Bd
structure Mk (Bd:Za):Prop where
 eq:Bd 57=FQ
 q17:Ml Bd
structure MN (Bd:Za):Prop where
 eq:Bd 39=Hj
 q90:NN Bd
 q6:Mk Bd
structure MP (Bd:Za):Prop where
 eq:Bd 40=Gw
 LG:GI Bd
end Go.Gv
namespace Go.Gv
set_option linter.unusedVariables false
set_option maxRecDepth 10000
set_option maxHeartbeats 4000000
noncomputable section
end
end Go.Gv
namespace Go.Gv
set_option linter.unusedVariables false
set_option maxRecDepth 10000
set_option maxHeartbeats 4000000
noncomputable section
end
end Go.Gv
namespace Go.Gv
set_option linter.unusedVariables false
set_option maxRecDepth 10000
set_option maxHeartbeats 4000000
noncomputable section
end
end Go.Gv
namespace Go.Gv
set_option linter.unusedVariables false
set_option maxRecDepth 10000
set_option maxHeartbeats 4000000
noncomputable section
end
end Go.Gv
namespace Go.Gv
set_option linter.unusedVariables false
set_option maxRecDepth 10000
set_option maxHeartbeats 4000000
noncomputable section
def Ao:Zg->Nat->List DV->M (List DV):=fun c n args=>
 J.l 1 args fun a an args=>
 J.l 1 args fun b1 bM args=>
 D.nil args<|
 bif !((an:Int)==(bM:Int))then
  M.ret [.bool false]
 else
  M.join (fun st=>
   D.nil st<|
   M.ret [.bool true]) fun aq=>
  M.loop (fun aK st=>
   J.i .i64 st fun i st=>
   D.nil st<|
   bif decide (i<(an:Int))then
    M.nn a fun i1 o=>
    M.ak (av i an)<|
    M.au i1 (i.toNat*1+o) fun d=>
    D.int .i64 d fun x=>
    M.nn b1 fun i2 o1=>
    M.ak (av i bM)<|
    M.au i2 (i.toNat*1+o1) fun d1=>
    D.int .i64 d1 fun x1=>
    bif !(x==x1)then
     M.ret [.bool false]
    else
     aK [.int .i64 (af (i+1))]
   else
    aq []) n [.int .i64 0]
def FN:Zg->Nat->List DV->M (List DV):=fun c n args=>
 J.l 1 args fun s1 kT args=>
 J.l 1 args fun s2 nW args=>
 D.nil args<|
 bif !((kT:Int)==(nW:Int))then
  M.ret [.bool false]
 else
  M.join (fun st=>
   D.nil st<|
   M.ret [.bool true]) fun aq=>
  M.loop (fun aK st=>
   J.i .i64 st fun x st=>
   D.nil st<|
   bif decide (x<(kT:Int))then
    M.nn s1 fun i o=>
    M.ak (av x kT)<|
    M.au i (x.toNat*1+o) fun d=>
    D.int .i64 d fun x1=>
    M.nn s2 fun i1 o1=>
    M.ak (av x nW)<|
    M.au i1 (x.toNat*1+o1) fun d1=>
    D.int .i64 d1 fun x2=>
    bif !(x1==x2)then
     M.ret [.bool false]
    else
     aK [.int .i64 (af (x+1))]
   else
    aq []) n [.int .i64 0]
end
structure Mj (Bd:Za):Prop where
 eq:Bd 114=FN
structure Nq (Bd:Za):Prop where
 eq:Bd 113=Ao
end Go.Gv
namespace Go.Gv
set_option linter.unusedVariables false
set_option maxRecDepth 10000
set_option maxHeartbeats 4000000
noncomputable section
end
end Go.Gv
namespace Go.Gv
set_option linter.unusedVariables false
set_option maxRecDepth 10000
set_option maxHeartbeats 4000000
noncomputable section
end
end Go.Gv
namespace Go.Gv
set_option linter.unusedVariables false
set_option maxRecDepth 10000
set_option maxHeartbeats 4000000
noncomputable section
def HK:Zg->Nat->List DV->M (List DV):=fun c n args=>
 J.a args fun cs args=>
 J.i .i64 cs fun x r=>
 J.i .i64 r fun x1 r=>
 J.i .i64 r fun x2 r=>
 J.l 2 r fun x3 ec r=>
 J.l 1 r fun x4 cO r=>
 J.l 1 r fun x5 gJ r=>
 D.nil r<|
 D.nil args<|
 M.call (c 141 [.agg [.int .i64 x,.int .i64 x1,.int .i64 x2]]) fun ds=>
 J.b ds fun x6 ds=>
 D.nil ds<|
 M.join (fun st=>J.b st fun b1 st=>D.nil st<|
  M.join (fun st=>J.b st fun b2 st=>D.nil st<|
   bif b2 then
    M.ret [.bool false]
   else
    M.call (c 142 [.agg [.int .i64 x,.int .i64 x1,.int .i64 x2,.slice 2 x3 ec,.slice 1 x4 cO,.slice 1 x5 gJ]]) fun ds=>
    J.l 4 ds fun x7 Uc ds=>
    D.nil ds<|
    M.join (fun st=>J.b st fun b3 st=>D.nil st<|
     bif b3 then
      M.ret [.bool false]
     else
      M.ak (decide (0<=(cO:Int))&&decide ((cO:Int)<=(cO:Int))&&decide ((cO:Int)<=70368744177664))<|
      M.new (fD ((cO:Int).toNat) [.bool false]) fun i=>
      M.join (fun st=>
       D.nil st<|
      M.join (fun st=>
       D.nil st<|
      M.join (fun st=>
       D.nil st<|
      M.ret [.bool true]) fun eS=>
      M.loop (fun aK st=>
       J.i .i64 st fun i1 st=>
      D.nil st<|
      bif decide (i1<(cO:Int))then
       M.nn x4 fun i2 o=>
      M.ak (av i1 cO)<|
      M.au i2 (i1.toNat*1+o) fun d=>
      D.int .i64 d fun x8=>
      M.join (fun st=>J.b st fun b4 st=>D.nil st<|
       M.join (fun st=>J.b st fun b5 st=>D.nil st<|
       bif b5 then
       M.ret [.bool false]
      else
       aK [.int .i64 (af (i1+1))]) fun iG=>
      bif b4 then
       iG [.bool true]
      else
       M.ak (av i1 ((cO:Int).toNat))<|
      M.au i (i1.toNat*1) fun d1=>
      D.bool d1 fun x9=>
      M.join (fun st=>J.b st fun b6 st=>D.nil st<|
       M.join (fun st=>J.b st fun b7 st=>D.nil st<|
       iG [.bool b7]) fun kO=>
      bif b6 then
       M.call (c 143 [.slice 1 x5 gJ,.int .i64 i1]) fun ds=>
      J.b ds fun cV ds=>
      D.nil ds<|
      kO [.bool (!cV)]
      else
       kO [.bool false]) fun iV=>
      bif !x9 then
       M.nn x4 fun i3 o1=>
      M.ak (av i1 cO)<|
      M.au i3 (i1.toNat*1+o1) fun d2=>
      D.int .i64 d2 fun eK=>
      iV [.bool (decide (eK<x2))]
      else
       iV [.bool false]) fun iU=>
      bif decide (x8<1)then
       iU [.bool true]
      else
       M.nn x4 fun i4 o2=>
      M.ak (av i1 cO)<|
      M.au i4 (i1.toNat*1+o2) fun d3=>
      D.int .i64 d3 fun fk=>
      iU [.bool (decide (fk>x2))]
      else
       eS []) n [.int .i64 0]) fun cm=>
      M.loop (fun dO st=>
       J.i .i64 st fun i5 st=>
      D.nil st<|
      bif decide (i5<(gJ:Int))then
       M.nn x5 fun i6 o3=>
      M.ak (av i5 gJ)<|
      M.au i6 (i5.toNat*1+o3) fun d4=>
      D.int .i64 d4 fun fa=>
      M.join (fun st=>J.b st fun b8 st=>D.nil st<|
       M.join (fun st=>J.b st fun b9 st=>D.nil st<|
       M.join (fun st=>J.b st fun AZ st=>D.nil st<|
       M.join (fun st=>J.b st fun QC st=>D.nil st<|
       bif QC then
       M.ret [.bool false]
      else
       dO [.int .i64 (af (i5+1))]) fun EC=>
      bif AZ then
       EC [.bool true]
      else
       M.ak (decide (0<=i5)&&decide (i5<=(gJ:Int)))<|
      M.call (c 143 [.slice 1 x5 i5.toNat,.int .i64 fa]) fun ds=>
      J.b ds fun gS ds=>
      D.nil ds<|
      EC [.bool gS]) fun kP=>
      bif b9 then
       kP [.bool true]
      else
       M.nn x4 fun i7 o4=>
      M.ak (av fa cO)<|
      M.au i7 (fa.toNat*1+o4) fun d5=>
      D.int .i64 d5 fun fb=>
      kP [.bool (decide (fb>=x2))]) fun mT=>
      bif b8 then
       mT [.bool true]
      else
       M.ak (av fa ((cO:Int).toNat))<|
      M.au i (fa.toNat*1) fun d6=>
      D.bool d6 fun fI=>
      mT [.bool fI]) fun jS=>
      bif decide (fa<0)then
       jS [.bool true]
      else
       jS [.bool (decide (fa>=(cO:Int)))]
      else
       cm []) n [.int .i64 0]) fun bu=>
      M.loop (fun xL st=>
       J.i .i64 st fun i8 st=>
      D.nil st<|
      bif decide (i8<(Uc:Int))then
       M.nn x7 fun i9 o5=>
      M.ak (av i8 Uc)<|
      M.load i9 (i8.toNat*4+o5) 2 fun bw=>
      J.i .i64 bw fun gp r=>
      J.i .i64 r fun kX r=>
      D.nil r<|
      M.join (fun st=>J.b st fun QD st=>D.nil st<|
       M.join (fun st=>J.b st fun QE st=>D.nil st<|
       M.join (fun st=>J.b st fun b14 st=>D.nil st<|
       bif b14 then
       M.ret [.bool false]
      else
       M.ak (av gp ((cO:Int).toNat))<|
      M.store i (gp.toNat*1) [.bool true]<|
      xL [.int .i64 (af (i8+1))]) fun VN=>
      bif QE then
       VN [.bool true]
      else
       M.nn x4 fun i10 o6=>
      M.ak (av gp cO)<|
      M.au i10 (gp.toNat*1+o6) fun d7=>
      D.int .i64 d7 fun ku=>
      VN [.bool (!(kX==ku))]) fun VM=>
      bif QD then
       VM [.bool true]
      else
       M.ak (av gp ((cO:Int).toNat))<|
      M.au i (gp.toNat*1) fun d8=>
      D.bool d8 fun lQ=>
      VM [.bool lQ]) fun VL=>
      bif decide (gp<0)then
       VL [.bool true]
      else
       VL [.bool (decide (gp>=(cO:Int)))]
      else
       bu []) n [.int .i64 0]) fun aU=>
    bif decide ((Uc:Int)>(cO:Int))then
     aU [.bool true]
    else
     aU [.bool (decide ((gJ:Int)>(cO:Int)))]) fun aC=>
  bif b1 then
   aC [.bool true]
  else
   M.call (c 144 [.slice 2 x3 ec]) fun ds=>
   J.b ds fun oY ds=>
   D.nil ds<|
   aC [.bool (!oY)]) fun aq=>
 bif !x6 then
  aq [.bool true]
 else
  aq [.bool (decide ((cO:Int)>x1))]
def G0:Zg->Nat->List DV->M (List DV):=fun c n args=>
 J.a args fun cs args=>
 J.i .i64 cs fun x r=>
 J.i .i64 r fun x1 r=>
 J.i .i64 r fun x2 r=>
 J.l 2 r fun x3 ec r=>
 J.l 1 r fun x4 cO r=>
 J.l 1 r fun x5 gJ r=>
 D.nil r<|
 D.nil args<|
 M.join (fun st=>J.b st fun b1 st=>D.nil st<|
  M.join (fun st=>J.b st fun b2 st=>D.nil st<|
   M.join (fun st=>J.b st fun b3 st=>D.nil st<|
    bif b3 then
     M.ret [.bool false]
    else
     M.join (fun st=>
      D.nil st<|
      M.ret [.bool true]) fun bu=>
     M.loop (fun aK st=>
      J.i .i64 st fun i st=>
      D.nil st<|
      bif decide (i<(ec:Int))then
       M.nn x3 fun i1 o=>
      M.ak (av i ec)<|
      M.au i1 (i.toNat*2+o+1) fun d=>
      D.slice 4 d fun x6 oZ=>
      M.join (fun st=>J.b st fun b4 st=>D.nil st<|
       bif b4 then
       M.ret [.bool false]
      else
       aK [.int .i64 (af (i+1))]) fun cm=>
      bif decide ((oZ:Int)>40)then
       cm [.bool true]
      else
       M.nn x3 fun i2 o1=>
      M.ak (av i ec)<|
      M.au i2 (i.toNat*2+o1) fun d1=>
      D.str d1 fun x7=>
      cm [.bool (decide ((x7.length:Int)>60))]
      else
       bu []) n [.int .i64 0]) fun aU=>
   bif b2 then
    aU [.bool true]
   else
    aU [.bool (decide (x>400))]) fun aC=>
  bif b1 then
   aC [.bool true]
  else
   aC [.bool (decide ((gJ:Int)>60))]) fun aq=>
 bif decide ((ec:Int)>8)then
  aq [.bool true]
 else
  aq [.bool (decide ((cO:Int)>60))]
def GF:Zg->Nat->List DV->M (List DV):=fun c n args=>
 J.a args fun cs args=>
 J.i .i64 cs fun g r=>
 J.i .i64 r fun g1 r=>
 J.i .i64 r fun g2 r=>
 D.nil r<|
 D.nil args<|
 M.join (fun st=>J.b st fun b1 st=>D.nil st<|
  M.join (fun st=>J.b st fun b2 st=>D.nil st<|
   M.join (fun st=>J.b st fun b3 st=>D.nil st<|
    M.join (fun st=>J.b st fun b4 st=>D.nil st<|
     M.join (fun st=>J.b st fun b5 st=>D.nil st<|
      M.ret [.bool b5]) fun cm=>
     bif b4 then
      cm [.bool (decide (g2<=4294967295))]
     else
      cm [.bool false]) fun bu=>
    bif b3 then
     bu [.bool (decide (g2>=1))]
    else
     bu [.bool false]) fun aU=>
   bif b2 then
    aU [.bool (decide (g1<=1792))]
   else
    aU [.bool false]) fun aC=>
  bif b1 then
   aC [.bool (decide (g1>=1))]
  else
   aC [.bool false]) fun aq=>
 bif decide (g>=16)then
  aq [.bool (decide (g<=3072))]
 else
  aq [.bool false]
def Gj:Zg->Nat->List DV->M (List DV):=fun c n args=>
 J.a args fun cs args=>
 J.i .i64 cs fun x r=>
 J.i .i64 r fun x1 r=>
 J.i .i64 r fun x2 r=>
 J.l 2 r fun x3 ec r=>
 J.l 1 r fun x4 cO r=>
 J.l 1 r fun x5 gJ r=>
 D.nil r<|
 D.nil args<|
 M.base fun b0=>
 M.join (fun st=>
  J.l 4 st fun out qc st=>
  D.nil st<|
  M.gR b0 [.slice 4 out qc]) fun aq=>
 M.loop (fun aK st=>
  J.l 4 st fun jU im st=>
  J.i .i64 st fun i st=>
  D.nil st<|
  bif decide (i<(ec:Int))then
   M.nn x3 fun i1 o=>
   M.ak (av i ec)<|
   M.au i1 (i.toNat*2+o+1) fun d=>
   D.slice 4 d fun x6 oZ=>
   M.rd x6 (oZ*4) fun bw=>
   M.app 4 jU im bw oZ 2199023255552 fun p=>
   aK [.slice 4 p (im+oZ),.int .i64 (af (i+1))]
  else
   aq [.slice 4 jU im]) n [.slice 0 none 0,.int .i64 0]
def HW:Zg->Nat->List DV->M (List DV):=fun c n args=>
 J.l 1 args fun l ln args=>
 J.i .i64 args fun n1 args=>
 D.nil args<|
 M.join (fun st=>
  D.nil st<|
  M.ret [.bool false]) fun aq=>
 M.loop (fun aK st=>
  J.i .i64 st fun i st=>
  D.nil st<|
  bif decide (i<(ln:Int))then
   M.nn l fun i1 o=>
   M.ak (av i ln)<|
   M.au i1 (i.toNat*1+o) fun d=>
   D.int .i64 d fun x=>
   bif x==n1 then
    M.ret [.bool true]
   else
    aK [.int .i64 (af (i+1))]
  else
   aq []) n [.int .i64 0]
def GO:Zg->Nat->List DV->M (List DV):=fun c n args=>
 J.l 2 args fun l ln args=>
 D.nil args<|
 bif decide ((ln:Int)>16)then
  M.ret [.bool false]
 else
  M.join (fun st=>
   D.nil st<|
   M.ret [.bool true]) fun aq=>
  M.loop (fun aK st=>
   J.i .i64 st fun i st=>
   D.nil st<|
   bif decide (i<(ln:Int))then
    M.join (fun st=>
     D.nil st<|
     aK [.int .i64 (af (i+1))]) fun aC=>
    M.nn l fun i1 o=>
    M.ak (av i ln)<|
    M.au i1 (i.toNat*2+o) fun d=>
    D.str d fun x=>
    M.call (c 27 [.str x]) fun ds=>
    J.b ds fun x1 ds=>
    D.nil ds<|
    M.join (fun st=>J.b st fun b1 st=>D.nil st<|
     bif b1 then
      M.ret [.bool false]
     else
      M.join (fun st=>
       D.nil st<|
      aC []) fun bu=>
      M.loop (fun dO st=>
       J.i .i64 st fun k st=>
      D.nil st<|
      M.nn l fun i2 o1=>
      M.ak (av i ln)<|
      M.au i2 (i.toNat*2+o1+1) fun d1=>
      D.slice 4 d1 fun x2 dJ=>
      bif decide (k<(dJ:Int))then
       M.nn l fun i3 o2=>
      M.ak (av i ln)<|
      M.au i3 (i.toNat*2+o2+1) fun d2=>
      D.slice 4 d2 fun x3 ec=>
      M.nn x3 fun i4 o3=>
      M.ak (av (af (k-1)) ec)<|
      M.load i4 (((af (k-1)).toNat)*4+o3) 4 fun cs=>
      J.i .i64 cs fun x4 r=>
      J.i .i64 r fun x5 r=>
      J.i .i64 r fun x6 r=>
      J.i .i64 r fun x7 r=>
      D.nil r<|
      M.nn l fun i5 o4=>
      M.ak (av i ln)<|
      M.au i5 (i.toNat*2+o4+1) fun d3=>
      D.slice 4 d3 fun x8 rD=>
      M.nn x8 fun i6 o5=>
      M.ak (av k rD)<|
      M.load i6 (k.toNat*4+o5) 4 fun bw=>
      J.i .i64 bw fun x9 r=>
      J.i .i64 r fun cV r=>
      J.i .i64 r fun eK r=>
      J.i .i64 r fun fk r=>
      D.nil r<|
      M.call (c 155 [.agg [.int .i64 x4,.int .i64 x5,.int .i64 x6,.int .i64 x7],.agg [.int .i64 x9,.int .i64 cV,.int .i64 eK,.int .i64 fk]]) fun ds=>
      J.b ds fun fa ds=>
      D.nil ds<|
      bif !fa then
       M.ret [.bool false]
      else
       dO [.int .i64 (af (k+1))]
      else
       bu []) n [.int .i64 1]) fun aU=>
    bif !x1 then
     aU [.bool true]
    else
     M.join (fun st=>J.b st fun b2 st=>D.nil st<|
      aU [.bool b2]) fun cm=>
     bif decide (i>0)then
      M.nn l fun i7 o6=>
      M.ak (av (af (i-1)) ln)<|
      M.au i7 (((af (i-1)).toNat)*2+o6) fun d4=>
      D.str d4 fun gS=>
      M.nn l fun i8 o7=>
      M.ak (av i ln)<|
      M.au i8 (i.toNat*2+o7) fun d5=>
      D.str d5 fun fb=>
      M.call (c 40 [.str gS,.str fb]) fun ds=>
      J.i .i64 ds fun fI ds=>
      D.nil ds<|
      cm [.bool (decide (fI>=0))]
     else
      cm [.bool false]
   else
    aq []) n [.int .i64 0]
def Ag:Zg->Nat->List DV->M (List DV):=fun c n args=>
 J.a args fun cs args=>
 J.i .i64 cs fun g r=>
 J.i .i64 r fun g1 r=>
 J.i .i64 r fun g2 r=>
 D.nil r<|
 D.nil args<|
 M.join (fun st=>J.b st fun b1 st=>D.nil st<|
  M.join (fun st=>J.b st fun b2 st=>D.nil st<|
   M.join (fun st=>J.b st fun b3 st=>D.nil st<|
    M.join (fun st=>J.b st fun b4 st=>D.nil st<|
     M.join (fun st=>J.b st fun b5 st=>D.nil st<|
      M.ret [.bool b5]) fun cm=>
     bif b4 then
      cm [.bool (decide (g2<=4294967295))]
     else
      cm [.bool false]) fun bu=>
    bif b3 then
     bu [.bool (decide (g2>=1))]
    else
     bu [.bool false]) fun aU=>
   bif b2 then
    aU [.bool (decide (g1<=1792))]
   else
    aU [.bool false]) fun aC=>
  bif b1 then
   aC [.bool (decide (g1>=1))]
  else
   aC [.bool false]) fun aq=>
 bif decide (g>=16)then
  aq [.bool (decide (g<=3072))]
 else
  aq [.bool false]
def Z2:Zg->Nat->List DV->M (List DV):=fun c n args=>
 J.l 1 args fun s sn args=>
 J.f args fun f ff fc args=>
 D.nil args<|
 M.call (c 156 [.slice 1 s sn,.func f ff fc]) fun ds=>
 J.i .i64 ds fun x ds=>
 D.nil ds<|
 M.ret [.bool (decide (x>=0))]
def Cn:Zg->Nat->List DV->M (List DV):=fun c n args=>
 J.l 4 args fun a an args=>
 J.l 4 args fun b1 bM args=>
 D.nil args<|
 bif !((an:Int)==(bM:Int))then
  M.ret [.bool false]
 else
  M.join (fun st=>
   D.nil st<|
   M.ret [.bool true]) fun aq=>
  M.loop (fun aK st=>
   J.i .i64 st fun i st=>
   D.nil st<|
   bif decide (i<(an:Int))then
    M.nn a fun i1 o=>
    M.ak (av i an)<|
    M.load i1 (i.toNat*4+o) 4 fun cs=>
    J.i .i64 cs fun x r=>
    J.i .i64 r fun x1 r=>
    J.i .i64 r fun x2 r=>
    J.i .i64 r fun x3 r=>
    D.nil r<|
    M.nn b1 fun i2 o1=>
    M.ak (av i bM)<|
    M.load i2 (i.toNat*4+o1) 4 fun bw=>
    J.i .i64 bw fun x4 r=>
    J.i .i64 r fun x5 r=>
    J.i .i64 r fun x6 r=>
    J.i .i64 r fun x7 r=>
    D.nil r<|
    bif !((x==x4)&&((x1==x5)&&((x2==x6)&&((x3==x7)&&true))))then
     M.ret [.bool false]
    else
     aK [.int .i64 (af (i+1))]
   else
    aq []) n [.int .i64 0]
def G7:Zg->Nat->List DV->M (List DV):=fun c n args=>
 J.a args fun cs args=>
 J.i .i64 cs fun a r=>
 J.i .i64 r fun a1 r=>
 J.i .i64 r fun a2 r=>
 J.i .i64 r fun a3 r=>
 D.nil r<|
 J.a args fun bw args=>
 J.i .i64 bw fun b1 r=>
 J.i .i64 r fun b2 r=>
 J.i .i64 r fun b3 r=>
 J.i .i64 r fun b4 r=>
 D.nil r<|
 D.nil args<|
 bif !(a2==b3)then
  M.ret [.bool (decide (a2<b3))]
 else
  bif !(a==b1)then
   M.ret [.bool (decide (a<b1))]
  else
   M.ret [.bool (decide (a1<b2))]
def FP:Zg->Nat->List DV->M (List DV):=fun c n args=>
 J.l 1 args fun s sn args=>
 J.f args fun f ff fc args=>
 D.nil args<|
 M.join (fun st=>
  D.nil st<|
  M.ret [.int .i64 (-1)]) fun aq=>
 M.loop (fun aK st=>
  J.i .i64 st fun x st=>
  D.nil st<|
  bif decide (x<(sn:Int))then
   M.nn s fun i o=>
   M.ak (av x sn)<|
   M.au i (x.toNat*1+o) fun d=>
   D.int .i64 d fun x1=>
   M.call (c f (ff++[.int .i64 x1]++fc)) fun ds=>
   J.b ds fun x2 ds=>
   D.nil ds<|
   bif x2 then
    M.ret [.int .i64 x]
   else
    aK [.int .i64 (af (x+1))]
  else
   aq []) n [.int .i64 0]
def Cj:Zg->Nat->List DV->M (List DV):=fun c n args=>
 J.a args fun cs args=>
 J.i .i64 cs fun a r=>
 J.i .i64 r fun a1 r=>
 J.i .i64 r fun a2 r=>
 J.i .i64 r fun a3 r=>
 D.nil r<|
 J.a args fun bw args=>
 J.i .i64 bw fun b1 r=>
 J.i .i64 r fun b2 r=>
 J.i .i64 r fun b3 r=>
 J.i .i64 r fun b4 r=>
 D.nil r<|
 D.nil args<|
 M.fW (c 161 [.int .i64 a2,.int .i64 b3]) fun ds=>
 J.i .i64 ds fun x ds=>
 D.nil ds<|
 M.fW (c 161 [.int .i64 a,.int .i64 b1]) fun ds=>
 J.i .i64 ds fun x1 ds=>
 D.nil ds<|
 M.call (c 161 [.int .i64 a1,.int .i64 b2]) fun ds=>
 J.i .i64 ds fun x2 ds=>
 D.nil ds<|
 M.new [.int .i64 x,.int .i64 x1,.int .i64 x2] fun i=>
 M.call (c 162 [.slice 1 (some (i,0)) 3]) fun ds=>
 J.i .i64 ds fun x3 ds=>
 D.nil ds<|
 M.ret [.int .i64 x3]
def Cp:Zg->Nat->List DV->M (List DV):=fun c n args=>
 J.i .i64 args fun x args=>
 J.i .i64 args fun y args=>
 D.nil args<|
 M.call (c 163 [.int .i64 x]) fun ds=>
 J.b ds fun x1 ds=>
 D.nil ds<|
 M.call (c 163 [.int .i64 y]) fun ds=>
 J.b ds fun x2 ds=>
 D.nil ds<|
 bif x1 then
  bif x2 then
   M.ret [.int .i64 0]
  else
   M.ret [.int .i64 (-1)]
 else
  bif x2 then
   M.ret [.int .i64 1]
  else
   bif decide (x<y)then
    M.ret [.int .i64 (-1)]
   else
    bif decide (x>y)then
     M.ret [.int .i64 1]
    else
     M.ret [.int .i64 0]
def Ct:Zg->Nat->List DV->M (List DV):=fun c n args=>
 J.l 1 args fun aaK Wm args=>
 D.nil args<|
 M.join (fun st=>
  D.nil st<|
  M.ret [.int .i64 0]) fun aq=>
 M.loop (fun aK st=>
  J.i .i64 st fun x st=>
  D.nil st<|
  bif decide (x<(Wm:Int))then
   M.nn aaK fun i o=>
   M.ak (av x Wm)<|
   M.au i (x.toNat*1+o) fun d=>
   D.int .i64 d fun x1=>
   bif !(x1==0)then
    M.ret [.int .i64 x1]
   else
    aK [.int .i64 (af (x+1))]
  else
   aq []) n [.int .i64 0]
def Co:Zg->Nat->List DV->M (List DV):=fun c n args=>
 J.i .i64 args fun x args=>
 D.nil args<|
 M.ret [.bool (!(x==x))]
end
structure HZ (Bd:Za):Prop where
 eq:Bd 145=Ag
structure ZdB (Bd:Za):Prop where
 eq:Bd 156=FP
structure Mc (Bd:Za):Prop where
 eq:Bd 147=Z2
 q7:ZdB Bd
structure Nk (Bd:Za):Prop where
 eq:Bd 162=Ct
structure My (Bd:Za):Prop where
 eq:Bd 163=Co
structure FU (Bd:Za):Prop where
 eq:Bd 161=Cp
 q37:My Bd
structure yd (Bd:Za):Prop where
 eq:Bd 159=Cj
 q85:Nk Bd
 Tv:FU Bd
structure MX (Bd:Za):Prop where
 eq:Bd 138=G0
structure G9 (Bd:Za):Prop where
 eq:Bd 141=GF
structure Nv (Bd:Za):Prop where
 eq:Bd 155=G7
structure M2 (Bd:Za):Prop where
 eq:Bd 144=GO
 q73:M1 Bd
 q40:MP Bd
 q76:Nv Bd
structure MR (Bd:Za):Prop where
 eq:Bd 142=Gj
structure Cx (Bd:Za):Prop where
 eq:Bd 143=HW
structure NC (Bd:Za):Prop where
 eq:Bd 133=HK
 TD:G9 Bd
 q81:M2 Bd
 q43:MR Bd
 BO:Cx Bd
structure ZpH (Bd:Za):Prop where
 eq:Bd 153=Cn
end Go.Gv
