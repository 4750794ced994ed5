/- slices.SortFunc at entries (slot, gen, key, value), by key, slot and gen: a body of our own. -/
import Derived.Test.YtegglibipjjblaaGreatDoorGvDef
import Derived.Test.YtegglibipjjblaaGreatDoorGvZRun
namespace Go.Gv
abbrev E4:=Int×Int×Int×Int
def dT (x y:E4):Bool:=decide (x.2.2.1<y.2.2.1)||(x.2.2.1==y.2.2.1&&(decide (x.1<y.1)||(x.1==y.1&&decide (x.2.1<y.2.1))))
def yC (x:E4):List E4->List E4
 |[]=>[x]
 |y::r=>bif dT x y then x::y::r else y::yC x r
def ix:List E4->List E4
 |[]=>[]
 |x::r=>yC x (ix r)
def xJ:List E4->Bool
 |[]=>true
 |x::r=>r.all (fun y=>dT x y||dT y x)&&xJ r
def oi (x:E4):List DV:=[.int .i64 x.1,.int .i64 x.2.1,.int .i64 x.2.2.1,.int .i64 x.2.2.2]
def jQ:List E4->List DV
 |[]=>[]
 |x::r=>oi x++jQ r
def uf:List DV->Option (List E4)
 |[]=>some []
 | .int .i64 a:: .int .i64 b:: .int .i64 c:: .int .i64 d::r=>(match uf r with|some l=>some ((a,b,c,d)::l)|none=>none)
 |_=>none
def Cg:Zg->Nat->List DV->M (List DV):=fun _ _ args=>
 match args with
 |[.slice 4 a n,.func 159 [] []]=>(match a with
  |none=>bif Nat.beq n 0 then M.ret []else fail
  |some (i,o)=>fun s=>match s.gy i with
   |some cs=>bif Nat.ble (o+n*4) cs.length then(match uf ((cs.drop o).take (n*4))with
    |some l=>bif xJ l&&Nat.ble n 1000000 then M.ret [] (s.set i (some ⟨false,bN cs o (jQ (ix l))⟩))else none
    |none=>none)else none
   |none=>none)
 |_=>fail
theorem xH (x y:E4):dT x y=true↔x.2.2.1<y.2.2.1\/(x.2.2.1=y.2.2.1/\(x.1<y.1\/(x.1=y.1/\x.2.1<y.2.1))):=by
 simp[dT]
theorem Nr {x y:E4} (h:dT x y=true):dT y x=false:=by
 rw[xH]at h;cases e:dT y x with
 |false=>rfl
 |true=>rw[xH]at e;omega
theorem Nz {x y z:E4} (h:dT x y=true) (k:dT y z=true):dT x z=true:=by
 rw[xH]at*;omega
theorem Zww {x y z:E4} (h:dT x y=false) (k:dT y z=false):dT x z=false:=by
 cases e:dT x z with
 |false=>rfl
 |true=>
  have h1: ¬dT x y=true:=by rw[h];simp
  have h2: ¬dT y z=true:=by rw[k];simp
  rw[xH]at*
  omega
theorem ND (x:E4): ∀l,(yC x l).Perm (x::l)
 |[]=> .refl _
 |y::r=>by
  unfold yC;cases dT x y with
  |true=>exact .refl _
  |false=>exact((ND x r).cons y).trans (.swap x y r)
theorem HA: ∀l,(ix l).Perm l
 |[]=> .refl _
 |x::r=>(ND x _).trans ((HA r).cons x)
def Ap (x y:E4):Prop:=dT x y=true\/dT y x=true
theorem Nf: ∀ {l:List E4},xJ l=true->l.Pairwise Ap
 |[],_=> .nil
 |x::r,h=>by
  simp only[xJ,aH,gm,jt]at h;exact .cons (fun y hy=>h.1 y hy) (Nf h.2)
theorem Znt (x:E4): ∀ {l:List E4},l.Pairwise (fun a b=>dT a b=true)->(∀y∈l,Ap x y)->(yC x l).Pairwise (fun a b=>dT a b=true)
 |[],_,_=>by simp[yC]
 |y::r,h,ha=>by
  cases h with
  |cons h1 h2=>
   unfold yC;cases e:dT x y with
   |true=>
    refine .cons (fun z hz=>?_) (.cons h1 h2);rcases cd.1 hz with rfl|hz
    ·exact e
    ·exact Nz e (h1 z hz)
   |false=>
    refine .cons (fun z hz=>?_) (Znt x h2 fun z hz=>ha z (oP _ hz));rcases cd.1 ((ND x r).mem_iff.1 hz)with rfl|hz
    ·rcases ha y nT with h|h
     ·rw[e]at h;cases h
     ·exact h
    ·exact h1 z hz
theorem Zmb: ∀ {l:List E4},l.Pairwise Ap->(ix l).Pairwise (fun a b=>dT a b=true)
 |[],_=> .nil
 |x::r,.cons h1 h2=>Znt x (Zmb h2) fun y hy=>h1 y ((HA r).mem_iff.1 hy)
theorem Ap.symm {x y:E4} (h:Ap x y):Ap y x:=h.elim .inr .inl
theorem ZoE {l l':List E4} (hp:l'.Perm l) (ha:l.Pairwise Ap) (hs:l'.Pairwise (fun a b=>dT b a=false)):l'=ix l:=by
 have vY:l'.Pairwise Ap:=(hp.pairwise_iff fun h=>h.symm).2 ha;have gM:l'.Pairwise (fun a b=>dT a b=true):=by
  refine List.Pairwise.imp₂ ?_ vY hs;intro a b h1 h2;rcases h1 with h|h
  ·exact h
  ·rw[h2]at h;cases h
 refine List.Perm.eq_of_pairwise (le:=fun a b=>dT a b=true) (fun a b _ _ h1 h2=>?_) gM (Zmb ha) (hp.trans (HA l).symm);rw[Nr h1]at h2;cases h2
theorem NO (l:List E4):(ix l).length=l.length:=(HA l).length_eq
theorem zJ: ∀l:List E4,(jQ l).length=l.length*4
 |[]=>rfl
 |x::r=>by rw[jQ,aZ,zJ r,ee];show 4+_=_;omega
theorem Zq9: ∀ {ds:List DV} {l:List E4},uf ds=some l->ds=jQ l
 |[],l,h=>by cases h;rfl
 | .int .i64 a:: .int .i64 b:: .int .i64 c:: .int .i64 d::r,l,h=>by
  unfold uf at h;cases hr:uf r with
  |none=>rw[hr]at h;cases h
  |some l'=>
   rw[hr]at h;cases h;rw[Zq9 hr];rfl
end Go.Gv
namespace Go.Gv
noncomputable section
def W3 (c:Int):Op->Op
 | .binOp .mul t x (.const (.int k _)) t'=> .binOp .mul t x (.const (.int k c)) t'
 |o=>o
def Zz3 (c:Int) (o:Oper):Oper:= { o with op:=W3 c o.op }
def Cs (c:Int):Code->Code
 | .region i ops d=> .region i ⟨ops.toList.map (Zz3 c)⟩ d
 | .seq a b=> .seq (Cs c a) (Cs c b)
 | .cond o a b=> .cond o (Cs c a) (Cs c b)
 |x=>x
def Uj (c:Int) (f:Func):Func:= { f with body:=f.body.map (Cs c) }
def Ph (k:Int):Zg->Nat->List DV->M (List DV):=fun _ _ args=>
 J.i .u64 args fun x args=>
 D.nil args<|
 bif x==0 then
  M.ret [.int .i64 64]
 else
  M.ak (au ((IntKind.wrap .u64 ((bits .and .u64 x (IntKind.wrap .u64 (0-x)))*k)).fdiv (2^58)) 64)<|
  M.ar 2 ((((IntKind.wrap .u64 ((bits .and .u64 x (IntKind.wrap .u64 (0-x)))*k)).fdiv (2^58)).toNat)*1+0) fun d=>
  D.int .u8 d fun x1=>
  M.ret [.int .i64 (af (x1))]
def BC:Zg->Nat->List DV->M (List DV):=Ph 285870213051353865
theorem ZAv {C:aM} {A:FA} {f:Func} (h: ∀c,aP C A (Uj c f)=Ph c) (e:Uj 285870213051353865 f=f):aP C A f=BC:=by
 have:=h 285870213051353865;rw[e]at this;exact this
end
end Go.Gv
namespace Go.Gv
set_option linter.unusedVariables false
set_option maxRecDepth 10000
set_option maxHeartbeats 4000000
noncomputable section
def FT:Zg->Nat->List DV->M (List DV):=fun c n args=>
 J.s args fun s args=>
 D.nil args<|
 M.base fun b0=>
 M.join (fun st=>
  J.l 1 st fun out rO st=>
  D.nil st<|
  M.lq b0 [.slice 1 out rO]) fun aq=>
 M.loop (fun aN st=>
  J.s st fun s1 st=>
  J.l 1 st fun lj jc st=>
  D.nil st<|
  bif decide ((s1.length:Int)>0)then
   M.call (c 15 [.str s1]) fun ds=>
   J.i .i64 ds fun x ds=>
   J.i .i64 ds fun x1 ds=>
   D.nil ds<|
   M.new [.int .i64 x] fun i=>
   M.load i 0 1 fun cs=>
   M.app 1 lj jc cs 1 8796093022208 fun p=>
   M.ak (decide (0<=x1)&&decide (x1<=(s1.length:Int)))<|
   aN [.str (s1.drop x1.toNat),.slice 1 p (jc+1)]
  else
   aq [.slice 1 lj jc]) n [.str s,.slice 0 none 0]
def Gg:Zg->Nat->List DV->M (List DV):=fun c n args=>
 J.s args fun s args=>
 D.nil args<|
 M.ak (au 0 s.length)<|
 bif decide (ZE s 0<128)then
  M.ret [.int .i64 (af (ZE s 0)),.int .i64 1]
 else
  M.join (fun st=>J.b st fun b1 st=>D.nil st<|
   M.join (fun st=>J.b st fun b2 st=>D.nil st<|
    bif b2 then
     M.ak (au 1 s.length)<|
     M.ret [.int .i64 (af ((af ((af (IntKind.wrap .u8 ((ZE s 0)-192)))*64))+(af (IntKind.wrap .u8 ((ZE s 1)-128))))),.int .i64 2]
    else
     M.join (fun st=>J.b st fun b3 st=>D.nil st<|
      M.join (fun st=>
       D.nil st<|
      M.ret [.int .i64 65533,.int .i64 1]) fun bq=>
      bif b3 then
       M.join (fun st=>
       J.i .u8 st fun lo st=>
      D.nil st<|
      M.join (fun st=>
       J.i .u8 st fun hi st=>
      D.nil st<|
      M.call (c 19 [.str s,.int .i64 1,.int .u8 lo,.int .u8 hi]) fun ds=>
      J.b ds fun x ds=>
      D.nil ds<|
      M.join (fun st=>J.b st fun b4 st=>D.nil st<|
       bif b4 then
       M.ak (au 1 s.length)<|
      M.ak (au 2 s.length)<|
      M.ret [.int .i64 (af ((af ((af ((af (IntKind.wrap .u8 ((ZE s 0)-224)))*4096))+(af ((af (IntKind.wrap .u8 ((ZE s 1)-128)))*64))))+(af (IntKind.wrap .u8 ((ZE s 2)-128))))),.int .i64 3]
      else
       bq []) fun iJ=>
      bif x then
       M.call (c 19 [.str s,.int .i64 2,.int .u8 128,.int .u8 191]) fun ds=>
      J.b ds fun x1 ds=>
      D.nil ds<|
      iJ [.bool x1]
      else
       iJ [.bool false]) fun eM=>
      bif (ZE s 0)==237 then
       eM [.int .u8 159]
      else
       eM [.int .u8 191]) fun ca=>
      bif (ZE s 0)==224 then
       ca [.int .u8 160]
      else
       ca [.int .u8 128]
      else
       M.join (fun st=>J.b st fun b5 st=>D.nil st<|
       M.join (fun st=>
       D.nil st<|
      bq []) fun iK=>
      bif b5 then
       M.join (fun st=>
       J.i .u8 st fun lo1 st=>
      D.nil st<|
      M.join (fun st=>
       J.i .u8 st fun Qp st=>
      D.nil st<|
      M.call (c 19 [.str s,.int .i64 1,.int .u8 lo1,.int .u8 Qp]) fun ds=>
      J.b ds fun x2 ds=>
      D.nil ds<|
      M.join (fun st=>J.b st fun b6 st=>D.nil st<|
       M.join (fun st=>J.b st fun b7 st=>D.nil st<|
       bif b7 then
       M.ak (au 1 s.length)<|
      M.ak (au 2 s.length)<|
      M.ak (au 3 s.length)<|
      M.ret [.int .i64 (af ((af ((af ((af ((af (IntKind.wrap .u8 ((ZE s 0)-240)))*262144))+(af ((af (IntKind.wrap .u8 ((ZE s 1)-128)))*4096))))+(af ((af (IntKind.wrap .u8 ((ZE s 2)-128)))*64))))+(af (IntKind.wrap .u8 ((ZE s 3)-128))))),.int .i64 4]
      else
       iK []) fun kz=>
      bif b6 then
       M.call (c 19 [.str s,.int .i64 3,.int .u8 128,.int .u8 191]) fun ds=>
      J.b ds fun x3 ds=>
      D.nil ds<|
      kz [.bool x3]
      else
       kz [.bool false]) fun mF=>
      bif x2 then
       M.call (c 19 [.str s,.int .i64 2,.int .u8 128,.int .u8 191]) fun ds=>
      J.b ds fun x4 ds=>
      D.nil ds<|
      mF [.bool x4]
      else
       mF [.bool false]) fun jH=>
      bif (ZE s 0)==244 then
       jH [.int .u8 143]
      else
       jH [.int .u8 191]) fun ku=>
      bif (ZE s 0)==240 then
       ku [.int .u8 144]
      else
       ku [.int .u8 128]
      else
       iK []) fun jm=>
      bif decide (ZE s 0>=240)then
       jm [.bool (decide (ZE s 0<=244))]
      else
       jm [.bool false]) fun aV=>
     bif decide (ZE s 0>=224)then
      aV [.bool (decide (ZE s 0<=239))]
     else
      aV [.bool false]) fun aB=>
   bif b1 then
    M.call (c 19 [.str s,.int .i64 1,.int .u8 128,.int .u8 191]) fun ds=>
    J.b ds fun x5 ds=>
    D.nil ds<|
    aB [.bool x5]
   else
    aB [.bool false]) fun aq=>
  bif decide (ZE s 0>=194)then
   aq [.bool (decide (ZE s 0<=223))]
  else
   aq [.bool false]
def FH:Zg->Nat->List DV->M (List DV):=fun c n args=>
 J.s args fun s args=>
 J.i .i64 args fun bZ args=>
 J.i .u8 args fun lo args=>
 J.i .u8 args fun hi args=>
 D.nil args<|
 M.join (fun st=>J.b st fun b1 st=>D.nil st<|
  M.join (fun st=>J.b st fun b2 st=>D.nil st<|
   M.ret [.bool b2]) fun aB=>
  bif b1 then
   M.ak (au bZ s.length)<|
   aB [.bool (decide (ZE s bZ<=hi))]
  else
   aB [.bool false]) fun aq=>
 bif decide (bZ<(s.length:Int))then
  M.ak (au bZ s.length)<|
  aq [.bool (decide (ZE s bZ>=lo))]
 else
  aq [.bool false]
end
structure Li (Bd:Za):Prop where
 eq:Bd 19=FH
structure LY (Bd:Za):Prop where
 eq:Bd 15=Gg
 RN:Li Bd
structure Gi (Bd:Za):Prop where
 eq:Bd 12=FT
 q71:LY Bd
end Go.Gv
namespace Go.Gv
set_option linter.unusedVariables false
set_option maxRecDepth 10000
set_option maxHeartbeats 4000000
noncomputable section
def Gy:Zg->Nat->List DV->M (List DV):=fun c n args=>
 J.s args fun s args=>
 D.nil args<|
 M.join (fun st=>
  J.i .i64 st fun n1 st=>
  D.nil st<|
  M.ret [.bool (decide (n1>0))]) fun aq=>
 M.loop (fun aN st=>
  J.i .i64 st fun n2 st=>
  J.n st fun p st=>
  D.nil st<|
  bif Nat.blt p s.length then
  M.join (fun st=>J.b st fun b1 st=>D.nil st<|
   bif b1 then
    M.ret [.bool false]
   else
    aN [.int .i64 (af (n2+1)),.nat (p+qM s p)]) fun aB=>
  bif decide (af (n2+1)>8)then
   aB [.bool true]
  else
   M.call (c 28 [.int .i32 (xK s p)]) fun ds=>
   J.b ds fun x ds=>
   D.nil ds<|
   aB [.bool (!x)]
  else
  aq [.int .i64 n2]) n [.int .i64 0,.nat 0]
def Gu:Zg->Nat->List DV->M (List DV):=fun c n args=>
 J.s args fun s args=>
 D.nil args<|
 M.call (c 12 [.str s]) fun ds=>
 J.l 1 ds fun x xn ds=>
 D.nil ds<|
 M.join (fun st=>J.b st fun b1 st=>D.nil st<|
  M.join (fun st=>
   J.b st fun ok st=>
   D.nil st<|
   M.ret [.bool ok]) fun aB=>
  M.loop (fun aN st=>
   J.b st fun ok1 st=>
   J.i .i64 st fun i st=>
   D.nil st<|
   bif decide (i<(xn:Int))then
    M.join (fun st=>J.b st fun b2 st=>D.nil st<|
     aN [.bool b2,.int .i64 (af (i+1))]) fun aV=>
    bif ok1 then
     M.nn x fun i1 o=>
     M.ak (au i xn)<|
     M.ar i1 (i.toNat*1+o) fun d=>
     D.int .i64 d fun x1=>
     M.call (c 29 [.int .i64 x1]) fun ds=>
     J.b ds fun x2 ds=>
     D.nil ds<|
     aV [.bool x2]
    else
     aV [.bool false]
   else
    aB [.bool ok1]) n [.bool b1,.int .i64 0]) fun aq=>
 bif decide ((xn:Int)>0)then
  aq [.bool (decide ((xn:Int)<=8))]
 else
  aq [.bool false]
def H5:Zg->Nat->List DV->M (List DV):=fun c n args=>
 J.i .i32 args fun r1 args=>
 D.nil args<|
 M.call (c 54 []) fun ds=>
 J.a ds fun cs ds=>
 D.len cs 12<|
 D.nil ds<|
 M.join (fun st=>
  D.nil st<|
  M.ret [.bool false]) fun aq=>
 M.loop (fun aN st=>
  J.i .i64 st fun x st=>
  D.nil st<|
  bif decide (x<6)then
   M.ak (au x 6)<|
   D.len ((cs.drop (x.toNat*2)).take 2) 2<|
   D.nth ((cs.drop (x.toNat*2)).take 2) 0 fun d=>
   D.int .i32 d fun x1=>
   M.join (fun st=>J.b st fun b1 st=>D.nil st<|
    bif b1 then
     M.ret [.bool true]
    else
     aN [.int .i64 (af (x+1))]) fun aB=>
   bif decide (r1>=x1)then
    D.nth ((cs.drop (x.toNat*2)).take 2) 1 fun d1=>
    D.int .i32 d1 fun x2=>
    aB [.bool (decide (r1<=x2))]
   else
    aB [.bool false]
  else
   aq []) n [.int .i64 0]
def Hw:Zg->Nat->List DV->M (List DV):=fun c n args=>
 J.i .i64 args fun r1 args=>
 D.nil args<|
 M.join (fun st=>J.b st fun b1 st=>D.nil st<|
  M.join (fun st=>J.b st fun b2 st=>D.nil st<|
   M.join (fun st=>J.b st fun b3 st=>D.nil st<|
    M.join (fun st=>J.b st fun b4 st=>D.nil st<|
     M.join (fun st=>J.b st fun b5 st=>D.nil st<|
      M.join (fun st=>J.b st fun b6 st=>D.nil st<|
       M.ret [.bool b6]) fun eM=>
      bif b5 then
       eM [.bool true]
      else
       M.join (fun st=>J.b st fun b7 st=>D.nil st<|
       eM [.bool b7]) fun iJ=>
      bif decide (r1>=161)then
       iJ [.bool (decide (r1<=65519))]
      else
       iJ [.bool false]) fun ca=>
     bif b4 then
      ca [.bool true]
     else
      ca [.bool (r1==95)]) fun bq=>
    bif b3 then
     bq [.bool true]
    else
     bq [.bool (r1==45)]) fun aV=>
   bif b2 then
    aV [.bool true]
   else
    M.join (fun st=>J.b st fun b8 st=>D.nil st<|
     aV [.bool b8]) fun jm=>
    bif decide (r1>=48)then
     jm [.bool (decide (r1<=57))]
    else
     jm [.bool false]) fun aB=>
  bif b1 then
   aB [.bool true]
  else
   M.join (fun st=>J.b st fun b9 st=>D.nil st<|
    aB [.bool b9]) fun iK=>
   bif decide (r1>=65)then
    iK [.bool (decide (r1<=90))]
   else
    iK [.bool false]) fun aq=>
 bif decide (r1>=97)then
  aq [.bool (decide (r1<=122))]
 else
  aq [.bool false]
def Gz:Zg->Nat->List DV->M (List DV):=fun c n args=>
 J.s args fun s args=>
 D.nil args<|
 M.base fun b0=>
 M.join (fun st=>
  J.l 1 st fun out rO st=>
  D.nil st<|
  M.lq b0 [.slice 1 out rO]) fun aq=>
 M.loop (fun aN st=>
  J.l 1 st fun lj jc st=>
  J.n st fun p st=>
  D.nil st<|
  bif Nat.blt p s.length then
  M.new [.int .i32 (xK s p)] fun i=>
  M.load i 0 1 fun cs=>
  M.app 1 lj jc cs 1 17592186044416 fun p1=>
  aN [.slice 1 p1 (jc+1),.nat (p+qM s p)]
  else
  aq [.slice 1 lj jc]) n [.slice 0 none 0,.nat 0]
def Fp:Zg->Nat->List DV->M (List DV):=fun c n args=>
 J.s args fun a args=>
 J.s args fun b1 args=>
 D.nil args<|
 M.call (c 34 [.str a]) fun ds=>
 J.l 1 ds fun x xn ds=>
 D.nil ds<|
 M.call (c 34 [.str b1]) fun ds=>
 J.l 1 ds fun x1 nP ds=>
 D.nil ds<|
 M.call (c 57 [.slice 1 x xn,.slice 1 x1 nP]) fun ds=>
 J.i .i64 ds fun x2 ds=>
 D.nil ds<|
 M.ret [.int .i64 x2]
def Fw:Zg->Nat->List DV->M (List DV):=fun c n args=>
 J.s args fun a args=>
 J.s args fun b1 args=>
 D.nil args<|
 M.call (c 12 [.str a]) fun ds=>
 J.l 1 ds fun x xn ds=>
 D.nil ds<|
 M.call (c 12 [.str b1]) fun ds=>
 J.l 1 ds fun x1 nP ds=>
 D.nil ds<|
 M.join (fun st=>
  D.nil st<|
  bif decide ((xn:Int)<(nP:Int))then
   M.ret [.int .i64 (-1)]
  else
   bif decide ((xn:Int)>(nP:Int))then
    M.ret [.int .i64 1]
   else
    M.ret [.int .i64 0]) fun aq=>
 M.loop (fun aN st=>
  J.i .i64 st fun i st=>
  D.nil st<|
  M.join (fun st=>J.b st fun b2 st=>D.nil st<|
   bif b2 then
    M.nn x fun i1 o=>
    M.ak (au i xn)<|
    M.ar i1 (i.toNat*1+o) fun d=>
    D.int .i64 d fun x2=>
    M.nn x1 fun i2 o1=>
    M.ak (au i nP)<|
    M.ar i2 (i.toNat*1+o1) fun d1=>
    D.int .i64 d1 fun x3=>
    bif decide (x2<x3)then
     M.ret [.int .i64 (-1)]
    else
     M.nn x fun i3 o2=>
     M.ak (au i xn)<|
     M.ar i3 (i.toNat*1+o2) fun d2=>
     D.int .i64 d2 fun x4=>
     M.nn x1 fun i4 o3=>
     M.ak (au i nP)<|
     M.ar i4 (i.toNat*1+o3) fun d3=>
     D.int .i64 d3 fun x5=>
     bif decide (x4>x5)then
      M.ret [.int .i64 1]
     else
      aN [.int .i64 (af (i+1))]
   else
    aq []) fun aB=>
  bif decide (i<(xn:Int))then
   aB [.bool (decide (i<(nP:Int)))]
  else
   aB [.bool false]) n [.int .i64 0]
def Mi:Zg->Nat->List DV->M (List DV):=fun c n args=>
 D.nil args<|
 M.ret [.agg [.int .i32 97,.int .i32 122,.int .i32 65,.int .i32 90,.int .i32 48,.int .i32 57,.int .i32 45,.int .i32 45,.int .i32 95,.int .i32 95,.int .i32 161,.int .i32 65519]]
def EL:Zg->Nat->List DV->M (List DV):=fun c n args=>
 J.l 1 args fun s1 kE args=>
 J.l 1 args fun s2 nJ args=>
 D.nil args<|
 M.join (fun st=>
  D.nil st<|
  bif decide ((kE:Int)<(nJ:Int))then
   M.ret [.int .i64 (-1)]
  else
   M.ret [.int .i64 0]) fun aq=>
 M.loop (fun aN st=>
  J.i .i64 st fun x st=>
  D.nil st<|
  bif decide (x<(kE:Int))then
   M.nn s1 fun i o=>
   M.ak (au x kE)<|
   M.ar i (x.toNat*1+o) fun d=>
   D.int .i32 d fun x1=>
   bif decide (x>=(nJ:Int))then
    M.ret [.int .i64 1]
   else
    M.nn s2 fun i1 o1=>
    M.ak (au x nJ)<|
    M.ar i1 (x.toNat*1+o1) fun d1=>
    D.int .i32 d1 fun x2=>
    M.call (c 64 [.int .i32 x1,.int .i32 x2]) fun ds=>
    J.i .i64 ds fun x3 ds=>
    D.nil ds<|
    bif !(x3==0)then
     M.ret [.int .i64 x3]
    else
     aN [.int .i64 (af (x+1))]
  else
   aq []) n [.int .i64 0]
def EP:Zg->Nat->List DV->M (List DV):=fun c n args=>
 J.i .i32 args fun x args=>
 J.i .i32 args fun y args=>
 D.nil args<|
 M.call (c 72 [.int .i32 x]) fun ds=>
 J.b ds fun x1 ds=>
 D.nil ds<|
 M.call (c 72 [.int .i32 y]) fun ds=>
 J.b ds fun x2 ds=>
 D.nil ds<|
 bif x1 then
  bif x2 then
   M.ret [.int .i64 0]
  else
   M.ret [.int .i64 (-1)]
 else
  bif x2 then
   M.ret [.int .i64 1]
  else
   bif decide (x<y)then
    M.ret [.int .i64 (-1)]
   else
    bif decide (x>y)then
     M.ret [.int .i64 1]
    else
     M.ret [.int .i64 0]
def FQ:Zg->Nat->List DV->M (List DV):=fun c n args=>
 J.i .i32 args fun x args=>
 D.nil args<|
 M.ret [.bool (!(x==x))]
end
structure Mc (Bd:Za):Prop where
 eq:Bd 54=Mi
structure Nj (Bd:Za):Prop where
 eq:Bd 28=H5
 q89:Mc Bd
structure Mr (Bd:Za):Prop where
 eq:Bd 26=Gy
 XF:Nj Bd
structure KV (Bd:Za):Prop where
 eq:Bd 86=BC
structure MQ (Bd:Za):Prop where
 eq:Bd 29=Hw
structure LX (Bd:Za):Prop where
 eq:Bd 27=Gu
 XD:MQ Bd
 Ke:Gi Bd
structure Ml (Bd:Za):Prop where
 eq:Bd 34=Gz
structure K5 (Bd:Za):Prop where
 eq:Bd 72=FQ
structure KZ (Bd:Za):Prop where
 eq:Bd 64=EP
 q30:K5 Bd
structure KP (Bd:Za):Prop where
 eq:Bd 57=EL
 q17:KZ Bd
structure Lx (Bd:Za):Prop where
 eq:Bd 39=Fp
 q88:Ml Bd
 q6:KP Bd
structure Lf (Bd:Za):Prop where
 eq:Bd 40=Fw
 Ke:Gi Bd
end Go.Gv
namespace Go.Gv
set_option linter.unusedVariables false
set_option maxRecDepth 10000
set_option maxHeartbeats 4000000
noncomputable section
end
end Go.Gv
namespace Go.Gv
set_option linter.unusedVariables false
set_option maxRecDepth 10000
set_option maxHeartbeats 4000000
noncomputable section
end
end Go.Gv
namespace Go.Gv
set_option linter.unusedVariables false
set_option maxRecDepth 10000
set_option maxHeartbeats 4000000
noncomputable section
end
end Go.Gv
namespace Go.Gv
set_option linter.unusedVariables false
set_option maxRecDepth 10000
set_option maxHeartbeats 4000000
noncomputable section
end
end Go.Gv
namespace Go.Gv
set_option linter.unusedVariables false
set_option maxRecDepth 10000
set_option maxHeartbeats 4000000
noncomputable section
def zw:Zg->Nat->List DV->M (List DV):=fun c n args=>
 J.l 1 args fun a an args=>
 J.l 1 args fun b1 ck args=>
 D.nil args<|
 bif !((an:Int)==(ck:Int))then
  M.ret [.bool false]
 else
  M.join (fun st=>
   D.nil st<|
   M.ret [.bool true]) fun aq=>
  M.loop (fun aN st=>
   J.i .i64 st fun i st=>
   D.nil st<|
   bif decide (i<(an:Int))then
    M.nn a fun i1 o=>
    M.ak (au i an)<|
    M.ar i1 (i.toNat*1+o) fun d=>
    D.int .i64 d fun x=>
    M.nn b1 fun i2 o1=>
    M.ak (au i ck)<|
    M.ar i2 (i.toNat*1+o1) fun d1=>
    D.int .i64 d1 fun x1=>
    bif !(x==x1)then
     M.ret [.bool false]
    else
     aN [.int .i64 (af (i+1))]
   else
    aq []) n [.int .i64 0]
def EK:Zg->Nat->List DV->M (List DV):=fun c n args=>
 J.l 1 args fun s1 kE args=>
 J.l 1 args fun s2 nJ args=>
 D.nil args<|
 bif !((kE:Int)==(nJ:Int))then
  M.ret [.bool false]
 else
  M.join (fun st=>
   D.nil st<|
   M.ret [.bool true]) fun aq=>
  M.loop (fun aN st=>
   J.i .i64 st fun x st=>
   D.nil st<|
   bif decide (x<(kE:Int))then
    M.nn s1 fun i o=>
    M.ak (au x kE)<|
    M.ar i (x.toNat*1+o) fun d=>
    D.int .i64 d fun x1=>
    M.nn s2 fun i1 o1=>
    M.ak (au x nJ)<|
    M.ar i1 (x.toNat*1+o1) fun d1=>
    D.int .i64 d1 fun x2=>
    bif !(x1==x2)then
     M.ret [.bool false]
    else
     aN [.int .i64 (af (x+1))]
   else
    aq []) n [.int .i64 0]
end
structure KT (Bd:Za):Prop where
 eq:Bd 114=EK
structure Me (Bd:Za):Prop where
 eq:Bd 113=zw
end Go.Gv
namespace Go.Gv
set_option linter.unusedVariables false
set_option maxRecDepth 10000
set_option maxHeartbeats 4000000
noncomputable section
end
end Go.Gv
namespace Go.Gv
set_option linter.unusedVariables false
set_option maxRecDepth 10000
set_option maxHeartbeats 4000000
noncomputable section
end
end Go.Gv
namespace Go.Gv
set_option linter.unusedVariables false
set_option maxRecDepth 10000
set_option maxHeartbeats 4000000
noncomputable section
def GS:Zg->Nat->List DV->M (List DV):=fun c n args=>
 J.a args fun cs args=>
 J.i .i64 cs fun x r=>
 J.i .i64 r fun x1 r=>
 J.i .i64 r fun x2 r=>
 J.l 2 r fun x3 du r=>
 J.l 1 r fun x4 cE r=>
 J.l 1 r fun x5 fR r=>
 D.nil r<|
 D.nil args<|
 M.call (c 141 [.agg [.int .i64 x,.int .i64 x1,.int .i64 x2]]) fun ds=>
 J.b ds fun x6 ds=>
 D.nil ds<|
 M.join (fun st=>J.b st fun b1 st=>D.nil st<|
  M.join (fun st=>J.b st fun b2 st=>D.nil st<|
   bif b2 then
    M.ret [.bool false]
   else
    M.call (c 142 [.agg [.int .i64 x,.int .i64 x1,.int .i64 x2,.slice 2 x3 du,.slice 1 x4 cE,.slice 1 x5 fR]]) fun ds=>
    J.l 4 ds fun x7 SE ds=>
    D.nil ds<|
    M.join (fun st=>J.b st fun b3 st=>D.nil st<|
     bif b3 then
      M.ret [.bool false]
     else
      M.ak (decide (0<=(cE:Int))&&decide ((cE:Int)<=(cE:Int))&&decide ((cE:Int)<=70368744177664))<|
      M.new (fj ((cE:Int).toNat) [.bool false]) fun i=>
      M.join (fun st=>
       D.nil st<|
      M.join (fun st=>
       D.nil st<|
      M.join (fun st=>
       D.nil st<|
      M.ret [.bool true]) fun eM=>
      M.loop (fun aN st=>
       J.i .i64 st fun i1 st=>
      D.nil st<|
      bif decide (i1<(cE:Int))then
       M.nn x4 fun i2 o=>
      M.ak (au i1 cE)<|
      M.ar i2 (i1.toNat*1+o) fun d=>
      D.int .i64 d fun x8=>
      M.join (fun st=>J.b st fun b4 st=>D.nil st<|
       M.join (fun st=>J.b st fun b5 st=>D.nil st<|
       bif b5 then
       M.ret [.bool false]
      else
       aN [.int .i64 (af (i1+1))]) fun jm=>
      bif b4 then
       jm [.bool true]
      else
       M.ak (au i1 ((cE:Int).toNat))<|
      M.ar i (i1.toNat*1) fun d1=>
      D.bool d1 fun x9=>
      M.join (fun st=>J.b st fun b6 st=>D.nil st<|
       M.join (fun st=>J.b st fun b7 st=>D.nil st<|
       jm [.bool b7]) fun ku=>
      bif b6 then
       M.call (c 143 [.slice 1 x5 fR,.int .i64 i1]) fun ds=>
      J.b ds fun da ds=>
      D.nil ds<|
      ku [.bool (!da)]
      else
       ku [.bool false]) fun iK=>
      bif !x9 then
       M.nn x4 fun i3 o1=>
      M.ak (au i1 cE)<|
      M.ar i3 (i1.toNat*1+o1) fun d2=>
      D.int .i64 d2 fun eR=>
      iK [.bool (decide (eR<x2))]
      else
       iK [.bool false]) fun iJ=>
      bif decide (x8<1)then
       iJ [.bool true]
      else
       M.nn x4 fun i4 o2=>
      M.ak (au i1 cE)<|
      M.ar i4 (i1.toNat*1+o2) fun d3=>
      D.int .i64 d3 fun ft=>
      iJ [.bool (decide (ft>x2))]
      else
       eM []) n [.int .i64 0]) fun ca=>
      M.loop (fun dW st=>
       J.i .i64 st fun i5 st=>
      D.nil st<|
      bif decide (i5<(fR:Int))then
       M.nn x5 fun i6 o3=>
      M.ak (au i5 fR)<|
      M.ar i6 (i5.toNat*1+o3) fun d4=>
      D.int .i64 d4 fun fm=>
      M.join (fun st=>J.b st fun b8 st=>D.nil st<|
       M.join (fun st=>J.b st fun b9 st=>D.nil st<|
       M.join (fun st=>J.b st fun vM st=>D.nil st<|
       M.join (fun st=>J.b st fun Pc st=>D.nil st<|
       bif Pc then
       M.ret [.bool false]
      else
       dW [.int .i64 (af (i5+1))]) fun DN=>
      bif vM then
       DN [.bool true]
      else
       M.ak (decide (0<=i5)&&decide (i5<=(fR:Int)))<|
      M.call (c 143 [.slice 1 x5 i5.toNat,.int .i64 fm]) fun ds=>
      J.b ds fun iy ds=>
      D.nil ds<|
      DN [.bool iy]) fun kz=>
      bif b9 then
       kz [.bool true]
      else
       M.nn x4 fun i7 o4=>
      M.ak (au fm cE)<|
      M.ar i7 (fm.toNat*1+o4) fun d5=>
      D.int .i64 d5 fun fp=>
      kz [.bool (decide (fp>=x2))]) fun mF=>
      bif b8 then
       mF [.bool true]
      else
       M.ak (au fm ((cE:Int).toNat))<|
      M.ar i (fm.toNat*1) fun d6=>
      D.bool d6 fun gk=>
      mF [.bool gk]) fun jH=>
      bif decide (fm<0)then
       jH [.bool true]
      else
       jH [.bool (decide (fm>=(cE:Int)))]
      else
       ca []) n [.int .i64 0]) fun bq=>
      M.loop (fun wU st=>
       J.i .i64 st fun i8 st=>
      D.nil st<|
      bif decide (i8<(SE:Int))then
       M.nn x7 fun i9 o5=>
      M.ak (au i8 SE)<|
      M.load i9 (i8.toNat*4+o5) 2 fun bw=>
      J.i .i64 bw fun gI r=>
      J.i .i64 r fun kI r=>
      D.nil r<|
      M.join (fun st=>J.b st fun Pd st=>D.nil st<|
       M.join (fun st=>J.b st fun Pe st=>D.nil st<|
       M.join (fun st=>J.b st fun b14 st=>D.nil st<|
       bif b14 then
       M.ret [.bool false]
      else
       M.ak (au gI ((cE:Int).toNat))<|
      M.store i (gI.toNat*1) [.bool true]<|
      wU [.int .i64 (af (i8+1))]) fun Uf=>
      bif Pe then
       Uf [.bool true]
      else
       M.nn x4 fun i10 o6=>
      M.ak (au gI cE)<|
      M.ar i10 (gI.toNat*1+o6) fun d7=>
      D.int .i64 d7 fun jo=>
      Uf [.bool (!(kI==jo))]) fun Ue=>
      bif Pd then
       Ue [.bool true]
      else
       M.ak (au gI ((cE:Int).toNat))<|
      M.ar i (gI.toNat*1) fun d8=>
      D.bool d8 fun j1=>
      Ue [.bool j1]) fun Ud=>
      bif decide (gI<0)then
       Ud [.bool true]
      else
       Ud [.bool (decide (gI>=(cE:Int)))]
      else
       bq []) n [.int .i64 0]) fun aV=>
    bif decide ((SE:Int)>(cE:Int))then
     aV [.bool true]
    else
     aV [.bool (decide ((fR:Int)>(cE:Int)))]) fun aB=>
  bif b1 then
   aB [.bool true]
  else
   M.call (c 144 [.slice 2 x3 du]) fun ds=>
   J.b ds fun mM ds=>
   D.nil ds<|
   aB [.bool (!mM)]) fun aq=>
 bif !x6 then
  aq [.bool true]
 else
  aq [.bool (decide ((cE:Int)>x1))]
def GK:Zg->Nat->List DV->M (List DV):=fun c n args=>
 J.a args fun cs args=>
 J.i .i64 cs fun a r=>
 J.i .i64 r fun a1 r=>
 J.i .i64 r fun a2 r=>
 J.l 2 r fun a3 Aj r=>
 J.l 1 r fun a4 O8 r=>
 J.l 1 r fun a5 O9 r=>
 D.nil r<|
 J.a args fun bw args=>
 J.i .i64 bw fun b1 r=>
 J.i .i64 r fun b2 r=>
 J.i .i64 r fun b3 r=>
 J.l 2 r fun b4 Cx r=>
 J.l 1 r fun b5 Pf r=>
 J.l 1 r fun b6 Pg r=>
 D.nil r<|
 D.nil args<|
 M.join (fun st=>J.b st fun b7 st=>D.nil st<|
  M.join (fun st=>J.b st fun b8 st=>D.nil st<|
   M.join (fun st=>J.b st fun b9 st=>D.nil st<|
    bif b9 then
     M.ret [.bool false]
    else
     M.join (fun st=>
      D.nil st<|
      M.ret [.bool true]) fun bq=>
     M.loop (fun aN st=>
      J.i .i64 st fun i st=>
      D.nil st<|
      bif decide (i<(Aj:Int))then
       M.nn a3 fun i1 o=>
      M.ak (au i Aj)<|
      M.ar i1 (i.toNat*2+o) fun d=>
      D.str d fun x=>
      M.nn b4 fun i2 o1=>
      M.ak (au i Cx)<|
      M.ar i2 (i.toNat*2+o1) fun d1=>
      D.str d1 fun x1=>
      M.join (fun st=>J.b st fun vM st=>D.nil st<|
       bif vM then
       M.ret [.bool false]
      else
       aN [.int .i64 (af (i+1))]) fun ca=>
      bif !(x==x1)then
       ca [.bool true]
      else
       M.nn a3 fun i3 o2=>
      M.ak (au i Aj)<|
      M.ar i3 (i.toNat*2+o2+1) fun d2=>
      D.slice 4 d2 fun x2 dh=>
      M.nn b4 fun i4 o3=>
      M.ak (au i Cx)<|
      M.ar i4 (i.toNat*2+o3+1) fun d3=>
      D.slice 4 d3 fun x3 du=>
      M.call (c 153 [.slice 4 x2 dh,.slice 4 x3 du]) fun ds=>
      J.b ds fun x4 ds=>
      D.nil ds<|
      ca [.bool (!x4)]
      else
       bq []) n [.int .i64 0]) fun aV=>
   bif b8 then
    aV [.bool true]
   else
    M.call (c 113 [.slice 1 a5 O9,.slice 1 b6 Pg]) fun ds=>
    J.b ds fun x5 ds=>
    D.nil ds<|
    aV [.bool (!x5)]) fun aB=>
  bif b7 then
   aB [.bool true]
  else
   M.call (c 113 [.slice 1 a4 O8,.slice 1 b5 Pf]) fun ds=>
   J.b ds fun x6 ds=>
   D.nil ds<|
   aB [.bool (!x6)]) fun aq=>
 bif !((a==b1)&&((a1==b2)&&((a2==b3)&&true)))then
  aq [.bool true]
 else
  aq [.bool (!((Aj:Int)==(Cx:Int)))]
def FV:Zg->Nat->List DV->M (List DV):=fun c n args=>
 J.a args fun cs args=>
 J.i .i64 cs fun x r=>
 J.i .i64 r fun x1 r=>
 J.i .i64 r fun x2 r=>
 J.l 2 r fun x3 du r=>
 J.l 1 r fun x4 cE r=>
 J.l 1 r fun x5 fR r=>
 D.nil r<|
 D.nil args<|
 M.join (fun st=>J.b st fun b1 st=>D.nil st<|
  M.join (fun st=>J.b st fun b2 st=>D.nil st<|
   M.join (fun st=>J.b st fun b3 st=>D.nil st<|
    bif b3 then
     M.ret [.bool false]
    else
     M.join (fun st=>
      D.nil st<|
      M.ret [.bool true]) fun bq=>
     M.loop (fun aN st=>
      J.i .i64 st fun i st=>
      D.nil st<|
      bif decide (i<(du:Int))then
       M.nn x3 fun i1 o=>
      M.ak (au i du)<|
      M.ar i1 (i.toNat*2+o+1) fun d=>
      D.slice 4 d fun x6 qQ=>
      M.join (fun st=>J.b st fun b4 st=>D.nil st<|
       bif b4 then
       M.ret [.bool false]
      else
       aN [.int .i64 (af (i+1))]) fun ca=>
      bif decide ((qQ:Int)>40)then
       ca [.bool true]
      else
       M.nn x3 fun i2 o1=>
      M.ak (au i du)<|
      M.ar i2 (i.toNat*2+o1) fun d1=>
      D.str d1 fun x7=>
      ca [.bool (decide ((x7.length:Int)>60))]
      else
       bq []) n [.int .i64 0]) fun aV=>
   bif b2 then
    aV [.bool true]
   else
    aV [.bool (decide (x>400))]) fun aB=>
  bif b1 then
   aB [.bool true]
  else
   aB [.bool (decide ((fR:Int)>60))]) fun aq=>
 bif decide ((du:Int)>8)then
  aq [.bool true]
 else
  aq [.bool (decide ((cE:Int)>60))]
def FX:Zg->Nat->List DV->M (List DV):=fun c n args=>
 J.a args fun cs args=>
 J.i .i64 cs fun g r=>
 J.i .i64 r fun g1 r=>
 J.i .i64 r fun g2 r=>
 D.nil r<|
 D.nil args<|
 M.join (fun st=>J.b st fun b1 st=>D.nil st<|
  M.join (fun st=>J.b st fun b2 st=>D.nil st<|
   M.join (fun st=>J.b st fun b3 st=>D.nil st<|
    M.join (fun st=>J.b st fun b4 st=>D.nil st<|
     M.join (fun st=>J.b st fun b5 st=>D.nil st<|
      M.ret [.bool b5]) fun ca=>
     bif b4 then
      ca [.bool (decide (g2<=4294967295))]
     else
      ca [.bool false]) fun bq=>
    bif b3 then
     bq [.bool (decide (g2>=1))]
    else
     bq [.bool false]) fun aV=>
   bif b2 then
    aV [.bool (decide (g1<=1792))]
   else
    aV [.bool false]) fun aB=>
  bif b1 then
   aB [.bool (decide (g1>=1))]
  else
   aB [.bool false]) fun aq=>
 bif decide (g>=16)then
  aq [.bool (decide (g<=3072))]
 else
  aq [.bool false]
def FR:Zg->Nat->List DV->M (List DV):=fun c n args=>
 J.a args fun cs args=>
 J.i .i64 cs fun x r=>
 J.i .i64 r fun x1 r=>
 J.i .i64 r fun x2 r=>
 J.l 2 r fun x3 du r=>
 J.l 1 r fun x4 cE r=>
 J.l 1 r fun x5 fR r=>
 D.nil r<|
 D.nil args<|
 M.base fun b0=>
 M.join (fun st=>
  J.l 4 st fun out rO st=>
  D.nil st<|
  M.lq b0 [.slice 4 out rO]) fun aq=>
 M.loop (fun aN st=>
  J.l 4 st fun lj jc st=>
  J.i .i64 st fun i st=>
  D.nil st<|
  bif decide (i<(du:Int))then
   M.nn x3 fun i1 o=>
   M.ak (au i du)<|
   M.ar i1 (i.toNat*2+o+1) fun d=>
   D.slice 4 d fun x6 qQ=>
   M.rd x6 (qQ*4) fun bw=>
   M.app 4 lj jc bw qQ 2199023255552 fun p=>
   aN [.slice 4 p (jc+qQ),.int .i64 (af (i+1))]
  else
   aq [.slice 4 lj jc]) n [.slice 0 none 0,.int .i64 0]
def Hu:Zg->Nat->List DV->M (List DV):=fun c n args=>
 J.l 1 args fun l ln args=>
 J.i .i64 args fun n1 args=>
 D.nil args<|
 M.join (fun st=>
  D.nil st<|
  M.ret [.bool false]) fun aq=>
 M.loop (fun aN st=>
  J.i .i64 st fun i st=>
  D.nil st<|
  bif decide (i<(ln:Int))then
   M.nn l fun i1 o=>
   M.ak (au i ln)<|
   M.ar i1 (i.toNat*1+o) fun d=>
   D.int .i64 d fun x=>
   bif x==n1 then
    M.ret [.bool true]
   else
    aN [.int .i64 (af (i+1))]
  else
   aq []) n [.int .i64 0]
def Ga:Zg->Nat->List DV->M (List DV):=fun c n args=>
 J.l 2 args fun l ln args=>
 D.nil args<|
 bif decide ((ln:Int)>16)then
  M.ret [.bool false]
 else
  M.join (fun st=>
   D.nil st<|
   M.ret [.bool true]) fun aq=>
  M.loop (fun aN st=>
   J.i .i64 st fun i st=>
   D.nil st<|
   bif decide (i<(ln:Int))then
    M.join (fun st=>
     D.nil st<|
     aN [.int .i64 (af (i+1))]) fun aB=>
    M.nn l fun i1 o=>
    M.ak (au i ln)<|
    M.ar i1 (i.toNat*2+o) fun d=>
    D.str d fun x=>
    M.call (c 27 [.str x]) fun ds=>
    J.b ds fun x1 ds=>
    D.nil ds<|
    M.join (fun st=>J.b st fun b1 st=>D.nil st<|
     bif b1 then
      M.ret [.bool false]
     else
      M.join (fun st=>
       D.nil st<|
      aB []) fun bq=>
      M.loop (fun dW st=>
       J.i .i64 st fun k st=>
      D.nil st<|
      M.nn l fun i2 o1=>
      M.ak (au i ln)<|
      M.ar i2 (i.toNat*2+o1+1) fun d1=>
      D.slice 4 d1 fun x2 dh=>
      bif decide (k<(dh:Int))then
       M.nn l fun i3 o2=>
      M.ak (au i ln)<|
      M.ar i3 (i.toNat*2+o2+1) fun d2=>
      D.slice 4 d2 fun x3 du=>
      M.nn x3 fun i4 o3=>
      M.ak (au (af (k-1)) du)<|
      M.load i4 (((af (k-1)).toNat)*4+o3) 4 fun cs=>
      J.i .i64 cs fun x4 r=>
      J.i .i64 r fun x5 r=>
      J.i .i64 r fun x6 r=>
      J.i .i64 r fun x7 r=>
      D.nil r<|
      M.nn l fun i5 o4=>
      M.ak (au i ln)<|
      M.ar i5 (i.toNat*2+o4+1) fun d3=>
      D.slice 4 d3 fun x8 wX=>
      M.nn x8 fun i6 o5=>
      M.ak (au k wX)<|
      M.load i6 (k.toNat*4+o5) 4 fun bw=>
      J.i .i64 bw fun x9 r=>
      J.i .i64 r fun da r=>
      J.i .i64 r fun eR r=>
      J.i .i64 r fun ft r=>
      D.nil r<|
      M.call (c 155 [.agg [.int .i64 x4,.int .i64 x5,.int .i64 x6,.int .i64 x7],.agg [.int .i64 x9,.int .i64 da,.int .i64 eR,.int .i64 ft]]) fun ds=>
      J.b ds fun fm ds=>
      D.nil ds<|
      bif !fm then
       M.ret [.bool false]
      else
       dW [.int .i64 (af (k+1))]
      else
       bq []) n [.int .i64 1]) fun aV=>
    bif !x1 then
     aV [.bool true]
    else
     M.join (fun st=>J.b st fun b2 st=>D.nil st<|
      aV [.bool b2]) fun ca=>
     bif decide (i>0)then
      M.nn l fun i7 o6=>
      M.ak (au (af (i-1)) ln)<|
      M.ar i7 (((af (i-1)).toNat)*2+o6) fun d4=>
      D.str d4 fun iy=>
      M.nn l fun i8 o7=>
      M.ak (au i ln)<|
      M.ar i8 (i.toNat*2+o7) fun d5=>
      D.str d5 fun fp=>
      M.call (c 40 [.str iy,.str fp]) fun ds=>
      J.i .i64 ds fun gk ds=>
      D.nil ds<|
      ca [.bool (decide (gk>=0))]
     else
      ca [.bool false]
   else
    aq []) n [.int .i64 0]
def zu:Zg->Nat->List DV->M (List DV):=fun c n args=>
 J.a args fun cs args=>
 J.i .i64 cs fun g r=>
 J.i .i64 r fun g1 r=>
 J.i .i64 r fun g2 r=>
 D.nil r<|
 D.nil args<|
 M.join (fun st=>J.b st fun b1 st=>D.nil st<|
  M.join (fun st=>J.b st fun b2 st=>D.nil st<|
   M.join (fun st=>J.b st fun b3 st=>D.nil st<|
    M.join (fun st=>J.b st fun b4 st=>D.nil st<|
     M.join (fun st=>J.b st fun b5 st=>D.nil st<|
      M.ret [.bool b5]) fun ca=>
     bif b4 then
      ca [.bool (decide (g2<=4294967295))]
     else
      ca [.bool false]) fun bq=>
    bif b3 then
     bq [.bool (decide (g2>=1))]
    else
     bq [.bool false]) fun aV=>
   bif b2 then
    aV [.bool (decide (g1<=1792))]
   else
    aV [.bool false]) fun aB=>
  bif b1 then
   aB [.bool (decide (g1>=1))]
  else
   aB [.bool false]) fun aq=>
 bif decide (g>=16)then
  aq [.bool (decide (g<=3072))]
 else
  aq [.bool false]
def Z2:Zg->Nat->List DV->M (List DV):=fun c n args=>
 J.l 1 args fun s sn args=>
 J.f args fun f ff fc args=>
 D.nil args<|
 M.call (c 156 [.slice 1 s sn,.func f ff fc]) fun ds=>
 J.i .i64 ds fun x ds=>
 D.nil ds<|
 M.ret [.bool (decide (x>=0))]
def xu:Zg->Nat->List DV->M (List DV):=fun c n args=>
 J.l 4 args fun a an args=>
 J.l 4 args fun b1 ck args=>
 D.nil args<|
 bif !((an:Int)==(ck:Int))then
  M.ret [.bool false]
 else
  M.join (fun st=>
   D.nil st<|
   M.ret [.bool true]) fun aq=>
  M.loop (fun aN st=>
   J.i .i64 st fun i st=>
   D.nil st<|
   bif decide (i<(an:Int))then
    M.nn a fun i1 o=>
    M.ak (au i an)<|
    M.load i1 (i.toNat*4+o) 4 fun cs=>
    J.i .i64 cs fun x r=>
    J.i .i64 r fun x1 r=>
    J.i .i64 r fun x2 r=>
    J.i .i64 r fun x3 r=>
    D.nil r<|
    M.nn b1 fun i2 o1=>
    M.ak (au i ck)<|
    M.load i2 (i.toNat*4+o1) 4 fun bw=>
    J.i .i64 bw fun x4 r=>
    J.i .i64 r fun x5 r=>
    J.i .i64 r fun x6 r=>
    J.i .i64 r fun x7 r=>
    D.nil r<|
    bif !((x==x4)&&((x1==x5)&&((x2==x6)&&((x3==x7)&&true))))then
     M.ret [.bool false]
    else
     aN [.int .i64 (af (i+1))]
   else
    aq []) n [.int .i64 0]
def F9:Zg->Nat->List DV->M (List DV):=fun c n args=>
 J.a args fun cs args=>
 J.i .i64 cs fun a r=>
 J.i .i64 r fun a1 r=>
 J.i .i64 r fun a2 r=>
 J.i .i64 r fun a3 r=>
 D.nil r<|
 J.a args fun bw args=>
 J.i .i64 bw fun b1 r=>
 J.i .i64 r fun b2 r=>
 J.i .i64 r fun b3 r=>
 J.i .i64 r fun b4 r=>
 D.nil r<|
 D.nil args<|
 bif !(a2==b3)then
  M.ret [.bool (decide (a2<b3))]
 else
  bif !(a==b1)then
   M.ret [.bool (decide (a<b1))]
  else
   M.ret [.bool (decide (a1<b2))]
def EM:Zg->Nat->List DV->M (List DV):=fun c n args=>
 J.l 1 args fun s sn args=>
 J.f args fun f ff fc args=>
 D.nil args<|
 M.join (fun st=>
  D.nil st<|
  M.ret [.int .i64 (-1)]) fun aq=>
 M.loop (fun aN st=>
  J.i .i64 st fun x st=>
  D.nil st<|
  bif decide (x<(sn:Int))then
   M.nn s fun i o=>
   M.ak (au x sn)<|
   M.ar i (x.toNat*1+o) fun d=>
   D.int .i64 d fun x1=>
   M.call (c f (ff++[.int .i64 x1]++fc)) fun ds=>
   J.b ds fun x2 ds=>
   D.nil ds<|
   bif x2 then
    M.ret [.int .i64 x]
   else
    aN [.int .i64 (af (x+1))]
  else
   aq []) n [.int .i64 0]
def BH:Zg->Nat->List DV->M (List DV):=fun c n args=>
 J.a args fun cs args=>
 J.i .i64 cs fun a r=>
 J.i .i64 r fun a1 r=>
 J.i .i64 r fun a2 r=>
 J.i .i64 r fun a3 r=>
 D.nil r<|
 J.a args fun bw args=>
 J.i .i64 bw fun b1 r=>
 J.i .i64 r fun b2 r=>
 J.i .i64 r fun b3 r=>
 J.i .i64 r fun b4 r=>
 D.nil r<|
 D.nil args<|
 M.ig (c 161 [.int .i64 a2,.int .i64 b3]) fun ds=>
 J.i .i64 ds fun x ds=>
 D.nil ds<|
 M.ig (c 161 [.int .i64 a,.int .i64 b1]) fun ds=>
 J.i .i64 ds fun x1 ds=>
 D.nil ds<|
 M.call (c 161 [.int .i64 a1,.int .i64 b2]) fun ds=>
 J.i .i64 ds fun x2 ds=>
 D.nil ds<|
 M.new [.int .i64 x,.int .i64 x1,.int .i64 x2] fun i=>
 M.call (c 162 [.slice 1 (some (i,0)) 3]) fun ds=>
 J.i .i64 ds fun x3 ds=>
 D.nil ds<|
 M.ret [.int .i64 x3]
def BI:Zg->Nat->List DV->M (List DV):=fun c n args=>
 J.i .i64 args fun x args=>
 J.i .i64 args fun y args=>
 D.nil args<|
 M.call (c 163 [.int .i64 x]) fun ds=>
 J.b ds fun x1 ds=>
 D.nil ds<|
 M.call (c 163 [.int .i64 y]) fun ds=>
 J.b ds fun x2 ds=>
 D.nil ds<|
 bif x1 then
  bif x2 then
   M.ret [.int .i64 0]
  else
   M.ret [.int .i64 (-1)]
 else
  bif x2 then
   M.ret [.int .i64 1]
  else
   bif decide (x<y)then
    M.ret [.int .i64 (-1)]
   else
    bif decide (x>y)then
     M.ret [.int .i64 1]
    else
     M.ret [.int .i64 0]
def BK:Zg->Nat->List DV->M (List DV):=fun c n args=>
 J.l 1 args fun XW UO args=>
 D.nil args<|
 M.join (fun st=>
  D.nil st<|
  M.ret [.int .i64 0]) fun aq=>
 M.loop (fun aN st=>
  J.i .i64 st fun x st=>
  D.nil st<|
  bif decide (x<(UO:Int))then
   M.nn XW fun i o=>
   M.ak (au x UO)<|
   M.ar i (x.toNat*1+o) fun d=>
   D.int .i64 d fun x1=>
   bif !(x1==0)then
    M.ret [.int .i64 x1]
   else
    aN [.int .i64 (af (x+1))]
  else
   aq []) n [.int .i64 0]
def BJ:Zg->Nat->List DV->M (List DV):=fun c n args=>
 J.i .i64 args fun x args=>
 D.nil args<|
 M.ret [.bool (!(x==x))]
end
structure GI (Bd:Za):Prop where
 eq:Bd 145=zu
structure Zdo (Bd:Za):Prop where
 eq:Bd 156=EM
structure KQ (Bd:Za):Prop where
 eq:Bd 147=Z2
 q7:Zdo Bd
structure Mb (Bd:Za):Prop where
 eq:Bd 162=BK
structure Lo (Bd:Za):Prop where
 eq:Bd 163=BJ
structure Fb (Bd:Za):Prop where
 eq:Bd 161=BI
 q37:Lo Bd
structure xq (Bd:Za):Prop where
 eq:Bd 159=BH
 q83:Mb Bd
 RM:Fb Bd
structure LW (Bd:Za):Prop where
 eq:Bd 138=FV
structure F5 (Bd:Za):Prop where
 eq:Bd 141=FX
structure LL (Bd:Za):Prop where
 eq:Bd 155=F9
structure LB (Bd:Za):Prop where
 eq:Bd 144=Ga
 q72:LX Bd
 q40:Lf Bd
 q74:LL Bd
structure Ln (Bd:Za):Prop where
 eq:Bd 142=FR
structure Mx (Bd:Za):Prop where
 eq:Bd 143=Hu
structure Mw (Bd:Za):Prop where
 eq:Bd 133=GS
 RT:F5 Bd
 q79:LB Bd
 q43:Ln Bd
 UE:Mx Bd
structure Le (Bd:Za):Prop where
 eq:Bd 153=xu
structure Mf (Bd:Za):Prop where
 eq:Bd 136=GK
 q92:Me Bd
 q42:Le Bd
end Go.Gv
