/- slices.SortFunc at entries (slot, gen, key, value), by key, slot and gen: a body of our own. -/
import Derived.Test.YtegglibipjjblaaGreatDoorGvDef
import Derived.Test.YtegglibipjjblaaGreatDoorGvZRun
namespace Go.Gv
abbrev E4:=Int×Int×Int×Int
def lt4 (x y:E4):Bool:=decide (x.2.2.1<y.2.2.1)||(x.2.2.1==y.2.2.1&&(decide (x.1<y.1)||(x.1==y.1&&decide (x.2.1<y.2.1))))
def ins4 (x:E4):List E4→List E4
 |[]=>[x]
 |y::r=>bif lt4 x y then x::y::r else y::ins4 x r
def sort4:List E4→List E4
 |[]=>[]
 |x::r=>ins4 x (sort4 r)
def Zh7:List E4→Bool
 |[]=>true
 |x::r=>r.all (fun y=>lt4 x y||lt4 y x)&&Zh7 r
def cell4 (x:E4):List DV:=[.int .i64 x.1,.int .i64 x.2.1,.int .i64 x.2.2.1,.int .i64 x.2.2.2]
def Zbk:List E4→List DV
 |[]=>[]
 |x::r=>cell4 x++Zbk r
def dec4:List DV→Option (List E4)
 |[]=>some []
 | .int .i64 a:: .int .i64 b:: .int .i64 c:: .int .i64 d::r=>(match dec4 r with|some l=>some ((a,b,c,d)::l)|none=>none)
 |_=>none
def Zih:Zg→Nat→List DV→M (List DV):=fun _ _ args=>
 match args with
 |[.slice 4 a n,.func 159 [] []]=>(match a with
  |none=>bif Nat.beq n 0 then M.ret []else fail
  |some (i,o)=>fun s=>match s.open? i with
   |some cs=>bif Nat.ble (o+n*4) cs.length then(match dec4 ((cs.drop o).take (n*4))with
    |some l=>bif Zh7 l&&Nat.ble n 1000000 then M.ret [] (s.set i (some ⟨false,spl cs o (Zbk (sort4 l))⟩))else none
    |none=>none)else none
   |none=>none)
 |_=>fail
theorem ZhT (x y:E4):lt4 x y=true↔x.2.2.1<y.2.2.1∨(x.2.2.1=y.2.2.1∧(x.1<y.1∨(x.1=y.1∧x.2.1<y.2.1))):=by
 simp[lt4]
theorem ZqU {x y:E4} (h:lt4 x y=true):lt4 y x=false:=by
 rw[ZhT]at h;cases e:lt4 y x with
 |false=>rfl
 |true=>rw[ZhT]at e;omega
theorem Zrb {x y z:E4} (h:lt4 x y=true) (k:lt4 y z=true):lt4 x z=true:=by
 rw[ZhT]at*;omega
theorem Zwj {x y z:E4} (h:lt4 x y=false) (k:lt4 y z=false):lt4 x z=false:=by
 cases e:lt4 x z with
 |false=>rfl
 |true=>
  have h1: ¬lt4 x y=true:=by rw[h];simp
  have h2: ¬lt4 y z=true:=by rw[k];simp
  rw[ZhT]at*
  omega
theorem ZlK (x:E4): ∀l,(ins4 x l).Perm (x::l)
 |[]=> .refl _
 |y::r=>by
  unfold ins4;cases lt4 x y with
  |true=>exact .refl _
  |false=>exact((ZlK x r).cons y).trans (.swap x y r)
theorem Zhz: ∀l,(sort4 l).Perm l
 |[]=> .refl _
 |x::r=>(ZlK x _).trans ((Zhz r).cons x)
def Ap (x y:E4):Prop:=lt4 x y=true∨lt4 y x=true
theorem Zrp: ∀ {l:List E4},Zh7 l=true→l.Pairwise Ap
 |[],_=> .nil
 |x::r,h=>by
  simp only[Zh7,Bool.and_eq_true,List.all_eq_true,Bool.or_eq_true]at h;exact .cons (fun y hy=>h.1 y hy) (Zrp h.2)
theorem ZmW (x:E4): ∀ {l:List E4},l.Pairwise (fun a b=>lt4 a b=true)→(∀y∈l,Ap x y)→(ins4 x l).Pairwise (fun a b=>lt4 a b=true)
 |[],_,_=>by simp[ins4]
 |y::r,h,ha=>by
  cases h with
  |cons h1 h2=>
   unfold ins4;cases e:lt4 x y with
   |true=>
    refine .cons (fun z hz=>?_) (.cons h1 h2);rcases List.mem_cons.1 hz with rfl|hz
    ·exact e
    ·exact Zrb e (h1 z hz)
   |false=>
    refine .cons (fun z hz=>?_) (ZmW x h2 fun z hz=>ha z (List.mem_cons_of_mem _ hz));rcases List.mem_cons.1 ((ZlK x r).mem_iff.1 hz)with rfl|hz
    ·rcases ha y List.mem_cons_self with h|h
     ·rw[e]at h;cases h
     ·exact h
    ·exact h1 z hz
theorem ZlB: ∀ {l:List E4},l.Pairwise Ap→(sort4 l).Pairwise (fun a b=>lt4 a b=true)
 |[],_=> .nil
 |x::r,.cons h1 h2=>ZmW x (ZlB h2) fun y hy=>h1 y ((Zhz r).mem_iff.1 hy)
theorem Ap.symm {x y:E4} (h:Ap x y):Ap y x:=h.elim .inr .inl
theorem Zv5 {l l':List E4} (hp:l'.Perm l) (ha:l.Pairwise Ap) (hs:l'.Pairwise (fun a b=>lt4 b a=false)):l'=sort4 l:=by
 have ha':l'.Pairwise Ap:=(hp.pairwise_iff fun h=>h.symm).2 ha;have hs':l'.Pairwise (fun a b=>lt4 a b=true):=by
  refine List.Pairwise.imp₂ ?_ ha' hs;intro a b h1 h2;rcases h1 with h|h
  ·exact h
  ·rw[h2]at h;cases h
 refine List.Perm.eq_of_pairwise (le:=fun a b=>lt4 a b=true) (fun a b _ _ h1 h2=>?_) hs' (ZlB ha) (hp.trans (Zhz l).symm);rw[ZqU h1]at h2;cases h2
theorem Zlu (l:List E4):(sort4 l).length=l.length:=(Zhz l).length_eq
theorem Zea: ∀l:List E4,(Zbk l).length=l.length*4
 |[]=>rfl
 |x::r=>by rw[Zbk,List.length_append,Zea r,List.length_cons];show 4+_=_;omega
theorem Zq6: ∀ {ds:List DV} {l:List E4},dec4 ds=some l→ds=Zbk l
 |[],l,h=>by cases h;rfl
 | .int .i64 a:: .int .i64 b:: .int .i64 c:: .int .i64 d::r,l,h=>by
  unfold dec4 at h;cases hr:dec4 r with
  |none=>rw[hr]at h;cases h
  |some l'=>
   rw[hr]at h;cases h;rw[Zq6 hr];rfl
end Go.Gv
namespace Go.Gv
noncomputable section
def mulO (c:Int):Op→Op
 | .binOp .mul t x (.const (.int k _)) t'=> .binOp .mul t x (.const (.int k c)) t'
 |o=>o
def ZyV (c:Int) (o:Oper):Oper:= { o with op:=mulO c o.op }
def ZjU (c:Int):Code→Code
 | .region i ops d=> .region i ⟨ops.toList.map (ZyV c)⟩ d
 | .seq a b=> .seq (ZjU c a) (ZjU c b)
 | .cond o a b=> .cond o (ZjU c a) (ZjU c b)
 |x=>x
def mulF (c:Int) (f:Func):Func:= { f with body:=f.body.map (ZjU c) }
def b_tzC (k:Int):Zg→Nat→List DV→M (List DV):=fun _ _ args=>
 J.i .u64 args fun x args=>
 D.nil args<|
 bif x==0 then
  M.ret [.int .i64 64]
 else
  M.chk (inB ((IntKind.wrap .u64 ((bits .and .u64 x (IntKind.wrap .u64 (0-x)))*k)).fdiv (2^58)) 64)<|
  M.load1 2 ((((IntKind.wrap .u64 ((bits .and .u64 x (IntKind.wrap .u64 (0-x)))*k)).fdiv (2^58)).toNat)*1+0) fun d=>
  D.int .u8 d fun x1=>
  M.ret [.int .i64 (wr64 (x1))]
def Zbc:Zg→Nat→List DV→M (List DV):=b_tzC 285870213051353865
theorem ZzW {C:Cfg} {A:FA} {f:Func} (h: ∀c,bodyM C A (mulF c f)=b_tzC c) (e:mulF 285870213051353865 f=f):bodyM C A f=Zbc:=by
 have:=h 285870213051353865;rw[e]at this;exact this
end
end Go.Gv
namespace Go.Gv
set_option linter.unusedVariables false
set_option maxRecDepth 10000
set_option maxHeartbeats 4000000
noncomputable section
def Zeu:Zg→Nat→List DV→M (List DV):=fun c n args=>
 J.s args fun s args=>
 D.nil args<|
 M.base fun b0=>
 M.join (fun st=>
  J.l 1 st fun out outn st=>
  D.nil st<|
  M.retF b0 [.slice 1 out outn]) fun jk1=>
 M.loop (fun rec1 st=>
  J.s st fun s1 st=>
  J.l 1 st fun out1 out1n st=>
  D.nil st<|
  bif decide ((s1.length:Int)>0)then
   M.call (c 15 [.str s1]) fun ds=>
   J.i .i64 ds fun x ds=>
   J.i .i64 ds fun x1 ds=>
   D.nil ds<|
   M.new [.int .i64 x] fun i=>
   M.load i 0 1 fun cs=>
   M.app 1 out1 out1n cs 1 8796093022208 fun p=>
   M.chk (decide (0≤x1)&&decide (x1≤(s1.length:Int)))<|
   rec1 [.str (s1.drop x1.toNat),.slice 1 p (out1n+1)]
  else
   jk1 [.slice 1 out1 out1n]) n [.str s,.slice 0 none 0]
def Zev:Zg→Nat→List DV→M (List DV):=fun c n args=>
 J.s args fun s args=>
 D.nil args<|
 M.chk (inB 0 s.length)<|
 bif decide (ZC s 0<128)then
  M.ret [.int .i64 (wr64 (ZC s 0)),.int .i64 1]
 else
  M.join (fun st=>J.b st fun b1 st=>D.nil st<|
   M.join (fun st=>J.b st fun b2 st=>D.nil st<|
    bif b2 then
     M.chk (inB 1 s.length)<|
     M.ret [.int .i64 (wr64 ((wr64 ((wr64 (IntKind.wrap .u8 ((ZC s 0)-192)))*64))+(wr64 (IntKind.wrap .u8 ((ZC s 1)-128))))),.int .i64 2]
    else
     M.join (fun st=>J.b st fun b3 st=>D.nil st<|
      M.join (fun st=>
       D.nil st<|
      M.ret [.int .i64 65533,.int .i64 1]) fun jk4=>
      bif b3 then
       M.join (fun st=>
       J.i .u8 st fun lo st=>
      D.nil st<|
      M.join (fun st=>
       J.i .u8 st fun hi st=>
      D.nil st<|
      M.call (c 19 [.str s,.int .i64 1,.int .u8 lo,.int .u8 hi]) fun ds=>
      J.b ds fun x ds=>
      D.nil ds<|
      M.join (fun st=>J.b st fun b4 st=>D.nil st<|
       bif b4 then
       M.chk (inB 1 s.length)<|
      M.chk (inB 2 s.length)<|
      M.ret [.int .i64 (wr64 ((wr64 ((wr64 ((wr64 (IntKind.wrap .u8 ((ZC s 0)-224)))*4096))+(wr64 ((wr64 (IntKind.wrap .u8 ((ZC s 1)-128)))*64))))+(wr64 (IntKind.wrap .u8 ((ZC s 2)-128))))),.int .i64 3]
      else
       jk4 []) fun jk7=>
      bif x then
       M.call (c 19 [.str s,.int .i64 2,.int .u8 128,.int .u8 191]) fun ds=>
      J.b ds fun x1 ds=>
      D.nil ds<|
      jk7 [.bool x1]
      else
       jk7 [.bool false]) fun jk6=>
      bif (ZC s 0)==237 then
       jk6 [.int .u8 159]
      else
       jk6 [.int .u8 191]) fun jk5=>
      bif (ZC s 0)==224 then
       jk5 [.int .u8 160]
      else
       jk5 [.int .u8 128]
      else
       M.join (fun st=>J.b st fun b5 st=>D.nil st<|
       M.join (fun st=>
       D.nil st<|
      jk4 []) fun jk9=>
      bif b5 then
       M.join (fun st=>
       J.i .u8 st fun lo1 st=>
      D.nil st<|
      M.join (fun st=>
       J.i .u8 st fun hi1 st=>
      D.nil st<|
      M.call (c 19 [.str s,.int .i64 1,.int .u8 lo1,.int .u8 hi1]) fun ds=>
      J.b ds fun x2 ds=>
      D.nil ds<|
      M.join (fun st=>J.b st fun b6 st=>D.nil st<|
       M.join (fun st=>J.b st fun b7 st=>D.nil st<|
       bif b7 then
       M.chk (inB 1 s.length)<|
      M.chk (inB 2 s.length)<|
      M.chk (inB 3 s.length)<|
      M.ret [.int .i64 (wr64 ((wr64 ((wr64 ((wr64 ((wr64 (IntKind.wrap .u8 ((ZC s 0)-240)))*262144))+(wr64 ((wr64 (IntKind.wrap .u8 ((ZC s 1)-128)))*4096))))+(wr64 ((wr64 (IntKind.wrap .u8 ((ZC s 2)-128)))*64))))+(wr64 (IntKind.wrap .u8 ((ZC s 3)-128))))),.int .i64 4]
      else
       jk9 []) fun jk13=>
      bif b6 then
       M.call (c 19 [.str s,.int .i64 3,.int .u8 128,.int .u8 191]) fun ds=>
      J.b ds fun x3 ds=>
      D.nil ds<|
      jk13 [.bool x3]
      else
       jk13 [.bool false]) fun jk12=>
      bif x2 then
       M.call (c 19 [.str s,.int .i64 2,.int .u8 128,.int .u8 191]) fun ds=>
      J.b ds fun x4 ds=>
      D.nil ds<|
      jk12 [.bool x4]
      else
       jk12 [.bool false]) fun jk11=>
      bif (ZC s 0)==244 then
       jk11 [.int .u8 143]
      else
       jk11 [.int .u8 191]) fun jk10=>
      bif (ZC s 0)==240 then
       jk10 [.int .u8 144]
      else
       jk10 [.int .u8 128]
      else
       jk9 []) fun jk8=>
      bif decide (ZC s 0≥240)then
       jk8 [.bool (decide (ZC s 0≤244))]
      else
       jk8 [.bool false]) fun jk3=>
     bif decide (ZC s 0≥224)then
      jk3 [.bool (decide (ZC s 0≤239))]
     else
      jk3 [.bool false]) fun jk2=>
   bif b1 then
    M.call (c 19 [.str s,.int .i64 1,.int .u8 128,.int .u8 191]) fun ds=>
    J.b ds fun x5 ds=>
    D.nil ds<|
    jk2 [.bool x5]
   else
    jk2 [.bool false]) fun jk1=>
  bif decide (ZC s 0≥194)then
   jk1 [.bool (decide (ZC s 0≤223))]
  else
   jk1 [.bool false]
def Zdv:Zg→Nat→List DV→M (List DV):=fun c n args=>
 J.s args fun s args=>
 J.i .i64 args fun at1 args=>
 J.i .u8 args fun lo args=>
 J.i .u8 args fun hi args=>
 D.nil args<|
 M.join (fun st=>J.b st fun b1 st=>D.nil st<|
  M.join (fun st=>J.b st fun b2 st=>D.nil st<|
   M.ret [.bool b2]) fun jk2=>
  bif b1 then
   M.chk (inB at1 s.length)<|
   jk2 [.bool (decide (ZC s at1≤hi))]
  else
   jk2 [.bool false]) fun jk1=>
 bif decide (at1<(s.length:Int))then
  M.chk (inB at1 s.length)<|
  jk1 [.bool (decide (ZC s at1≥lo))]
 else
  jk1 [.bool false]
end
structure Zfx (Bd:Za):Prop where
 eq:Bd 19=Zdv
structure Zhl (Bd:Za):Prop where
 eq:Bd 15=Zev
 q42:Zfx Bd
structure Zeo (Bd:Za):Prop where
 eq:Bd 12=Zeu
 q74:Zhl Bd
end Go.Gv
namespace Go.Gv
set_option linter.unusedVariables false
set_option maxRecDepth 10000
set_option maxHeartbeats 4000000
noncomputable section
def ZfE:Zg→Nat→List DV→M (List DV):=fun c n args=>
 J.s args fun s args=>
 D.nil args<|
 M.join (fun st=>
  J.i .i64 st fun n1 st=>
  D.nil st<|
  M.ret [.bool (decide (n1>0))]) fun jk1=>
 M.loop (fun rec1 st=>
  J.i .i64 st fun n2 st=>
  J.n st fun p st=>
  D.nil st<|
  bif Nat.blt p s.length then
  M.join (fun st=>J.b st fun b1 st=>D.nil st<|
   bif b1 then
    M.ret [.bool false]
   else
    rec1 [.int .i64 (wr64 (n2+1)),.nat (p+runeW s p)]) fun jk2=>
  bif decide (wr64 (n2+1)>8)then
   jk2 [.bool true]
  else
   M.call (c 28 [.int .i32 (Ziv s p)]) fun ds=>
   J.b ds fun x ds=>
   D.nil ds<|
   jk2 [.bool (!x)]
  else
  jk1 [.int .i64 n2]) n [.int .i64 0,.nat 0]
def ZeB:Zg→Nat→List DV→M (List DV):=fun c n args=>
 J.s args fun s args=>
 D.nil args<|
 M.call (c 12 [.str s]) fun ds=>
 J.l 1 ds fun x xn ds=>
 D.nil ds<|
 M.join (fun st=>J.b st fun b1 st=>D.nil st<|
  M.join (fun st=>
   J.b st fun ok st=>
   D.nil st<|
   M.ret [.bool ok]) fun jk2=>
  M.loop (fun rec1 st=>
   J.b st fun ok1 st=>
   J.i .i64 st fun i st=>
   D.nil st<|
   bif decide (i<(xn:Int))then
    M.join (fun st=>J.b st fun b2 st=>D.nil st<|
     rec1 [.bool b2,.int .i64 (wr64 (i+1))]) fun jk3=>
    bif ok1 then
     M.nn x fun i1 o=>
     M.chk (inB i xn)<|
     M.load1 i1 (i.toNat*1+o) fun d=>
     D.int .i64 d fun x1=>
     M.call (c 29 [.int .i64 x1]) fun ds=>
     J.b ds fun x2 ds=>
     D.nil ds<|
     jk3 [.bool x2]
    else
     jk3 [.bool false]
   else
    jk2 [.bool ok1]) n [.bool b1,.int .i64 0]) fun jk1=>
 bif decide ((xn:Int)>0)then
  jk1 [.bool (decide ((xn:Int)≤8))]
 else
  jk1 [.bool false]
def Zi7:Zg→Nat→List DV→M (List DV):=fun c n args=>
 J.i .i32 args fun r1 args=>
 D.nil args<|
 M.call (c 54 []) fun ds=>
 J.a ds fun cs ds=>
 D.len cs 12<|
 D.nil ds<|
 M.join (fun st=>
  D.nil st<|
  M.ret [.bool false]) fun jk1=>
 M.loop (fun rec1 st=>
  J.i .i64 st fun x st=>
  D.nil st<|
  bif decide (x<6)then
   M.chk (inB x 6)<|
   D.len ((cs.drop (x.toNat*2)).take 2) 2<|
   D.nth ((cs.drop (x.toNat*2)).take 2) 0 fun d=>
   D.int .i32 d fun x1=>
   M.join (fun st=>J.b st fun b1 st=>D.nil st<|
    bif b1 then
     M.ret [.bool true]
    else
     rec1 [.int .i64 (wr64 (x+1))]) fun jk2=>
   bif decide (r1≥x1)then
    D.nth ((cs.drop (x.toNat*2)).take 2) 1 fun d1=>
    D.int .i32 d1 fun x2=>
    jk2 [.bool (decide (r1≤x2))]
   else
    jk2 [.bool false]
  else
   jk1 []) n [.int .i64 0]
def Zhx:Zg→Nat→List DV→M (List DV):=fun c n args=>
 J.i .i64 args fun r1 args=>
 D.nil args<|
 M.join (fun st=>J.b st fun b1 st=>D.nil st<|
  M.join (fun st=>J.b st fun b2 st=>D.nil st<|
   M.join (fun st=>J.b st fun b3 st=>D.nil st<|
    M.join (fun st=>J.b st fun b4 st=>D.nil st<|
     M.join (fun st=>J.b st fun b5 st=>D.nil st<|
      M.join (fun st=>J.b st fun b6 st=>D.nil st<|
       M.ret [.bool b6]) fun jk6=>
      bif b5 then
       jk6 [.bool true]
      else
       M.join (fun st=>J.b st fun b7 st=>D.nil st<|
       jk6 [.bool b7]) fun jk7=>
      bif decide (r1≥161)then
       jk7 [.bool (decide (r1≤65519))]
      else
       jk7 [.bool false]) fun jk5=>
     bif b4 then
      jk5 [.bool true]
     else
      jk5 [.bool (r1==95)]) fun jk4=>
    bif b3 then
     jk4 [.bool true]
    else
     jk4 [.bool (r1==45)]) fun jk3=>
   bif b2 then
    jk3 [.bool true]
   else
    M.join (fun st=>J.b st fun b8 st=>D.nil st<|
     jk3 [.bool b8]) fun jk8=>
    bif decide (r1≥48)then
     jk8 [.bool (decide (r1≤57))]
    else
     jk8 [.bool false]) fun jk2=>
  bif b1 then
   jk2 [.bool true]
  else
   M.join (fun st=>J.b st fun b9 st=>D.nil st<|
    jk2 [.bool b9]) fun jk9=>
   bif decide (r1≥65)then
    jk9 [.bool (decide (r1≤90))]
   else
    jk9 [.bool false]) fun jk1=>
 bif decide (r1≥97)then
  jk1 [.bool (decide (r1≤122))]
 else
  jk1 [.bool false]
def ZfH:Zg→Nat→List DV→M (List DV):=fun c n args=>
 J.s args fun s args=>
 D.nil args<|
 M.base fun b0=>
 M.join (fun st=>
  J.l 1 st fun out outn st=>
  D.nil st<|
  M.retF b0 [.slice 1 out outn]) fun jk1=>
 M.loop (fun rec1 st=>
  J.l 1 st fun out1 out1n st=>
  J.n st fun p st=>
  D.nil st<|
  bif Nat.blt p s.length then
  M.new [.int .i32 (Ziv s p)] fun i=>
  M.load i 0 1 fun cs=>
  M.app 1 out1 out1n cs 1 17592186044416 fun p1=>
  rec1 [.slice 1 p1 (out1n+1),.nat (p+runeW s p)]
  else
  jk1 [.slice 1 out1 out1n]) n [.slice 0 none 0,.nat 0]
def Zd8:Zg→Nat→List DV→M (List DV):=fun c n args=>
 J.s args fun a args=>
 J.s args fun b1 args=>
 D.nil args<|
 M.call (c 34 [.str a]) fun ds=>
 J.l 1 ds fun x xn ds=>
 D.nil ds<|
 M.call (c 34 [.str b1]) fun ds=>
 J.l 1 ds fun x1 x1n ds=>
 D.nil ds<|
 M.call (c 57 [.slice 1 x xn,.slice 1 x1 x1n]) fun ds=>
 J.i .i64 ds fun x2 ds=>
 D.nil ds<|
 M.ret [.int .i64 x2]
def Zdm:Zg→Nat→List DV→M (List DV):=fun c n args=>
 J.s args fun a args=>
 J.s args fun b1 args=>
 D.nil args<|
 M.call (c 12 [.str a]) fun ds=>
 J.l 1 ds fun x xn ds=>
 D.nil ds<|
 M.call (c 12 [.str b1]) fun ds=>
 J.l 1 ds fun x1 x1n ds=>
 D.nil ds<|
 M.join (fun st=>
  D.nil st<|
  bif decide ((xn:Int)<(x1n:Int))then
   M.ret [.int .i64 (-1)]
  else
   bif decide ((xn:Int)>(x1n:Int))then
    M.ret [.int .i64 1]
   else
    M.ret [.int .i64 0]) fun jk1=>
 M.loop (fun rec1 st=>
  J.i .i64 st fun i st=>
  D.nil st<|
  M.join (fun st=>J.b st fun b2 st=>D.nil st<|
   bif b2 then
    M.nn x fun i1 o=>
    M.chk (inB i xn)<|
    M.load1 i1 (i.toNat*1+o) fun d=>
    D.int .i64 d fun x2=>
    M.nn x1 fun i2 o1=>
    M.chk (inB i x1n)<|
    M.load1 i2 (i.toNat*1+o1) fun d1=>
    D.int .i64 d1 fun x3=>
    bif decide (x2<x3)then
     M.ret [.int .i64 (-1)]
    else
     M.nn x fun i3 o2=>
     M.chk (inB i xn)<|
     M.load1 i3 (i.toNat*1+o2) fun d2=>
     D.int .i64 d2 fun x4=>
     M.nn x1 fun i4 o3=>
     M.chk (inB i x1n)<|
     M.load1 i4 (i.toNat*1+o3) fun d3=>
     D.int .i64 d3 fun x5=>
     bif decide (x4>x5)then
      M.ret [.int .i64 1]
     else
      rec1 [.int .i64 (wr64 (i+1))]
   else
    jk1 []) fun jk2=>
  bif decide (i<(xn:Int))then
   jk2 [.bool (decide (i<(x1n:Int)))]
  else
   jk2 [.bool false]) n [.int .i64 0]
def Zit:Zg→Nat→List DV→M (List DV):=fun c n args=>
 D.nil args<|
 M.ret [.agg [.int .i32 97,.int .i32 122,.int .i32 65,.int .i32 90,.int .i32 48,.int .i32 57,.int .i32 45,.int .i32 45,.int .i32 95,.int .i32 95,.int .i32 161,.int .i32 65519]]
def Zbe:Zg→Nat→List DV→M (List DV):=fun c n args=>
 J.l 1 args fun s1 s1n args=>
 J.l 1 args fun s2 s2n args=>
 D.nil args<|
 M.join (fun st=>
  D.nil st<|
  bif decide ((s1n:Int)<(s2n:Int))then
   M.ret [.int .i64 (-1)]
  else
   M.ret [.int .i64 0]) fun jk1=>
 M.loop (fun rec1 st=>
  J.i .i64 st fun x st=>
  D.nil st<|
  bif decide (x<(s1n:Int))then
   M.nn s1 fun i o=>
   M.chk (inB x s1n)<|
   M.load1 i (x.toNat*1+o) fun d=>
   D.int .i32 d fun x1=>
   bif decide (x≥(s2n:Int))then
    M.ret [.int .i64 1]
   else
    M.nn s2 fun i1 o1=>
    M.chk (inB x s2n)<|
    M.load1 i1 (x.toNat*1+o1) fun d1=>
    D.int .i32 d1 fun x2=>
    M.call (c 64 [.int .i32 x1,.int .i32 x2]) fun ds=>
    J.i .i64 ds fun x3 ds=>
    D.nil ds<|
    bif !(x3==0)then
     M.ret [.int .i64 x3]
    else
     rec1 [.int .i64 (wr64 (x+1))]
  else
   jk1 []) n [.int .i64 0]
def Zcu:Zg→Nat→List DV→M (List DV):=fun c n args=>
 J.i .i32 args fun x args=>
 J.i .i32 args fun y args=>
 D.nil args<|
 M.call (c 72 [.int .i32 x]) fun ds=>
 J.b ds fun x1 ds=>
 D.nil ds<|
 M.call (c 72 [.int .i32 y]) fun ds=>
 J.b ds fun x2 ds=>
 D.nil ds<|
 bif x1 then
  bif x2 then
   M.ret [.int .i64 0]
  else
   M.ret [.int .i64 (-1)]
 else
  bif x2 then
   M.ret [.int .i64 1]
  else
   bif decide (x<y)then
    M.ret [.int .i64 (-1)]
   else
    bif decide (x>y)then
     M.ret [.int .i64 1]
    else
     M.ret [.int .i64 0]
def Zc3:Zg→Nat→List DV→M (List DV):=fun c n args=>
 J.i .i32 args fun x args=>
 D.nil args<|
 M.ret [.bool (!(x==x))]
end
structure Zh5 (Bd:Za):Prop where
 eq:Bd 54=Zit
structure Zlz (Bd:Za):Prop where
 eq:Bd 28=Zi7
 q92:Zh5 Bd
structure Zh6 (Bd:Za):Prop where
 eq:Bd 26=ZfE
 q136:Zlz Bd
structure ZcE (Bd:Za):Prop where
 eq:Bd 86=Zbc
structure ZkB (Bd:Za):Prop where
 eq:Bd 29=Zhx
structure Zhj (Bd:Za):Prop where
 eq:Bd 27=ZeB
 q132:ZkB Bd
 q76:Zeo Bd
structure Zij (Bd:Za):Prop where
 eq:Bd 34=ZfH
structure ZeT (Bd:Za):Prop where
 eq:Bd 72=Zc3
structure Zdz (Bd:Za):Prop where
 eq:Bd 64=Zcu
 q31:ZeT Bd
structure ZbS (Bd:Za):Prop where
 eq:Bd 57=Zbe
 q16:Zdz Bd
structure Zgh (Bd:Za):Prop where
 eq:Bd 39=Zd8
 q91:Zij Bd
 q4:ZbS Bd
structure Zfr (Bd:Za):Prop where
 eq:Bd 40=Zdm
 q76:Zeo Bd
end Go.Gv
namespace Go.Gv
set_option linter.unusedVariables false
set_option maxRecDepth 10000
set_option maxHeartbeats 4000000
noncomputable section
end
end Go.Gv
namespace Go.Gv
set_option linter.unusedVariables false
set_option maxRecDepth 10000
set_option maxHeartbeats 4000000
noncomputable section
end
end Go.Gv
namespace Go.Gv
set_option linter.unusedVariables false
set_option maxRecDepth 10000
set_option maxHeartbeats 4000000
noncomputable section
end
end Go.Gv
namespace Go.Gv
set_option linter.unusedVariables false
set_option maxRecDepth 10000
set_option maxHeartbeats 4000000
noncomputable section
end
end Go.Gv
namespace Go.Gv
set_option linter.unusedVariables false
set_option maxRecDepth 10000
set_option maxHeartbeats 4000000
noncomputable section
end
end Go.Gv
namespace Go.Gv
set_option linter.unusedVariables false
set_option maxRecDepth 10000
set_option maxHeartbeats 4000000
noncomputable section
end
end Go.Gv
namespace Go.Gv
set_option linter.unusedVariables false
set_option maxRecDepth 10000
set_option maxHeartbeats 4000000
noncomputable section
end
end Go.Gv
namespace Go.Gv
set_option linter.unusedVariables false
set_option maxRecDepth 10000
set_option maxHeartbeats 4000000
noncomputable section
def Zgs:Zg→Nat→List DV→M (List DV):=fun c n args=>
 J.a args fun cs args=>
 J.i .i64 cs fun x r=>
 J.i .i64 r fun x1 r=>
 J.i .i64 r fun x2 r=>
 J.l 2 r fun x3 x3n r=>
 J.l 1 r fun x4 x4n r=>
 J.l 1 r fun x5 x5n r=>
 D.nil r<|
 D.nil args<|
 M.call (c 141 [.agg [.int .i64 x,.int .i64 x1,.int .i64 x2]]) fun ds=>
 J.b ds fun x6 ds=>
 D.nil ds<|
 M.join (fun st=>J.b st fun b1 st=>D.nil st<|
  M.join (fun st=>J.b st fun b2 st=>D.nil st<|
   bif b2 then
    M.ret [.bool false]
   else
    M.call (c 142 [.agg [.int .i64 x,.int .i64 x1,.int .i64 x2,.slice 2 x3 x3n,.slice 1 x4 x4n,.slice 1 x5 x5n]]) fun ds=>
    J.l 4 ds fun x7 x7n ds=>
    D.nil ds<|
    M.join (fun st=>J.b st fun b3 st=>D.nil st<|
     bif b3 then
      M.ret [.bool false]
     else
      M.chk (decide (0≤(x4n:Int))&&decide ((x4n:Int)≤(x4n:Int))&&decide ((x4n:Int)≤70368744177664))<|
      M.new (rep ((x4n:Int).toNat) [.bool false]) fun i=>
      M.join (fun st=>
       D.nil st<|
      M.join (fun st=>
       D.nil st<|
      M.join (fun st=>
       D.nil st<|
      M.ret [.bool true]) fun jk6=>
      M.loop (fun rec1 st=>
       J.i .i64 st fun i1 st=>
      D.nil st<|
      bif decide (i1<(x4n:Int))then
       M.nn x4 fun i2 o=>
      M.chk (inB i1 x4n)<|
      M.load1 i2 (i1.toNat*1+o) fun d=>
      D.int .i64 d fun x8=>
      M.join (fun st=>J.b st fun b4 st=>D.nil st<|
       M.join (fun st=>J.b st fun b5 st=>D.nil st<|
       bif b5 then
       M.ret [.bool false]
      else
       rec1 [.int .i64 (wr64 (i1+1))]) fun jk8=>
      bif b4 then
       jk8 [.bool true]
      else
       M.chk (inB i1 ((x4n:Int).toNat))<|
      M.load1 i (i1.toNat*1) fun d1=>
      D.bool d1 fun x9=>
      M.join (fun st=>J.b st fun b6 st=>D.nil st<|
       M.join (fun st=>J.b st fun b7 st=>D.nil st<|
       jk8 [.bool b7]) fun jk10=>
      bif b6 then
       M.call (c 143 [.slice 1 x5 x5n,.int .i64 i1]) fun ds=>
      J.b ds fun x10 ds=>
      D.nil ds<|
      jk10 [.bool (!x10)]
      else
       jk10 [.bool false]) fun jk9=>
      bif !x9 then
       M.nn x4 fun i3 o1=>
      M.chk (inB i1 x4n)<|
      M.load1 i3 (i1.toNat*1+o1) fun d2=>
      D.int .i64 d2 fun x11=>
      jk9 [.bool (decide (x11<x2))]
      else
       jk9 [.bool false]) fun jk7=>
      bif decide (x8<1)then
       jk7 [.bool true]
      else
       M.nn x4 fun i4 o2=>
      M.chk (inB i1 x4n)<|
      M.load1 i4 (i1.toNat*1+o2) fun d3=>
      D.int .i64 d3 fun x12=>
      jk7 [.bool (decide (x12>x2))]
      else
       jk6 []) n [.int .i64 0]) fun jk5=>
      M.loop (fun rec2 st=>
       J.i .i64 st fun i5 st=>
      D.nil st<|
      bif decide (i5<(x5n:Int))then
       M.nn x5 fun i6 o3=>
      M.chk (inB i5 x5n)<|
      M.load1 i6 (i5.toNat*1+o3) fun d4=>
      D.int .i64 d4 fun x13=>
      M.join (fun st=>J.b st fun b8 st=>D.nil st<|
       M.join (fun st=>J.b st fun b9 st=>D.nil st<|
       M.join (fun st=>J.b st fun b10 st=>D.nil st<|
       M.join (fun st=>J.b st fun b11 st=>D.nil st<|
       bif b11 then
       M.ret [.bool false]
      else
       rec2 [.int .i64 (wr64 (i5+1))]) fun jk14=>
      bif b10 then
       jk14 [.bool true]
      else
       M.chk (decide (0≤i5)&&decide (i5≤(x5n:Int)))<|
      M.call (c 143 [.slice 1 x5 i5.toNat,.int .i64 x13]) fun ds=>
      J.b ds fun x14 ds=>
      D.nil ds<|
      jk14 [.bool x14]) fun jk13=>
      bif b9 then
       jk13 [.bool true]
      else
       M.nn x4 fun i7 o4=>
      M.chk (inB x13 x4n)<|
      M.load1 i7 (x13.toNat*1+o4) fun d5=>
      D.int .i64 d5 fun x15=>
      jk13 [.bool (decide (x15≥x2))]) fun jk12=>
      bif b8 then
       jk12 [.bool true]
      else
       M.chk (inB x13 ((x4n:Int).toNat))<|
      M.load1 i (x13.toNat*1) fun d6=>
      D.bool d6 fun x16=>
      jk12 [.bool x16]) fun jk11=>
      bif decide (x13<0)then
       jk11 [.bool true]
      else
       jk11 [.bool (decide (x13≥(x4n:Int)))]
      else
       jk5 []) n [.int .i64 0]) fun jk4=>
      M.loop (fun rec3 st=>
       J.i .i64 st fun i8 st=>
      D.nil st<|
      bif decide (i8<(x7n:Int))then
       M.nn x7 fun i9 o5=>
      M.chk (inB i8 x7n)<|
      M.load i9 (i8.toNat*4+o5) 2 fun cs1=>
      J.i .i64 cs1 fun x17 r=>
      J.i .i64 r fun x18 r=>
      D.nil r<|
      M.join (fun st=>J.b st fun b12 st=>D.nil st<|
       M.join (fun st=>J.b st fun b13 st=>D.nil st<|
       M.join (fun st=>J.b st fun b14 st=>D.nil st<|
       bif b14 then
       M.ret [.bool false]
      else
       M.chk (inB x17 ((x4n:Int).toNat))<|
      M.store i (x17.toNat*1) [.bool true]<|
      rec3 [.int .i64 (wr64 (i8+1))]) fun jk17=>
      bif b13 then
       jk17 [.bool true]
      else
       M.nn x4 fun i10 o6=>
      M.chk (inB x17 x4n)<|
      M.load1 i10 (x17.toNat*1+o6) fun d7=>
      D.int .i64 d7 fun x19=>
      jk17 [.bool (!(x18==x19))]) fun jk16=>
      bif b12 then
       jk16 [.bool true]
      else
       M.chk (inB x17 ((x4n:Int).toNat))<|
      M.load1 i (x17.toNat*1) fun d8=>
      D.bool d8 fun x20=>
      jk16 [.bool x20]) fun jk15=>
      bif decide (x17<0)then
       jk15 [.bool true]
      else
       jk15 [.bool (decide (x17≥(x4n:Int)))]
      else
       jk4 []) n [.int .i64 0]) fun jk3=>
    bif decide ((x7n:Int)>(x4n:Int))then
     jk3 [.bool true]
    else
     jk3 [.bool (decide ((x5n:Int)>(x4n:Int)))]) fun jk2=>
  bif b1 then
   jk2 [.bool true]
  else
   M.call (c 144 [.slice 2 x3 x3n]) fun ds=>
   J.b ds fun x21 ds=>
   D.nil ds<|
   jk2 [.bool (!x21)]) fun jk1=>
 bif !x6 then
  jk1 [.bool true]
 else
  jk1 [.bool (decide ((x4n:Int)>x1))]
def ZeA:Zg→Nat→List DV→M (List DV):=fun c n args=>
 J.a args fun cs args=>
 J.i .i64 cs fun x r=>
 J.i .i64 r fun x1 r=>
 J.i .i64 r fun x2 r=>
 J.l 2 r fun x3 x3n r=>
 J.l 1 r fun x4 x4n r=>
 J.l 1 r fun x5 x5n r=>
 D.nil r<|
 D.nil args<|
 M.join (fun st=>J.b st fun b1 st=>D.nil st<|
  M.join (fun st=>J.b st fun b2 st=>D.nil st<|
   M.join (fun st=>J.b st fun b3 st=>D.nil st<|
    bif b3 then
     M.ret [.bool false]
    else
     M.join (fun st=>
      D.nil st<|
      M.ret [.bool true]) fun jk4=>
     M.loop (fun rec1 st=>
      J.i .i64 st fun i st=>
      D.nil st<|
      bif decide (i<(x3n:Int))then
       M.nn x3 fun i1 o=>
      M.chk (inB i x3n)<|
      M.load1 i1 (i.toNat*2+o+1) fun d=>
      D.slice 4 d fun x6 x6n=>
      M.join (fun st=>J.b st fun b4 st=>D.nil st<|
       bif b4 then
       M.ret [.bool false]
      else
       rec1 [.int .i64 (wr64 (i+1))]) fun jk5=>
      bif decide ((x6n:Int)>40)then
       jk5 [.bool true]
      else
       M.nn x3 fun i2 o1=>
      M.chk (inB i x3n)<|
      M.load1 i2 (i.toNat*2+o1) fun d1=>
      D.str d1 fun x7=>
      jk5 [.bool (decide ((x7.length:Int)>60))]
      else
       jk4 []) n [.int .i64 0]) fun jk3=>
   bif b2 then
    jk3 [.bool true]
   else
    jk3 [.bool (decide (x>400))]) fun jk2=>
  bif b1 then
   jk2 [.bool true]
  else
   jk2 [.bool (decide ((x5n:Int)>60))]) fun jk1=>
 bif decide ((x3n:Int)>8)then
  jk1 [.bool true]
 else
  jk1 [.bool (decide ((x4n:Int)>60))]
def ZeI:Zg→Nat→List DV→M (List DV):=fun c n args=>
 J.a args fun cs args=>
 J.i .i64 cs fun g r=>
 J.i .i64 r fun g1 r=>
 J.i .i64 r fun g2 r=>
 D.nil r<|
 D.nil args<|
 M.join (fun st=>J.b st fun b1 st=>D.nil st<|
  M.join (fun st=>J.b st fun b2 st=>D.nil st<|
   M.join (fun st=>J.b st fun b3 st=>D.nil st<|
    M.join (fun st=>J.b st fun b4 st=>D.nil st<|
     M.join (fun st=>J.b st fun b5 st=>D.nil st<|
      M.ret [.bool b5]) fun jk5=>
     bif b4 then
      jk5 [.bool (decide (g2≤4294967295))]
     else
      jk5 [.bool false]) fun jk4=>
    bif b3 then
     jk4 [.bool (decide (g2≥1))]
    else
     jk4 [.bool false]) fun jk3=>
   bif b2 then
    jk3 [.bool (decide (g1≤1792))]
   else
    jk3 [.bool false]) fun jk2=>
  bif b1 then
   jk2 [.bool (decide (g1≥1))]
  else
   jk2 [.bool false]) fun jk1=>
 bif decide (g≥16)then
  jk1 [.bool (decide (g≤3072))]
 else
  jk1 [.bool false]
def Zdr:Zg→Nat→List DV→M (List DV):=fun c n args=>
 J.a args fun cs args=>
 J.i .i64 cs fun x r=>
 J.i .i64 r fun x1 r=>
 J.i .i64 r fun x2 r=>
 J.l 2 r fun x3 x3n r=>
 J.l 1 r fun x4 x4n r=>
 J.l 1 r fun x5 x5n r=>
 D.nil r<|
 D.nil args<|
 M.base fun b0=>
 M.join (fun st=>
  J.l 4 st fun out outn st=>
  D.nil st<|
  M.retF b0 [.slice 4 out outn]) fun jk1=>
 M.loop (fun rec1 st=>
  J.l 4 st fun out1 out1n st=>
  J.i .i64 st fun i st=>
  D.nil st<|
  bif decide (i<(x3n:Int))then
   M.nn x3 fun i1 o=>
   M.chk (inB i x3n)<|
   M.load1 i1 (i.toNat*2+o+1) fun d=>
   D.slice 4 d fun x6 x6n=>
   M.rd x6 (x6n*4) fun cs1=>
   M.app 4 out1 out1n cs1 x6n 2199023255552 fun p=>
   rec1 [.slice 4 p (out1n+x6n),.int .i64 (wr64 (i+1))]
  else
   jk1 [.slice 4 out1 out1n]) n [.slice 0 none 0,.int .i64 0]
def Zgr:Zg→Nat→List DV→M (List DV):=fun c n args=>
 J.l 1 args fun l ln args=>
 J.i .i64 args fun n1 args=>
 D.nil args<|
 M.join (fun st=>
  D.nil st<|
  M.ret [.bool false]) fun jk1=>
 M.loop (fun rec1 st=>
  J.i .i64 st fun i st=>
  D.nil st<|
  bif decide (i<(ln:Int))then
   M.nn l fun i1 o=>
   M.chk (inB i ln)<|
   M.load1 i1 (i.toNat*1+o) fun d=>
   D.int .i64 d fun x=>
   bif x==n1 then
    M.ret [.bool true]
   else
    rec1 [.int .i64 (wr64 (i+1))]
  else
   jk1 []) n [.int .i64 0]
def ZeM:Zg→Nat→List DV→M (List DV):=fun c n args=>
 J.l 2 args fun l ln args=>
 D.nil args<|
 bif decide ((ln:Int)>16)then
  M.ret [.bool false]
 else
  M.join (fun st=>
   D.nil st<|
   M.ret [.bool true]) fun jk1=>
  M.loop (fun rec1 st=>
   J.i .i64 st fun i st=>
   D.nil st<|
   bif decide (i<(ln:Int))then
    M.join (fun st=>
     D.nil st<|
     rec1 [.int .i64 (wr64 (i+1))]) fun jk2=>
    M.nn l fun i1 o=>
    M.chk (inB i ln)<|
    M.load1 i1 (i.toNat*2+o) fun d=>
    D.str d fun x=>
    M.call (c 27 [.str x]) fun ds=>
    J.b ds fun x1 ds=>
    D.nil ds<|
    M.join (fun st=>J.b st fun b1 st=>D.nil st<|
     bif b1 then
      M.ret [.bool false]
     else
      M.join (fun st=>
       D.nil st<|
      jk2 []) fun jk4=>
      M.loop (fun rec2 st=>
       J.i .i64 st fun k st=>
      D.nil st<|
      M.nn l fun i2 o1=>
      M.chk (inB i ln)<|
      M.load1 i2 (i.toNat*2+o1+1) fun d1=>
      D.slice 4 d1 fun x2 x2n=>
      bif decide (k<(x2n:Int))then
       M.nn l fun i3 o2=>
      M.chk (inB i ln)<|
      M.load1 i3 (i.toNat*2+o2+1) fun d2=>
      D.slice 4 d2 fun x3 x3n=>
      M.nn x3 fun i4 o3=>
      M.chk (inB (wr64 (k-1)) x3n)<|
      M.load i4 (((wr64 (k-1)).toNat)*4+o3) 4 fun cs=>
      J.i .i64 cs fun x4 r=>
      J.i .i64 r fun x5 r=>
      J.i .i64 r fun x6 r=>
      J.i .i64 r fun x7 r=>
      D.nil r<|
      M.nn l fun i5 o4=>
      M.chk (inB i ln)<|
      M.load1 i5 (i.toNat*2+o4+1) fun d3=>
      D.slice 4 d3 fun x8 x8n=>
      M.nn x8 fun i6 o5=>
      M.chk (inB k x8n)<|
      M.load i6 (k.toNat*4+o5) 4 fun cs1=>
      J.i .i64 cs1 fun x9 r=>
      J.i .i64 r fun x10 r=>
      J.i .i64 r fun x11 r=>
      J.i .i64 r fun x12 r=>
      D.nil r<|
      M.call (c 155 [.agg [.int .i64 x4,.int .i64 x5,.int .i64 x6,.int .i64 x7],.agg [.int .i64 x9,.int .i64 x10,.int .i64 x11,.int .i64 x12]]) fun ds=>
      J.b ds fun x13 ds=>
      D.nil ds<|
      bif !x13 then
       M.ret [.bool false]
      else
       rec2 [.int .i64 (wr64 (k+1))]
      else
       jk4 []) n [.int .i64 1]) fun jk3=>
    bif !x1 then
     jk3 [.bool true]
    else
     M.join (fun st=>J.b st fun b2 st=>D.nil st<|
      jk3 [.bool b2]) fun jk5=>
     bif decide (i>0)then
      M.nn l fun i7 o6=>
      M.chk (inB (wr64 (i-1)) ln)<|
      M.load1 i7 (((wr64 (i-1)).toNat)*2+o6) fun d4=>
      D.str d4 fun x14=>
      M.nn l fun i8 o7=>
      M.chk (inB i ln)<|
      M.load1 i8 (i.toNat*2+o7) fun d5=>
      D.str d5 fun x15=>
      M.call (c 40 [.str x14,.str x15]) fun ds=>
      J.i .i64 ds fun x16 ds=>
      D.nil ds<|
      jk5 [.bool (decide (x16≥0))]
     else
      jk5 [.bool false]
   else
    jk1 []) n [.int .i64 0]
def ZcM:Zg→Nat→List DV→M (List DV):=fun c n args=>
 J.a args fun cs args=>
 J.i .i64 cs fun g r=>
 J.i .i64 r fun g1 r=>
 J.i .i64 r fun g2 r=>
 D.nil r<|
 D.nil args<|
 M.join (fun st=>J.b st fun b1 st=>D.nil st<|
  M.join (fun st=>J.b st fun b2 st=>D.nil st<|
   M.join (fun st=>J.b st fun b3 st=>D.nil st<|
    M.join (fun st=>J.b st fun b4 st=>D.nil st<|
     M.join (fun st=>J.b st fun b5 st=>D.nil st<|
      M.ret [.bool b5]) fun jk5=>
     bif b4 then
      jk5 [.bool (decide (g2≤4294967295))]
     else
      jk5 [.bool false]) fun jk4=>
    bif b3 then
     jk4 [.bool (decide (g2≥1))]
    else
     jk4 [.bool false]) fun jk3=>
   bif b2 then
    jk3 [.bool (decide (g1≤1792))]
   else
    jk3 [.bool false]) fun jk2=>
  bif b1 then
   jk2 [.bool (decide (g1≥1))]
  else
   jk2 [.bool false]) fun jk1=>
 bif decide (g≥16)then
  jk1 [.bool (decide (g≤3072))]
 else
  jk1 [.bool false]
def Z0:Zg→Nat→List DV→M (List DV):=fun c n args=>
 J.l 1 args fun s sn args=>
 J.f args fun f ff fc args=>
 D.nil args<|
 M.call (c 156 [.slice 1 s sn,.func f ff fc]) fun ds=>
 J.i .i64 ds fun x ds=>
 D.nil ds<|
 M.ret [.bool (decide (x≥0))]
def ZeC:Zg→Nat→List DV→M (List DV):=fun c n args=>
 J.a args fun cs args=>
 J.i .i64 cs fun a r=>
 J.i .i64 r fun a1 r=>
 J.i .i64 r fun a2 r=>
 J.i .i64 r fun a3 r=>
 D.nil r<|
 J.a args fun cs1 args=>
 J.i .i64 cs1 fun b1 r=>
 J.i .i64 r fun b2 r=>
 J.i .i64 r fun b3 r=>
 J.i .i64 r fun b4 r=>
 D.nil r<|
 D.nil args<|
 bif !(a2==b3)then
  M.ret [.bool (decide (a2<b3))]
 else
  bif !(a==b1)then
   M.ret [.bool (decide (a<b1))]
  else
   M.ret [.bool (decide (a1<b2))]
def Zbd:Zg→Nat→List DV→M (List DV):=fun c n args=>
 J.l 1 args fun s sn args=>
 J.f args fun f ff fc args=>
 D.nil args<|
 M.join (fun st=>
  D.nil st<|
  M.ret [.int .i64 (-1)]) fun jk1=>
 M.loop (fun rec1 st=>
  J.i .i64 st fun x st=>
  D.nil st<|
  bif decide (x<(sn:Int))then
   M.nn s fun i o=>
   M.chk (inB x sn)<|
   M.load1 i (x.toNat*1+o) fun d=>
   D.int .i64 d fun x1=>
   M.call (c f (ff++[.int .i64 x1]++fc)) fun ds=>
   J.b ds fun x2 ds=>
   D.nil ds<|
   bif x2 then
    M.ret [.int .i64 x]
   else
    rec1 [.int .i64 (wr64 (x+1))]
  else
   jk1 []) n [.int .i64 0]
def ZcQ:Zg→Nat→List DV→M (List DV):=fun c n args=>
 J.a args fun cs args=>
 J.i .i64 cs fun a r=>
 J.i .i64 r fun a1 r=>
 J.i .i64 r fun a2 r=>
 J.i .i64 r fun a3 r=>
 D.nil r<|
 J.a args fun cs1 args=>
 J.i .i64 cs1 fun b1 r=>
 J.i .i64 r fun b2 r=>
 J.i .i64 r fun b3 r=>
 J.i .i64 r fun b4 r=>
 D.nil r<|
 D.nil args<|
 M.callN (c 161 [.int .i64 a2,.int .i64 b3]) fun ds=>
 J.i .i64 ds fun x ds=>
 D.nil ds<|
 M.callN (c 161 [.int .i64 a,.int .i64 b1]) fun ds=>
 J.i .i64 ds fun x1 ds=>
 D.nil ds<|
 M.call (c 161 [.int .i64 a1,.int .i64 b2]) fun ds=>
 J.i .i64 ds fun x2 ds=>
 D.nil ds<|
 M.new [.int .i64 x,.int .i64 x1,.int .i64 x2] fun i=>
 M.call (c 162 [.slice 1 (some (i,0)) 3]) fun ds=>
 J.i .i64 ds fun x3 ds=>
 D.nil ds<|
 M.ret [.int .i64 x3]
def ZbY:Zg→Nat→List DV→M (List DV):=fun c n args=>
 J.i .i64 args fun x args=>
 J.i .i64 args fun y args=>
 D.nil args<|
 M.call (c 163 [.int .i64 x]) fun ds=>
 J.b ds fun x1 ds=>
 D.nil ds<|
 M.call (c 163 [.int .i64 y]) fun ds=>
 J.b ds fun x2 ds=>
 D.nil ds<|
 bif x1 then
  bif x2 then
   M.ret [.int .i64 0]
  else
   M.ret [.int .i64 (-1)]
 else
  bif x2 then
   M.ret [.int .i64 1]
  else
   bif decide (x<y)then
    M.ret [.int .i64 (-1)]
   else
    bif decide (x>y)then
     M.ret [.int .i64 1]
    else
     M.ret [.int .i64 0]
def ZdH:Zg→Nat→List DV→M (List DV):=fun c n args=>
 J.l 1 args fun vals valsn args=>
 D.nil args<|
 M.join (fun st=>
  D.nil st<|
  M.ret [.int .i64 0]) fun jk1=>
 M.loop (fun rec1 st=>
  J.i .i64 st fun x st=>
  D.nil st<|
  bif decide (x<(valsn:Int))then
   M.nn vals fun i o=>
   M.chk (inB x valsn)<|
   M.load1 i (x.toNat*1+o) fun d=>
   D.int .i64 d fun x1=>
   bif !(x1==0)then
    M.ret [.int .i64 x1]
   else
    rec1 [.int .i64 (wr64 (x+1))]
  else
   jk1 []) n [.int .i64 0]
def Zcx:Zg→Nat→List DV→M (List DV):=fun c n args=>
 J.i .i64 args fun x args=>
 D.nil args<|
 M.ret [.bool (!(x==x))]
end
structure ZfO (Bd:Za):Prop where
 eq:Bd 145=ZcM
structure Zde (Bd:Za):Prop where
 eq:Bd 156=Zbd
structure Zbu (Bd:Za):Prop where
 eq:Bd 147=Z0
 q5:Zde Bd
structure Zin (Bd:Za):Prop where
 eq:Bd 162=ZdH
structure Zfi (Bd:Za):Prop where
 eq:Bd 163=Zcx
structure ZcI (Bd:Za):Prop where
 eq:Bd 161=ZbY
 q38:Zfi Bd
structure Zbx (Bd:Za):Prop where
 eq:Bd 159=ZcQ
 q86:Zin Bd
 q25:ZcI Bd
structure Zha (Bd:Za):Prop where
 eq:Bd 138=ZeA
structure Zep (Bd:Za):Prop where
 eq:Bd 141=ZeI
structure Zg9 (Bd:Za):Prop where
 eq:Bd 155=ZeC
structure Zhp (Bd:Za):Prop where
 eq:Bd 144=ZeM
 q75:Zhj Bd
 q41:Zfr Bd
 q77:Zg9 Bd
structure ZfA (Bd:Za):Prop where
 eq:Bd 142=Zdr
structure ZjF (Bd:Za):Prop where
 eq:Bd 143=Zgr
structure Zjc (Bd:Za):Prop where
 eq:Bd 133=Zgs
 q79:Zep Bd
 q82:Zhp Bd
 q43:ZfA Bd
 q120:ZjF Bd
end Go.Gv
