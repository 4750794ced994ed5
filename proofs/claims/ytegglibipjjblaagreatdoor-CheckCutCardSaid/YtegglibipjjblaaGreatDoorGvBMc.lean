/- Functions of the program, as the machine runs them: written by gvseat.py. -/
import Derived.Test.YtegglibipjjblaaGreatDoorGvDef
import Derived.Test.YtegglibipjjblaaGreatDoorGvZBod
import Derived.Test.YtegglibipjjblaaGreatDoorGvBMk
namespace Go.Gv
set_option linter.unusedVariables false
set_option maxRecDepth 10000
set_option maxHeartbeats 4000000
noncomputable section
def ZcY:Zg→Nat→List DV→M (List DV):=fun c n args=>
 J.a args fun cs args=>
 J.i .i64 cs fun x r=>
 J.i .i64 r fun x1 r=>
 J.i .i64 r fun x2 r=>
 J.l 2 r fun x3 x3n r=>
 J.l 1 r fun x4 x4n r=>
 J.l 1 r fun x5 x5n r=>
 D.nil r<|
 J.i .i64 args fun cut args=>
 D.nil args<|
 M.call (c 322 []) fun ds=>
 J.b ds fun x6 ds=>
 D.nil ds<|
 M.join (fun st=>J.b st fun b1 st=>D.nil st<|
  bif b1 then
   M.call (c 322 []) fun ds=>
   J.b ds fun x7 ds=>
   D.nil ds<|
   M.ret [.bool x7]
  else
   M.call (c 170 [.agg [.int .i64 x,.int .i64 x1,.int .i64 x2,.slice 2 x3 x3n,.slice 1 x4 x4n,.slice 1 x5 x5n],.int .i64 1,.int .i64 0]) fun ds=>
   J.l 1 ds fun x8 x8n ds=>
   J.a ds fun cs1 ds=>
   J.i .i64 cs1 fun x9 r=>
   J.i .i64 r fun x10 r=>
   J.i .i64 r fun x11 r=>
   J.i .i64 r fun x12 r=>
   J.i .i64 r fun x13 r=>
   J.i .i64 r fun x14 r=>
   J.i .i64 r fun x15 r=>
   J.i .i64 r fun x16 r=>
   J.l 1 r fun x17 x17n r=>
   D.nil r<|
   J.b ds fun x18 ds=>
   D.nil ds<|
   bif !x18 then
    M.ret [.bool true]
   else
    M.call (c 179 [.int .i64 cut,.int .i64 (x8n:Int)]) fun ds=>
    J.i .i64 ds fun x19 ds=>
    D.nil ds<|
    M.chk (decide (0≤x19)&&decide (x19≤(x8n:Int)))<|
    M.call (c 323 [.slice 1 x8 x19.toNat]) fun ds=>
    J.a ds fun cs2 ds=>
    J.i .i64 cs2 fun x20 r=>
    J.i .i64 r fun x21 r=>
    J.i .i64 r fun x22 r=>
    J.i .i64 r fun x23 r=>
    J.i .i64 r fun x24 r=>
    D.nil r<|
    J.i .i64 ds fun x25 ds=>
    D.nil ds<|
    M.join (fun st=>J.b st fun b2 st=>D.nil st<|
     M.ret [.bool b2]) fun jk2=>
    bif x25==31 then
     jk2 [.bool true]
    else
     jk2 [.bool (x25==30)]) fun jk1=>
 bif !x6 then
  jk1 [.bool true]
 else
  M.call (c 138 [.agg [.int .i64 x,.int .i64 x1,.int .i64 x2,.slice 2 x3 x3n,.slice 1 x4 x4n,.slice 1 x5 x5n]]) fun ds=>
  J.b ds fun x26 ds=>
  D.nil ds<|
  jk1 [.bool (!x26)]
def Zes:Zg→Nat→List DV→M (List DV):=fun c n args=>
 D.nil args<|
 M.call (c 170 [.agg [.int .i64 16,.int .i64 2,.int .i64 1,.slice 0 none 0,.slice 0 none 0,.slice 0 none 0],.int .i64 1,.int .i64 0]) fun ds=>
 J.l 1 ds fun x xn ds=>
 J.a ds fun cs ds=>
 J.i .i64 cs fun x1 r=>
 J.i .i64 r fun x2 r=>
 J.i .i64 r fun x3 r=>
 J.i .i64 r fun x4 r=>
 J.i .i64 r fun x5 r=>
 J.i .i64 r fun x6 r=>
 J.i .i64 r fun x7 r=>
 J.i .i64 r fun x8 r=>
 J.l 1 r fun x9 x9n r=>
 D.nil r<|
 J.b ds fun x10 ds=>
 D.nil ds<|
 M.call (c 323 [.slice 1 x xn]) fun ds=>
 J.a ds fun cs1 ds=>
 J.i .i64 cs1 fun x11 r=>
 J.i .i64 r fun x12 r=>
 J.i .i64 r fun x13 r=>
 J.i .i64 r fun x14 r=>
 J.i .i64 r fun x15 r=>
 D.nil r<|
 J.i .i64 ds fun x16 ds=>
 D.nil ds<|
 M.call (c 323 [.slice 0 none 0]) fun ds=>
 J.a ds fun cs2 ds=>
 J.i .i64 cs2 fun x17 r=>
 J.i .i64 r fun x18 r=>
 J.i .i64 r fun x19 r=>
 J.i .i64 r fun x20 r=>
 J.i .i64 r fun x21 r=>
 D.nil r<|
 J.i .i64 ds fun x22 ds=>
 D.nil ds<|
 M.join (fun st=>J.b st fun b1 st=>D.nil st<|
  M.join (fun st=>J.b st fun b2 st=>D.nil st<|
   M.join (fun st=>J.b st fun b3 st=>D.nil st<|
    M.ret [.bool b3]) fun jk3=>
   bif b2 then
    jk3 [.bool (x22==30)]
   else
    jk3 [.bool false]) fun jk2=>
  bif b1 then
   jk2 [.bool ((x11==0)&&((x12==0)&&((x13==0)&&((x14==0)&&((x15==3)&&true)))))]
  else
   jk2 [.bool false]) fun jk1=>
 bif x10 then
  jk1 [.bool (x16==0)]
 else
  jk1 [.bool false]
def Zc8:Zg→Nat→List DV→M (List DV):=fun c n args=>
 J.l 1 args fun image imagen args=>
 D.nil args<|
 M.call (c 324 [.slice 1 image imagen]) fun ds=>
 J.a ds fun cs ds=>
 J.i .i64 cs fun x r=>
 J.i .i64 r fun x1 r=>
 J.i .i64 r fun x2 r=>
 J.l 2 r fun x3 x3n r=>
 J.l 1 r fun x4 x4n r=>
 J.l 1 r fun x5 x5n r=>
 D.nil r<|
 J.p ds fun x6 ds=>
 J.i .i64 ds fun x7 ds=>
 D.nil ds<|
 bif !(x7==0)then
  M.ret [.agg [.int .i64 0,.int .i64 0,.int .i64 0,.int .i64 0,.int .i64 0],.int .i64 x7]
 else
  M.callX (c 183 [.ptr x6]) fun ds=>
  J.i .i64 ds fun x8 ds=>
  D.nil ds<|
  M.join (fun st=>
   J.a st fun cs1 st=>
   J.i .i64 cs1 fun f r=>
   J.i .i64 r fun f1 r=>
   J.i .i64 r fun f2 r=>
   J.i .i64 r fun f3 r=>
   J.i .i64 r fun f4 r=>
   D.nil r<|
   D.nil st<|
   M.ret [.agg [.int .i64 f,.int .i64 f1,.int .i64 f2,.int .i64 (wr64 ((wr64 ((x4n:Int)-f))-f2)),.int .i64 f4],.int .i64 0]) fun jk1=>
  M.loop (fun rec1 st=>
   J.a st fun cs2 st=>
   J.i .i64 cs2 fun f5 r=>
   J.i .i64 r fun f6 r=>
   J.i .i64 r fun f7 r=>
   J.i .i64 r fun f8 r=>
   J.i .i64 r fun f9 r=>
   D.nil r<|
   J.i .i64 st fun x9 st=>
   D.nil st<|
   bif decide (x9<(x3n:Int))then
    M.nn x3 fun i o=>
    M.chk (inB x9 x3n)<|
    M.load i (x9.toNat*2+o) 2 fun cs3=>
    J.s cs3 fun x10 r=>
    J.l 4 r fun x11 x11n r=>
    D.nil r<|
    rec1 [.agg [.int .i64 (wr64 (f5+(x11n:Int))),.int .i64 f6,.int .i64 f7,.int .i64 f8,.int .i64 f9],.int .i64 (wr64 (x9+1))]
   else
    jk1 [.agg [.int .i64 f5,.int .i64 f6,.int .i64 f7,.int .i64 f8,.int .i64 f9]]) n [.agg [.int .i64 0,.int .i64 (x3n:Int),.int .i64 (x5n:Int),.int .i64 0,.int .i64 x8],.int .i64 0]
def Zey:Zg→Nat→List DV→M (List DV):=fun c n args=>
 J.l 1 args fun image imagen args=>
 D.nil args<|
 M.call (c 325 [.slice 1 image imagen]) fun ds=>
 J.p ds fun x ds=>
 D.nil ds<|
 M.call (c 326 [.ptr x]) fun ds=>
 J.a ds fun cs ds=>
 J.i .i64 cs fun x1 r=>
 J.i .i64 r fun x2 r=>
 J.i .i64 r fun x3 r=>
 J.i .i64 r fun x4 r=>
 J.i .i64 r fun x5 r=>
 J.i .i64 r fun x6 r=>
 J.i .i64 r fun x7 r=>
 J.i .i64 r fun x8 r=>
 J.l 1 r fun x9 x9n r=>
 D.nil r<|
 J.i .i64 ds fun x10 ds=>
 J.b ds fun x11 ds=>
 D.nil ds<|
 bif !x11 then
  M.ret [.agg [.int .i64 0,.int .i64 0,.int .i64 0,.slice 0 none 0,.slice 0 none 0,.slice 0 none 0],.ptr none,.int .i64 30]
 else
  M.call (c 171 [.slice 1 image imagen,.agg [.int .i64 x1,.int .i64 x2,.int .i64 x3,.int .i64 x4,.int .i64 x5,.int .i64 x6,.int .i64 x7,.int .i64 x8,.slice 1 x9 x9n]]) fun ds=>
  J.a ds fun cs1 ds=>
  J.i .i64 cs1 fun x12 r=>
  J.i .i64 r fun x13 r=>
  J.i .i64 r fun x14 r=>
  J.l 2 r fun x15 x15n r=>
  J.l 1 r fun x16 x16n r=>
  J.l 1 r fun x17 x17n r=>
  D.nil r<|
  J.p ds fun x18 ds=>
  J.i .i64 ds fun x19 ds=>
  D.nil ds<|
  bif !(x19==0)then
   M.ret [.agg [.int .i64 0,.int .i64 0,.int .i64 0,.slice 0 none 0,.slice 0 none 0,.slice 0 none 0],.ptr none,.int .i64 31]
  else
   M.call (c 173 [.slice 1 image imagen,.agg [.int .i64 x1,.int .i64 x2,.int .i64 x3,.int .i64 x4,.int .i64 x5,.int .i64 x6,.int .i64 x7,.int .i64 x8,.slice 1 x9 x9n],.ptr x18]) fun ds=>
   J.b ds fun x20 ds=>
   D.nil ds<|
   bif !x20 then
    M.ret [.agg [.int .i64 0,.int .i64 0,.int .i64 0,.slice 0 none 0,.slice 0 none 0,.slice 0 none 0],.ptr none,.int .i64 32]
   else
    M.call (c 206 [.ptr x18,.slice 1 x9 x9n]) fun ds=>
    D.nil ds<|
    M.ret [.agg [.int .i64 x12,.int .i64 x13,.int .i64 x14,.slice 2 x15 x15n,.slice 1 x16 x16n,.slice 1 x17 x17n],.ptr x18,.int .i64 0]
def ZgJ:Zg→Nat→List DV→M (List DV):=fun c n args=>
 J.l 1 args fun image imagen args=>
 D.nil args<|
 M.new [.slice 0 none 0,.slice 0 none 0,.int .i64 0,.bool false,.bool false,.int .i64 0,.int .i64 0] fun i=>
 M.chk (decide (0≤wr64 ((if 4096<(wr64 ((imagen:Int).tdiv 64))then 4096 else(wr64 ((imagen:Int).tdiv 64)))*64))&&decide (wr64 ((if 4096<(wr64 ((imagen:Int).tdiv 64))then 4096 else(wr64 ((imagen:Int).tdiv 64)))*64)≤(imagen:Int)))<|
 M.call (c 328 [.slice 1 image ((wr64 ((if 4096<(wr64 ((imagen:Int).tdiv 64))then 4096 else(wr64 ((imagen:Int).tdiv 64)))*64)).toNat)]) fun ds=>
 J.l 1 ds fun x xn ds=>
 D.nil ds<|
 M.join (fun st=>
  D.nil st<|
  M.ret [.ptr (some (i,0))]) fun jk1=>
 M.loop (fun rec1 st=>
  J.i .i64 st fun x1 st=>
  D.nil st<|
  bif decide (x1<(xn:Int))then
   M.nn x fun i1 o=>
   M.chk (inB x1 xn)<|
   M.load1 i1 (x1.toNat*1+o) fun d=>
   D.int .u64 d fun x2=>
   M.load1 i 0 fun d1=>
   D.slice 4 d1 fun x3 x3n=>
   M.new [.int .u64 x2,.int .u64 x2,.int .u64 0,.bool false] fun i2=>
   M.load i2 0 4 fun cs=>
   M.app 4 x3 x3n cs 1 2199023255552 fun p=>
   M.store i 0 [.slice 4 p (x3n+1)]<|
   rec1 [.int .i64 (wr64 (x1+1))]
  else
   jk1 []) n [.int .i64 0]
def ZgP:Zg→Nat→List DV→M (List DV):=fun c n args=>
 J.p args fun d args=>
 D.nil args<|
 M.join (fun st=>
  J.a st fun cs st=>
  J.i .i64 cs fun best r=>
  J.i .i64 r fun best1 r=>
  J.i .i64 r fun best2 r=>
  J.i .i64 r fun best3 r=>
  J.i .i64 r fun best4 r=>
  J.i .i64 r fun best5 r=>
  J.i .i64 r fun best6 r=>
  J.i .i64 r fun best7 r=>
  J.l 1 r fun best8 best8n r=>
  D.nil r<|
  J.i .i64 st fun at1 st=>
  J.b st fun found st=>
  D.nil st<|
  M.ret [.agg [.int .i64 best,.int .i64 best1,.int .i64 best2,.int .i64 best3,.int .i64 best4,.int .i64 best5,.int .i64 best6,.int .i64 best7,.slice 1 best8 best8n],.int .i64 at1,.bool found]) fun jk1=>
 M.loop (fun rec1 st=>
  J.a st fun cs1 st=>
  J.i .i64 cs1 fun best9 r=>
  J.i .i64 r fun best10 r=>
  J.i .i64 r fun best11 r=>
  J.i .i64 r fun best12 r=>
  J.i .i64 r fun best13 r=>
  J.i .i64 r fun best14 r=>
  J.i .i64 r fun best15 r=>
  J.i .i64 r fun best16 r=>
  J.l 1 r fun best17 best17n r=>
  D.nil r<|
  J.i .i64 st fun at2 st=>
  J.b st fun found1 st=>
  J.i .i64 st fun x st=>
  D.nil st<|
  bif decide (x<2)then
   M.call (c 327 [.ptr d,.int .i64 x]) fun ds=>
   J.a ds fun cs2 ds=>
   J.i .i64 cs2 fun x1 r=>
   J.i .i64 r fun x2 r=>
   J.i .i64 r fun x3 r=>
   J.i .i64 r fun x4 r=>
   J.i .i64 r fun x5 r=>
   J.i .i64 r fun x6 r=>
   J.i .i64 r fun x7 r=>
   J.i .i64 r fun x8 r=>
   J.l 1 r fun x9 x9n r=>
   D.nil r<|
   J.b ds fun x10 ds=>
   D.nil ds<|
   M.join (fun st=>J.b st fun b1 st=>D.nil st<|
    M.join (fun st=>
     J.a st fun cs3 st=>
     J.i .i64 cs3 fun best18 r=>
     J.i .i64 r fun best19 r=>
     J.i .i64 r fun best20 r=>
     J.i .i64 r fun best21 r=>
     J.i .i64 r fun best22 r=>
     J.i .i64 r fun best23 r=>
     J.i .i64 r fun best24 r=>
     J.i .i64 r fun best25 r=>
     J.l 1 r fun best26 best26n r=>
     D.nil r<|
     J.i .i64 st fun at3 st=>
     J.b st fun found2 st=>
     D.nil st<|
     rec1 [.agg [.int .i64 best18,.int .i64 best19,.int .i64 best20,.int .i64 best21,.int .i64 best22,.int .i64 best23,.int .i64 best24,.int .i64 best25,.slice 1 best26 best26n],.int .i64 at3,.bool found2,.int .i64 (wr64 (x+1))]) fun jk3=>
    bif b1 then
     jk3 [.agg [.int .i64 x1,.int .i64 x2,.int .i64 x3,.int .i64 x4,.int .i64 x5,.int .i64 x6,.int .i64 x7,.int .i64 x8,.slice 1 x9 x9n],.int .i64 x,.bool true]
    else
     jk3 [.agg [.int .i64 best9,.int .i64 best10,.int .i64 best11,.int .i64 best12,.int .i64 best13,.int .i64 best14,.int .i64 best15,.int .i64 best16,.slice 1 best17 best17n],.int .i64 at2,.bool found1]) fun jk2=>
   bif x10 then
    M.join (fun st=>J.b st fun b2 st=>D.nil st<|
     jk2 [.bool b2]) fun jk4=>
    bif !found1 then
     jk4 [.bool true]
    else
     jk4 [.bool (decide (x1>best9))]
   else
    jk2 [.bool false]
  else
   jk1 [.agg [.int .i64 best9,.int .i64 best10,.int .i64 best11,.int .i64 best12,.int .i64 best13,.int .i64 best14,.int .i64 best15,.int .i64 best16,.slice 1 best17 best17n],.int .i64 at2,.bool found1]) n [.agg [.int .i64 0,.int .i64 0,.int .i64 0,.int .i64 0,.int .i64 0,.int .i64 0,.int .i64 0,.int .i64 0,.slice 0 none 0],.int .i64 0,.bool false,.int .i64 0]
def Zgp:Zg→Nat→List DV→M (List DV):=fun c n args=>
 J.p args fun d args=>
 J.i .i64 args fun place args=>
 D.nil args<|
 M.join (fun st=>J.b st fun b1 st=>D.nil st<|
  bif b1 then
   M.ret [.agg [.int .i64 0,.int .i64 0,.int .i64 0,.int .i64 0,.int .i64 0,.int .i64 0,.int .i64 0,.int .i64 0,.slice 0 none 0],.bool false]
  else
   M.call (c 329 [.ptr d,.int .i64 place]) fun ds=>
   J.l 1 ds fun x xn ds=>
   J.i .i64 ds fun x1 ds=>
   D.nil ds<|
   bif !(x1==0)then
    M.ret [.agg [.int .i64 0,.int .i64 0,.int .i64 0,.int .i64 0,.int .i64 0,.int .i64 0,.int .i64 0,.int .i64 0,.slice 0 none 0],.bool false]
   else
    M.call (c 330 [.slice 1 x xn]) fun ds=>
    J.a ds fun cs ds=>
    J.i .i64 cs fun x2 r=>
    J.i .i64 r fun x3 r=>
    J.i .i64 r fun x4 r=>
    J.i .i64 r fun x5 r=>
    J.i .i64 r fun x6 r=>
    J.i .i64 r fun x7 r=>
    J.i .i64 r fun x8 r=>
    J.i .i64 r fun x9 r=>
    J.l 1 r fun x10 x10n r=>
    D.nil r<|
    J.b ds fun x11 ds=>
    D.nil ds<|
    M.ret [.agg [.int .i64 x2,.int .i64 x3,.int .i64 x4,.int .i64 x5,.int .i64 x6,.int .i64 x7,.int .i64 x8,.int .i64 x9,.slice 1 x10 x10n],.bool x11]) fun jk1=>
 bif decide (place<0)then
  jk1 [.bool true]
 else
  jk1 [.bool (decide (place≥2))]
def ZeD:Zg→Nat→List DV→M (List DV):=fun c n args=>
 J.l 1 args fun b1 b1n args=>
 D.nil args<|
 M.base fun b0=>
 M.join (fun st=>
  J.l 1 st fun out outn st=>
  D.nil st<|
  M.retF b0 [.slice 1 out outn]) fun jk1=>
 M.loop (fun rec1 st=>
  J.l 1 st fun b2 b2n st=>
  J.l 1 st fun out1 out1n st=>
  D.nil st<|
  bif decide ((b2n:Int)≥8)then
   M.call (c 285 [.slice 1 b2 b2n]) fun ds=>
   J.i .u64 ds fun x ds=>
   D.nil ds<|
   M.new [.int .u64 x] fun i=>
   M.load i 0 1 fun cs=>
   M.app 1 out1 out1n cs 1 8796093022208 fun p=>
   M.chk (decide ((8:Int)≤(b2n:Int)))<|
   rec1 [.slice 1 (cutA true b2 8) (b2n-8),.slice 1 p (out1n+1)]
  else
   jk1 [.slice 1 out1 out1n]) n [.slice 1 b1 b1n,.slice 0 none 0]
def ZfN:Zg→Nat→List DV→M (List DV):=fun c n args=>
 J.p args fun d args=>
 J.i .i64 args fun at1 args=>
 D.nil args<|
 M.call (c 331 [.ptr d,.int .i64 at1]) fun ds=>
 J.i .i64 ds fun x ds=>
 D.nil ds<|
 bif !(x==0)then
  M.ret [.slice 0 none 0,.int .i64 x]
 else
  M.new [.int .u64 0,.int .u64 0,.int .u64 0,.int .u64 0,.int .u64 0,.int .u64 0,.int .u64 0,.int .u64 0] fun ws=>
  M.join (fun st=>
   D.nil st<|
   M.load ws 0 8 fun _=>
   M.call (c 332 [.slice 1 (some (ws,0)) 8]) fun ds=>
   J.l 1 ds fun x1 x1n ds=>
   D.nil ds<|
   M.ret [.slice 1 x1 x1n,.int .i64 0]) fun jk1=>
  M.loop (fun rec1 st=>
   J.i .i64 st fun x2 st=>
   D.nil st<|
   bif decide (x2<8)then
    M.call (c 333 [.ptr d,.int .i64 (wr64 ((wr64 (at1*8))+x2))]) fun ds=>
    J.i .u64 ds fun x3 ds=>
    J.i .i64 ds fun x4 ds=>
    D.nil ds<|
    bif !(x4==0)then
     M.ret [.slice 0 none 0,.int .i64 x4]
    else
     M.chk (inB x2 8)<|
     M.store ws (x2.toNat*1+0) [.int .u64 x3]<|
     rec1 [.int .i64 (wr64 (x2+1))]
   else
    jk1 []) n [.int .i64 0]
def Zgv:Zg→Nat→List DV→M (List DV):=fun c n args=>
 J.l 1 args fun b1 b1n args=>
 D.nil args<|
 M.base fun b0=>
 M.call (c 237 [.slice 1 b1 b1n]) fun ds=>
 J.i .i64 ds fun x ds=>
 J.i .i64 ds fun x1 ds=>
 J.l 1 ds fun x2 x2n ds=>
 J.b ds fun x3 ds=>
 D.nil ds<|
 M.join (fun st=>J.b st fun b2 st=>D.nil st<|
  M.join (fun st=>J.b st fun b3 st=>D.nil st<|
   bif b3 then
    M.retF b0 [.agg [.int .i64 0,.int .i64 0,.int .i64 0,.int .i64 0,.int .i64 0,.int .i64 0,.int .i64 0,.int .i64 0,.slice 0 none 0],.bool false]
   else
    M.new [.int .i64 0,.int .i64 0,.int .i64 0,.int .i64 0,.int .i64 0,.int .i64 0,.int .i64 0,.int .i64 0,.slice 0 none 0] fun s=>
    M.new [.slice 0 none 0] fun r1=>
    M.store r1 0 [.slice 1 x2 x2n]<|
    M.call (c 334 [.ptr (some (r1,0)),.int .i64 8]) fun ds=>
    J.i .i64 ds fun x4 ds=>
    D.nil ds<|
    M.store s 0 [.int .i64 x4]<|
    M.join (fun st=>
     D.nil st<|
     M.call (c 334 [.ptr (some (r1,0)),.int .i64 2]) fun ds=>
     J.i .i64 ds fun x5 ds=>
     D.nil ds<|
     M.call (c 334 [.ptr (some (r1,0)),.int .i64 2]) fun ds=>
     J.i .i64 ds fun x6 ds=>
     D.nil ds<|
     M.store s 4 [.int .i64 x5]<|
     M.store s 7 [.int .i64 x6]<|
     M.join (fun st=>
      D.nil st<|
      M.load s 0 9 fun cs=>
      J.i .i64 cs fun x7 r=>
      J.i .i64 r fun x8 r=>
      J.i .i64 r fun x9 r=>
      J.i .i64 r fun x10 r=>
      J.i .i64 r fun x11 r=>
      J.i .i64 r fun x12 r=>
      J.i .i64 r fun x13 r=>
      J.i .i64 r fun x14 r=>
      J.l 1 r fun x15 x15n r=>
      D.nil r<|
      M.call (c 197 [.agg [.int .i64 x7,.int .i64 x8,.int .i64 x9,.int .i64 x10,.int .i64 x11,.int .i64 x12,.int .i64 x13,.int .i64 x14,.slice 1 x15 x15n]]) fun ds=>
      J.b ds fun x16 ds=>
      D.nil ds<|
      M.join (fun st=>J.b st fun b4 st=>D.nil st<|
       bif b4 then
       M.retF b0 [.agg [.int .i64 0,.int .i64 0,.int .i64 0,.int .i64 0,.int .i64 0,.int .i64 0,.int .i64 0,.int .i64 0,.slice 0 none 0],.bool false]
      else
       M.load s 0 9 fun cs1=>
      J.i .i64 cs1 fun x17 r=>
      J.i .i64 r fun x18 r=>
      J.i .i64 r fun x19 r=>
      J.i .i64 r fun x20 r=>
      J.i .i64 r fun x21 r=>
      J.i .i64 r fun x22 r=>
      J.i .i64 r fun x23 r=>
      J.i .i64 r fun x24 r=>
      J.l 1 r fun x25 x25n r=>
      D.nil r<|
      M.retF b0 [.agg [.int .i64 x17,.int .i64 x18,.int .i64 x19,.int .i64 x20,.int .i64 x21,.int .i64 x22,.int .i64 x23,.int .i64 x24,.slice 1 x25 x25n],.bool true]) fun jk5=>
      bif !x16 then
       jk5 [.bool true]
      else
       M.load1 r1 0 fun d=>
      D.slice 1 d fun x26 x26n=>
      M.load1 r1 0 fun d1=>
      D.slice 1 d1 fun x27 x27n=>
      M.call (c 238 [.slice 1 x26 x26n,.int .i64 0,.int .i64 (x27n:Int)]) fun ds=>
      J.b ds fun x28 ds=>
      D.nil ds<|
      jk5 [.bool (!x28)]) fun jk4=>
     M.loop (fun rec1 st=>
      J.i .i64 st fun x29 st=>
      D.nil st<|
      bif decide (x29<x1)then
       M.load1 s 8 fun d2=>
      D.slice 1 d2 fun x30 x30n=>
      M.callN (M.keep s (c 334 [.ptr (some (r1,0)),.int .i64 2])) fun ds=>
      J.i .i64 ds fun x31 ds=>
      D.nil ds<|
      M.new [.int .i64 x31] fun i=>
      M.load i 0 1 fun cs2=>
      M.app 1 x30 x30n cs2 1 8796093022208 fun p=>
      M.store s 8 [.slice 1 p (x30n+1)]<|
      rec1 [.int .i64 (wr64 (x29+1))]
      else
       jk4 []) n [.int .i64 0]) fun jk3=>
    M.loop (fun rec2 st=>
     J.i .i64 st fun x32 st=>
     D.nil st<|
     bif decide (x32<5)then
      M.chk (inB x32 5)<|
      D.nth [.ptr (some (s,1)),.ptr (some (s,2)),.ptr (some (s,3)),.ptr (some (s,5)),.ptr (some (s,6))] (x32.toNat*1) fun d3=>
      D.ptr d3 fun x33=>
      M.call (c 334 [.ptr (some (r1,0)),.int .i64 4]) fun ds=>
      J.i .i64 ds fun x34 ds=>
      D.nil ds<|
      M.nn x33 fun i1 o=>
      M.store i1 o [.int .i64 x34]<|
      rec2 [.int .i64 (wr64 (x32+1))]
     else
      jk3 []) n [.int .i64 0]) fun jk2=>
  bif b2 then
   jk2 [.bool true]
  else
   jk2 [.bool (decide (x1>8))]) fun jk1=>
 bif !x3 then
  jk1 [.bool true]
 else
  jk1 [.bool (!(x==7))]
def ZgK:Zg→Nat→List DV→M (List DV):=fun c n args=>
 J.p args fun d args=>
 J.i .i64 args fun at1 args=>
 D.nil args<|
 bif d.isNone then
  M.ret [.int .i64 1]
 else
  M.join (fun st=>J.b st fun b1 st=>D.nil st<|
   bif b1 then
    M.ret [.int .i64 2]
   else
    M.ret [.int .i64 0]) fun jk1=>
  bif decide (at1<0)then
   jk1 [.bool true]
  else
   M.call (c 335 [.ptr d]) fun ds=>
   J.i .i64 ds fun x ds=>
   D.nil ds<|
   jk1 [.bool (decide (at1≥x))]
def ZdQ:Zg→Nat→List DV→M (List DV):=fun c n args=>
 J.l 1 args fun ws wsn args=>
 D.nil args<|
 M.base fun b0=>
 M.join (fun st=>
  J.l 1 st fun out outn st=>
  D.nil st<|
  M.retF b0 [.slice 1 out outn]) fun jk1=>
 M.loop (fun rec1 st=>
  J.l 1 st fun out1 out1n st=>
  J.i .i64 st fun x st=>
  D.nil st<|
  bif decide (x<(wsn:Int))then
   M.nn ws fun i o=>
   M.chk (inB x wsn)<|
   M.load1 i (x.toNat*1+o) fun d=>
   D.int .u64 d fun x1=>
   M.call (c 337 [.int .u64 x1,.int .i64 8]) fun ds=>
   J.l 1 ds fun x2 x2n ds=>
   D.nil ds<|
   M.rd x2 (x2n*1) fun cs=>
   M.app 1 out1 out1n cs x2n 70368744177664 fun p=>
   rec1 [.slice 1 p (out1n+x2n),.int .i64 (wr64 (x+1))]
  else
   jk1 [.slice 1 out1 out1n]) n [.slice 0 none 0,.int .i64 0]
def Zcz:Zg→Nat→List DV→M (List DV):=fun c n args=>
 J.p args fun d args=>
 J.i .i64 args fun at1 args=>
 D.nil args<|
 M.nn d fun i o=>
 M.load1 i o fun d1=>
 D.slice 4 d1 fun x xn=>
 M.call (c 336 [.ptr d,.int .i64 at1,.int .i64 (xn:Int)]) fun ds=>
 J.i .i64 ds fun x1 ds=>
 D.nil ds<|
 bif !(x1==0)then
  M.ret [.int .u64 0,.int .i64 x1]
 else
  M.nn d fun i1 o1=>
  M.load1 i1 o1 fun d2=>
  D.slice 4 d2 fun x2 x2n=>
  M.nn x2 fun i2 o2=>
  M.chk (inB at1 x2n)<|
  M.load1 i2 (at1.toNat*4+o2+1) fun d3=>
  D.int .u64 d3 fun x3=>
  M.ret [.int .u64 x3,.int .i64 0]
def Zce:Zg→Nat→List DV→M (List DV):=fun c n args=>
 J.p args fun r1 args=>
 J.i .i64 args fun n1 args=>
 D.nil args<|
 M.nn r1 fun i o=>
 M.load1 i o fun d=>
 D.slice 1 d fun x xn=>
 M.chk (decide (0≤n1)&&decide (n1≤(xn:Int)))<|
 M.call (c 285 [.slice 1 x n1.toNat]) fun ds=>
 J.i .u64 ds fun x1 ds=>
 D.nil ds<|
 M.nn r1 fun i1 o1=>
 M.load1 i1 o1 fun d1=>
 D.slice 1 d1 fun x2 x2n=>
 M.chk (decide (0≤n1)&&decide (n1≤(x2n:Int)))<|
 M.nn r1 fun i2 o2=>
 M.store i2 o2 [.slice 1 (cutA true x2 (n1.toNat*1)) (x2n-n1.toNat)]<|
 M.ret [.int .i64 (wr64 (x1))]
def Zcc:Zg→Nat→List DV→M (List DV):=fun c n args=>
 J.p args fun d args=>
 D.nil args<|
 M.nn d fun i o=>
 M.load1 i o fun d1=>
 D.slice 4 d1 fun x xn=>
 M.ret [.int .i64 (wr64 ((xn:Int).tdiv 8))]
def ZcG:Zg→Nat→List DV→M (List DV):=fun c n args=>
 J.p args fun d args=>
 J.i .i64 args fun at1 args=>
 J.i .i64 args fun n1 args=>
 D.nil args<|
 M.nn d fun i o=>
 M.load1 i (o+3) fun d1=>
 D.bool d1 fun x=>
 bif x then
  M.ret [.int .i64 3]
 else
  M.join (fun st=>J.b st fun b1 st=>D.nil st<|
   bif b1 then
    M.ret [.int .i64 2]
   else
    M.ret [.int .i64 0]) fun jk1=>
  bif decide (at1<0)then
   jk1 [.bool true]
  else
   jk1 [.bool (decide (at1≥n1))]
def Zgm:Zg→Nat→List DV→M (List DV):=fun c n args=>
 J.i .u64 args fun v args=>
 J.i .i64 args fun n1 args=>
 D.nil args<|
 M.base fun b0=>
 M.join (fun st=>J.b st fun b1 st=>D.nil st<|
  bif b1 then
   M.retF b0 [.slice 0 none 0]
  else
   M.chk (decide (0≤n1)&&decide (n1≤n1)&&decide (n1≤70368744177664))<|
   M.new (rep n1.toNat [.int .u8 0]) fun i=>
   M.join (fun st=>
    D.nil st<|
    M.retF b0 [.slice 1 (some (i,0)) n1.toNat]) fun jk2=>
   M.loop (fun rec1 st=>
    J.i .u64 st fun v1 st=>
    J.i .i64 st fun x st=>
    D.nil st<|
    bif decide (x<(n1.toNat:Int))then
     M.chk (inB x n1.toNat)<|
     M.store i (x.toNat*1) [.int .u8 (IntKind.wrap .u8 (v1))]<|
     rec1 [.int .u64 (v1.fdiv (2^8)),.int .i64 (wr64 (x+1))]
    else
     jk2 []) n [.int .u64 v,.int .i64 0]) fun jk1=>
 bif decide (n1<0)then
  jk1 [.bool true]
 else
  jk1 [.bool (decide (n1>8))]
end
structure Zdi (Bd:Za):Prop where
 eq:Bd 335=Zcc
structure ZjI (Bd:Za):Prop where
 eq:Bd 331=ZgK
 q12:Zdi Bd
structure Zed (Bd:Za):Prop where
 eq:Bd 336=ZcG
structure ZdI (Bd:Za):Prop where
 eq:Bd 333=Zcz
 q26:Zed Bd
structure Zjx (Bd:Za):Prop where
 eq:Bd 337=Zgm
structure Zgg (Bd:Za):Prop where
 eq:Bd 332=ZdQ
 q113:Zjx Bd
structure Zh0 (Bd:Za):Prop where
 eq:Bd 329=ZfN
 q115:ZjI Bd
 q23:ZdI Bd
 q54:Zgg Bd
structure Zdj (Bd:Za):Prop where
 eq:Bd 334=Zce
 q94:Z5 Bd
structure Zjl (Bd:Za):Prop where
 eq:Bd 330=Zgv
 q83:Zen Bd
 q84:Zbs Bd
 q39:ZY Bd
 q14:Zdj Bd
structure Zjr (Bd:Za):Prop where
 eq:Bd 327=Zgp
 q95:Zh0 Bd
 q128:Zjl Bd
structure Zjg (Bd:Za):Prop where
 eq:Bd 326=ZgP
 q127:Zjr Bd
structure Zg6 (Bd:Za):Prop where
 eq:Bd 328=ZeD
 q94:Z5 Bd
structure Zju (Bd:Za):Prop where
 eq:Bd 325=ZgJ
 q68:Zg6 Bd
structure Zg8 (Bd:Za):Prop where
 eq:Bd 324=Zey
 q109:Zef Bd
 q50:Zgb Bd
 q45:Zbw Bd
 q126:Zjg Bd
 q114:Zju Bd
structure Zc6 (Bd:Za):Prop where
 eq:Bd 323=Zc8
 q29:ZeP Bd
 q62:Zg8 Bd
structure Zhb (Bd:Za):Prop where
 eq:Bd 322=Zes
 q81:Zel Bd
 q61:Zc6 Bd
structure Ziw (Bd:Za):Prop where
 eq:Bd 321=ZcY
 q65:Zha Bd
 q81:Zel Bd
 q96:ZfG Bd
 q66:Zhb Bd
 q61:Zc6 Bd
end Go.Gv
