/- Functions of the program, as the machine runs them: written by gvseat.py. -/
import Derived.Test.YtegglibipjjblaaGreatDoorGvDef
import Derived.Test.YtegglibipjjblaaGreatDoorGvZBod
namespace Go.Gv
set_option linter.unusedVariables false
set_option maxRecDepth 10000
set_option maxHeartbeats 4000000
noncomputable section
def ZeF:Zg→Nat→List DV→M (List DV):=fun c n args=>
 J.a args fun cs args=>
 J.i .i64 cs fun x r=>
 J.i .i64 r fun x1 r=>
 J.i .i64 r fun x2 r=>
 J.l 2 r fun x3 x3n r=>
 J.l 1 r fun x4 x4n r=>
 J.l 1 r fun x5 x5n r=>
 D.nil r<|
 J.i .i64 args fun epoch args=>
 J.i .i64 args fun place args=>
 D.nil args<|
 M.call (c 133 [.agg [.int .i64 x,.int .i64 x1,.int .i64 x2,.slice 2 x3 x3n,.slice 1 x4 x4n,.slice 1 x5 x5n]]) fun ds=>
 J.b ds fun x6 ds=>
 D.nil ds<|
 bif !x6 then
  M.ret [.slice 0 none 0,.agg [.int .i64 0,.int .i64 0,.int .i64 0,.int .i64 0,.int .i64 0,.int .i64 0,.int .i64 0,.int .i64 0,.slice 0 none 0],.bool false]
 else
  M.chk (decide (0≤wr64 (64*x))&&decide (wr64 (64*x)≤wr64 (64*x))&&decide (wr64 (64*x)≤70368744177664))<|
  M.new (rep ((wr64 (64*x)).toNat) [.int .u8 0]) fun i=>
  M.chk (decide (0≤(x4n:Int))&&decide ((x4n:Int)≤(x4n:Int))&&decide ((x4n:Int)≤8796093022208))<|
  M.new (rep ((x4n:Int).toNat) [.int .i64 0]) fun i1=>
  M.new [.slice 1 (some (i,0)) ((wr64 (64*x)).toNat),.int .i64 2,.slice 1 (some (i1,0)) ((x4n:Int).toNat)] fun i2=>
  M.call (c 189 [.ptr (some (i2,0)),.slice 2 x3 x3n]) fun ds=>
  J.i .i64 ds fun x7 ds=>
  D.nil ds<|
  M.call (c 190 [.ptr (some (i2,0)),.agg [.int .i64 x,.int .i64 x1,.int .i64 x2,.slice 2 x3 x3n,.slice 1 x4 x4n,.slice 1 x5 x5n]]) fun ds=>
  J.i .i64 ds fun x8 ds=>
  D.nil ds<|
  M.join (fun st=>
   J.a st fun cs1 st=>
   J.i .i64 cs1 fun s r=>
   J.i .i64 r fun s1 r=>
   J.i .i64 r fun s2 r=>
   J.i .i64 r fun s3 r=>
   J.i .i64 r fun s4 r=>
   J.i .i64 r fun s5 r=>
   J.i .i64 r fun s6 r=>
   J.i .i64 r fun s7 r=>
   J.l 1 r fun s8 s8n r=>
   D.nil r<|
   D.nil st<|
   M.join (fun st=>
    J.a st fun cs2 st=>
    J.i .i64 cs2 fun s9 r=>
    J.i .i64 r fun s10 r=>
    J.i .i64 r fun s11 r=>
    J.i .i64 r fun s12 r=>
    J.i .i64 r fun s13 r=>
    J.i .i64 r fun s14 r=>
    J.i .i64 r fun s15 r=>
    J.i .i64 r fun s16 r=>
    J.l 1 r fun s17 s17n r=>
    D.nil r<|
    D.nil st<|
    M.join (fun st=>
     J.l 1 st fun used usedn st=>
     D.nil st<|
     M.join (fun st=>J.b st fun b1 st=>D.nil st<|
      bif b1 then
       M.ret [.slice 0 none 0,.agg [.int .i64 0,.int .i64 0,.int .i64 0,.int .i64 0,.int .i64 0,.int .i64 0,.int .i64 0,.int .i64 0,.slice 0 none 0],.bool false]
      else
       M.join (fun st=>
       D.nil st<|
      M.load1 i2 0 fun d=>
      D.slice 1 d fun x9 x9n=>
      M.callX (c 179 [.int .i64 place,.int .i64 2]) fun ds=>
      J.i .i64 ds fun x10 ds=>
      D.nil ds<|
      M.chk (decide (0≤wr64 (64*x10))&&decide (wr64 (64*x10)≤(x9n:Int)))<|
      M.callX (c 191 [.agg [.int .i64 s9,.int .i64 s10,.int .i64 s11,.int .i64 s12,.int .i64 s13,.int .i64 s14,.int .i64 s15,.int .i64 s16,.slice 1 s17 s17n]]) fun ds=>
      J.s ds fun x11 ds=>
      D.nil ds<|
      M.wr (cutA true x9 (((wr64 (64*x10)).toNat)*1)) (ZF (x11.take (x9n-((wr64 (64*x10)).toNat))))<|
      M.load1 i2 0 fun d1=>
      D.slice 1 d1 fun x12 x12n=>
      M.ret [.slice 1 x12 x12n,.agg [.int .i64 s9,.int .i64 s10,.int .i64 s11,.int .i64 s12,.int .i64 s13,.int .i64 s14,.int .i64 s15,.int .i64 s16,.slice 1 s17 s17n],.bool true]) fun jk5=>
      M.loop (fun rec1 st=>
       J.i .i64 st fun i3 st=>
      D.nil st<|
      bif decide (i3<(s17n:Int))then
       M.call (c 192 [.int .i64 i3,.slice 1 used usedn]) fun ds=>
      J.a ds fun cs3 ds=>
      J.i .i64 cs3 fun x13 r1=>
      D.len r1 48<|
      D.nil ds<|
      M.call (c 193 [.agg ((.int .i64 x13)::r1)]) fun ds=>
      J.s ds fun x14 ds=>
      D.nil ds<|
      M.call (c 194 [.ptr (some (i2,0)),.str x14]) fun ds=>
      J.i .i64 ds fun x15 ds=>
      D.nil ds<|
      rec1 [.int .i64 (wr64 (i3+1))]
      else
       jk5 []) n [.int .i64 0]) fun jk4=>
     bif decide ((usedn:Int)>x)then
      jk4 [.bool true]
     else
      M.call (c 195 [.agg [.int .i64 s9,.int .i64 s10,.int .i64 s11,.int .i64 s12,.int .i64 s13,.int .i64 s14,.int .i64 s15,.int .i64 s16,.slice 1 s17 s17n]]) fun ds=>
      J.b ds fun x16 ds=>
      D.nil ds<|
      jk4 [.bool (!x16)]) fun jk3=>
    M.loop (fun rec2 st=>
     J.l 1 st fun used1 used1n st=>
     J.i .i64 st fun i4 st=>
     D.nil st<|
     M.load1 i2 1 fun d2=>
     D.int .i64 d2 fun x17=>
     bif decide (i4<wr64 (x17+(s17n:Int)))then
      M.new [.int .i64 i4] fun i5=>
      M.load i5 0 1 fun cs4=>
      M.app 1 used1 used1n cs4 1 8796093022208 fun p=>
      rec2 [.slice 1 p (used1n+1),.int .i64 (wr64 (i4+1))]
     else
      jk3 [.slice 1 used1 used1n]) n [.slice 0 none 0,.int .i64 0]) fun jk2=>
   M.loop (fun rec3 st=>
    J.a st fun cs5 st=>
    J.i .i64 cs5 fun s18 r=>
    J.i .i64 r fun s19 r=>
    J.i .i64 r fun s20 r=>
    J.i .i64 r fun s21 r=>
    J.i .i64 r fun s22 r=>
    J.i .i64 r fun s23 r=>
    J.i .i64 r fun s24 r=>
    J.i .i64 r fun s25 r=>
    J.l 1 r fun s26 s26n r=>
    D.nil r<|
    J.i .i64 st fun i6 st=>
    D.nil st<|
    M.call (c 196 [.agg [.int .i64 x,.int .i64 x1,.int .i64 x2]]) fun ds=>
    J.i .i64 ds fun x18 ds=>
    D.nil ds<|
    bif decide (i6<x18)then
     M.load1 i2 1 fun d3=>
     D.int .i64 d3 fun x19=>
     M.new [.int .i64 (wr64 (x19+i6))] fun i7=>
     M.load i7 0 1 fun cs6=>
     M.app 1 s26 s26n cs6 1 8796093022208 fun p1=>
     rec3 [.agg [.int .i64 s18,.int .i64 s19,.int .i64 s20,.int .i64 s21,.int .i64 s22,.int .i64 s23,.int .i64 s24,.int .i64 s25,.slice 1 p1 (s26n+1)],.int .i64 (wr64 (i6+1))]
    else
     jk2 [.agg [.int .i64 s18,.int .i64 s19,.int .i64 s20,.int .i64 s21,.int .i64 s22,.int .i64 s23,.int .i64 s24,.int .i64 s25,.slice 1 s26 s26n]]) n [.agg [.int .i64 s,.int .i64 s1,.int .i64 s2,.int .i64 s3,.int .i64 s4,.int .i64 s5,.int .i64 s6,.int .i64 s7,.slice 1 s8 s8n],.int .i64 0]) fun jk1=>
  bif decide ((x5n:Int)>0)then
   M.nn x5 fun i8 o=>
   M.chk (inB 0 x5n)<|
   M.load1 i8 (0+o) fun d4=>
   D.int .i64 d4 fun x20=>
   jk1 [.agg [.int .i64 epoch,.int .i64 x,.int .i64 x1,.int .i64 x2,.int .i64 x8,.int .i64 (x4n:Int),.int .i64 (wr64 (x20+1)),.int .i64 x7,.slice 0 none 0]]
  else
   jk1 [.agg [.int .i64 epoch,.int .i64 x,.int .i64 x1,.int .i64 x2,.int .i64 x8,.int .i64 (x4n:Int),.int .i64 0,.int .i64 x7,.slice 0 none 0]]
def ZgN:Zg→Nat→List DV→M (List DV):=fun c n args=>
 J.l 1 args fun image imagen args=>
 J.a args fun cs args=>
 J.i .i64 cs fun s r=>
 J.i .i64 r fun s1 r=>
 J.i .i64 r fun s2 r=>
 J.i .i64 r fun s3 r=>
 J.i .i64 r fun s4 r=>
 J.i .i64 r fun s5 r=>
 J.i .i64 r fun s6 r=>
 J.i .i64 r fun s7 r=>
 J.l 1 r fun s8 s8n r=>
 D.nil r<|
 D.nil args<|
 M.new [.int .i64 s,.int .i64 s1,.int .i64 s2,.int .i64 s3,.int .i64 s4,.int .i64 s5,.int .i64 s6,.int .i64 s7,.slice 1 s8 s8n] fun s9=>
 M.new [.int .i64 0,.int .i64 0,.int .i64 0,.slice 0 none 0,.slice 0 none 0,.slice 0 none 0] fun state=>
 M.new [.ptr none] fun reached=>
 M.new [.int .i64 0] fun e=>
 M.load s9 0 9 fun cs1=>
 J.i .i64 cs1 fun x r=>
 J.i .i64 r fun x1 r=>
 J.i .i64 r fun x2 r=>
 J.i .i64 r fun x3 r=>
 J.i .i64 r fun x4 r=>
 J.i .i64 r fun x5 r=>
 J.i .i64 r fun x6 r=>
 J.i .i64 r fun x7 r=>
 J.l 1 r fun x8 x8n r=>
 D.nil r<|
 M.call (c 197 [.agg [.int .i64 x,.int .i64 x1,.int .i64 x2,.int .i64 x3,.int .i64 x4,.int .i64 x5,.int .i64 x6,.int .i64 x7,.slice 1 x8 x8n]]) fun ds=>
 J.b ds fun x9 ds=>
 D.nil ds<|
 bif !x9 then
  M.store state 0 [.int .i64 0,.int .i64 0,.int .i64 0,.slice 0 none 0,.slice 0 none 0,.slice 0 none 0]<|
  M.store reached 0 [.ptr none]<|
  M.store e 0 [.int .i64 2]<|
  M.load state 0 6 fun o=>M.load1 reached 0 fun o1=>M.load1 e 0 fun o2=>M.ret [.agg o,o1,o2]
 else
  M.catch (M.load1 s9 1 fun d=>
   D.int .i64 d fun x10=>
   M.call (c 225 [.bool (decide (x10≤wr64 ((imagen:Int).tdiv 64)))]) fun ds=>
   D.nil ds<|
   M.load s9 0 9 fun cs2=>
   J.i .i64 cs2 fun x11 r=>
   J.i .i64 r fun x12 r=>
   J.i .i64 r fun x13 r=>
   J.i .i64 r fun x14 r=>
   J.i .i64 r fun x15 r=>
   J.i .i64 r fun x16 r=>
   J.i .i64 r fun x17 r=>
   J.i .i64 r fun x18 r=>
   J.l 1 r fun x19 x19n r=>
   D.nil r<|
   M.load1 s9 1 fun d1=>
   D.int .i64 d1 fun x20=>
   M.new [.int .i64 0,.int .i64 1] fun i=>
   M.callX (c 177 [.int .i64 x20,.slice 1 (some (i,0)) 2]) fun ds=>
   J.p ds fun x21 ds=>
   D.nil ds<|
   M.load s9 1 3 fun cs3=>
   J.i .i64 cs3 fun x22 r=>
   J.i .i64 r fun x23 r=>
   J.i .i64 r fun x24 r=>
   D.nil r<|
   M.new [.slice 1 image imagen,.int .i64 x11,.int .i64 x12,.int .i64 x13,.int .i64 x14,.int .i64 x15,.int .i64 x16,.int .i64 x17,.int .i64 x18,.slice 1 x19 x19n,.ptr x21,.slice 0 none 0,.int .i64 x22,.int .i64 x23,.int .i64 x24,.slice 0 none 0,.slice 0 none 0,.slice 0 none 0,.int .i64 0] fun i1=>
   M.call (c 226 [.ptr (some (i1,0))]) fun ds=>
   D.nil ds<|
   M.call (c 230 [.ptr (some (i1,0))]) fun ds=>
   D.nil ds<|
   M.call (c 231 [.ptr (some (i1,0))]) fun ds=>
   D.nil ds<|
   cellK i1 18 fun k n1=>
   M.load1 i1 18 fun d2=>
   D.int .i64 d2 fun x25=>
   M.call (c 234 [.ptr (some (i1,0))]) fun ds=>
   J.i .i64 ds fun x26 ds=>
   D.nil ds<|
   sameK i1 18 k n1<|
   sameK i1 18 k n1<|
   M.call (c 225 [.bool (x26==x25)]) fun ds=>
   D.nil ds<|
   sameK i1 18 k n1<|
   M.load i1 12 6 fun cs4=>
   J.i .i64 cs4 fun x27 r=>
   J.i .i64 r fun x28 r=>
   J.i .i64 r fun x29 r=>
   J.l 2 r fun x30 x30n r=>
   J.l 1 r fun x31 x31n r=>
   J.l 1 r fun x32 x32n r=>
   D.nil r<|
   M.load1 i1 10 fun d3=>
   D.ptr d3 fun x33=>
   M.chk (apart (some (state,0)) i1)<|
   M.store state 0 [.int .i64 x27,.int .i64 x28,.int .i64 x29,.slice 2 x30 x30n,.slice 1 x31 x31n,.slice 1 x32 x32n]<|
   M.store reached 0 [.ptr x33]<|
   M.store e 0 [.int .i64 0]<|
   M.ret []) fun p=>
  bif p then M.catch (M.store state 0 [.int .i64 0,.int .i64 0,.int .i64 0,.slice 0 none 0,.slice 0 none 0,.slice 0 none 0]<|
M.store reached 0 [.ptr none]<|
M.store e 0 [.int .i64 31]<|
M.ret []) fun p=>bif p then fail else M.load state 0 6 fun o3=>M.load1 reached 0 fun o4=>M.load1 e 0 fun o5=>M.ret [.agg o3,o4,o5]
  else M.load state 0 6 fun o6=>M.load1 reached 0 fun o7=>M.load1 e 0 fun o8=>M.ret [.agg o6,o7,o8]
def Zdo:Zg→Nat→List DV→M (List DV):=fun c n args=>
 J.p args fun s args=>
 D.nil args<|
 M.nn s fun i o=>
 M.load1 i (o+1) fun d=>
 D.slice 1 d fun x xn=>
 M.join (fun st=>
  J.l 1 st fun out outn st=>
  D.nil st<|
  M.ret [.slice 1 out outn]) fun jk1=>
 M.loop (fun rec1 st=>
  J.l 1 st fun out1 out1n st=>
  J.i .i64 st fun x1 st=>
  D.nil st<|
  bif decide (x1<(xn:Int))then
   M.join (fun st=>
    J.l 1 st fun out2 out2n st=>
    D.nil st<|
    rec1 [.slice 1 out2 out2n,.int .i64 (wr64 (x1+1))]) fun jk2=>
   M.nn x fun i1 o1=>
   M.chk (inB x1 xn)<|
   M.load1 i1 (x1.toNat*1+o1) fun d1=>
   D.int .u64 d1 fun x2=>
   M.join (fun st=>
    J.l 1 st fun out3 out3n st=>
    D.nil st<|
    jk2 [.slice 1 out3 out3n]) fun jk3=>
   M.loop (fun rec2 st=>
    J.l 1 st fun out4 out4n st=>
    J.i .u64 st fun w st=>
    D.nil st<|
    bif !(w==0)then
     M.call (c 86 [.int .u64 w]) fun ds=>
     J.i .i64 ds fun x3 ds=>
     D.nil ds<|
     M.new [.int .i64 (wr64 ((wr64 (x1*64))+x3))] fun i2=>
     M.load i2 0 1 fun cs=>
     M.app 1 out4 out4n cs 1 8796093022208 fun p=>
     rec2 [.slice 1 p (out4n+1),.int .u64 (bits .and .u64 w (IntKind.wrap .u64 (w-1)))]
    else
     jk3 [.slice 1 out4 out4n]) n [.slice 1 out1 out1n,.int .u64 x2]
  else
   jk1 [.slice 1 out1 out1n]) n [.slice 0 none 0,.int .i64 0]
def ZdU:Zg→Nat→List DV→M (List DV):=fun c n args=>
 J.l 1 args fun image imagen args=>
 J.a args fun cs args=>
 J.i .i64 cs fun s r=>
 J.i .i64 r fun s1 r=>
 J.i .i64 r fun s2 r=>
 J.i .i64 r fun s3 r=>
 J.i .i64 r fun s4 r=>
 J.i .i64 r fun s5 r=>
 J.i .i64 r fun s6 r=>
 J.i .i64 r fun s7 r=>
 J.l 1 r fun s8 s8n r=>
 D.nil r<|
 J.p args fun reached args=>
 D.nil args<|
 M.call (c 171 [.slice 1 image imagen,.agg [.int .i64 s,.int .i64 s1,.int .i64 s2,.int .i64 s3,.int .i64 s4,.int .i64 s5,.int .i64 s6,.int .i64 s7,.slice 1 s8 s8n]]) fun ds=>
 J.a ds fun cs1 ds=>
 J.i .i64 cs1 fun x r=>
 J.i .i64 r fun x1 r=>
 J.i .i64 r fun x2 r=>
 J.l 2 r fun x3 x3n r=>
 J.l 1 r fun x4 x4n r=>
 J.l 1 r fun x5 x5n r=>
 D.nil r<|
 J.p ds fun x6 ds=>
 J.i .i64 ds fun x7 ds=>
 D.nil ds<|
 M.join (fun st=>J.b st fun b1 st=>D.nil st<|
  M.join (fun st=>J.b st fun b2 st=>D.nil st<|
   bif b2 then
    M.ret [.bool false]
   else
    M.join (fun st=>
     J.l 49 st fun cs2 cs2n st=>
     D.nil st<|
     M.call (c 200 [.int .i64 s1,.slice 49 cs2 cs2n]) fun ds=>
     J.p ds fun x8 ds=>
     J.b ds fun x9 ds=>
     D.nil ds<|
     M.join (fun st=>J.b st fun b3 st=>D.nil st<|
      M.ret [.bool b3]) fun jk4=>
     bif x9 then
      M.call (c 177 [.int .i64 s1,.slice 1 s8 s8n]) fun ds=>
      J.p ds fun x10 ds=>
      D.nil ds<|
      M.call (c 201 [.ptr x6,.ptr x10]) fun ds=>
      J.p ds fun x11 ds=>
      D.nil ds<|
      M.call (c 202 [.ptr x8,.ptr x11]) fun ds=>
      J.b ds fun x12 ds=>
      D.nil ds<|
      jk4 [.bool x12]
     else
      jk4 [.bool false]) fun jk3=>
    M.loop (fun rec1 st=>
     J.l 49 st fun cs3 cs3n st=>
     J.i .i64 st fun x13 st=>
     D.nil st<|
     bif decide (x13<(s8n:Int))then
      M.nn s8 fun i o=>
      M.chk (inB x13 s8n)<|
      M.load1 i (x13.toNat*1+o) fun d=>
      D.int .i64 d fun x14=>
      M.call (c 203 [.slice 1 image imagen,.int .i64 x14]) fun ds=>
      J.l 1 ds fun x15 x15n ds=>
      D.nil ds<|
      M.call (c 204 [.slice 1 x15 x15n]) fun ds=>
      J.a ds fun cs4 ds=>
      J.i .i64 cs4 fun x16 r1=>
      D.len r1 48<|
      J.b ds fun x17 ds=>
      D.nil ds<|
      D.len ((.int .i64 x16)::r1) 49<|
      M.join (fun st=>J.b st fun b4 st=>D.nil st<|
       bif b4 then
       M.ret [.bool false]
      else
       D.len ((.int .i64 x16)::r1) 49<|
      M.new ((.int .i64 x16)::r1) fun i1=>
      M.load i1 0 49 fun cs5=>
      M.app 49 cs3 cs3n cs5 1 1256584717458 fun p=>
      rec1 [.slice 49 p (cs3n+1),.int .i64 (wr64 (x13+1))]) fun jk5=>
      bif !x17 then
       jk5 [.bool true]
      else
       M.call (c 184 [.ptr x6,.int .i64 x14]) fun ds=>
      J.b ds fun x18 ds=>
      D.nil ds<|
      jk5 [.bool x18]
     else
      jk3 [.slice 49 cs3 cs3n]) n [.slice 0 none 0,.int .i64 0]) fun jk2=>
  bif b1 then
   jk2 [.bool true]
  else
   M.call (c 202 [.ptr x6,.ptr reached]) fun ds=>
   J.b ds fun x19 ds=>
   D.nil ds<|
   jk2 [.bool (!x19)]) fun jk1=>
 bif !(x7==0)then
  jk1 [.bool true]
 else
  jk1 [.bool reached.isNone]
def ZiX:Zg→Nat→List DV→M (List DV):=fun c n args=>
 J.i .i64 args fun n1 args=>
 J.l 1 args fun l ln args=>
 D.nil args<|
 M.chk (decide (0≤wr64 ((wr64 ((wr64 ((if 3072<(if n1<0 then 0 else n1)then 3072 else(if n1<0 then 0 else n1))+64))-1)).tdiv 64))&&decide (wr64 ((wr64 ((wr64 ((if 3072<(if n1<0 then 0 else n1)then 3072 else(if n1<0 then 0 else n1))+64))-1)).tdiv 64)≤wr64 ((wr64 ((wr64 ((if 3072<(if n1<0 then 0 else n1)then 3072 else(if n1<0 then 0 else n1))+64))-1)).tdiv 64))&&decide (wr64 ((wr64 ((wr64 ((if 3072<(if n1<0 then 0 else n1)then 3072 else(if n1<0 then 0 else n1))+64))-1)).tdiv 64)≤8796093022208))<|
 M.new (rep ((wr64 ((wr64 ((wr64 ((if 3072<(if n1<0 then 0 else n1)then 3072 else(if n1<0 then 0 else n1))+64))-1)).tdiv 64)).toNat) [.int .u64 0]) fun i=>
 M.new [.int .i64 (if 3072<(if n1<0 then 0 else n1)then 3072 else(if n1<0 then 0 else n1)),.slice 1 (some (i,0)) ((wr64 ((wr64 ((wr64 ((if 3072<(if n1<0 then 0 else n1)then 3072 else(if n1<0 then 0 else n1))+64))-1)).tdiv 64)).toNat)] fun i1=>
 M.call (c 206 [.ptr (some (i1,0)),.slice 1 l ln]) fun ds=>
 D.nil ds<|
 M.ret [.ptr (some (i1,0))]
def ZfQ:Zg→Nat→List DV→M (List DV):=fun c n args=>
 J.i .i64 args fun a args=>
 J.i .i64 args fun n1 args=>
 D.nil args<|
 M.chk (!(n1==0))<|
 M.chk (!(n1==0))<|
 M.ret [.int .i64 ((wr64 ((a.tmod n1)+n1)).tmod n1)]
def Zc2:Zg→Nat→List DV→M (List DV):=fun c n args=>
 J.p args fun s args=>
 D.nil args<|
 M.nn s fun i o=>
 M.load1 i (o+1) fun d=>
 D.slice 1 d fun x xn=>
 M.join (fun st=>
  J.i .i64 st fun n1 st=>
  D.nil st<|
  M.ret [.int .i64 n1]) fun jk1=>
 M.loop (fun rec1 st=>
  J.i .i64 st fun n2 st=>
  J.i .i64 st fun x1 st=>
  D.nil st<|
  bif decide (x1<(xn:Int))then
   M.nn x fun i1 o1=>
   M.chk (inB x1 xn)<|
   M.load1 i1 (x1.toNat*1+o1) fun d1=>
   D.int .u64 d1 fun x2=>
   M.call (c 210 [.int .u64 x2]) fun ds=>
   J.i .i64 ds fun x3 ds=>
   D.nil ds<|
   rec1 [.int .i64 (wr64 (n2+x3)),.int .i64 (wr64 (x1+1))]
  else
   jk1 [.int .i64 n2]) n [.int .i64 0,.int .i64 0]
def Zeb:Zg→Nat→List DV→M (List DV):=fun c n args=>
 J.p args fun s args=>
 J.i .i64 args fun at1 args=>
 D.nil args<|
 M.call (c 209 [.ptr s,.int .i64 at1]) fun ds=>
 J.b ds fun x ds=>
 D.nil ds<|
 M.join (fun st=>J.b st fun b1 st=>D.nil st<|
  M.ret [.bool b1]) fun jk1=>
 bif x then
  M.nn s fun i o=>
  M.load1 i (o+1) fun d=>
  D.slice 1 d fun x1 x1n=>
  M.nn x1 fun i1 o1=>
  M.chk (inB (wr64 (at1.tdiv 64)) x1n)<|
  M.load1 i1 (((wr64 (at1.tdiv 64)).toNat)*1+o1) fun d1=>
  D.int .u64 d1 fun x2=>
  M.chk (decide (0≤at1.tmod 64))<|
  jk1 [.bool ((bits .and .u64 (x2.fdiv (2^(min (at1.tmod 64).toNat 64))) 1)==1)]
 else
  jk1 [.bool false]
def ZcJ:Zg→Nat→List DV→M (List DV):=fun c n args=>
 J.p args fun m args=>
 J.l 2 args fun l ln args=>
 D.nil args<|
 M.join (fun st=>
  J.l 1 st fun ats atsn st=>
  D.nil st<|
  M.call (c 215 [.slice 1 ats atsn]) fun ds=>
  J.s ds fun x ds=>
  J.b ds fun x1 ds=>
  D.nil ds<|
  bif !x1 then
   M.ret [.int .i64 0]
  else
   M.call (c 194 [.ptr m,.str x]) fun ds=>
   J.i .i64 ds fun x2 ds=>
   D.nil ds<|
   M.ret [.int .i64 x2]) fun jk1=>
 M.loop (fun rec1 st=>
  J.l 1 st fun ats1 ats1n st=>
  J.i .i64 st fun i st=>
  D.nil st<|
  bif decide (i<(ln:Int))then
   M.join (fun st=>
    J.l 1 st fun ats2 ats2n st=>
    D.nil st<|
    rec1 [.slice 1 ats2 ats2n,.int .i64 (wr64 (i+1))]) fun jk2=>
   M.nn l fun i1 o=>
   M.chk (inB i ln)<|
   M.load1 i1 (i.toNat*2+o) fun d=>
   D.str d fun x3=>
   M.nn l fun i2 o1=>
   M.chk (inB i ln)<|
   M.load1 i2 (i.toNat*2+o1+1) fun d1=>
   D.slice 4 d1 fun x4 x4n=>
   M.nn l fun i3 o2=>
   M.chk (inB i ln)<|
   M.load1 i3 (i.toNat*2+o2+1) fun d2=>
   D.slice 4 d2 fun x5 x5n=>
   M.join (fun st=>
    J.a st fun cs st=>
    J.s cs fun q r1=>
    J.i .i64 r1 fun q1 r2=>
    D.len r2 12<|
    D.nil st<|
    M.call (c 216 [.agg ((.str q)::(.int .i64 q1)::r2)]) fun ds=>
    J.s ds fun x6 ds=>
    D.nil ds<|
    M.call (c 194 [.ptr m,.str x6]) fun ds=>
    J.i .i64 ds fun x7 ds=>
    D.nil ds<|
    M.new [.int .i64 x7] fun i4=>
    M.load i4 0 1 fun cs1=>
    M.app 1 ats1 ats1n cs1 1 8796093022208 fun p=>
    jk2 [.slice 1 p (ats1n+1)]) fun jk3=>
   M.loop (fun rec2 st=>
    J.a st fun cs2 st=>
    J.s cs2 fun q2 r3=>
    J.i .i64 r3 fun q3 r4=>
    D.len r4 12<|
    J.l 4 st fun rest restn st=>
    J.i .i64 st fun k st=>
    D.nil st<|
    bif decide (k<12)then
     M.chk (decide (0≤k))<|
     M.join (fun st=>
      J.a st fun cs3 st=>
      J.s cs3 fun q4 r5=>
      J.i .i64 r5 fun q5 r6=>
      D.len r6 12<|
      J.l 4 st fun rest1 rest1n st=>
      D.nil st<|
      rec2 [.agg ((.str q4)::(.int .i64 q5)::r6),.slice 4 rest1 rest1n,.int .i64 (wr64 (k+1))]) fun jk4=>
     bif ((q3.fdiv (2^(min k.toNat 64))).tmod 2)==1 then
      M.chk (decide (0≤k))<|
      M.chk (decide (0≤wr64 (1*2^(min k.toNat 64)))&&decide (wr64 (1*2^(min k.toNat 64))≤(restn:Int)))<|
      M.call (c 217 [.ptr m,.slice 4 rest ((wr64 (1*2^(min k.toNat 64))).toNat)]) fun ds=>
      J.i .i64 ds fun x8 ds=>
      D.nil ds<|
      M.chk (inB k 12)<|
      M.chk (Nat.ble (k.toNat*1+2+1) 14)<|
      M.chk (decide (0≤k))<|
      M.chk (decide (0≤wr64 (1*2^(min k.toNat 64)))&&decide (wr64 (1*2^(min k.toNat 64))≤(restn:Int)))<|
      jk4 [.agg ((.str q2)::(.int .i64 q3)::(spl r4 (k.toNat*1) [.int .i64 x8])),.slice 4 (cutA true rest (((wr64 (1*2^(min k.toNat 64))).toNat)*4)) (restn-((wr64 (1*2^(min k.toNat 64))).toNat))]
     else
      jk4 [.agg ((.str q2)::(.int .i64 q3)::r4),.slice 4 rest restn]
    else
     jk3 [.agg ((.str q2)::(.int .i64 q3)::r4)]) n [.agg [.str x3,.int .i64 (x4n:Int),.int .i64 0,.int .i64 0,.int .i64 0,.int .i64 0,.int .i64 0,.int .i64 0,.int .i64 0,.int .i64 0,.int .i64 0,.int .i64 0,.int .i64 0,.int .i64 0],.slice 4 x5 x5n,.int .i64 0]
  else
   jk1 [.slice 1 ats1 ats1n]) n [.slice 0 none 0,.int .i64 0]
def Zch:Zg→Nat→List DV→M (List DV):=fun c n args=>
 J.p args fun m args=>
 J.a args fun cs args=>
 J.i .i64 cs fun x r=>
 J.i .i64 r fun x1 r=>
 J.i .i64 r fun x2 r=>
 J.l 2 r fun x3 x3n r=>
 J.l 1 r fun x4 x4n r=>
 J.l 1 r fun x5 x5n r=>
 D.nil r<|
 D.nil args<|
 M.join (fun st=>
  J.l 1 st fun leaves leavesn st=>
  D.nil st<|
  bif (leavesn:Int)==0 then
   M.ret [.int .i64 0]
  else
   M.join (fun st=>
    J.a st fun cs1 st=>
    D.len cs1 16<|
    D.nil st<|
    M.call (c 218 [.agg cs1]) fun ds=>
    J.s ds fun x6 ds=>
    J.b ds fun x7 ds=>
    D.nil ds<|
    M.call (c 194 [.ptr m,.str x6]) fun ds=>
    J.i .i64 ds fun x8 ds=>
    D.nil ds<|
    M.ret [.int .i64 x8]) fun jk2=>
   M.loop (fun rec1 st=>
    J.a st fun cs2 st=>
    D.len cs2 16<|
    J.i .i64 st fun i st=>
    D.nil st<|
    M.join (fun st=>J.b st fun b1 st=>D.nil st<|
     bif b1 then
      M.join (fun st=>
       J.a st fun cs3 st=>
      D.len cs3 16<|
      D.nil st<|
      rec1 [.agg cs3,.int .i64 (wr64 (i+1))]) fun jk4=>
      M.join (fun st=>
       J.a st fun cs4 st=>
      D.len cs4 16<|
      D.nil st<|
      M.call (c 218 [.agg cs4]) fun ds=>
      J.s ds fun x9 ds=>
      J.b ds fun x10 ds=>
      D.nil ds<|
      M.call (c 194 [.ptr m,.str x9]) fun ds=>
      J.i .i64 ds fun x11 ds=>
      D.nil ds<|
      M.chk (inB i 16)<|
      M.chk (Nat.ble (i.toNat*1+1) 16)<|
      jk4 [.agg (spl cs2 (i.toNat*1) [.int .i64 x11])]) fun jk5=>
      M.loop (fun rec2 st=>
       J.a st fun cs5 st=>
      D.len cs5 16<|
      J.i .i64 st fun k st=>
      D.nil st<|
      M.join (fun st=>J.b st fun b2 st=>D.nil st<|
       bif b2 then
       M.nn leaves fun i1 o=>
      M.chk (inB (wr64 ((wr64 (16*i))+k)) leavesn)<|
      M.load1 i1 (((wr64 ((wr64 (16*i))+k)).toNat)*1+o) fun d=>
      D.int .i64 d fun x12=>
      M.chk (inB k 16)<|
      M.chk (Nat.ble (k.toNat*1+1) 16)<|
      rec2 [.agg (spl cs5 (k.toNat*1) [.int .i64 x12]),.int .i64 (wr64 (k+1))]
      else
       jk5 [.agg cs5]) fun jk6=>
      bif decide (k<16)then
       jk6 [.bool (decide (wr64 ((wr64 (16*i))+k)<(leavesn:Int)))]
      else
       jk6 [.bool false]) n [.agg (List.replicate 16 (.int .i64 0)),.int .i64 0]
     else
      jk2 [.agg cs2]) fun jk3=>
    bif decide (i<16)then
     jk3 [.bool (decide (wr64 (16*i)<(leavesn:Int)))]
    else
     jk3 [.bool false]) n [.agg (List.replicate 16 (.int .i64 0)),.int .i64 0]) fun jk1=>
 M.loop (fun rec3 st=>
  J.l 1 st fun leaves1 leaves1n st=>
  J.i .i64 st fun first st=>
  D.nil st<|
  bif decide (first<(x4n:Int))then
   M.join (fun st=>
    J.l 1 st fun leaves2 leaves2n st=>
    D.nil st<|
    rec3 [.slice 1 leaves2 leaves2n,.int .i64 (wr64 (first+7))]) fun jk7=>
   M.join (fun st=>
    J.a st fun cs6 st=>
    D.len cs6 21<|
    D.nil st<|
    M.call (c 219 [.agg cs6]) fun ds=>
    J.s ds fun x13 ds=>
    J.b ds fun x14 ds=>
    D.nil ds<|
    M.call (c 194 [.ptr m,.str x13]) fun ds=>
    J.i .i64 ds fun x15 ds=>
    D.nil ds<|
    M.new [.int .i64 x15] fun i2=>
    M.load i2 0 1 fun cs7=>
    M.app 1 leaves1 leaves1n cs7 1 8796093022208 fun p=>
    jk7 [.slice 1 p (leaves1n+1)]) fun jk8=>
   M.loop (fun rec4 st=>
    J.a st fun cs8 st=>
    D.len cs8 21<|
    J.i .i64 st fun i3 st=>
    D.nil st<|
    M.join (fun st=>J.b st fun b3 st=>D.nil st<|
     bif b3 then
      M.join (fun st=>
       J.a st fun cs9 st=>
      D.len cs9 21<|
      D.nil st<|
      rec4 [.agg cs9,.int .i64 (wr64 (i3+1))]) fun jk10=>
      M.nn x4 fun i4 o1=>
      M.chk (inB (wr64 (first+i3)) x4n)<|
      M.load1 i4 (((wr64 (first+i3)).toNat)*1+o1) fun d1=>
      D.int .i64 d1 fun x16=>
      M.chk (inB i3 7)<|
      M.chk (Nat.ble (i3.toNat*3+3) 21)<|
      M.nn m fun i5 o2=>
      M.load1 i5 (o2+2) fun d2=>
      D.slice 1 d2 fun x17 x17n=>
      M.nn x17 fun i6 o3=>
      M.chk (inB (wr64 (first+i3)) x17n)<|
      M.load1 i6 (((wr64 (first+i3)).toNat)*1+o3) fun d3=>
      D.int .i64 d3 fun x18=>
      M.join (fun st=>
       J.a st fun cs10 st=>
      D.len cs10 21<|
      D.nil st<|
      M.join (fun st=>
       J.a st fun cs11 st=>
      D.len cs11 21<|
      D.nil st<|
      jk10 [.agg cs11]) fun jk12=>
      M.loop (fun rec5 st=>
       J.a st fun cs12 st=>
      D.len cs12 21<|
      J.i .i64 st fun k1 st=>
      D.nil st<|
      bif decide (wr64 (k1+1)<(x5n:Int))then
       M.nn x5 fun i7 o4=>
      M.chk (inB k1 x5n)<|
      M.load1 i7 (k1.toNat*1+o4) fun d4=>
      D.int .i64 d4 fun x19=>
      M.join (fun st=>
       J.a st fun cs13 st=>
      D.len cs13 21<|
      D.nil st<|
      rec5 [.agg cs13,.int .i64 (wr64 (k1+1))]) fun jk13=>
      bif x19==(wr64 (first+i3))then
       M.nn x5 fun i8 o5=>
      M.chk (inB (wr64 (k1+1)) x5n)<|
      M.load1 i8 (((wr64 (k1+1)).toNat)*1+o5) fun d5=>
      D.int .i64 d5 fun x20=>
      M.chk (inB i3 7)<|
      M.chk (Nat.ble (i3.toNat*3+2+1) 21)<|
      jk13 [.agg (spl cs12 (i3.toNat*3+2) [.int .i64 (wr64 (x20+1))])]
      else
       jk13 [.agg cs12]
      else
       jk12 [.agg cs12]) n [.agg cs10,.int .i64 0]) fun jk11=>
      bif !(x18==0)then
       M.chk (inB i3 7)<|
      M.chk (Nat.ble (i3.toNat*3+1) 21)<|
      M.nn m fun i9 o6=>
      M.load1 i9 (o6+2) fun d6=>
      D.slice 1 d6 fun x21 x21n=>
      M.nn x21 fun i10 o7=>
      M.chk (inB (wr64 (first+i3)) x21n)<|
      M.load1 i10 (((wr64 (first+i3)).toNat)*1+o7) fun d7=>
      D.int .i64 d7 fun x22=>
      M.chk (inB i3 7)<|
      M.chk (Nat.ble (i3.toNat*3+2+1) 21)<|
      jk11 [.agg (spl (spl (spl cs8 (i3.toNat*3) [.bool false,.int .i64 x16,.int .i64 0]) (i3.toNat*3) [.bool true]) (i3.toNat*3+2) [.int .i64 x22])]
      else
       jk11 [.agg (spl cs8 (i3.toNat*3) [.bool false,.int .i64 x16,.int .i64 0])]
     else
      jk8 [.agg cs8]) fun jk9=>
    bif decide (i3<7)then
     jk9 [.bool (decide (wr64 (first+i3)<(x4n:Int)))]
    else
     jk9 [.bool false]) n [.agg [.bool false,.int .i64 0,.int .i64 0,.bool false,.int .i64 0,.int .i64 0,.bool false,.int .i64 0,.int .i64 0,.bool false,.int .i64 0,.int .i64 0,.bool false,.int .i64 0,.int .i64 0,.bool false,.int .i64 0,.int .i64 0,.bool false,.int .i64 0,.int .i64 0],.int .i64 0]
  else
   jk1 [.slice 1 leaves1 leaves1n]) n [.slice 0 none 0,.int .i64 0]
def ZgH:Zg→Nat→List DV→M (List DV):=fun c n args=>
 J.a args fun cs args=>
 J.i .i64 cs fun s r=>
 J.i .i64 r fun s1 r=>
 J.i .i64 r fun s2 r=>
 J.i .i64 r fun s3 r=>
 J.i .i64 r fun s4 r=>
 J.i .i64 r fun s5 r=>
 J.i .i64 r fun s6 r=>
 J.i .i64 r fun s7 r=>
 J.l 1 r fun s8 s8n r=>
 D.nil r<|
 D.nil args<|
 M.callX (c 213 [.int .u64 (IntKind.wrap .u64 (s)),.int .i64 8]) fun ds=>
 J.s ds fun x ds=>
 D.nil ds<|
 M.callX (c 213 [.int .u64 (IntKind.wrap .u64 (s1)),.int .i64 4]) fun ds=>
 J.s ds fun x1 ds=>
 D.nil ds<|
 M.chk (Nat.ble (x.length+x1.length) 4611686018427387904)<|
 M.callX (c 213 [.int .u64 (IntKind.wrap .u64 (s2)),.int .i64 4]) fun ds=>
 J.s ds fun x2 ds=>
 D.nil ds<|
 M.chk (Nat.ble ((x++x1).length+x2.length) 4611686018427387904)<|
 M.callX (c 213 [.int .u64 (IntKind.wrap .u64 (s3)),.int .i64 4]) fun ds=>
 J.s ds fun x3 ds=>
 D.nil ds<|
 M.chk (Nat.ble (((x++x1)++x2).length+x3.length) 4611686018427387904)<|
 M.callX (c 213 [.int .u64 (IntKind.wrap .u64 (s5)),.int .i64 4]) fun ds=>
 J.s ds fun x4 ds=>
 D.nil ds<|
 M.chk (Nat.ble ((((x++x1)++x2)++x3).length+x4.length) 4611686018427387904)<|
 M.callN (c 213 [.int .u64 (IntKind.wrap .u64 (s6)),.int .i64 4]) fun ds=>
 J.s ds fun x5 ds=>
 D.nil ds<|
 M.chk (Nat.ble (((((x++x1)++x2)++x3)++x4).length+x5.length) 4611686018427387904)<|
 M.callX (c 213 [.int .u64 (IntKind.wrap .u64 (s4)),.int .i64 2]) fun ds=>
 J.s ds fun x6 ds=>
 D.nil ds<|
 M.chk (Nat.ble ((((((x++x1)++x2)++x3)++x4)++x5).length+x6.length) 4611686018427387904)<|
 M.callN (c 213 [.int .u64 (IntKind.wrap .u64 (s7)),.int .i64 2]) fun ds=>
 J.s ds fun x7 ds=>
 D.nil ds<|
 M.chk (Nat.ble (((((((x++x1)++x2)++x3)++x4)++x5)++x6).length+x7.length) 4611686018427387904)<|
 M.join (fun st=>
  J.s st fun t st=>
  D.nil st<|
  M.call (c 214 [.int .i64 7,.int .i64 (s8n:Int),.str t]) fun ds=>
  J.s ds fun x8 ds=>
  D.nil ds<|
  M.ret [.str x8]) fun jk1=>
 M.loop (fun rec1 st=>
  J.s st fun t1 st=>
  J.i .i64 st fun i st=>
  D.nil st<|
  bif decide (i<(s8n:Int))then
   M.nn s8 fun i1 o=>
   M.chk (inB i s8n)<|
   M.load1 i1 (i.toNat*1+o) fun d=>
   D.int .i64 d fun x9=>
   M.call (c 213 [.int .u64 (IntKind.wrap .u64 (x9)),.int .i64 2]) fun ds=>
   J.s ds fun x10 ds=>
   D.nil ds<|
   M.chk (Nat.ble (t1.length+x10.length) 4611686018427387904)<|
   rec1 [.str (t1++x10),.int .i64 (wr64 (i+1))]
  else
   jk1 [.str t1]) n [.str (((((((x++x1)++x2)++x3)++x4)++x5)++x6)++x7),.int .i64 0]
def ZfT:Zg→Nat→List DV→M (List DV):=fun c n args=>
 J.i .i64 args fun place args=>
 J.l 1 args fun l ln args=>
 D.nil args<|
 M.join (fun st=>
  J.a st fun cs st=>
  J.i .i64 cs fun c1 r1=>
  D.len r1 48<|
  D.nil st<|
  D.len ((.int .i64 c1)::r1) 49<|
  M.ret [.agg ((.int .i64 c1)::r1)]) fun jk1=>
 M.loop (fun rec1 st=>
  J.a st fun cs1 st=>
  J.i .i64 cs1 fun c2 r2=>
  D.len r2 48<|
  J.i .i64 st fun i st=>
  D.nil st<|
  bif decide (i<(ln:Int))then
   M.nn l fun i1 o=>
   M.chk (inB i ln)<|
   M.load1 i1 (i.toNat*1+o) fun d=>
   D.int .i64 d fun x=>
   M.join (fun st=>J.b st fun b1 st=>D.nil st<|
    M.join (fun st=>
     J.a st fun cs2 st=>
     J.i .i64 cs2 fun c3 r3=>
     D.len r3 48<|
     D.nil st<|
     rec1 [.agg ((.int .i64 c3)::r3),.int .i64 (wr64 (i+1))]) fun jk3=>
    bif b1 then
     M.nn l fun i2 o1=>
     M.chk (inB i ln)<|
     M.load1 i2 (i.toNat*1+o1) fun d1=>
     D.int .i64 d1 fun x1=>
     M.chk (inB (wr64 ((wr64 (x1-(wr64 (384*place)))).tdiv 8)) 48)<|
     D.nth r2 (((wr64 ((wr64 (x1-(wr64 (384*place)))).tdiv 8)).toNat)*1) fun d2=>
     D.int .u8 d2 fun x2=>
     M.chk (decide (0≤(wr64 (x1-(wr64 (384*place)))).tmod 8))<|
     M.chk (inB (wr64 ((wr64 (x1-(wr64 (384*place)))).tdiv 8)) 48)<|
     M.chk (Nat.ble (((wr64 ((wr64 (x1-(wr64 (384*place)))).tdiv 8)).toNat)*1+1+1) 49)<|
     jk3 [.agg ((.int .i64 c2)::(spl r2 (((wr64 ((wr64 (x1-(wr64 (384*place)))).tdiv 8)).toNat)*1) [.int .u8 (bits .or .u8 x2 (IntKind.wrap .u8 (1*2^(min ((wr64 (x1-(wr64 (384*place)))).tmod 8).toNat 8))))]))]
    else
     jk3 [.agg ((.int .i64 c2)::r2)]) fun jk2=>
   bif decide (x≥wr64 (384*place))then
    M.nn l fun i3 o2=>
    M.chk (inB i ln)<|
    M.load1 i3 (i.toNat*1+o2) fun d3=>
    D.int .i64 d3 fun x3=>
    jk2 [.bool (decide (x3<wr64 ((wr64 (384*place))+384)))]
   else
    jk2 [.bool false]
  else
   jk1 [.agg ((.int .i64 c2)::r2)]) n [.agg [.int .i64 place,.int .u8 0,.int .u8 0,.int .u8 0,.int .u8 0,.int .u8 0,.int .u8 0,.int .u8 0,.int .u8 0,.int .u8 0,.int .u8 0,.int .u8 0,.int .u8 0,.int .u8 0,.int .u8 0,.int .u8 0,.int .u8 0,.int .u8 0,.int .u8 0,.int .u8 0,.int .u8 0,.int .u8 0,.int .u8 0,.int .u8 0,.int .u8 0,.int .u8 0,.int .u8 0,.int .u8 0,.int .u8 0,.int .u8 0,.int .u8 0,.int .u8 0,.int .u8 0,.int .u8 0,.int .u8 0,.int .u8 0,.int .u8 0,.int .u8 0,.int .u8 0,.int .u8 0,.int .u8 0,.int .u8 0,.int .u8 0,.int .u8 0,.int .u8 0,.int .u8 0,.int .u8 0,.int .u8 0,.int .u8 0],.int .i64 0]
def ZgI:Zg→Nat→List DV→M (List DV):=fun c n args=>
 J.a args fun cs args=>
 J.i .i64 cs fun c1 r1=>
 D.len r1 48<|
 D.nil args<|
 D.len ((.int .i64 c1)::r1) 49<|
 M.new ((.int .i64 c1)::r1) fun c2=>
 M.load1 c2 0 fun d=>
 D.int .i64 d fun x=>
 M.load c2 1 48 fun _=>
 M.load c2 1 48 fun cs1=>
 D.oct cs1 fun l=>
 M.call (c 214 [.int .i64 4,.int .i64 x,.str l]) fun ds=>
 J.s ds fun x1 ds=>
 D.nil ds<|
 M.ret [.str x1]
def ZcH:Zg→Nat→List DV→M (List DV):=fun c n args=>
 J.p args fun m args=>
 J.s args fun s args=>
 D.nil args<|
 M.nn m fun i o=>
 M.load1 i (o+1) fun d=>
 D.int .i64 d fun x=>
 M.nn m fun i1 o1=>
 M.load1 i1 (o1+1) fun d1=>
 D.int .i64 d1 fun x1=>
 M.nn m fun i2 o2=>
 M.store i2 (o2+1) [.int .i64 (wr64 (x1+1))]<|
 M.nn m fun i3 o3=>
 M.load1 i3 o3 fun d2=>
 D.slice 1 d2 fun x2 x2n=>
 M.join (fun st=>
  D.nil st<|
  M.ret [.int .i64 x]) fun jk1=>
 bif decide ((x2n:Int)≥wr64 ((wr64 (64*x))+64))then
  M.nn m fun i4 o4=>
  M.load1 i4 o4 fun d3=>
  D.slice 1 d3 fun x3 x3n=>
  M.chk (decide (0≤wr64 (64*x))&&decide (wr64 (64*x)≤(x3n:Int)))<|
  M.wr (cutA true x3 (((wr64 (64*x)).toNat)*1)) (ZF (s.take (x3n-((wr64 (64*x)).toNat))))<|
  jk1 []
 else
  jk1 []
def Zem:Zg→Nat→List DV→M (List DV):=fun c n args=>
 J.a args fun cs args=>
 J.i .i64 cs fun s r=>
 J.i .i64 r fun s1 r=>
 J.i .i64 r fun s2 r=>
 J.i .i64 r fun s3 r=>
 J.i .i64 r fun s4 r=>
 J.i .i64 r fun s5 r=>
 J.i .i64 r fun s6 r=>
 J.i .i64 r fun s7 r=>
 J.l 1 r fun s8 s8n r=>
 D.nil r<|
 D.nil args<|
 M.join (fun st=>J.b st fun b1 st=>D.nil st<|
  M.join (fun st=>J.b st fun b2 st=>D.nil st<|
   bif b2 then
    M.ret [.bool false]
   else
    M.join (fun st=>J.b st fun b3 st=>D.nil st<|
     M.join (fun st=>J.b st fun b4 st=>D.nil st<|
      M.join (fun st=>J.b st fun b5 st=>D.nil st<|
       M.join (fun st=>J.b st fun b6 st=>D.nil st<|
       bif b6 then
       M.ret [.bool false]
      else
       M.join (fun st=>
       J.l 1 st fun need needn st=>
      D.nil st<|
      M.join (fun st=>
       J.l 1 st fun need1 need1n st=>
      D.nil st<|
      M.join (fun st=>
       J.l 1 st fun need2 need2n st=>
      D.nil st<|
      M.join (fun st=>
       D.nil st<|
      M.ret [.bool true]) fun jk10=>
      M.loop (fun rec1 st=>
       J.i .i64 st fun i st=>
      D.nil st<|
      bif decide (i<(need2n:Int))then
       M.nn need2 fun i1 o=>
      M.chk (inB i need2n)<|
      M.load1 i1 (i.toNat*1+o) fun d=>
      D.int .i64 d fun x=>
      M.join (fun st=>J.b st fun b7 st=>D.nil st<|
       bif b7 then
       M.ret [.bool false]
      else
       rec1 [.int .i64 (wr64 (i+1))]) fun jk11=>
      bif decide (x<2)then
       jk11 [.bool true]
      else
       M.nn need2 fun i2 o1=>
      M.chk (inB i need2n)<|
      M.load1 i2 (i.toNat*1+o1) fun d1=>
      D.int .i64 d1 fun x1=>
      jk11 [.bool (decide (x1≥s1))]
      else
       jk10 []) n [.int .i64 0]) fun jk9=>
      M.loop (fun rec2 st=>
       J.l 1 st fun need3 need3n st=>
      J.i .i64 st fun i3 st=>
      D.nil st<|
      bif decide (i3<(s8n:Int))then
       M.join (fun st=>
       J.l 1 st fun need4 need4n st=>
      D.nil st<|
      rec2 [.slice 1 need4 need4n,.int .i64 (wr64 (i3+1))]) fun jk12=>
      M.nn s8 fun i4 o2=>
      M.chk (inB i3 s8n)<|
      M.load1 i4 (i3.toNat*1+o2) fun d2=>
      D.int .i64 d2 fun x2=>
      M.new [.int .i64 x2] fun i5=>
      M.load i5 0 1 fun cs1=>
      M.app 1 need3 need3n cs1 1 8796093022208 fun p=>
      M.join (fun st=>
       D.nil st<|
      jk12 [.slice 1 p (need3n+1)]) fun jk13=>
      M.loop (fun rec3 st=>
       J.i .i64 st fun k st=>
      D.nil st<|
      bif decide (k<i3)then
       M.nn s8 fun i6 o3=>
      M.chk (inB k s8n)<|
      M.load1 i6 (k.toNat*1+o3) fun d3=>
      D.int .i64 d3 fun x3=>
      M.nn s8 fun i7 o4=>
      M.chk (inB i3 s8n)<|
      M.load1 i7 (i3.toNat*1+o4) fun d4=>
      D.int .i64 d4 fun x4=>
      bif x3==x4 then
       M.ret [.bool false]
      else
       rec3 [.int .i64 (wr64 (k+1))]
      else
       jk13 []) n [.int .i64 0]
      else
       jk9 [.slice 1 need3 need3n]) n [.slice 1 need1 need1n,.int .i64 0]) fun jk8=>
      bif !(s7==0)then
       M.new [.int .i64 s7] fun i8=>
      M.load i8 0 1 fun cs2=>
      M.app 1 need needn cs2 1 8796093022208 fun p1=>
      jk8 [.slice 1 p1 (needn+1)]
      else
       jk8 [.slice 1 need needn]) fun jk7=>
      bif s5==0 then
       bif !(s4==0)then
       M.ret [.bool false]
      else
       jk7 [.slice 0 none 0]
      else
       M.new [.int .i64 s4] fun i9=>
      M.load i9 0 1 fun cs3=>
      M.app 1 none 0 cs3 1 8796093022208 fun p2=>
      jk7 [.slice 1 p2 1]) fun jk6=>
      bif b5 then
       jk6 [.bool true]
      else
       M.callN (c 196 [.agg [.int .i64 s1,.int .i64 s2,.int .i64 s3]]) fun ds=>
      J.i .i64 ds fun x5 ds=>
      D.nil ds<|
      jk6 [.bool (!((s8n:Int)==x5))]) fun jk5=>
      bif b4 then
       jk5 [.bool true]
      else
       jk5 [.bool (decide (s6>s5))]) fun jk4=>
     bif b3 then
      jk4 [.bool true]
     else
      jk4 [.bool (decide (s6<0))]) fun jk3=>
    bif decide (s5<0)then
     jk3 [.bool true]
    else
     jk3 [.bool (decide (s5>s2))]) fun jk2=>
  bif b1 then
   jk2 [.bool true]
  else
   M.call (c 141 [.agg [.int .i64 s1,.int .i64 s2,.int .i64 s3]]) fun ds=>
   J.b ds fun x6 ds=>
   D.nil ds<|
   jk2 [.bool (!x6)]) fun jk1=>
 bif decide (s<1)then
  jk1 [.bool true]
 else
  jk1 [.bool (decide (s>4611686018427387904))]
def ZdW:Zg→Nat→List DV→M (List DV):=fun c n args=>
 J.a args fun cs args=>
 J.i .i64 cs fun g r=>
 J.i .i64 r fun g1 r=>
 J.i .i64 r fun g2 r=>
 D.nil r<|
 D.nil args<|
 M.call (c 220 [.int .i64 g,.int .i64 384]) fun ds=>
 J.i .i64 ds fun x ds=>
 D.nil ds<|
 M.ret [.int .i64 x]
def Zer:Zg→Nat→List DV→M (List DV):=fun c n args=>
 J.a args fun cs args=>
 J.i .i64 cs fun s r=>
 J.i .i64 r fun s1 r=>
 J.i .i64 r fun s2 r=>
 J.i .i64 r fun s3 r=>
 J.i .i64 r fun s4 r=>
 J.i .i64 r fun s5 r=>
 J.i .i64 r fun s6 r=>
 J.i .i64 r fun s7 r=>
 J.l 1 r fun s8 s8n r=>
 D.nil r<|
 D.nil args<|
 M.new [.int .i64 s,.int .i64 s1,.int .i64 s2,.int .i64 s3,.int .i64 s4,.int .i64 s5,.int .i64 s6,.int .i64 s7,.slice 1 s8 s8n] fun s9=>
 M.load1 s9 0 fun d=>
 D.int .i64 d fun x=>
 M.join (fun st=>J.b st fun b1 st=>D.nil st<|
  M.join (fun st=>J.b st fun b2 st=>D.nil st<|
   M.join (fun st=>J.b st fun b3 st=>D.nil st<|
    M.join (fun st=>J.b st fun b4 st=>D.nil st<|
     M.join (fun st=>J.b st fun b5 st=>D.nil st<|
      M.join (fun st=>J.b st fun b6 st=>D.nil st<|
       bif b6 then
       M.ret [.bool false]
      else
       M.load1 s9 5 fun d1=>
      D.int .i64 d1 fun x1=>
      M.join (fun st=>J.b st fun b7 st=>D.nil st<|
       M.join (fun st=>J.b st fun b8 st=>D.nil st<|
       M.join (fun st=>J.b st fun b9 st=>D.nil st<|
       M.join (fun st=>J.b st fun b10 st=>D.nil st<|
       bif b10 then
       M.ret [.bool false]
      else
       M.load1 s9 8 fun d2=>
      D.slice 1 d2 fun x2 x2n=>
      M.join (fun st=>
       D.nil st<|
      M.ret [.bool true]) fun jk11=>
      M.loop (fun rec1 st=>
       J.i .i64 st fun x3 st=>
      D.nil st<|
      bif decide (x3<(x2n:Int))then
       M.nn x2 fun i o=>
      M.chk (inB x3 x2n)<|
      M.load1 i (x3.toNat*1+o) fun d3=>
      D.int .i64 d3 fun x4=>
      M.call (c 221 [.int .i64 x4,.ptr (some (s9,0))]) fun ds=>
      J.b ds fun x5 ds=>
      D.nil ds<|
      M.join (fun st=>J.b st fun b11 st=>D.nil st<|
       bif b11 then
       M.ret [.bool false]
      else
       rec1 [.int .i64 (wr64 (x3+1))]) fun jk12=>
      bif !x5 then
       jk12 [.bool true]
      else
       M.load1 s9 8 fun d4=>
      D.slice 1 d4 fun x6 x6n=>
      M.chk (decide (0≤x3)&&decide (x3≤(x6n:Int)))<|
      M.call (c 222 [.slice 1 x6 x3.toNat,.int .i64 x4]) fun ds=>
      J.b ds fun x7 ds=>
      D.nil ds<|
      jk12 [.bool x7]
      else
       jk11 []) n [.int .i64 0]) fun jk10=>
      bif b9 then
       jk10 [.bool true]
      else
       M.load1 s9 8 fun d5=>
      D.slice 1 d5 fun x8 x8n=>
      M.load s9 1 3 fun cs1=>
      J.i .i64 cs1 fun x9 r=>
      J.i .i64 r fun x10 r=>
      J.i .i64 r fun x11 r=>
      D.nil r<|
      M.callX (c 223 [.agg [.int .i64 x9,.int .i64 x10,.int .i64 x11]]) fun ds=>
      J.i .i64 ds fun x12 ds=>
      D.nil ds<|
      jk10 [.bool (!((x8n:Int)==x12))]) fun jk9=>
      bif b8 then
       jk9 [.bool true]
      else
       M.load1 s9 7 fun d6=>
      D.int .i64 d6 fun x13=>
      M.join (fun st=>J.b st fun b12 st=>D.nil st<|
       jk9 [.bool b12]) fun jk13=>
      bif !(x13==0)then
       M.load1 s9 7 fun d7=>
      D.int .i64 d7 fun x14=>
      M.call (c 221 [.int .i64 x14,.ptr (some (s9,0))]) fun ds=>
      J.b ds fun x15 ds=>
      D.nil ds<|
      jk13 [.bool (!x15)]
      else
       jk13 [.bool false]) fun jk8=>
      bif b7 then
       jk8 [.bool true]
      else
       M.load1 s9 5 fun d8=>
      D.int .i64 d8 fun x16=>
      M.join (fun st=>J.b st fun b13 st=>D.nil st<|
       jk8 [.bool b13]) fun jk14=>
      bif decide (x16>0)then
       M.load1 s9 4 fun d9=>
      D.int .i64 d9 fun x17=>
      M.call (c 221 [.int .i64 x17,.ptr (some (s9,0))]) fun ds=>
      J.b ds fun x18 ds=>
      D.nil ds<|
      jk14 [.bool (!x18)]
      else
       jk14 [.bool false]) fun jk7=>
      bif x1==0 then
       M.load1 s9 4 fun d10=>
      D.int .i64 d10 fun x19=>
      jk7 [.bool (!(x19==0))]
      else
       jk7 [.bool false]) fun jk6=>
      bif b5 then
       jk6 [.bool true]
      else
       M.load1 s9 6 fun d11=>
      D.int .i64 d11 fun x20=>
      M.load1 s9 5 fun d12=>
      D.int .i64 d12 fun x21=>
      jk6 [.bool (decide (x20>x21))]) fun jk5=>
     bif b4 then
      jk5 [.bool true]
     else
      M.load1 s9 6 fun d13=>
      D.int .i64 d13 fun x22=>
      jk5 [.bool (decide (x22<0))]) fun jk4=>
    bif b3 then
     jk4 [.bool true]
    else
     M.load1 s9 5 fun d14=>
     D.int .i64 d14 fun x23=>
     M.load1 s9 2 fun d15=>
     D.int .i64 d15 fun x24=>
     jk4 [.bool (decide (x23>x24))]) fun jk3=>
   bif b2 then
    jk3 [.bool true]
   else
    M.load1 s9 5 fun d16=>
    D.int .i64 d16 fun x25=>
    jk3 [.bool (decide (x25<0))]) fun jk2=>
  bif b1 then
   jk2 [.bool true]
  else
   M.load s9 1 3 fun cs2=>
   J.i .i64 cs2 fun x26 r=>
   J.i .i64 r fun x27 r=>
   J.i .i64 r fun x28 r=>
   D.nil r<|
   M.call (c 145 [.agg [.int .i64 x26,.int .i64 x27,.int .i64 x28]]) fun ds=>
   J.b ds fun x29 ds=>
   D.nil ds<|
   jk2 [.bool (!x29)]) fun jk1=>
 bif decide (x<1)then
  jk1 [.bool true]
 else
  M.load1 s9 0 fun d17=>
  D.int .i64 d17 fun x30=>
  jk1 [.bool (decide (x30>4611686018427387904))]
def Zgy:Zg→Nat→List DV→M (List DV):=fun c n args=>
 J.i .i64 args fun n1 args=>
 J.l 49 args fun cs csn args=>
 D.nil args<|
 M.join (fun st=>J.b st fun b1 st=>D.nil st<|
  M.join (fun st=>J.b st fun b2 st=>D.nil st<|
   bif b2 then
    M.ret [.ptr none,.bool false]
   else
    M.call (c 177 [.int .i64 n1,.slice 0 none 0]) fun ds=>
    J.p ds fun x ds=>
    D.nil ds<|
    M.join (fun st=>
     D.nil st<|
     M.ret [.ptr x,.bool true]) fun jk3=>
    M.loop (fun rec1 st=>
     J.i .i64 st fun x1 st=>
     D.nil st<|
     bif decide (x1<(csn:Int))then
      M.nn cs fun i o=>
      M.chk (inB x1 csn)<|
      M.load i (x1.toNat*49+o) 49 fun cs1=>
      J.i .i64 cs1 fun x2 r1=>
      D.len r1 48<|
      D.len ((.int .i64 x2)::r1) 49<|
      M.call (c 239 [.agg ((.int .i64 x2)::r1)]) fun ds=>
      J.l 1 ds fun x3 x3n ds=>
      D.nil ds<|
      M.join (fun st=>J.b st fun b3 st=>D.nil st<|
       bif b3 then
       M.ret [.ptr none,.bool false]
      else
       M.call (c 206 [.ptr x,.slice 1 x3 x3n]) fun ds=>
      D.nil ds<|
      rec1 [.int .i64 (wr64 (x1+1))]) fun jk4=>
      bif !(x2==x1)then
       jk4 [.bool true]
      else
       M.join (fun st=>J.b st fun b4 st=>D.nil st<|
       jk4 [.bool b4]) fun jk5=>
      bif decide ((x3n:Int)>0)then
       M.nn x3 fun i1 o1=>
      M.chk (inB (wr64 ((x3n:Int)-1)) x3n)<|
      M.load1 i1 (((wr64 ((x3n:Int)-1)).toNat)*1+o1) fun d=>
      D.int .i64 d fun x4=>
      jk5 [.bool (decide (x4≥n1))]
      else
       jk5 [.bool false]
     else
      jk3 []) n [.int .i64 0]) fun jk2=>
  bif b1 then
   jk2 [.bool true]
  else
   M.call (c 240 [.int .i64 n1]) fun ds=>
   J.i .i64 ds fun x5 ds=>
   D.nil ds<|
   jk2 [.bool (!((csn:Int)==x5))]) fun jk1=>
 bif decide (n1<0)then
  jk1 [.bool true]
 else
  jk1 [.bool (decide (n1>3072))]
def Zdq:Zg→Nat→List DV→M (List DV):=fun c n args=>
 J.p args fun s args=>
 J.p args fun t args=>
 D.nil args<|
 M.call (c 241 [.ptr s]) fun ds=>
 J.p ds fun x ds=>
 D.nil ds<|
 M.call (c 172 [.ptr t]) fun ds=>
 J.l 1 ds fun x1 x1n ds=>
 D.nil ds<|
 M.call (c 206 [.ptr x,.slice 1 x1 x1n]) fun ds=>
 D.nil ds<|
 M.ret [.ptr x]
def Zdu:Zg→Nat→List DV→M (List DV):=fun c n args=>
 J.p args fun s args=>
 J.p args fun t args=>
 D.nil args<|
 M.nn s fun i o=>
 M.load1 i o fun d=>
 D.int .i64 d fun x=>
 M.nn t fun i1 o1=>
 M.load1 i1 o1 fun d1=>
 D.int .i64 d1 fun x1=>
 M.join (fun st=>J.b st fun b1 st=>D.nil st<|
  M.ret [.bool b1]) fun jk1=>
 bif x==x1 then
  M.nn s fun i2 o2=>
  M.load1 i2 (o2+1) fun d2=>
  D.slice 1 d2 fun x2 x2n=>
  M.nn t fun i3 o3=>
  M.load1 i3 (o3+1) fun d3=>
  D.slice 1 d3 fun x3 x3n=>
  M.call (c 236 [.slice 1 x2 x2n,.slice 1 x3 x3n]) fun ds=>
  J.b ds fun x4 ds=>
  D.nil ds<|
  jk1 [.bool x4]
 else
  jk1 [.bool false]
def ZgR:Zg→Nat→List DV→M (List DV):=fun c n args=>
 J.l 1 args fun image imagen args=>
 J.i .i64 args fun at1 args=>
 D.nil args<|
 M.base fun b0=>
 M.chk (decide (0≤wr64 ((wr64 (at1+1))*64))&&decide (wr64 ((wr64 (at1+1))*64)≤(imagen:Int)))<|
 M.chk (decide (0≤wr64 (at1*64))&&decide (wr64 (at1*64)≤(((wr64 ((wr64 (at1+1))*64)).toNat:Nat):Int)))<|
 M.retF b0 [.slice 1 (cutA true image (((wr64 (at1*64)).toNat)*1)) (((wr64 ((wr64 (at1+1))*64)).toNat)-((wr64 (at1*64)).toNat))]
def ZgL:Zg→Nat→List DV→M (List DV):=fun c n args=>
 J.l 1 args fun b1 b1n args=>
 D.nil args<|
 M.call (c 237 [.slice 1 b1 b1n]) fun ds=>
 J.i .i64 ds fun x ds=>
 J.i .i64 ds fun x1 ds=>
 J.l 1 ds fun x2 x2n ds=>
 J.b ds fun x3 ds=>
 D.nil ds<|
 M.join (fun st=>J.b st fun b2 st=>D.nil st<|
  M.join (fun st=>J.b st fun b3 st=>D.nil st<|
   M.join (fun st=>J.b st fun b4 st=>D.nil st<|
    bif b4 then
     M.ret [.agg [.int .i64 0,.int .u8 0,.int .u8 0,.int .u8 0,.int .u8 0,.int .u8 0,.int .u8 0,.int .u8 0,.int .u8 0,.int .u8 0,.int .u8 0,.int .u8 0,.int .u8 0,.int .u8 0,.int .u8 0,.int .u8 0,.int .u8 0,.int .u8 0,.int .u8 0,.int .u8 0,.int .u8 0,.int .u8 0,.int .u8 0,.int .u8 0,.int .u8 0,.int .u8 0,.int .u8 0,.int .u8 0,.int .u8 0,.int .u8 0,.int .u8 0,.int .u8 0,.int .u8 0,.int .u8 0,.int .u8 0,.int .u8 0,.int .u8 0,.int .u8 0,.int .u8 0,.int .u8 0,.int .u8 0,.int .u8 0,.int .u8 0,.int .u8 0,.int .u8 0,.int .u8 0,.int .u8 0,.int .u8 0,.int .u8 0],.bool false]
    else
     M.new [.int .i64 0,.int .u8 0,.int .u8 0,.int .u8 0,.int .u8 0,.int .u8 0,.int .u8 0,.int .u8 0,.int .u8 0,.int .u8 0,.int .u8 0,.int .u8 0,.int .u8 0,.int .u8 0,.int .u8 0,.int .u8 0,.int .u8 0,.int .u8 0,.int .u8 0,.int .u8 0,.int .u8 0,.int .u8 0,.int .u8 0,.int .u8 0,.int .u8 0,.int .u8 0,.int .u8 0,.int .u8 0,.int .u8 0,.int .u8 0,.int .u8 0,.int .u8 0,.int .u8 0,.int .u8 0,.int .u8 0,.int .u8 0,.int .u8 0,.int .u8 0,.int .u8 0,.int .u8 0,.int .u8 0,.int .u8 0,.int .u8 0,.int .u8 0,.int .u8 0,.int .u8 0,.int .u8 0,.int .u8 0,.int .u8 0] fun c1=>
     M.store c1 0 [.int .i64 x1,.int .u8 0,.int .u8 0,.int .u8 0,.int .u8 0,.int .u8 0,.int .u8 0,.int .u8 0,.int .u8 0,.int .u8 0,.int .u8 0,.int .u8 0,.int .u8 0,.int .u8 0,.int .u8 0,.int .u8 0,.int .u8 0,.int .u8 0,.int .u8 0,.int .u8 0,.int .u8 0,.int .u8 0,.int .u8 0,.int .u8 0,.int .u8 0,.int .u8 0,.int .u8 0,.int .u8 0,.int .u8 0,.int .u8 0,.int .u8 0,.int .u8 0,.int .u8 0,.int .u8 0,.int .u8 0,.int .u8 0,.int .u8 0,.int .u8 0,.int .u8 0,.int .u8 0,.int .u8 0,.int .u8 0,.int .u8 0,.int .u8 0,.int .u8 0,.int .u8 0,.int .u8 0,.int .u8 0,.int .u8 0]<|
     M.load c1 1 48 fun _=>
     M.rd x2 ((min x2n 48)*1) fun cs=>
     M.store c1 1 cs<|
     M.load c1 0 49 fun cs1=>
     J.i .i64 cs1 fun x4 r1=>
     D.len r1 48<|
     D.len ((.int .i64 x4)::r1) 49<|
     M.ret [.agg ((.int .i64 x4)::r1),.bool true]) fun jk3=>
   bif b3 then
    jk3 [.bool true]
   else
    M.call (c 238 [.slice 1 x2 x2n,.int .i64 48,.int .i64 (wr64 ((x2n:Int)-48))]) fun ds=>
    J.b ds fun x5 ds=>
    D.nil ds<|
    jk3 [.bool (!x5)]) fun jk2=>
  bif b2 then
   jk2 [.bool true]
  else
   jk2 [.bool (decide (x1≥8))]) fun jk1=>
 bif !x3 then
  jk1 [.bool true]
 else
  jk1 [.bool (!(x==4))]
def ZdV:Zg→Nat→List DV→M (List DV):=fun c n args=>
 J.p args fun s args=>
 J.l 1 args fun l ln args=>
 D.nil args<|
 M.join (fun st=>
  D.nil st<|
  M.ret []) fun jk1=>
 M.loop (fun rec1 st=>
  J.i .i64 st fun x st=>
  D.nil st<|
  bif decide (x<(ln:Int))then
   M.nn l fun i o=>
   M.chk (inB x ln)<|
   M.load1 i (x.toNat*1+o) fun d=>
   D.int .i64 d fun x1=>
   M.call (c 209 [.ptr s,.int .i64 x1]) fun ds=>
   J.b ds fun x2 ds=>
   D.nil ds<|
   M.join (fun st=>
    D.nil st<|
    rec1 [.int .i64 (wr64 (x+1))]) fun jk2=>
   bif x2 then
    M.nn s fun i1 o1=>
    M.load1 i1 (o1+1) fun d1=>
    D.slice 1 d1 fun x3 x3n=>
    M.nn x3 fun i2 o2=>
    M.chk (inB (wr64 (x1.tdiv 64)) x3n)<|
    M.load1 i2 (((wr64 (x1.tdiv 64)).toNat)*1+o2) fun d2=>
    D.int .u64 d2 fun x4=>
    M.chk (decide (0≤x1.tmod 64))<|
    M.nn x3 fun i3 o3=>
    M.chk (inB (wr64 (x1.tdiv 64)) x3n)<|
    M.store i3 (((wr64 (x1.tdiv 64)).toNat)*1+o3) [.int .u64 (bits .or .u64 x4 (IntKind.wrap .u64 (1*2^(min (x1.tmod 64).toNat 64))))]<|
    jk2 []
   else
    jk2 []
  else
   jk1 []) n [.int .i64 0]
def Zd4:Zg→Nat→List DV→M (List DV):=fun c n args=>
 J.p args fun s args=>
 J.i .i64 args fun at1 args=>
 D.nil args<|
 M.join (fun st=>J.b st fun b1 st=>D.nil st<|
  M.ret [.bool b1]) fun jk1=>
 bif decide (at1≥0)then
  M.nn s fun i o=>
  M.load1 i o fun d=>
  D.int .i64 d fun x=>
  jk1 [.bool (decide (at1<x))]
 else
  jk1 [.bool false]
def Zcq:Zg→Nat→List DV→M (List DV):=fun c n args=>
 J.i .u64 args fun x args=>
 D.nil args<|
 M.ret [.int .i64 (bits .and .i64 (wr64 (IntKind.wrap .u64 ((IntKind.wrap .u64 ((IntKind.wrap .u64 ((bits .and .u64 (IntKind.wrap .u64 (((IntKind.wrap .u64 ((bits .and .u64 ((IntKind.wrap .u64 ((bits .and .u64 (x.fdiv (2^1)) 6148914691236517205)+(bits .and .u64 x 6148914691236517205))).fdiv (2^2)) 3689348814741910323)+(bits .and .u64 (IntKind.wrap .u64 ((bits .and .u64 (x.fdiv (2^1)) 6148914691236517205)+(bits .and .u64 x 6148914691236517205))) 3689348814741910323))).fdiv (2^4))+(IntKind.wrap .u64 ((bits .and .u64 ((IntKind.wrap .u64 ((bits .and .u64 (x.fdiv (2^1)) 6148914691236517205)+(bits .and .u64 x 6148914691236517205))).fdiv (2^2)) 3689348814741910323)+(bits .and .u64 (IntKind.wrap .u64 ((bits .and .u64 (x.fdiv (2^1)) 6148914691236517205)+(bits .and .u64 x 6148914691236517205))) 3689348814741910323))))) 1085102592571150095)+((bits .and .u64 (IntKind.wrap .u64 (((IntKind.wrap .u64 ((bits .and .u64 ((IntKind.wrap .u64 ((bits .and .u64 (x.fdiv (2^1)) 6148914691236517205)+(bits .and .u64 x 6148914691236517205))).fdiv (2^2)) 3689348814741910323)+(bits .and .u64 (IntKind.wrap .u64 ((bits .and .u64 (x.fdiv (2^1)) 6148914691236517205)+(bits .and .u64 x 6148914691236517205))) 3689348814741910323))).fdiv (2^4))+(IntKind.wrap .u64 ((bits .and .u64 ((IntKind.wrap .u64 ((bits .and .u64 (x.fdiv (2^1)) 6148914691236517205)+(bits .and .u64 x 6148914691236517205))).fdiv (2^2)) 3689348814741910323)+(bits .and .u64 (IntKind.wrap .u64 ((bits .and .u64 (x.fdiv (2^1)) 6148914691236517205)+(bits .and .u64 x 6148914691236517205))) 3689348814741910323))))) 1085102592571150095).fdiv (2^8))))+((IntKind.wrap .u64 ((bits .and .u64 (IntKind.wrap .u64 (((IntKind.wrap .u64 ((bits .and .u64 ((IntKind.wrap .u64 ((bits .and .u64 (x.fdiv (2^1)) 6148914691236517205)+(bits .and .u64 x 6148914691236517205))).fdiv (2^2)) 3689348814741910323)+(bits .and .u64 (IntKind.wrap .u64 ((bits .and .u64 (x.fdiv (2^1)) 6148914691236517205)+(bits .and .u64 x 6148914691236517205))) 3689348814741910323))).fdiv (2^4))+(IntKind.wrap .u64 ((bits .and .u64 ((IntKind.wrap .u64 ((bits .and .u64 (x.fdiv (2^1)) 6148914691236517205)+(bits .and .u64 x 6148914691236517205))).fdiv (2^2)) 3689348814741910323)+(bits .and .u64 (IntKind.wrap .u64 ((bits .and .u64 (x.fdiv (2^1)) 6148914691236517205)+(bits .and .u64 x 6148914691236517205))) 3689348814741910323))))) 1085102592571150095)+((bits .and .u64 (IntKind.wrap .u64 (((IntKind.wrap .u64 ((bits .and .u64 ((IntKind.wrap .u64 ((bits .and .u64 (x.fdiv (2^1)) 6148914691236517205)+(bits .and .u64 x 6148914691236517205))).fdiv (2^2)) 3689348814741910323)+(bits .and .u64 (IntKind.wrap .u64 ((bits .and .u64 (x.fdiv (2^1)) 6148914691236517205)+(bits .and .u64 x 6148914691236517205))) 3689348814741910323))).fdiv (2^4))+(IntKind.wrap .u64 ((bits .and .u64 ((IntKind.wrap .u64 ((bits .and .u64 (x.fdiv (2^1)) 6148914691236517205)+(bits .and .u64 x 6148914691236517205))).fdiv (2^2)) 3689348814741910323)+(bits .and .u64 (IntKind.wrap .u64 ((bits .and .u64 (x.fdiv (2^1)) 6148914691236517205)+(bits .and .u64 x 6148914691236517205))) 3689348814741910323))))) 1085102592571150095).fdiv (2^8)))).fdiv (2^16))))+((IntKind.wrap .u64 ((IntKind.wrap .u64 ((bits .and .u64 (IntKind.wrap .u64 (((IntKind.wrap .u64 ((bits .and .u64 ((IntKind.wrap .u64 ((bits .and .u64 (x.fdiv (2^1)) 6148914691236517205)+(bits .and .u64 x 6148914691236517205))).fdiv (2^2)) 3689348814741910323)+(bits .and .u64 (IntKind.wrap .u64 ((bits .and .u64 (x.fdiv (2^1)) 6148914691236517205)+(bits .and .u64 x 6148914691236517205))) 3689348814741910323))).fdiv (2^4))+(IntKind.wrap .u64 ((bits .and .u64 ((IntKind.wrap .u64 ((bits .and .u64 (x.fdiv (2^1)) 6148914691236517205)+(bits .and .u64 x 6148914691236517205))).fdiv (2^2)) 3689348814741910323)+(bits .and .u64 (IntKind.wrap .u64 ((bits .and .u64 (x.fdiv (2^1)) 6148914691236517205)+(bits .and .u64 x 6148914691236517205))) 3689348814741910323))))) 1085102592571150095)+((bits .and .u64 (IntKind.wrap .u64 (((IntKind.wrap .u64 ((bits .and .u64 ((IntKind.wrap .u64 ((bits .and .u64 (x.fdiv (2^1)) 6148914691236517205)+(bits .and .u64 x 6148914691236517205))).fdiv (2^2)) 3689348814741910323)+(bits .and .u64 (IntKind.wrap .u64 ((bits .and .u64 (x.fdiv (2^1)) 6148914691236517205)+(bits .and .u64 x 6148914691236517205))) 3689348814741910323))).fdiv (2^4))+(IntKind.wrap .u64 ((bits .and .u64 ((IntKind.wrap .u64 ((bits .and .u64 (x.fdiv (2^1)) 6148914691236517205)+(bits .and .u64 x 6148914691236517205))).fdiv (2^2)) 3689348814741910323)+(bits .and .u64 (IntKind.wrap .u64 ((bits .and .u64 (x.fdiv (2^1)) 6148914691236517205)+(bits .and .u64 x 6148914691236517205))) 3689348814741910323))))) 1085102592571150095).fdiv (2^8))))+((IntKind.wrap .u64 ((bits .and .u64 (IntKind.wrap .u64 (((IntKind.wrap .u64 ((bits .and .u64 ((IntKind.wrap .u64 ((bits .and .u64 (x.fdiv (2^1)) 6148914691236517205)+(bits .and .u64 x 6148914691236517205))).fdiv (2^2)) 3689348814741910323)+(bits .and .u64 (IntKind.wrap .u64 ((bits .and .u64 (x.fdiv (2^1)) 6148914691236517205)+(bits .and .u64 x 6148914691236517205))) 3689348814741910323))).fdiv (2^4))+(IntKind.wrap .u64 ((bits .and .u64 ((IntKind.wrap .u64 ((bits .and .u64 (x.fdiv (2^1)) 6148914691236517205)+(bits .and .u64 x 6148914691236517205))).fdiv (2^2)) 3689348814741910323)+(bits .and .u64 (IntKind.wrap .u64 ((bits .and .u64 (x.fdiv (2^1)) 6148914691236517205)+(bits .and .u64 x 6148914691236517205))) 3689348814741910323))))) 1085102592571150095)+((bits .and .u64 (IntKind.wrap .u64 (((IntKind.wrap .u64 ((bits .and .u64 ((IntKind.wrap .u64 ((bits .and .u64 (x.fdiv (2^1)) 6148914691236517205)+(bits .and .u64 x 6148914691236517205))).fdiv (2^2)) 3689348814741910323)+(bits .and .u64 (IntKind.wrap .u64 ((bits .and .u64 (x.fdiv (2^1)) 6148914691236517205)+(bits .and .u64 x 6148914691236517205))) 3689348814741910323))).fdiv (2^4))+(IntKind.wrap .u64 ((bits .and .u64 ((IntKind.wrap .u64 ((bits .and .u64 (x.fdiv (2^1)) 6148914691236517205)+(bits .and .u64 x 6148914691236517205))).fdiv (2^2)) 3689348814741910323)+(bits .and .u64 (IntKind.wrap .u64 ((bits .and .u64 (x.fdiv (2^1)) 6148914691236517205)+(bits .and .u64 x 6148914691236517205))) 3689348814741910323))))) 1085102592571150095).fdiv (2^8)))).fdiv (2^16)))).fdiv (2^32))))) 127)]
def ZgB:Zg→Nat→List DV→M (List DV):=fun c n args=>
 J.i .u64 args fun v args=>
 J.i .i64 args fun n1 args=>
 D.nil args<|
 M.join (fun st=>
  J.s st fun s st=>
  D.nil st<|
  M.ret [.str s]) fun jk1=>
 M.loop (fun rec1 st=>
  J.s st fun s1 st=>
  J.i .i64 st fun i st=>
  D.nil st<|
  bif decide (i<n1)then
   M.call (c 248 [.int .u64 v,.int .i64 i]) fun ds=>
   J.i .u8 ds fun x ds=>
   D.nil ds<|
   M.new [.int .u8 x] fun i1=>
   M.load i1 0 1 fun cs=>
   D.oct cs fun l=>
   M.chk (Nat.ble (s1.length+l.length) 4611686018427387904)<|
   rec1 [.str (s1++l),.int .i64 (wr64 (i+1))]
  else
   jk1 [.str s1]) n [.str (bs []),.int .i64 0]
def Zfn:Zg→Nat→List DV→M (List DV):=fun c n args=>
 J.i .i64 args fun kind args=>
 J.i .i64 args fun tag args=>
 J.s args fun body args=>
 D.nil args<|
 M.new [.int .u8 (IntKind.wrap .u8 (kind)),.int .u8 (IntKind.wrap .u8 (tag)),.int .u8 0,.int .u8 0] fun i=>
 M.load i 0 4 fun cs=>
 D.oct cs fun l=>
 M.callX (c 249 [.str body,.int .i64 56]) fun ds=>
 J.s ds fun x ds=>
 D.nil ds<|
 M.chk (Nat.ble (l.length+x.length) 4611686018427387904)<|
 M.new (ZF (l++x)) fun i1=>
 M.call (c 242 [.slice 1 (some (i1,0)) ((l++x).length)]) fun ds=>
 J.i .u32 ds fun x1 ds=>
 D.nil ds<|
 M.call (c 213 [.int .u64 (IntKind.wrap .u64 (x1)),.int .i64 4]) fun ds=>
 J.s ds fun x2 ds=>
 D.nil ds<|
 M.chk (Nat.ble (x2.length+(l++x).length) 4611686018427387904)<|
 M.ret [.str (x2++(l++x))]
def ZgG:Zg→Nat→List DV→M (List DV):=fun c n args=>
 J.l 1 args fun l ln args=>
 D.nil args<|
 M.join (fun st=>J.b st fun b1 st=>D.nil st<|
  bif b1 then
   M.ret [.str (bs []),.bool false]
  else
   M.join (fun st=>
    J.s st fun s st=>
    D.nil st<|
    M.call (c 214 [.int .i64 6,.int .i64 (ln:Int),.str s]) fun ds=>
    J.s ds fun x ds=>
    D.nil ds<|
    M.ret [.str x,.bool true]) fun jk2=>
   M.loop (fun rec1 st=>
    J.s st fun s1 st=>
    J.i .i64 st fun i st=>
    D.nil st<|
    bif decide (i<(ln:Int))then
     M.join (fun st=>
      J.s st fun s2 st=>
      D.nil st<|
      rec1 [.str s2,.int .i64 (wr64 (i+1))]) fun jk3=>
     M.nn l fun i1 o=>
     M.chk (inB i ln)<|
     M.load1 i1 (i.toNat*1+o) fun d=>
     D.int .i64 d fun x1=>
     M.call (c 251 [.int .i64 x1]) fun ds=>
     J.b ds fun x2 ds=>
     D.nil ds<|
     bif !x2 then
      M.ret [.str (bs []),.bool false]
     else
      M.join (fun st=>
       D.nil st<|
      M.nn l fun i2 o1=>
      M.chk (inB i ln)<|
      M.load1 i2 (i.toNat*1+o1) fun d1=>
      D.int .i64 d1 fun x3=>
      M.call (c 213 [.int .u64 (IntKind.wrap .u64 (x3)),.int .i64 2]) fun ds=>
      J.s ds fun x4 ds=>
      D.nil ds<|
      M.chk (Nat.ble (s1.length+x4.length) 4611686018427387904)<|
      jk3 [.str (s1++x4)]) fun jk4=>
      M.loop (fun rec2 st=>
       J.i .i64 st fun k st=>
      D.nil st<|
      bif decide (k<i)then
       M.nn l fun i3 o2=>
      M.chk (inB k ln)<|
      M.load1 i3 (k.toNat*1+o2) fun d2=>
      D.int .i64 d2 fun x5=>
      M.nn l fun i4 o3=>
      M.chk (inB i ln)<|
      M.load1 i4 (i.toNat*1+o3) fun d3=>
      D.int .i64 d3 fun x6=>
      bif x5==x6 then
       M.ret [.str (bs []),.bool false]
      else
       rec2 [.int .i64 (wr64 (k+1))]
      else
       jk4 []) n [.int .i64 0]
    else
     jk2 [.str s1]) n [.str (bs []),.int .i64 0]) fun jk1=>
 bif decide ((ln:Int)<1)then
  jk1 [.bool true]
 else
  jk1 [.bool (decide ((ln:Int)>16))]
def ZgO:Zg→Nat→List DV→M (List DV):=fun c n args=>
 J.a args fun cs args=>
 J.s cs fun q r1=>
 J.i .i64 r1 fun q1 r2=>
 D.len r2 12<|
 D.nil args<|
 D.len ((.str q)::(.int .i64 q1)::r2) 14<|
 M.call (c 213 [.int .u64 (IntKind.wrap .u64 (q1)),.int .i64 4]) fun ds=>
 J.s ds fun x ds=>
 D.nil ds<|
 M.join (fun st=>
  J.s st fun s st=>
  D.nil st<|
  M.chk (Nat.ble (s.length+q.length) 4611686018427387904)<|
  M.call (c 214 [.int .i64 5,.int .i64 (q.length:Int),.str (s++q)]) fun ds=>
  J.s ds fun x1 ds=>
  D.nil ds<|
  M.ret [.str x1]) fun jk1=>
 M.loop (fun rec1 st=>
  J.s st fun s1 st=>
  J.i .i64 st fun i st=>
  D.nil st<|
  bif decide (i<12)then
   M.chk (inB i 12)<|
   D.nth r2 (i.toNat*1) fun d=>
   D.int .i64 d fun x2=>
   M.call (c 213 [.int .u64 (IntKind.wrap .u64 (x2)),.int .i64 2]) fun ds=>
   J.s ds fun x3 ds=>
   D.nil ds<|
   M.chk (Nat.ble (s1.length+x3.length) 4611686018427387904)<|
   rec1 [.str (s1++x3),.int .i64 (wr64 (i+1))]
  else
   jk1 [.str s1]) n [.str x,.int .i64 0]
def Zcy:Zg→Nat→List DV→M (List DV):=fun c n args=>
 J.p args fun m args=>
 J.l 4 args fun es esn args=>
 D.nil args<|
 M.nn es fun i o=>
 M.chk (inB 0 esn)<|
 M.load i (0+o) 4 fun cs=>
 J.i .i64 cs fun x r=>
 J.i .i64 r fun x1 r=>
 J.i .i64 r fun x2 r=>
 J.i .i64 r fun x3 r=>
 D.nil r<|
 M.join (fun st=>
  J.a st fun cs1 st=>
  J.i .i64 cs1 fun n1 r=>
  J.i .i64 r fun n2 r=>
  J.i .i64 r fun n3 r=>
  J.i .i64 r fun n4 r=>
  J.l 1 r fun n5 n5n r=>
  D.nil r<|
  D.nil st<|
  M.call (c 250 [.agg [.int .i64 n1,.int .i64 n2,.int .i64 n3,.int .i64 n4,.slice 1 n5 n5n]]) fun ds=>
  J.s ds fun x4 ds=>
  D.nil ds<|
  M.call (c 194 [.ptr m,.str x4]) fun ds=>
  J.i .i64 ds fun x5 ds=>
  D.nil ds<|
  M.nn m fun i1 o1=>
  M.load1 i1 (o1+2) fun d=>
  D.slice 1 d fun x6 x6n=>
  M.nn es fun i2 o2=>
  M.chk (inB 0 esn)<|
  M.load1 i2 (0+o2) fun d1=>
  D.int .i64 d1 fun x7=>
  M.nn x6 fun i3 o3=>
  M.chk (inB x7 x6n)<|
  M.store i3 (x7.toNat*1+o3) [.int .i64 x5]<|
  M.ret [.int .i64 x5]) fun jk1=>
 M.loop (fun rec1 st=>
  J.a st fun cs2 st=>
  J.i .i64 cs2 fun n6 r=>
  J.i .i64 r fun n7 r=>
  J.i .i64 r fun n8 r=>
  J.i .i64 r fun n9 r=>
  J.l 1 r fun n10 n10n r=>
  D.nil r<|
  J.i .i64 st fun k st=>
  D.nil st<|
  bif decide (k<(esn:Int))then
   M.chk (decide (0≤wr64 (2*k))&&decide (wr64 (2*k)≤(esn:Int)))<|
   M.chk (decide (0≤k)&&decide (k≤(((wr64 (2*k)).toNat:Nat):Int)))<|
   M.callN (c 217 [.ptr m,.slice 4 (cutA true es (k.toNat*4)) (((wr64 (2*k)).toNat)-k.toNat)]) fun ds=>
   J.i .i64 ds fun x8 ds=>
   D.nil ds<|
   M.new [.int .i64 x8] fun i4=>
   M.load i4 0 1 fun cs3=>
   M.app 1 n10 n10n cs3 1 8796093022208 fun p=>
   rec1 [.agg [.int .i64 n6,.int .i64 n7,.int .i64 n8,.int .i64 n9,.slice 1 p (n10n+1)],.int .i64 (wr64 (2*k))]
  else
   jk1 [.agg [.int .i64 n6,.int .i64 n7,.int .i64 n8,.int .i64 n9,.slice 1 n10 n10n]]) n [.agg [.int .i64 x,.int .i64 x1,.int .i64 x2,.int .i64 x3,.slice 0 none 0],.int .i64 1]
def Zgq:Zg→Nat→List DV→M (List DV):=fun c n args=>
 J.a args fun cs args=>
 D.len cs 16<|
 D.nil args<|
 D.len cs 16<|
 M.join (fun st=>
  J.s st fun s st=>
  D.nil st<|
  M.call (c 214 [.int .i64 3,.int .i64 0,.str s]) fun ds=>
  J.s ds fun x ds=>
  D.nil ds<|
  M.ret [.str x,.bool true]) fun jk1=>
 M.loop (fun rec1 st=>
  J.s st fun s1 st=>
  J.i .i64 st fun i st=>
  D.nil st<|
  bif decide (i<16)then
   M.chk (inB i 16)<|
   D.nth cs (i.toNat*1) fun d=>
   D.int .i64 d fun x1=>
   M.join (fun st=>J.b st fun b1 st=>D.nil st<|
    bif b1 then
     M.ret [.str (bs []),.bool false]
    else
     M.chk (inB i 16)<|
     D.nth cs (i.toNat*1) fun d1=>
     D.int .i64 d1 fun x2=>
     M.call (c 213 [.int .u64 (IntKind.wrap .u64 (x2)),.int .i64 2]) fun ds=>
     J.s ds fun x3 ds=>
     D.nil ds<|
     M.chk (Nat.ble (s1.length+x3.length) 4611686018427387904)<|
     rec1 [.str (s1++x3),.int .i64 (wr64 (i+1))]) fun jk2=>
   bif !(x1==0)then
    M.chk (inB i 16)<|
    D.nth cs (i.toNat*1) fun d2=>
    D.int .i64 d2 fun x4=>
    M.call (c 251 [.int .i64 x4]) fun ds=>
    J.b ds fun x5 ds=>
    D.nil ds<|
    jk2 [.bool (!x5)]
   else
    jk2 [.bool false]
  else
   jk1 [.str s1]) n [.str (bs []),.int .i64 0]
def Zfw:Zg→Nat→List DV→M (List DV):=fun c n args=>
 J.a args fun cs args=>
 D.len cs 21<|
 D.nil args<|
 D.len cs 21<|
 M.join (fun st=>
  J.s st fun s st=>
  J.i .i64 st fun tag st=>
  D.nil st<|
  M.call (c 214 [.int .i64 2,.int .i64 tag,.str s]) fun ds=>
  J.s ds fun x ds=>
  D.nil ds<|
  M.ret [.str x,.bool true]) fun jk1=>
 M.loop (fun rec1 st=>
  J.s st fun s1 st=>
  J.i .i64 st fun tag1 st=>
  J.i .i64 st fun i st=>
  D.nil st<|
  bif decide (i<7)then
   M.chk (inB i 7)<|
   M.chk (Nat.ble (i.toNat*3+3) 21)<|
   D.len ((cs.drop (i.toNat*3)).take 3) 3<|
   M.call (c 252 [.agg ((cs.drop (i.toNat*3)).take 3)]) fun ds=>
   J.b ds fun x1 ds=>
   D.nil ds<|
   bif !x1 then
    M.ret [.str (bs []),.bool false]
   else
    D.nth ((cs.drop (i.toNat*3)).take 3) 0 fun d=>
    D.bool d fun x2=>
    M.join (fun st=>
     J.i .i64 st fun tag2 st=>
     D.nil st<|
     D.nth ((cs.drop (i.toNat*3)).take 3) 1 fun d1=>
     D.int .i64 d1 fun x3=>
     M.callX (c 213 [.int .u64 (IntKind.wrap .u64 (x3)),.int .i64 4]) fun ds=>
     J.s ds fun x4 ds=>
     D.nil ds<|
     M.chk (Nat.ble (s1.length+x4.length) 4611686018427387904)<|
     D.nth ((cs.drop (i.toNat*3)).take 3) 2 fun d2=>
     D.int .i64 d2 fun x5=>
     M.callN (c 213 [.int .u64 (IntKind.wrap .u64 (x5)),.int .i64 4]) fun ds=>
     J.s ds fun x6 ds=>
     D.nil ds<|
     M.chk (Nat.ble ((s1++x4).length+x6.length) 4611686018427387904)<|
     rec1 [.str ((s1++x4)++x6),.int .i64 tag2,.int .i64 (wr64 (i+1))]) fun jk2=>
    bif x2 then
     M.chk (decide (0≤i))<|
     jk2 [.int .i64 (wr64 (tag1+(wr64 (1*2^(min i.toNat 64)))))]
    else
     jk2 [.int .i64 tag1]
  else
   jk1 [.str s1,.int .i64 tag1]) n [.str (bs []),.int .i64 0,.int .i64 0]
def Zfy:Zg→Nat→List DV→M (List DV):=fun c n args=>
 J.i .i64 args fun n1 args=>
 J.i .i64 args fun each args=>
 D.nil args<|
 M.join (fun st=>
  J.i .i64 st fun k st=>
  D.nil st<|
  M.ret [.int .i64 k]) fun jk1=>
 M.loop (fun rec1 st=>
  J.i .i64 st fun k1 st=>
  D.nil st<|
  bif decide (wr64 (k1*each)<n1)then
   rec1 [.int .i64 (wr64 (k1+1))]
  else
   jk1 [.int .i64 k1]) n [.int .i64 0]
def Zdn:Zg→Nat→List DV→M (List DV):=fun c n args=>
 J.i .i64 args fun at1 args=>
 J.p args fun x args=>
 D.nil args<|
 M.join (fun st=>J.b st fun b1 st=>D.nil st<|
  M.ret [.bool b1]) fun jk1=>
 bif decide (at1≥2)then
  M.nn x fun i o=>
  M.load1 i (o+1) fun d=>
  D.int .i64 d fun x1=>
  jk1 [.bool (decide (at1<x1))]
 else
  jk1 [.bool false]
def Zbn:Zg→Nat→List DV→M (List DV):=fun c n args=>
 J.l 1 args fun s sn args=>
 J.i .i64 args fun v args=>
 D.nil args<|
 M.call (c 254 [.slice 1 s sn,.int .i64 v]) fun ds=>
 J.i .i64 ds fun x ds=>
 D.nil ds<|
 M.ret [.bool (decide (x≥0))]
def ZeH:Zg→Nat→List DV→M (List DV):=fun c n args=>
 J.a args fun cs args=>
 J.i .i64 cs fun g r=>
 J.i .i64 r fun g1 r=>
 J.i .i64 r fun g2 r=>
 D.nil r<|
 D.nil args<|
 M.call (c 145 [.agg [.int .i64 g,.int .i64 g1,.int .i64 g2]]) fun ds=>
 J.b ds fun x ds=>
 D.nil ds<|
 bif !x then
  M.ret [.int .i64 0]
 else
  M.call (c 253 [.int .i64 g,.int .i64 384]) fun ds=>
  J.i .i64 ds fun x1 ds=>
  D.nil ds<|
  M.ret [.int .i64 x1]
def Zgl:Zg→Nat→List DV→M (List DV):=fun c n args=>
 J.b args fun ok args=>
 D.nil args<|
 M.join (fun st=>
  D.nil st<|
  M.ret []) fun jk1=>
 bif !ok then
  M.pan
 else
  jk1 []
def Zcg:Zg→Nat→List DV→M (List DV):=fun c n args=>
 J.p args fun w args=>
 D.nil args<|
 M.nn w fun i o=>
 M.load1 i (o+6) fun d=>
 D.int .i64 d fun x=>
 bif x==0 then
  M.ret []
 else
  M.nn w fun i1 o1=>
  M.load1 i1 (o1+6) fun d1=>
  D.int .i64 d1 fun x1=>
  M.call (c 227 [.int .i64 x1]) fun ds=>
  J.i .i64 ds fun x2 ds=>
  D.nil ds<|
  M.nn w fun i2 o2=>
  M.load1 i2 (o2+5) fun d2=>
  D.int .i64 d2 fun x3=>
  M.call (c 228 [.ptr w,.int .i64 x3]) fun ds=>
  J.d ds fun x4 ds=>
  D.nil ds<|
  D.asr M.pan x4 2 fun d3=>
  D.agg d3 fun cs=>
  D.len cs 16<|
  M.join (fun st=>
   D.nil st<|
   M.ret []) fun jk1=>
  M.loop (fun rec1 st=>
   J.i .i64 st fun x5 st=>
   D.nil st<|
   bif decide (x5<16)then
    M.join (fun st=>
     D.nil st<|
     rec1 [.int .i64 (wr64 (x5+1))]) fun jk2=>
    M.chk (inB x5 16)<|
    D.nth (cs.take 16) (x5.toNat*1) fun d4=>
    D.int .i64 d4 fun x6=>
    M.call (c 225 [.bool ((!(x6==0))==(decide (wr64 (x5*16)<x2)))]) fun ds=>
    D.nil ds<|
    bif x6==0 then
     jk2 []
    else
     M.call (c 228 [.ptr w,.int .i64 x6]) fun ds=>
     J.d ds fun x7 ds=>
     D.nil ds<|
     D.asr M.pan x7 2 fun d5=>
     D.agg d5 fun cs1=>
     D.len cs1 16<|
     M.join (fun st=>
      D.nil st<|
      jk2 []) fun jk3=>
     M.loop (fun rec2 st=>
      J.i .i64 st fun x8 st=>
      D.nil st<|
      bif decide (x8<16)then
       M.chk (inB x8 16)<|
      D.nth (cs1.take 16) (x8.toNat*1) fun d6=>
      D.int .i64 d6 fun x9=>
      M.call (c 225 [.bool ((!(x9==0))==(decide (wr64 ((wr64 (x5*16))+x8)<x2)))]) fun ds=>
      D.nil ds<|
      M.join (fun st=>
       D.nil st<|
      rec2 [.int .i64 (wr64 (x8+1))]) fun jk4=>
      bif !(x9==0)then
       M.call (c 229 [.ptr w,.int .i64 x9,.int .i64 (wr64 ((wr64 ((wr64 (x5*16))+x8))*7))]) fun ds=>
      D.nil ds<|
      jk4 []
      else
       jk4 []
      else
       jk3 []) n [.int .i64 0]
   else
    jk1 []) n [.int .i64 0]
def ZeL:Zg→Nat→List DV→M (List DV):=fun c n args=>
 J.i .i64 args fun n1 args=>
 D.nil args<|
 M.call (c 255 [.int .i64 n1]) fun ds=>
 J.b ds fun x ds=>
 D.nil ds<|
 bif !x then
  M.ret [.int .i64 0]
 else
  M.call (c 253 [.int .i64 n1,.int .i64 7]) fun ds=>
  J.i .i64 ds fun x1 ds=>
  D.nil ds<|
  M.ret [.int .i64 x1]
def Zck:Zg→Nat→List DV→M (List DV):=fun c n args=>
 J.p args fun w args=>
 J.i .i64 args fun at1 args=>
 D.nil args<|
 M.join (fun st=>J.b st fun b1 st=>D.nil st<|
  M.join (fun st=>J.b st fun b2 st=>D.nil st<|
   M.call (c 225 [.bool b2]) fun ds=>
   D.nil ds<|
   M.nn w fun i o=>
   M.load1 i (o+10) fun d=>
   D.ptr d fun x=>
   M.new [.int .i64 at1] fun i1=>
   M.call (c 206 [.ptr x,.slice 1 (some (i1,0)) 1]) fun ds=>
   D.nil ds<|
   M.nn w fun i2 o1=>
   M.load1 i2 o1 fun d1=>
   D.slice 1 d1 fun x1 x1n=>
   M.call (c 203 [.slice 1 x1 x1n,.int .i64 at1]) fun ds=>
   J.l 1 ds fun x2 x2n ds=>
   D.nil ds<|
   M.call (c 256 [.slice 1 x2 x2n]) fun ds=>
   J.d ds fun x3 ds=>
   D.nil ds<|
   M.ret [x3]) fun jk2=>
  bif b1 then
   M.nn w fun i3 o2=>
   M.load1 i3 (o2+10) fun d2=>
   D.ptr d2 fun x4=>
   M.call (c 184 [.ptr x4,.int .i64 at1]) fun ds=>
   J.b ds fun x5 ds=>
   D.nil ds<|
   jk2 [.bool (!x5)]
  else
   jk2 [.bool false]) fun jk1=>
 bif decide (at1≥2)then
  M.nn w fun i4 o3=>
  M.load1 i4 (o3+2) fun d3=>
  D.int .i64 d3 fun x6=>
  jk1 [.bool (decide (at1<x6))]
 else
  jk1 [.bool false]
def Zct:Zg→Nat→List DV→M (List DV):=fun c n args=>
 J.p args fun w args=>
 J.i .i64 args fun at1 args=>
 J.i .i64 args fun slot args=>
 D.nil args<|
 M.call (c 228 [.ptr w,.int .i64 at1]) fun ds=>
 J.d ds fun x ds=>
 D.nil ds<|
 D.asr M.pan x 5 fun d=>
 D.agg d fun cs=>
 D.len cs 21<|
 M.join (fun st=>
  D.nil st<|
  M.ret []) fun jk1=>
 M.loop (fun rec1 st=>
  J.i .i64 st fun x1 st=>
  D.nil st<|
  bif decide (x1<7)then
   M.join (fun st=>
    D.nil st<|
    rec1 [.int .i64 (wr64 (x1+1))]) fun jk2=>
   M.chk (inB x1 7)<|
   D.len (((cs.take 21).drop (x1.toNat*3)).take 3) 3<|
   M.nn w fun i o=>
   M.load1 i (o+6) fun d1=>
   D.int .i64 d1 fun x2=>
   bif decide (wr64 (slot+x1)≥x2)then
    D.eqs [.bool,.int .i64,.int .i64] (((cs.take 21).drop (x1.toNat*3)).take 3) [.bool false,.int .i64 0,.int .i64 0] fun e=>
    M.call (c 225 [.bool e]) fun ds=>
    D.nil ds<|
    jk2 []
   else
    D.nth (((cs.take 21).drop (x1.toNat*3)).take 3) 1 fun d2=>
    D.int .i64 d2 fun x3=>
    M.join (fun st=>J.b st fun b1 st=>D.nil st<|
     M.join (fun st=>J.b st fun b2 st=>D.nil st<|
      M.call (c 225 [.bool b2]) fun ds=>
      D.nil ds<|
      M.nn w fun i1 o1=>
      M.load1 i1 (o1+11) fun d3=>
      D.slice 3 d3 fun x4 x4n=>
      D.len (((cs.take 21).drop (x1.toNat*3)).take 3) 3<|
      M.new (((cs.take 21).drop (x1.toNat*3)).take 3) fun i2=>
      M.load i2 0 3 fun cs1=>
      M.app 3 x4 x4n cs1 1 2932031007402 fun p=>
      M.nn w fun i3 o2=>
      M.store i3 (o2+11) [.slice 3 p (x4n+1)]<|
      jk2 []) fun jk4=>
     bif b1 then
      D.nth (((cs.take 21).drop (x1.toNat*3)).take 3) 0 fun d4=>
      D.bool d4 fun x5=>
      M.join (fun st=>J.b st fun b3 st=>D.nil st<|
       M.join (fun st=>J.b st fun b4 st=>D.nil st<|
       jk4 [.bool b4]) fun jk6=>
      bif b3 then
       jk6 [.bool true]
      else
       D.nth (((cs.take 21).drop (x1.toNat*3)).take 3) 2 fun d5=>
      D.int .i64 d5 fun x6=>
      jk6 [.bool (x6==0)]) fun jk5=>
      bif x5 then
       jk5 [.bool true]
      else
       D.nth (((cs.take 21).drop (x1.toNat*3)).take 3) 1 fun d6=>
      D.int .i64 d6 fun x7=>
      M.nn w fun i4 o3=>
      M.load1 i4 (o3+4) fun d7=>
      D.int .i64 d7 fun x8=>
      jk5 [.bool (decide (x7<x8))]
     else
      jk4 [.bool false]) fun jk3=>
    bif decide (x3≥1)then
     D.nth (((cs.take 21).drop (x1.toNat*3)).take 3) 1 fun d8=>
     D.int .i64 d8 fun x9=>
     M.nn w fun i5 o4=>
     M.load1 i5 (o4+4) fun d9=>
     D.int .i64 d9 fun x10=>
     jk3 [.bool (decide (x9≤x10))]
    else
     jk3 [.bool false]
  else
   jk1 []) n [.int .i64 0]
def ZcA:Zg→Nat→List DV→M (List DV):=fun c n args=>
 J.p args fun w args=>
 D.nil args<|
 M.nn w fun i o=>
 M.load1 i (o+6) fun d=>
 D.int .i64 d fun x=>
 M.chk (decide (0≤x)&&decide (x≤x)&&decide (x≤70368744177664))<|
 M.new (rep x.toNat [.bool false]) fun i1=>
 M.nn w fun i2 o1=>
 M.load1 i2 (o1+7) fun d1=>
 D.int .i64 d1 fun x1=>
 M.join (fun st=>
  D.nil st<|
  M.nn w fun i3 o2=>
  M.load1 i3 (o2+11) fun d2=>
  D.slice 3 d2 fun x2 x2n=>
  M.join (fun st=>
   D.nil st<|
   M.ret []) fun jk2=>
  M.loop (fun rec1 st=>
   J.i .i64 st fun x3 st=>
   D.nil st<|
   bif decide (x3<(x2n:Int))then
    M.nn x2 fun i4 o3=>
    M.chk (inB x3 x2n)<|
    M.load i4 (x3.toNat*3+o3) 3 fun cs=>
    J.b cs fun x4 r=>
    J.i .i64 r fun x5 r=>
    J.i .i64 r fun x6 r=>
    D.nil r<|
    M.join (fun st=>J.b st fun b1 st=>D.nil st<|
     M.join (fun st=>J.b st fun b2 st=>D.nil st<|
      M.call (c 225 [.bool b2]) fun ds=>
      D.nil ds<|
      rec1 [.int .i64 (wr64 (x3+1))]) fun jk4=>
     bif b1 then
      jk4 [.bool true]
     else
      M.chk (inB x3 x.toNat)<|
      M.load1 i1 (x3.toNat*1) fun d3=>
      D.bool d3 fun x7=>
      jk4 [.bool x7]) fun jk3=>
    bif x4 then
     jk3 [.bool true]
    else
     M.nn w fun i5 o4=>
     M.load1 i5 (o4+4) fun d4=>
     D.int .i64 d4 fun x8=>
     jk3 [.bool (x5==x8)]
   else
    jk2 []) n [.int .i64 0]) fun jk1=>
 M.loop (fun rec2 st=>
  J.i .i64 st fun next st=>
  D.nil st<|
  bif !(next==0)then
   M.nn w fun i6 o5=>
   M.load1 i6 (o5+6) fun d5=>
   D.int .i64 d5 fun x9=>
   M.call (c 225 [.bool (decide (next≤x9))]) fun ds=>
   D.nil ds<|
   M.nn w fun i7 o6=>
   M.load1 i7 (o6+11) fun d6=>
   D.slice 3 d6 fun x10 x10n=>
   M.nn x10 fun i8 o7=>
   M.chk (inB (wr64 (next-1)) x10n)<|
   M.load i8 (((wr64 (next-1)).toNat)*3+o7) 3 fun cs1=>
   J.b cs1 fun x11 r=>
   J.i .i64 r fun x12 r=>
   J.i .i64 r fun x13 r=>
   D.nil r<|
   M.join (fun st=>J.b st fun b3 st=>D.nil st<|
    M.join (fun st=>J.b st fun b4 st=>D.nil st<|
     M.call (c 225 [.bool b4]) fun ds=>
     D.nil ds<|
     M.chk (inB (wr64 (next-1)) x.toNat)<|
     M.store i1 (((wr64 (next-1)).toNat)*1) [.bool true]<|
     M.nn w fun i9 o8=>
     M.load1 i9 (o8+17) fun d7=>
     D.slice 1 d7 fun x14 x14n=>
     M.new [.int .i64 (wr64 (next-1))] fun i10=>
     M.load i10 0 1 fun cs2=>
     M.app 1 x14 x14n cs2 1 8796093022208 fun p=>
     M.nn w fun i11 o9=>
     M.store i11 (o9+17) [.slice 1 p (x14n+1)]<|
     rec2 [.int .i64 x13]) fun jk6=>
    bif b3 then
     M.chk (inB (wr64 (next-1)) x.toNat)<|
     M.load1 i1 (((wr64 (next-1)).toNat)*1) fun d8=>
     D.bool d8 fun x15=>
     jk6 [.bool (!x15)]
    else
     jk6 [.bool false]) fun jk5=>
   bif !x11 then
    M.nn w fun i12 o10=>
    M.load1 i12 (o10+4) fun d9=>
    D.int .i64 d9 fun x16=>
    jk5 [.bool (decide (x12<x16))]
   else
    jk5 [.bool false]
  else
   jk1 []) n [.int .i64 x1]
def Zb1:Zg→Nat→List DV→M (List DV):=fun c n args=>
 J.p args fun w args=>
 D.nil args<|
 M.nn w fun i o=>
 M.load1 i (o+8) fun d=>
 D.int .i64 d fun x=>
 bif x==0 then
  M.ret []
 else
  M.nn w fun i1 o1=>
  M.load1 i1 (o1+8) fun d1=>
  D.int .i64 d1 fun x1=>
  M.call (c 228 [.ptr w,.int .i64 x1]) fun ds=>
  J.d ds fun x2 ds=>
  D.nil ds<|
  D.asr M.pan x2 3 fun d2=>
  D.agg d2 fun cs=>
  J.l 1 cs fun x3 x3n r=>
  D.nil r<|
  M.join (fun st=>
   D.nil st<|
   M.ret []) fun jk1=>
  M.loop (fun rec1 st=>
   J.i .i64 st fun x4 st=>
   D.nil st<|
   bif decide (x4<(x3n:Int))then
    M.join (fun st=>
     D.nil st<|
     rec1 [.int .i64 (wr64 (x4+1))]) fun jk2=>
    M.nn x3 fun i2 o2=>
    M.chk (inB x4 x3n)<|
    M.load1 i2 (x4.toNat*1+o2) fun d3=>
    D.int .i64 d3 fun x5=>
    M.call (c 228 [.ptr w,.int .i64 x5]) fun ds=>
    J.d ds fun x6 ds=>
    D.nil ds<|
    D.asr M.pan x6 4 fun d4=>
    D.agg d4 fun cs1=>
    J.s cs1 fun x7 r1=>
    J.i .i64 r1 fun x8 r2=>
    D.len r2 12<|
    D.len ((.str x7)::(.int .i64 x8)::r2) 14<|
    M.join (fun st=>J.b st fun b1 st=>D.nil st<|
     M.call (c 225 [.bool b1]) fun ds=>
     D.nil ds<|
     M.join (fun st=>
      J.a st fun cs2 st=>
      J.s cs2 fun h r=>
      J.l 4 r fun h1 h1n r=>
      D.nil r<|
      D.nil st<|
      M.call (c 232 [.slice 4 h1 h1n,.func 159 [] []]) fun ds=>
      D.nil ds<|
      M.nn w fun i3 o3=>
      M.load1 i3 (o3+15) fun d5=>
      D.slice 2 d5 fun x9 x9n=>
      M.new [.str h,.slice 4 h1 h1n] fun i4=>
      M.load i4 0 2 fun cs3=>
      M.app 2 x9 x9n cs3 1 1759218604441 fun p=>
      M.nn w fun i5 o4=>
      M.store i5 (o4+15) [.slice 2 p (x9n+1)]<|
      jk2 []) fun jk4=>
     M.loop (fun rec2 st=>
      J.a st fun cs4 st=>
      J.s cs4 fun h2 r=>
      J.l 4 r fun h3 h3n r=>
      D.nil r<|
      J.i .i64 st fun x10 st=>
      D.nil st<|
      bif decide (x10<12)then
       M.chk (inB x10 12)<|
      D.nth (r2.take 12) (x10.toNat*1) fun d6=>
      D.int .i64 d6 fun x11=>
      M.join (fun st=>
       J.a st fun cs5 st=>
      J.s cs5 fun h4 r=>
      J.l 4 r fun h5 h5n r=>
      D.nil r<|
      D.nil st<|
      rec2 [.agg [.str h4,.slice 4 h5 h5n],.int .i64 (wr64 (x10+1))]) fun jk5=>
      bif !(x11==0)then
       M.call (c 233 [.ptr w,.int .i64 x11,.int .i64 x10]) fun ds=>
      J.l 4 ds fun x12 x12n ds=>
      D.nil ds<|
      M.rd x12 (x12n*4) fun cs6=>
      M.app 4 h3 h3n cs6 x12n 2199023255552 fun p1=>
      jk5 [.agg [.str h2,.slice 4 p1 (h3n+x12n)]]
      else
       jk5 [.agg [.str h2,.slice 4 h3 h3n]]
      else
       jk4 [.agg [.str h2,.slice 4 h3 h3n]]) n [.agg [.str x7,.slice 0 none 0],.int .i64 0]) fun jk3=>
    bif x4==0 then
     jk3 [.bool true]
    else
     M.nn w fun i6 o5=>
     M.load1 i6 (o5+15) fun d7=>
     D.slice 2 d7 fun x13 x13n=>
     M.nn x13 fun i7 o6=>
     M.chk (inB (wr64 (x4-1)) x13n)<|
     M.load1 i7 (((wr64 (x4-1)).toNat)*2+o6) fun d8=>
     D.str d8 fun x14=>
     M.call (c 39 [.str x14,.str x7]) fun ds=>
     J.i .i64 ds fun x15 ds=>
     D.nil ds<|
     jk3 [.bool (decide (x15<0))]
   else
    jk1 []) n [.int .i64 0]
def Zco:Zg→Nat→List DV→M (List DV):=fun c n args=>
 J.p args fun w args=>
 J.i .i64 args fun at1 args=>
 J.i .i64 args fun degree args=>
 D.nil args<|
 M.new [.int .i64 at1,.int .i64 degree,.int .i64 0,.int .i64 0,.int .i64 0,.int .i64 0,.bool true] fun i=>
 M.join (fun st=>
  J.l 4 st fun out outn st=>
  D.nil st<|
  M.ret [.slice 4 out outn]) fun jk1=>
 M.loop (fun rec1 st=>
  J.l 4 st fun out1 out1n st=>
  J.l 7 st fun todo todon st=>
  D.nil st<|
  bif decide ((todon:Int)>0)then
   M.join (fun st=>
    J.l 4 st fun out2 out2n st=>
    J.l 7 st fun todo1 todo1n st=>
    D.nil st<|
    rec1 [.slice 4 out2 out2n,.slice 7 todo1 todo1n]) fun jk2=>
   M.nn todo fun i1 o=>
   M.chk (inB (wr64 ((todon:Int)-1)) todon)<|
   M.load i1 (((wr64 ((todon:Int)-1)).toNat)*7+o) 7 fun cs=>
   J.i .i64 cs fun x r=>
   J.i .i64 r fun x1 r=>
   J.i .i64 r fun x2 r=>
   J.i .i64 r fun x3 r=>
   J.i .i64 r fun x4 r=>
   J.i .i64 r fun x5 r=>
   J.b r fun x6 r=>
   D.nil r<|
   M.chk (decide (0≤wr64 ((todon:Int)-1))&&decide (wr64 ((todon:Int)-1)≤(todon:Int)))<|
   M.call (c 228 [.ptr w,.int .i64 x]) fun ds=>
   J.d ds fun x7 ds=>
   D.nil ds<|
   D.asr M.pan x7 6 fun d=>
   D.agg d fun cs1=>
   J.i .i64 cs1 fun x8 r=>
   J.i .i64 r fun x9 r=>
   J.i .i64 r fun x10 r=>
   J.i .i64 r fun x11 r=>
   J.l 1 r fun x12 x12n r=>
   D.nil r<|
   M.join (fun st=>J.b st fun b1 st=>D.nil st<|
    M.call (c 225 [.bool b1]) fun ds=>
    D.nil ds<|
    M.nn w fun i2 o1=>
    M.load1 i2 (o1+6) fun d1=>
    D.int .i64 d1 fun x13=>
    M.join (fun st=>J.b st fun b2 st=>D.nil st<|
     M.call (c 225 [.bool b2]) fun ds=>
     D.nil ds<|
     M.nn w fun i3 o2=>
     M.load1 i3 (o2+18) fun d2=>
     D.int .i64 d2 fun x14=>
     M.nn w fun i4 o3=>
     M.store i4 (o3+18) [.int .i64 (wr64 (x14+1))]<|
     M.new [.int .i64 x8,.int .i64 x9,.int .i64 x10,.int .i64 x11] fun i5=>
     M.load i5 0 4 fun cs2=>
     M.app 4 out1 out1n cs2 1 2199023255552 fun p=>
     M.join (fun st=>
      J.l 7 st fun todo2 todo2n st=>
      D.nil st<|
      jk2 [.slice 4 p (out1n+1),.slice 7 todo2 todo2n]) fun jk5=>
     M.loop (fun rec2 st=>
      J.l 7 st fun todo3 todo3n st=>
      J.i .i64 st fun x15 st=>
      D.nil st<|
      bif decide (x15<(x12n:Int))then
       M.nn x12 fun i6 o4=>
      M.chk (inB x15 x12n)<|
      M.load1 i6 (x15.toNat*1+o4) fun d3=>
      D.int .i64 d3 fun x16=>
      M.new [.int .i64 x16,.int .i64 x15,.int .i64 x8,.int .i64 x9,.int .i64 x10,.int .i64 x11,.bool false] fun i7=>
      M.load i7 0 7 fun cs3=>
      M.app 7 todo3 todo3n cs3 1 1256584717458 fun p1=>
      rec2 [.slice 7 p1 (todo3n+1),.int .i64 (wr64 (x15+1))]
      else
       jk5 [.slice 7 todo3 todo3n]) n [.slice 7 todo ((wr64 ((todon:Int)-1)).toNat),.int .i64 0]) fun jk4=>
    bif decide (x8<x13)then
     M.nn w fun i8 o5=>
     M.load1 i8 (o5+11) fun d4=>
     D.slice 3 d4 fun x17 x17n=>
     M.nn x17 fun i9 o6=>
     M.chk (inB x8 x17n)<|
     M.load i9 (x8.toNat*3+o6) 3 fun cs4=>
     J.b cs4 fun x18 r=>
     J.i .i64 r fun x19 r=>
     J.i .i64 r fun x20 r=>
     D.nil r<|
     jk4 [.bool ((x18==true)&&((x19==x9)&&((x20==x)&&true)))]
    else
     jk4 [.bool false]) fun jk3=>
   bif (x12n:Int)==x1 then
    M.join (fun st=>J.b st fun b3 st=>D.nil st<|
     jk3 [.bool b3]) fun jk6=>
    bif x6 then
     jk6 [.bool true]
    else
     M.call (c 159 [.agg [.int .i64 x2,.int .i64 x3,.int .i64 x4,.int .i64 x5],.agg [.int .i64 x8,.int .i64 x9,.int .i64 x10,.int .i64 x11]]) fun ds=>
     J.i .i64 ds fun x21 ds=>
     D.nil ds<|
     jk6 [.bool (decide (x21<0))]
   else
    jk3 [.bool false]
  else
   jk1 [.slice 4 out1 out1n]) n [.slice 0 none 0,.slice 7 (some (i,0)) 1]
def Zcw:Zg→Nat→List DV→M (List DV):=fun c n args=>
 J.p args fun w args=>
 D.nil args<|
 M.nn w fun i o=>
 M.load1 i (o+11) fun d=>
 D.slice 3 d fun x xn=>
 M.join (fun st=>
  J.i .i64 st fun n1 st=>
  D.nil st<|
  M.ret [.int .i64 n1]) fun jk1=>
 M.loop (fun rec1 st=>
  J.i .i64 st fun n2 st=>
  J.i .i64 st fun x1 st=>
  D.nil st<|
  bif decide (x1<(xn:Int))then
   M.nn x fun i1 o1=>
   M.chk (inB x1 xn)<|
   M.load i1 (x1.toNat*3+o1) 3 fun cs=>
   J.b cs fun x2 r=>
   J.i .i64 r fun x3 r=>
   J.i .i64 r fun x4 r=>
   D.nil r<|
   M.nn w fun i2 o2=>
   M.load1 i2 (o2+16) fun d1=>
   D.slice 1 d1 fun x5 x5n=>
   M.new [.int .i64 x3] fun i3=>
   M.load i3 0 1 fun cs1=>
   M.app 1 x5 x5n cs1 1 8796093022208 fun p=>
   M.nn w fun i4 o3=>
   M.store i4 (o3+16) [.slice 1 p (x5n+1)]<|
   M.join (fun st=>
    J.i .i64 st fun n3 st=>
    D.nil st<|
    rec1 [.int .i64 n3,.int .i64 (wr64 (x1+1))]) fun jk2=>
   bif x2 then
    jk2 [.int .i64 (wr64 (n2+1))]
   else
    jk2 [.int .i64 n2]
  else
   jk1 [.int .i64 n2]) n [.int .i64 0,.int .i64 0]
def Z7:Zg→Nat→List DV→M (List DV):=fun c n args=>
 J.l 1 args fun s1 s1n args=>
 J.l 1 args fun s2 s2n args=>
 D.nil args<|
 bif !((s1n:Int)==(s2n:Int))then
  M.ret [.bool false]
 else
  M.join (fun st=>
   D.nil st<|
   M.ret [.bool true]) fun jk1=>
  M.loop (fun rec1 st=>
   J.i .i64 st fun x st=>
   D.nil st<|
   bif decide (x<(s1n:Int))then
    M.nn s1 fun i o=>
    M.chk (inB x s1n)<|
    M.load1 i (x.toNat*1+o) fun d=>
    D.int .u64 d fun x1=>
    M.nn s2 fun i1 o1=>
    M.chk (inB x s2n)<|
    M.load1 i1 (x.toNat*1+o1) fun d1=>
    D.int .u64 d1 fun x2=>
    bif !(x1==x2)then
     M.ret [.bool false]
    else
     rec1 [.int .i64 (wr64 (x+1))]
   else
    jk1 []) n [.int .i64 0]
def ZfC:Zg→Nat→List DV→M (List DV):=fun c n args=>
 J.l 1 args fun b1 b1n args=>
 D.nil args<|
 M.base fun b0=>
 M.call (c 259 [.slice 1 b1 b1n]) fun ds=>
 J.b ds fun x ds=>
 D.nil ds<|
 bif !x then
  M.retF b0 [.int .i64 0,.int .i64 0,.slice 0 none 0,.bool false]
 else
  M.nn b1 fun i o=>
  M.chk (inB 4 b1n)<|
  M.load1 i (4+o) fun d=>
  D.int .u8 d fun x1=>
  M.nn b1 fun i1 o1=>
  M.chk (inB 5 b1n)<|
  M.load1 i1 (5+o1) fun d1=>
  D.int .u8 d1 fun x2=>
  M.chk (decide ((8:Int)≤(b1n:Int)))<|
  M.callX (c 260 [.slice 1 (cutA true b1 8) (b1n-8)]) fun ds=>
  J.l 1 ds fun x3 x3n ds=>
  D.nil ds<|
  M.retF b0 [.int .i64 (wr64 (x1)),.int .i64 (wr64 (x2)),.slice 1 x3 x3n,.bool true]
def Zds:Zg→Nat→List DV→M (List DV):=fun c n args=>
 J.l 1 args fun b1 b1n args=>
 J.i .i64 args fun at1 args=>
 J.i .i64 args fun n1 args=>
 D.nil args<|
 M.call (c 261 [.slice 1 b1 b1n,.int .i64 at1,.int .i64 n1]) fun ds=>
 J.b ds fun x ds=>
 D.nil ds<|
 bif !x then
  M.ret [.bool false]
 else
  M.chk (decide (0≤wr64 (at1+n1))&&decide (wr64 (at1+n1)≤(b1n:Int)))<|
  M.chk (decide (0≤at1)&&decide (at1≤(((wr64 (at1+n1)).toNat:Nat):Int)))<|
  M.join (fun st=>
   D.nil st<|
   M.ret [.bool true]) fun jk1=>
  M.loop (fun rec1 st=>
   J.i .i64 st fun x1 st=>
   D.nil st<|
   bif decide (x1<((((wr64 (at1+n1)).toNat)-at1.toNat:Nat):Int))then
    M.nn (cutA true b1 (at1.toNat*1)) fun i o=>
    M.chk (inB x1 (((wr64 (at1+n1)).toNat)-at1.toNat))<|
    M.load1 i (x1.toNat*1+o) fun d=>
    D.int .u8 d fun x2=>
    bif !(x2==0)then
     M.ret [.bool false]
    else
     rec1 [.int .i64 (wr64 (x1+1))]
   else
    jk1 []) n [.int .i64 0]
def ZfP:Zg→Nat→List DV→M (List DV):=fun c n args=>
 J.a args fun cs args=>
 J.i .i64 cs fun c1 r1=>
 D.len r1 48<|
 D.nil args<|
 M.base fun b0=>
 D.len ((.int .i64 c1)::r1) 49<|
 M.join (fun st=>
  J.l 1 st fun out outn st=>
  D.nil st<|
  M.retF b0 [.slice 1 out outn]) fun jk1=>
 M.loop (fun rec1 st=>
  J.l 1 st fun out1 out1n st=>
  J.i .i64 st fun x st=>
  D.nil st<|
  bif decide (x<384)then
   M.call (c 262 [.agg ((.int .i64 c1)::r1),.int .i64 (wr64 ((wr64 (c1*384))+x))]) fun ds=>
   J.b ds fun x1 ds=>
   D.nil ds<|
   M.join (fun st=>
    J.l 1 st fun out2 out2n st=>
    D.nil st<|
    rec1 [.slice 1 out2 out2n,.int .i64 (wr64 (x+1))]) fun jk2=>
   bif x1 then
    M.new [.int .i64 (wr64 ((wr64 (c1*384))+x))] fun i=>
    M.load i 0 1 fun cs1=>
    M.app 1 out1 out1n cs1 1 8796093022208 fun p=>
    jk2 [.slice 1 p (out1n+1)]
   else
    jk2 [.slice 1 out1 out1n]
  else
   jk1 [.slice 1 out1 out1n]) n [.slice 0 none 0,.int .i64 0]
def Zhc:Zg→Nat→List DV→M (List DV):=fun c n args=>
 J.i .i64 args fun n1 args=>
 D.nil args<|
 M.ret [.int .i64 (wr64 ((wr64 ((wr64 (n1+384))-1)).tdiv 384))]
def ZcX:Zg→Nat→List DV→M (List DV):=fun c n args=>
 J.p args fun s args=>
 D.nil args<|
 M.nn s fun i o=>
 M.load1 i o fun d=>
 D.int .i64 d fun x=>
 M.nn s fun i1 o1=>
 M.load1 i1 (o1+1) fun d1=>
 D.slice 1 d1 fun x1 x1n=>
 M.callX (c 263 [.slice 1 x1 x1n]) fun ds=>
 J.l 1 ds fun x2 x2n ds=>
 D.nil ds<|
 M.new [.int .i64 x,.slice 1 x2 x2n] fun i2=>
 M.ret [.ptr (some (i2,0))]
def ZgQ:Zg→Nat→List DV→M (List DV):=fun c n args=>
 J.l 1 args fun b1 b1n args=>
 D.nil args<|
 M.join (fun st=>
  J.i .u32 st fun x st=>
  D.nil st<|
  M.ret [.int .u32 (IntKind.wrap .u32 (4294967295-x))]) fun jk1=>
 M.loop (fun rec1 st=>
  J.i .u32 st fun x1 st=>
  J.i .i64 st fun i st=>
  D.nil st<|
  bif decide (i<(b1n:Int))then
   M.nn b1 fun i1 o=>
   M.chk (inB i b1n)<|
   M.load1 i1 (i.toNat*1+o) fun d=>
   D.int .u8 d fun x2=>
   M.call (c 264 [.int .u32 (bits .xor .u32 x1 (IntKind.wrap .u32 (x2))),.int .i64 8]) fun ds=>
   J.i .u32 ds fun x3 ds=>
   D.nil ds<|
   rec1 [.int .u32 x3,.int .i64 (wr64 (i+1))]
  else
   jk1 [.int .u32 x1]) n [.int .u32 4294967295,.int .i64 0]
def ZeG:Zg→Nat→List DV→M (List DV):=fun c n args=>
 J.i .u64 args fun v args=>
 J.i .i64 args fun i args=>
 D.nil args<|
 M.join (fun st=>
  J.i .u64 st fun v1 st=>
  D.nil st<|
  M.ret [.int .u8 (IntKind.wrap .u8 (v1.tmod 256))]) fun jk1=>
 M.loop (fun rec1 st=>
  J.i .u64 st fun v2 st=>
  J.i .i64 st fun k st=>
  D.nil st<|
  bif decide (k<i)then
   rec1 [.int .u64 (IntKind.wrap .u64 (v2.tdiv 256)),.int .i64 (wr64 (k+1))]
  else
   jk1 [.int .u64 v2]) n [.int .u64 v,.int .i64 0]
def Zfj:Zg→Nat→List DV→M (List DV):=fun c n args=>
 J.s args fun s args=>
 J.i .i64 args fun n1 args=>
 D.nil args<|
 M.chk (decide (0≤(if (wr64 (n1-(s.length:Int)))<0 then 0 else(wr64 (n1-(s.length:Int)))))&&decide ((if (wr64 (n1-(s.length:Int)))<0 then 0 else(wr64 (n1-(s.length:Int))))≤(if (wr64 (n1-(s.length:Int)))<0 then 0 else(wr64 (n1-(s.length:Int)))))&&decide ((if (wr64 (n1-(s.length:Int)))<0 then 0 else(wr64 (n1-(s.length:Int))))≤70368744177664))<|
 M.new (rep ((if (wr64 (n1-(s.length:Int)))<0 then 0 else(wr64 (n1-(s.length:Int)))).toNat) [.int .u8 0]) fun i=>
 M.load i 0 ((if (wr64 (n1-(s.length:Int)))<0 then 0 else(wr64 (n1-(s.length:Int)))).toNat) fun cs=>
 D.oct cs fun l=>
 M.chk (Nat.ble (s.length+l.length) 4611686018427387904)<|
 M.ret [.str (s++l)]
def Zgk:Zg→Nat→List DV→M (List DV):=fun c n args=>
 J.a args fun cs args=>
 J.i .i64 cs fun n1 r=>
 J.i .i64 r fun n2 r=>
 J.i .i64 r fun n3 r=>
 J.i .i64 r fun n4 r=>
 J.l 1 r fun n5 n5n r=>
 D.nil r<|
 D.nil args<|
 M.callX (c 213 [.int .u64 (IntKind.wrap .u64 (n3)),.int .i64 8]) fun ds=>
 J.s ds fun x ds=>
 D.nil ds<|
 M.callX (c 213 [.int .u64 (IntKind.wrap .u64 (n4)),.int .i64 8]) fun ds=>
 J.s ds fun x1 ds=>
 D.nil ds<|
 M.chk (Nat.ble (x.length+x1.length) 4611686018427387904)<|
 M.callX (c 213 [.int .u64 (IntKind.wrap .u64 (n1)),.int .i64 4]) fun ds=>
 J.s ds fun x2 ds=>
 D.nil ds<|
 M.chk (Nat.ble ((x++x1).length+x2.length) 4611686018427387904)<|
 M.callN (c 213 [.int .u64 (IntKind.wrap .u64 (n2)),.int .i64 4]) fun ds=>
 J.s ds fun x3 ds=>
 D.nil ds<|
 M.chk (Nat.ble (((x++x1)++x2).length+x3.length) 4611686018427387904)<|
 M.join (fun st=>
  J.s st fun s st=>
  D.nil st<|
  M.call (c 214 [.int .i64 1,.int .i64 (n5n:Int),.str s]) fun ds=>
  J.s ds fun x4 ds=>
  D.nil ds<|
  M.ret [.str x4]) fun jk1=>
 M.loop (fun rec1 st=>
  J.s st fun s1 st=>
  J.i .i64 st fun i st=>
  D.nil st<|
  bif decide (i<(n5n:Int))then
   M.nn n5 fun i1 o=>
   M.chk (inB i n5n)<|
   M.load1 i1 (i.toNat*1+o) fun d=>
   D.int .i64 d fun x5=>
   M.call (c 213 [.int .u64 (IntKind.wrap .u64 (x5)),.int .i64 2]) fun ds=>
   J.s ds fun x6 ds=>
   D.nil ds<|
   M.chk (Nat.ble (s1.length+x6.length) 4611686018427387904)<|
   rec1 [.str (s1++x6),.int .i64 (wr64 (i+1))]
  else
   jk1 [.str s1]) n [.str (((x++x1)++x2)++x3),.int .i64 0]
def ZeK:Zg→Nat→List DV→M (List DV):=fun c n args=>
 J.i .i64 args fun n1 args=>
 D.nil args<|
 M.join (fun st=>J.b st fun b1 st=>D.nil st<|
  M.ret [.bool b1]) fun jk1=>
 bif decide (n1≥2)then
  jk1 [.bool (decide (n1≤3071))]
 else
  jk1 [.bool false]
def ZfJ:Zg→Nat→List DV→M (List DV):=fun c n args=>
 J.a args fun cs args=>
 J.b cs fun x r=>
 J.i .i64 r fun x1 r=>
 J.i .i64 r fun x2 r=>
 D.nil r<|
 D.nil args<|
 M.join (fun st=>J.b st fun b1 st=>D.nil st<|
  bif b1 then
   M.ret [.bool false]
  else
   bif x then
    M.join (fun st=>J.b st fun b2 st=>D.nil st<|
     M.ret [.bool b2]) fun jk2=>
    bif decide (x1>0)then
     M.call (c 251 [.int .i64 x2]) fun ds=>
     J.b ds fun x3 ds=>
     D.nil ds<|
     jk2 [.bool x3]
    else
     jk2 [.bool false]
   else
    M.join (fun st=>J.b st fun b3 st=>D.nil st<|
     M.join (fun st=>J.b st fun b4 st=>D.nil st<|
      M.ret [.bool b4]) fun jk4=>
     bif b3 then
      M.join (fun st=>J.b st fun b5 st=>D.nil st<|
       jk4 [.bool b5]) fun jk5=>
      bif !(x1==0)then
       jk5 [.bool true]
      else
       jk5 [.bool (x2==0)]
     else
      jk4 [.bool false]) fun jk3=>
    bif decide (x2≥0)then
     jk3 [.bool (decide (x2≤1792))]
    else
     jk3 [.bool false]) fun jk1=>
 bif decide (x1<0)then
  jk1 [.bool true]
 else
  jk1 [.bool (decide (x1>4294967295))]
def ZiS:Zg→Nat→List DV→M (List DV):=fun c n args=>
 J.i .i64 args fun n1 args=>
 J.i .i64 args fun by1 args=>
 D.nil args<|
 M.chk (!(by1==0))<|
 M.ret [.int .i64 (wr64 ((wr64 ((wr64 (n1+by1))-1)).tdiv by1))]
def ZbF:Zg→Nat→List DV→M (List DV):=fun c n args=>
 J.l 1 args fun s sn args=>
 J.i .i64 args fun v args=>
 D.nil args<|
 M.join (fun st=>
  D.nil st<|
  M.ret [.int .i64 (-1)]) fun jk1=>
 M.loop (fun rec1 st=>
  J.i .i64 st fun x st=>
  D.nil st<|
  bif decide (x<(sn:Int))then
   M.nn s fun i o=>
   M.chk (inB x sn)<|
   M.load1 i (x.toNat*1+o) fun d=>
   D.int .i64 d fun x1=>
   bif v==x1 then
    M.ret [.int .i64 x]
   else
    rec1 [.int .i64 (wr64 (x+1))]
  else
   jk1 []) n [.int .i64 0]
def Zfo:Zg→Nat→List DV→M (List DV):=fun c n args=>
 J.i .i64 args fun n1 args=>
 D.nil args<|
 M.join (fun st=>J.b st fun b1 st=>D.nil st<|
  M.ret [.bool b1]) fun jk1=>
 bif decide (n1≥0)then
  jk1 [.bool (decide (n1≤1792))]
 else
  jk1 [.bool false]
def Zfe:Zg→Nat→List DV→M (List DV):=fun c n args=>
 J.l 1 args fun b1 b1n args=>
 D.nil args<|
 M.call (c 272 [.slice 1 b1 b1n]) fun ds=>
 J.a ds fun cs ds=>
 J.i .i64 cs fun x r=>
 J.i .i64 r fun x1 r=>
 J.i .i64 r fun x2 r=>
 J.i .i64 r fun x3 r=>
 J.l 1 r fun x4 x4n r=>
 D.nil r<|
 J.b ds fun x5 ds=>
 D.nil ds<|
 bif x5 then
  M.ret [.iface 6 (.agg [.int .i64 x,.int .i64 x1,.int .i64 x2,.int .i64 x3,.slice 1 x4 x4n])]
 else
  M.call (c 273 [.slice 1 b1 b1n]) fun ds=>
  J.a ds fun cs1 ds=>
  D.len cs1 21<|
  J.b ds fun x6 ds=>
  D.nil ds<|
  D.len cs1 21<|
  bif x6 then
   M.ret [.iface 5 (.agg cs1)]
  else
   M.call (c 274 [.slice 1 b1 b1n]) fun ds=>
   J.a ds fun cs2 ds=>
   D.len cs2 16<|
   J.b ds fun x7 ds=>
   D.nil ds<|
   D.len cs2 16<|
   bif x7 then
    M.ret [.iface 2 (.agg cs2)]
   else
    M.call (c 275 [.slice 1 b1 b1n]) fun ds=>
    J.a ds fun cs3 ds=>
    J.s cs3 fun x8 r1=>
    J.i .i64 r1 fun x9 r2=>
    D.len r2 12<|
    J.b ds fun x10 ds=>
    D.nil ds<|
    D.len ((.str x8)::(.int .i64 x9)::r2) 14<|
    bif x10 then
     M.ret [.iface 4 (.agg ((.str x8)::(.int .i64 x9)::r2))]
    else
     M.call (c 276 [.slice 1 b1 b1n]) fun ds=>
     J.a ds fun cs4 ds=>
     J.l 1 cs4 fun x11 x11n r=>
     D.nil r<|
     J.b ds fun x12 ds=>
     D.nil ds<|
     bif x12 then
      M.ret [.iface 3 (.agg [.slice 1 x11 x11n])]
     else
      M.ret [.nilIface]
def ZeO:Zg→Nat→List DV→M (List DV):=fun c n args=>
 J.l 1 args fun b1 b1n args=>
 D.nil args<|
 M.join (fun st=>J.b st fun b2 st=>D.nil st<|
  M.join (fun st=>J.b st fun b3 st=>D.nil st<|
   M.join (fun st=>J.b st fun b4 st=>D.nil st<|
    M.ret [.bool b4]) fun jk3=>
   bif b3 then
    M.chk (decide ((4:Int)≤(b1n:Int)))<|
    M.callX (c 285 [.slice 1 b1 4]) fun ds=>
    J.i .u64 ds fun x ds=>
    D.nil ds<|
    M.chk (decide ((4:Int)≤(b1n:Int)))<|
    M.new [.slice 1 (cutA true b1 4) (b1n-4)] fun i=>
    M.call (c 286 [.int .u32 (IntKind.wrap .u32 (x)),.slice 1 (some (i,0)) 1]) fun ds=>
    J.b ds fun x1 ds=>
    D.nil ds<|
    jk3 [.bool x1]
   else
    jk3 [.bool false]) fun jk2=>
  bif b2 then
   M.call (c 238 [.slice 1 b1 b1n,.int .i64 6,.int .i64 2]) fun ds=>
   J.b ds fun x2 ds=>
   D.nil ds<|
   jk2 [.bool x2]
  else
   jk2 [.bool false]) fun jk1=>
 bif (b1n:Int)==64 then
  M.nn b1 fun i1 o=>
  M.chk (inB 4 b1n)<|
  M.load1 i1 (4+o) fun d=>
  D.int .u8 d fun x3=>
  jk1 [.bool (!(x3==0))]
 else
  jk1 [.bool false]
def Zek:Zg→Nat→List DV→M (List DV):=fun c n args=>
 J.l 1 args fun b1 b1n args=>
 D.nil args<|
 M.base fun b0=>
 bif b1.isNone then
  M.retF b0 [.slice 0 none 0]
 else
  M.new [] fun i=>
  M.rd b1 (b1n*1) fun cs=>
  M.app 1 (some (i,0)) 0 cs b1n 70368744177664 fun p=>
  M.retF b0 [.slice 1 p (0+b1n)]
def Zez:Zg→Nat→List DV→M (List DV):=fun c n args=>
 J.l 1 args fun b1 b1n args=>
 J.i .i64 args fun at1 args=>
 J.i .i64 args fun n1 args=>
 D.nil args<|
 M.join (fun st=>J.b st fun b2 st=>D.nil st<|
  M.join (fun st=>J.b st fun b3 st=>D.nil st<|
   M.join (fun st=>J.b st fun b4 st=>D.nil st<|
    M.ret [.bool b4]) fun jk3=>
   bif b3 then
    jk3 [.bool (decide (at1≤wr64 ((b1n:Int)-n1)))]
   else
    jk3 [.bool false]) fun jk2=>
  bif b2 then
   jk2 [.bool (decide (n1≤(b1n:Int)))]
  else
   jk2 [.bool false]) fun jk1=>
 bif decide (at1≥0)then
  jk1 [.bool (decide (n1≥0))]
 else
  jk1 [.bool false]
def ZgA:Zg→Nat→List DV→M (List DV):=fun c n args=>
 J.a args fun cs args=>
 J.i .i64 cs fun c1 r1=>
 D.len r1 48<|
 J.i .i64 args fun at1 args=>
 D.nil args<|
 D.len ((.int .i64 c1)::r1) 49<|
 M.call (c 287 [.agg ((.int .i64 c1)::r1),.int .i64 at1]) fun ds=>
 J.i .i64 ds fun x ds=>
 J.i .u8 ds fun x1 ds=>
 J.b ds fun x2 ds=>
 D.nil ds<|
 M.join (fun st=>J.b st fun b1 st=>D.nil st<|
  M.ret [.bool b1]) fun jk1=>
 bif x2 then
  M.chk (inB x 48)<|
  D.nth r1 (x.toNat*1) fun d=>
  D.int .u8 d fun x3=>
  jk1 [.bool (!((bits .and .u8 x3 x1)==0))]
 else
  jk1 [.bool false]
def Z8:Zg→Nat→List DV→M (List DV):=fun c n args=>
 J.l 1 args fun s sn args=>
 D.nil args<|
 bif s.isNone then
  M.ret [.slice 0 none 0]
 else
  M.new [] fun i=>
  M.rd s (sn*1) fun cs=>
  M.app 1 (some (i,0)) 0 cs sn 8796093022208 fun p=>
  M.ret [.slice 1 p (0+sn)]
def Zew:Zg→Nat→List DV→M (List DV):=fun c n args=>
 J.i .u32 args fun x args=>
 J.i .i64 args fun n1 args=>
 D.nil args<|
 M.join (fun st=>
  J.i .u32 st fun x1 st=>
  D.nil st<|
  M.ret [.int .u32 x1]) fun jk1=>
 M.loop (fun rec1 st=>
  J.i .u32 st fun x2 st=>
  J.i .i64 st fun i st=>
  D.nil st<|
  bif decide (i<n1)then
   M.call (c 288 [.int .u32 x2]) fun ds=>
   J.i .u32 ds fun x3 ds=>
   D.nil ds<|
   rec1 [.int .u32 x3,.int .i64 (wr64 (i+1))]
  else
   jk1 [.int .u32 x2]) n [.int .u32 x,.int .i64 0]
def ZhE:Zg→Nat→List DV→M (List DV):=fun c n args=>
 J.l 1 args fun b1 b1n args=>
 D.nil args<|
 M.base fun b0=>
 M.call (c 237 [.slice 1 b1 b1n]) fun ds=>
 J.i .i64 ds fun x ds=>
 J.i .i64 ds fun x1 ds=>
 J.l 1 ds fun x2 x2n ds=>
 J.b ds fun x3 ds=>
 D.nil ds<|
 M.join (fun st=>J.b st fun b2 st=>D.nil st<|
  M.join (fun st=>J.b st fun b3 st=>D.nil st<|
   bif b3 then
    M.retF b0 [.agg [.int .i64 0,.int .i64 0,.int .i64 0,.int .i64 0,.slice 0 none 0],.bool false]
   else
    M.call (c 295 [.slice 1 x2 x2n,.int .i64 16,.int .i64 4]) fun ds=>
    J.i .i64 ds fun x4 ds=>
    D.nil ds<|
    M.call (c 295 [.slice 1 x2 x2n,.int .i64 20,.int .i64 4]) fun ds=>
    J.i .i64 ds fun x5 ds=>
    D.nil ds<|
    M.call (c 295 [.slice 1 x2 x2n,.int .i64 0,.int .i64 8]) fun ds=>
    J.i .i64 ds fun x6 ds=>
    D.nil ds<|
    M.call (c 295 [.slice 1 x2 x2n,.int .i64 8,.int .i64 8]) fun ds=>
    J.i .i64 ds fun x7 ds=>
    D.nil ds<|
    M.join (fun st=>
     J.a st fun cs st=>
     J.i .i64 cs fun n1 r=>
     J.i .i64 r fun n2 r=>
     J.i .i64 r fun n3 r=>
     J.i .i64 r fun n4 r=>
     J.l 1 r fun n5 n5n r=>
     D.nil r<|
     D.nil st<|
     M.call (c 296 [.agg [.int .i64 n1,.int .i64 n2,.int .i64 n3,.int .i64 n4,.slice 1 n5 n5n]]) fun ds=>
     J.b ds fun x8 ds=>
     D.nil ds<|
     M.join (fun st=>J.b st fun b4 st=>D.nil st<|
      bif b4 then
       M.retF b0 [.agg [.int .i64 0,.int .i64 0,.int .i64 0,.int .i64 0,.slice 0 none 0],.bool false]
      else
       M.retF b0 [.agg [.int .i64 n1,.int .i64 n2,.int .i64 n3,.int .i64 n4,.slice 1 n5 n5n],.bool true]) fun jk4=>
     bif !x8 then
      jk4 [.bool true]
     else
      M.call (c 238 [.slice 1 x2 x2n,.int .i64 (wr64 (24+(wr64 (2*x1)))),.int .i64 (wr64 ((x2n:Int)-(wr64 (24+(wr64 (2*x1))))))]) fun ds=>
      J.b ds fun x9 ds=>
      D.nil ds<|
      jk4 [.bool (!x9)]) fun jk3=>
    M.loop (fun rec1 st=>
     J.a st fun cs1 st=>
     J.i .i64 cs1 fun n6 r=>
     J.i .i64 r fun n7 r=>
     J.i .i64 r fun n8 r=>
     J.i .i64 r fun n9 r=>
     J.l 1 r fun n10 n10n r=>
     D.nil r<|
     J.i .i64 st fun x10 st=>
     D.nil st<|
     bif decide (x10<x1)then
      M.callN (c 295 [.slice 1 x2 x2n,.int .i64 (wr64 (24+(wr64 (2*x10)))),.int .i64 2]) fun ds=>
      J.i .i64 ds fun x11 ds=>
      D.nil ds<|
      M.new [.int .i64 x11] fun i=>
      M.load i 0 1 fun cs2=>
      M.app 1 n10 n10n cs2 1 8796093022208 fun p=>
      rec1 [.agg [.int .i64 n6,.int .i64 n7,.int .i64 n8,.int .i64 n9,.slice 1 p (n10n+1)],.int .i64 (wr64 (x10+1))]
     else
      jk3 [.agg [.int .i64 n6,.int .i64 n7,.int .i64 n8,.int .i64 n9,.slice 1 n10 n10n]]) n [.agg [.int .i64 x4,.int .i64 x5,.int .i64 x6,.int .i64 x7,.slice 0 none 0],.int .i64 0]) fun jk2=>
  bif b2 then
   jk2 [.bool true]
  else
   jk2 [.bool (decide (x1>12))]) fun jk1=>
 bif !x3 then
  jk1 [.bool true]
 else
  jk1 [.bool (!(x==1))]
def ZdX:Zg→Nat→List DV→M (List DV):=fun c n args=>
 J.l 1 args fun b1 b1n args=>
 D.nil args<|
 M.call (c 237 [.slice 1 b1 b1n]) fun ds=>
 J.i .i64 ds fun x ds=>
 J.i .i64 ds fun x1 ds=>
 J.l 1 ds fun x2 x2n ds=>
 J.b ds fun x3 ds=>
 D.nil ds<|
 M.join (fun st=>J.b st fun b2 st=>D.nil st<|
  M.join (fun st=>J.b st fun b3 st=>D.nil st<|
   bif b3 then
    M.ret [.agg [.bool false,.int .i64 0,.int .i64 0,.bool false,.int .i64 0,.int .i64 0,.bool false,.int .i64 0,.int .i64 0,.bool false,.int .i64 0,.int .i64 0,.bool false,.int .i64 0,.int .i64 0,.bool false,.int .i64 0,.int .i64 0,.bool false,.int .i64 0,.int .i64 0],.bool false]
   else
    M.join (fun st=>
     J.a st fun cs st=>
     D.len cs 21<|
     J.a st fun cs1 st=>
     D.len cs1 21<|
     D.nil st<|
     D.len cs1 21<|
     M.ret [.agg cs1,.bool true]) fun jk3=>
    M.loop (fun rec1 st=>
     J.a st fun cs2 st=>
     D.len cs2 21<|
     J.a st fun cs3 st=>
     D.len cs3 21<|
     J.i .i64 st fun x4 st=>
     D.nil st<|
     bif decide (x4<7)then
      M.chk (decide (0≤wr64 (8*(wr64 (x4+1))))&&decide (wr64 (8*(wr64 (x4+1)))≤(x2n:Int)))<|
      M.chk (decide (0≤wr64 (8*x4))&&decide (wr64 (8*x4)≤(((wr64 (8*(wr64 (x4+1)))).toNat:Nat):Int)))<|
      M.chk (decide (0≤x4))<|
      M.chk (decide ((4:Int)≤((((wr64 (8*(wr64 (x4+1)))).toNat)-((wr64 (8*x4)).toNat):Nat):Int)))<|
      M.callX (c 285 [.slice 1 (cutA true x2 (((wr64 (8*x4)).toNat)*1)) 4]) fun ds=>
      J.i .u64 ds fun x5 ds=>
      D.nil ds<|
      M.chk (decide ((4:Int)≤((((wr64 (8*(wr64 (x4+1)))).toNat)-((wr64 (8*x4)).toNat):Nat):Int)))<|
      M.callX (c 285 [.slice 1 (cutA true (cutA true x2 (((wr64 (8*x4)).toNat)*1)) 4) ((((wr64 (8*(wr64 (x4+1)))).toNat)-((wr64 (8*x4)).toNat))-4)]) fun ds=>
      J.i .u64 ds fun x6 ds=>
      D.nil ds<|
      M.call (c 297 [.agg [.bool ((bits .and .i64 (x1.fdiv (2^(min x4.toNat 64))) 1)==1),.int .i64 (wr64 (x5)),.int .i64 (wr64 (x6))]]) fun ds=>
      J.b ds fun x7 ds=>
      D.nil ds<|
      bif !x7 then
       M.ret [.agg [.bool false,.int .i64 0,.int .i64 0,.bool false,.int .i64 0,.int .i64 0,.bool false,.int .i64 0,.int .i64 0,.bool false,.int .i64 0,.int .i64 0,.bool false,.int .i64 0,.int .i64 0,.bool false,.int .i64 0,.int .i64 0,.bool false,.int .i64 0,.int .i64 0],.bool false]
      else
       M.chk (inB x4 7)<|
      M.chk (Nat.ble (x4.toNat*3+3) 21)<|
      rec1 [.agg cs2,.agg (spl cs3 (x4.toNat*3) [.bool ((bits .and .i64 (x1.fdiv (2^(min x4.toNat 64))) 1)==1),.int .i64 (wr64 (x5)),.int .i64 (wr64 (x6))]),.int .i64 (wr64 (x4+1))]
     else
      jk3 [.agg cs2,.agg cs3]) n [.agg [.bool false,.int .i64 0,.int .i64 0,.bool false,.int .i64 0,.int .i64 0,.bool false,.int .i64 0,.int .i64 0,.bool false,.int .i64 0,.int .i64 0,.bool false,.int .i64 0,.int .i64 0,.bool false,.int .i64 0,.int .i64 0,.bool false,.int .i64 0,.int .i64 0],.agg [.bool false,.int .i64 0,.int .i64 0,.bool false,.int .i64 0,.int .i64 0,.bool false,.int .i64 0,.int .i64 0,.bool false,.int .i64 0,.int .i64 0,.bool false,.int .i64 0,.int .i64 0,.bool false,.int .i64 0,.int .i64 0,.bool false,.int .i64 0,.int .i64 0],.int .i64 0]) fun jk2=>
  bif b2 then
   jk2 [.bool true]
  else
   jk2 [.bool (decide (x1≥128))]) fun jk1=>
 bif !x3 then
  jk1 [.bool true]
 else
  jk1 [.bool (!(x==2))]
def ZeN:Zg→Nat→List DV→M (List DV):=fun c n args=>
 J.l 1 args fun b1 b1n args=>
 D.nil args<|
 M.call (c 237 [.slice 1 b1 b1n]) fun ds=>
 J.i .i64 ds fun x ds=>
 J.i .i64 ds fun x1 ds=>
 J.l 1 ds fun x2 x2n ds=>
 J.b ds fun x3 ds=>
 D.nil ds<|
 M.join (fun st=>J.b st fun b2 st=>D.nil st<|
  M.join (fun st=>J.b st fun b3 st=>D.nil st<|
   M.join (fun st=>J.b st fun b4 st=>D.nil st<|
    bif b4 then
     M.ret [.agg (List.replicate 16 (.int .i64 0)),.bool false]
    else
     M.join (fun st=>
      J.a st fun cs st=>
      D.len cs 16<|
      D.nil st<|
      M.call (c 298 [.agg cs]) fun ds=>
      J.b ds fun x4 ds=>
      D.nil ds<|
      bif !x4 then
       M.ret [.agg (List.replicate 16 (.int .i64 0)),.bool false]
      else
       D.len cs 16<|
      M.ret [.agg cs,.bool true]) fun jk4=>
     M.loop (fun rec1 st=>
      J.a st fun cs1 st=>
      D.len cs1 16<|
      J.i .i64 st fun x5 st=>
      D.nil st<|
      bif decide (x5<16)then
       M.chk (decide (0≤wr64 (2*(wr64 (x5+1))))&&decide (wr64 (2*(wr64 (x5+1)))≤(x2n:Int)))<|
      M.chk (decide (0≤wr64 (2*x5))&&decide (wr64 (2*x5)≤(((wr64 (2*(wr64 (x5+1)))).toNat:Nat):Int)))<|
      M.call (c 285 [.slice 1 (cutA true x2 (((wr64 (2*x5)).toNat)*1)) (((wr64 (2*(wr64 (x5+1)))).toNat)-((wr64 (2*x5)).toNat))]) fun ds=>
      J.i .u64 ds fun x6 ds=>
      D.nil ds<|
      M.chk (inB x5 16)<|
      M.chk (Nat.ble (x5.toNat*1+1) 16)<|
      rec1 [.agg (spl cs1 (x5.toNat*1) [.int .i64 (wr64 (x6))]),.int .i64 (wr64 (x5+1))]
      else
       jk4 [.agg cs1]) n [.agg (List.replicate 16 (.int .i64 0)),.int .i64 0]) fun jk3=>
   bif b3 then
    jk3 [.bool true]
   else
    M.call (c 238 [.slice 1 x2 x2n,.int .i64 32,.int .i64 (wr64 ((x2n:Int)-32))]) fun ds=>
    J.b ds fun x7 ds=>
    D.nil ds<|
    jk3 [.bool (!x7)]) fun jk2=>
  bif b2 then
   jk2 [.bool true]
  else
   jk2 [.bool (!(x1==0))]) fun jk1=>
 bif !x3 then
  jk1 [.bool true]
 else
  jk1 [.bool (!(x==3))]
def ZcW:Zg→Nat→List DV→M (List DV):=fun c n args=>
 J.l 1 args fun b1 b1n args=>
 D.nil args<|
 M.call (c 237 [.slice 1 b1 b1n]) fun ds=>
 J.i .i64 ds fun x ds=>
 J.i .i64 ds fun x1 ds=>
 J.l 1 ds fun x2 x2n ds=>
 J.b ds fun x3 ds=>
 D.nil ds<|
 M.join (fun st=>J.b st fun b2 st=>D.nil st<|
  M.join (fun st=>J.b st fun b3 st=>D.nil st<|
   M.join (fun st=>J.b st fun b4 st=>D.nil st<|
    bif b4 then
     M.ret [.agg [.str (bs []),.int .i64 0,.int .i64 0,.int .i64 0,.int .i64 0,.int .i64 0,.int .i64 0,.int .i64 0,.int .i64 0,.int .i64 0,.int .i64 0,.int .i64 0,.int .i64 0,.int .i64 0],.bool false]
    else
     M.chk (decide (0≤wr64 (28+x1))&&decide (wr64 (28+x1)≤(x2n:Int)))<|
     M.chk (decide ((28:Int)≤(((wr64 (28+x1)).toNat:Nat):Int)))<|
     M.rd (cutA true x2 28) (((wr64 (28+x1)).toNat)-28) fun cs=>
     D.oct cs fun l=>
     M.chk (decide ((4:Int)≤(x2n:Int)))<|
     M.callX (c 285 [.slice 1 x2 4]) fun ds=>
     J.i .u64 ds fun x4 ds=>
     D.nil ds<|
     M.join (fun st=>
      J.a st fun cs1 st=>
      J.s cs1 fun q r1=>
      J.i .i64 r1 fun q1 r2=>
      D.len r2 12<|
      D.nil st<|
      M.call (c 299 [.agg ((.str q)::(.int .i64 q1)::r2)]) fun ds=>
      J.b ds fun x5 ds=>
      D.nil ds<|
      bif !x5 then
       M.ret [.agg [.str (bs []),.int .i64 0,.int .i64 0,.int .i64 0,.int .i64 0,.int .i64 0,.int .i64 0,.int .i64 0,.int .i64 0,.int .i64 0,.int .i64 0,.int .i64 0,.int .i64 0,.int .i64 0],.bool false]
      else
       D.len ((.str q)::(.int .i64 q1)::r2) 14<|
      M.ret [.agg ((.str q)::(.int .i64 q1)::r2),.bool true]) fun jk4=>
     M.loop (fun rec1 st=>
      J.a st fun cs2 st=>
      J.s cs2 fun q2 r3=>
      J.i .i64 r3 fun q3 r4=>
      D.len r4 12<|
      J.i .i64 st fun x6 st=>
      D.nil st<|
      bif decide (x6<12)then
       M.chk (decide (0≤wr64 ((wr64 (4+(wr64 (2*x6))))+2))&&decide (wr64 ((wr64 (4+(wr64 (2*x6))))+2)≤(x2n:Int)))<|
      M.chk (decide (0≤wr64 (4+(wr64 (2*x6))))&&decide (wr64 (4+(wr64 (2*x6)))≤(((wr64 ((wr64 (4+(wr64 (2*x6))))+2)).toNat:Nat):Int)))<|
      M.call (c 285 [.slice 1 (cutA true x2 (((wr64 (4+(wr64 (2*x6)))).toNat)*1)) (((wr64 ((wr64 (4+(wr64 (2*x6))))+2)).toNat)-((wr64 (4+(wr64 (2*x6)))).toNat))]) fun ds=>
      J.i .u64 ds fun x7 ds=>
      D.nil ds<|
      M.chk (inB x6 12)<|
      M.chk (Nat.ble (x6.toNat*1+2+1) 14)<|
      rec1 [.agg ((.str q2)::(.int .i64 q3)::(spl r4 (x6.toNat*1) [.int .i64 (wr64 (x7))])),.int .i64 (wr64 (x6+1))]
      else
       jk4 [.agg ((.str q2)::(.int .i64 q3)::r4)]) n [.agg [.str l,.int .i64 (wr64 (x4)),.int .i64 0,.int .i64 0,.int .i64 0,.int .i64 0,.int .i64 0,.int .i64 0,.int .i64 0,.int .i64 0,.int .i64 0,.int .i64 0,.int .i64 0,.int .i64 0],.int .i64 0]) fun jk3=>
   bif b3 then
    jk3 [.bool true]
   else
    M.call (c 238 [.slice 1 x2 x2n,.int .i64 (wr64 (28+x1)),.int .i64 (wr64 ((wr64 ((x2n:Int)-28))-x1))]) fun ds=>
    J.b ds fun x8 ds=>
    D.nil ds<|
    jk3 [.bool (!x8)]) fun jk2=>
  bif b2 then
   jk2 [.bool true]
  else
   jk2 [.bool (decide (x1>24))]) fun jk1=>
 bif !x3 then
  jk1 [.bool true]
 else
  jk1 [.bool (!(x==5))]
def Zd7:Zg→Nat→List DV→M (List DV):=fun c n args=>
 J.l 1 args fun b1 b1n args=>
 D.nil args<|
 M.base fun b0=>
 M.call (c 237 [.slice 1 b1 b1n]) fun ds=>
 J.i .i64 ds fun x ds=>
 J.i .i64 ds fun x1 ds=>
 J.l 1 ds fun x2 x2n ds=>
 J.b ds fun x3 ds=>
 D.nil ds<|
 M.join (fun st=>J.b st fun b2 st=>D.nil st<|
  M.join (fun st=>J.b st fun b3 st=>D.nil st<|
   M.join (fun st=>J.b st fun b4 st=>D.nil st<|
    bif b4 then
     M.retF b0 [.agg [.slice 0 none 0],.bool false]
    else
     M.join (fun st=>
      J.a st fun cs st=>
      J.l 1 cs fun d dn r=>
      D.nil r<|
      D.nil st<|
      M.call (c 300 [.agg [.slice 1 d dn]]) fun ds=>
      J.b ds fun x4 ds=>
      D.nil ds<|
      bif !x4 then
       M.retF b0 [.agg [.slice 0 none 0],.bool false]
      else
       M.retF b0 [.agg [.slice 1 d dn],.bool true]) fun jk4=>
     M.loop (fun rec1 st=>
      J.a st fun cs1 st=>
      J.l 1 cs1 fun d1 d1n r=>
      D.nil r<|
      J.i .i64 st fun x5 st=>
      D.nil st<|
      bif decide (x5<x1)then
       M.chk (decide (0≤wr64 (2*(wr64 (x5+1))))&&decide (wr64 (2*(wr64 (x5+1)))≤(x2n:Int)))<|
      M.chk (decide (0≤wr64 (2*x5))&&decide (wr64 (2*x5)≤(((wr64 (2*(wr64 (x5+1)))).toNat:Nat):Int)))<|
      M.callN (c 285 [.slice 1 (cutA true x2 (((wr64 (2*x5)).toNat)*1)) (((wr64 (2*(wr64 (x5+1)))).toNat)-((wr64 (2*x5)).toNat))]) fun ds=>
      J.i .u64 ds fun x6 ds=>
      D.nil ds<|
      M.new [.int .i64 (wr64 (x6))] fun i=>
      M.load i 0 1 fun cs2=>
      M.app 1 d1 d1n cs2 1 8796093022208 fun p=>
      rec1 [.agg [.slice 1 p (d1n+1)],.int .i64 (wr64 (x5+1))]
      else
       jk4 [.agg [.slice 1 d1 d1n]]) n [.agg [.slice 0 none 0],.int .i64 0]) fun jk3=>
   bif b3 then
    jk3 [.bool true]
   else
    M.call (c 238 [.slice 1 x2 x2n,.int .i64 (wr64 (2*x1)),.int .i64 (wr64 ((x2n:Int)-(wr64 (2*x1))))]) fun ds=>
    J.b ds fun x7 ds=>
    D.nil ds<|
    jk3 [.bool (!x7)]) fun jk2=>
  bif b2 then
   jk2 [.bool true]
  else
   jk2 [.bool (decide (x1>16))]) fun jk1=>
 bif !x3 then
  jk1 [.bool true]
 else
  jk1 [.bool (!(x==6))]
def ZdK:Zg→Nat→List DV→M (List DV):=fun c n args=>
 J.l 1 args fun b1 b1n args=>
 D.nil args<|
 M.chk (decide (0≤(if 8<(b1n:Int)then 8 else(b1n:Int)))&&decide ((if 8<(b1n:Int)then 8 else(b1n:Int))≤(b1n:Int)))<|
 M.join (fun st=>
  J.i .u64 st fun v st=>
  D.nil st<|
  M.ret [.int .u64 v]) fun jk1=>
 M.loop (fun rec1 st=>
  J.i .u64 st fun v1 st=>
  J.i .i64 st fun x st=>
  D.nil st<|
  bif decide (x<(((if 8<(b1n:Int)then 8 else(b1n:Int)).toNat:Nat):Int))then
   M.nn b1 fun i o=>
   M.chk (inB x ((if 8<(b1n:Int)then 8 else(b1n:Int)).toNat))<|
   M.load1 i (x.toNat*1+o) fun d=>
   D.int .u8 d fun x1=>
   M.chk (decide (0≤wr64 (8*x)))<|
   rec1 [.int .u64 (bits .or .u64 v1 (IntKind.wrap .u64 ((IntKind.wrap .u64 (x1))*2^(min (wr64 (8*x)).toNat 64)))),.int .i64 (wr64 (x+1))]
  else
   jk1 [.int .u64 v1]) n [.int .u64 0,.int .i64 0]
def ZhJ:Zg→Nat→List DV→M (List DV):=fun c n args=>
 J.i .u32 args fun sum args=>
 J.l 1 args fun bs bsn args=>
 D.nil args<|
 M.call (c 306 [.slice 1 bs bsn]) fun ds=>
 J.i .u32 ds fun x ds=>
 D.nil ds<|
 M.ret [.bool (x==sum)]
def ZgE:Zg→Nat→List DV→M (List DV):=fun c n args=>
 J.a args fun cs args=>
 J.i .i64 cs fun c1 r1=>
 D.len r1 48<|
 J.i .i64 args fun at1 args=>
 D.nil args<|
 D.len ((.int .i64 c1)::r1) 49<|
 M.call (c 307 [.agg ((.int .i64 c1)::r1)]) fun ds=>
 J.b ds fun x ds=>
 D.nil ds<|
 M.join (fun st=>J.b st fun b1 st=>D.nil st<|
  M.join (fun st=>J.b st fun b2 st=>D.nil st<|
   bif b2 then
    M.ret [.int .i64 0,.int .u8 0,.bool false]
   else
    M.chk (decide (0≤(at1.tmod 384).tmod 8))<|
    M.ret [.int .i64 (wr64 ((at1.tmod 384).tdiv 8)),.int .u8 (IntKind.wrap .u8 (1*2^(min ((at1.tmod 384).tmod 8).toNat 8))),.bool true]) fun jk2=>
  bif b1 then
   jk2 [.bool true]
  else
   jk2 [.bool (!((wr64 (at1.tdiv 384))==c1))]) fun jk1=>
 bif !x then
  jk1 [.bool true]
 else
  jk1 [.bool (decide (at1<0))]
def ZfR:Zg→Nat→List DV→M (List DV):=fun c n args=>
 J.i .u32 args fun x args=>
 D.nil args<|
 bif (x.tmod 2)==1 then
  M.ret [.int .u32 (bits .xor .u32 (IntKind.wrap .u32 (x.tdiv 2)) 2197175160)]
 else
  M.ret [.int .u32 (IntKind.wrap .u32 (x.tdiv 2))]
def Zex:Zg→Nat→List DV→M (List DV):=fun c n args=>
 J.l 1 args fun body bodyn args=>
 J.i .i64 args fun at1 args=>
 J.i .i64 args fun n1 args=>
 D.nil args<|
 M.call (c 312 [.slice 1 body bodyn,.int .i64 at1,.int .i64 n1]) fun ds=>
 J.i .u64 ds fun x ds=>
 J.b ds fun x1 ds=>
 D.nil ds<|
 M.ret [.int .i64 (wr64 (x))]
def Zfz:Zg→Nat→List DV→M (List DV):=fun c n args=>
 J.a args fun cs args=>
 J.i .i64 cs fun n1 r=>
 J.i .i64 r fun n2 r=>
 J.i .i64 r fun n3 r=>
 J.i .i64 r fun n4 r=>
 J.l 1 r fun n5 n5n r=>
 D.nil r<|
 D.nil args<|
 M.join (fun st=>J.b st fun b1 st=>D.nil st<|
  M.join (fun st=>J.b st fun b2 st=>D.nil st<|
   M.join (fun st=>J.b st fun b3 st=>D.nil st<|
    M.join (fun st=>J.b st fun b4 st=>D.nil st<|
     bif b4 then
      M.ret [.bool false]
     else
      M.call (c 147 [.slice 1 n5 n5n,.func 313 [] []]) fun ds=>
      J.b ds fun x ds=>
      D.nil ds<|
      M.ret [.bool (!x)]) fun jk4=>
    bif b3 then
     jk4 [.bool true]
    else
     jk4 [.bool (decide ((n5n:Int)>12))]) fun jk3=>
   bif b2 then
    jk3 [.bool true]
   else
    jk3 [.bool (decide (n2>4294967295))]) fun jk2=>
  bif b1 then
   jk2 [.bool true]
  else
   jk2 [.bool (decide (n2<1))]) fun jk1=>
 bif decide (n1<0)then
  jk1 [.bool true]
 else
  jk1 [.bool (decide (n1≥1792))]
def Zc4:Zg→Nat→List DV→M (List DV):=fun c n args=>
 J.a args fun cs args=>
 J.b cs fun x r=>
 J.i .i64 r fun x1 r=>
 J.i .i64 r fun x2 r=>
 D.nil r<|
 D.nil args<|
 bif x then
  M.call (c 314 [.int .i64 x1,.int .i64 1,.int .i64 4294967295]) fun ds=>
  J.b ds fun x3 ds=>
  D.nil ds<|
  M.join (fun st=>J.b st fun b1 st=>D.nil st<|
   M.ret [.bool b1]) fun jk1=>
  bif x3 then
   M.call (c 314 [.int .i64 x2,.int .i64 2,.int .i64 3071]) fun ds=>
   J.b ds fun x4 ds=>
   D.nil ds<|
   jk1 [.bool x4]
  else
   jk1 [.bool false]
 else
  M.call (c 314 [.int .i64 x1,.int .i64 0,.int .i64 4294967295]) fun ds=>
  J.b ds fun x5 ds=>
  D.nil ds<|
  M.join (fun st=>J.b st fun b2 st=>D.nil st<|
   M.join (fun st=>J.b st fun b3 st=>D.nil st<|
    M.ret [.bool b3]) fun jk3=>
   bif b2 then
    M.join (fun st=>J.b st fun b4 st=>D.nil st<|
     jk3 [.bool b4]) fun jk4=>
    bif decide (x1>0)then
     jk4 [.bool true]
    else
     jk4 [.bool (x2==0)]
   else
    jk3 [.bool false]) fun jk2=>
  bif x5 then
   M.call (c 314 [.int .i64 x2,.int .i64 0,.int .i64 1792]) fun ds=>
   J.b ds fun x6 ds=>
   D.nil ds<|
   jk2 [.bool x6]
  else
   jk2 [.bool false]
def Zdt:Zg→Nat→List DV→M (List DV):=fun c n args=>
 J.a args fun cs args=>
 D.len cs 16<|
 D.nil args<|
 D.len cs 16<|
 M.join (fun st=>
  D.nil st<|
  M.ret [.bool true]) fun jk1=>
 M.loop (fun rec1 st=>
  J.i .i64 st fun x st=>
  D.nil st<|
  bif decide (x<16)then
   M.chk (inB x 16)<|
   D.nth cs (x.toNat*1) fun d=>
   D.int .i64 d fun x1=>
   M.join (fun st=>J.b st fun b1 st=>D.nil st<|
    bif b1 then
     M.ret [.bool false]
    else
     rec1 [.int .i64 (wr64 (x+1))]) fun jk2=>
   bif !(x1==0)then
    M.call (c 314 [.int .i64 x1,.int .i64 2,.int .i64 3071]) fun ds=>
    J.b ds fun x2 ds=>
    D.nil ds<|
    jk2 [.bool (!x2)]
   else
    jk2 [.bool false]
  else
   jk1 []) n [.int .i64 0]
def Zcs:Zg→Nat→List DV→M (List DV):=fun c n args=>
 J.a args fun cs args=>
 J.s cs fun q r1=>
 J.i .i64 r1 fun q1 r2=>
 D.len r2 12<|
 D.nil args<|
 D.len ((.str q)::(.int .i64 q1)::r2) 14<|
 M.call (c 26 [.str q]) fun ds=>
 J.b ds fun x ds=>
 D.nil ds<|
 M.join (fun st=>J.b st fun b1 st=>D.nil st<|
  M.join (fun st=>J.b st fun b2 st=>D.nil st<|
   bif b2 then
    M.ret [.bool false]
   else
    M.join (fun st=>
     D.nil st<|
     M.ret [.bool true]) fun jk3=>
    M.loop (fun rec1 st=>
     J.i .i64 st fun x1 st=>
     D.nil st<|
     bif decide (x1<12)then
      M.chk (inB x1 12)<|
      D.nth (r2.take 12) (x1.toNat*1) fun d=>
      D.int .i64 d fun x2=>
      M.chk (decide (0≤x1))<|
      M.join (fun st=>J.b st fun b3 st=>D.nil st<|
       M.join (fun st=>J.b st fun b4 st=>D.nil st<|
       bif b4 then
       M.ret [.bool false]
      else
       rec1 [.int .i64 (wr64 (x1+1))]) fun jk5=>
      bif b3 then
       jk5 [.bool true]
      else
       M.chk (decide (0≤x1))<|
      M.join (fun st=>J.b st fun b5 st=>D.nil st<|
       jk5 [.bool b5]) fun jk6=>
      bif (bits .and .i64 (q1.fdiv (2^(min x1.toNat 64))) 1)==1 then
       M.call (c 315 [.int .i64 x2]) fun ds=>
      J.b ds fun x3 ds=>
      D.nil ds<|
      jk6 [.bool (!x3)]
      else
       jk6 [.bool false]) fun jk4=>
      bif (bits .and .i64 (q1.fdiv (2^(min x1.toNat 64))) 1)==0 then
       jk4 [.bool (!(x2==0))]
      else
       jk4 [.bool false]
     else
      jk3 []) n [.int .i64 0]) fun jk2=>
  bif b1 then
   jk2 [.bool true]
  else
   jk2 [.bool (decide (q1≥4096))]) fun jk1=>
 bif !x then
  jk1 [.bool true]
 else
  jk1 [.bool (decide (q1<0))]
def ZcZ:Zg→Nat→List DV→M (List DV):=fun c n args=>
 J.a args fun cs args=>
 J.l 1 cs fun d dn r=>
 D.nil r<|
 D.nil args<|
 M.join (fun st=>J.b st fun b1 st=>D.nil st<|
  bif b1 then
   M.ret [.bool false]
  else
   M.join (fun st=>
    D.nil st<|
    M.ret [.bool true]) fun jk2=>
   M.loop (fun rec1 st=>
    J.i .i64 st fun x st=>
    D.nil st<|
    bif decide (x<(dn:Int))then
     M.nn d fun i o=>
     M.chk (inB x dn)<|
     M.load1 i (x.toNat*1+o) fun d1=>
     D.int .i64 d1 fun x1=>
     M.call (c 315 [.int .i64 x1]) fun ds=>
     J.b ds fun x2 ds=>
     D.nil ds<|
     M.join (fun st=>J.b st fun b2 st=>D.nil st<|
      bif b2 then
       M.ret [.bool false]
      else
       rec1 [.int .i64 (wr64 (x+1))]) fun jk3=>
     bif !x2 then
      jk3 [.bool true]
     else
      M.chk (decide (0≤x)&&decide (x≤(dn:Int)))<|
      M.call (c 222 [.slice 1 d x.toNat,.int .i64 x1]) fun ds=>
      J.b ds fun x3 ds=>
      D.nil ds<|
      jk3 [.bool x3]
    else
     jk2 []) n [.int .i64 0]) fun jk1=>
 bif decide ((dn:Int)<1)then
  jk1 [.bool true]
 else
  jk1 [.bool (decide ((dn:Int)>16))]
def ZiQ:Zg→Nat→List DV→M (List DV):=fun c n args=>
 J.l 1 args fun bs bsn args=>
 D.nil args<|
 M.call (c 317 []) fun ds=>
 J.a ds fun cs ds=>
 D.len cs 16<|
 D.nil ds<|
 M.new (List.replicate 16 (.int .u32 0)) fun t=>
 D.len cs 16<|
 M.store t 0 cs<|
 M.join (fun st=>
  J.i .u32 st fun x st=>
  D.nil st<|
  M.ret [.int .u32 (bits .xor .u32 x 4294967295)]) fun jk1=>
 M.loop (fun rec1 st=>
  J.i .u32 st fun x1 st=>
  J.i .i64 st fun x2 st=>
  D.nil st<|
  bif decide (x2<(bsn:Int))then
   M.nn bs fun i o=>
   M.chk (inB x2 bsn)<|
   M.load1 i (x2.toNat*1+o) fun d=>
   D.slice 1 d fun x3 x3n=>
   M.call (c 318 [.ptr (some (t,0)),.int .u32 x1,.slice 1 x3 x3n]) fun ds=>
   J.i .u32 ds fun x4 ds=>
   D.nil ds<|
   rec1 [.int .u32 x4,.int .i64 (wr64 (x2+1))]
  else
   jk1 [.int .u32 x1]) n [.int .u32 4294967295,.int .i64 0]
def Zet:Zg→Nat→List DV→M (List DV):=fun c n args=>
 J.a args fun cs args=>
 J.i .i64 cs fun c1 r1=>
 D.len r1 48<|
 D.nil args<|
 D.len ((.int .i64 c1)::r1) 49<|
 M.join (fun st=>J.b st fun b1 st=>D.nil st<|
  M.ret [.bool b1]) fun jk1=>
 bif decide (c1≥0)then
  jk1 [.bool (decide (c1<8))]
 else
  jk1 [.bool false]
def ZgD:Zg→Nat→List DV→M (List DV):=fun c n args=>
 J.l 1 args fun b1 b1n args=>
 J.i .i64 args fun at1 args=>
 J.i .i64 args fun n1 args=>
 D.nil args<|
 M.join (fun st=>J.b st fun b2 st=>D.nil st<|
  M.join (fun st=>J.b st fun b3 st=>D.nil st<|
   bif b3 then
    M.ret [.int .u64 0,.bool false]
   else
    M.chk (decide (0≤wr64 (at1+n1))&&decide (wr64 (at1+n1)≤(b1n:Int)))<|
    M.chk (decide (0≤at1)&&decide (at1≤(((wr64 (at1+n1)).toNat:Nat):Int)))<|
    M.call (c 285 [.slice 1 (cutA true b1 (at1.toNat*1)) (((wr64 (at1+n1)).toNat)-at1.toNat)]) fun ds=>
    J.i .u64 ds fun x ds=>
    D.nil ds<|
    M.ret [.int .u64 x,.bool true]) fun jk2=>
  bif b2 then
   jk2 [.bool true]
  else
   M.call (c 261 [.slice 1 b1 b1n,.int .i64 at1,.int .i64 n1]) fun ds=>
   J.b ds fun x1 ds=>
   D.nil ds<|
   jk2 [.bool (!x1)]) fun jk1=>
 bif decide (n1<1)then
  jk1 [.bool true]
 else
  jk1 [.bool (decide (n1>8))]
def Zd6:Zg→Nat→List DV→M (List DV):=fun c n args=>
 J.i .i64 args fun kid args=>
 D.nil args<|
 M.join (fun st=>J.b st fun b1 st=>D.nil st<|
  M.ret [.bool b1]) fun jk1=>
 bif decide (kid<2)then
  jk1 [.bool true]
 else
  jk1 [.bool (decide (kid≥3072))]
def ZeJ:Zg→Nat→List DV→M (List DV):=fun c n args=>
 J.i .i64 args fun n1 args=>
 J.i .i64 args fun from1 args=>
 J.i .i64 args fun to args=>
 D.nil args<|
 M.join (fun st=>J.b st fun b1 st=>D.nil st<|
  M.ret [.bool b1]) fun jk1=>
 bif decide (n1≥from1)then
  jk1 [.bool (decide (n1≤to))]
 else
  jk1 [.bool false]
def Zci:Zg→Nat→List DV→M (List DV):=fun c n args=>
 J.i .i64 args fun n1 args=>
 D.nil args<|
 M.join (fun st=>J.b st fun b1 st=>D.nil st<|
  M.ret [.bool b1]) fun jk1=>
 bif decide (n1≥2)then
  jk1 [.bool (decide (n1<3072))]
 else
  jk1 [.bool false]
def Zgu:Zg→Nat→List DV→M (List DV):=fun c n args=>
 D.nil args<|
 M.join (fun st=>
  J.a st fun cs st=>
  D.len cs 16<|
  D.nil st<|
  D.len cs 16<|
  M.ret [.agg cs]) fun jk1=>
 M.loop (fun rec1 st=>
  J.a st fun cs1 st=>
  D.len cs1 16<|
  J.i .i64 st fun x st=>
  D.nil st<|
  bif decide (x<16)then
   M.join (fun st=>
    J.a st fun cs2 st=>
    D.len cs2 16<|
    D.nil st<|
    rec1 [.agg cs2,.int .i64 (wr64 (x+1))]) fun jk2=>
   M.join (fun st=>
    J.i .u32 st fun x1 st=>
    D.nil st<|
    M.chk (inB x 16)<|
    M.chk (Nat.ble (x.toNat*1+1) 16)<|
    jk2 [.agg (spl cs1 (x.toNat*1) [.int .u32 x1])]) fun jk3=>
   M.loop (fun rec2 st=>
    J.i .u32 st fun x2 st=>
    J.i .i64 st fun x3 st=>
    D.nil st<|
    bif decide (x3<4)then
     M.call (c 320 [.int .u32 x2]) fun ds=>
     J.i .u32 ds fun x4 ds=>
     D.nil ds<|
     rec2 [.int .u32 x4,.int .i64 (wr64 (x3+1))]
    else
     jk3 [.int .u32 x2]) n [.int .u32 (IntKind.wrap .u32 (x)),.int .i64 0]
  else
   jk1 [.agg cs1]) n [.agg (List.replicate 16 (.int .u32 0)),.int .i64 0]
def ZdP:Zg→Nat→List DV→M (List DV):=fun c n args=>
 J.p args fun t args=>
 J.i .u32 args fun x args=>
 J.l 1 args fun b1 b1n args=>
 D.nil args<|
 M.join (fun st=>
  J.i .u32 st fun x1 st=>
  D.nil st<|
  M.ret [.int .u32 x1]) fun jk1=>
 M.loop (fun rec1 st=>
  J.i .u32 st fun x2 st=>
  J.i .i64 st fun x3 st=>
  D.nil st<|
  bif decide (x3<(b1n:Int))then
   M.nn b1 fun i o=>
   M.chk (inB x3 b1n)<|
   M.load1 i (x3.toNat*1+o) fun d=>
   D.int .u8 d fun x4=>
   M.nn t fun i1 o1=>
   M.chk (inB (bits .and .u32 (bits .xor .u32 x2 (IntKind.wrap .u32 (x4))) 15) 16)<|
   M.load1 i1 (((bits .and .u32 (bits .xor .u32 x2 (IntKind.wrap .u32 (x4))) 15).toNat)*1+o1) fun d1=>
   D.int .u32 d1 fun x5=>
   M.nn t fun i2 o2=>
   M.chk (inB (bits .and .u32 (bits .xor .u32 ((bits .xor .u32 x2 (IntKind.wrap .u32 (x4))).fdiv (2^4)) x5) 15) 16)<|
   M.load1 i2 (((bits .and .u32 (bits .xor .u32 ((bits .xor .u32 x2 (IntKind.wrap .u32 (x4))).fdiv (2^4)) x5) 15).toNat)*1+o2) fun d2=>
   D.int .u32 d2 fun x6=>
   rec1 [.int .u32 (bits .xor .u32 ((bits .xor .u32 ((bits .xor .u32 x2 (IntKind.wrap .u32 (x4))).fdiv (2^4)) x5).fdiv (2^4)) x6),.int .i64 (wr64 (x3+1))]
  else
   jk1 [.int .u32 x2]) n [.int .u32 x,.int .i64 0]
def ZhC:Zg→Nat→List DV→M (List DV):=fun c n args=>
 J.i .u32 args fun x args=>
 D.nil args<|
 bif (bits .and .u32 x 1)==1 then
  M.ret [.int .u32 (bits .xor .u32 (x.fdiv (2^1)) 2197175160)]
 else
  M.ret [.int .u32 (x.fdiv (2^1))]
end
structure ZfG (Bd:Za):Prop where
 eq:Bd 179=ZfQ
structure Zhi (Bd:Za):Prop where
 eq:Bd 248=ZeG
structure ZbE (Bd:Za):Prop where
 eq:Bd 213=ZgB
 q72:Zhi Bd
structure ZiA (Bd:Za):Prop where
 eq:Bd 288=ZfR
structure Zhd (Bd:Za):Prop where
 eq:Bd 264=Zew
 q97:ZiA Bd
structure Zjm (Bd:Za):Prop where
 eq:Bd 242=ZgQ
 q73:Zhd Bd
structure ZiF (Bd:Za):Prop where
 eq:Bd 249=Zfj
structure Zbq (Bd:Za):Prop where
 eq:Bd 214=Zfn
 q116:ZbE Bd
 q117:Zjm Bd
 q98:ZiF Bd
structure ZjA (Bd:Za):Prop where
 eq:Bd 191=ZgH
 q116:ZbE Bd
 q99:Zbq Bd
structure Zbt (Bd:Za):Prop where
 eq:Bd 194=ZcH
structure Zjv (Bd:Za):Prop where
 eq:Bd 250=Zgk
 q116:ZbE Bd
 q99:Zbq Bd
structure Zcl (Bd:Za):Prop where
 eq:Bd 217=Zcy
 q28:Zbt Bd
 q118:Zjv Bd
structure Zjo (Bd:Za):Prop where
 eq:Bd 216=ZgO
 q116:ZbE Bd
 q99:Zbq Bd
structure Zdc (Bd:Za):Prop where
 eq:Bd 251=ZeK
structure Zjs (Bd:Za):Prop where
 eq:Bd 215=ZgG
 q116:ZbE Bd
 q99:Zbq Bd
 q78:Zdc Bd
structure Zec (Bd:Za):Prop where
 eq:Bd 189=ZcJ
 q28:Zbt Bd
 q24:Zcl Bd
 q123:Zjo Bd
 q122:Zjs Bd
structure ZhV (Bd:Za):Prop where
 eq:Bd 252=ZfJ
 q78:Zdc Bd
structure Zh2 (Bd:Za):Prop where
 eq:Bd 219=Zfw
 q116:ZbE Bd
 q99:Zbq Bd
 q101:ZhV Bd
structure Zjt (Bd:Za):Prop where
 eq:Bd 218=Zgq
 q116:ZbE Bd
 q99:Zbq Bd
 q78:Zdc Bd
structure Zdk (Bd:Za):Prop where
 eq:Bd 190=Zch
 q28:Zbt Bd
 q100:Zh2 Bd
 q119:Zjt Bd
structure Zig (Bd:Za):Prop where
 eq:Bd 220=Zfy
structure ZdO (Bd:Za):Prop where
 eq:Bd 196=ZdW
 q103:Zig Bd
structure Zhh (Bd:Za):Prop where
 eq:Bd 195=Zem
 q56:ZdO Bd
 q79:Zep Bd
structure Zjk (Bd:Za):Prop where
 eq:Bd 193=ZgI
 q99:Zbq Bd
structure Ziz (Bd:Za):Prop where
 eq:Bd 192=ZfT
structure Zel (Bd:Za):Prop where
 eq:Bd 170=ZeF
 q96:ZfG Bd
 q125:Zjc Bd
 q124:ZjA Bd
 q27:Zec Bd
 q13:Zdk Bd
 q56:ZdO Bd
 q80:Zhh Bd
 q28:Zbt Bd
 q121:Zjk Bd
 q102:Ziz Bd
structure ZdT (Bd:Za):Prop where
 eq:Bd 209=Zd4
structure Zbw (Bd:Za):Prop where
 eq:Bd 206=ZdV
 q47:ZdT Bd
structure Zg3 (Bd:Za):Prop where
 eq:Bd 177=ZiX
 q45:Zbw Bd
structure ZfM (Bd:Za):Prop where
 eq:Bd 221=Zdn
structure ZiH (Bd:Za):Prop where
 eq:Bd 253=ZiS
structure Zg7 (Bd:Za):Prop where
 eq:Bd 223=ZeH
 q87:ZfO Bd
 q135:ZiH Bd
structure ZcF (Bd:Za):Prop where
 eq:Bd 254=ZbF
structure Zbm (Bd:Za):Prop where
 eq:Bd 222=Zbn
 q8:ZcF Bd
structure Zen (Bd:Za):Prop where
 eq:Bd 197=Zer
 q87:ZfO Bd
 q44:ZfM Bd
 q63:Zg7 Bd
 q6:Zbm Bd
structure ZU (Bd:Za):Prop where
 eq:Bd 225=Zgl
structure ZhX (Bd:Za):Prop where
 eq:Bd 255=Zfo
structure Zhq (Bd:Za):Prop where
 eq:Bd 227=ZeL
 q135:ZiH Bd
 q88:ZhX Bd
structure ZdR (Bd:Za):Prop where
 eq:Bd 184=Zeb
 q47:ZdT Bd
structure ZgF (Bd:Za):Prop where
 eq:Bd 203=ZgR
structure Zeq (Bd:Za):Prop where
 eq:Bd 261=Zez
structure ZY (Bd:Za):Prop where
 eq:Bd 238=Zds
 q69:Zeq Bd
structure Zkx (Bd:Za):Prop where
 eq:Bd 320=ZhC
structure ZjE (Bd:Za):Prop where
 eq:Bd 317=Zgu
 q130:Zkx Bd
structure Zgf (Bd:Za):Prop where
 eq:Bd 318=ZdP
structure Zmn (Bd:Za):Prop where
 eq:Bd 306=ZiQ
 q108:ZjE Bd
 q48:Zgf Bd
structure ZkO (Bd:Za):Prop where
 eq:Bd 286=ZhJ
 q134:Zmn Bd
structure Z5 (Bd:Za):Prop where
 eq:Bd 285=ZdK
structure Zg5 (Bd:Za):Prop where
 eq:Bd 259=ZeO
 q39:ZY Bd
 q129:ZkO Bd
 q94:Z5 Bd
structure Zhr (Bd:Za):Prop where
 eq:Bd 260=Zek
structure Zbs (Bd:Za):Prop where
 eq:Bd 237=ZfC
 q58:Zg5 Bd
 q59:Zhr Bd
structure Zji (Bd:Za):Prop where
 eq:Bd 312=ZgD
 q69:Zeq Bd
 q94:Z5 Bd
structure Zg4 (Bd:Za):Prop where
 eq:Bd 295=Zex
 q112:Zji Bd
structure Zf6 (Bd:Za):Prop where
 eq:Bd 313=Zd6
structure ZiG (Bd:Za):Prop where
 eq:Bd 296=Zfz
 q1:Zbu Bd
 q53:Zf6 Bd
structure Zkl (Bd:Za):Prop where
 eq:Bd 272=ZhE
 q84:Zbs Bd
 q39:ZY Bd
 q67:Zg4 Bd
 q93:ZiG Bd
structure ZeE (Bd:Za):Prop where
 eq:Bd 314=ZeJ
structure ZeW (Bd:Za):Prop where
 eq:Bd 297=Zc4
 q71:ZeE Bd
structure Zgc (Bd:Za):Prop where
 eq:Bd 273=ZdX
 q84:Zbs Bd
 q94:Z5 Bd
 q34:ZeW Bd
structure Zfc (Bd:Za):Prop where
 eq:Bd 298=Zdt
 q71:ZeE Bd
structure Zhm (Bd:Za):Prop where
 eq:Bd 274=ZeN
 q84:Zbs Bd
 q39:ZY Bd
 q94:Z5 Bd
 q40:Zfc Bd
structure Zcf (Bd:Za):Prop where
 eq:Bd 315=Zci
structure ZdG (Bd:Za):Prop where
 eq:Bd 299=Zcs
 q90:Zh6 Bd
 q10:Zcf Bd
structure ZeU (Bd:Za):Prop where
 eq:Bd 275=ZcW
 q84:Zbs Bd
 q39:ZY Bd
 q94:Z5 Bd
 q17:ZdG Bd
structure ZeQ (Bd:Za):Prop where
 eq:Bd 300=ZcZ
 q6:Zbm Bd
 q10:Zcf Bd
structure Zf5 (Bd:Za):Prop where
 eq:Bd 276=Zd7
 q84:Zbs Bd
 q39:ZY Bd
 q94:Z5 Bd
 q33:ZeQ Bd
structure Ziq (Bd:Za):Prop where
 eq:Bd 256=Zfe
 q131:Zkl Bd
 q55:Zgc Bd
 q70:Zhm Bd
 q32:ZeU Bd
 q49:Zf5 Bd
structure Z4 (Bd:Za):Prop where
 eq:Bd 228=Zck
 q46:ZdR Bd
 q111:ZU Bd
 q110:ZgF Bd
 q45:Zbw Bd
 q89:Ziq Bd
structure Zcn (Bd:Za):Prop where
 eq:Bd 229=Zct
 q111:ZU Bd
 q21:Z4 Bd
structure Zdl (Bd:Za):Prop where
 eq:Bd 226=Zcg
 q111:ZU Bd
 q64:Zhq Bd
 q21:Z4 Bd
 q19:Zcn Bd
structure ZdD (Bd:Za):Prop where
 eq:Bd 230=ZcA
 q111:ZU Bd
structure Zcv (Bd:Za):Prop where
 eq:Bd 233=Zco
 q111:ZU Bd
 q21:Z4 Bd
 q52:Zbx Bd
structure ZZ (Bd:Za):Prop where
 eq:Bd 232=Zih
structure Zc0 (Bd:Za):Prop where
 eq:Bd 231=Zb1
 q111:ZU Bd
 q21:Z4 Bd
 q51:Zgh Bd
 q22:Zcv Bd
 q0:ZZ Bd
 q52:Zbx Bd
structure ZdJ (Bd:Za):Prop where
 eq:Bd 234=Zcw
structure Zef (Bd:Za):Prop where
 eq:Bd 171=ZgN
 q133:Zg3 Bd
 q83:Zen Bd
 q111:ZU Bd
 q11:Zdl Bd
 q18:ZdD Bd
 q9:Zc0 Bd
 q20:ZdJ Bd
structure ZbB (Bd:Za):Prop where
 eq:Bd 236=Z7
structure ZfF (Bd:Za):Prop where
 eq:Bd 202=Zdu
 q3:ZbB Bd
structure ZjD (Bd:Za):Prop where
 eq:Bd 204=ZgL
 q84:Zbs Bd
 q39:ZY Bd
structure Zhn (Bd:Za):Prop where
 eq:Bd 240=Zhc
structure Zhg (Bd:Za):Prop where
 eq:Bd 307=Zet
structure ZjB (Bd:Za):Prop where
 eq:Bd 287=ZgE
 q60:Zhg Bd
structure Zjh (Bd:Za):Prop where
 eq:Bd 262=ZgA
 q107:ZjB Bd
structure Zir (Bd:Za):Prop where
 eq:Bd 239=ZfP
 q106:Zjh Bd
structure Zjq (Bd:Za):Prop where
 eq:Bd 200=Zgy
 q133:Zg3 Bd
 q45:Zbw Bd
 q57:Zhn Bd
 q85:Zir Bd
structure Zfq (Bd:Za):Prop where
 eq:Bd 172=Zdo
 q7:ZcE Bd
structure Zby (Bd:Za):Prop where
 eq:Bd 263=Z8
structure ZeS (Bd:Za):Prop where
 eq:Bd 241=ZcX
 q2:Zby Bd
structure ZfU (Bd:Za):Prop where
 eq:Bd 201=Zdq
 q35:Zfq Bd
 q45:Zbw Bd
 q30:ZeS Bd
structure Zgb (Bd:Za):Prop where
 eq:Bd 173=ZdU
 q109:Zef Bd
 q133:Zg3 Bd
 q46:ZdR Bd
 q36:ZfF Bd
 q105:ZjD Bd
 q110:ZgF Bd
 q104:Zjq Bd
 q37:ZfU Bd
structure ZdA (Bd:Za):Prop where
 eq:Bd 210=Zcq
structure ZeP (Bd:Za):Prop where
 eq:Bd 183=Zc2
 q15:ZdA Bd
end Go.Gv
