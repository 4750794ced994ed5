/- Functions of the program, as the machine runs them: written by gvseat.py. -/
import Derived.Test.YtegglibipjjblaaGreatDoorGvDef
import Derived.Test.YtegglibipjjblaaGreatDoorGvZBod
namespace Go.Gv
set_option linter.unusedVariables false
set_option maxRecDepth 10000
set_option maxHeartbeats 4000000
noncomputable section
def GN:Zg->Nat->List DV->M (List DV):=fun c n args=>
 D.nil args<|
 M.call (c 188 []) fun ds=>
 J.a ds fun cs ds=>
 J.i .i64 cs fun x r=>
 J.i .i64 r fun x1 r=>
 J.i .i64 r fun x2 r=>
 J.l 2 r fun x3 ec r=>
 J.l 1 r fun x4 cO r=>
 J.l 1 r fun x5 gJ r=>
 D.nil r<|
 D.nil ds<|
 M.call (c 170 [.agg [.int .i64 x,.int .i64 x1,.int .i64 x2,.slice 2 x3 ec,.slice 1 x4 cO,.slice 1 x5 gJ],.int .i64 1,.int .i64 0]) fun ds=>
 J.l 1 ds fun x6 oZ ds=>
 J.a ds fun bw ds=>
 J.i .i64 bw fun x7 r=>
 J.i .i64 r fun x8 r=>
 J.i .i64 r fun x9 r=>
 J.i .i64 r fun cV r=>
 J.i .i64 r fun eK r=>
 J.i .i64 r fun fk r=>
 J.i .i64 r fun fa r=>
 J.i .i64 r fun gS r=>
 J.l 1 r fun fb LQ r=>
 D.nil r<|
 J.b ds fun fI ds=>
 D.nil ds<|
 M.call (c 171 [.slice 1 x6 oZ,.agg [.int .i64 x7,.int .i64 x8,.int .i64 x9,.int .i64 cV,.int .i64 eK,.int .i64 fk,.int .i64 fa,.int .i64 gS,.slice 1 fb LQ]]) fun ds=>
 J.a ds fun cU ds=>
 J.i .i64 cU fun gp r=>
 J.i .i64 r fun kX r=>
 J.i .i64 r fun ku r=>
 J.l 2 r fun lQ aaQ r=>
 J.l 1 r fun oY Ff r=>
 J.l 1 r fun uh Ws r=>
 D.nil r<|
 J.p ds fun xN ds=>
 J.i .i64 ds fun BU ds=>
 D.nil ds<|
 M.join (fun st=>J.b st fun b1 st=>D.nil st<|
  M.join (fun st=>J.b st fun b2 st=>D.nil st<|
   M.join (fun st=>J.b st fun b3 st=>D.nil st<|
    M.join (fun st=>J.b st fun b4 st=>D.nil st<|
     M.join (fun st=>J.b st fun b5 st=>D.nil st<|
      M.ret [.bool b5]) fun cm=>
     bif b4 then
      M.call (c 173 [.slice 1 x6 oZ,.agg [.int .i64 x7,.int .i64 x8,.int .i64 x9,.int .i64 cV,.int .i64 eK,.int .i64 fk,.int .i64 fa,.int .i64 gS,.slice 1 fb LQ],.ptr xN]) fun ds=>
      J.b ds fun vP ds=>
      D.nil ds<|
      cm [.bool vP]
     else
      cm [.bool false]) fun bu=>
    bif b3 then
     M.fW (c 188 []) fun ds=>
     J.a ds fun fG ds=>
     J.i .i64 fG fun zG r=>
     J.i .i64 r fun xO r=>
     J.i .i64 r fun zH r=>
     J.l 2 r fun zI aaS r=>
     J.l 1 r fun zJ T9 r=>
     J.l 1 r fun Fg Ua r=>
     D.nil r<|
     D.nil ds<|
     M.call (c 174 [.agg [.int .i64 gp,.int .i64 kX,.int .i64 ku,.slice 2 lQ aaQ,.slice 1 oY Ff,.slice 1 uh Ws],.agg [.int .i64 zG,.int .i64 xO,.int .i64 zH,.slice 2 zI aaS,.slice 1 zJ T9,.slice 1 Fg Ua]]) fun ds=>
     J.b ds fun BV ds=>
     D.nil ds<|
     bu [.bool BV]
    else
     bu [.bool false]) fun aU=>
   bif b2 then
    M.call (c 183 [.ptr xN]) fun ds=>
    J.i .i64 ds fun Fh ds=>
    D.nil ds<|
    aU [.bool (Fh==8)]
   else
    aU [.bool false]) fun aC=>
  bif b1 then
   aC [.bool (!xN.isNone)]
  else
   aC [.bool false]) fun aq=>
 bif fI then
  aq [.bool (BU==0)]
 else
  aq [.bool false]
def GH:Zg->Nat->List DV->M (List DV):=fun c n args=>
 J.a args fun cs args=>
 J.i .i64 cs fun x r=>
 J.i .i64 r fun x1 r=>
 J.i .i64 r fun x2 r=>
 J.l 2 r fun x3 ec r=>
 J.l 1 r fun x4 cO r=>
 J.l 1 r fun x5 gJ r=>
 D.nil r<|
 J.i .i64 args fun epoch args=>
 J.i .i64 args fun place args=>
 D.nil args<|
 M.call (c 133 [.agg [.int .i64 x,.int .i64 x1,.int .i64 x2,.slice 2 x3 ec,.slice 1 x4 cO,.slice 1 x5 gJ]]) fun ds=>
 J.b ds fun x6 ds=>
 D.nil ds<|
 bif !x6 then
  M.ret [.slice 0 none 0,.agg [.int .i64 0,.int .i64 0,.int .i64 0,.int .i64 0,.int .i64 0,.int .i64 0,.int .i64 0,.int .i64 0,.slice 0 none 0],.bool false]
 else
  M.ak (decide (0<=af (64*x))&&decide (af (64*x)<=af (64*x))&&decide (af (64*x)<=70368744177664))<|
  M.new (fD ((af (64*x)).toNat) [.int .u8 0]) fun i=>
  M.ak (decide (0<=(cO:Int))&&decide ((cO:Int)<=(cO:Int))&&decide ((cO:Int)<=8796093022208))<|
  M.new (fD ((cO:Int).toNat) [.int .i64 0]) fun i1=>
  M.new [.slice 1 (some (i,0)) ((af (64*x)).toNat),.int .i64 2,.slice 1 (some (i1,0)) ((cO:Int).toNat)] fun i2=>
  M.call (c 189 [.ptr (some (i2,0)),.slice 2 x3 ec]) fun ds=>
  J.i .i64 ds fun x7 ds=>
  D.nil ds<|
  M.call (c 190 [.ptr (some (i2,0)),.agg [.int .i64 x,.int .i64 x1,.int .i64 x2,.slice 2 x3 ec,.slice 1 x4 cO,.slice 1 x5 gJ]]) fun ds=>
  J.i .i64 ds fun x8 ds=>
  D.nil ds<|
  M.join (fun st=>
   J.a st fun bw st=>
   J.i .i64 bw fun s r=>
   J.i .i64 r fun s1 r=>
   J.i .i64 r fun s2 r=>
   J.i .i64 r fun s3 r=>
   J.i .i64 r fun s4 r=>
   J.i .i64 r fun s5 r=>
   J.i .i64 r fun s6 r=>
   J.i .i64 r fun s7 r=>
   J.l 1 r fun s8 iw r=>
   D.nil r<|
   D.nil st<|
   M.join (fun st=>
    J.a st fun cU st=>
    J.i .i64 cU fun s9 r=>
    J.i .i64 r fun EX r=>
    J.i .i64 r fun TK r=>
    J.i .i64 r fun TL r=>
    J.i .i64 r fun TM r=>
    J.i .i64 r fun TN r=>
    J.i .i64 r fun TO r=>
    J.i .i64 r fun BQ r=>
    J.l 1 r fun TP EY r=>
    D.nil r<|
    D.nil st<|
    M.join (fun st=>
     J.l 1 st fun used Wl st=>
     D.nil st<|
     M.join (fun st=>J.b st fun b1 st=>D.nil st<|
      bif b1 then
       M.ret [.slice 0 none 0,.agg [.int .i64 0,.int .i64 0,.int .i64 0,.int .i64 0,.int .i64 0,.int .i64 0,.int .i64 0,.int .i64 0,.slice 0 none 0],.bool false]
      else
       M.join (fun st=>
       D.nil st<|
      M.au i2 0 fun d=>
      D.slice 1 d fun x9 Fj=>
      M.dW (c 179 [.int .i64 place,.int .i64 2]) fun ds=>
      J.i .i64 ds fun cV ds=>
      D.nil ds<|
      M.ak (decide (0<=af (64*cV))&&decide (af (64*cV)<=(Fj:Int)))<|
      M.dW (c 191 [.agg [.int .i64 s9,.int .i64 EX,.int .i64 TK,.int .i64 TL,.int .i64 TM,.int .i64 TN,.int .i64 TO,.int .i64 BQ,.slice 1 TP EY]]) fun ds=>
      J.s ds fun eK ds=>
      D.nil ds<|
      M.wr (cy true x9 (((af (64*cV)).toNat)*1)) (ZF (eK.take (Fj-((af (64*cV)).toNat))))<|
      M.au i2 0 fun d1=>
      D.slice 1 d1 fun fk od=>
      M.ret [.slice 1 fk od,.agg [.int .i64 s9,.int .i64 EX,.int .i64 TK,.int .i64 TL,.int .i64 TM,.int .i64 TN,.int .i64 TO,.int .i64 BQ,.slice 1 TP EY],.bool true]) fun cm=>
      M.loop (fun aK st=>
       J.i .i64 st fun i3 st=>
      D.nil st<|
      bif decide (i3<(EY:Int))then
       M.call (c 192 [.int .i64 i3,.slice 1 used Wl]) fun ds=>
      J.a ds fun fG ds=>
      J.i .i64 fG fun fa r1=>
      D.len r1 48<|
      D.nil ds<|
      M.call (c 193 [.agg ((.int .i64 fa)::r1)]) fun ds=>
      J.s ds fun gS ds=>
      D.nil ds<|
      M.call (c 194 [.ptr (some (i2,0)),.str gS]) fun ds=>
      J.i .i64 ds fun fb ds=>
      D.nil ds<|
      aK [.int .i64 (af (i3+1))]
      else
       cm []) n [.int .i64 0]) fun bu=>
     bif decide ((Wl:Int)>x)then
      bu [.bool true]
     else
      M.call (c 195 [.agg [.int .i64 s9,.int .i64 EX,.int .i64 TK,.int .i64 TL,.int .i64 TM,.int .i64 TN,.int .i64 TO,.int .i64 BQ,.slice 1 TP EY]]) fun ds=>
      J.b ds fun fI ds=>
      D.nil ds<|
      bu [.bool (!fI)]) fun aU=>
    M.loop (fun dO st=>
     J.l 1 st fun Wi T6 st=>
     J.i .i64 st fun i4 st=>
     D.nil st<|
     M.au i2 1 fun d2=>
     D.int .i64 d2 fun gp=>
     bif decide (i4<af (gp+(EY:Int)))then
      M.new [.int .i64 i4] fun i5=>
      M.load i5 0 1 fun mH=>
      M.app 1 Wi T6 mH 1 8796093022208 fun p=>
      dO [.slice 1 p (T6+1),.int .i64 (af (i4+1))]
     else
      aU [.slice 1 Wi T6]) n [.slice 0 none 0,.int .i64 0]) fun aC=>
   M.loop (fun xL st=>
    J.a st fun nz st=>
    J.i .i64 nz fun s18 r=>
    J.i .i64 r fun s19 r=>
    J.i .i64 r fun s20 r=>
    J.i .i64 r fun s21 r=>
    J.i .i64 r fun s22 r=>
    J.i .i64 r fun s23 r=>
    J.i .i64 r fun s24 r=>
    J.i .i64 r fun s25 r=>
    J.l 1 r fun s26 TQ r=>
    D.nil r<|
    J.i .i64 st fun i6 st=>
    D.nil st<|
    M.call (c 196 [.agg [.int .i64 x,.int .i64 x1,.int .i64 x2]]) fun ds=>
    J.i .i64 ds fun kX ds=>
    D.nil ds<|
    bif decide (i6<kX)then
     M.au i2 1 fun d3=>
     D.int .i64 d3 fun ku=>
     M.new [.int .i64 (af (ku+i6))] fun i7=>
     M.load i7 0 1 fun wI=>
     M.app 1 s26 TQ wI 1 8796093022208 fun p1=>
     xL [.agg [.int .i64 s18,.int .i64 s19,.int .i64 s20,.int .i64 s21,.int .i64 s22,.int .i64 s23,.int .i64 s24,.int .i64 s25,.slice 1 p1 (TQ+1)],.int .i64 (af (i6+1))]
    else
     aC [.agg [.int .i64 s18,.int .i64 s19,.int .i64 s20,.int .i64 s21,.int .i64 s22,.int .i64 s23,.int .i64 s24,.int .i64 s25,.slice 1 s26 TQ]]) n [.agg [.int .i64 s,.int .i64 s1,.int .i64 s2,.int .i64 s3,.int .i64 s4,.int .i64 s5,.int .i64 s6,.int .i64 s7,.slice 1 s8 iw],.int .i64 0]) fun aq=>
  bif decide ((gJ:Int)>0)then
   M.nn x5 fun i8 o=>
   M.ak (av 0 gJ)<|
   M.au i8 (0+o) fun d4=>
   D.int .i64 d4 fun lQ=>
   aq [.agg [.int .i64 epoch,.int .i64 x,.int .i64 x1,.int .i64 x2,.int .i64 x8,.int .i64 (cO:Int),.int .i64 (af (lQ+1)),.int .i64 x7,.slice 0 none 0]]
  else
   aq [.agg [.int .i64 epoch,.int .i64 x,.int .i64 x1,.int .i64 x2,.int .i64 x8,.int .i64 (cO:Int),.int .i64 0,.int .i64 x7,.slice 0 none 0]]
def It:Zg->Nat->List DV->M (List DV):=fun c n args=>
 J.l 1 args fun image zi args=>
 J.a args fun cs args=>
 J.i .i64 cs fun s r=>
 J.i .i64 r fun s1 r=>
 J.i .i64 r fun s2 r=>
 J.i .i64 r fun s3 r=>
 J.i .i64 r fun s4 r=>
 J.i .i64 r fun s5 r=>
 J.i .i64 r fun s6 r=>
 J.i .i64 r fun s7 r=>
 J.l 1 r fun s8 iw r=>
 D.nil r<|
 D.nil args<|
 M.new [.int .i64 s,.int .i64 s1,.int .i64 s2,.int .i64 s3,.int .i64 s4,.int .i64 s5,.int .i64 s6,.int .i64 s7,.slice 1 s8 iw] fun s9=>
 M.new [.int .i64 0,.int .i64 0,.int .i64 0,.slice 0 none 0,.slice 0 none 0,.slice 0 none 0] fun state=>
 M.new [.ptr none] fun rr=>
 M.new [.int .i64 0] fun e=>
 M.load s9 0 9 fun bw=>
 J.i .i64 bw fun x r=>
 J.i .i64 r fun x1 r=>
 J.i .i64 r fun x2 r=>
 J.i .i64 r fun x3 r=>
 J.i .i64 r fun x4 r=>
 J.i .i64 r fun x5 r=>
 J.i .i64 r fun x6 r=>
 J.i .i64 r fun x7 r=>
 J.l 1 r fun x8 rD r=>
 D.nil r<|
 M.call (c 197 [.agg [.int .i64 x,.int .i64 x1,.int .i64 x2,.int .i64 x3,.int .i64 x4,.int .i64 x5,.int .i64 x6,.int .i64 x7,.slice 1 x8 rD]]) fun ds=>
 J.b ds fun x9 ds=>
 D.nil ds<|
 bif !x9 then
  M.store state 0 [.int .i64 0,.int .i64 0,.int .i64 0,.slice 0 none 0,.slice 0 none 0,.slice 0 none 0]<|
  M.store rr 0 [.ptr none]<|
  M.store e 0 [.int .i64 2]<|
  M.load state 0 6 fun o=>M.au rr 0 fun o1=>M.au e 0 fun o2=>M.ret [.agg o,o1,o2]
 else
  M.ny (M.au s9 1 fun d=>
   D.int .i64 d fun cV=>
   M.call (c 225 [.bool (decide (cV<=af ((zi:Int).tdiv 64)))]) fun ds=>
   D.nil ds<|
   M.load s9 0 9 fun cU=>
   J.i .i64 cU fun eK r=>
   J.i .i64 r fun fk r=>
   J.i .i64 r fun fa r=>
   J.i .i64 r fun gS r=>
   J.i .i64 r fun fb r=>
   J.i .i64 r fun fI r=>
   J.i .i64 r fun gp r=>
   J.i .i64 r fun kX r=>
   J.l 1 r fun ku aaP r=>
   D.nil r<|
   M.au s9 1 fun d1=>
   D.int .i64 d1 fun lQ=>
   M.new [.int .i64 0,.int .i64 1] fun i=>
   M.dW (c 177 [.int .i64 lQ,.slice 1 (some (i,0)) 2]) fun ds=>
   J.p ds fun oY ds=>
   D.nil ds<|
   M.load s9 1 3 fun fG=>
   J.i .i64 fG fun uh r=>
   J.i .i64 r fun xN r=>
   J.i .i64 r fun BU r=>
   D.nil r<|
   M.new [.slice 1 image zi,.int .i64 eK,.int .i64 fk,.int .i64 fa,.int .i64 gS,.int .i64 fb,.int .i64 fI,.int .i64 gp,.int .i64 kX,.slice 1 ku aaP,.ptr oY,.slice 0 none 0,.int .i64 uh,.int .i64 xN,.int .i64 BU,.slice 0 none 0,.slice 0 none 0,.slice 0 none 0,.int .i64 0] fun i1=>
   M.call (c 226 [.ptr (some (i1,0))]) fun ds=>
   D.nil ds<|
   M.call (c 230 [.ptr (some (i1,0))]) fun ds=>
   D.nil ds<|
   M.call (c 231 [.ptr (some (i1,0))]) fun ds=>
   D.nil ds<|
   tl i1 18 fun k n1=>
   M.au i1 18 fun d2=>
   D.int .i64 d2 fun vP=>
   M.call (c 234 [.ptr (some (i1,0))]) fun ds=>
   J.i .i64 ds fun zG ds=>
   D.nil ds<|
   fV i1 18 k n1<|
   fV i1 18 k n1<|
   M.call (c 225 [.bool (zG==vP)]) fun ds=>
   D.nil ds<|
   fV i1 18 k n1<|
   M.load i1 12 6 fun mH=>
   J.i .i64 mH fun xO r=>
   J.i .i64 r fun zH r=>
   J.i .i64 r fun zI r=>
   J.l 2 r fun zJ T9 r=>
   J.l 1 r fun Fg Ua r=>
   J.l 1 r fun BV aaT r=>
   D.nil r<|
   M.au i1 10 fun d3=>
   D.ptr d3 fun Fh=>
   M.ak (apart (some (state,0)) i1)<|
   M.store state 0 [.int .i64 xO,.int .i64 zH,.int .i64 zI,.slice 2 zJ T9,.slice 1 Fg Ua,.slice 1 BV aaT]<|
   M.store rr 0 [.ptr Fh]<|
   M.store e 0 [.int .i64 0]<|
   M.ret []) fun p=>
  bif p then M.ny (M.store state 0 [.int .i64 0,.int .i64 0,.int .i64 0,.slice 0 none 0,.slice 0 none 0,.slice 0 none 0]<|
M.store rr 0 [.ptr none]<|
M.store e 0 [.int .i64 31]<|
M.ret []) fun p=>bif p then fail else M.load state 0 6 fun o3=>M.au rr 0 fun o4=>M.au e 0 fun o5=>M.ret [.agg o3,o4,o5]
  else M.load state 0 6 fun o6=>M.au rr 0 fun o7=>M.au e 0 fun o8=>M.ret [.agg o6,o7,o8]
def Gm:Zg->Nat->List DV->M (List DV):=fun c n args=>
 J.p args fun s args=>
 D.nil args<|
 M.nn s fun i o=>
 M.au i (o+1) fun d=>
 D.slice 1 d fun x xn=>
 M.join (fun st=>
  J.l 1 st fun out qc st=>
  D.nil st<|
  M.ret [.slice 1 out qc]) fun aq=>
 M.loop (fun aK st=>
  J.l 1 st fun jU im st=>
  J.i .i64 st fun x1 st=>
  D.nil st<|
  bif decide (x1<(xn:Int))then
   M.join (fun st=>
    J.l 1 st fun zu zw st=>
    D.nil st<|
    aK [.slice 1 zu zw,.int .i64 (af (x1+1))]) fun aC=>
   M.nn x fun i1 o1=>
   M.ak (av x1 xn)<|
   M.au i1 (x1.toNat*1+o1) fun d1=>
   D.int .u64 d1 fun x2=>
   M.join (fun st=>
    J.l 1 st fun YV YW st=>
    D.nil st<|
    aC [.slice 1 YV YW]) fun aU=>
   M.loop (fun dO st=>
    J.l 1 st fun V3 Tl st=>
    J.i .u64 st fun w st=>
    D.nil st<|
    bif !(w==0)then
     M.call (c 86 [.int .u64 w]) fun ds=>
     J.i .i64 ds fun x3 ds=>
     D.nil ds<|
     M.new [.int .i64 (af ((af (x1*64))+x3))] fun i2=>
     M.load i2 0 1 fun cs=>
     M.app 1 V3 Tl cs 1 8796093022208 fun p=>
     dO [.slice 1 p (Tl+1),.int .u64 (bits .and .u64 w (IntKind.wrap .u64 (w-1)))]
    else
     aU [.slice 1 V3 Tl]) n [.slice 1 jU im,.int .u64 x2]
  else
   aq [.slice 1 jU im]) n [.slice 0 none 0,.int .i64 0]
def Hc:Zg->Nat->List DV->M (List DV):=fun c n args=>
 J.l 1 args fun image zi args=>
 J.a args fun cs args=>
 J.i .i64 cs fun s r=>
 J.i .i64 r fun s1 r=>
 J.i .i64 r fun s2 r=>
 J.i .i64 r fun s3 r=>
 J.i .i64 r fun s4 r=>
 J.i .i64 r fun s5 r=>
 J.i .i64 r fun s6 r=>
 J.i .i64 r fun s7 r=>
 J.l 1 r fun s8 iw r=>
 D.nil r<|
 J.p args fun rr args=>
 D.nil args<|
 M.call (c 171 [.slice 1 image zi,.agg [.int .i64 s,.int .i64 s1,.int .i64 s2,.int .i64 s3,.int .i64 s4,.int .i64 s5,.int .i64 s6,.int .i64 s7,.slice 1 s8 iw]]) fun ds=>
 J.a ds fun bw ds=>
 J.i .i64 bw fun x r=>
 J.i .i64 r fun x1 r=>
 J.i .i64 r fun x2 r=>
 J.l 2 r fun x3 ec r=>
 J.l 1 r fun x4 cO r=>
 J.l 1 r fun x5 gJ r=>
 D.nil r<|
 J.p ds fun x6 ds=>
 J.i .i64 ds fun x7 ds=>
 D.nil ds<|
 M.join (fun st=>J.b st fun b1 st=>D.nil st<|
  M.join (fun st=>J.b st fun b2 st=>D.nil st<|
   bif b2 then
    M.ret [.bool false]
   else
    M.join (fun st=>
     J.l 49 st fun cU WN st=>
     D.nil st<|
     M.call (c 200 [.int .i64 s1,.slice 49 cU WN]) fun ds=>
     J.p ds fun x8 ds=>
     J.b ds fun x9 ds=>
     D.nil ds<|
     M.join (fun st=>J.b st fun b3 st=>D.nil st<|
      M.ret [.bool b3]) fun bu=>
     bif x9 then
      M.call (c 177 [.int .i64 s1,.slice 1 s8 iw]) fun ds=>
      J.p ds fun cV ds=>
      D.nil ds<|
      M.call (c 201 [.ptr x6,.ptr cV]) fun ds=>
      J.p ds fun eK ds=>
      D.nil ds<|
      M.call (c 202 [.ptr x8,.ptr eK]) fun ds=>
      J.b ds fun fk ds=>
      D.nil ds<|
      bu [.bool fk]
     else
      bu [.bool false]) fun aU=>
    M.loop (fun aK st=>
     J.l 49 st fun fG QN st=>
     J.i .i64 st fun fa st=>
     D.nil st<|
     bif decide (fa<(iw:Int))then
      M.nn s8 fun i o=>
      M.ak (av fa iw)<|
      M.au i (fa.toNat*1+o) fun d=>
      D.int .i64 d fun gS=>
      M.call (c 203 [.slice 1 image zi,.int .i64 gS]) fun ds=>
      J.l 1 ds fun fb LQ ds=>
      D.nil ds<|
      M.call (c 204 [.slice 1 fb LQ]) fun ds=>
      J.a ds fun mH ds=>
      J.i .i64 mH fun fI r1=>
      D.len r1 48<|
      J.b ds fun gp ds=>
      D.nil ds<|
      D.len ((.int .i64 fI)::r1) 49<|
      M.join (fun st=>J.b st fun b4 st=>D.nil st<|
       bif b4 then
       M.ret [.bool false]
      else
       D.len ((.int .i64 fI)::r1) 49<|
      M.new ((.int .i64 fI)::r1) fun i1=>
      M.load i1 0 49 fun nz=>
      M.app 49 fG QN nz 1 1256584717458 fun p=>
      aK [.slice 49 p (QN+1),.int .i64 (af (fa+1))]) fun cm=>
      bif !gp then
       cm [.bool true]
      else
       M.call (c 184 [.ptr x6,.int .i64 gS]) fun ds=>
      J.b ds fun kX ds=>
      D.nil ds<|
      cm [.bool kX]
     else
      aU [.slice 49 fG QN]) n [.slice 0 none 0,.int .i64 0]) fun aC=>
  bif b1 then
   aC [.bool true]
  else
   M.call (c 202 [.ptr x6,.ptr rr]) fun ds=>
   J.b ds fun ku ds=>
   D.nil ds<|
   aC [.bool (!ku)]) fun aq=>
 bif !(x7==0)then
  aq [.bool true]
 else
  aq [.bool rr.isNone]
def H9:Zg->Nat->List DV->M (List DV):=fun c n args=>
 J.a args fun cs args=>
 J.i .i64 cs fun a r=>
 J.i .i64 r fun a1 r=>
 J.i .i64 r fun a2 r=>
 J.l 2 r fun a3 a3n r=>
 J.l 1 r fun a4 a4n r=>
 J.l 1 r fun a5 a5n r=>
 D.nil r<|
 J.a args fun bw args=>
 J.i .i64 bw fun b1 r=>
 J.i .i64 r fun b2 r=>
 J.i .i64 r fun b3 r=>
 J.l 2 r fun b4 b4n r=>
 J.l 1 r fun b5 b5n r=>
 J.l 1 r fun b6 b6n r=>
 D.nil r<|
 D.nil args<|
 M.join (fun st=>J.b st fun b7 st=>D.nil st<|
  M.join (fun st=>J.b st fun b8 st=>D.nil st<|
   M.join (fun st=>J.b st fun b9 st=>D.nil st<|
    M.ret [.bool b9]) fun aU=>
   bif b8 then
    M.call (c 114 [.slice 1 a5 a5n,.slice 1 b6 b6n]) fun ds=>
    J.b ds fun x ds=>
    D.nil ds<|
    aU [.bool x]
   else
    aU [.bool false]) fun aC=>
  bif b7 then
   M.call (c 114 [.slice 1 a4 a4n,.slice 1 b5 b5n]) fun ds=>
   J.b ds fun x1 ds=>
   D.nil ds<|
   aC [.bool x1]
  else
   aC [.bool false]) fun aq=>
 bif (a==b1)&&((a1==b2)&&((a2==b3)&&true))then
  M.call (c 198 [.slice 2 a3 a3n,.slice 2 b4 b4n,.func 199 [] []]) fun ds=>
  J.b ds fun x2 ds=>
  D.nil ds<|
  aq [.bool x2]
 else
  aq [.bool false]
def F5:Zg->Nat->List DV->M (List DV):=fun c n args=>
 J.a args fun cs args=>
 J.i .i64 cs fun x r=>
 J.i .i64 r fun x1 r=>
 J.i .i64 r fun x2 r=>
 J.l 2 r fun x3 ec r=>
 J.l 1 r fun x4 cO r=>
 J.l 1 r fun x5 gJ r=>
 D.nil r<|
 J.l 1 args fun extra J5 args=>
 J.l 1 args fun reach TG args=>
 D.nil args<|
 M.call (c 169 []) fun ds=>
 J.b ds fun x6 ds=>
 D.nil ds<|
 M.join (fun st=>J.b st fun b1 st=>D.nil st<|
  M.join (fun st=>J.b st fun b2 st=>D.nil st<|
   M.join (fun st=>J.b st fun b3 st=>D.nil st<|
    bif b3 then
     M.call (c 169 []) fun ds=>
     J.b ds fun x7 ds=>
     D.nil ds<|
     M.ret [.bool x7]
    else
     M.call (c 170 [.agg [.int .i64 x,.int .i64 x1,.int .i64 x2,.slice 2 x3 ec,.slice 1 x4 cO,.slice 1 x5 gJ],.int .i64 1,.int .i64 0]) fun ds=>
     J.l 1 ds fun x8 rD ds=>
     J.a ds fun bw ds=>
     J.i .i64 bw fun x9 r=>
     J.i .i64 r fun cV r=>
     J.i .i64 r fun eK r=>
     J.i .i64 r fun fk r=>
     J.i .i64 r fun fa r=>
     J.i .i64 r fun gS r=>
     J.i .i64 r fun fb r=>
     J.i .i64 r fun fI r=>
     J.l 1 r fun gp qk r=>
     D.nil r<|
     J.b ds fun kX ds=>
     D.nil ds<|
     bif !kX then
      M.ret [.bool true]
     else
      M.call (c 171 [.slice 1 x8 rD,.agg [.int .i64 x9,.int .i64 cV,.int .i64 eK,.int .i64 fk,.int .i64 fa,.int .i64 gS,.int .i64 fb,.int .i64 fI,.slice 1 gp qk]]) fun ds=>
      J.a ds fun cU ds=>
      J.i .i64 cU fun ku r=>
      J.i .i64 r fun lQ r=>
      J.i .i64 r fun oY r=>
      J.l 2 r fun uh Ws r=>
      J.l 1 r fun xN abB r=>
      J.l 1 r fun BU abC r=>
      D.nil r<|
      J.p ds fun vP ds=>
      J.i .i64 ds fun zG ds=>
      D.nil ds<|
      M.join (fun st=>J.b st fun b4 st=>D.nil st<|
       bif b4 then
       M.ret [.bool false]
      else
       M.call (c 172 [.ptr vP]) fun ds=>
      J.l 1 ds fun xO Wt ds=>
      D.nil ds<|
      M.call (c 176 [.int .i64 x,.slice 1 reach TG]) fun ds=>
      J.l 1 ds fun zH aaR ds=>
      D.nil ds<|
      M.fW (c 177 [.int .i64 x,.slice 1 reach TG]) fun ds=>
      J.p ds fun zI ds=>
      D.nil ds<|
      M.fW (c 173 [.slice 1 x8 rD,.agg [.int .i64 x9,.int .i64 cV,.int .i64 eK,.int .i64 fk,.int .i64 fa,.int .i64 gS,.int .i64 fb,.int .i64 fI,.slice 1 gp qk],.ptr zI]) fun ds=>
      J.b ds fun zJ ds=>
      D.nil ds<|
      M.call (c 113 [.slice 1 zH aaR,.slice 1 xO Wt]) fun ds=>
      J.b ds fun Fg ds=>
      D.nil ds<|
      M.join (fun st=>J.b st fun b5 st=>D.nil st<|
       bif b5 then
       M.ret [.bool false]
      else
       M.join (fun st=>
       J.l 1 st fun c1 c1n st=>
      J.b st fun aaH st=>
      D.nil st<|
      M.call (c 173 [.slice 1 c1 c1n,.agg [.int .i64 x9,.int .i64 cV,.int .i64 eK,.int .i64 fk,.int .i64 fa,.int .i64 gS,.int .i64 fb,.int .i64 fI,.slice 1 gp qk],.ptr vP]) fun ds=>
      J.b ds fun BV ds=>
      D.nil ds<|
      M.rd c1 c1n fun fG=>
      D.bT fG fun l=>
      M.call (c 178 [.str l,.agg [.int .i64 x9,.int .i64 cV,.int .i64 eK,.int .i64 fk,.int .i64 fa,.int .i64 gS,.int .i64 fb,.int .i64 fI,.slice 1 gp qk],.slice 1 xO Wt]) fun ds=>
      J.b ds fun Fh ds=>
      D.nil ds<|
      M.join (fun st=>J.b st fun b6 st=>D.nil st<|
       M.ret [.bool b6]) fun iU=>
      bif BV==Fh then
       M.join (fun st=>J.b st fun b7 st=>D.nil st<|
       iU [.bool b7]) fun iG=>
      bif aaH then
       iG [.bool true]
      else
       iG [.bool BV]
      else
       iU [.bool false]) fun eS=>
      M.loop (fun aK st=>
       J.l 1 st fun c2 QK st=>
      J.b st fun aaI st=>
      J.i .i64 st fun i st=>
      D.nil st<|
      bif decide (i<(J5:Int))then
       M.nn extra fun i1 o=>
      M.ak (av i J5)<|
      M.au i1 (i.toNat*1+o) fun d=>
      D.int .i64 d fun x34=>
      M.fW (c 179 [.int .i64 x34,.int .i64 (qk:Int)]) fun ds=>
      J.i .i64 ds fun x35 ds=>
      D.nil ds<|
      M.nn gp fun i2 o1=>
      M.ak (av x35 qk)<|
      M.au i2 (x35.toNat*1+o1) fun d1=>
      D.int .i64 d1 fun Ub=>
      M.nn extra fun i3 o2=>
      M.ak (av i J5)<|
      M.au i3 (i.toNat*1+o2) fun d2=>
      D.int .i64 d2 fun x37=>
      M.call (c 179 [.int .i64 (af (x37.tdiv 8)),.int .i64 384]) fun ds=>
      J.i .i64 ds fun Fi ds=>
      D.nil ds<|
      M.nn c2 fun i4 o3=>
      M.ak (av (af ((af ((af (64*Ub))+8))+(af (Fi.tdiv 8)))) QK)<|
      M.au i4 (((af ((af ((af (64*Ub))+8))+(af (Fi.tdiv 8)))).toNat)*1+o3) fun d3=>
      D.int .u8 d3 fun x39=>
      M.ak (decide (0<=Fi.tmod 8))<|
      M.new [.int .i64 (af ((af (64*Ub)).tdiv 64)),.int .i64 (af (8+(af (Fi.tdiv 8)))),.int .u8 (bits .xor .u8 x39 (IntKind.wrap .u8 (1*2^(min (Fi.tmod 8).toNat 8)))),.bool true] fun i5=>
      M.call (c 180 [.slice 1 c2 QK,.slice 4 (some (i5,0)) 1]) fun ds=>
      J.l 1 ds fun x40 aaU ds=>
      D.nil ds<|
      aK [.slice 1 x40 aaU,.bool true,.int .i64 (af (i+1))]
      else
       eS [.slice 1 c2 QK,.bool aaI]) n [.slice 1 x8 rD,.bool false,.int .i64 0]) fun cm=>
      bif !(zJ==Fg)then
       cm [.bool true]
      else
       M.call (c 173 [.slice 1 x8 rD,.agg [.int .i64 x9,.int .i64 cV,.int .i64 eK,.int .i64 fk,.int .i64 fa,.int .i64 gS,.int .i64 fb,.int .i64 fI,.slice 1 gp qk],.ptr none]) fun ds=>
      J.b ds fun x41 ds=>
      D.nil ds<|
      cm [.bool x41]) fun bu=>
      bif !(zG==0)then
       bu [.bool true]
      else
       bu [.bool vP.isNone]) fun aU=>
   bif b2 then
    aU [.bool true]
   else
    aU [.bool (decide ((TG:Int)>60))]) fun aC=>
  bif b1 then
   aC [.bool true]
  else
   aC [.bool (decide ((J5:Int)>20))]) fun aq=>
 bif !x6 then
  aq [.bool true]
 else
  M.call (c 138 [.agg [.int .i64 x,.int .i64 x1,.int .i64 x2,.slice 2 x3 ec,.slice 1 x4 cO,.slice 1 x5 gJ]]) fun ds=>
  J.b ds fun x42 ds=>
  D.nil ds<|
  aq [.bool (!x42)]
def IE:Zg->Nat->List DV->M (List DV):=fun c n args=>
 J.i .i64 args fun n1 args=>
 J.l 1 args fun l ln args=>
 D.nil args<|
 M.base fun b0=>
 M.join (fun st=>
  J.l 1 st fun out qc st=>
  D.nil st<|
  M.gR b0 [.slice 1 out qc]) fun aq=>
 M.loop (fun aK st=>
  J.l 1 st fun jU im st=>
  J.i .i64 st fun i st=>
  D.nil st<|
  bif decide (i<(ln:Int))then
   M.nn l fun i1 o=>
   M.ak (av i ln)<|
   M.au i1 (i.toNat*1+o) fun d=>
   D.int .i64 d fun x=>
   M.call (c 205 [.slice 1 jU im,.int .i64 n1,.int .i64 x]) fun ds=>
   J.l 1 ds fun x1 kY ds=>
   D.nil ds<|
   aK [.slice 1 x1 kY,.int .i64 (af (i+1))]
  else
   aq [.slice 1 jU im]) n [.slice 0 none 0,.int .i64 0]
def I3:Zg->Nat->List DV->M (List DV):=fun c n args=>
 J.i .i64 args fun n1 args=>
 J.l 1 args fun l ln args=>
 D.nil args<|
 M.ak (decide (0<=af ((af ((af ((if 3072<(if n1<0 then 0 else n1)then 3072 else(if n1<0 then 0 else n1))+64))-1)).tdiv 64))&&decide (af ((af ((af ((if 3072<(if n1<0 then 0 else n1)then 3072 else(if n1<0 then 0 else n1))+64))-1)).tdiv 64)<=af ((af ((af ((if 3072<(if n1<0 then 0 else n1)then 3072 else(if n1<0 then 0 else n1))+64))-1)).tdiv 64))&&decide (af ((af ((af ((if 3072<(if n1<0 then 0 else n1)then 3072 else(if n1<0 then 0 else n1))+64))-1)).tdiv 64)<=8796093022208))<|
 M.new (fD ((af ((af ((af ((if 3072<(if n1<0 then 0 else n1)then 3072 else(if n1<0 then 0 else n1))+64))-1)).tdiv 64)).toNat) [.int .u64 0]) fun i=>
 M.new [.int .i64 (if 3072<(if n1<0 then 0 else n1)then 3072 else(if n1<0 then 0 else n1)),.slice 1 (some (i,0)) ((af ((af ((af ((if 3072<(if n1<0 then 0 else n1)then 3072 else(if n1<0 then 0 else n1))+64))-1)).tdiv 64)).toNat)] fun i1=>
 M.call (c 206 [.ptr (some (i1,0)),.slice 1 l ln]) fun ds=>
 D.nil ds<|
 M.ret [.ptr (some (i1,0))]
def Gq:Zg->Nat->List DV->M (List DV):=fun c n args=>
 J.s args fun image args=>
 J.a args fun cs args=>
 J.i .i64 cs fun s r=>
 J.i .i64 r fun s1 r=>
 J.i .i64 r fun s2 r=>
 J.i .i64 r fun s3 r=>
 J.i .i64 r fun s4 r=>
 J.i .i64 r fun s5 r=>
 J.i .i64 r fun s6 r=>
 J.i .i64 r fun s7 r=>
 J.l 1 r fun s8 iw r=>
 D.nil r<|
 J.l 1 args fun rr Wa args=>
 D.nil args<|
 M.join (fun st=>
  J.l 1 st fun want aaL st=>
  D.nil st<|
  M.join (fun st=>
   D.nil st<|
   M.ret [.bool true]) fun aC=>
  M.loop (fun aK st=>
   J.i .i64 st fun i st=>
   D.nil st<|
   bif decide (i<(iw:Int))then
    M.nn s8 fun i1 o=>
    M.ak (av i iw)<|
    M.au i1 (i.toNat*1+o) fun d=>
    D.int .i64 d fun x=>
    M.call (c 208 [.str image,.int .i64 x]) fun ds=>
    J.l 1 ds fun x1 kY ds=>
    J.b ds fun x2 ds=>
    D.nil ds<|
    M.join (fun st=>J.b st fun b1 st=>D.nil st<|
     bif b1 then
      M.ret [.bool false]
     else
      aK [.int .i64 (af (i+1))]) fun aU=>
    bif !x2 then
     aU [.bool true]
    else
     M.rd x1 kY fun bw=>
     D.bT bw fun l=>
     M.dW (c 192 [.int .i64 i,.slice 1 want aaL]) fun ds=>
     J.a ds fun cU ds=>
     J.i .i64 cU fun x3 r1=>
     D.len r1 48<|
     D.nil ds<|
     M.dW (c 193 [.agg ((.int .i64 x3)::r1)]) fun ds=>
     J.s ds fun x4 ds=>
     D.nil ds<|
     aU [.bool (!(l==x4))]
   else
    aC []) n [.int .i64 0]) fun aq=>
 M.loop (fun dO st=>
  J.l 1 st fun Wo Wp st=>
  J.i .i64 st fun i2 st=>
  D.nil st<|
  bif decide (i2<(iw:Int))then
   M.nn s8 fun i3 o1=>
   M.ak (av i2 iw)<|
   M.au i3 (i2.toNat*1+o1) fun d1=>
   D.int .i64 d1 fun x5=>
   M.call (c 143 [.slice 1 rr Wa,.int .i64 x5]) fun ds=>
   J.b ds fun x6 ds=>
   D.nil ds<|
   bif x6 then
    M.ret [.bool false]
   else
    M.nn s8 fun i4 o2=>
    M.ak (av i2 iw)<|
    M.au i4 (i2.toNat*1+o2) fun d2=>
    D.int .i64 d2 fun x7=>
    M.call (c 205 [.slice 1 Wo Wp,.int .i64 s1,.int .i64 x7]) fun ds=>
    J.l 1 ds fun x8 rD ds=>
    D.nil ds<|
    dO [.slice 1 x8 rD,.int .i64 (af (i2+1))]
  else
   aq [.slice 1 Wo Wp]) n [.slice 1 rr Wa,.int .i64 0]
def Hv:Zg->Nat->List DV->M (List DV):=fun c n args=>
 J.i .i64 args fun a args=>
 J.i .i64 args fun n1 args=>
 D.nil args<|
 M.ak (!(n1==0))<|
 M.ak (!(n1==0))<|
 M.ret [.int .i64 ((af ((a.tmod n1)+n1)).tmod n1)]
def Hl:Zg->Nat->List DV->M (List DV):=fun c n args=>
 J.l 1 args fun b1 bM args=>
 J.l 4 args fun l ln args=>
 D.nil args<|
 M.base fun b0=>
 M.new [] fun i=>
 M.rd b1 (bM*1) fun cs=>
 M.app 1 (some (i,0)) 0 cs bM 70368744177664 fun p=>
 M.join (fun st=>
  D.nil st<|
  M.gR b0 [.slice 1 p (0+bM)]) fun aq=>
 M.loop (fun aK st=>
  J.i .i64 st fun i1 st=>
  D.nil st<|
  bif decide (i1<(ln:Int))then
   M.nn l fun i2 o=>
   M.ak (av i1 ln)<|
   M.au i2 (i1.toNat*4+o) fun d=>
   D.int .i64 d fun x=>
   M.call (c 179 [.int .i64 x,.int .i64 (af (((0+bM:Nat):Int).tdiv 64))]) fun ds=>
   J.i .i64 ds fun x1 ds=>
   D.nil ds<|
   M.nn l fun i3 o1=>
   M.ak (av i1 ln)<|
   M.au i3 (i1.toNat*4+o1+1) fun d1=>
   D.int .i64 d1 fun x2=>
   M.call (c 179 [.int .i64 x2,.int .i64 64]) fun ds=>
   J.i .i64 ds fun x3 ds=>
   D.nil ds<|
   M.nn l fun i4 o2=>
   M.ak (av i1 ln)<|
   M.au i4 (i1.toNat*4+o2+2) fun d2=>
   D.int .u8 d2 fun x4=>
   M.nn p fun i5 o3=>
   M.ak (av (af ((af (64*x1))+x3)) (0+bM))<|
   M.store i5 (((af ((af (64*x1))+x3)).toNat)*1+o3) [.int .u8 x4]<|
   M.nn l fun i6 o4=>
   M.ak (av i1 ln)<|
   M.au i6 (i1.toNat*4+o4+3) fun d3=>
   D.bool d3 fun x5=>
   M.join (fun st=>
    D.nil st<|
    aK [.int .i64 (af (i1+1))]) fun aC=>
   bif x5 then
    M.ak (decide (0<=af ((af (64*x1))+64))&&decide (af ((af (64*x1))+64)<=((0+bM:Nat):Int)))<|
    M.ak (decide (0<=af (64*x1))&&decide (af (64*x1)<=(((af ((af (64*x1))+64)).toNat:Nat):Int)))<|
    M.ak (decide (0<=af ((af (64*x1))+64))&&decide (af ((af (64*x1))+64)<=((0+bM:Nat):Int)))<|
    M.ak (decide (0<=af (64*x1))&&decide (af (64*x1)<=(((af ((af (64*x1))+64)).toNat:Nat):Int)))<|
    M.fW (c 207 [.slice 1 (cy true p (((af (64*x1)).toNat)*1)) (((af ((af (64*x1))+64)).toNat)-((af (64*x1)).toNat))]) fun ds=>
    J.l 1 ds fun x6 oZ ds=>
    D.nil ds<|
    M.rd x6 ((min oZ (((af ((af (64*x1))+64)).toNat)-((af (64*x1)).toNat)))*1) fun bw=>
    M.wr (cy true p (((af (64*x1)).toNat)*1)) bw<|
    aC []
   else
    aC []
  else
   aq []) n [.int .i64 0]
def GB:Zg->Nat->List DV->M (List DV):=fun c n args=>
 J.p args fun s args=>
 D.nil args<|
 M.nn s fun i o=>
 M.au i (o+1) fun d=>
 D.slice 1 d fun x xn=>
 M.join (fun st=>
  J.i .i64 st fun n1 st=>
  D.nil st<|
  M.ret [.int .i64 n1]) fun aq=>
 M.loop (fun aK st=>
  J.i .i64 st fun n2 st=>
  J.i .i64 st fun x1 st=>
  D.nil st<|
  bif decide (x1<(xn:Int))then
   M.nn x fun i1 o1=>
   M.ak (av x1 xn)<|
   M.au i1 (x1.toNat*1+o1) fun d1=>
   D.int .u64 d1 fun x2=>
   M.call (c 210 [.int .u64 x2]) fun ds=>
   J.i .i64 ds fun x3 ds=>
   D.nil ds<|
   aK [.int .i64 (af (n2+x3)),.int .i64 (af (x1+1))]
  else
   aq [.int .i64 n2]) n [.int .i64 0,.int .i64 0]
def Hi:Zg->Nat->List DV->M (List DV):=fun c n args=>
 J.p args fun s args=>
 J.i .i64 args fun bE args=>
 D.nil args<|
 M.call (c 209 [.ptr s,.int .i64 bE]) fun ds=>
 J.b ds fun x ds=>
 D.nil ds<|
 M.join (fun st=>J.b st fun b1 st=>D.nil st<|
  M.ret [.bool b1]) fun aq=>
 bif x then
  M.nn s fun i o=>
  M.au i (o+1) fun d=>
  D.slice 1 d fun x1 kY=>
  M.nn x1 fun i1 o1=>
  M.ak (av (af (bE.tdiv 64)) kY)<|
  M.au i1 (((af (bE.tdiv 64)).toNat)*1+o1) fun d1=>
  D.int .u64 d1 fun x2=>
  M.ak (decide (0<=bE.tmod 64))<|
  aq [.bool ((bits .and .u64 (x2.fdiv (2^(min (bE.tmod 64).toNat 64))) 1)==1)]
 else
  aq [.bool false]
def G5:Zg->Nat->List DV->M (List DV):=fun c n args=>
 D.nil args<|
 M.base fun b0=>
 M.new [.int .i64 0,.int .i64 2,.int .i64 5,.int .i64 6] fun i=>
 M.new [.str (bs [97]),.slice 4 (some (i,0)) 1] fun i1=>
 M.new [.int .i64 2] fun i2=>
 M.gR b0 [.agg [.int .i64 16,.int .i64 2,.int .i64 3,.slice 2 (some (i1,0)) 1,.slice 1 (some (i2,0)) 1,.slice 0 none 0]]
def FV:Zg->Nat->List DV->M (List DV):=fun c n args=>
 J.p args fun m args=>
 J.l 2 args fun l ln args=>
 D.nil args<|
 M.join (fun st=>
  J.l 1 st fun db WH st=>
  D.nil st<|
  M.call (c 215 [.slice 1 db WH]) fun ds=>
  J.s ds fun x ds=>
  J.b ds fun x1 ds=>
  D.nil ds<|
  bif !x1 then
   M.ret [.int .i64 0]
  else
   M.call (c 194 [.ptr m,.str x]) fun ds=>
   J.i .i64 ds fun x2 ds=>
   D.nil ds<|
   M.ret [.int .i64 x2]) fun aq=>
 M.loop (fun aK st=>
  J.l 1 st fun Um QB st=>
  J.i .i64 st fun i st=>
  D.nil st<|
  bif decide (i<(ln:Int))then
   M.join (fun st=>
    J.l 1 st fun WE WG st=>
    D.nil st<|
    aK [.slice 1 WE WG,.int .i64 (af (i+1))]) fun aC=>
   M.nn l fun i1 o=>
   M.ak (av i ln)<|
   M.au i1 (i.toNat*2+o) fun d=>
   D.str d fun x3=>
   M.nn l fun i2 o1=>
   M.ak (av i ln)<|
   M.au i2 (i.toNat*2+o1+1) fun d1=>
   D.slice 4 d1 fun x4 cO=>
   M.nn l fun i3 o2=>
   M.ak (av i ln)<|
   M.au i3 (i.toNat*2+o2+1) fun d2=>
   D.slice 4 d2 fun x5 gJ=>
   M.join (fun st=>
    J.a st fun cs st=>
    J.s cs fun q r1=>
    J.i .i64 r1 fun q1 r2=>
    D.len r2 12<|
    D.nil st<|
    M.call (c 216 [.agg ((.str q)::(.int .i64 q1)::r2)]) fun ds=>
    J.s ds fun x6 ds=>
    D.nil ds<|
    M.call (c 194 [.ptr m,.str x6]) fun ds=>
    J.i .i64 ds fun x7 ds=>
    D.nil ds<|
    M.new [.int .i64 x7] fun i4=>
    M.load i4 0 1 fun bw=>
    M.app 1 Um QB bw 1 8796093022208 fun p=>
    aC [.slice 1 p (QB+1)]) fun aU=>
   M.loop (fun dO st=>
    J.a st fun cU st=>
    J.s cU fun q2 r3=>
    J.i .i64 r3 fun q3 r4=>
    D.len r4 12<|
    J.l 4 st fun rest vM st=>
    J.i .i64 st fun k st=>
    D.nil st<|
    bif decide (k<12)then
     M.ak (decide (0<=k))<|
     M.join (fun st=>
      J.a st fun fG st=>
      J.s fG fun q4 r5=>
      J.i .i64 r5 fun q5 r6=>
      D.len r6 12<|
      J.l 4 st fun TI TJ st=>
      D.nil st<|
      dO [.agg ((.str q4)::(.int .i64 q5)::r6),.slice 4 TI TJ,.int .i64 (af (k+1))]) fun bu=>
     bif ((q3.fdiv (2^(min k.toNat 64))).tmod 2)==1 then
      M.ak (decide (0<=k))<|
      M.ak (decide (0<=af (1*2^(min k.toNat 64)))&&decide (af (1*2^(min k.toNat 64))<=(vM:Int)))<|
      M.call (c 217 [.ptr m,.slice 4 rest ((af (1*2^(min k.toNat 64))).toNat)]) fun ds=>
      J.i .i64 ds fun x8 ds=>
      D.nil ds<|
      M.ak (av k 12)<|
      M.ak (Nat.ble (k.toNat*1+2+1) 14)<|
      M.ak (decide (0<=k))<|
      M.ak (decide (0<=af (1*2^(min k.toNat 64)))&&decide (af (1*2^(min k.toNat 64))<=(vM:Int)))<|
      bu [.agg ((.str q2)::(.int .i64 q3)::(bC r4 (k.toNat*1) [.int .i64 x8])),.slice 4 (cy true rest (((af (1*2^(min k.toNat 64))).toNat)*4)) (vM-((af (1*2^(min k.toNat 64))).toNat))]
     else
      bu [.agg ((.str q2)::(.int .i64 q3)::r4),.slice 4 rest vM]
    else
     aU [.agg ((.str q2)::(.int .i64 q3)::r4)]) n [.agg [.str x3,.int .i64 (cO:Int),.int .i64 0,.int .i64 0,.int .i64 0,.int .i64 0,.int .i64 0,.int .i64 0,.int .i64 0,.int .i64 0,.int .i64 0,.int .i64 0,.int .i64 0,.int .i64 0],.slice 4 x5 gJ,.int .i64 0]
  else
   aq [.slice 1 Um QB]) n [.slice 0 none 0,.int .i64 0]
def Gh:Zg->Nat->List DV->M (List DV):=fun c n args=>
 J.p args fun m args=>
 J.a args fun cs args=>
 J.i .i64 cs fun x r=>
 J.i .i64 r fun x1 r=>
 J.i .i64 r fun x2 r=>
 J.l 2 r fun x3 ec r=>
 J.l 1 r fun x4 cO r=>
 J.l 1 r fun x5 gJ r=>
 D.nil r<|
 D.nil args<|
 M.join (fun st=>
  J.l 1 st fun leaves Lx st=>
  D.nil st<|
  bif (Lx:Int)==0 then
   M.ret [.int .i64 0]
  else
   M.join (fun st=>
    J.a st fun bw st=>
    D.len bw 16<|
    D.nil st<|
    M.call (c 218 [.agg bw]) fun ds=>
    J.s ds fun x6 ds=>
    J.b ds fun x7 ds=>
    D.nil ds<|
    M.call (c 194 [.ptr m,.str x6]) fun ds=>
    J.i .i64 ds fun x8 ds=>
    D.nil ds<|
    M.ret [.int .i64 x8]) fun aC=>
   M.loop (fun aK st=>
    J.a st fun cU st=>
    D.len cU 16<|
    J.i .i64 st fun i st=>
    D.nil st<|
    M.join (fun st=>J.b st fun b1 st=>D.nil st<|
     bif b1 then
      M.join (fun st=>
       J.a st fun fG st=>
      D.len fG 16<|
      D.nil st<|
      aK [.agg fG,.int .i64 (af (i+1))]) fun bu=>
      M.join (fun st=>
       J.a st fun mH st=>
      D.len mH 16<|
      D.nil st<|
      M.call (c 218 [.agg mH]) fun ds=>
      J.s ds fun x9 ds=>
      J.b ds fun cV ds=>
      D.nil ds<|
      M.call (c 194 [.ptr m,.str x9]) fun ds=>
      J.i .i64 ds fun eK ds=>
      D.nil ds<|
      M.ak (av i 16)<|
      M.ak (Nat.ble (i.toNat*1+1) 16)<|
      bu [.agg (bC cU (i.toNat*1) [.int .i64 eK])]) fun cm=>
      M.loop (fun dO st=>
       J.a st fun nz st=>
      D.len nz 16<|
      J.i .i64 st fun k st=>
      D.nil st<|
      M.join (fun st=>J.b st fun b2 st=>D.nil st<|
       bif b2 then
       M.nn leaves fun i1 o=>
      M.ak (av (af ((af (16*i))+k)) Lx)<|
      M.au i1 (((af ((af (16*i))+k)).toNat)*1+o) fun d=>
      D.int .i64 d fun fk=>
      M.ak (av k 16)<|
      M.ak (Nat.ble (k.toNat*1+1) 16)<|
      dO [.agg (bC nz (k.toNat*1) [.int .i64 fk]),.int .i64 (af (k+1))]
      else
       cm [.agg nz]) fun eS=>
      bif decide (k<16)then
       eS [.bool (decide (af ((af (16*i))+k)<(Lx:Int)))]
      else
       eS [.bool false]) n [.agg (List.replicate 16 (.int .i64 0)),.int .i64 0]
     else
      aC [.agg cU]) fun aU=>
    bif decide (i<16)then
     aU [.bool (decide (af (16*i)<(Lx:Int)))]
    else
     aU [.bool false]) n [.agg (List.replicate 16 (.int .i64 0)),.int .i64 0]) fun aq=>
 M.loop (fun xL st=>
  J.l 1 st fun VO S9 st=>
  J.i .i64 st fun first st=>
  D.nil st<|
  bif decide (first<(cO:Int))then
   M.join (fun st=>
    J.l 1 st fun YK YL st=>
    D.nil st<|
    xL [.slice 1 YK YL,.int .i64 (af (first+7))]) fun iU=>
   M.join (fun st=>
    J.a st fun wI st=>
    D.len wI 21<|
    D.nil st<|
    M.call (c 219 [.agg wI]) fun ds=>
    J.s ds fun fa ds=>
    J.b ds fun gS ds=>
    D.nil ds<|
    M.call (c 194 [.ptr m,.str fa]) fun ds=>
    J.i .i64 ds fun fb ds=>
    D.nil ds<|
    M.new [.int .i64 fb] fun i2=>
    M.load i2 0 1 fun cs7=>
    M.app 1 VO S9 cs7 1 8796093022208 fun p=>
    iU [.slice 1 p (S9+1)]) fun iG=>
   M.loop (fun TH st=>
    J.a st fun uS st=>
    D.len uS 21<|
    J.i .i64 st fun i3 st=>
    D.nil st<|
    M.join (fun st=>J.b st fun b3 st=>D.nil st<|
     bif b3 then
      M.join (fun st=>
       J.a st fun Dm st=>
      D.len Dm 21<|
      D.nil st<|
      TH [.agg Dm,.int .i64 (af (i3+1))]) fun kO=>
      M.nn x4 fun i4 o1=>
      M.ak (av (af (first+i3)) cO)<|
      M.au i4 (((af (first+i3)).toNat)*1+o1) fun d1=>
      D.int .i64 d1 fun fI=>
      M.ak (av i3 7)<|
      M.ak (Nat.ble (i3.toNat*3+3) 21)<|
      M.nn m fun i5 o2=>
      M.au i5 (o2+2) fun d2=>
      D.slice 1 d2 fun gp qk=>
      M.nn gp fun i6 o3=>
      M.ak (av (af (first+i3)) qk)<|
      M.au i6 (((af (first+i3)).toNat)*1+o3) fun d3=>
      D.int .i64 d3 fun kX=>
      M.join (fun st=>
       J.a st fun Dk st=>
      D.len Dk 21<|
      D.nil st<|
      M.join (fun st=>
       J.a st fun Dl st=>
      D.len Dl 21<|
      D.nil st<|
      kO [.agg Dl]) fun mT=>
      M.loop (fun EV st=>
       J.a st fun oB st=>
      D.len oB 21<|
      J.i .i64 st fun k1 st=>
      D.nil st<|
      bif decide (af (k1+1)<(gJ:Int))then
       M.nn x5 fun i7 o4=>
      M.ak (av k1 gJ)<|
      M.au i7 (k1.toNat*1+o4) fun d4=>
      D.int .i64 d4 fun ku=>
      M.join (fun st=>
       J.a st fun wH st=>
      D.len wH 21<|
      D.nil st<|
      EV [.agg wH,.int .i64 (af (k1+1))]) fun kP=>
      bif ku==(af (first+i3))then
       M.nn x5 fun i8 o5=>
      M.ak (av (af (k1+1)) gJ)<|
      M.au i8 (((af (k1+1)).toNat)*1+o5) fun d5=>
      D.int .i64 d5 fun lQ=>
      M.ak (av i3 7)<|
      M.ak (Nat.ble (i3.toNat*3+2+1) 21)<|
      kP [.agg (bC oB (i3.toNat*3+2) [.int .i64 (af (lQ+1))])]
      else
       kP [.agg oB]
      else
       mT [.agg oB]) n [.agg Dk,.int .i64 0]) fun jS=>
      bif !(kX==0)then
       M.ak (av i3 7)<|
      M.ak (Nat.ble (i3.toNat*3+1) 21)<|
      M.nn m fun i9 o6=>
      M.au i9 (o6+2) fun d6=>
      D.slice 1 d6 fun oY Ff=>
      M.nn oY fun i10 o7=>
      M.ak (av (af (first+i3)) Ff)<|
      M.au i10 (((af (first+i3)).toNat)*1+o7) fun d7=>
      D.int .i64 d7 fun uh=>
      M.ak (av i3 7)<|
      M.ak (Nat.ble (i3.toNat*3+2+1) 21)<|
      jS [.agg (bC (bC (bC uS (i3.toNat*3) [.bool false,.int .i64 fI,.int .i64 0]) (i3.toNat*3) [.bool true]) (i3.toNat*3+2) [.int .i64 uh])]
      else
       jS [.agg (bC uS (i3.toNat*3) [.bool false,.int .i64 fI,.int .i64 0])]
     else
      iG [.agg uS]) fun iV=>
    bif decide (i3<7)then
     iV [.bool (decide (af (first+i3)<(cO:Int)))]
    else
     iV [.bool false]) n [.agg [.bool false,.int .i64 0,.int .i64 0,.bool false,.int .i64 0,.int .i64 0,.bool false,.int .i64 0,.int .i64 0,.bool false,.int .i64 0,.int .i64 0,.bool false,.int .i64 0,.int .i64 0,.bool false,.int .i64 0,.int .i64 0,.bool false,.int .i64 0,.int .i64 0],.int .i64 0]
  else
   aq [.slice 1 VO S9]) n [.slice 0 none 0,.int .i64 0]
def HN:Zg->Nat->List DV->M (List DV):=fun c n args=>
 J.a args fun cs args=>
 J.i .i64 cs fun s r=>
 J.i .i64 r fun s1 r=>
 J.i .i64 r fun s2 r=>
 J.i .i64 r fun s3 r=>
 J.i .i64 r fun s4 r=>
 J.i .i64 r fun s5 r=>
 J.i .i64 r fun s6 r=>
 J.i .i64 r fun s7 r=>
 J.l 1 r fun s8 iw r=>
 D.nil r<|
 D.nil args<|
 M.dW (c 213 [.int .u64 (IntKind.wrap .u64 (s)),.int .i64 8]) fun ds=>
 J.s ds fun x ds=>
 D.nil ds<|
 M.dW (c 213 [.int .u64 (IntKind.wrap .u64 (s1)),.int .i64 4]) fun ds=>
 J.s ds fun x1 ds=>
 D.nil ds<|
 M.ak (Nat.ble (x.length+x1.length) 4611686018427387904)<|
 M.dW (c 213 [.int .u64 (IntKind.wrap .u64 (s2)),.int .i64 4]) fun ds=>
 J.s ds fun x2 ds=>
 D.nil ds<|
 M.ak (Nat.ble ((x++x1).length+x2.length) 4611686018427387904)<|
 M.dW (c 213 [.int .u64 (IntKind.wrap .u64 (s3)),.int .i64 4]) fun ds=>
 J.s ds fun x3 ds=>
 D.nil ds<|
 M.ak (Nat.ble (((x++x1)++x2).length+x3.length) 4611686018427387904)<|
 M.dW (c 213 [.int .u64 (IntKind.wrap .u64 (s5)),.int .i64 4]) fun ds=>
 J.s ds fun x4 ds=>
 D.nil ds<|
 M.ak (Nat.ble ((((x++x1)++x2)++x3).length+x4.length) 4611686018427387904)<|
 M.fW (c 213 [.int .u64 (IntKind.wrap .u64 (s6)),.int .i64 4]) fun ds=>
 J.s ds fun x5 ds=>
 D.nil ds<|
 M.ak (Nat.ble (((((x++x1)++x2)++x3)++x4).length+x5.length) 4611686018427387904)<|
 M.dW (c 213 [.int .u64 (IntKind.wrap .u64 (s4)),.int .i64 2]) fun ds=>
 J.s ds fun x6 ds=>
 D.nil ds<|
 M.ak (Nat.ble ((((((x++x1)++x2)++x3)++x4)++x5).length+x6.length) 4611686018427387904)<|
 M.fW (c 213 [.int .u64 (IntKind.wrap .u64 (s7)),.int .i64 2]) fun ds=>
 J.s ds fun x7 ds=>
 D.nil ds<|
 M.ak (Nat.ble (((((((x++x1)++x2)++x3)++x4)++x5)++x6).length+x7.length) 4611686018427387904)<|
 M.join (fun st=>
  J.s st fun t st=>
  D.nil st<|
  M.call (c 214 [.int .i64 7,.int .i64 (iw:Int),.str t]) fun ds=>
  J.s ds fun x8 ds=>
  D.nil ds<|
  M.ret [.str x8]) fun aq=>
 M.loop (fun aK st=>
  J.s st fun t1 st=>
  J.i .i64 st fun i st=>
  D.nil st<|
  bif decide (i<(iw:Int))then
   M.nn s8 fun i1 o=>
   M.ak (av i iw)<|
   M.au i1 (i.toNat*1+o) fun d=>
   D.int .i64 d fun x9=>
   M.call (c 213 [.int .u64 (IntKind.wrap .u64 (x9)),.int .i64 2]) fun ds=>
   J.s ds fun cV ds=>
   D.nil ds<|
   M.ak (Nat.ble (t1.length+cV.length) 4611686018427387904)<|
   aK [.str (t1++cV),.int .i64 (af (i+1))]
  else
   aq [.str t1]) n [.str (((((((x++x1)++x2)++x3)++x4)++x5)++x6)++x7),.int .i64 0]
def Ho:Zg->Nat->List DV->M (List DV):=fun c n args=>
 J.i .i64 args fun place args=>
 J.l 1 args fun l ln args=>
 D.nil args<|
 M.join (fun st=>
  J.a st fun cs st=>
  J.i .i64 cs fun c1 r1=>
  D.len r1 48<|
  D.nil st<|
  D.len ((.int .i64 c1)::r1) 49<|
  M.ret [.agg ((.int .i64 c1)::r1)]) fun aq=>
 M.loop (fun aK st=>
  J.a st fun bw st=>
  J.i .i64 bw fun c2 r2=>
  D.len r2 48<|
  J.i .i64 st fun i st=>
  D.nil st<|
  bif decide (i<(ln:Int))then
   M.nn l fun i1 o=>
   M.ak (av i ln)<|
   M.au i1 (i.toNat*1+o) fun d=>
   D.int .i64 d fun x=>
   M.join (fun st=>J.b st fun b1 st=>D.nil st<|
    M.join (fun st=>
     J.a st fun cU st=>
     J.i .i64 cU fun c3 r3=>
     D.len r3 48<|
     D.nil st<|
     aK [.agg ((.int .i64 c3)::r3),.int .i64 (af (i+1))]) fun aU=>
    bif b1 then
     M.nn l fun i2 o1=>
     M.ak (av i ln)<|
     M.au i2 (i.toNat*1+o1) fun d1=>
     D.int .i64 d1 fun x1=>
     M.ak (av (af ((af (x1-(af (384*place)))).tdiv 8)) 48)<|
     D.nth r2 (((af ((af (x1-(af (384*place)))).tdiv 8)).toNat)*1) fun d2=>
     D.int .u8 d2 fun x2=>
     M.ak (decide (0<=(af (x1-(af (384*place)))).tmod 8))<|
     M.ak (av (af ((af (x1-(af (384*place)))).tdiv 8)) 48)<|
     M.ak (Nat.ble (((af ((af (x1-(af (384*place)))).tdiv 8)).toNat)*1+1+1) 49)<|
     aU [.agg ((.int .i64 c2)::(bC r2 (((af ((af (x1-(af (384*place)))).tdiv 8)).toNat)*1) [.int .u8 (bits .or .u8 x2 (IntKind.wrap .u8 (1*2^(min ((af (x1-(af (384*place)))).tmod 8).toNat 8))))]))]
    else
     aU [.agg ((.int .i64 c2)::r2)]) fun aC=>
   bif decide (x>=af (384*place))then
    M.nn l fun i3 o2=>
    M.ak (av i ln)<|
    M.au i3 (i.toNat*1+o2) fun d3=>
    D.int .i64 d3 fun x3=>
    aC [.bool (decide (x3<af ((af (384*place))+384)))]
   else
    aC [.bool false]
  else
   aq [.agg ((.int .i64 c2)::r2)]) n [.agg [.int .i64 place,.int .u8 0,.int .u8 0,.int .u8 0,.int .u8 0,.int .u8 0,.int .u8 0,.int .u8 0,.int .u8 0,.int .u8 0,.int .u8 0,.int .u8 0,.int .u8 0,.int .u8 0,.int .u8 0,.int .u8 0,.int .u8 0,.int .u8 0,.int .u8 0,.int .u8 0,.int .u8 0,.int .u8 0,.int .u8 0,.int .u8 0,.int .u8 0,.int .u8 0,.int .u8 0,.int .u8 0,.int .u8 0,.int .u8 0,.int .u8 0,.int .u8 0,.int .u8 0,.int .u8 0,.int .u8 0,.int .u8 0,.int .u8 0,.int .u8 0,.int .u8 0,.int .u8 0,.int .u8 0,.int .u8 0,.int .u8 0,.int .u8 0,.int .u8 0,.int .u8 0,.int .u8 0,.int .u8 0,.int .u8 0],.int .i64 0]
def Is:Zg->Nat->List DV->M (List DV):=fun c n args=>
 J.a args fun cs args=>
 J.i .i64 cs fun c1 r1=>
 D.len r1 48<|
 D.nil args<|
 D.len ((.int .i64 c1)::r1) 49<|
 M.new ((.int .i64 c1)::r1) fun c2=>
 M.au c2 0 fun d=>
 D.int .i64 d fun x=>
 M.load c2 1 48 fun _=>
 M.load c2 1 48 fun bw=>
 D.bT bw fun l=>
 M.call (c 214 [.int .i64 4,.int .i64 x,.str l]) fun ds=>
 J.s ds fun x1 ds=>
 D.nil ds<|
 M.ret [.str x1]
def FW:Zg->Nat->List DV->M (List DV):=fun c n args=>
 J.p args fun m args=>
 J.s args fun s args=>
 D.nil args<|
 M.nn m fun i o=>
 M.au i (o+1) fun d=>
 D.int .i64 d fun x=>
 M.nn m fun i1 o1=>
 M.au i1 (o1+1) fun d1=>
 D.int .i64 d1 fun x1=>
 M.nn m fun i2 o2=>
 M.store i2 (o2+1) [.int .i64 (af (x1+1))]<|
 M.nn m fun i3 o3=>
 M.au i3 o3 fun d2=>
 D.slice 1 d2 fun x2 dJ=>
 M.join (fun st=>
  D.nil st<|
  M.ret [.int .i64 x]) fun aq=>
 bif decide ((dJ:Int)>=af ((af (64*x))+64))then
  M.nn m fun i4 o4=>
  M.au i4 o4 fun d3=>
  D.slice 1 d3 fun x3 ec=>
  M.ak (decide (0<=af (64*x))&&decide (af (64*x)<=(ec:Int)))<|
  M.wr (cy true x3 (((af (64*x)).toNat)*1)) (ZF (s.take (ec-((af (64*x)).toNat))))<|
  aq []
 else
  aq []
def HB:Zg->Nat->List DV->M (List DV):=fun c n args=>
 J.a args fun cs args=>
 J.i .i64 cs fun s r=>
 J.i .i64 r fun s1 r=>
 J.i .i64 r fun s2 r=>
 J.i .i64 r fun s3 r=>
 J.i .i64 r fun s4 r=>
 J.i .i64 r fun s5 r=>
 J.i .i64 r fun s6 r=>
 J.i .i64 r fun s7 r=>
 J.l 1 r fun s8 iw r=>
 D.nil r<|
 D.nil args<|
 M.join (fun st=>J.b st fun b1 st=>D.nil st<|
  M.join (fun st=>J.b st fun b2 st=>D.nil st<|
   bif b2 then
    M.ret [.bool false]
   else
    M.join (fun st=>J.b st fun b3 st=>D.nil st<|
     M.join (fun st=>J.b st fun b4 st=>D.nil st<|
      M.join (fun st=>J.b st fun b5 st=>D.nil st<|
       M.join (fun st=>J.b st fun b6 st=>D.nil st<|
       bif b6 then
       M.ret [.bool false]
      else
       M.join (fun st=>
       J.l 1 st fun EH Td st=>
      D.nil st<|
      M.join (fun st=>
       J.l 1 st fun YN YO st=>
      D.nil st<|
      M.join (fun st=>
       J.l 1 st fun VT Tb st=>
      D.nil st<|
      M.join (fun st=>
       D.nil st<|
      M.ret [.bool true]) fun kO=>
      M.loop (fun aK st=>
       J.i .i64 st fun i st=>
      D.nil st<|
      bif decide (i<(Tb:Int))then
       M.nn VT fun i1 o=>
      M.ak (av i Tb)<|
      M.au i1 (i.toNat*1+o) fun d=>
      D.int .i64 d fun x=>
      M.join (fun st=>J.b st fun b7 st=>D.nil st<|
       bif b7 then
       M.ret [.bool false]
      else
       aK [.int .i64 (af (i+1))]) fun jS=>
      bif decide (x<2)then
       jS [.bool true]
      else
       M.nn VT fun i2 o1=>
      M.ak (av i Tb)<|
      M.au i2 (i.toNat*1+o1) fun d1=>
      D.int .i64 d1 fun x1=>
      jS [.bool (decide (x1>=s1))]
      else
       kO []) n [.int .i64 0]) fun iV=>
      M.loop (fun dO st=>
       J.l 1 st fun VU Tc st=>
      J.i .i64 st fun i3 st=>
      D.nil st<|
      bif decide (i3<(iw:Int))then
       M.join (fun st=>
       J.l 1 st fun YP YQ st=>
      D.nil st<|
      dO [.slice 1 YP YQ,.int .i64 (af (i3+1))]) fun mT=>
      M.nn s8 fun i4 o2=>
      M.ak (av i3 iw)<|
      M.au i4 (i3.toNat*1+o2) fun d2=>
      D.int .i64 d2 fun x2=>
      M.new [.int .i64 x2] fun i5=>
      M.load i5 0 1 fun bw=>
      M.app 1 VU Tc bw 1 8796093022208 fun p=>
      M.join (fun st=>
       D.nil st<|
      mT [.slice 1 p (Tc+1)]) fun kP=>
      M.loop (fun xL st=>
       J.i .i64 st fun k st=>
      D.nil st<|
      bif decide (k<i3)then
       M.nn s8 fun i6 o3=>
      M.ak (av k iw)<|
      M.au i6 (k.toNat*1+o3) fun d3=>
      D.int .i64 d3 fun x3=>
      M.nn s8 fun i7 o4=>
      M.ak (av i3 iw)<|
      M.au i7 (i3.toNat*1+o4) fun d4=>
      D.int .i64 d4 fun x4=>
      bif x3==x4 then
       M.ret [.bool false]
      else
       xL [.int .i64 (af (k+1))]
      else
       kP []) n [.int .i64 0]
      else
       iV [.slice 1 VU Tc]) n [.slice 1 YN YO,.int .i64 0]) fun iG=>
      bif !(s7==0)then
       M.new [.int .i64 s7] fun i8=>
      M.load i8 0 1 fun cU=>
      M.app 1 EH Td cU 1 8796093022208 fun p1=>
      iG [.slice 1 p1 (Td+1)]
      else
       iG [.slice 1 EH Td]) fun iU=>
      bif s5==0 then
       bif !(s4==0)then
       M.ret [.bool false]
      else
       iU [.slice 0 none 0]
      else
       M.new [.int .i64 s4] fun i9=>
      M.load i9 0 1 fun fG=>
      M.app 1 none 0 fG 1 8796093022208 fun p2=>
      iU [.slice 1 p2 1]) fun eS=>
      bif b5 then
       eS [.bool true]
      else
       M.fW (c 196 [.agg [.int .i64 s1,.int .i64 s2,.int .i64 s3]]) fun ds=>
      J.i .i64 ds fun x5 ds=>
      D.nil ds<|
      eS [.bool (!((iw:Int)==x5))]) fun cm=>
      bif b4 then
       cm [.bool true]
      else
       cm [.bool (decide (s6>s5))]) fun bu=>
     bif b3 then
      bu [.bool true]
     else
      bu [.bool (decide (s6<0))]) fun aU=>
    bif decide (s5<0)then
     aU [.bool true]
    else
     aU [.bool (decide (s5>s2))]) fun aC=>
  bif b1 then
   aC [.bool true]
  else
   M.call (c 141 [.agg [.int .i64 s1,.int .i64 s2,.int .i64 s3]]) fun ds=>
   J.b ds fun x6 ds=>
   D.nil ds<|
   aC [.bool (!x6)]) fun aq=>
 bif decide (s<1)then
  aq [.bool true]
 else
  aq [.bool (decide (s>4611686018427387904))]
def GQ:Zg->Nat->List DV->M (List DV):=fun c n args=>
 J.a args fun cs args=>
 J.i .i64 cs fun g r=>
 J.i .i64 r fun g1 r=>
 J.i .i64 r fun g2 r=>
 D.nil r<|
 D.nil args<|
 M.call (c 220 [.int .i64 g,.int .i64 384]) fun ds=>
 J.i .i64 ds fun x ds=>
 D.nil ds<|
 M.ret [.int .i64 x]
def G4:Zg->Nat->List DV->M (List DV):=fun c n args=>
 J.a args fun cs args=>
 J.i .i64 cs fun s r=>
 J.i .i64 r fun s1 r=>
 J.i .i64 r fun s2 r=>
 J.i .i64 r fun s3 r=>
 J.i .i64 r fun s4 r=>
 J.i .i64 r fun s5 r=>
 J.i .i64 r fun s6 r=>
 J.i .i64 r fun s7 r=>
 J.l 1 r fun s8 iw r=>
 D.nil r<|
 D.nil args<|
 M.new [.int .i64 s,.int .i64 s1,.int .i64 s2,.int .i64 s3,.int .i64 s4,.int .i64 s5,.int .i64 s6,.int .i64 s7,.slice 1 s8 iw] fun s9=>
 M.au s9 0 fun d=>
 D.int .i64 d fun x=>
 M.join (fun st=>J.b st fun b1 st=>D.nil st<|
  M.join (fun st=>J.b st fun b2 st=>D.nil st<|
   M.join (fun st=>J.b st fun b3 st=>D.nil st<|
    M.join (fun st=>J.b st fun b4 st=>D.nil st<|
     M.join (fun st=>J.b st fun b5 st=>D.nil st<|
      M.join (fun st=>J.b st fun b6 st=>D.nil st<|
       bif b6 then
       M.ret [.bool false]
      else
       M.au s9 5 fun d1=>
      D.int .i64 d1 fun x1=>
      M.join (fun st=>J.b st fun b7 st=>D.nil st<|
       M.join (fun st=>J.b st fun b8 st=>D.nil st<|
       M.join (fun st=>J.b st fun b9 st=>D.nil st<|
       M.join (fun st=>J.b st fun AZ st=>D.nil st<|
       bif AZ then
       M.ret [.bool false]
      else
       M.au s9 8 fun d2=>
      D.slice 1 d2 fun x2 dJ=>
      M.join (fun st=>
       D.nil st<|
      M.ret [.bool true]) fun jS=>
      M.loop (fun aK st=>
       J.i .i64 st fun x3 st=>
      D.nil st<|
      bif decide (x3<(dJ:Int))then
       M.nn x2 fun i o=>
      M.ak (av x3 dJ)<|
      M.au i (x3.toNat*1+o) fun d3=>
      D.int .i64 d3 fun x4=>
      M.call (c 221 [.int .i64 x4,.ptr (some (s9,0))]) fun ds=>
      J.b ds fun x5 ds=>
      D.nil ds<|
      M.join (fun st=>J.b st fun QC st=>D.nil st<|
       bif QC then
       M.ret [.bool false]
      else
       aK [.int .i64 (af (x3+1))]) fun mT=>
      bif !x5 then
       mT [.bool true]
      else
       M.au s9 8 fun d4=>
      D.slice 1 d4 fun x6 oZ=>
      M.ak (decide (0<=x3)&&decide (x3<=(oZ:Int)))<|
      M.call (c 222 [.slice 1 x6 x3.toNat,.int .i64 x4]) fun ds=>
      J.b ds fun x7 ds=>
      D.nil ds<|
      mT [.bool x7]
      else
       jS []) n [.int .i64 0]) fun kO=>
      bif b9 then
       kO [.bool true]
      else
       M.au s9 8 fun d5=>
      D.slice 1 d5 fun x8 rD=>
      M.load s9 1 3 fun bw=>
      J.i .i64 bw fun x9 r=>
      J.i .i64 r fun cV r=>
      J.i .i64 r fun eK r=>
      D.nil r<|
      M.dW (c 223 [.agg [.int .i64 x9,.int .i64 cV,.int .i64 eK]]) fun ds=>
      J.i .i64 ds fun fk ds=>
      D.nil ds<|
      kO [.bool (!((rD:Int)==fk))]) fun iV=>
      bif b8 then
       iV [.bool true]
      else
       M.au s9 7 fun d6=>
      D.int .i64 d6 fun fa=>
      M.join (fun st=>J.b st fun QD st=>D.nil st<|
       iV [.bool QD]) fun kP=>
      bif !(fa==0)then
       M.au s9 7 fun d7=>
      D.int .i64 d7 fun gS=>
      M.call (c 221 [.int .i64 gS,.ptr (some (s9,0))]) fun ds=>
      J.b ds fun fb ds=>
      D.nil ds<|
      kP [.bool (!fb)]
      else
       kP [.bool false]) fun iG=>
      bif b7 then
       iG [.bool true]
      else
       M.au s9 5 fun d8=>
      D.int .i64 d8 fun fI=>
      M.join (fun st=>J.b st fun QE st=>D.nil st<|
       iG [.bool QE]) fun EC=>
      bif decide (fI>0)then
       M.au s9 4 fun d9=>
      D.int .i64 d9 fun gp=>
      M.call (c 221 [.int .i64 gp,.ptr (some (s9,0))]) fun ds=>
      J.b ds fun kX ds=>
      D.nil ds<|
      EC [.bool (!kX)]
      else
       EC [.bool false]) fun iU=>
      bif x1==0 then
       M.au s9 4 fun d10=>
      D.int .i64 d10 fun ku=>
      iU [.bool (!(ku==0))]
      else
       iU [.bool false]) fun eS=>
      bif b5 then
       eS [.bool true]
      else
       M.au s9 6 fun d11=>
      D.int .i64 d11 fun lQ=>
      M.au s9 5 fun d12=>
      D.int .i64 d12 fun oY=>
      eS [.bool (decide (lQ>oY))]) fun cm=>
     bif b4 then
      cm [.bool true]
     else
      M.au s9 6 fun d13=>
      D.int .i64 d13 fun uh=>
      cm [.bool (decide (uh<0))]) fun bu=>
    bif b3 then
     bu [.bool true]
    else
     M.au s9 5 fun d14=>
     D.int .i64 d14 fun xN=>
     M.au s9 2 fun d15=>
     D.int .i64 d15 fun BU=>
     bu [.bool (decide (xN>BU))]) fun aU=>
   bif b2 then
    aU [.bool true]
   else
    M.au s9 5 fun d16=>
    D.int .i64 d16 fun vP=>
    aU [.bool (decide (vP<0))]) fun aC=>
  bif b1 then
   aC [.bool true]
  else
   M.load s9 1 3 fun cU=>
   J.i .i64 cU fun zG r=>
   J.i .i64 r fun xO r=>
   J.i .i64 r fun zH r=>
   D.nil r<|
   M.call (c 145 [.agg [.int .i64 zG,.int .i64 xO,.int .i64 zH]]) fun ds=>
   J.b ds fun zI ds=>
   D.nil ds<|
   aC [.bool (!zI)]) fun aq=>
 bif decide (x<1)then
  aq [.bool true]
 else
  M.au s9 0 fun d17=>
  D.int .i64 d17 fun zJ=>
  aq [.bool (decide (zJ>4611686018427387904))]
def Zv:Zg->Nat->List DV->M (List DV):=fun c n args=>
 J.l 2 args fun s1 kT args=>
 J.l 2 args fun s2 nW args=>
 J.f args fun eq eqf eqc args=>
 D.nil args<|
 bif !((kT:Int)==(nW:Int))then
  M.ret [.bool false]
 else
  M.join (fun st=>
   D.nil st<|
   M.ret [.bool true]) fun aq=>
  M.loop (fun aK st=>
   J.i .i64 st fun x st=>
   D.nil st<|
   bif decide (x<(kT:Int))then
    M.nn s1 fun i o=>
    M.ak (av x kT)<|
    M.load i (x.toNat*2+o) 2 fun cs=>
    J.s cs fun x1 r=>
    J.l 4 r fun x2 dJ r=>
    D.nil r<|
    M.nn s2 fun i1 o1=>
    M.ak (av x nW)<|
    M.load i1 (x.toNat*2+o1) 2 fun bw=>
    J.s bw fun x3 r=>
    J.l 4 r fun x4 cO r=>
    D.nil r<|
    M.call (c eq (eqf++[.agg [.str x1,.slice 4 x2 dJ],.agg [.str x3,.slice 4 x4 cO]]++eqc)) fun ds=>
    J.b ds fun x5 ds=>
    D.nil ds<|
    bif !x5 then
     M.ret [.bool false]
    else
     aK [.int .i64 (af (x+1))]
   else
    aq []) n [.int .i64 0]
def H7:Zg->Nat->List DV->M (List DV):=fun c n args=>
 J.a args fun cs args=>
 J.s cs fun a r=>
 J.l 4 r fun a1 a1n r=>
 D.nil r<|
 J.a args fun bw args=>
 J.s bw fun b1 r=>
 J.l 4 r fun b2 b2n r=>
 D.nil r<|
 D.nil args<|
 M.join (fun st=>J.b st fun b3 st=>D.nil st<|
  M.ret [.bool b3]) fun aq=>
 bif a==b1 then
  M.call (c 235 [.slice 4 a1 a1n,.slice 4 b2 b2n]) fun ds=>
  J.b ds fun x ds=>
  D.nil ds<|
  aq [.bool x]
 else
  aq [.bool false]
def Ie:Zg->Nat->List DV->M (List DV):=fun c n args=>
 J.i .i64 args fun n1 args=>
 J.l 49 args fun cs QO args=>
 D.nil args<|
 M.join (fun st=>J.b st fun b1 st=>D.nil st<|
  M.join (fun st=>J.b st fun b2 st=>D.nil st<|
   bif b2 then
    M.ret [.ptr none,.bool false]
   else
    M.call (c 177 [.int .i64 n1,.slice 0 none 0]) fun ds=>
    J.p ds fun x ds=>
    D.nil ds<|
    M.join (fun st=>
     D.nil st<|
     M.ret [.ptr x,.bool true]) fun aU=>
    M.loop (fun aK st=>
     J.i .i64 st fun x1 st=>
     D.nil st<|
     bif decide (x1<(QO:Int))then
      M.nn cs fun i o=>
      M.ak (av x1 QO)<|
      M.load i (x1.toNat*49+o) 49 fun bw=>
      J.i .i64 bw fun x2 r1=>
      D.len r1 48<|
      D.len ((.int .i64 x2)::r1) 49<|
      M.call (c 239 [.agg ((.int .i64 x2)::r1)]) fun ds=>
      J.l 1 ds fun x3 ec ds=>
      D.nil ds<|
      M.join (fun st=>J.b st fun b3 st=>D.nil st<|
       bif b3 then
       M.ret [.ptr none,.bool false]
      else
       M.call (c 206 [.ptr x,.slice 1 x3 ec]) fun ds=>
      D.nil ds<|
      aK [.int .i64 (af (x1+1))]) fun bu=>
      bif !(x2==x1)then
       bu [.bool true]
      else
       M.join (fun st=>J.b st fun b4 st=>D.nil st<|
       bu [.bool b4]) fun cm=>
      bif decide ((ec:Int)>0)then
       M.nn x3 fun i1 o1=>
      M.ak (av (af ((ec:Int)-1)) ec)<|
      M.au i1 (((af ((ec:Int)-1)).toNat)*1+o1) fun d=>
      D.int .i64 d fun x4=>
      cm [.bool (decide (x4>=n1))]
      else
       cm [.bool false]
     else
      aU []) n [.int .i64 0]) fun aC=>
  bif b1 then
   aC [.bool true]
  else
   M.call (c 240 [.int .i64 n1]) fun ds=>
   J.i .i64 ds fun x5 ds=>
   D.nil ds<|
   aC [.bool (!((QO:Int)==x5))]) fun aq=>
 bif decide (n1<0)then
  aq [.bool true]
 else
  aq [.bool (decide (n1>3072))]
def Gr:Zg->Nat->List DV->M (List DV):=fun c n args=>
 J.p args fun s args=>
 J.p args fun t args=>
 D.nil args<|
 M.call (c 241 [.ptr s]) fun ds=>
 J.p ds fun x ds=>
 D.nil ds<|
 M.call (c 172 [.ptr t]) fun ds=>
 J.l 1 ds fun x1 kY ds=>
 D.nil ds<|
 M.call (c 206 [.ptr x,.slice 1 x1 kY]) fun ds=>
 D.nil ds<|
 M.ret [.ptr x]
def Gp:Zg->Nat->List DV->M (List DV):=fun c n args=>
 J.p args fun s args=>
 J.p args fun t args=>
 D.nil args<|
 M.nn s fun i o=>
 M.au i o fun d=>
 D.int .i64 d fun x=>
 M.nn t fun i1 o1=>
 M.au i1 o1 fun d1=>
 D.int .i64 d1 fun x1=>
 M.join (fun st=>J.b st fun b1 st=>D.nil st<|
  M.ret [.bool b1]) fun aq=>
 bif x==x1 then
  M.nn s fun i2 o2=>
  M.au i2 (o2+1) fun d2=>
  D.slice 1 d2 fun x2 dJ=>
  M.nn t fun i3 o3=>
  M.au i3 (o3+1) fun d3=>
  D.slice 1 d3 fun x3 ec=>
  M.call (c 236 [.slice 1 x2 dJ,.slice 1 x3 ec]) fun ds=>
  J.b ds fun x4 ds=>
  D.nil ds<|
  aq [.bool x4]
 else
  aq [.bool false]
def Ip:Zg->Nat->List DV->M (List DV):=fun c n args=>
 J.l 1 args fun image zi args=>
 J.i .i64 args fun bE args=>
 D.nil args<|
 M.base fun b0=>
 M.ak (decide (0<=af ((af (bE+1))*64))&&decide (af ((af (bE+1))*64)<=(zi:Int)))<|
 M.ak (decide (0<=af (bE*64))&&decide (af (bE*64)<=(((af ((af (bE+1))*64)).toNat:Nat):Int)))<|
 M.gR b0 [.slice 1 (cy true image (((af (bE*64)).toNat)*1)) (((af ((af (bE+1))*64)).toNat)-((af (bE*64)).toNat))]
def HR:Zg->Nat->List DV->M (List DV):=fun c n args=>
 J.l 1 args fun b1 bM args=>
 D.nil args<|
 M.call (c 237 [.slice 1 b1 bM]) fun ds=>
 J.i .i64 ds fun x ds=>
 J.i .i64 ds fun x1 ds=>
 J.l 1 ds fun x2 dJ ds=>
 J.b ds fun x3 ds=>
 D.nil ds<|
 M.join (fun st=>J.b st fun b2 st=>D.nil st<|
  M.join (fun st=>J.b st fun b3 st=>D.nil st<|
   M.join (fun st=>J.b st fun b4 st=>D.nil st<|
    bif b4 then
     M.ret [.agg [.int .i64 0,.int .u8 0,.int .u8 0,.int .u8 0,.int .u8 0,.int .u8 0,.int .u8 0,.int .u8 0,.int .u8 0,.int .u8 0,.int .u8 0,.int .u8 0,.int .u8 0,.int .u8 0,.int .u8 0,.int .u8 0,.int .u8 0,.int .u8 0,.int .u8 0,.int .u8 0,.int .u8 0,.int .u8 0,.int .u8 0,.int .u8 0,.int .u8 0,.int .u8 0,.int .u8 0,.int .u8 0,.int .u8 0,.int .u8 0,.int .u8 0,.int .u8 0,.int .u8 0,.int .u8 0,.int .u8 0,.int .u8 0,.int .u8 0,.int .u8 0,.int .u8 0,.int .u8 0,.int .u8 0,.int .u8 0,.int .u8 0,.int .u8 0,.int .u8 0,.int .u8 0,.int .u8 0,.int .u8 0,.int .u8 0],.bool false]
    else
     M.new [.int .i64 0,.int .u8 0,.int .u8 0,.int .u8 0,.int .u8 0,.int .u8 0,.int .u8 0,.int .u8 0,.int .u8 0,.int .u8 0,.int .u8 0,.int .u8 0,.int .u8 0,.int .u8 0,.int .u8 0,.int .u8 0,.int .u8 0,.int .u8 0,.int .u8 0,.int .u8 0,.int .u8 0,.int .u8 0,.int .u8 0,.int .u8 0,.int .u8 0,.int .u8 0,.int .u8 0,.int .u8 0,.int .u8 0,.int .u8 0,.int .u8 0,.int .u8 0,.int .u8 0,.int .u8 0,.int .u8 0,.int .u8 0,.int .u8 0,.int .u8 0,.int .u8 0,.int .u8 0,.int .u8 0,.int .u8 0,.int .u8 0,.int .u8 0,.int .u8 0,.int .u8 0,.int .u8 0,.int .u8 0,.int .u8 0] fun c1=>
     M.store c1 0 [.int .i64 x1,.int .u8 0,.int .u8 0,.int .u8 0,.int .u8 0,.int .u8 0,.int .u8 0,.int .u8 0,.int .u8 0,.int .u8 0,.int .u8 0,.int .u8 0,.int .u8 0,.int .u8 0,.int .u8 0,.int .u8 0,.int .u8 0,.int .u8 0,.int .u8 0,.int .u8 0,.int .u8 0,.int .u8 0,.int .u8 0,.int .u8 0,.int .u8 0,.int .u8 0,.int .u8 0,.int .u8 0,.int .u8 0,.int .u8 0,.int .u8 0,.int .u8 0,.int .u8 0,.int .u8 0,.int .u8 0,.int .u8 0,.int .u8 0,.int .u8 0,.int .u8 0,.int .u8 0,.int .u8 0,.int .u8 0,.int .u8 0,.int .u8 0,.int .u8 0,.int .u8 0,.int .u8 0,.int .u8 0,.int .u8 0]<|
     M.load c1 1 48 fun _=>
     M.rd x2 ((min dJ 48)*1) fun cs=>
     M.store c1 1 cs<|
     M.load c1 0 49 fun bw=>
     J.i .i64 bw fun x4 r1=>
     D.len r1 48<|
     D.len ((.int .i64 x4)::r1) 49<|
     M.ret [.agg ((.int .i64 x4)::r1),.bool true]) fun aU=>
   bif b3 then
    aU [.bool true]
   else
    M.call (c 238 [.slice 1 x2 dJ,.int .i64 48,.int .i64 (af ((dJ:Int)-48))]) fun ds=>
    J.b ds fun x5 ds=>
    D.nil ds<|
    aU [.bool (!x5)]) fun aC=>
  bif b2 then
   aC [.bool true]
  else
   aC [.bool (decide (x1>=8))]) fun aq=>
 bif !x3 then
  aq [.bool true]
 else
  aq [.bool (!(x==4))]
def HX:Zg->Nat->List DV->M (List DV):=fun c n args=>
 J.l 1 args fun l ln args=>
 J.i .i64 args fun n1 args=>
 J.i .i64 args fun bE args=>
 D.nil args<|
 M.base fun b0=>
 M.join (fun st=>J.b st fun b1 st=>D.nil st<|
  M.join (fun st=>J.b st fun b2 st=>D.nil st<|
   bif b2 then
    M.gR b0 [.slice 1 l ln]
   else
    M.join (fun st=>
     J.i .i64 st fun k st=>
     D.nil st<|
     M.ak (decide (0<=k)&&decide (k<=(ln:Int)))<|
     M.rd l (k.toNat*1) fun cs=>
     M.app 1 none 0 cs k.toNat 8796093022208 fun p=>
     M.new [.int .i64 bE] fun i=>
     M.load i 0 1 fun bw=>
     M.app 1 p (0+k.toNat) bw 1 8796093022208 fun p1=>
     M.ak (decide (0<=k)&&decide (k<=(ln:Int)))<|
     M.rd (cy true l (k.toNat*1)) ((ln-k.toNat)*1) fun cU=>
     M.app 1 p1 (0+k.toNat+1) cU (ln-k.toNat) 8796093022208 fun p2=>
     M.gR b0 [.slice 1 p2 (0+k.toNat+1+(ln-k.toNat))]) fun aU=>
    M.loop (fun aK st=>
     J.i .i64 st fun k1 st=>
     D.nil st<|
     M.join (fun st=>J.b st fun b3 st=>D.nil st<|
      bif b3 then
       aK [.int .i64 (af (k1-1))]
      else
       aU [.int .i64 k1]) fun bu=>
     bif decide (k1>0)then
      M.nn l fun i1 o=>
      M.ak (av (af (k1-1)) ln)<|
      M.au i1 (((af (k1-1)).toNat)*1+o) fun d=>
      D.int .i64 d fun x=>
      bu [.bool (decide (x>bE))]
     else
      bu [.bool false]) n [.int .i64 (ln:Int)]) fun aC=>
  bif b1 then
   aC [.bool true]
  else
   M.call (c 143 [.slice 1 l ln,.int .i64 bE]) fun ds=>
   J.b ds fun x1 ds=>
   D.nil ds<|
   aC [.bool x1]) fun aq=>
 bif decide (bE<0)then
  aq [.bool true]
 else
  aq [.bool (decide (bE>=n1))]
def GR:Zg->Nat->List DV->M (List DV):=fun c n args=>
 J.p args fun s args=>
 J.l 1 args fun l ln args=>
 D.nil args<|
 M.join (fun st=>
  D.nil st<|
  M.ret []) fun aq=>
 M.loop (fun aK st=>
  J.i .i64 st fun x st=>
  D.nil st<|
  bif decide (x<(ln:Int))then
   M.nn l fun i o=>
   M.ak (av x ln)<|
   M.au i (x.toNat*1+o) fun d=>
   D.int .i64 d fun x1=>
   M.call (c 209 [.ptr s,.int .i64 x1]) fun ds=>
   J.b ds fun x2 ds=>
   D.nil ds<|
   M.join (fun st=>
    D.nil st<|
    aK [.int .i64 (af (x+1))]) fun aC=>
   bif x2 then
    M.nn s fun i1 o1=>
    M.au i1 (o1+1) fun d1=>
    D.slice 1 d1 fun x3 ec=>
    M.nn x3 fun i2 o2=>
    M.ak (av (af (x1.tdiv 64)) ec)<|
    M.au i2 (((af (x1.tdiv 64)).toNat)*1+o2) fun d2=>
    D.int .u64 d2 fun x4=>
    M.ak (decide (0<=x1.tmod 64))<|
    M.nn x3 fun i3 o3=>
    M.ak (av (af (x1.tdiv 64)) ec)<|
    M.store i3 (((af (x1.tdiv 64)).toNat)*1+o3) [.int .u64 (bits .or .u64 x4 (IntKind.wrap .u64 (1*2^(min (x1.tmod 64).toNat 64))))]<|
    aC []
   else
    aC []
  else
   aq []) n [.int .i64 0]
def HD:Zg->Nat->List DV->M (List DV):=fun c n args=>
 J.l 1 args fun b1 bM args=>
 D.nil args<|
 M.base fun b0=>
 M.new [] fun i=>
 M.rd b1 (bM*1) fun cs=>
 M.app 1 (some (i,0)) 0 cs bM 70368744177664 fun p=>
 M.ak (decide ((4:Int)<=(bM:Int)))<|
 M.call (c 242 [.slice 1 (cy true b1 4) (bM-4)]) fun ds=>
 J.i .u32 ds fun x ds=>
 D.nil ds<|
 M.call (c 213 [.int .u64 (IntKind.wrap .u64 (x)),.int .i64 4]) fun ds=>
 J.s ds fun x1 ds=>
 D.nil ds<|
 M.wr p (ZF (x1.take (0+bM)))<|
 M.gR b0 [.slice 1 p (0+bM)]
def HA:Zg->Nat->List DV->M (List DV):=fun c n args=>
 J.s args fun image args=>
 J.i .i64 args fun bE args=>
 D.nil args<|
 M.base fun b0=>
 M.join (fun st=>J.b st fun b1 st=>D.nil st<|
  bif b1 then
   M.gR b0 [.slice 0 none 0,.bool false]
  else
   M.ak (decide (0<=af ((af (64*bE))+64))&&decide (af ((af (64*bE))+64)<=(image.length:Int)))<|
   M.ak (decide (0<=af (64*bE))&&decide (af (64*bE)<=(((af ((af (64*bE))+64)).toNat:Nat):Int)))<|
   M.new (ZF ((image.take ((af ((af (64*bE))+64)).toNat)).drop ((af (64*bE)).toNat))) fun i=>
   M.gR b0 [.slice 1 (some (i,0)) (((image.take ((af ((af (64*bE))+64)).toNat)).drop ((af (64*bE)).toNat)).length),.bool true]) fun aq=>
 bif decide (bE<0)then
  aq [.bool true]
 else
  aq [.bool (decide (bE>=af ((image.length:Int).tdiv 64)))]
def Hk:Zg->Nat->List DV->M (List DV):=fun c n args=>
 J.p args fun s args=>
 J.i .i64 args fun bE args=>
 D.nil args<|
 M.join (fun st=>J.b st fun b1 st=>D.nil st<|
  M.ret [.bool b1]) fun aq=>
 bif decide (bE>=0)then
  M.nn s fun i o=>
  M.au i o fun d=>
  D.int .i64 d fun x=>
  aq [.bool (decide (bE<x))]
 else
  aq [.bool false]
def F9:Zg->Nat->List DV->M (List DV):=fun c n args=>
 J.i .u64 args fun x args=>
 D.nil args<|
 M.ret [.int .i64 (bits .and .i64 (af (IntKind.wrap .u64 ((IntKind.wrap .u64 ((IntKind.wrap .u64 ((bits .and .u64 (IntKind.wrap .u64 (((IntKind.wrap .u64 ((bits .and .u64 ((IntKind.wrap .u64 ((bits .and .u64 (x.fdiv (2^1)) 6148914691236517205)+(bits .and .u64 x 6148914691236517205))).fdiv (2^2)) 3689348814741910323)+(bits .and .u64 (IntKind.wrap .u64 ((bits .and .u64 (x.fdiv (2^1)) 6148914691236517205)+(bits .and .u64 x 6148914691236517205))) 3689348814741910323))).fdiv (2^4))+(IntKind.wrap .u64 ((bits .and .u64 ((IntKind.wrap .u64 ((bits .and .u64 (x.fdiv (2^1)) 6148914691236517205)+(bits .and .u64 x 6148914691236517205))).fdiv (2^2)) 3689348814741910323)+(bits .and .u64 (IntKind.wrap .u64 ((bits .and .u64 (x.fdiv (2^1)) 6148914691236517205)+(bits .and .u64 x 6148914691236517205))) 3689348814741910323))))) 1085102592571150095)+((bits .and .u64 (IntKind.wrap .u64 (((IntKind.wrap .u64 ((bits .and .u64 ((IntKind.wrap .u64 ((bits .and .u64 (x.fdiv (2^1)) 6148914691236517205)+(bits .and .u64 x 6148914691236517205))).fdiv (2^2)) 3689348814741910323)+(bits .and .u64 (IntKind.wrap .u64 ((bits .and .u64 (x.fdiv (2^1)) 6148914691236517205)+(bits .and .u64 x 6148914691236517205))) 3689348814741910323))).fdiv (2^4))+(IntKind.wrap .u64 ((bits .and .u64 ((IntKind.wrap .u64 ((bits .and .u64 (x.fdiv (2^1)) 6148914691236517205)+(bits .and .u64 x 6148914691236517205))).fdiv (2^2)) 3689348814741910323)+(bits .and .u64 (IntKind.wrap .u64 ((bits .and .u64 (x.fdiv (2^1)) 6148914691236517205)+(bits .and .u64 x 6148914691236517205))) 3689348814741910323))))) 1085102592571150095).fdiv (2^8))))+((IntKind.wrap .u64 ((bits .and .u64 (IntKind.wrap .u64 (((IntKind.wrap .u64 ((bits .and .u64 ((IntKind.wrap .u64 ((bits .and .u64 (x.fdiv (2^1)) 6148914691236517205)+(bits .and .u64 x 6148914691236517205))).fdiv (2^2)) 3689348814741910323)+(bits .and .u64 (IntKind.wrap .u64 ((bits .and .u64 (x.fdiv (2^1)) 6148914691236517205)+(bits .and .u64 x 6148914691236517205))) 3689348814741910323))).fdiv (2^4))+(IntKind.wrap .u64 ((bits .and .u64 ((IntKind.wrap .u64 ((bits .and .u64 (x.fdiv (2^1)) 6148914691236517205)+(bits .and .u64 x 6148914691236517205))).fdiv (2^2)) 3689348814741910323)+(bits .and .u64 (IntKind.wrap .u64 ((bits .and .u64 (x.fdiv (2^1)) 6148914691236517205)+(bits .and .u64 x 6148914691236517205))) 3689348814741910323))))) 1085102592571150095)+((bits .and .u64 (IntKind.wrap .u64 (((IntKind.wrap .u64 ((bits .and .u64 ((IntKind.wrap .u64 ((bits .and .u64 (x.fdiv (2^1)) 6148914691236517205)+(bits .and .u64 x 6148914691236517205))).fdiv (2^2)) 3689348814741910323)+(bits .and .u64 (IntKind.wrap .u64 ((bits .and .u64 (x.fdiv (2^1)) 6148914691236517205)+(bits .and .u64 x 6148914691236517205))) 3689348814741910323))).fdiv (2^4))+(IntKind.wrap .u64 ((bits .and .u64 ((IntKind.wrap .u64 ((bits .and .u64 (x.fdiv (2^1)) 6148914691236517205)+(bits .and .u64 x 6148914691236517205))).fdiv (2^2)) 3689348814741910323)+(bits .and .u64 (IntKind.wrap .u64 ((bits .and .u64 (x.fdiv (2^1)) 6148914691236517205)+(bits .and .u64 x 6148914691236517205))) 3689348814741910323))))) 1085102592571150095).fdiv (2^8)))).fdiv (2^16))))+((IntKind.wrap .u64 ((IntKind.wrap .u64 ((bits .and .u64 (IntKind.wrap .u64 (((IntKind.wrap .u64 ((bits .and .u64 ((IntKind.wrap .u64 ((bits .and .u64 (x.fdiv (2^1)) 6148914691236517205)+(bits .and .u64 x 6148914691236517205))).fdiv (2^2)) 3689348814741910323)+(bits .and .u64 (IntKind.wrap .u64 ((bits .and .u64 (x.fdiv (2^1)) 6148914691236517205)+(bits .and .u64 x 6148914691236517205))) 3689348814741910323))).fdiv (2^4))+(IntKind.wrap .u64 ((bits .and .u64 ((IntKind.wrap .u64 ((bits .and .u64 (x.fdiv (2^1)) 6148914691236517205)+(bits .and .u64 x 6148914691236517205))).fdiv (2^2)) 3689348814741910323)+(bits .and .u64 (IntKind.wrap .u64 ((bits .and .u64 (x.fdiv (2^1)) 6148914691236517205)+(bits .and .u64 x 6148914691236517205))) 3689348814741910323))))) 1085102592571150095)+((bits .and .u64 (IntKind.wrap .u64 (((IntKind.wrap .u64 ((bits .and .u64 ((IntKind.wrap .u64 ((bits .and .u64 (x.fdiv (2^1)) 6148914691236517205)+(bits .and .u64 x 6148914691236517205))).fdiv (2^2)) 3689348814741910323)+(bits .and .u64 (IntKind.wrap .u64 ((bits .and .u64 (x.fdiv (2^1)) 6148914691236517205)+(bits .and .u64 x 6148914691236517205))) 3689348814741910323))).fdiv (2^4))+(IntKind.wrap .u64 ((bits .and .u64 ((IntKind.wrap .u64 ((bits .and .u64 (x.fdiv (2^1)) 6148914691236517205)+(bits .and .u64 x 6148914691236517205))).fdiv (2^2)) 3689348814741910323)+(bits .and .u64 (IntKind.wrap .u64 ((bits .and .u64 (x.fdiv (2^1)) 6148914691236517205)+(bits .and .u64 x 6148914691236517205))) 3689348814741910323))))) 1085102592571150095).fdiv (2^8))))+((IntKind.wrap .u64 ((bits .and .u64 (IntKind.wrap .u64 (((IntKind.wrap .u64 ((bits .and .u64 ((IntKind.wrap .u64 ((bits .and .u64 (x.fdiv (2^1)) 6148914691236517205)+(bits .and .u64 x 6148914691236517205))).fdiv (2^2)) 3689348814741910323)+(bits .and .u64 (IntKind.wrap .u64 ((bits .and .u64 (x.fdiv (2^1)) 6148914691236517205)+(bits .and .u64 x 6148914691236517205))) 3689348814741910323))).fdiv (2^4))+(IntKind.wrap .u64 ((bits .and .u64 ((IntKind.wrap .u64 ((bits .and .u64 (x.fdiv (2^1)) 6148914691236517205)+(bits .and .u64 x 6148914691236517205))).fdiv (2^2)) 3689348814741910323)+(bits .and .u64 (IntKind.wrap .u64 ((bits .and .u64 (x.fdiv (2^1)) 6148914691236517205)+(bits .and .u64 x 6148914691236517205))) 3689348814741910323))))) 1085102592571150095)+((bits .and .u64 (IntKind.wrap .u64 (((IntKind.wrap .u64 ((bits .and .u64 ((IntKind.wrap .u64 ((bits .and .u64 (x.fdiv (2^1)) 6148914691236517205)+(bits .and .u64 x 6148914691236517205))).fdiv (2^2)) 3689348814741910323)+(bits .and .u64 (IntKind.wrap .u64 ((bits .and .u64 (x.fdiv (2^1)) 6148914691236517205)+(bits .and .u64 x 6148914691236517205))) 3689348814741910323))).fdiv (2^4))+(IntKind.wrap .u64 ((bits .and .u64 ((IntKind.wrap .u64 ((bits .and .u64 (x.fdiv (2^1)) 6148914691236517205)+(bits .and .u64 x 6148914691236517205))).fdiv (2^2)) 3689348814741910323)+(bits .and .u64 (IntKind.wrap .u64 ((bits .and .u64 (x.fdiv (2^1)) 6148914691236517205)+(bits .and .u64 x 6148914691236517205))) 3689348814741910323))))) 1085102592571150095).fdiv (2^8)))).fdiv (2^16)))).fdiv (2^32))))) 127)]
def HJ:Zg->Nat->List DV->M (List DV):=fun c n args=>
 J.i .u64 args fun v args=>
 J.i .i64 args fun n1 args=>
 D.nil args<|
 M.join (fun st=>
  J.s st fun s st=>
  D.nil st<|
  M.ret [.str s]) fun aq=>
 M.loop (fun aK st=>
  J.s st fun s1 st=>
  J.i .i64 st fun i st=>
  D.nil st<|
  bif decide (i<n1)then
   M.call (c 248 [.int .u64 v,.int .i64 i]) fun ds=>
   J.i .u8 ds fun x ds=>
   D.nil ds<|
   M.new [.int .u8 x] fun i1=>
   M.load i1 0 1 fun cs=>
   D.bT cs fun l=>
   M.ak (Nat.ble (s1.length+l.length) 4611686018427387904)<|
   aK [.str (s1++l),.int .i64 (af (i+1))]
  else
   aq [.str s1]) n [.str (bs []),.int .i64 0]
def H3:Zg->Nat->List DV->M (List DV):=fun c n args=>
 J.i .i64 args fun kind args=>
 J.i .i64 args fun tag args=>
 J.s args fun body args=>
 D.nil args<|
 M.new [.int .u8 (IntKind.wrap .u8 (kind)),.int .u8 (IntKind.wrap .u8 (tag)),.int .u8 0,.int .u8 0] fun i=>
 M.load i 0 4 fun cs=>
 D.bT cs fun l=>
 M.dW (c 249 [.str body,.int .i64 56]) fun ds=>
 J.s ds fun x ds=>
 D.nil ds<|
 M.ak (Nat.ble (l.length+x.length) 4611686018427387904)<|
 M.new (ZF (l++x)) fun i1=>
 M.call (c 242 [.slice 1 (some (i1,0)) ((l++x).length)]) fun ds=>
 J.i .u32 ds fun x1 ds=>
 D.nil ds<|
 M.call (c 213 [.int .u64 (IntKind.wrap .u64 (x1)),.int .i64 4]) fun ds=>
 J.s ds fun x2 ds=>
 D.nil ds<|
 M.ak (Nat.ble (x2.length+(l++x).length) 4611686018427387904)<|
 M.ret [.str (x2++(l++x))]
def Ib:Zg->Nat->List DV->M (List DV):=fun c n args=>
 J.l 1 args fun l ln args=>
 D.nil args<|
 M.join (fun st=>J.b st fun b1 st=>D.nil st<|
  bif b1 then
   M.ret [.str (bs []),.bool false]
  else
   M.join (fun st=>
    J.s st fun s st=>
    D.nil st<|
    M.call (c 214 [.int .i64 6,.int .i64 (ln:Int),.str s]) fun ds=>
    J.s ds fun x ds=>
    D.nil ds<|
    M.ret [.str x,.bool true]) fun aC=>
   M.loop (fun aK st=>
    J.s st fun s1 st=>
    J.i .i64 st fun i st=>
    D.nil st<|
    bif decide (i<(ln:Int))then
     M.join (fun st=>
      J.s st fun s2 st=>
      D.nil st<|
      aK [.str s2,.int .i64 (af (i+1))]) fun aU=>
     M.nn l fun i1 o=>
     M.ak (av i ln)<|
     M.au i1 (i.toNat*1+o) fun d=>
     D.int .i64 d fun x1=>
     M.call (c 251 [.int .i64 x1]) fun ds=>
     J.b ds fun x2 ds=>
     D.nil ds<|
     bif !x2 then
      M.ret [.str (bs []),.bool false]
     else
      M.join (fun st=>
       D.nil st<|
      M.nn l fun i2 o1=>
      M.ak (av i ln)<|
      M.au i2 (i.toNat*1+o1) fun d1=>
      D.int .i64 d1 fun x3=>
      M.call (c 213 [.int .u64 (IntKind.wrap .u64 (x3)),.int .i64 2]) fun ds=>
      J.s ds fun x4 ds=>
      D.nil ds<|
      M.ak (Nat.ble (s1.length+x4.length) 4611686018427387904)<|
      aU [.str (s1++x4)]) fun bu=>
      M.loop (fun dO st=>
       J.i .i64 st fun k st=>
      D.nil st<|
      bif decide (k<i)then
       M.nn l fun i3 o2=>
      M.ak (av k ln)<|
      M.au i3 (k.toNat*1+o2) fun d2=>
      D.int .i64 d2 fun x5=>
      M.nn l fun i4 o3=>
      M.ak (av i ln)<|
      M.au i4 (i.toNat*1+o3) fun d3=>
      D.int .i64 d3 fun x6=>
      bif x5==x6 then
       M.ret [.str (bs []),.bool false]
      else
       dO [.int .i64 (af (k+1))]
      else
       bu []) n [.int .i64 0]
    else
     aC [.str s1]) n [.str (bs []),.int .i64 0]) fun aq=>
 bif decide ((ln:Int)<1)then
  aq [.bool true]
 else
  aq [.bool (decide ((ln:Int)>16))]
def HS:Zg->Nat->List DV->M (List DV):=fun c n args=>
 J.a args fun cs args=>
 J.s cs fun q r1=>
 J.i .i64 r1 fun q1 r2=>
 D.len r2 12<|
 D.nil args<|
 D.len ((.str q)::(.int .i64 q1)::r2) 14<|
 M.call (c 213 [.int .u64 (IntKind.wrap .u64 (q1)),.int .i64 4]) fun ds=>
 J.s ds fun x ds=>
 D.nil ds<|
 M.join (fun st=>
  J.s st fun s st=>
  D.nil st<|
  M.ak (Nat.ble (s.length+q.length) 4611686018427387904)<|
  M.call (c 214 [.int .i64 5,.int .i64 (q.length:Int),.str (s++q)]) fun ds=>
  J.s ds fun x1 ds=>
  D.nil ds<|
  M.ret [.str x1]) fun aq=>
 M.loop (fun aK st=>
  J.s st fun s1 st=>
  J.i .i64 st fun i st=>
  D.nil st<|
  bif decide (i<12)then
   M.ak (av i 12)<|
   D.nth r2 (i.toNat*1) fun d=>
   D.int .i64 d fun x2=>
   M.call (c 213 [.int .u64 (IntKind.wrap .u64 (x2)),.int .i64 2]) fun ds=>
   J.s ds fun x3 ds=>
   D.nil ds<|
   M.ak (Nat.ble (s1.length+x3.length) 4611686018427387904)<|
   aK [.str (s1++x3),.int .i64 (af (i+1))]
  else
   aq [.str s1]) n [.str x,.int .i64 0]
def F4:Zg->Nat->List DV->M (List DV):=fun c n args=>
 J.p args fun m args=>
 J.l 4 args fun es J4 args=>
 D.nil args<|
 M.nn es fun i o=>
 M.ak (av 0 J4)<|
 M.load i (0+o) 4 fun cs=>
 J.i .i64 cs fun x r=>
 J.i .i64 r fun x1 r=>
 J.i .i64 r fun x2 r=>
 J.i .i64 r fun x3 r=>
 D.nil r<|
 M.join (fun st=>
  J.a st fun bw st=>
  J.i .i64 bw fun n1 r=>
  J.i .i64 r fun n2 r=>
  J.i .i64 r fun n3 r=>
  J.i .i64 r fun n4 r=>
  J.l 1 r fun n5 sy r=>
  D.nil r<|
  D.nil st<|
  M.call (c 250 [.agg [.int .i64 n1,.int .i64 n2,.int .i64 n3,.int .i64 n4,.slice 1 n5 sy]]) fun ds=>
  J.s ds fun x4 ds=>
  D.nil ds<|
  M.call (c 194 [.ptr m,.str x4]) fun ds=>
  J.i .i64 ds fun x5 ds=>
  D.nil ds<|
  M.nn m fun i1 o1=>
  M.au i1 (o1+2) fun d=>
  D.slice 1 d fun x6 oZ=>
  M.nn es fun i2 o2=>
  M.ak (av 0 J4)<|
  M.au i2 (0+o2) fun d1=>
  D.int .i64 d1 fun x7=>
  M.nn x6 fun i3 o3=>
  M.ak (av x7 oZ)<|
  M.store i3 (x7.toNat*1+o3) [.int .i64 x5]<|
  M.ret [.int .i64 x5]) fun aq=>
 M.loop (fun aK st=>
  J.a st fun cU st=>
  J.i .i64 cU fun n6 r=>
  J.i .i64 r fun n7 r=>
  J.i .i64 r fun n8 r=>
  J.i .i64 r fun n9 r=>
  J.l 1 r fun n10 zp r=>
  D.nil r<|
  J.i .i64 st fun k st=>
  D.nil st<|
  bif decide (k<(J4:Int))then
   M.ak (decide (0<=af (2*k))&&decide (af (2*k)<=(J4:Int)))<|
   M.ak (decide (0<=k)&&decide (k<=(((af (2*k)).toNat:Nat):Int)))<|
   M.fW (c 217 [.ptr m,.slice 4 (cy true es (k.toNat*4)) (((af (2*k)).toNat)-k.toNat)]) fun ds=>
   J.i .i64 ds fun x8 ds=>
   D.nil ds<|
   M.new [.int .i64 x8] fun i4=>
   M.load i4 0 1 fun fG=>
   M.app 1 n10 zp fG 1 8796093022208 fun p=>
   aK [.agg [.int .i64 n6,.int .i64 n7,.int .i64 n8,.int .i64 n9,.slice 1 p (zp+1)],.int .i64 (af (2*k))]
  else
   aq [.agg [.int .i64 n6,.int .i64 n7,.int .i64 n8,.int .i64 n9,.slice 1 n10 zp]]) n [.agg [.int .i64 x,.int .i64 x1,.int .i64 x2,.int .i64 x3,.slice 0 none 0],.int .i64 1]
def H8:Zg->Nat->List DV->M (List DV):=fun c n args=>
 J.a args fun cs args=>
 D.len cs 16<|
 D.nil args<|
 D.len cs 16<|
 M.join (fun st=>
  J.s st fun s st=>
  D.nil st<|
  M.call (c 214 [.int .i64 3,.int .i64 0,.str s]) fun ds=>
  J.s ds fun x ds=>
  D.nil ds<|
  M.ret [.str x,.bool true]) fun aq=>
 M.loop (fun aK st=>
  J.s st fun s1 st=>
  J.i .i64 st fun i st=>
  D.nil st<|
  bif decide (i<16)then
   M.ak (av i 16)<|
   D.nth cs (i.toNat*1) fun d=>
   D.int .i64 d fun x1=>
   M.join (fun st=>J.b st fun b1 st=>D.nil st<|
    bif b1 then
     M.ret [.str (bs []),.bool false]
    else
     M.ak (av i 16)<|
     D.nth cs (i.toNat*1) fun d1=>
     D.int .i64 d1 fun x2=>
     M.call (c 213 [.int .u64 (IntKind.wrap .u64 (x2)),.int .i64 2]) fun ds=>
     J.s ds fun x3 ds=>
     D.nil ds<|
     M.ak (Nat.ble (s1.length+x3.length) 4611686018427387904)<|
     aK [.str (s1++x3),.int .i64 (af (i+1))]) fun aC=>
   bif !(x1==0)then
    M.ak (av i 16)<|
    D.nth cs (i.toNat*1) fun d2=>
    D.int .i64 d2 fun x4=>
    M.call (c 251 [.int .i64 x4]) fun ds=>
    J.b ds fun x5 ds=>
    D.nil ds<|
    aC [.bool (!x5)]
   else
    aC [.bool false]
  else
   aq [.str s1]) n [.str (bs []),.int .i64 0]
def Ht:Zg->Nat->List DV->M (List DV):=fun c n args=>
 J.a args fun cs args=>
 D.len cs 21<|
 D.nil args<|
 D.len cs 21<|
 M.join (fun st=>
  J.s st fun s st=>
  J.i .i64 st fun tag st=>
  D.nil st<|
  M.call (c 214 [.int .i64 2,.int .i64 tag,.str s]) fun ds=>
  J.s ds fun x ds=>
  D.nil ds<|
  M.ret [.str x,.bool true]) fun aq=>
 M.loop (fun aK st=>
  J.s st fun s1 st=>
  J.i .i64 st fun TZ st=>
  J.i .i64 st fun i st=>
  D.nil st<|
  bif decide (i<7)then
   M.ak (av i 7)<|
   M.ak (Nat.ble (i.toNat*3+3) 21)<|
   D.len ((cs.drop (i.toNat*3)).take 3) 3<|
   M.call (c 252 [.agg ((cs.drop (i.toNat*3)).take 3)]) fun ds=>
   J.b ds fun x1 ds=>
   D.nil ds<|
   bif !x1 then
    M.ret [.str (bs []),.bool false]
   else
    D.nth ((cs.drop (i.toNat*3)).take 3) 0 fun d=>
    D.bool d fun x2=>
    M.join (fun st=>
     J.i .i64 st fun aaG st=>
     D.nil st<|
     D.nth ((cs.drop (i.toNat*3)).take 3) 1 fun d1=>
     D.int .i64 d1 fun x3=>
     M.dW (c 213 [.int .u64 (IntKind.wrap .u64 (x3)),.int .i64 4]) fun ds=>
     J.s ds fun x4 ds=>
     D.nil ds<|
     M.ak (Nat.ble (s1.length+x4.length) 4611686018427387904)<|
     D.nth ((cs.drop (i.toNat*3)).take 3) 2 fun d2=>
     D.int .i64 d2 fun x5=>
     M.fW (c 213 [.int .u64 (IntKind.wrap .u64 (x5)),.int .i64 4]) fun ds=>
     J.s ds fun x6 ds=>
     D.nil ds<|
     M.ak (Nat.ble ((s1++x4).length+x6.length) 4611686018427387904)<|
     aK [.str ((s1++x4)++x6),.int .i64 aaG,.int .i64 (af (i+1))]) fun aC=>
    bif x2 then
     M.ak (decide (0<=i))<|
     aC [.int .i64 (af (TZ+(af (1*2^(min i.toNat 64)))))]
    else
     aC [.int .i64 TZ]
  else
   aq [.str s1,.int .i64 TZ]) n [.str (bs []),.int .i64 0,.int .i64 0]
def Hw:Zg->Nat->List DV->M (List DV):=fun c n args=>
 J.i .i64 args fun n1 args=>
 J.i .i64 args fun each args=>
 D.nil args<|
 M.join (fun st=>
  J.i .i64 st fun k st=>
  D.nil st<|
  M.ret [.int .i64 k]) fun aq=>
 M.loop (fun aK st=>
  J.i .i64 st fun k1 st=>
  D.nil st<|
  bif decide (af (k1*each)<n1)then
   aK [.int .i64 (af (k1+1))]
  else
   aq [.int .i64 k1]) n [.int .i64 0]
def Gs:Zg->Nat->List DV->M (List DV):=fun c n args=>
 J.i .i64 args fun bE args=>
 J.p args fun x args=>
 D.nil args<|
 M.join (fun st=>J.b st fun b1 st=>D.nil st<|
  M.ret [.bool b1]) fun aq=>
 bif decide (bE>=2)then
  M.nn x fun i o=>
  M.au i (o+1) fun d=>
  D.int .i64 d fun x1=>
  aq [.bool (decide (bE<x1))]
 else
  aq [.bool false]
def FT:Zg->Nat->List DV->M (List DV):=fun c n args=>
 J.l 1 args fun s sn args=>
 J.i .i64 args fun v args=>
 D.nil args<|
 M.call (c 254 [.slice 1 s sn,.int .i64 v]) fun ds=>
 J.i .i64 ds fun x ds=>
 D.nil ds<|
 M.ret [.bool (decide (x>=0))]
def GY:Zg->Nat->List DV->M (List DV):=fun c n args=>
 J.a args fun cs args=>
 J.i .i64 cs fun g r=>
 J.i .i64 r fun g1 r=>
 J.i .i64 r fun g2 r=>
 D.nil r<|
 D.nil args<|
 M.call (c 145 [.agg [.int .i64 g,.int .i64 g1,.int .i64 g2]]) fun ds=>
 J.b ds fun x ds=>
 D.nil ds<|
 bif !x then
  M.ret [.int .i64 0]
 else
  M.call (c 253 [.int .i64 g,.int .i64 384]) fun ds=>
  J.i .i64 ds fun x1 ds=>
  D.nil ds<|
  M.ret [.int .i64 x1]
def Ih:Zg->Nat->List DV->M (List DV):=fun c n args=>
 J.b args fun ok args=>
 D.nil args<|
 M.join (fun st=>
  D.nil st<|
  M.ret []) fun aq=>
 bif !ok then
  M.cC
 else
  aq []
def Gi:Zg->Nat->List DV->M (List DV):=fun c n args=>
 J.p args fun w args=>
 D.nil args<|
 M.nn w fun i o=>
 M.au i (o+6) fun d=>
 D.int .i64 d fun x=>
 bif x==0 then
  M.ret []
 else
  M.nn w fun i1 o1=>
  M.au i1 (o1+6) fun d1=>
  D.int .i64 d1 fun x1=>
  M.call (c 227 [.int .i64 x1]) fun ds=>
  J.i .i64 ds fun x2 ds=>
  D.nil ds<|
  M.nn w fun i2 o2=>
  M.au i2 (o2+5) fun d2=>
  D.int .i64 d2 fun x3=>
  M.call (c 228 [.ptr w,.int .i64 x3]) fun ds=>
  J.d ds fun x4 ds=>
  D.nil ds<|
  D.qK M.cC x4 2 fun d3=>
  D.agg d3 fun cs=>
  D.len cs 16<|
  M.join (fun st=>
   D.nil st<|
   M.ret []) fun aq=>
  M.loop (fun aK st=>
   J.i .i64 st fun x5 st=>
   D.nil st<|
   bif decide (x5<16)then
    M.join (fun st=>
     D.nil st<|
     aK [.int .i64 (af (x5+1))]) fun aC=>
    M.ak (av x5 16)<|
    D.nth (cs.take 16) (x5.toNat*1) fun d4=>
    D.int .i64 d4 fun x6=>
    M.call (c 225 [.bool ((!(x6==0))==(decide (af (x5*16)<x2)))]) fun ds=>
    D.nil ds<|
    bif x6==0 then
     aC []
    else
     M.call (c 228 [.ptr w,.int .i64 x6]) fun ds=>
     J.d ds fun x7 ds=>
     D.nil ds<|
     D.qK M.cC x7 2 fun d5=>
     D.agg d5 fun bw=>
     D.len bw 16<|
     M.join (fun st=>
      D.nil st<|
      aC []) fun aU=>
     M.loop (fun dO st=>
      J.i .i64 st fun x8 st=>
      D.nil st<|
      bif decide (x8<16)then
       M.ak (av x8 16)<|
      D.nth (bw.take 16) (x8.toNat*1) fun d6=>
      D.int .i64 d6 fun x9=>
      M.call (c 225 [.bool ((!(x9==0))==(decide (af ((af (x5*16))+x8)<x2)))]) fun ds=>
      D.nil ds<|
      M.join (fun st=>
       D.nil st<|
      dO [.int .i64 (af (x8+1))]) fun bu=>
      bif !(x9==0)then
       M.call (c 229 [.ptr w,.int .i64 x9,.int .i64 (af ((af ((af (x5*16))+x8))*7))]) fun ds=>
      D.nil ds<|
      bu []
      else
       bu []
      else
       aU []) n [.int .i64 0]
   else
    aq []) n [.int .i64 0]
def GX:Zg->Nat->List DV->M (List DV):=fun c n args=>
 J.i .i64 args fun n1 args=>
 D.nil args<|
 M.call (c 255 [.int .i64 n1]) fun ds=>
 J.b ds fun x ds=>
 D.nil ds<|
 bif !x then
  M.ret [.int .i64 0]
 else
  M.call (c 253 [.int .i64 n1,.int .i64 7]) fun ds=>
  J.i .i64 ds fun x1 ds=>
  D.nil ds<|
  M.ret [.int .i64 x1]
def Gc:Zg->Nat->List DV->M (List DV):=fun c n args=>
 J.p args fun w args=>
 J.i .i64 args fun bE args=>
 D.nil args<|
 M.join (fun st=>J.b st fun b1 st=>D.nil st<|
  M.join (fun st=>J.b st fun b2 st=>D.nil st<|
   M.call (c 225 [.bool b2]) fun ds=>
   D.nil ds<|
   M.nn w fun i o=>
   M.au i (o+10) fun d=>
   D.ptr d fun x=>
   M.new [.int .i64 bE] fun i1=>
   M.call (c 206 [.ptr x,.slice 1 (some (i1,0)) 1]) fun ds=>
   D.nil ds<|
   M.nn w fun i2 o1=>
   M.au i2 o1 fun d1=>
   D.slice 1 d1 fun x1 kY=>
   M.call (c 203 [.slice 1 x1 kY,.int .i64 bE]) fun ds=>
   J.l 1 ds fun x2 dJ ds=>
   D.nil ds<|
   M.call (c 256 [.slice 1 x2 dJ]) fun ds=>
   J.d ds fun x3 ds=>
   D.nil ds<|
   M.ret [x3]) fun aC=>
  bif b1 then
   M.nn w fun i3 o2=>
   M.au i3 (o2+10) fun d2=>
   D.ptr d2 fun x4=>
   M.call (c 184 [.ptr x4,.int .i64 bE]) fun ds=>
   J.b ds fun x5 ds=>
   D.nil ds<|
   aC [.bool (!x5)]
  else
   aC [.bool false]) fun aq=>
 bif decide (bE>=2)then
  M.nn w fun i4 o3=>
  M.au i4 (o3+2) fun d3=>
  D.int .i64 d3 fun x6=>
  aq [.bool (decide (bE<x6))]
 else
  aq [.bool false]
def FZ:Zg->Nat->List DV->M (List DV):=fun c n args=>
 J.p args fun w args=>
 J.i .i64 args fun bE args=>
 J.i .i64 args fun slot args=>
 D.nil args<|
 M.call (c 228 [.ptr w,.int .i64 bE]) fun ds=>
 J.d ds fun x ds=>
 D.nil ds<|
 D.qK M.cC x 5 fun d=>
 D.agg d fun cs=>
 D.len cs 21<|
 M.join (fun st=>
  D.nil st<|
  M.ret []) fun aq=>
 M.loop (fun aK st=>
  J.i .i64 st fun x1 st=>
  D.nil st<|
  bif decide (x1<7)then
   M.join (fun st=>
    D.nil st<|
    aK [.int .i64 (af (x1+1))]) fun aC=>
   M.ak (av x1 7)<|
   D.len (((cs.take 21).drop (x1.toNat*3)).take 3) 3<|
   M.nn w fun i o=>
   M.au i (o+6) fun d1=>
   D.int .i64 d1 fun x2=>
   bif decide (af (slot+x1)>=x2)then
    D.eqs [.bool,.int .i64,.int .i64] (((cs.take 21).drop (x1.toNat*3)).take 3) [.bool false,.int .i64 0,.int .i64 0] fun e=>
    M.call (c 225 [.bool e]) fun ds=>
    D.nil ds<|
    aC []
   else
    D.nth (((cs.take 21).drop (x1.toNat*3)).take 3) 1 fun d2=>
    D.int .i64 d2 fun x3=>
    M.join (fun st=>J.b st fun b1 st=>D.nil st<|
     M.join (fun st=>J.b st fun b2 st=>D.nil st<|
      M.call (c 225 [.bool b2]) fun ds=>
      D.nil ds<|
      M.nn w fun i1 o1=>
      M.au i1 (o1+11) fun d3=>
      D.slice 3 d3 fun x4 cO=>
      D.len (((cs.take 21).drop (x1.toNat*3)).take 3) 3<|
      M.new (((cs.take 21).drop (x1.toNat*3)).take 3) fun i2=>
      M.load i2 0 3 fun bw=>
      M.app 3 x4 cO bw 1 2932031007402 fun p=>
      M.nn w fun i3 o2=>
      M.store i3 (o2+11) [.slice 3 p (cO+1)]<|
      aC []) fun bu=>
     bif b1 then
      D.nth (((cs.take 21).drop (x1.toNat*3)).take 3) 0 fun d4=>
      D.bool d4 fun x5=>
      M.join (fun st=>J.b st fun b3 st=>D.nil st<|
       M.join (fun st=>J.b st fun b4 st=>D.nil st<|
       bu [.bool b4]) fun eS=>
      bif b3 then
       eS [.bool true]
      else
       D.nth (((cs.take 21).drop (x1.toNat*3)).take 3) 2 fun d5=>
      D.int .i64 d5 fun x6=>
      eS [.bool (x6==0)]) fun cm=>
      bif x5 then
       cm [.bool true]
      else
       D.nth (((cs.take 21).drop (x1.toNat*3)).take 3) 1 fun d6=>
      D.int .i64 d6 fun x7=>
      M.nn w fun i4 o3=>
      M.au i4 (o3+4) fun d7=>
      D.int .i64 d7 fun x8=>
      cm [.bool (decide (x7<x8))]
     else
      bu [.bool false]) fun aU=>
    bif decide (x3>=1)then
     D.nth (((cs.take 21).drop (x1.toNat*3)).take 3) 1 fun d8=>
     D.int .i64 d8 fun x9=>
     M.nn w fun i5 o4=>
     M.au i5 (o4+4) fun d9=>
     D.int .i64 d9 fun cV=>
     aU [.bool (decide (x9<=cV))]
    else
     aU [.bool false]
  else
   aq []) n [.int .i64 0]
def F7:Zg->Nat->List DV->M (List DV):=fun c n args=>
 J.p args fun w args=>
 D.nil args<|
 M.nn w fun i o=>
 M.au i (o+6) fun d=>
 D.int .i64 d fun x=>
 M.ak (decide (0<=x)&&decide (x<=x)&&decide (x<=70368744177664))<|
 M.new (fD x.toNat [.bool false]) fun i1=>
 M.nn w fun i2 o1=>
 M.au i2 (o1+7) fun d1=>
 D.int .i64 d1 fun x1=>
 M.join (fun st=>
  D.nil st<|
  M.nn w fun i3 o2=>
  M.au i3 (o2+11) fun d2=>
  D.slice 3 d2 fun x2 dJ=>
  M.join (fun st=>
   D.nil st<|
   M.ret []) fun aC=>
  M.loop (fun aK st=>
   J.i .i64 st fun x3 st=>
   D.nil st<|
   bif decide (x3<(dJ:Int))then
    M.nn x2 fun i4 o3=>
    M.ak (av x3 dJ)<|
    M.load i4 (x3.toNat*3+o3) 3 fun cs=>
    J.b cs fun x4 r=>
    J.i .i64 r fun x5 r=>
    J.i .i64 r fun x6 r=>
    D.nil r<|
    M.join (fun st=>J.b st fun b1 st=>D.nil st<|
     M.join (fun st=>J.b st fun b2 st=>D.nil st<|
      M.call (c 225 [.bool b2]) fun ds=>
      D.nil ds<|
      aK [.int .i64 (af (x3+1))]) fun bu=>
     bif b1 then
      bu [.bool true]
     else
      M.ak (av x3 x.toNat)<|
      M.au i1 (x3.toNat*1) fun d3=>
      D.bool d3 fun x7=>
      bu [.bool x7]) fun aU=>
    bif x4 then
     aU [.bool true]
    else
     M.nn w fun i5 o4=>
     M.au i5 (o4+4) fun d4=>
     D.int .i64 d4 fun x8=>
     aU [.bool (x5==x8)]
   else
    aC []) n [.int .i64 0]) fun aq=>
 M.loop (fun dO st=>
  J.i .i64 st fun next st=>
  D.nil st<|
  bif !(next==0)then
   M.nn w fun i6 o5=>
   M.au i6 (o5+6) fun d5=>
   D.int .i64 d5 fun x9=>
   M.call (c 225 [.bool (decide (next<=x9))]) fun ds=>
   D.nil ds<|
   M.nn w fun i7 o6=>
   M.au i7 (o6+11) fun d6=>
   D.slice 3 d6 fun cV aaM=>
   M.nn cV fun i8 o7=>
   M.ak (av (af (next-1)) aaM)<|
   M.load i8 (((af (next-1)).toNat)*3+o7) 3 fun bw=>
   J.b bw fun eK r=>
   J.i .i64 r fun fk r=>
   J.i .i64 r fun fa r=>
   D.nil r<|
   M.join (fun st=>J.b st fun b3 st=>D.nil st<|
    M.join (fun st=>J.b st fun b4 st=>D.nil st<|
     M.call (c 225 [.bool b4]) fun ds=>
     D.nil ds<|
     M.ak (av (af (next-1)) x.toNat)<|
     M.store i1 (((af (next-1)).toNat)*1) [.bool true]<|
     M.nn w fun i9 o8=>
     M.au i9 (o8+17) fun d7=>
     D.slice 1 d7 fun gS Wq=>
     M.new [.int .i64 (af (next-1))] fun i10=>
     M.load i10 0 1 fun cU=>
     M.app 1 gS Wq cU 1 8796093022208 fun p=>
     M.nn w fun i11 o9=>
     M.store i11 (o9+17) [.slice 1 p (Wq+1)]<|
     dO [.int .i64 fa]) fun eS=>
    bif b3 then
     M.ak (av (af (next-1)) x.toNat)<|
     M.au i1 (((af (next-1)).toNat)*1) fun d8=>
     D.bool d8 fun fb=>
     eS [.bool (!fb)]
    else
     eS [.bool false]) fun cm=>
   bif !eK then
    M.nn w fun i12 o10=>
    M.au i12 (o10+4) fun d9=>
    D.int .i64 d9 fun fI=>
    cm [.bool (decide (fk<fI))]
   else
    cm [.bool false]
  else
   aq []) n [.int .i64 x1]
def Ge:Zg->Nat->List DV->M (List DV):=fun c n args=>
 J.p args fun w args=>
 D.nil args<|
 M.nn w fun i o=>
 M.au i (o+8) fun d=>
 D.int .i64 d fun x=>
 bif x==0 then
  M.ret []
 else
  M.nn w fun i1 o1=>
  M.au i1 (o1+8) fun d1=>
  D.int .i64 d1 fun x1=>
  M.call (c 228 [.ptr w,.int .i64 x1]) fun ds=>
  J.d ds fun x2 ds=>
  D.nil ds<|
  D.qK M.cC x2 3 fun d2=>
  D.agg d2 fun cs=>
  J.l 1 cs fun x3 ec r=>
  D.nil r<|
  M.join (fun st=>
   D.nil st<|
   M.ret []) fun aq=>
  M.loop (fun aK st=>
   J.i .i64 st fun x4 st=>
   D.nil st<|
   bif decide (x4<(ec:Int))then
    M.join (fun st=>
     D.nil st<|
     aK [.int .i64 (af (x4+1))]) fun aC=>
    M.nn x3 fun i2 o2=>
    M.ak (av x4 ec)<|
    M.au i2 (x4.toNat*1+o2) fun d3=>
    D.int .i64 d3 fun x5=>
    M.call (c 228 [.ptr w,.int .i64 x5]) fun ds=>
    J.d ds fun x6 ds=>
    D.nil ds<|
    D.qK M.cC x6 4 fun d4=>
    D.agg d4 fun bw=>
    J.s bw fun x7 r1=>
    J.i .i64 r1 fun x8 r2=>
    D.len r2 12<|
    D.len ((.str x7)::(.int .i64 x8)::r2) 14<|
    M.join (fun st=>J.b st fun b1 st=>D.nil st<|
     M.call (c 225 [.bool b1]) fun ds=>
     D.nil ds<|
     M.join (fun st=>
      J.a st fun cU st=>
      J.s cU fun h r=>
      J.l 4 r fun h1 h1n r=>
      D.nil r<|
      D.nil st<|
      M.call (c 232 [.slice 4 h1 h1n,.func 159 [] []]) fun ds=>
      D.nil ds<|
      M.nn w fun i3 o3=>
      M.au i3 (o3+15) fun d5=>
      D.slice 2 d5 fun x9 Fj=>
      M.new [.str h,.slice 4 h1 h1n] fun i4=>
      M.load i4 0 2 fun fG=>
      M.app 2 x9 Fj fG 1 1759218604441 fun p=>
      M.nn w fun i5 o4=>
      M.store i5 (o4+15) [.slice 2 p (Fj+1)]<|
      aC []) fun bu=>
     M.loop (fun dO st=>
      J.a st fun mH st=>
      J.s mH fun h2 r=>
      J.l 4 r fun h3 uX r=>
      D.nil r<|
      J.i .i64 st fun cV st=>
      D.nil st<|
      bif decide (cV<12)then
       M.ak (av cV 12)<|
      D.nth (r2.take 12) (cV.toNat*1) fun d6=>
      D.int .i64 d6 fun eK=>
      M.join (fun st=>
       J.a st fun nz st=>
      J.s nz fun h4 r=>
      J.l 4 r fun h5 QZ r=>
      D.nil r<|
      D.nil st<|
      dO [.agg [.str h4,.slice 4 h5 QZ],.int .i64 (af (cV+1))]) fun cm=>
      bif !(eK==0)then
       M.call (c 233 [.ptr w,.int .i64 eK,.int .i64 cV]) fun ds=>
      J.l 4 ds fun fk od ds=>
      D.nil ds<|
      M.rd fk (od*4) fun wI=>
      M.app 4 h3 uX wI od 2199023255552 fun p1=>
      cm [.agg [.str h2,.slice 4 p1 (uX+od)]]
      else
       cm [.agg [.str h2,.slice 4 h3 uX]]
      else
       bu [.agg [.str h2,.slice 4 h3 uX]]) n [.agg [.str x7,.slice 0 none 0],.int .i64 0]) fun aU=>
    bif x4==0 then
     aU [.bool true]
    else
     M.nn w fun i6 o5=>
     M.au i6 (o5+15) fun d7=>
     D.slice 2 d7 fun fa aaO=>
     M.nn fa fun i7 o6=>
     M.ak (av (af (x4-1)) aaO)<|
     M.au i7 (((af (x4-1)).toNat)*2+o6) fun d8=>
     D.str d8 fun gS=>
     M.call (c 39 [.str gS,.str x7]) fun ds=>
     J.i .i64 ds fun fb ds=>
     D.nil ds<|
     aU [.bool (decide (fb<0))]
   else
    aq []) n [.int .i64 0]
def F8:Zg->Nat->List DV->M (List DV):=fun c n args=>
 J.p args fun w args=>
 J.i .i64 args fun bE args=>
 J.i .i64 args fun degree args=>
 D.nil args<|
 M.new [.int .i64 bE,.int .i64 degree,.int .i64 0,.int .i64 0,.int .i64 0,.int .i64 0,.bool true] fun i=>
 M.join (fun st=>
  J.l 4 st fun out qc st=>
  D.nil st<|
  M.ret [.slice 4 out qc]) fun aq=>
 M.loop (fun aK st=>
  J.l 4 st fun jU im st=>
  J.l 7 st fun todo xM st=>
  D.nil st<|
  bif decide ((xM:Int)>0)then
   M.join (fun st=>
    J.l 4 st fun zu zw st=>
    J.l 7 st fun T0 T1 st=>
    D.nil st<|
    aK [.slice 4 zu zw,.slice 7 T0 T1]) fun aC=>
   M.nn todo fun i1 o=>
   M.ak (av (af ((xM:Int)-1)) xM)<|
   M.load i1 (((af ((xM:Int)-1)).toNat)*7+o) 7 fun cs=>
   J.i .i64 cs fun x r=>
   J.i .i64 r fun x1 r=>
   J.i .i64 r fun x2 r=>
   J.i .i64 r fun x3 r=>
   J.i .i64 r fun x4 r=>
   J.i .i64 r fun x5 r=>
   J.b r fun x6 r=>
   D.nil r<|
   M.ak (decide (0<=af ((xM:Int)-1))&&decide (af ((xM:Int)-1)<=(xM:Int)))<|
   M.call (c 228 [.ptr w,.int .i64 x]) fun ds=>
   J.d ds fun x7 ds=>
   D.nil ds<|
   D.qK M.cC x7 6 fun d=>
   D.agg d fun bw=>
   J.i .i64 bw fun x8 r=>
   J.i .i64 r fun x9 r=>
   J.i .i64 r fun cV r=>
   J.i .i64 r fun eK r=>
   J.l 1 r fun fk od r=>
   D.nil r<|
   M.join (fun st=>J.b st fun b1 st=>D.nil st<|
    M.call (c 225 [.bool b1]) fun ds=>
    D.nil ds<|
    M.nn w fun i2 o1=>
    M.au i2 (o1+6) fun d1=>
    D.int .i64 d1 fun fa=>
    M.join (fun st=>J.b st fun b2 st=>D.nil st<|
     M.call (c 225 [.bool b2]) fun ds=>
     D.nil ds<|
     M.nn w fun i3 o2=>
     M.au i3 (o2+18) fun d2=>
     D.int .i64 d2 fun gS=>
     M.nn w fun i4 o3=>
     M.store i4 (o3+18) [.int .i64 (af (gS+1))]<|
     M.new [.int .i64 x8,.int .i64 x9,.int .i64 cV,.int .i64 eK] fun i5=>
     M.load i5 0 4 fun cU=>
     M.app 4 jU im cU 1 2199023255552 fun p=>
     M.join (fun st=>
      J.l 7 st fun T2 T3 st=>
      D.nil st<|
      aC [.slice 4 p (im+1),.slice 7 T2 T3]) fun cm=>
     M.loop (fun dO st=>
      J.l 7 st fun Fb zF st=>
      J.i .i64 st fun fb st=>
      D.nil st<|
      bif decide (fb<(od:Int))then
       M.nn fk fun i6 o4=>
      M.ak (av fb od)<|
      M.au i6 (fb.toNat*1+o4) fun d3=>
      D.int .i64 d3 fun fI=>
      M.new [.int .i64 fI,.int .i64 fb,.int .i64 x8,.int .i64 x9,.int .i64 cV,.int .i64 eK,.bool false] fun i7=>
      M.load i7 0 7 fun fG=>
      M.app 7 Fb zF fG 1 1256584717458 fun p1=>
      dO [.slice 7 p1 (zF+1),.int .i64 (af (fb+1))]
      else
       cm [.slice 7 Fb zF]) n [.slice 7 todo ((af ((xM:Int)-1)).toNat),.int .i64 0]) fun bu=>
    bif decide (x8<fa)then
     M.nn w fun i8 o5=>
     M.au i8 (o5+11) fun d4=>
     D.slice 3 d4 fun gp qk=>
     M.nn gp fun i9 o6=>
     M.ak (av x8 qk)<|
     M.load i9 (x8.toNat*3+o6) 3 fun mH=>
     J.b mH fun kX r=>
     J.i .i64 r fun ku r=>
     J.i .i64 r fun lQ r=>
     D.nil r<|
     bu [.bool ((kX==true)&&((ku==x9)&&((lQ==x)&&true)))]
    else
     bu [.bool false]) fun aU=>
   bif (od:Int)==x1 then
    M.join (fun st=>J.b st fun b3 st=>D.nil st<|
     aU [.bool b3]) fun eS=>
    bif x6 then
     eS [.bool true]
    else
     M.call (c 159 [.agg [.int .i64 x2,.int .i64 x3,.int .i64 x4,.int .i64 x5],.agg [.int .i64 x8,.int .i64 x9,.int .i64 cV,.int .i64 eK]]) fun ds=>
     J.i .i64 ds fun oY ds=>
     D.nil ds<|
     eS [.bool (decide (oY<0))]
   else
    aU [.bool false]
  else
   aq [.slice 4 jU im]) n [.slice 0 none 0,.slice 7 (some (i,0)) 1]
def Ga:Zg->Nat->List DV->M (List DV):=fun c n args=>
 J.p args fun w args=>
 D.nil args<|
 M.nn w fun i o=>
 M.au i (o+11) fun d=>
 D.slice 3 d fun x xn=>
 M.join (fun st=>
  J.i .i64 st fun n1 st=>
  D.nil st<|
  M.ret [.int .i64 n1]) fun aq=>
 M.loop (fun aK st=>
  J.i .i64 st fun n2 st=>
  J.i .i64 st fun x1 st=>
  D.nil st<|
  bif decide (x1<(xn:Int))then
   M.nn x fun i1 o1=>
   M.ak (av x1 xn)<|
   M.load i1 (x1.toNat*3+o1) 3 fun cs=>
   J.b cs fun x2 r=>
   J.i .i64 r fun x3 r=>
   J.i .i64 r fun x4 r=>
   D.nil r<|
   M.nn w fun i2 o2=>
   M.au i2 (o2+16) fun d1=>
   D.slice 1 d1 fun x5 gJ=>
   M.new [.int .i64 x3] fun i3=>
   M.load i3 0 1 fun bw=>
   M.app 1 x5 gJ bw 1 8796093022208 fun p=>
   M.nn w fun i4 o3=>
   M.store i4 (o3+16) [.slice 1 p (gJ+1)]<|
   M.join (fun st=>
    J.i .i64 st fun n3 st=>
    D.nil st<|
    aK [.int .i64 n3,.int .i64 (af (x1+1))]) fun aC=>
   bif x2 then
    aC [.int .i64 (af (n2+1))]
   else
    aC [.int .i64 n2]
  else
   aq [.int .i64 n2]) n [.int .i64 0,.int .i64 0]
def ZU:Zg->Nat->List DV->M (List DV):=fun c n args=>
 J.l 4 args fun s1 kT args=>
 J.l 4 args fun s2 nW args=>
 D.nil args<|
 bif !((kT:Int)==(nW:Int))then
  M.ret [.bool false]
 else
  M.join (fun st=>
   D.nil st<|
   M.ret [.bool true]) fun aq=>
  M.loop (fun aK st=>
   J.i .i64 st fun x st=>
   D.nil st<|
   bif decide (x<(kT:Int))then
    M.nn s1 fun i o=>
    M.ak (av x kT)<|
    M.load i (x.toNat*4+o) 4 fun cs=>
    J.i .i64 cs fun x1 r=>
    J.i .i64 r fun x2 r=>
    J.i .i64 r fun x3 r=>
    J.i .i64 r fun x4 r=>
    D.nil r<|
    M.nn s2 fun i1 o1=>
    M.ak (av x nW)<|
    M.load i1 (x.toNat*4+o1) 4 fun bw=>
    J.i .i64 bw fun x5 r=>
    J.i .i64 r fun x6 r=>
    J.i .i64 r fun x7 r=>
    J.i .i64 r fun x8 r=>
    D.nil r<|
    bif !((x1==x5)&&((x2==x6)&&((x3==x7)&&((x4==x8)&&true))))then
     M.ret [.bool false]
    else
     aK [.int .i64 (af (x+1))]
   else
    aq []) n [.int .i64 0]
def Z6:Zg->Nat->List DV->M (List DV):=fun c n args=>
 J.l 1 args fun s1 kT args=>
 J.l 1 args fun s2 nW args=>
 D.nil args<|
 bif !((kT:Int)==(nW:Int))then
  M.ret [.bool false]
 else
  M.join (fun st=>
   D.nil st<|
   M.ret [.bool true]) fun aq=>
  M.loop (fun aK st=>
   J.i .i64 st fun x st=>
   D.nil st<|
   bif decide (x<(kT:Int))then
    M.nn s1 fun i o=>
    M.ak (av x kT)<|
    M.au i (x.toNat*1+o) fun d=>
    D.int .u64 d fun x1=>
    M.nn s2 fun i1 o1=>
    M.ak (av x nW)<|
    M.au i1 (x.toNat*1+o1) fun d1=>
    D.int .u64 d1 fun x2=>
    bif !(x1==x2)then
     M.ret [.bool false]
    else
     aK [.int .i64 (af (x+1))]
   else
    aq []) n [.int .i64 0]
def Hs:Zg->Nat->List DV->M (List DV):=fun c n args=>
 J.l 1 args fun b1 bM args=>
 D.nil args<|
 M.base fun b0=>
 M.call (c 259 [.slice 1 b1 bM]) fun ds=>
 J.b ds fun x ds=>
 D.nil ds<|
 bif !x then
  M.gR b0 [.int .i64 0,.int .i64 0,.slice 0 none 0,.bool false]
 else
  M.nn b1 fun i o=>
  M.ak (av 4 bM)<|
  M.au i (4+o) fun d=>
  D.int .u8 d fun x1=>
  M.nn b1 fun i1 o1=>
  M.ak (av 5 bM)<|
  M.au i1 (5+o1) fun d1=>
  D.int .u8 d1 fun x2=>
  M.ak (decide ((8:Int)<=(bM:Int)))<|
  M.dW (c 260 [.slice 1 (cy true b1 8) (bM-8)]) fun ds=>
  J.l 1 ds fun x3 ec ds=>
  D.nil ds<|
  M.gR b0 [.int .i64 (af (x1)),.int .i64 (af (x2)),.slice 1 x3 ec,.bool true]
def Gu:Zg->Nat->List DV->M (List DV):=fun c n args=>
 J.l 1 args fun b1 bM args=>
 J.i .i64 args fun bE args=>
 J.i .i64 args fun n1 args=>
 D.nil args<|
 M.call (c 261 [.slice 1 b1 bM,.int .i64 bE,.int .i64 n1]) fun ds=>
 J.b ds fun x ds=>
 D.nil ds<|
 bif !x then
  M.ret [.bool false]
 else
  M.ak (decide (0<=af (bE+n1))&&decide (af (bE+n1)<=(bM:Int)))<|
  M.ak (decide (0<=bE)&&decide (bE<=(((af (bE+n1)).toNat:Nat):Int)))<|
  M.join (fun st=>
   D.nil st<|
   M.ret [.bool true]) fun aq=>
  M.loop (fun aK st=>
   J.i .i64 st fun x1 st=>
   D.nil st<|
   bif decide (x1<((((af (bE+n1)).toNat)-bE.toNat:Nat):Int))then
    M.nn (cy true b1 (bE.toNat*1)) fun i o=>
    M.ak (av x1 (((af (bE+n1)).toNat)-bE.toNat))<|
    M.au i (x1.toNat*1+o) fun d=>
    D.int .u8 d fun x2=>
    bif !(x2==0)then
     M.ret [.bool false]
    else
     aK [.int .i64 (af (x1+1))]
   else
    aq []) n [.int .i64 0]
def Hx:Zg->Nat->List DV->M (List DV):=fun c n args=>
 J.a args fun cs args=>
 J.i .i64 cs fun c1 r1=>
 D.len r1 48<|
 D.nil args<|
 M.base fun b0=>
 D.len ((.int .i64 c1)::r1) 49<|
 M.join (fun st=>
  J.l 1 st fun out qc st=>
  D.nil st<|
  M.gR b0 [.slice 1 out qc]) fun aq=>
 M.loop (fun aK st=>
  J.l 1 st fun jU im st=>
  J.i .i64 st fun x st=>
  D.nil st<|
  bif decide (x<384)then
   M.call (c 262 [.agg ((.int .i64 c1)::r1),.int .i64 (af ((af (c1*384))+x))]) fun ds=>
   J.b ds fun x1 ds=>
   D.nil ds<|
   M.join (fun st=>
    J.l 1 st fun zu zw st=>
    D.nil st<|
    aK [.slice 1 zu zw,.int .i64 (af (x+1))]) fun aC=>
   bif x1 then
    M.new [.int .i64 (af ((af (c1*384))+x))] fun i=>
    M.load i 0 1 fun bw=>
    M.app 1 jU im bw 1 8796093022208 fun p=>
    aC [.slice 1 p (im+1)]
   else
    aC [.slice 1 jU im]
  else
   aq [.slice 1 jU im]) n [.slice 0 none 0,.int .i64 0]
def MZ:Zg->Nat->List DV->M (List DV):=fun c n args=>
 J.i .i64 args fun n1 args=>
 D.nil args<|
 M.ret [.int .i64 (af ((af ((af (n1+384))-1)).tdiv 384))]
def GC:Zg->Nat->List DV->M (List DV):=fun c n args=>
 J.p args fun s args=>
 D.nil args<|
 M.nn s fun i o=>
 M.au i o fun d=>
 D.int .i64 d fun x=>
 M.nn s fun i1 o1=>
 M.au i1 (o1+1) fun d1=>
 D.slice 1 d1 fun x1 kY=>
 M.dW (c 263 [.slice 1 x1 kY]) fun ds=>
 J.l 1 ds fun x2 dJ ds=>
 D.nil ds<|
 M.new [.int .i64 x,.slice 1 x2 dJ] fun i2=>
 M.ret [.ptr (some (i2,0))]
def Iq:Zg->Nat->List DV->M (List DV):=fun c n args=>
 J.l 1 args fun b1 bM args=>
 D.nil args<|
 M.join (fun st=>
  J.i .u32 st fun x st=>
  D.nil st<|
  M.ret [.int .u32 (IntKind.wrap .u32 (4294967295-x))]) fun aq=>
 M.loop (fun aK st=>
  J.i .u32 st fun x1 st=>
  J.i .i64 st fun i st=>
  D.nil st<|
  bif decide (i<(bM:Int))then
   M.nn b1 fun i1 o=>
   M.ak (av i bM)<|
   M.au i1 (i.toNat*1+o) fun d=>
   D.int .u8 d fun x2=>
   M.call (c 264 [.int .u32 (bits .xor .u32 x1 (IntKind.wrap .u32 (x2))),.int .i64 8]) fun ds=>
   J.i .u32 ds fun x3 ds=>
   D.nil ds<|
   aK [.int .u32 x3,.int .i64 (af (i+1))]
  else
   aq [.int .u32 x1]) n [.int .u32 4294967295,.int .i64 0]
def GL:Zg->Nat->List DV->M (List DV):=fun c n args=>
 J.i .u64 args fun v args=>
 J.i .i64 args fun i args=>
 D.nil args<|
 M.join (fun st=>
  J.i .u64 st fun v1 st=>
  D.nil st<|
  M.ret [.int .u8 (IntKind.wrap .u8 (v1.tmod 256))]) fun aq=>
 M.loop (fun aK st=>
  J.i .u64 st fun v2 st=>
  J.i .i64 st fun k st=>
  D.nil st<|
  bif decide (k<i)then
   aK [.int .u64 (IntKind.wrap .u64 (v2.tdiv 256)),.int .i64 (af (k+1))]
  else
   aq [.int .u64 v2]) n [.int .u64 v,.int .i64 0]
def Hr:Zg->Nat->List DV->M (List DV):=fun c n args=>
 J.s args fun s args=>
 J.i .i64 args fun n1 args=>
 D.nil args<|
 M.ak (decide (0<=(if (af (n1-(s.length:Int)))<0 then 0 else(af (n1-(s.length:Int)))))&&decide ((if (af (n1-(s.length:Int)))<0 then 0 else(af (n1-(s.length:Int))))<=(if (af (n1-(s.length:Int)))<0 then 0 else(af (n1-(s.length:Int)))))&&decide ((if (af (n1-(s.length:Int)))<0 then 0 else(af (n1-(s.length:Int))))<=70368744177664))<|
 M.new (fD ((if (af (n1-(s.length:Int)))<0 then 0 else(af (n1-(s.length:Int)))).toNat) [.int .u8 0]) fun i=>
 M.load i 0 ((if (af (n1-(s.length:Int)))<0 then 0 else(af (n1-(s.length:Int)))).toNat) fun cs=>
 D.bT cs fun l=>
 M.ak (Nat.ble (s.length+l.length) 4611686018427387904)<|
 M.ret [.str (s++l)]
def Iu:Zg->Nat->List DV->M (List DV):=fun c n args=>
 J.a args fun cs args=>
 J.i .i64 cs fun n1 r=>
 J.i .i64 r fun n2 r=>
 J.i .i64 r fun n3 r=>
 J.i .i64 r fun n4 r=>
 J.l 1 r fun n5 sy r=>
 D.nil r<|
 D.nil args<|
 M.dW (c 213 [.int .u64 (IntKind.wrap .u64 (n3)),.int .i64 8]) fun ds=>
 J.s ds fun x ds=>
 D.nil ds<|
 M.dW (c 213 [.int .u64 (IntKind.wrap .u64 (n4)),.int .i64 8]) fun ds=>
 J.s ds fun x1 ds=>
 D.nil ds<|
 M.ak (Nat.ble (x.length+x1.length) 4611686018427387904)<|
 M.dW (c 213 [.int .u64 (IntKind.wrap .u64 (n1)),.int .i64 4]) fun ds=>
 J.s ds fun x2 ds=>
 D.nil ds<|
 M.ak (Nat.ble ((x++x1).length+x2.length) 4611686018427387904)<|
 M.fW (c 213 [.int .u64 (IntKind.wrap .u64 (n2)),.int .i64 4]) fun ds=>
 J.s ds fun x3 ds=>
 D.nil ds<|
 M.ak (Nat.ble (((x++x1)++x2).length+x3.length) 4611686018427387904)<|
 M.join (fun st=>
  J.s st fun s st=>
  D.nil st<|
  M.call (c 214 [.int .i64 1,.int .i64 (sy:Int),.str s]) fun ds=>
  J.s ds fun x4 ds=>
  D.nil ds<|
  M.ret [.str x4]) fun aq=>
 M.loop (fun aK st=>
  J.s st fun s1 st=>
  J.i .i64 st fun i st=>
  D.nil st<|
  bif decide (i<(sy:Int))then
   M.nn n5 fun i1 o=>
   M.ak (av i sy)<|
   M.au i1 (i.toNat*1+o) fun d=>
   D.int .i64 d fun x5=>
   M.call (c 213 [.int .u64 (IntKind.wrap .u64 (x5)),.int .i64 2]) fun ds=>
   J.s ds fun x6 ds=>
   D.nil ds<|
   M.ak (Nat.ble (s1.length+x6.length) 4611686018427387904)<|
   aK [.str (s1++x6),.int .i64 (af (i+1))]
  else
   aq [.str s1]) n [.str (((x++x1)++x2)++x3),.int .i64 0]
def GG:Zg->Nat->List DV->M (List DV):=fun c n args=>
 J.i .i64 args fun n1 args=>
 D.nil args<|
 M.join (fun st=>J.b st fun b1 st=>D.nil st<|
  M.ret [.bool b1]) fun aq=>
 bif decide (n1>=2)then
  aq [.bool (decide (n1<=3071))]
 else
  aq [.bool false]
def Hn:Zg->Nat->List DV->M (List DV):=fun c n args=>
 J.a args fun cs args=>
 J.b cs fun x r=>
 J.i .i64 r fun x1 r=>
 J.i .i64 r fun x2 r=>
 D.nil r<|
 D.nil args<|
 M.join (fun st=>J.b st fun b1 st=>D.nil st<|
  bif b1 then
   M.ret [.bool false]
  else
   bif x then
    M.join (fun st=>J.b st fun b2 st=>D.nil st<|
     M.ret [.bool b2]) fun aC=>
    bif decide (x1>0)then
     M.call (c 251 [.int .i64 x2]) fun ds=>
     J.b ds fun x3 ds=>
     D.nil ds<|
     aC [.bool x3]
    else
     aC [.bool false]
   else
    M.join (fun st=>J.b st fun b3 st=>D.nil st<|
     M.join (fun st=>J.b st fun b4 st=>D.nil st<|
      M.ret [.bool b4]) fun bu=>
     bif b3 then
      M.join (fun st=>J.b st fun b5 st=>D.nil st<|
       bu [.bool b5]) fun cm=>
      bif !(x1==0)then
       cm [.bool true]
      else
       cm [.bool (x2==0)]
     else
      bu [.bool false]) fun aU=>
    bif decide (x2>=0)then
     aU [.bool (decide (x2<=1792))]
    else
     aU [.bool false]) fun aq=>
 bif decide (x1<0)then
  aq [.bool true]
 else
  aq [.bool (decide (x1>4294967295))]
def IU:Zg->Nat->List DV->M (List DV):=fun c n args=>
 J.i .i64 args fun n1 args=>
 J.i .i64 args fun QJ args=>
 D.nil args<|
 M.ak (!(QJ==0))<|
 M.ret [.int .i64 (af ((af ((af (n1+QJ))-1)).tdiv QJ))]
def FO:Zg->Nat->List DV->M (List DV):=fun c n args=>
 J.l 1 args fun s sn args=>
 J.i .i64 args fun v args=>
 D.nil args<|
 M.join (fun st=>
  D.nil st<|
  M.ret [.int .i64 (-1)]) fun aq=>
 M.loop (fun aK st=>
  J.i .i64 st fun x st=>
  D.nil st<|
  bif decide (x<(sn:Int))then
   M.nn s fun i o=>
   M.ak (av x sn)<|
   M.au i (x.toNat*1+o) fun d=>
   D.int .i64 d fun x1=>
   bif v==x1 then
    M.ret [.int .i64 x]
   else
    aK [.int .i64 (af (x+1))]
  else
   aq []) n [.int .i64 0]
def Hp:Zg->Nat->List DV->M (List DV):=fun c n args=>
 J.i .i64 args fun n1 args=>
 D.nil args<|
 M.join (fun st=>J.b st fun b1 st=>D.nil st<|
  M.ret [.bool b1]) fun aq=>
 bif decide (n1>=0)then
  aq [.bool (decide (n1<=1792))]
 else
  aq [.bool false]
def Hz:Zg->Nat->List DV->M (List DV):=fun c n args=>
 J.l 1 args fun b1 bM args=>
 D.nil args<|
 M.call (c 272 [.slice 1 b1 bM]) fun ds=>
 J.a ds fun cs ds=>
 J.i .i64 cs fun x r=>
 J.i .i64 r fun x1 r=>
 J.i .i64 r fun x2 r=>
 J.i .i64 r fun x3 r=>
 J.l 1 r fun x4 cO r=>
 D.nil r<|
 J.b ds fun x5 ds=>
 D.nil ds<|
 bif x5 then
  M.ret [.iface 6 (.agg [.int .i64 x,.int .i64 x1,.int .i64 x2,.int .i64 x3,.slice 1 x4 cO])]
 else
  M.call (c 273 [.slice 1 b1 bM]) fun ds=>
  J.a ds fun bw ds=>
  D.len bw 21<|
  J.b ds fun x6 ds=>
  D.nil ds<|
  D.len bw 21<|
  bif x6 then
   M.ret [.iface 5 (.agg bw)]
  else
   M.call (c 274 [.slice 1 b1 bM]) fun ds=>
   J.a ds fun cU ds=>
   D.len cU 16<|
   J.b ds fun x7 ds=>
   D.nil ds<|
   D.len cU 16<|
   bif x7 then
    M.ret [.iface 2 (.agg cU)]
   else
    M.call (c 275 [.slice 1 b1 bM]) fun ds=>
    J.a ds fun fG ds=>
    J.s fG fun x8 r1=>
    J.i .i64 r1 fun x9 r2=>
    D.len r2 12<|
    J.b ds fun cV ds=>
    D.nil ds<|
    D.len ((.str x8)::(.int .i64 x9)::r2) 14<|
    bif cV then
     M.ret [.iface 4 (.agg ((.str x8)::(.int .i64 x9)::r2))]
    else
     M.call (c 276 [.slice 1 b1 bM]) fun ds=>
     J.a ds fun mH ds=>
     J.l 1 mH fun eK aaN r=>
     D.nil r<|
     J.b ds fun fk ds=>
     D.nil ds<|
     bif fk then
      M.ret [.iface 3 (.agg [.slice 1 eK aaN])]
     else
      M.ret [.nilIface]
def HC:Zg->Nat->List DV->M (List DV):=fun c n args=>
 J.l 1 args fun b1 bM args=>
 D.nil args<|
 M.join (fun st=>J.b st fun b2 st=>D.nil st<|
  M.join (fun st=>J.b st fun b3 st=>D.nil st<|
   M.join (fun st=>J.b st fun b4 st=>D.nil st<|
    M.ret [.bool b4]) fun aU=>
   bif b3 then
    M.ak (decide ((4:Int)<=(bM:Int)))<|
    M.dW (c 285 [.slice 1 b1 4]) fun ds=>
    J.i .u64 ds fun x ds=>
    D.nil ds<|
    M.ak (decide ((4:Int)<=(bM:Int)))<|
    M.new [.slice 1 (cy true b1 4) (bM-4)] fun i=>
    M.call (c 286 [.int .u32 (IntKind.wrap .u32 (x)),.slice 1 (some (i,0)) 1]) fun ds=>
    J.b ds fun x1 ds=>
    D.nil ds<|
    aU [.bool x1]
   else
    aU [.bool false]) fun aC=>
  bif b2 then
   M.call (c 238 [.slice 1 b1 bM,.int .i64 6,.int .i64 2]) fun ds=>
   J.b ds fun x2 ds=>
   D.nil ds<|
   aC [.bool x2]
  else
   aC [.bool false]) fun aq=>
 bif (bM:Int)==64 then
  M.nn b1 fun i1 o=>
  M.ak (av 4 bM)<|
  M.au i1 (4+o) fun d=>
  D.int .u8 d fun x3=>
  aq [.bool (!(x3==0))]
 else
  aq [.bool false]
def HI:Zg->Nat->List DV->M (List DV):=fun c n args=>
 J.l 1 args fun b1 bM args=>
 D.nil args<|
 M.base fun b0=>
 bif b1.isNone then
  M.gR b0 [.slice 0 none 0]
 else
  M.new [] fun i=>
  M.rd b1 (bM*1) fun cs=>
  M.app 1 (some (i,0)) 0 cs bM 70368744177664 fun p=>
  M.gR b0 [.slice 1 p (0+bM)]
def GM:Zg->Nat->List DV->M (List DV):=fun c n args=>
 J.l 1 args fun b1 bM args=>
 J.i .i64 args fun bE args=>
 J.i .i64 args fun n1 args=>
 D.nil args<|
 M.join (fun st=>J.b st fun b2 st=>D.nil st<|
  M.join (fun st=>J.b st fun b3 st=>D.nil st<|
   M.join (fun st=>J.b st fun b4 st=>D.nil st<|
    M.ret [.bool b4]) fun aU=>
   bif b3 then
    aU [.bool (decide (bE<=af ((bM:Int)-n1)))]
   else
    aU [.bool false]) fun aC=>
  bif b2 then
   aC [.bool (decide (n1<=(bM:Int)))]
  else
   aC [.bool false]) fun aq=>
 bif decide (bE>=0)then
  aq [.bool (decide (n1>=0))]
 else
  aq [.bool false]
def Ik:Zg->Nat->List DV->M (List DV):=fun c n args=>
 J.a args fun cs args=>
 J.i .i64 cs fun c1 r1=>
 D.len r1 48<|
 J.i .i64 args fun bE args=>
 D.nil args<|
 D.len ((.int .i64 c1)::r1) 49<|
 M.call (c 287 [.agg ((.int .i64 c1)::r1),.int .i64 bE]) fun ds=>
 J.i .i64 ds fun x ds=>
 J.i .u8 ds fun x1 ds=>
 J.b ds fun x2 ds=>
 D.nil ds<|
 M.join (fun st=>J.b st fun b1 st=>D.nil st<|
  M.ret [.bool b1]) fun aq=>
 bif x2 then
  M.ak (av x 48)<|
  D.nth r1 (x.toNat*1) fun d=>
  D.int .u8 d fun x3=>
  aq [.bool (!((bits .and .u8 x3 x1)==0))]
 else
  aq [.bool false]
def Z9:Zg->Nat->List DV->M (List DV):=fun c n args=>
 J.l 1 args fun s sn args=>
 D.nil args<|
 bif s.isNone then
  M.ret [.slice 0 none 0]
 else
  M.new [] fun i=>
  M.rd s (sn*1) fun cs=>
  M.app 1 (some (i,0)) 0 cs sn 8796093022208 fun p=>
  M.ret [.slice 1 p (0+sn)]
def GV:Zg->Nat->List DV->M (List DV):=fun c n args=>
 J.i .u32 args fun x args=>
 J.i .i64 args fun n1 args=>
 D.nil args<|
 M.join (fun st=>
  J.i .u32 st fun x1 st=>
  D.nil st<|
  M.ret [.int .u32 x1]) fun aq=>
 M.loop (fun aK st=>
  J.i .u32 st fun x2 st=>
  J.i .i64 st fun i st=>
  D.nil st<|
  bif decide (i<n1)then
   M.call (c 288 [.int .u32 x2]) fun ds=>
   J.i .u32 ds fun x3 ds=>
   D.nil ds<|
   aK [.int .u32 x3,.int .i64 (af (i+1))]
  else
   aq [.int .u32 x2]) n [.int .u32 x,.int .i64 0]
def IF:Zg->Nat->List DV->M (List DV):=fun c n args=>
 J.l 1 args fun b1 bM args=>
 D.nil args<|
 M.base fun b0=>
 M.call (c 237 [.slice 1 b1 bM]) fun ds=>
 J.i .i64 ds fun x ds=>
 J.i .i64 ds fun x1 ds=>
 J.l 1 ds fun x2 dJ ds=>
 J.b ds fun x3 ds=>
 D.nil ds<|
 M.join (fun st=>J.b st fun b2 st=>D.nil st<|
  M.join (fun st=>J.b st fun b3 st=>D.nil st<|
   bif b3 then
    M.gR b0 [.agg [.int .i64 0,.int .i64 0,.int .i64 0,.int .i64 0,.slice 0 none 0],.bool false]
   else
    M.call (c 295 [.slice 1 x2 dJ,.int .i64 16,.int .i64 4]) fun ds=>
    J.i .i64 ds fun x4 ds=>
    D.nil ds<|
    M.call (c 295 [.slice 1 x2 dJ,.int .i64 20,.int .i64 4]) fun ds=>
    J.i .i64 ds fun x5 ds=>
    D.nil ds<|
    M.call (c 295 [.slice 1 x2 dJ,.int .i64 0,.int .i64 8]) fun ds=>
    J.i .i64 ds fun x6 ds=>
    D.nil ds<|
    M.call (c 295 [.slice 1 x2 dJ,.int .i64 8,.int .i64 8]) fun ds=>
    J.i .i64 ds fun x7 ds=>
    D.nil ds<|
    M.join (fun st=>
     J.a st fun cs st=>
     J.i .i64 cs fun n1 r=>
     J.i .i64 r fun n2 r=>
     J.i .i64 r fun n3 r=>
     J.i .i64 r fun n4 r=>
     J.l 1 r fun n5 sy r=>
     D.nil r<|
     D.nil st<|
     M.call (c 296 [.agg [.int .i64 n1,.int .i64 n2,.int .i64 n3,.int .i64 n4,.slice 1 n5 sy]]) fun ds=>
     J.b ds fun x8 ds=>
     D.nil ds<|
     M.join (fun st=>J.b st fun b4 st=>D.nil st<|
      bif b4 then
       M.gR b0 [.agg [.int .i64 0,.int .i64 0,.int .i64 0,.int .i64 0,.slice 0 none 0],.bool false]
      else
       M.gR b0 [.agg [.int .i64 n1,.int .i64 n2,.int .i64 n3,.int .i64 n4,.slice 1 n5 sy],.bool true]) fun bu=>
     bif !x8 then
      bu [.bool true]
     else
      M.call (c 238 [.slice 1 x2 dJ,.int .i64 (af (24+(af (2*x1)))),.int .i64 (af ((dJ:Int)-(af (24+(af (2*x1))))))]) fun ds=>
      J.b ds fun x9 ds=>
      D.nil ds<|
      bu [.bool (!x9)]) fun aU=>
    M.loop (fun aK st=>
     J.a st fun bw st=>
     J.i .i64 bw fun n6 r=>
     J.i .i64 r fun n7 r=>
     J.i .i64 r fun n8 r=>
     J.i .i64 r fun n9 r=>
     J.l 1 r fun n10 zp r=>
     D.nil r<|
     J.i .i64 st fun cV st=>
     D.nil st<|
     bif decide (cV<x1)then
      M.fW (c 295 [.slice 1 x2 dJ,.int .i64 (af (24+(af (2*cV)))),.int .i64 2]) fun ds=>
      J.i .i64 ds fun eK ds=>
      D.nil ds<|
      M.new [.int .i64 eK] fun i=>
      M.load i 0 1 fun cU=>
      M.app 1 n10 zp cU 1 8796093022208 fun p=>
      aK [.agg [.int .i64 n6,.int .i64 n7,.int .i64 n8,.int .i64 n9,.slice 1 p (zp+1)],.int .i64 (af (cV+1))]
     else
      aU [.agg [.int .i64 n6,.int .i64 n7,.int .i64 n8,.int .i64 n9,.slice 1 n10 zp]]) n [.agg [.int .i64 x4,.int .i64 x5,.int .i64 x6,.int .i64 x7,.slice 0 none 0],.int .i64 0]) fun aC=>
  bif b2 then
   aC [.bool true]
  else
   aC [.bool (decide (x1>12))]) fun aq=>
 bif !x3 then
  aq [.bool true]
 else
  aq [.bool (!(x==1))]
def Hg:Zg->Nat->List DV->M (List DV):=fun c n args=>
 J.l 1 args fun b1 bM args=>
 D.nil args<|
 M.call (c 237 [.slice 1 b1 bM]) fun ds=>
 J.i .i64 ds fun x ds=>
 J.i .i64 ds fun x1 ds=>
 J.l 1 ds fun x2 dJ ds=>
 J.b ds fun x3 ds=>
 D.nil ds<|
 M.join (fun st=>J.b st fun b2 st=>D.nil st<|
  M.join (fun st=>J.b st fun b3 st=>D.nil st<|
   bif b3 then
    M.ret [.agg [.bool false,.int .i64 0,.int .i64 0,.bool false,.int .i64 0,.int .i64 0,.bool false,.int .i64 0,.int .i64 0,.bool false,.int .i64 0,.int .i64 0,.bool false,.int .i64 0,.int .i64 0,.bool false,.int .i64 0,.int .i64 0,.bool false,.int .i64 0,.int .i64 0],.bool false]
   else
    M.join (fun st=>
     J.a st fun cs st=>
     D.len cs 21<|
     J.a st fun bw st=>
     D.len bw 21<|
     D.nil st<|
     D.len bw 21<|
     M.ret [.agg bw,.bool true]) fun aU=>
    M.loop (fun aK st=>
     J.a st fun cU st=>
     D.len cU 21<|
     J.a st fun fG st=>
     D.len fG 21<|
     J.i .i64 st fun x4 st=>
     D.nil st<|
     bif decide (x4<7)then
      M.ak (decide (0<=af (8*(af (x4+1))))&&decide (af (8*(af (x4+1)))<=(dJ:Int)))<|
      M.ak (decide (0<=af (8*x4))&&decide (af (8*x4)<=(((af (8*(af (x4+1)))).toNat:Nat):Int)))<|
      M.ak (decide (0<=x4))<|
      M.ak (decide ((4:Int)<=((((af (8*(af (x4+1)))).toNat)-((af (8*x4)).toNat):Nat):Int)))<|
      M.dW (c 285 [.slice 1 (cy true x2 (((af (8*x4)).toNat)*1)) 4]) fun ds=>
      J.i .u64 ds fun x5 ds=>
      D.nil ds<|
      M.ak (decide ((4:Int)<=((((af (8*(af (x4+1)))).toNat)-((af (8*x4)).toNat):Nat):Int)))<|
      M.dW (c 285 [.slice 1 (cy true (cy true x2 (((af (8*x4)).toNat)*1)) 4) ((((af (8*(af (x4+1)))).toNat)-((af (8*x4)).toNat))-4)]) fun ds=>
      J.i .u64 ds fun x6 ds=>
      D.nil ds<|
      M.call (c 297 [.agg [.bool ((bits .and .i64 (x1.fdiv (2^(min x4.toNat 64))) 1)==1),.int .i64 (af (x5)),.int .i64 (af (x6))]]) fun ds=>
      J.b ds fun x7 ds=>
      D.nil ds<|
      bif !x7 then
       M.ret [.agg [.bool false,.int .i64 0,.int .i64 0,.bool false,.int .i64 0,.int .i64 0,.bool false,.int .i64 0,.int .i64 0,.bool false,.int .i64 0,.int .i64 0,.bool false,.int .i64 0,.int .i64 0,.bool false,.int .i64 0,.int .i64 0,.bool false,.int .i64 0,.int .i64 0],.bool false]
      else
       M.ak (av x4 7)<|
      M.ak (Nat.ble (x4.toNat*3+3) 21)<|
      aK [.agg cU,.agg (bC fG (x4.toNat*3) [.bool ((bits .and .i64 (x1.fdiv (2^(min x4.toNat 64))) 1)==1),.int .i64 (af (x5)),.int .i64 (af (x6))]),.int .i64 (af (x4+1))]
     else
      aU [.agg cU,.agg fG]) n [.agg [.bool false,.int .i64 0,.int .i64 0,.bool false,.int .i64 0,.int .i64 0,.bool false,.int .i64 0,.int .i64 0,.bool false,.int .i64 0,.int .i64 0,.bool false,.int .i64 0,.int .i64 0,.bool false,.int .i64 0,.int .i64 0,.bool false,.int .i64 0,.int .i64 0],.agg [.bool false,.int .i64 0,.int .i64 0,.bool false,.int .i64 0,.int .i64 0,.bool false,.int .i64 0,.int .i64 0,.bool false,.int .i64 0,.int .i64 0,.bool false,.int .i64 0,.int .i64 0,.bool false,.int .i64 0,.int .i64 0,.bool false,.int .i64 0,.int .i64 0],.int .i64 0]) fun aC=>
  bif b2 then
   aC [.bool true]
  else
   aC [.bool (decide (x1>=128))]) fun aq=>
 bif !x3 then
  aq [.bool true]
 else
  aq [.bool (!(x==2))]
def HF:Zg->Nat->List DV->M (List DV):=fun c n args=>
 J.l 1 args fun b1 bM args=>
 D.nil args<|
 M.call (c 237 [.slice 1 b1 bM]) fun ds=>
 J.i .i64 ds fun x ds=>
 J.i .i64 ds fun x1 ds=>
 J.l 1 ds fun x2 dJ ds=>
 J.b ds fun x3 ds=>
 D.nil ds<|
 M.join (fun st=>J.b st fun b2 st=>D.nil st<|
  M.join (fun st=>J.b st fun b3 st=>D.nil st<|
   M.join (fun st=>J.b st fun b4 st=>D.nil st<|
    bif b4 then
     M.ret [.agg (List.replicate 16 (.int .i64 0)),.bool false]
    else
     M.join (fun st=>
      J.a st fun cs st=>
      D.len cs 16<|
      D.nil st<|
      M.call (c 298 [.agg cs]) fun ds=>
      J.b ds fun x4 ds=>
      D.nil ds<|
      bif !x4 then
       M.ret [.agg (List.replicate 16 (.int .i64 0)),.bool false]
      else
       D.len cs 16<|
      M.ret [.agg cs,.bool true]) fun bu=>
     M.loop (fun aK st=>
      J.a st fun bw st=>
      D.len bw 16<|
      J.i .i64 st fun x5 st=>
      D.nil st<|
      bif decide (x5<16)then
       M.ak (decide (0<=af (2*(af (x5+1))))&&decide (af (2*(af (x5+1)))<=(dJ:Int)))<|
      M.ak (decide (0<=af (2*x5))&&decide (af (2*x5)<=(((af (2*(af (x5+1)))).toNat:Nat):Int)))<|
      M.call (c 285 [.slice 1 (cy true x2 (((af (2*x5)).toNat)*1)) (((af (2*(af (x5+1)))).toNat)-((af (2*x5)).toNat))]) fun ds=>
      J.i .u64 ds fun x6 ds=>
      D.nil ds<|
      M.ak (av x5 16)<|
      M.ak (Nat.ble (x5.toNat*1+1) 16)<|
      aK [.agg (bC bw (x5.toNat*1) [.int .i64 (af (x6))]),.int .i64 (af (x5+1))]
      else
       bu [.agg bw]) n [.agg (List.replicate 16 (.int .i64 0)),.int .i64 0]) fun aU=>
   bif b3 then
    aU [.bool true]
   else
    M.call (c 238 [.slice 1 x2 dJ,.int .i64 32,.int .i64 (af ((dJ:Int)-32))]) fun ds=>
    J.b ds fun x7 ds=>
    D.nil ds<|
    aU [.bool (!x7)]) fun aC=>
  bif b2 then
   aC [.bool true]
  else
   aC [.bool (!(x1==0))]) fun aq=>
 bif !x3 then
  aq [.bool true]
 else
  aq [.bool (!(x==3))]
def GA:Zg->Nat->List DV->M (List DV):=fun c n args=>
 J.l 1 args fun b1 bM args=>
 D.nil args<|
 M.call (c 237 [.slice 1 b1 bM]) fun ds=>
 J.i .i64 ds fun x ds=>
 J.i .i64 ds fun x1 ds=>
 J.l 1 ds fun x2 dJ ds=>
 J.b ds fun x3 ds=>
 D.nil ds<|
 M.join (fun st=>J.b st fun b2 st=>D.nil st<|
  M.join (fun st=>J.b st fun b3 st=>D.nil st<|
   M.join (fun st=>J.b st fun b4 st=>D.nil st<|
    bif b4 then
     M.ret [.agg [.str (bs []),.int .i64 0,.int .i64 0,.int .i64 0,.int .i64 0,.int .i64 0,.int .i64 0,.int .i64 0,.int .i64 0,.int .i64 0,.int .i64 0,.int .i64 0,.int .i64 0,.int .i64 0],.bool false]
    else
     M.ak (decide (0<=af (28+x1))&&decide (af (28+x1)<=(dJ:Int)))<|
     M.ak (decide ((28:Int)<=(((af (28+x1)).toNat:Nat):Int)))<|
     M.rd (cy true x2 28) (((af (28+x1)).toNat)-28) fun cs=>
     D.bT cs fun l=>
     M.ak (decide ((4:Int)<=(dJ:Int)))<|
     M.dW (c 285 [.slice 1 x2 4]) fun ds=>
     J.i .u64 ds fun x4 ds=>
     D.nil ds<|
     M.join (fun st=>
      J.a st fun bw st=>
      J.s bw fun q r1=>
      J.i .i64 r1 fun q1 r2=>
      D.len r2 12<|
      D.nil st<|
      M.call (c 299 [.agg ((.str q)::(.int .i64 q1)::r2)]) fun ds=>
      J.b ds fun x5 ds=>
      D.nil ds<|
      bif !x5 then
       M.ret [.agg [.str (bs []),.int .i64 0,.int .i64 0,.int .i64 0,.int .i64 0,.int .i64 0,.int .i64 0,.int .i64 0,.int .i64 0,.int .i64 0,.int .i64 0,.int .i64 0,.int .i64 0,.int .i64 0],.bool false]
      else
       D.len ((.str q)::(.int .i64 q1)::r2) 14<|
      M.ret [.agg ((.str q)::(.int .i64 q1)::r2),.bool true]) fun bu=>
     M.loop (fun aK st=>
      J.a st fun cU st=>
      J.s cU fun q2 r3=>
      J.i .i64 r3 fun q3 r4=>
      D.len r4 12<|
      J.i .i64 st fun x6 st=>
      D.nil st<|
      bif decide (x6<12)then
       M.ak (decide (0<=af ((af (4+(af (2*x6))))+2))&&decide (af ((af (4+(af (2*x6))))+2)<=(dJ:Int)))<|
      M.ak (decide (0<=af (4+(af (2*x6))))&&decide (af (4+(af (2*x6)))<=(((af ((af (4+(af (2*x6))))+2)).toNat:Nat):Int)))<|
      M.call (c 285 [.slice 1 (cy true x2 (((af (4+(af (2*x6)))).toNat)*1)) (((af ((af (4+(af (2*x6))))+2)).toNat)-((af (4+(af (2*x6)))).toNat))]) fun ds=>
      J.i .u64 ds fun x7 ds=>
      D.nil ds<|
      M.ak (av x6 12)<|
      M.ak (Nat.ble (x6.toNat*1+2+1) 14)<|
      aK [.agg ((.str q2)::(.int .i64 q3)::(bC r4 (x6.toNat*1) [.int .i64 (af (x7))])),.int .i64 (af (x6+1))]
      else
       bu [.agg ((.str q2)::(.int .i64 q3)::r4)]) n [.agg [.str l,.int .i64 (af (x4)),.int .i64 0,.int .i64 0,.int .i64 0,.int .i64 0,.int .i64 0,.int .i64 0,.int .i64 0,.int .i64 0,.int .i64 0,.int .i64 0,.int .i64 0,.int .i64 0],.int .i64 0]) fun aU=>
   bif b3 then
    aU [.bool true]
   else
    M.call (c 238 [.slice 1 x2 dJ,.int .i64 (af (28+x1)),.int .i64 (af ((af ((dJ:Int)-28))-x1))]) fun ds=>
    J.b ds fun x8 ds=>
    D.nil ds<|
    aU [.bool (!x8)]) fun aC=>
  bif b2 then
   aC [.bool true]
  else
   aC [.bool (decide (x1>24))]) fun aq=>
 bif !x3 then
  aq [.bool true]
 else
  aq [.bool (!(x==5))]
def Hh:Zg->Nat->List DV->M (List DV):=fun c n args=>
 J.l 1 args fun b1 bM args=>
 D.nil args<|
 M.base fun b0=>
 M.call (c 237 [.slice 1 b1 bM]) fun ds=>
 J.i .i64 ds fun x ds=>
 J.i .i64 ds fun x1 ds=>
 J.l 1 ds fun x2 dJ ds=>
 J.b ds fun x3 ds=>
 D.nil ds<|
 M.join (fun st=>J.b st fun b2 st=>D.nil st<|
  M.join (fun st=>J.b st fun b3 st=>D.nil st<|
   M.join (fun st=>J.b st fun b4 st=>D.nil st<|
    bif b4 then
     M.gR b0 [.agg [.slice 0 none 0],.bool false]
    else
     M.join (fun st=>
      J.a st fun cs st=>
      J.l 1 cs fun d dn r=>
      D.nil r<|
      D.nil st<|
      M.call (c 300 [.agg [.slice 1 d dn]]) fun ds=>
      J.b ds fun x4 ds=>
      D.nil ds<|
      bif !x4 then
       M.gR b0 [.agg [.slice 0 none 0],.bool false]
      else
       M.gR b0 [.agg [.slice 1 d dn],.bool true]) fun bu=>
     M.loop (fun aK st=>
      J.a st fun bw st=>
      J.l 1 bw fun d1 QP r=>
      D.nil r<|
      J.i .i64 st fun x5 st=>
      D.nil st<|
      bif decide (x5<x1)then
       M.ak (decide (0<=af (2*(af (x5+1))))&&decide (af (2*(af (x5+1)))<=(dJ:Int)))<|
      M.ak (decide (0<=af (2*x5))&&decide (af (2*x5)<=(((af (2*(af (x5+1)))).toNat:Nat):Int)))<|
      M.fW (c 285 [.slice 1 (cy true x2 (((af (2*x5)).toNat)*1)) (((af (2*(af (x5+1)))).toNat)-((af (2*x5)).toNat))]) fun ds=>
      J.i .u64 ds fun x6 ds=>
      D.nil ds<|
      M.new [.int .i64 (af (x6))] fun i=>
      M.load i 0 1 fun cU=>
      M.app 1 d1 QP cU 1 8796093022208 fun p=>
      aK [.agg [.slice 1 p (QP+1)],.int .i64 (af (x5+1))]
      else
       bu [.agg [.slice 1 d1 QP]]) n [.agg [.slice 0 none 0],.int .i64 0]) fun aU=>
   bif b3 then
    aU [.bool true]
   else
    M.call (c 238 [.slice 1 x2 dJ,.int .i64 (af (2*x1)),.int .i64 (af ((dJ:Int)-(af (2*x1))))]) fun ds=>
    J.b ds fun x7 ds=>
    D.nil ds<|
    aU [.bool (!x7)]) fun aC=>
  bif b2 then
   aC [.bool true]
  else
   aC [.bool (decide (x1>16))]) fun aq=>
 bif !x3 then
  aq [.bool true]
 else
  aq [.bool (!(x==6))]
def H0:Zg->Nat->List DV->M (List DV):=fun c n args=>
 J.l 1 args fun b1 bM args=>
 D.nil args<|
 M.ak (decide (0<=(if 8<(bM:Int)then 8 else(bM:Int)))&&decide ((if 8<(bM:Int)then 8 else(bM:Int))<=(bM:Int)))<|
 M.join (fun st=>
  J.i .u64 st fun v st=>
  D.nil st<|
  M.ret [.int .u64 v]) fun aq=>
 M.loop (fun aK st=>
  J.i .u64 st fun v1 st=>
  J.i .i64 st fun x st=>
  D.nil st<|
  bif decide (x<(((if 8<(bM:Int)then 8 else(bM:Int)).toNat:Nat):Int))then
   M.nn b1 fun i o=>
   M.ak (av x ((if 8<(bM:Int)then 8 else(bM:Int)).toNat))<|
   M.au i (x.toNat*1+o) fun d=>
   D.int .u8 d fun x1=>
   M.ak (decide (0<=af (8*x)))<|
   aK [.int .u64 (bits .or .u64 v1 (IntKind.wrap .u64 ((IntKind.wrap .u64 (x1))*2^(min (af (8*x)).toNat 64)))),.int .i64 (af (x+1))]
  else
   aq [.int .u64 v1]) n [.int .u64 0,.int .i64 0]
def Iy:Zg->Nat->List DV->M (List DV):=fun c n args=>
 J.i .u32 args fun sum args=>
 J.l 1 args fun bs JX args=>
 D.nil args<|
 M.call (c 306 [.slice 1 bs JX]) fun ds=>
 J.i .u32 ds fun x ds=>
 D.nil ds<|
 M.ret [.bool (x==sum)]
def HP:Zg->Nat->List DV->M (List DV):=fun c n args=>
 J.a args fun cs args=>
 J.i .i64 cs fun c1 r1=>
 D.len r1 48<|
 J.i .i64 args fun bE args=>
 D.nil args<|
 D.len ((.int .i64 c1)::r1) 49<|
 M.call (c 307 [.agg ((.int .i64 c1)::r1)]) fun ds=>
 J.b ds fun x ds=>
 D.nil ds<|
 M.join (fun st=>J.b st fun b1 st=>D.nil st<|
  M.join (fun st=>J.b st fun b2 st=>D.nil st<|
   bif b2 then
    M.ret [.int .i64 0,.int .u8 0,.bool false]
   else
    M.ak (decide (0<=(bE.tmod 384).tmod 8))<|
    M.ret [.int .i64 (af ((bE.tmod 384).tdiv 8)),.int .u8 (IntKind.wrap .u8 (1*2^(min ((bE.tmod 384).tmod 8).toNat 8))),.bool true]) fun aC=>
  bif b1 then
   aC [.bool true]
  else
   aC [.bool (!((af (bE.tdiv 384))==c1))]) fun aq=>
 bif !x then
  aq [.bool true]
 else
  aq [.bool (decide (bE<0))]
def H2:Zg->Nat->List DV->M (List DV):=fun c n args=>
 J.i .u32 args fun x args=>
 D.nil args<|
 bif (x.tmod 2)==1 then
  M.ret [.int .u32 (bits .xor .u32 (IntKind.wrap .u32 (x.tdiv 2)) 2197175160)]
 else
  M.ret [.int .u32 (IntKind.wrap .u32 (x.tdiv 2))]
def G8:Zg->Nat->List DV->M (List DV):=fun c n args=>
 J.l 1 args fun body WI args=>
 J.i .i64 args fun bE args=>
 J.i .i64 args fun n1 args=>
 D.nil args<|
 M.call (c 312 [.slice 1 body WI,.int .i64 bE,.int .i64 n1]) fun ds=>
 J.i .u64 ds fun x ds=>
 J.b ds fun x1 ds=>
 D.nil ds<|
 M.ret [.int .i64 (af (x))]
def Hu:Zg->Nat->List DV->M (List DV):=fun c n args=>
 J.a args fun cs args=>
 J.i .i64 cs fun n1 r=>
 J.i .i64 r fun n2 r=>
 J.i .i64 r fun n3 r=>
 J.i .i64 r fun n4 r=>
 J.l 1 r fun n5 sy r=>
 D.nil r<|
 D.nil args<|
 M.join (fun st=>J.b st fun b1 st=>D.nil st<|
  M.join (fun st=>J.b st fun b2 st=>D.nil st<|
   M.join (fun st=>J.b st fun b3 st=>D.nil st<|
    M.join (fun st=>J.b st fun b4 st=>D.nil st<|
     bif b4 then
      M.ret [.bool false]
     else
      M.call (c 147 [.slice 1 n5 sy,.func 313 [] []]) fun ds=>
      J.b ds fun x ds=>
      D.nil ds<|
      M.ret [.bool (!x)]) fun bu=>
    bif b3 then
     bu [.bool true]
    else
     bu [.bool (decide ((sy:Int)>12))]) fun aU=>
   bif b2 then
    aU [.bool true]
   else
    aU [.bool (decide (n2>4294967295))]) fun aC=>
  bif b1 then
   aC [.bool true]
  else
   aC [.bool (decide (n2<1))]) fun aq=>
 bif decide (n1<0)then
  aq [.bool true]
 else
  aq [.bool (decide (n1>=1792))]
def GD:Zg->Nat->List DV->M (List DV):=fun c n args=>
 J.a args fun cs args=>
 J.b cs fun x r=>
 J.i .i64 r fun x1 r=>
 J.i .i64 r fun x2 r=>
 D.nil r<|
 D.nil args<|
 bif x then
  M.call (c 314 [.int .i64 x1,.int .i64 1,.int .i64 4294967295]) fun ds=>
  J.b ds fun x3 ds=>
  D.nil ds<|
  M.join (fun st=>J.b st fun b1 st=>D.nil st<|
   M.ret [.bool b1]) fun aq=>
  bif x3 then
   M.call (c 314 [.int .i64 x2,.int .i64 2,.int .i64 3071]) fun ds=>
   J.b ds fun x4 ds=>
   D.nil ds<|
   aq [.bool x4]
  else
   aq [.bool false]
 else
  M.call (c 314 [.int .i64 x1,.int .i64 0,.int .i64 4294967295]) fun ds=>
  J.b ds fun x5 ds=>
  D.nil ds<|
  M.join (fun st=>J.b st fun b2 st=>D.nil st<|
   M.join (fun st=>J.b st fun b3 st=>D.nil st<|
    M.ret [.bool b3]) fun aU=>
   bif b2 then
    M.join (fun st=>J.b st fun b4 st=>D.nil st<|
     aU [.bool b4]) fun bu=>
    bif decide (x1>0)then
     bu [.bool true]
    else
     bu [.bool (x2==0)]
   else
    aU [.bool false]) fun aC=>
  bif x5 then
   M.call (c 314 [.int .i64 x2,.int .i64 0,.int .i64 1792]) fun ds=>
   J.b ds fun x6 ds=>
   D.nil ds<|
   aC [.bool x6]
  else
   aC [.bool false]
def Gk:Zg->Nat->List DV->M (List DV):=fun c n args=>
 J.a args fun cs args=>
 D.len cs 16<|
 D.nil args<|
 D.len cs 16<|
 M.join (fun st=>
  D.nil st<|
  M.ret [.bool true]) fun aq=>
 M.loop (fun aK st=>
  J.i .i64 st fun x st=>
  D.nil st<|
  bif decide (x<16)then
   M.ak (av x 16)<|
   D.nth cs (x.toNat*1) fun d=>
   D.int .i64 d fun x1=>
   M.join (fun st=>J.b st fun b1 st=>D.nil st<|
    bif b1 then
     M.ret [.bool false]
    else
     aK [.int .i64 (af (x+1))]) fun aC=>
   bif !(x1==0)then
    M.call (c 314 [.int .i64 x1,.int .i64 2,.int .i64 3071]) fun ds=>
    J.b ds fun x2 ds=>
    D.nil ds<|
    aC [.bool (!x2)]
   else
    aC [.bool false]
  else
   aq []) n [.int .i64 0]
def F0:Zg->Nat->List DV->M (List DV):=fun c n args=>
 J.a args fun cs args=>
 J.s cs fun q r1=>
 J.i .i64 r1 fun q1 r2=>
 D.len r2 12<|
 D.nil args<|
 D.len ((.str q)::(.int .i64 q1)::r2) 14<|
 M.call (c 26 [.str q]) fun ds=>
 J.b ds fun x ds=>
 D.nil ds<|
 M.join (fun st=>J.b st fun b1 st=>D.nil st<|
  M.join (fun st=>J.b st fun b2 st=>D.nil st<|
   bif b2 then
    M.ret [.bool false]
   else
    M.join (fun st=>
     D.nil st<|
     M.ret [.bool true]) fun aU=>
    M.loop (fun aK st=>
     J.i .i64 st fun x1 st=>
     D.nil st<|
     bif decide (x1<12)then
      M.ak (av x1 12)<|
      D.nth (r2.take 12) (x1.toNat*1) fun d=>
      D.int .i64 d fun x2=>
      M.ak (decide (0<=x1))<|
      M.join (fun st=>J.b st fun b3 st=>D.nil st<|
       M.join (fun st=>J.b st fun b4 st=>D.nil st<|
       bif b4 then
       M.ret [.bool false]
      else
       aK [.int .i64 (af (x1+1))]) fun cm=>
      bif b3 then
       cm [.bool true]
      else
       M.ak (decide (0<=x1))<|
      M.join (fun st=>J.b st fun b5 st=>D.nil st<|
       cm [.bool b5]) fun eS=>
      bif (bits .and .i64 (q1.fdiv (2^(min x1.toNat 64))) 1)==1 then
       M.call (c 315 [.int .i64 x2]) fun ds=>
      J.b ds fun x3 ds=>
      D.nil ds<|
      eS [.bool (!x3)]
      else
       eS [.bool false]) fun bu=>
      bif (bits .and .i64 (q1.fdiv (2^(min x1.toNat 64))) 1)==0 then
       bu [.bool (!(x2==0))]
      else
       bu [.bool false]
     else
      aU []) n [.int .i64 0]) fun aC=>
  bif b1 then
   aC [.bool true]
  else
   aC [.bool (decide (q1>=4096))]) fun aq=>
 bif !x then
  aq [.bool true]
 else
  aq [.bool (decide (q1<0))]
def Gx:Zg->Nat->List DV->M (List DV):=fun c n args=>
 J.a args fun cs args=>
 J.l 1 cs fun d dn r=>
 D.nil r<|
 D.nil args<|
 M.join (fun st=>J.b st fun b1 st=>D.nil st<|
  bif b1 then
   M.ret [.bool false]
  else
   M.join (fun st=>
    D.nil st<|
    M.ret [.bool true]) fun aC=>
   M.loop (fun aK st=>
    J.i .i64 st fun x st=>
    D.nil st<|
    bif decide (x<(dn:Int))then
     M.nn d fun i o=>
     M.ak (av x dn)<|
     M.au i (x.toNat*1+o) fun d1=>
     D.int .i64 d1 fun x1=>
     M.call (c 315 [.int .i64 x1]) fun ds=>
     J.b ds fun x2 ds=>
     D.nil ds<|
     M.join (fun st=>J.b st fun b2 st=>D.nil st<|
      bif b2 then
       M.ret [.bool false]
      else
       aK [.int .i64 (af (x+1))]) fun aU=>
     bif !x2 then
      aU [.bool true]
     else
      M.ak (decide (0<=x)&&decide (x<=(dn:Int)))<|
      M.call (c 222 [.slice 1 d x.toNat,.int .i64 x1]) fun ds=>
      J.b ds fun x3 ds=>
      D.nil ds<|
      aU [.bool x3]
    else
     aC []) n [.int .i64 0]) fun aq=>
 bif decide ((dn:Int)<1)then
  aq [.bool true]
 else
  aq [.bool (decide ((dn:Int)>16))]
def Jk:Zg->Nat->List DV->M (List DV):=fun c n args=>
 J.l 1 args fun bs JX args=>
 D.nil args<|
 M.call (c 317 []) fun ds=>
 J.a ds fun cs ds=>
 D.len cs 16<|
 D.nil ds<|
 M.new (List.replicate 16 (.int .u32 0)) fun t=>
 D.len cs 16<|
 M.store t 0 cs<|
 M.join (fun st=>
  J.i .u32 st fun x st=>
  D.nil st<|
  M.ret [.int .u32 (bits .xor .u32 x 4294967295)]) fun aq=>
 M.loop (fun aK st=>
  J.i .u32 st fun x1 st=>
  J.i .i64 st fun x2 st=>
  D.nil st<|
  bif decide (x2<(JX:Int))then
   M.nn bs fun i o=>
   M.ak (av x2 JX)<|
   M.au i (x2.toNat*1+o) fun d=>
   D.slice 1 d fun x3 ec=>
   M.call (c 318 [.ptr (some (t,0)),.int .u32 x1,.slice 1 x3 ec]) fun ds=>
   J.i .u32 ds fun x4 ds=>
   D.nil ds<|
   aK [.int .u32 x4,.int .i64 (af (x2+1))]
  else
   aq [.int .u32 x1]) n [.int .u32 4294967295,.int .i64 0]
def HH:Zg->Nat->List DV->M (List DV):=fun c n args=>
 J.a args fun cs args=>
 J.i .i64 cs fun c1 r1=>
 D.len r1 48<|
 D.nil args<|
 D.len ((.int .i64 c1)::r1) 49<|
 M.join (fun st=>J.b st fun b1 st=>D.nil st<|
  M.ret [.bool b1]) fun aq=>
 bif decide (c1>=0)then
  aq [.bool (decide (c1<8))]
 else
  aq [.bool false]
def HT:Zg->Nat->List DV->M (List DV):=fun c n args=>
 J.l 1 args fun b1 bM args=>
 J.i .i64 args fun bE args=>
 J.i .i64 args fun n1 args=>
 D.nil args<|
 M.join (fun st=>J.b st fun b2 st=>D.nil st<|
  M.join (fun st=>J.b st fun b3 st=>D.nil st<|
   bif b3 then
    M.ret [.int .u64 0,.bool false]
   else
    M.ak (decide (0<=af (bE+n1))&&decide (af (bE+n1)<=(bM:Int)))<|
    M.ak (decide (0<=bE)&&decide (bE<=(((af (bE+n1)).toNat:Nat):Int)))<|
    M.call (c 285 [.slice 1 (cy true b1 (bE.toNat*1)) (((af (bE+n1)).toNat)-bE.toNat)]) fun ds=>
    J.i .u64 ds fun x ds=>
    D.nil ds<|
    M.ret [.int .u64 x,.bool true]) fun aC=>
  bif b2 then
   aC [.bool true]
  else
   M.call (c 261 [.slice 1 b1 bM,.int .i64 bE,.int .i64 n1]) fun ds=>
   J.b ds fun x1 ds=>
   D.nil ds<|
   aC [.bool (!x1)]) fun aq=>
 bif decide (n1<1)then
  aq [.bool true]
 else
  aq [.bool (decide (n1>8))]
def Hf:Zg->Nat->List DV->M (List DV):=fun c n args=>
 J.i .i64 args fun kid args=>
 D.nil args<|
 M.join (fun st=>J.b st fun b1 st=>D.nil st<|
  M.ret [.bool b1]) fun aq=>
 bif decide (kid<2)then
  aq [.bool true]
 else
  aq [.bool (decide (kid>=3072))]
def HE:Zg->Nat->List DV->M (List DV):=fun c n args=>
 J.i .i64 args fun n1 args=>
 J.i .i64 args fun WT args=>
 J.i .i64 args fun to args=>
 D.nil args<|
 M.join (fun st=>J.b st fun b1 st=>D.nil st<|
  M.ret [.bool b1]) fun aq=>
 bif decide (n1>=WT)then
  aq [.bool (decide (n1<=to))]
 else
  aq [.bool false]
def FX:Zg->Nat->List DV->M (List DV):=fun c n args=>
 J.i .i64 args fun n1 args=>
 D.nil args<|
 M.join (fun st=>J.b st fun b1 st=>D.nil st<|
  M.ret [.bool b1]) fun aq=>
 bif decide (n1>=2)then
  aq [.bool (decide (n1<3072))]
 else
  aq [.bool false]
def H6:Zg->Nat->List DV->M (List DV):=fun c n args=>
 D.nil args<|
 M.join (fun st=>
  J.a st fun cs st=>
  D.len cs 16<|
  D.nil st<|
  D.len cs 16<|
  M.ret [.agg cs]) fun aq=>
 M.loop (fun aK st=>
  J.a st fun bw st=>
  D.len bw 16<|
  J.i .i64 st fun x st=>
  D.nil st<|
  bif decide (x<16)then
   M.join (fun st=>
    J.a st fun cU st=>
    D.len cU 16<|
    D.nil st<|
    aK [.agg cU,.int .i64 (af (x+1))]) fun aC=>
   M.join (fun st=>
    J.i .u32 st fun x1 st=>
    D.nil st<|
    M.ak (av x 16)<|
    M.ak (Nat.ble (x.toNat*1+1) 16)<|
    aC [.agg (bC bw (x.toNat*1) [.int .u32 x1])]) fun aU=>
   M.loop (fun dO st=>
    J.i .u32 st fun x2 st=>
    J.i .i64 st fun x3 st=>
    D.nil st<|
    bif decide (x3<4)then
     M.call (c 320 [.int .u32 x2]) fun ds=>
     J.i .u32 ds fun x4 ds=>
     D.nil ds<|
     dO [.int .u32 x4,.int .i64 (af (x3+1))]
    else
     aU [.int .u32 x2]) n [.int .u32 (IntKind.wrap .u32 (x)),.int .i64 0]
  else
   aq [.agg bw]) n [.agg (List.replicate 16 (.int .u32 0)),.int .i64 0]
def Hd:Zg->Nat->List DV->M (List DV):=fun c n args=>
 J.p args fun t args=>
 J.i .u32 args fun x args=>
 J.l 1 args fun b1 bM args=>
 D.nil args<|
 M.join (fun st=>
  J.i .u32 st fun x1 st=>
  D.nil st<|
  M.ret [.int .u32 x1]) fun aq=>
 M.loop (fun aK st=>
  J.i .u32 st fun x2 st=>
  J.i .i64 st fun x3 st=>
  D.nil st<|
  bif decide (x3<(bM:Int))then
   M.nn b1 fun i o=>
   M.ak (av x3 bM)<|
   M.au i (x3.toNat*1+o) fun d=>
   D.int .u8 d fun x4=>
   M.nn t fun i1 o1=>
   M.ak (av (bits .and .u32 (bits .xor .u32 x2 (IntKind.wrap .u32 (x4))) 15) 16)<|
   M.au i1 (((bits .and .u32 (bits .xor .u32 x2 (IntKind.wrap .u32 (x4))) 15).toNat)*1+o1) fun d1=>
   D.int .u32 d1 fun x5=>
   M.nn t fun i2 o2=>
   M.ak (av (bits .and .u32 (bits .xor .u32 ((bits .xor .u32 x2 (IntKind.wrap .u32 (x4))).fdiv (2^4)) x5) 15) 16)<|
   M.au i2 (((bits .and .u32 (bits .xor .u32 ((bits .xor .u32 x2 (IntKind.wrap .u32 (x4))).fdiv (2^4)) x5) 15).toNat)*1+o2) fun d2=>
   D.int .u32 d2 fun x6=>
   aK [.int .u32 (bits .xor .u32 ((bits .xor .u32 ((bits .xor .u32 x2 (IntKind.wrap .u32 (x4))).fdiv (2^4)) x5).fdiv (2^4)) x6),.int .i64 (af (x3+1))]
  else
   aq [.int .u32 x2]) n [.int .u32 x,.int .i64 0]
def IC:Zg->Nat->List DV->M (List DV):=fun c n args=>
 J.i .u32 args fun x args=>
 D.nil args<|
 bif (bits .and .u32 x 1)==1 then
  M.ret [.int .u32 (bits .xor .u32 (x.fdiv (2^1)) 2197175160)]
 else
  M.ret [.int .u32 (x.fdiv (2^1))]
end
structure Cq (Bd:Za):Prop where
 eq:Bd 179=Hv
structure Nf (Bd:Za):Prop where
 eq:Bd 248=GL
structure sT (Bd:Za):Prop where
 eq:Bd 213=HJ
 q70:Nf Bd
structure NJ (Bd:Za):Prop where
 eq:Bd 288=H2
structure M7 (Bd:Za):Prop where
 eq:Bd 264=GV
 q96:NJ Bd
structure Im (Bd:Za):Prop where
 eq:Bd 242=Iq
 q71:M7 Bd
structure NT (Bd:Za):Prop where
 eq:Bd 249=Hr
structure uy (Bd:Za):Prop where
 eq:Bd 214=H3
 jV:sT Bd
 Tp:Im Bd
 q97:NT Bd
structure N6 (Bd:Za):Prop where
 eq:Bd 191=HN
 jV:sT Bd
 qf:uy Bd
structure Ae (Bd:Za):Prop where
 eq:Bd 194=FW
structure NH (Bd:Za):Prop where
 eq:Bd 250=Iu
 jV:sT Bd
 qf:uy Bd
structure F6 (Bd:Za):Prop where
 eq:Bd 217=F4
 tZ:Ae Bd
 aae:NH Bd
structure Oa (Bd:Za):Prop where
 eq:Bd 216=HS
 jV:sT Bd
 qf:uy Bd
structure Cr (Bd:Za):Prop where
 eq:Bd 251=GG
structure N1 (Bd:Za):Prop where
 eq:Bd 215=Ib
 jV:sT Bd
 qf:uy Bd
 EU:Cr Bd
structure Mt (Bd:Za):Prop where
 eq:Bd 189=FV
 tZ:Ae Bd
 q24:F6 Bd
 aag:Oa Bd
 aaf:N1 Bd
structure NQ (Bd:Za):Prop where
 eq:Bd 252=Hn
 EU:Cr Bd
structure NK (Bd:Za):Prop where
 eq:Bd 219=Ht
 jV:sT Bd
 qf:uy Bd
 Y3:NQ Bd
structure Ob (Bd:Za):Prop where
 eq:Bd 218=H8
 jV:sT Bd
 qf:uy Bd
 EU:Cr Bd
structure Mp (Bd:Za):Prop where
 eq:Bd 190=Gh
 tZ:Ae Bd
 q99:NK Bd
 V9:Ob Bd
structure NR (Bd:Za):Prop where
 eq:Bd 220=Hw
structure Ha (Bd:Za):Prop where
 eq:Bd 196=GQ
 Y4:NR Bd
structure MY (Bd:Za):Prop where
 eq:Bd 195=HB
 TB:Ha Bd
 TD:G9 Bd
structure HM (Bd:Za):Prop where
 eq:Bd 193=Is
 qf:uy Bd
structure H5 (Bd:Za):Prop where
 eq:Bd 192=Ho
structure HG (Bd:Za):Prop where
 eq:Bd 170=GH
 zz:Cq Bd
 aai:NC Bd
 aah:N6 Bd
 q26:Mt Bd
 q15:Mp Bd
 TB:Ha Bd
 q79:MY Bd
 tZ:Ae Bd
 Tq:HM Bd
 Tn:H5 Bd
structure Hb (Bd:Za):Prop where
 eq:Bd 209=Hk
structure Ak (Bd:Za):Prop where
 eq:Bd 206=GR
 Tz:Hb Bd
structure Ay (Bd:Za):Prop where
 eq:Bd 177=I3
 zy:Ak Bd
structure Mx (Bd:Za):Prop where
 eq:Bd 221=Gs
structure I4 (Bd:Za):Prop where
 eq:Bd 253=IU
structure M3 (Bd:Za):Prop where
 eq:Bd 223=GY
 TF:HZ Bd
 Tu:I4 Bd
structure Mi (Bd:Za):Prop where
 eq:Bd 254=FO
structure FR (Bd:Za):Prop where
 eq:Bd 222=FT
 q11:Mi Bd
structure Nu (Bd:Za):Prop where
 eq:Bd 197=G4
 TF:HZ Bd
 q44:Mx Bd
 q61:M3 Bd
 q8:FR Bd
structure ZZ (Bd:Za):Prop where
 eq:Bd 225=Ih
structure NL (Bd:Za):Prop where
 eq:Bd 255=Hp
structure Ni (Bd:Za):Prop where
 eq:Bd 227=GX
 Tu:I4 Bd
 q87:NL Bd
structure GS (Bd:Za):Prop where
 eq:Bd 184=Hi
 Tz:Hb Bd
structure HV (Bd:Za):Prop where
 eq:Bd 203=Ip
structure GP (Bd:Za):Prop where
 eq:Bd 261=GM
structure wh (Bd:Za):Prop where
 eq:Bd 238=Gu
 TC:GP Bd
structure Ot (Bd:Za):Prop where
 eq:Bd 320=IC
structure N2 (Bd:Za):Prop where
 eq:Bd 317=H6
 aak:Ot Bd
structure MJ (Bd:Za):Prop where
 eq:Bd 318=Hd
structure OV (Bd:Za):Prop where
 eq:Bd 306=Jk
 aaa:N2 Bd
 q48:MJ Bd
structure Oj (Bd:Za):Prop where
 eq:Bd 286=Iy
 aao:OV Bd
structure wb (Bd:Za):Prop where
 eq:Bd 285=H0
structure M4 (Bd:Za):Prop where
 eq:Bd 259=HC
 sC:wh Bd
 aaj:Oj Bd
 qd:wb Bd
structure Nz (Bd:Za):Prop where
 eq:Bd 260=HI
structure wg (Bd:Za):Prop where
 eq:Bd 237=Hs
 q58:M4 Bd
 q59:Nz Bd
structure N7 (Bd:Za):Prop where
 eq:Bd 312=HT
 TC:GP Bd
 qd:wb Bd
structure M5 (Bd:Za):Prop where
 eq:Bd 295=G8
 aad:N7 Bd
structure MM (Bd:Za):Prop where
 eq:Bd 313=Hf
structure Nl (Bd:Za):Prop where
 eq:Bd 296=Hu
 q3:Mc Bd
 q53:MM Bd
structure NW (Bd:Za):Prop where
 eq:Bd 272=IF
 sD:wg Bd
 sC:wh Bd
 ET:M5 Bd
 q92:Nl Bd
structure GZ (Bd:Za):Prop where
 eq:Bd 314=HE
structure MG (Bd:Za):Prop where
 eq:Bd 297=GD
 BP:GZ Bd
structure MV (Bd:Za):Prop where
 eq:Bd 273=Hg
 sD:wg Bd
 qd:wb Bd
 q33:MG Bd
structure Mu (Bd:Za):Prop where
 eq:Bd 298=Gk
 BP:GZ Bd
structure Nd (Bd:Za):Prop where
 eq:Bd 274=HF
 sD:wg Bd
 sC:wh Bd
 qd:wb Bd
 q39:Mu Bd
structure FY (Bd:Za):Prop where
 eq:Bd 315=FX
structure Mn (Bd:Za):Prop where
 eq:Bd 299=F0
 q89:Ns Bd
 Tt:FY Bd
structure ME (Bd:Za):Prop where
 eq:Bd 275=GA
 sD:wg Bd
 sC:wh Bd
 qd:wb Bd
 q18:Mn Bd
structure MF (Bd:Za):Prop where
 eq:Bd 300=Gx
 q8:FR Bd
 Tt:FY Bd
structure MI (Bd:Za):Prop where
 eq:Bd 276=Hh
 sD:wg Bd
 sC:wh Bd
 qd:wb Bd
 q32:MF Bd
structure Nn (Bd:Za):Prop where
 eq:Bd 256=Hz
 aal:NW Bd
 q54:MV Bd
 q68:Nd Bd
 q31:ME Bd
 q49:MI Bd
structure Z3 (Bd:Za):Prop where
 eq:Bd 228=Gc
 Tx:GS Bd
 fC:ZZ Bd
 To:HV Bd
 zy:Ak Bd
 q88:Nn Bd
structure Gd (Bd:Za):Prop where
 eq:Bd 229=FZ
 fC:ZZ Bd
 vL:Z3 Bd
structure Mq (Bd:Za):Prop where
 eq:Bd 226=Gi
 fC:ZZ Bd
 q62:Ni Bd
 vL:Z3 Bd
 q20:Gd Bd
structure Mo (Bd:Za):Prop where
 eq:Bd 230=F7
 fC:ZZ Bd
structure Gb (Bd:Za):Prop where
 eq:Bd 233=F8
 fC:ZZ Bd
 vL:Z3 Bd
 q52:yd Bd
structure Z1 (Bd:Za):Prop where
 eq:Bd 232=CU
structure Ms (Bd:Za):Prop where
 eq:Bd 231=Ge
 fC:ZZ Bd
 vL:Z3 Bd
 q51:MN Bd
 q23:Gb Bd
 q1:Z1 Bd
 q52:yd Bd
structure Mm (Bd:Za):Prop where
 eq:Bd 234=Ga
structure Al (Bd:Za):Prop where
 eq:Bd 171=It
 xK:Ay Bd
 q82:Nu Bd
 fC:ZZ Bd
 q14:Mq Bd
 q19:Mo Bd
 q12:Ms Bd
 q21:Mm Bd
structure ZD (Bd:Za):Prop where
 eq:Bd 198=Zv
structure Mg (Bd:Za):Prop where
 eq:Bd 235=ZU
structure Ig (Bd:Za):Prop where
 eq:Bd 199=H7
 q2:Mg Bd
structure Oc (Bd:Za):Prop where
 eq:Bd 174=H9
 q0:ZD Bd
 aac:Ig Bd
 q10:Mj Bd
structure Mf (Bd:Za):Prop where
 eq:Bd 236=Z6
structure MS (Bd:Za):Prop where
 eq:Bd 202=Gp
 q5:Mf Bd
structure Od (Bd:Za):Prop where
 eq:Bd 204=HR
 sD:wg Bd
 sC:wh Bd
structure M8 (Bd:Za):Prop where
 eq:Bd 240=MZ
structure Na (Bd:Za):Prop where
 eq:Bd 307=HH
structure NF (Bd:Za):Prop where
 eq:Bd 287=HP
 q60:Na Bd
structure ND (Bd:Za):Prop where
 eq:Bd 262=Ik
 Y9:NF Bd
structure NM (Bd:Za):Prop where
 eq:Bd 239=Hx
 Y8:ND Bd
structure N9 (Bd:Za):Prop where
 eq:Bd 200=Ie
 xK:Ay Bd
 zy:Ak Bd
 q57:M8 Bd
 q84:NM Bd
structure Gt (Bd:Za):Prop where
 eq:Bd 172=Gm
 q9:Mh Bd
structure Me (Bd:Za):Prop where
 eq:Bd 263=Z9
structure MB (Bd:Za):Prop where
 eq:Bd 241=GC
 q4:Me Bd
structure Mv (Bd:Za):Prop where
 eq:Bd 201=Gr
 ES:Gt Bd
 zy:Ak Bd
 q29:MB Bd
structure Hm (Bd:Za):Prop where
 eq:Bd 173=Hc
 ER:Al Bd
 xK:Ay Bd
 Tx:GS Bd
 q35:MS Bd
 Y7:Od Bd
 To:HV Bd
 Y6:N9 Bd
 q36:Mv Bd
structure Mr (Bd:Za):Prop where
 eq:Bd 210=F9
structure MD (Bd:Za):Prop where
 eq:Bd 183=GB
 q16:Mr Bd
structure Ny (Bd:Za):Prop where
 eq:Bd 188=G5
structure Nc (Bd:Za):Prop where
 eq:Bd 169=GN
 TE:HG Bd
 ER:Al Bd
 aab:Oc Bd
 TA:Hm Bd
 q28:MD Bd
 q65:Ny Bd
structure HU (Bd:Za):Prop where
 eq:Bd 205=HX
 BO:Cx Bd
structure OC (Bd:Za):Prop where
 eq:Bd 176=IE
 Ts:HU Bd
structure Nb (Bd:Za):Prop where
 eq:Bd 207=HD
 jV:sT Bd
 Tp:Im Bd
structure MU (Bd:Za):Prop where
 eq:Bd 180=Hl
 zz:Cq Bd
 q75:Nb Bd
structure Nt (Bd:Za):Prop where
 eq:Bd 208=HA
structure MQ (Bd:Za):Prop where
 eq:Bd 178=Gq
 Tq:HM Bd
 Tn:H5 Bd
 Ts:HU Bd
 BO:Cx Bd
 Y5:Nt Bd
structure Zhz (Bd:Za):Prop where
 eq:Bd 175=F5
 q64:Nc Bd
 q63:MX Bd
 TE:HG Bd
 ER:Al Bd
 TA:Hm Bd
 ES:Gt Bd
 aan:OC Bd
 xK:Ay Bd
 q94:Nq Bd
 zz:Cq Bd
 q56:MU Bd
 q42:MQ Bd
end Go.Gv
