/- Functions of the program, as the machine runs them: written by gvseat.py. -/
import Derived.Test.YtegglibipjjblaaGreatDoorGvDef
import Derived.Test.YtegglibipjjblaaGreatDoorGvZBod
namespace Go.Gv
set_option linter.unusedVariables false
set_option maxRecDepth 10000
set_option maxHeartbeats 4000000
noncomputable section
def EY:Zg->Nat->List DV->M (List DV):=fun c n args=>
 J.a args fun cs args=>
 J.i .i64 cs fun x r=>
 J.i .i64 r fun x1 r=>
 J.i .i64 r fun x2 r=>
 J.l 2 r fun x3 du r=>
 J.l 1 r fun x4 cE r=>
 J.l 1 r fun x5 fR r=>
 D.nil r<|
 J.i .u8 args fun bG args=>
 D.nil args<|
 M.call (c 169 []) fun ds=>
 J.b ds fun x6 ds=>
 D.nil ds<|
 M.join (fun st=>J.b st fun b1 st=>D.nil st<|
  bif b1 then
   M.call (c 169 []) fun ds=>
   J.b ds fun x7 ds=>
   D.nil ds<|
   M.ret [.bool x7]
  else
   M.call (c 170 [.agg [.int .i64 x,.int .i64 x1,.int .i64 x2,.slice 2 x3 du,.slice 1 x4 cE,.slice 1 x5 fR],.int .i64 (af (1+(af (bG)))),.int .i64 0]) fun ds=>
   J.l 1 ds fun x8 wX ds=>
   J.a ds fun bw ds=>
   J.i .i64 bw fun x9 r=>
   J.i .i64 r fun da r=>
   J.i .i64 r fun eR r=>
   J.i .i64 r fun ft r=>
   J.i .i64 r fun fm r=>
   J.i .i64 r fun iy r=>
   J.i .i64 r fun fp r=>
   J.i .i64 r fun gk r=>
   J.l 1 r fun gI u6 r=>
   D.nil r<|
   J.b ds fun kI ds=>
   D.nil ds<|
   bif !kI then
    M.ret [.bool true]
   else
    M.call (c 171 [.slice 1 x8 wX,.agg [.int .i64 x9,.int .i64 da,.int .i64 eR,.int .i64 ft,.int .i64 fm,.int .i64 iy,.int .i64 fp,.int .i64 gk,.slice 1 gI u6]]) fun ds=>
    J.a ds fun di ds=>
    J.i .i64 di fun jo r=>
    J.i .i64 r fun j1 r=>
    J.i .i64 r fun mM r=>
    J.l 2 r fun qP Ei r=>
    J.l 1 r fun tB UR r=>
    J.l 1 r fun wW US r=>
    D.nil r<|
    J.p ds fun u7 ds=>
    J.i .i64 ds fun yQ ds=>
    D.nil ds<|
    M.join (fun st=>J.b st fun b2 st=>D.nil st<|
     M.join (fun st=>J.b st fun b3 st=>D.nil st<|
      M.join (fun st=>J.b st fun b4 st=>D.nil st<|
       M.join (fun st=>J.b st fun b5 st=>D.nil st<|
       bif b5 then
       M.ret [.bool false]
      else
       M.call (c 172 [.ptr u7]) fun ds=>
      J.l 1 ds fun yR SA ds=>
      D.nil ds<|
      M.join (fun st=>
       D.nil st<|
      M.nn gI fun i o=>
      M.ak (au 0 u6)<|
      M.ar i (0+o) fun d=>
      D.int .i64 d fun yS=>
      M.join (fun st=>J.b st fun b6 st=>D.nil st<|
       M.ret [.bool b6]) fun iJ=>
      bif (SA:Int)==yS then
       iJ [.bool ((Ei:Int)==(du:Int))]
      else
       iJ [.bool false]) fun eM=>
      M.loop (fun aN st=>
       J.i .i64 st fun i1 st=>
      D.nil st<|
      bif decide (i1<(SA:Int))then
       M.nn yR fun i2 o1=>
      M.ak (au i1 SA)<|
      M.ar i2 (i1.toNat*1+o1) fun d1=>
      D.int .i64 d1 fun yT=>
      bif !(yT==i1)then
       M.ret [.bool false]
      else
       aN [.int .i64 (af (i1+1))]
      else
       eM []) n [.int .i64 0]) fun ca=>
      bif b4 then
       ca [.bool true]
      else
       M.call (c 173 [.slice 1 x8 wX,.agg [.int .i64 x9,.int .i64 da,.int .i64 eR,.int .i64 ft,.int .i64 fm,.int .i64 iy,.int .i64 fp,.int .i64 gk,.slice 1 gI u6],.ptr u7]) fun ds=>
      J.b ds fun yU ds=>
      D.nil ds<|
      ca [.bool (!yU)]) fun bq=>
      bif b3 then
       bq [.bool true]
      else
       M.call (c 174 [.agg [.int .i64 jo,.int .i64 j1,.int .i64 mM,.slice 2 qP Ei,.slice 1 tB UR,.slice 1 wW US],.agg [.int .i64 x,.int .i64 x1,.int .i64 x2,.slice 2 x3 du,.slice 1 x4 cE,.slice 1 x5 fR]]) fun ds=>
      J.b ds fun Ej ds=>
      D.nil ds<|
      bq [.bool (!Ej)]) fun aV=>
     bif b2 then
      aV [.bool true]
     else
      M.call (c 136 [.agg [.int .i64 jo,.int .i64 j1,.int .i64 mM,.slice 2 qP Ei,.slice 1 tB UR,.slice 1 wW US],.agg [.int .i64 x,.int .i64 x1,.int .i64 x2,.slice 2 x3 du,.slice 1 x4 cE,.slice 1 x5 fR]]) fun ds=>
      J.b ds fun Ek ds=>
      D.nil ds<|
      aV [.bool (!Ek)]) fun aB=>
    bif !(yQ==0)then
     aB [.bool true]
    else
     aB [.bool u7.isNone]) fun aq=>
 bif !x6 then
  aq [.bool true]
 else
  M.call (c 138 [.agg [.int .i64 x,.int .i64 x1,.int .i64 x2,.slice 2 x3 du,.slice 1 x4 cE,.slice 1 x5 fR]]) fun ds=>
  J.b ds fun El ds=>
  D.nil ds<|
  aq [.bool (!El)]
def F6:Zg->Nat->List DV->M (List DV):=fun c n args=>
 D.nil args<|
 M.call (c 188 []) fun ds=>
 J.a ds fun cs ds=>
 J.i .i64 cs fun x r=>
 J.i .i64 r fun x1 r=>
 J.i .i64 r fun x2 r=>
 J.l 2 r fun x3 du r=>
 J.l 1 r fun x4 cE r=>
 J.l 1 r fun x5 fR r=>
 D.nil r<|
 D.nil ds<|
 M.call (c 170 [.agg [.int .i64 x,.int .i64 x1,.int .i64 x2,.slice 2 x3 du,.slice 1 x4 cE,.slice 1 x5 fR],.int .i64 1,.int .i64 0]) fun ds=>
 J.l 1 ds fun x6 qQ ds=>
 J.a ds fun bw ds=>
 J.i .i64 bw fun x7 r=>
 J.i .i64 r fun x8 r=>
 J.i .i64 r fun x9 r=>
 J.i .i64 r fun da r=>
 J.i .i64 r fun eR r=>
 J.i .i64 r fun ft r=>
 J.i .i64 r fun fm r=>
 J.i .i64 r fun iy r=>
 J.l 1 r fun fp Kw r=>
 D.nil r<|
 J.b ds fun gk ds=>
 D.nil ds<|
 M.call (c 171 [.slice 1 x6 qQ,.agg [.int .i64 x7,.int .i64 x8,.int .i64 x9,.int .i64 da,.int .i64 eR,.int .i64 ft,.int .i64 fm,.int .i64 iy,.slice 1 fp Kw]]) fun ds=>
 J.a ds fun di ds=>
 J.i .i64 di fun gI r=>
 J.i .i64 r fun kI r=>
 J.i .i64 r fun jo r=>
 J.l 2 r fun j1 X2 r=>
 J.l 1 r fun mM Eh r=>
 J.l 1 r fun qP Ei r=>
 D.nil r<|
 J.p ds fun tB ds=>
 J.i .i64 ds fun wW ds=>
 D.nil ds<|
 M.join (fun st=>J.b st fun b1 st=>D.nil st<|
  M.join (fun st=>J.b st fun b2 st=>D.nil st<|
   M.join (fun st=>J.b st fun b3 st=>D.nil st<|
    M.join (fun st=>J.b st fun b4 st=>D.nil st<|
     M.join (fun st=>J.b st fun b5 st=>D.nil st<|
      M.ret [.bool b5]) fun ca=>
     bif b4 then
      M.call (c 173 [.slice 1 x6 qQ,.agg [.int .i64 x7,.int .i64 x8,.int .i64 x9,.int .i64 da,.int .i64 eR,.int .i64 ft,.int .i64 fm,.int .i64 iy,.slice 1 fp Kw],.ptr tB]) fun ds=>
      J.b ds fun u7 ds=>
      D.nil ds<|
      ca [.bool u7]
     else
      ca [.bool false]) fun bq=>
    bif b3 then
     M.ig (c 188 []) fun ds=>
     J.a ds fun fJ ds=>
     J.i .i64 fJ fun yQ r=>
     J.i .i64 r fun yR r=>
     J.i .i64 r fun yS r=>
     J.l 2 r fun yT X3 r=>
     J.l 1 r fun yU SC r=>
     J.l 1 r fun Ej SD r=>
     D.nil r<|
     D.nil ds<|
     M.call (c 174 [.agg [.int .i64 gI,.int .i64 kI,.int .i64 jo,.slice 2 j1 X2,.slice 1 mM Eh,.slice 1 qP Ei],.agg [.int .i64 yQ,.int .i64 yR,.int .i64 yS,.slice 2 yT X3,.slice 1 yU SC,.slice 1 Ej SD]]) fun ds=>
     J.b ds fun Ek ds=>
     D.nil ds<|
     bq [.bool Ek]
    else
     bq [.bool false]) fun aV=>
   bif b2 then
    M.call (c 183 [.ptr tB]) fun ds=>
    J.i .i64 ds fun El ds=>
    D.nil ds<|
    aV [.bool (El==8)]
   else
    aV [.bool false]) fun aB=>
  bif b1 then
   aB [.bool (!tB.isNone)]
  else
   aB [.bool false]) fun aq=>
 bif gk then
  aq [.bool (wW==0)]
 else
  aq [.bool false]
def FW:Zg->Nat->List DV->M (List DV):=fun c n args=>
 J.a args fun cs args=>
 J.i .i64 cs fun x r=>
 J.i .i64 r fun x1 r=>
 J.i .i64 r fun x2 r=>
 J.l 2 r fun x3 du r=>
 J.l 1 r fun x4 cE r=>
 J.l 1 r fun x5 fR r=>
 D.nil r<|
 J.i .i64 args fun bG args=>
 J.i .i64 args fun place args=>
 D.nil args<|
 M.call (c 133 [.agg [.int .i64 x,.int .i64 x1,.int .i64 x2,.slice 2 x3 du,.slice 1 x4 cE,.slice 1 x5 fR]]) fun ds=>
 J.b ds fun x6 ds=>
 D.nil ds<|
 bif !x6 then
  M.ret [.slice 0 none 0,.agg [.int .i64 0,.int .i64 0,.int .i64 0,.int .i64 0,.int .i64 0,.int .i64 0,.int .i64 0,.int .i64 0,.slice 0 none 0],.bool false]
 else
  M.ak (decide (0<=af (64*x))&&decide (af (64*x)<=af (64*x))&&decide (af (64*x)<=70368744177664))<|
  M.new (fj ((af (64*x)).toNat) [.int .u8 0]) fun i=>
  M.ak (decide (0<=(cE:Int))&&decide ((cE:Int)<=(cE:Int))&&decide ((cE:Int)<=8796093022208))<|
  M.new (fj ((cE:Int).toNat) [.int .i64 0]) fun i1=>
  M.new [.slice 1 (some (i,0)) ((af (64*x)).toNat),.int .i64 2,.slice 1 (some (i1,0)) ((cE:Int).toNat)] fun i2=>
  M.call (c 189 [.ptr (some (i2,0)),.slice 2 x3 du]) fun ds=>
  J.i .i64 ds fun x7 ds=>
  D.nil ds<|
  M.call (c 190 [.ptr (some (i2,0)),.agg [.int .i64 x,.int .i64 x1,.int .i64 x2,.slice 2 x3 du,.slice 1 x4 cE,.slice 1 x5 fR]]) fun ds=>
  J.i .i64 ds fun x8 ds=>
  D.nil ds<|
  M.join (fun st=>
   J.a st fun bw st=>
   J.i .i64 bw fun s r=>
   J.i .i64 r fun s1 r=>
   J.i .i64 r fun s2 r=>
   J.i .i64 r fun s3 r=>
   J.i .i64 r fun s4 r=>
   J.i .i64 r fun s5 r=>
   J.i .i64 r fun s6 r=>
   J.i .i64 r fun s7 r=>
   J.l 1 r fun s8 jY r=>
   D.nil r<|
   D.nil st<|
   M.join (fun st=>
    J.a st fun di st=>
    J.i .i64 di fun s9 r=>
    J.i .i64 r fun RZ r=>
    J.i .i64 r fun R8 r=>
    J.i .i64 r fun R9 r=>
    J.i .i64 r fun Sa r=>
    J.i .i64 r fun Sb r=>
    J.i .i64 r fun Sc r=>
    J.i .i64 r fun Bk r=>
    J.l 1 r fun Sd D9 r=>
    D.nil r<|
    D.nil st<|
    M.join (fun st=>
     J.l 1 st fun used UN st=>
     D.nil st<|
     M.join (fun st=>J.b st fun b1 st=>D.nil st<|
      bif b1 then
       M.ret [.slice 0 none 0,.agg [.int .i64 0,.int .i64 0,.int .i64 0,.int .i64 0,.int .i64 0,.int .i64 0,.int .i64 0,.int .i64 0,.slice 0 none 0],.bool false]
      else
       M.join (fun st=>
       D.nil st<|
      M.ar i2 0 fun d=>
      D.slice 1 d fun x9 Em=>
      M.ew (c 179 [.int .i64 place,.int .i64 2]) fun ds=>
      J.i .i64 ds fun da ds=>
      D.nil ds<|
      M.ak (decide (0<=af (64*da))&&decide (af (64*da)<=(Em:Int)))<|
      M.ew (c 191 [.agg [.int .i64 s9,.int .i64 RZ,.int .i64 R8,.int .i64 R9,.int .i64 Sa,.int .i64 Sb,.int .i64 Sc,.int .i64 Bk,.slice 1 Sd D9]]) fun ds=>
      J.s ds fun eR ds=>
      D.nil ds<|
      M.wr (cY true x9 (((af (64*da)).toNat)*1)) (ZH (eR.take (Em-((af (64*da)).toNat))))<|
      M.ar i2 0 fun d1=>
      D.slice 1 d1 fun ft nO=>
      M.ret [.slice 1 ft nO,.agg [.int .i64 s9,.int .i64 RZ,.int .i64 R8,.int .i64 R9,.int .i64 Sa,.int .i64 Sb,.int .i64 Sc,.int .i64 Bk,.slice 1 Sd D9],.bool true]) fun ca=>
      M.loop (fun aN st=>
       J.i .i64 st fun i3 st=>
      D.nil st<|
      bif decide (i3<(D9:Int))then
       M.call (c 192 [.int .i64 i3,.slice 1 used UN]) fun ds=>
      J.a ds fun fJ ds=>
      J.i .i64 fJ fun fm r1=>
      D.len r1 48<|
      D.nil ds<|
      M.call (c 193 [.agg ((.int .i64 fm)::r1)]) fun ds=>
      J.s ds fun iy ds=>
      D.nil ds<|
      M.call (c 194 [.ptr (some (i2,0)),.str iy]) fun ds=>
      J.i .i64 ds fun fp ds=>
      D.nil ds<|
      aN [.int .i64 (af (i3+1))]
      else
       ca []) n [.int .i64 0]) fun bq=>
     bif decide ((UN:Int)>x)then
      bq [.bool true]
     else
      M.call (c 195 [.agg [.int .i64 s9,.int .i64 RZ,.int .i64 R8,.int .i64 R9,.int .i64 Sa,.int .i64 Sb,.int .i64 Sc,.int .i64 Bk,.slice 1 Sd D9]]) fun ds=>
      J.b ds fun gk ds=>
      D.nil ds<|
      bq [.bool (!gk)]) fun aV=>
    M.loop (fun dW st=>
     J.l 1 st fun UM Sy st=>
     J.i .i64 st fun i4 st=>
     D.nil st<|
     M.ar i2 1 fun d2=>
     D.int .i64 d2 fun gI=>
     bif decide (i4<af (gI+(D9:Int)))then
      M.new [.int .i64 i4] fun i5=>
      M.load i5 0 1 fun mj=>
      M.app 1 UM Sy mj 1 8796093022208 fun p=>
      dW [.slice 1 p (Sy+1),.int .i64 (af (i4+1))]
     else
      aV [.slice 1 UM Sy]) n [.slice 0 none 0,.int .i64 0]) fun aB=>
   M.loop (fun wU st=>
    J.a st fun nf st=>
    J.i .i64 nf fun s18 r=>
    J.i .i64 r fun s19 r=>
    J.i .i64 r fun s20 r=>
    J.i .i64 r fun s21 r=>
    J.i .i64 r fun s22 r=>
    J.i .i64 r fun s23 r=>
    J.i .i64 r fun s24 r=>
    J.i .i64 r fun s25 r=>
    J.l 1 r fun s26 Se r=>
    D.nil r<|
    J.i .i64 st fun i6 st=>
    D.nil st<|
    M.call (c 196 [.agg [.int .i64 x,.int .i64 x1,.int .i64 x2]]) fun ds=>
    J.i .i64 ds fun kI ds=>
    D.nil ds<|
    bif decide (i6<kI)then
     M.ar i2 1 fun d3=>
     D.int .i64 d3 fun jo=>
     M.new [.int .i64 (af (jo+i6))] fun i7=>
     M.load i7 0 1 fun vQ=>
     M.app 1 s26 Se vQ 1 8796093022208 fun p1=>
     wU [.agg [.int .i64 s18,.int .i64 s19,.int .i64 s20,.int .i64 s21,.int .i64 s22,.int .i64 s23,.int .i64 s24,.int .i64 s25,.slice 1 p1 (Se+1)],.int .i64 (af (i6+1))]
    else
     aB [.agg [.int .i64 s18,.int .i64 s19,.int .i64 s20,.int .i64 s21,.int .i64 s22,.int .i64 s23,.int .i64 s24,.int .i64 s25,.slice 1 s26 Se]]) n [.agg [.int .i64 s,.int .i64 s1,.int .i64 s2,.int .i64 s3,.int .i64 s4,.int .i64 s5,.int .i64 s6,.int .i64 s7,.slice 1 s8 jY],.int .i64 0]) fun aq=>
  bif decide ((fR:Int)>0)then
   M.nn x5 fun i8 o=>
   M.ak (au 0 fR)<|
   M.ar i8 (0+o) fun d4=>
   D.int .i64 d4 fun j1=>
   aq [.agg [.int .i64 bG,.int .i64 x,.int .i64 x1,.int .i64 x2,.int .i64 x8,.int .i64 (cE:Int),.int .i64 (af (j1+1)),.int .i64 x7,.slice 0 none 0]]
  else
   aq [.agg [.int .i64 bG,.int .i64 x,.int .i64 x1,.int .i64 x2,.int .i64 x8,.int .i64 (cE:Int),.int .i64 0,.int .i64 x7,.slice 0 none 0]]
def Hc:Zg->Nat->List DV->M (List DV):=fun c n args=>
 J.l 1 args fun image yB args=>
 J.a args fun cs args=>
 J.i .i64 cs fun s r=>
 J.i .i64 r fun s1 r=>
 J.i .i64 r fun s2 r=>
 J.i .i64 r fun s3 r=>
 J.i .i64 r fun s4 r=>
 J.i .i64 r fun s5 r=>
 J.i .i64 r fun s6 r=>
 J.i .i64 r fun s7 r=>
 J.l 1 r fun s8 jY r=>
 D.nil r<|
 D.nil args<|
 M.new [.int .i64 s,.int .i64 s1,.int .i64 s2,.int .i64 s3,.int .i64 s4,.int .i64 s5,.int .i64 s6,.int .i64 s7,.slice 1 s8 jY] fun s9=>
 M.new [.int .i64 0,.int .i64 0,.int .i64 0,.slice 0 none 0,.slice 0 none 0,.slice 0 none 0] fun state=>
 M.new [.ptr none] fun uX=>
 M.new [.int .i64 0] fun e=>
 M.load s9 0 9 fun bw=>
 J.i .i64 bw fun x r=>
 J.i .i64 r fun x1 r=>
 J.i .i64 r fun x2 r=>
 J.i .i64 r fun x3 r=>
 J.i .i64 r fun x4 r=>
 J.i .i64 r fun x5 r=>
 J.i .i64 r fun x6 r=>
 J.i .i64 r fun x7 r=>
 J.l 1 r fun x8 wX r=>
 D.nil r<|
 M.call (c 197 [.agg [.int .i64 x,.int .i64 x1,.int .i64 x2,.int .i64 x3,.int .i64 x4,.int .i64 x5,.int .i64 x6,.int .i64 x7,.slice 1 x8 wX]]) fun ds=>
 J.b ds fun x9 ds=>
 D.nil ds<|
 bif !x9 then
  M.store state 0 [.int .i64 0,.int .i64 0,.int .i64 0,.slice 0 none 0,.slice 0 none 0,.slice 0 none 0]<|
  M.store uX 0 [.ptr none]<|
  M.store e 0 [.int .i64 2]<|
  M.load state 0 6 fun o=>M.ar uX 0 fun o1=>M.ar e 0 fun o2=>M.ret [.agg o,o1,o2]
 else
  M.nc (M.ar s9 1 fun d=>
   D.int .i64 d fun da=>
   M.call (c 225 [.bool (decide (da<=af ((yB:Int).tdiv 64)))]) fun ds=>
   D.nil ds<|
   M.load s9 0 9 fun di=>
   J.i .i64 di fun eR r=>
   J.i .i64 r fun ft r=>
   J.i .i64 r fun fm r=>
   J.i .i64 r fun iy r=>
   J.i .i64 r fun fp r=>
   J.i .i64 r fun gk r=>
   J.i .i64 r fun gI r=>
   J.i .i64 r fun kI r=>
   J.l 1 r fun jo X1 r=>
   D.nil r<|
   M.ar s9 1 fun d1=>
   D.int .i64 d1 fun j1=>
   M.new [.int .i64 0,.int .i64 1] fun i=>
   M.ew (c 177 [.int .i64 j1,.slice 1 (some (i,0)) 2]) fun ds=>
   J.p ds fun mM ds=>
   D.nil ds<|
   M.load s9 1 3 fun fJ=>
   J.i .i64 fJ fun qP r=>
   J.i .i64 r fun tB r=>
   J.i .i64 r fun wW r=>
   D.nil r<|
   M.new [.slice 1 image yB,.int .i64 eR,.int .i64 ft,.int .i64 fm,.int .i64 iy,.int .i64 fp,.int .i64 gk,.int .i64 gI,.int .i64 kI,.slice 1 jo X1,.ptr mM,.slice 0 none 0,.int .i64 qP,.int .i64 tB,.int .i64 wW,.slice 0 none 0,.slice 0 none 0,.slice 0 none 0,.int .i64 0] fun i1=>
   M.call (c 226 [.ptr (some (i1,0))]) fun ds=>
   D.nil ds<|
   M.call (c 230 [.ptr (some (i1,0))]) fun ds=>
   D.nil ds<|
   M.call (c 231 [.ptr (some (i1,0))]) fun ds=>
   D.nil ds<|
   sK i1 18 fun k n1=>
   M.ar i1 18 fun d2=>
   D.int .i64 d2 fun u7=>
   M.call (c 234 [.ptr (some (i1,0))]) fun ds=>
   J.i .i64 ds fun yQ ds=>
   D.nil ds<|
   fF i1 18 k n1<|
   fF i1 18 k n1<|
   M.call (c 225 [.bool (yQ==u7)]) fun ds=>
   D.nil ds<|
   fF i1 18 k n1<|
   M.load i1 12 6 fun mj=>
   J.i .i64 mj fun yR r=>
   J.i .i64 r fun yS r=>
   J.i .i64 r fun yT r=>
   J.l 2 r fun yU SC r=>
   J.l 1 r fun Ej SD r=>
   J.l 1 r fun Ek X4 r=>
   D.nil r<|
   M.ar i1 10 fun d3=>
   D.ptr d3 fun El=>
   M.ak (apart (some (state,0)) i1)<|
   M.store state 0 [.int .i64 yR,.int .i64 yS,.int .i64 yT,.slice 2 yU SC,.slice 1 Ej SD,.slice 1 Ek X4]<|
   M.store uX 0 [.ptr El]<|
   M.store e 0 [.int .i64 0]<|
   M.ret []) fun p=>
  bif p then M.nc (M.store state 0 [.int .i64 0,.int .i64 0,.int .i64 0,.slice 0 none 0,.slice 0 none 0,.slice 0 none 0]<|
M.store uX 0 [.ptr none]<|
M.store e 0 [.int .i64 31]<|
M.ret []) fun p=>bif p then fail else M.load state 0 6 fun o3=>M.ar uX 0 fun o4=>M.ar e 0 fun o5=>M.ret [.agg o3,o4,o5]
  else M.load state 0 6 fun o6=>M.ar uX 0 fun o7=>M.ar e 0 fun o8=>M.ret [.agg o6,o7,o8]
def FG:Zg->Nat->List DV->M (List DV):=fun c n args=>
 J.p args fun s args=>
 D.nil args<|
 M.nn s fun i o=>
 M.ar i (o+1) fun d=>
 D.slice 1 d fun x xn=>
 M.join (fun st=>
  J.l 1 st fun out rO st=>
  D.nil st<|
  M.ret [.slice 1 out rO]) fun aq=>
 M.loop (fun aN st=>
  J.l 1 st fun lj jc st=>
  J.i .i64 st fun x1 st=>
  D.nil st<|
  bif decide (x1<(xn:Int))then
   M.join (fun st=>
    J.l 1 st fun yI yJ st=>
    D.nil st<|
    aN [.slice 1 yI yJ,.int .i64 (af (x1+1))]) fun aB=>
   M.nn x fun i1 o1=>
   M.ak (au x1 xn)<|
   M.ar i1 (x1.toNat*1+o1) fun d1=>
   D.int .u64 d1 fun x2=>
   M.join (fun st=>
    J.l 1 st fun Xc Xd st=>
    D.nil st<|
    aB [.slice 1 Xc Xd]) fun aV=>
   M.loop (fun dW st=>
    J.l 1 st fun Ux RE st=>
    J.i .u64 st fun w st=>
    D.nil st<|
    bif !(w==0)then
     M.call (c 86 [.int .u64 w]) fun ds=>
     J.i .i64 ds fun x3 ds=>
     D.nil ds<|
     M.new [.int .i64 (af ((af (x1*64))+x3))] fun i2=>
     M.load i2 0 1 fun cs=>
     M.app 1 Ux RE cs 1 8796093022208 fun p=>
     dW [.slice 1 p (RE+1),.int .u64 (bits .and .u64 w (IntKind.wrap .u64 (w-1)))]
    else
     aV [.slice 1 Ux RE]) n [.slice 1 lj jc,.int .u64 x2]
  else
   aq [.slice 1 lj jc]) n [.slice 0 none 0,.int .i64 0]
def Gm:Zg->Nat->List DV->M (List DV):=fun c n args=>
 J.l 1 args fun image yB args=>
 J.a args fun cs args=>
 J.i .i64 cs fun s r=>
 J.i .i64 r fun s1 r=>
 J.i .i64 r fun s2 r=>
 J.i .i64 r fun s3 r=>
 J.i .i64 r fun s4 r=>
 J.i .i64 r fun s5 r=>
 J.i .i64 r fun s6 r=>
 J.i .i64 r fun s7 r=>
 J.l 1 r fun s8 jY r=>
 D.nil r<|
 J.p args fun uX args=>
 D.nil args<|
 M.call (c 171 [.slice 1 image yB,.agg [.int .i64 s,.int .i64 s1,.int .i64 s2,.int .i64 s3,.int .i64 s4,.int .i64 s5,.int .i64 s6,.int .i64 s7,.slice 1 s8 jY]]) fun ds=>
 J.a ds fun bw ds=>
 J.i .i64 bw fun x r=>
 J.i .i64 r fun x1 r=>
 J.i .i64 r fun x2 r=>
 J.l 2 r fun x3 du r=>
 J.l 1 r fun x4 cE r=>
 J.l 1 r fun x5 fR r=>
 D.nil r<|
 J.p ds fun x6 ds=>
 J.i .i64 ds fun x7 ds=>
 D.nil ds<|
 M.join (fun st=>J.b st fun b1 st=>D.nil st<|
  M.join (fun st=>J.b st fun b2 st=>D.nil st<|
   bif b2 then
    M.ret [.bool false]
   else
    M.join (fun st=>
     J.l 49 st fun di Vc st=>
     D.nil st<|
     M.call (c 200 [.int .i64 s1,.slice 49 di Vc]) fun ds=>
     J.p ds fun x8 ds=>
     J.b ds fun x9 ds=>
     D.nil ds<|
     M.join (fun st=>J.b st fun b3 st=>D.nil st<|
      M.ret [.bool b3]) fun bq=>
     bif x9 then
      M.call (c 177 [.int .i64 s1,.slice 1 s8 jY]) fun ds=>
      J.p ds fun da ds=>
      D.nil ds<|
      M.call (c 201 [.ptr x6,.ptr da]) fun ds=>
      J.p ds fun eR ds=>
      D.nil ds<|
      M.call (c 202 [.ptr x8,.ptr eR]) fun ds=>
      J.b ds fun ft ds=>
      D.nil ds<|
      bq [.bool ft]
     else
      bq [.bool false]) fun aV=>
    M.loop (fun aN st=>
     J.l 49 st fun fJ Pq st=>
     J.i .i64 st fun fm st=>
     D.nil st<|
     bif decide (fm<(jY:Int))then
      M.nn s8 fun i o=>
      M.ak (au fm jY)<|
      M.ar i (fm.toNat*1+o) fun d=>
      D.int .i64 d fun iy=>
      M.call (c 203 [.slice 1 image yB,.int .i64 iy]) fun ds=>
      J.l 1 ds fun fp Kw ds=>
      D.nil ds<|
      M.call (c 204 [.slice 1 fp Kw]) fun ds=>
      J.a ds fun mj ds=>
      J.i .i64 mj fun gk r1=>
      D.len r1 48<|
      J.b ds fun gI ds=>
      D.nil ds<|
      D.len ((.int .i64 gk)::r1) 49<|
      M.join (fun st=>J.b st fun b4 st=>D.nil st<|
       bif b4 then
       M.ret [.bool false]
      else
       D.len ((.int .i64 gk)::r1) 49<|
      M.new ((.int .i64 gk)::r1) fun i1=>
      M.load i1 0 49 fun nf=>
      M.app 49 fJ Pq nf 1 1256584717458 fun p=>
      aN [.slice 49 p (Pq+1),.int .i64 (af (fm+1))]) fun ca=>
      bif !gI then
       ca [.bool true]
      else
       M.call (c 184 [.ptr x6,.int .i64 iy]) fun ds=>
      J.b ds fun kI ds=>
      D.nil ds<|
      ca [.bool kI]
     else
      aV [.slice 49 fJ Pq]) n [.slice 0 none 0,.int .i64 0]) fun aB=>
  bif b1 then
   aB [.bool true]
  else
   M.call (c 202 [.ptr x6,.ptr uX]) fun ds=>
   J.b ds fun jo ds=>
   D.nil ds<|
   aB [.bool (!jo)]) fun aq=>
 bif !(x7==0)then
  aq [.bool true]
 else
  aq [.bool uX.isNone]
def Hl:Zg->Nat->List DV->M (List DV):=fun c n args=>
 J.a args fun cs args=>
 J.i .i64 cs fun a r=>
 J.i .i64 r fun a1 r=>
 J.i .i64 r fun a2 r=>
 J.l 2 r fun a3 Aj r=>
 J.l 1 r fun a4 O8 r=>
 J.l 1 r fun a5 O9 r=>
 D.nil r<|
 J.a args fun bw args=>
 J.i .i64 bw fun b1 r=>
 J.i .i64 r fun b2 r=>
 J.i .i64 r fun b3 r=>
 J.l 2 r fun b4 Cx r=>
 J.l 1 r fun b5 Pf r=>
 J.l 1 r fun b6 Pg r=>
 D.nil r<|
 D.nil args<|
 M.join (fun st=>J.b st fun b7 st=>D.nil st<|
  M.join (fun st=>J.b st fun b8 st=>D.nil st<|
   M.join (fun st=>J.b st fun b9 st=>D.nil st<|
    M.ret [.bool b9]) fun aV=>
   bif b8 then
    M.call (c 114 [.slice 1 a5 O9,.slice 1 b6 Pg]) fun ds=>
    J.b ds fun x ds=>
    D.nil ds<|
    aV [.bool x]
   else
    aV [.bool false]) fun aB=>
  bif b7 then
   M.call (c 114 [.slice 1 a4 O8,.slice 1 b5 Pf]) fun ds=>
   J.b ds fun x1 ds=>
   D.nil ds<|
   aB [.bool x1]
  else
   aB [.bool false]) fun aq=>
 bif (a==b1)&&((a1==b2)&&((a2==b3)&&true))then
  M.call (c 198 [.slice 2 a3 Aj,.slice 2 b4 Cx,.func 199 [] []]) fun ds=>
  J.b ds fun x2 ds=>
  D.nil ds<|
  aq [.bool x2]
 else
  aq [.bool false]
def Ia:Zg->Nat->List DV->M (List DV):=fun c n args=>
 J.i .i64 args fun n1 args=>
 J.l 1 args fun l ln args=>
 D.nil args<|
 M.ak (decide (0<=af ((af ((af ((if 3072<(if n1<0 then 0 else n1)then 3072 else(if n1<0 then 0 else n1))+64))-1)).tdiv 64))&&decide (af ((af ((af ((if 3072<(if n1<0 then 0 else n1)then 3072 else(if n1<0 then 0 else n1))+64))-1)).tdiv 64)<=af ((af ((af ((if 3072<(if n1<0 then 0 else n1)then 3072 else(if n1<0 then 0 else n1))+64))-1)).tdiv 64))&&decide (af ((af ((af ((if 3072<(if n1<0 then 0 else n1)then 3072 else(if n1<0 then 0 else n1))+64))-1)).tdiv 64)<=8796093022208))<|
 M.new (fj ((af ((af ((af ((if 3072<(if n1<0 then 0 else n1)then 3072 else(if n1<0 then 0 else n1))+64))-1)).tdiv 64)).toNat) [.int .u64 0]) fun i=>
 M.new [.int .i64 (if 3072<(if n1<0 then 0 else n1)then 3072 else(if n1<0 then 0 else n1)),.slice 1 (some (i,0)) ((af ((af ((af ((if 3072<(if n1<0 then 0 else n1)then 3072 else(if n1<0 then 0 else n1))+64))-1)).tdiv 64)).toNat)] fun i1=>
 M.call (c 206 [.ptr (some (i1,0)),.slice 1 l ln]) fun ds=>
 D.nil ds<|
 M.ret [.ptr (some (i1,0))]
def GO:Zg->Nat->List DV->M (List DV):=fun c n args=>
 J.i .i64 args fun a args=>
 J.i .i64 args fun n1 args=>
 D.nil args<|
 M.ak (!(n1==0))<|
 M.ak (!(n1==0))<|
 M.ret [.int .i64 ((af ((a.tmod n1)+n1)).tmod n1)]
def FO:Zg->Nat->List DV->M (List DV):=fun c n args=>
 J.p args fun s args=>
 D.nil args<|
 M.nn s fun i o=>
 M.ar i (o+1) fun d=>
 D.slice 1 d fun x xn=>
 M.join (fun st=>
  J.i .i64 st fun n1 st=>
  D.nil st<|
  M.ret [.int .i64 n1]) fun aq=>
 M.loop (fun aN st=>
  J.i .i64 st fun n2 st=>
  J.i .i64 st fun x1 st=>
  D.nil st<|
  bif decide (x1<(xn:Int))then
   M.nn x fun i1 o1=>
   M.ak (au x1 xn)<|
   M.ar i1 (x1.toNat*1+o1) fun d1=>
   D.int .u64 d1 fun x2=>
   M.call (c 210 [.int .u64 x2]) fun ds=>
   J.i .i64 ds fun x3 ds=>
   D.nil ds<|
   aN [.int .i64 (af (n2+x3)),.int .i64 (af (x1+1))]
  else
   aq [.int .i64 n2]) n [.int .i64 0,.int .i64 0]
def Fs:Zg->Nat->List DV->M (List DV):=fun c n args=>
 J.p args fun s args=>
 J.i .i64 args fun bZ args=>
 D.nil args<|
 M.call (c 209 [.ptr s,.int .i64 bZ]) fun ds=>
 J.b ds fun x ds=>
 D.nil ds<|
 M.join (fun st=>J.b st fun b1 st=>D.nil st<|
  M.ret [.bool b1]) fun aq=>
 bif x then
  M.nn s fun i o=>
  M.ar i (o+1) fun d=>
  D.slice 1 d fun x1 nP=>
  M.nn x1 fun i1 o1=>
  M.ak (au (af (bZ.tdiv 64)) nP)<|
  M.ar i1 (((af (bZ.tdiv 64)).toNat)*1+o1) fun d1=>
  D.int .u64 d1 fun x2=>
  M.ak (decide (0<=bZ.tmod 64))<|
  aq [.bool ((bits .and .u64 (x2.fdiv (2^(min (bZ.tmod 64).toNat 64))) 1)==1)]
 else
  aq [.bool false]
def Gf:Zg->Nat->List DV->M (List DV):=fun c n args=>
 D.nil args<|
 M.base fun b0=>
 M.new [.int .i64 0,.int .i64 2,.int .i64 5,.int .i64 6] fun i=>
 M.new [.str (bs [97]),.slice 4 (some (i,0)) 1] fun i1=>
 M.new [.int .i64 2] fun i2=>
 M.lq b0 [.agg [.int .i64 16,.int .i64 2,.int .i64 3,.slice 2 (some (i1,0)) 1,.slice 1 (some (i2,0)) 1,.slice 0 none 0]]
def Fc:Zg->Nat->List DV->M (List DV):=fun c n args=>
 J.p args fun m args=>
 J.l 2 args fun l ln args=>
 D.nil args<|
 M.join (fun st=>
  J.l 1 st fun cX U6 st=>
  D.nil st<|
  M.call (c 215 [.slice 1 cX U6]) fun ds=>
  J.s ds fun x ds=>
  J.b ds fun x1 ds=>
  D.nil ds<|
  bif !x1 then
   M.ret [.int .i64 0]
  else
   M.call (c 194 [.ptr m,.str x]) fun ds=>
   J.i .i64 ds fun x2 ds=>
   D.nil ds<|
   M.ret [.int .i64 x2]) fun aq=>
 M.loop (fun aN st=>
  J.l 1 st fun SM Pb st=>
  J.i .i64 st fun i st=>
  D.nil st<|
  bif decide (i<(ln:Int))then
   M.join (fun st=>
    J.l 1 st fun U4 U5 st=>
    D.nil st<|
    aN [.slice 1 U4 U5,.int .i64 (af (i+1))]) fun aB=>
   M.nn l fun i1 o=>
   M.ak (au i ln)<|
   M.ar i1 (i.toNat*2+o) fun d=>
   D.str d fun x3=>
   M.nn l fun i2 o1=>
   M.ak (au i ln)<|
   M.ar i2 (i.toNat*2+o1+1) fun d1=>
   D.slice 4 d1 fun x4 cE=>
   M.nn l fun i3 o2=>
   M.ak (au i ln)<|
   M.ar i3 (i.toNat*2+o2+1) fun d2=>
   D.slice 4 d2 fun x5 fR=>
   M.join (fun st=>
    J.a st fun cs st=>
    J.s cs fun q r1=>
    J.i .i64 r1 fun q1 r2=>
    D.len r2 12<|
    D.nil st<|
    M.call (c 216 [.agg ((.str q)::(.int .i64 q1)::r2)]) fun ds=>
    J.s ds fun x6 ds=>
    D.nil ds<|
    M.call (c 194 [.ptr m,.str x6]) fun ds=>
    J.i .i64 ds fun x7 ds=>
    D.nil ds<|
    M.new [.int .i64 x7] fun i4=>
    M.load i4 0 1 fun bw=>
    M.app 1 SM Pb bw 1 8796093022208 fun p=>
    aB [.slice 1 p (Pb+1)]) fun aV=>
   M.loop (fun dW st=>
    J.a st fun di st=>
    J.s di fun q2 r3=>
    J.i .i64 r3 fun q3 r4=>
    D.len r4 12<|
    J.l 4 st fun rest uY st=>
    J.i .i64 st fun k st=>
    D.nil st<|
    bif decide (k<12)then
     M.ak (decide (0<=k))<|
     M.join (fun st=>
      J.a st fun fJ st=>
      J.s fJ fun q4 r5=>
      J.i .i64 r5 fun q5 r6=>
      D.len r6 12<|
      J.l 4 st fun RX RY st=>
      D.nil st<|
      dW [.agg ((.str q4)::(.int .i64 q5)::r6),.slice 4 RX RY,.int .i64 (af (k+1))]) fun bq=>
     bif ((q3.fdiv (2^(min k.toNat 64))).tmod 2)==1 then
      M.ak (decide (0<=k))<|
      M.ak (decide (0<=af (1*2^(min k.toNat 64)))&&decide (af (1*2^(min k.toNat 64))<=(uY:Int)))<|
      M.call (c 217 [.ptr m,.slice 4 rest ((af (1*2^(min k.toNat 64))).toNat)]) fun ds=>
      J.i .i64 ds fun x8 ds=>
      D.nil ds<|
      M.ak (au k 12)<|
      M.ak (Nat.ble (k.toNat*1+2+1) 14)<|
      M.ak (decide (0<=k))<|
      M.ak (decide (0<=af (1*2^(min k.toNat 64)))&&decide (af (1*2^(min k.toNat 64))<=(uY:Int)))<|
      bq [.agg ((.str q2)::(.int .i64 q3)::(bN r4 (k.toNat*1) [.int .i64 x8])),.slice 4 (cY true rest (((af (1*2^(min k.toNat 64))).toNat)*4)) (uY-((af (1*2^(min k.toNat 64))).toNat))]
     else
      bq [.agg ((.str q2)::(.int .i64 q3)::r4),.slice 4 rest uY]
    else
     aV [.agg ((.str q2)::(.int .i64 q3)::r4)]) n [.agg [.str x3,.int .i64 (cE:Int),.int .i64 0,.int .i64 0,.int .i64 0,.int .i64 0,.int .i64 0,.int .i64 0,.int .i64 0,.int .i64 0,.int .i64 0,.int .i64 0,.int .i64 0,.int .i64 0],.slice 4 x5 fR,.int .i64 0]
  else
   aq [.slice 1 SM Pb]) n [.slice 0 none 0,.int .i64 0]
def Fj:Zg->Nat->List DV->M (List DV):=fun c n args=>
 J.p args fun m args=>
 J.a args fun cs args=>
 J.i .i64 cs fun x r=>
 J.i .i64 r fun x1 r=>
 J.i .i64 r fun x2 r=>
 J.l 2 r fun x3 du r=>
 J.l 1 r fun x4 cE r=>
 J.l 1 r fun x5 fR r=>
 D.nil r<|
 D.nil args<|
 M.join (fun st=>
  J.l 1 st fun leaves J5 st=>
  D.nil st<|
  bif (J5:Int)==0 then
   M.ret [.int .i64 0]
  else
   M.join (fun st=>
    J.a st fun bw st=>
    D.len bw 16<|
    D.nil st<|
    M.call (c 218 [.agg bw]) fun ds=>
    J.s ds fun x6 ds=>
    J.b ds fun x7 ds=>
    D.nil ds<|
    M.call (c 194 [.ptr m,.str x6]) fun ds=>
    J.i .i64 ds fun x8 ds=>
    D.nil ds<|
    M.ret [.int .i64 x8]) fun aB=>
   M.loop (fun aN st=>
    J.a st fun di st=>
    D.len di 16<|
    J.i .i64 st fun i st=>
    D.nil st<|
    M.join (fun st=>J.b st fun b1 st=>D.nil st<|
     bif b1 then
      M.join (fun st=>
       J.a st fun fJ st=>
      D.len fJ 16<|
      D.nil st<|
      aN [.agg fJ,.int .i64 (af (i+1))]) fun bq=>
      M.join (fun st=>
       J.a st fun mj st=>
      D.len mj 16<|
      D.nil st<|
      M.call (c 218 [.agg mj]) fun ds=>
      J.s ds fun x9 ds=>
      J.b ds fun da ds=>
      D.nil ds<|
      M.call (c 194 [.ptr m,.str x9]) fun ds=>
      J.i .i64 ds fun eR ds=>
      D.nil ds<|
      M.ak (au i 16)<|
      M.ak (Nat.ble (i.toNat*1+1) 16)<|
      bq [.agg (bN di (i.toNat*1) [.int .i64 eR])]) fun ca=>
      M.loop (fun dW st=>
       J.a st fun nf st=>
      D.len nf 16<|
      J.i .i64 st fun k st=>
      D.nil st<|
      M.join (fun st=>J.b st fun b2 st=>D.nil st<|
       bif b2 then
       M.nn leaves fun i1 o=>
      M.ak (au (af ((af (16*i))+k)) J5)<|
      M.ar i1 (((af ((af (16*i))+k)).toNat)*1+o) fun d=>
      D.int .i64 d fun ft=>
      M.ak (au k 16)<|
      M.ak (Nat.ble (k.toNat*1+1) 16)<|
      dW [.agg (bN nf (k.toNat*1) [.int .i64 ft]),.int .i64 (af (k+1))]
      else
       ca [.agg nf]) fun eM=>
      bif decide (k<16)then
       eM [.bool (decide (af ((af (16*i))+k)<(J5:Int)))]
      else
       eM [.bool false]) n [.agg (List.replicate 16 (.int .i64 0)),.int .i64 0]
     else
      aB [.agg di]) fun aV=>
    bif decide (i<16)then
     aV [.bool (decide (af (16*i)<(J5:Int)))]
    else
     aV [.bool false]) n [.agg (List.replicate 16 (.int .i64 0)),.int .i64 0]) fun aq=>
 M.loop (fun wU st=>
  J.l 1 st fun Ug Rt st=>
  J.i .i64 st fun first st=>
  D.nil st<|
  bif decide (first<(cE:Int))then
   M.join (fun st=>
    J.l 1 st fun WZ W0 st=>
    D.nil st<|
    wU [.slice 1 WZ W0,.int .i64 (af (first+7))]) fun iJ=>
   M.join (fun st=>
    J.a st fun vQ st=>
    D.len vQ 21<|
    D.nil st<|
    M.call (c 219 [.agg vQ]) fun ds=>
    J.s ds fun fm ds=>
    J.b ds fun iy ds=>
    D.nil ds<|
    M.call (c 194 [.ptr m,.str fm]) fun ds=>
    J.i .i64 ds fun fp ds=>
    D.nil ds<|
    M.new [.int .i64 fp] fun i2=>
    M.load i2 0 1 fun cs7=>
    M.app 1 Ug Rt cs7 1 8796093022208 fun p=>
    iJ [.slice 1 p (Rt+1)]) fun jm=>
   M.loop (fun RW st=>
    J.a st fun ue st=>
    D.len ue 21<|
    J.i .i64 st fun i3 st=>
    D.nil st<|
    M.join (fun st=>J.b st fun b3 st=>D.nil st<|
     bif b3 then
      M.join (fun st=>
       J.a st fun CE st=>
      D.len CE 21<|
      D.nil st<|
      RW [.agg CE,.int .i64 (af (i3+1))]) fun ku=>
      M.nn x4 fun i4 o1=>
      M.ak (au (af (first+i3)) cE)<|
      M.ar i4 (((af (first+i3)).toNat)*1+o1) fun d1=>
      D.int .i64 d1 fun gk=>
      M.ak (au i3 7)<|
      M.ak (Nat.ble (i3.toNat*3+3) 21)<|
      M.nn m fun i5 o2=>
      M.ar i5 (o2+2) fun d2=>
      D.slice 1 d2 fun gI u6=>
      M.nn gI fun i6 o3=>
      M.ak (au (af (first+i3)) u6)<|
      M.ar i6 (((af (first+i3)).toNat)*1+o3) fun d3=>
      D.int .i64 d3 fun kI=>
      M.join (fun st=>
       J.a st fun CC st=>
      D.len CC 21<|
      D.nil st<|
      M.join (fun st=>
       J.a st fun CD st=>
      D.len CD 21<|
      D.nil st<|
      ku [.agg CD]) fun mF=>
      M.loop (fun D7 st=>
       J.a st fun oj st=>
      D.len oj 21<|
      J.i .i64 st fun k1 st=>
      D.nil st<|
      bif decide (af (k1+1)<(fR:Int))then
       M.nn x5 fun i7 o4=>
      M.ak (au k1 fR)<|
      M.ar i7 (k1.toNat*1+o4) fun d4=>
      D.int .i64 d4 fun jo=>
      M.join (fun st=>
       J.a st fun vP st=>
      D.len vP 21<|
      D.nil st<|
      D7 [.agg vP,.int .i64 (af (k1+1))]) fun kz=>
      bif jo==(af (first+i3))then
       M.nn x5 fun i8 o5=>
      M.ak (au (af (k1+1)) fR)<|
      M.ar i8 (((af (k1+1)).toNat)*1+o5) fun d5=>
      D.int .i64 d5 fun j1=>
      M.ak (au i3 7)<|
      M.ak (Nat.ble (i3.toNat*3+2+1) 21)<|
      kz [.agg (bN oj (i3.toNat*3+2) [.int .i64 (af (j1+1))])]
      else
       kz [.agg oj]
      else
       mF [.agg oj]) n [.agg CC,.int .i64 0]) fun jH=>
      bif !(kI==0)then
       M.ak (au i3 7)<|
      M.ak (Nat.ble (i3.toNat*3+1) 21)<|
      M.nn m fun i9 o6=>
      M.ar i9 (o6+2) fun d6=>
      D.slice 1 d6 fun mM Eh=>
      M.nn mM fun i10 o7=>
      M.ak (au (af (first+i3)) Eh)<|
      M.ar i10 (((af (first+i3)).toNat)*1+o7) fun d7=>
      D.int .i64 d7 fun qP=>
      M.ak (au i3 7)<|
      M.ak (Nat.ble (i3.toNat*3+2+1) 21)<|
      jH [.agg (bN (bN (bN ue (i3.toNat*3) [.bool false,.int .i64 gk,.int .i64 0]) (i3.toNat*3) [.bool true]) (i3.toNat*3+2) [.int .i64 qP])]
      else
       jH [.agg (bN ue (i3.toNat*3) [.bool false,.int .i64 gk,.int .i64 0])]
     else
      jm [.agg ue]) fun iK=>
    bif decide (i3<7)then
     iK [.bool (decide (af (first+i3)<(cE:Int)))]
    else
     iK [.bool false]) n [.agg [.bool false,.int .i64 0,.int .i64 0,.bool false,.int .i64 0,.int .i64 0,.bool false,.int .i64 0,.int .i64 0,.bool false,.int .i64 0,.int .i64 0,.bool false,.int .i64 0,.int .i64 0,.bool false,.int .i64 0,.int .i64 0,.bool false,.int .i64 0,.int .i64 0],.int .i64 0]
  else
   aq [.slice 1 Ug Rt]) n [.slice 0 none 0,.int .i64 0]
def G5:Zg->Nat->List DV->M (List DV):=fun c n args=>
 J.a args fun cs args=>
 J.i .i64 cs fun s r=>
 J.i .i64 r fun s1 r=>
 J.i .i64 r fun s2 r=>
 J.i .i64 r fun s3 r=>
 J.i .i64 r fun s4 r=>
 J.i .i64 r fun s5 r=>
 J.i .i64 r fun s6 r=>
 J.i .i64 r fun s7 r=>
 J.l 1 r fun s8 jY r=>
 D.nil r<|
 D.nil args<|
 M.ew (c 213 [.int .u64 (IntKind.wrap .u64 (s)),.int .i64 8]) fun ds=>
 J.s ds fun x ds=>
 D.nil ds<|
 M.ew (c 213 [.int .u64 (IntKind.wrap .u64 (s1)),.int .i64 4]) fun ds=>
 J.s ds fun x1 ds=>
 D.nil ds<|
 M.ak (Nat.ble (x.length+x1.length) 4611686018427387904)<|
 M.ew (c 213 [.int .u64 (IntKind.wrap .u64 (s2)),.int .i64 4]) fun ds=>
 J.s ds fun x2 ds=>
 D.nil ds<|
 M.ak (Nat.ble ((x++x1).length+x2.length) 4611686018427387904)<|
 M.ew (c 213 [.int .u64 (IntKind.wrap .u64 (s3)),.int .i64 4]) fun ds=>
 J.s ds fun x3 ds=>
 D.nil ds<|
 M.ak (Nat.ble (((x++x1)++x2).length+x3.length) 4611686018427387904)<|
 M.ew (c 213 [.int .u64 (IntKind.wrap .u64 (s5)),.int .i64 4]) fun ds=>
 J.s ds fun x4 ds=>
 D.nil ds<|
 M.ak (Nat.ble ((((x++x1)++x2)++x3).length+x4.length) 4611686018427387904)<|
 M.ig (c 213 [.int .u64 (IntKind.wrap .u64 (s6)),.int .i64 4]) fun ds=>
 J.s ds fun x5 ds=>
 D.nil ds<|
 M.ak (Nat.ble (((((x++x1)++x2)++x3)++x4).length+x5.length) 4611686018427387904)<|
 M.ew (c 213 [.int .u64 (IntKind.wrap .u64 (s4)),.int .i64 2]) fun ds=>
 J.s ds fun x6 ds=>
 D.nil ds<|
 M.ak (Nat.ble ((((((x++x1)++x2)++x3)++x4)++x5).length+x6.length) 4611686018427387904)<|
 M.ig (c 213 [.int .u64 (IntKind.wrap .u64 (s7)),.int .i64 2]) fun ds=>
 J.s ds fun x7 ds=>
 D.nil ds<|
 M.ak (Nat.ble (((((((x++x1)++x2)++x3)++x4)++x5)++x6).length+x7.length) 4611686018427387904)<|
 M.join (fun st=>
  J.s st fun t st=>
  D.nil st<|
  M.call (c 214 [.int .i64 7,.int .i64 (jY:Int),.str t]) fun ds=>
  J.s ds fun x8 ds=>
  D.nil ds<|
  M.ret [.str x8]) fun aq=>
 M.loop (fun aN st=>
  J.s st fun t1 st=>
  J.i .i64 st fun i st=>
  D.nil st<|
  bif decide (i<(jY:Int))then
   M.nn s8 fun i1 o=>
   M.ak (au i jY)<|
   M.ar i1 (i.toNat*1+o) fun d=>
   D.int .i64 d fun x9=>
   M.call (c 213 [.int .u64 (IntKind.wrap .u64 (x9)),.int .i64 2]) fun ds=>
   J.s ds fun da ds=>
   D.nil ds<|
   M.ak (Nat.ble (t1.length+da.length) 4611686018427387904)<|
   aN [.str (t1++da),.int .i64 (af (i+1))]
  else
   aq [.str t1]) n [.str (((((((x++x1)++x2)++x3)++x4)++x5)++x6)++x7),.int .i64 0]
def GB:Zg->Nat->List DV->M (List DV):=fun c n args=>
 J.i .i64 args fun place args=>
 J.l 1 args fun l ln args=>
 D.nil args<|
 M.join (fun st=>
  J.a st fun cs st=>
  J.i .i64 cs fun c1 r1=>
  D.len r1 48<|
  D.nil st<|
  D.len ((.int .i64 c1)::r1) 49<|
  M.ret [.agg ((.int .i64 c1)::r1)]) fun aq=>
 M.loop (fun aN st=>
  J.a st fun bw st=>
  J.i .i64 bw fun c2 r2=>
  D.len r2 48<|
  J.i .i64 st fun i st=>
  D.nil st<|
  bif decide (i<(ln:Int))then
   M.nn l fun i1 o=>
   M.ak (au i ln)<|
   M.ar i1 (i.toNat*1+o) fun d=>
   D.int .i64 d fun x=>
   M.join (fun st=>J.b st fun b1 st=>D.nil st<|
    M.join (fun st=>
     J.a st fun di st=>
     J.i .i64 di fun c3 r3=>
     D.len r3 48<|
     D.nil st<|
     aN [.agg ((.int .i64 c3)::r3),.int .i64 (af (i+1))]) fun aV=>
    bif b1 then
     M.nn l fun i2 o1=>
     M.ak (au i ln)<|
     M.ar i2 (i.toNat*1+o1) fun d1=>
     D.int .i64 d1 fun x1=>
     M.ak (au (af ((af (x1-(af (384*place)))).tdiv 8)) 48)<|
     D.nth r2 (((af ((af (x1-(af (384*place)))).tdiv 8)).toNat)*1) fun d2=>
     D.int .u8 d2 fun x2=>
     M.ak (decide (0<=(af (x1-(af (384*place)))).tmod 8))<|
     M.ak (au (af ((af (x1-(af (384*place)))).tdiv 8)) 48)<|
     M.ak (Nat.ble (((af ((af (x1-(af (384*place)))).tdiv 8)).toNat)*1+1+1) 49)<|
     aV [.agg ((.int .i64 c2)::(bN r2 (((af ((af (x1-(af (384*place)))).tdiv 8)).toNat)*1) [.int .u8 (bits .or .u8 x2 (IntKind.wrap .u8 (1*2^(min ((af (x1-(af (384*place)))).tmod 8).toNat 8))))]))]
    else
     aV [.agg ((.int .i64 c2)::r2)]) fun aB=>
   bif decide (x>=af (384*place))then
    M.nn l fun i3 o2=>
    M.ak (au i ln)<|
    M.ar i3 (i.toNat*1+o2) fun d3=>
    D.int .i64 d3 fun x3=>
    aB [.bool (decide (x3<af ((af (384*place))+384)))]
   else
    aB [.bool false]
  else
   aq [.agg ((.int .i64 c2)::r2)]) n [.agg [.int .i64 place,.int .u8 0,.int .u8 0,.int .u8 0,.int .u8 0,.int .u8 0,.int .u8 0,.int .u8 0,.int .u8 0,.int .u8 0,.int .u8 0,.int .u8 0,.int .u8 0,.int .u8 0,.int .u8 0,.int .u8 0,.int .u8 0,.int .u8 0,.int .u8 0,.int .u8 0,.int .u8 0,.int .u8 0,.int .u8 0,.int .u8 0,.int .u8 0,.int .u8 0,.int .u8 0,.int .u8 0,.int .u8 0,.int .u8 0,.int .u8 0,.int .u8 0,.int .u8 0,.int .u8 0,.int .u8 0,.int .u8 0,.int .u8 0,.int .u8 0,.int .u8 0,.int .u8 0,.int .u8 0,.int .u8 0,.int .u8 0,.int .u8 0,.int .u8 0,.int .u8 0,.int .u8 0,.int .u8 0,.int .u8 0],.int .i64 0]
def Ho:Zg->Nat->List DV->M (List DV):=fun c n args=>
 J.a args fun cs args=>
 J.i .i64 cs fun c1 r1=>
 D.len r1 48<|
 D.nil args<|
 D.len ((.int .i64 c1)::r1) 49<|
 M.new ((.int .i64 c1)::r1) fun c2=>
 M.ar c2 0 fun d=>
 D.int .i64 d fun x=>
 M.load c2 1 48 fun _=>
 M.load c2 1 48 fun bw=>
 D.cO bw fun l=>
 M.call (c 214 [.int .i64 4,.int .i64 x,.str l]) fun ds=>
 J.s ds fun x1 ds=>
 D.nil ds<|
 M.ret [.str x1]
def Fe:Zg->Nat->List DV->M (List DV):=fun c n args=>
 J.p args fun m args=>
 J.s args fun s args=>
 D.nil args<|
 M.nn m fun i o=>
 M.ar i (o+1) fun d=>
 D.int .i64 d fun x=>
 M.nn m fun i1 o1=>
 M.ar i1 (o1+1) fun d1=>
 D.int .i64 d1 fun x1=>
 M.nn m fun i2 o2=>
 M.store i2 (o2+1) [.int .i64 (af (x1+1))]<|
 M.nn m fun i3 o3=>
 M.ar i3 o3 fun d2=>
 D.slice 1 d2 fun x2 dh=>
 M.join (fun st=>
  D.nil st<|
  M.ret [.int .i64 x]) fun aq=>
 bif decide ((dh:Int)>=af ((af (64*x))+64))then
  M.nn m fun i4 o4=>
  M.ar i4 o4 fun d3=>
  D.slice 1 d3 fun x3 du=>
  M.ak (decide (0<=af (64*x))&&decide (af (64*x)<=(du:Int)))<|
  M.wr (cY true x3 (((af (64*x)).toNat)*1)) (ZH (s.take (du-((af (64*x)).toNat))))<|
  aq []
 else
  aq []
def F3:Zg->Nat->List DV->M (List DV):=fun c n args=>
 J.a args fun cs args=>
 J.i .i64 cs fun s r=>
 J.i .i64 r fun s1 r=>
 J.i .i64 r fun s2 r=>
 J.i .i64 r fun s3 r=>
 J.i .i64 r fun s4 r=>
 J.i .i64 r fun s5 r=>
 J.i .i64 r fun s6 r=>
 J.i .i64 r fun s7 r=>
 J.l 1 r fun s8 jY r=>
 D.nil r<|
 D.nil args<|
 M.join (fun st=>J.b st fun b1 st=>D.nil st<|
  M.join (fun st=>J.b st fun b2 st=>D.nil st<|
   bif b2 then
    M.ret [.bool false]
   else
    M.join (fun st=>J.b st fun b3 st=>D.nil st<|
     M.join (fun st=>J.b st fun b4 st=>D.nil st<|
      M.join (fun st=>J.b st fun b5 st=>D.nil st<|
       M.join (fun st=>J.b st fun b6 st=>D.nil st<|
       bif b6 then
       M.ret [.bool false]
      else
       M.join (fun st=>
       J.l 1 st fun DS Rw st=>
      D.nil st<|
      M.join (fun st=>
       J.l 1 st fun W4 W5 st=>
      D.nil st<|
      M.join (fun st=>
       J.l 1 st fun Ul Ru st=>
      D.nil st<|
      M.join (fun st=>
       D.nil st<|
      M.ret [.bool true]) fun ku=>
      M.loop (fun aN st=>
       J.i .i64 st fun i st=>
      D.nil st<|
      bif decide (i<(Ru:Int))then
       M.nn Ul fun i1 o=>
      M.ak (au i Ru)<|
      M.ar i1 (i.toNat*1+o) fun d=>
      D.int .i64 d fun x=>
      M.join (fun st=>J.b st fun b7 st=>D.nil st<|
       bif b7 then
       M.ret [.bool false]
      else
       aN [.int .i64 (af (i+1))]) fun jH=>
      bif decide (x<2)then
       jH [.bool true]
      else
       M.nn Ul fun i2 o1=>
      M.ak (au i Ru)<|
      M.ar i2 (i.toNat*1+o1) fun d1=>
      D.int .i64 d1 fun x1=>
      jH [.bool (decide (x1>=s1))]
      else
       ku []) n [.int .i64 0]) fun iK=>
      M.loop (fun dW st=>
       J.l 1 st fun Um Rv st=>
      J.i .i64 st fun i3 st=>
      D.nil st<|
      bif decide (i3<(jY:Int))then
       M.join (fun st=>
       J.l 1 st fun W6 W7 st=>
      D.nil st<|
      dW [.slice 1 W6 W7,.int .i64 (af (i3+1))]) fun mF=>
      M.nn s8 fun i4 o2=>
      M.ak (au i3 jY)<|
      M.ar i4 (i3.toNat*1+o2) fun d2=>
      D.int .i64 d2 fun x2=>
      M.new [.int .i64 x2] fun i5=>
      M.load i5 0 1 fun bw=>
      M.app 1 Um Rv bw 1 8796093022208 fun p=>
      M.join (fun st=>
       D.nil st<|
      mF [.slice 1 p (Rv+1)]) fun kz=>
      M.loop (fun wU st=>
       J.i .i64 st fun k st=>
      D.nil st<|
      bif decide (k<i3)then
       M.nn s8 fun i6 o3=>
      M.ak (au k jY)<|
      M.ar i6 (k.toNat*1+o3) fun d3=>
      D.int .i64 d3 fun x3=>
      M.nn s8 fun i7 o4=>
      M.ak (au i3 jY)<|
      M.ar i7 (i3.toNat*1+o4) fun d4=>
      D.int .i64 d4 fun x4=>
      bif x3==x4 then
       M.ret [.bool false]
      else
       wU [.int .i64 (af (k+1))]
      else
       kz []) n [.int .i64 0]
      else
       iK [.slice 1 Um Rv]) n [.slice 1 W4 W5,.int .i64 0]) fun jm=>
      bif !(s7==0)then
       M.new [.int .i64 s7] fun i8=>
      M.load i8 0 1 fun di=>
      M.app 1 DS Rw di 1 8796093022208 fun p1=>
      jm [.slice 1 p1 (Rw+1)]
      else
       jm [.slice 1 DS Rw]) fun iJ=>
      bif s5==0 then
       bif !(s4==0)then
       M.ret [.bool false]
      else
       iJ [.slice 0 none 0]
      else
       M.new [.int .i64 s4] fun i9=>
      M.load i9 0 1 fun fJ=>
      M.app 1 none 0 fJ 1 8796093022208 fun p2=>
      iJ [.slice 1 p2 1]) fun eM=>
      bif b5 then
       eM [.bool true]
      else
       M.ig (c 196 [.agg [.int .i64 s1,.int .i64 s2,.int .i64 s3]]) fun ds=>
      J.i .i64 ds fun x5 ds=>
      D.nil ds<|
      eM [.bool (!((jY:Int)==x5))]) fun ca=>
      bif b4 then
       ca [.bool true]
      else
       ca [.bool (decide (s6>s5))]) fun bq=>
     bif b3 then
      bq [.bool true]
     else
      bq [.bool (decide (s6<0))]) fun aV=>
    bif decide (s5<0)then
     aV [.bool true]
    else
     aV [.bool (decide (s5>s2))]) fun aB=>
  bif b1 then
   aB [.bool true]
  else
   M.call (c 141 [.agg [.int .i64 s1,.int .i64 s2,.int .i64 s3]]) fun ds=>
   J.b ds fun x6 ds=>
   D.nil ds<|
   aB [.bool (!x6)]) fun aq=>
 bif decide (s<1)then
  aq [.bool true]
 else
  aq [.bool (decide (s>4611686018427387904))]
def Gp:Zg->Nat->List DV->M (List DV):=fun c n args=>
 J.a args fun cs args=>
 J.i .i64 cs fun g r=>
 J.i .i64 r fun g1 r=>
 J.i .i64 r fun g2 r=>
 D.nil r<|
 D.nil args<|
 M.call (c 220 [.int .i64 g,.int .i64 384]) fun ds=>
 J.i .i64 ds fun x ds=>
 D.nil ds<|
 M.ret [.int .i64 x]
def Gb:Zg->Nat->List DV->M (List DV):=fun c n args=>
 J.a args fun cs args=>
 J.i .i64 cs fun s r=>
 J.i .i64 r fun s1 r=>
 J.i .i64 r fun s2 r=>
 J.i .i64 r fun s3 r=>
 J.i .i64 r fun s4 r=>
 J.i .i64 r fun s5 r=>
 J.i .i64 r fun s6 r=>
 J.i .i64 r fun s7 r=>
 J.l 1 r fun s8 jY r=>
 D.nil r<|
 D.nil args<|
 M.new [.int .i64 s,.int .i64 s1,.int .i64 s2,.int .i64 s3,.int .i64 s4,.int .i64 s5,.int .i64 s6,.int .i64 s7,.slice 1 s8 jY] fun s9=>
 M.ar s9 0 fun d=>
 D.int .i64 d fun x=>
 M.join (fun st=>J.b st fun b1 st=>D.nil st<|
  M.join (fun st=>J.b st fun b2 st=>D.nil st<|
   M.join (fun st=>J.b st fun b3 st=>D.nil st<|
    M.join (fun st=>J.b st fun b4 st=>D.nil st<|
     M.join (fun st=>J.b st fun b5 st=>D.nil st<|
      M.join (fun st=>J.b st fun b6 st=>D.nil st<|
       bif b6 then
       M.ret [.bool false]
      else
       M.ar s9 5 fun d1=>
      D.int .i64 d1 fun x1=>
      M.join (fun st=>J.b st fun b7 st=>D.nil st<|
       M.join (fun st=>J.b st fun b8 st=>D.nil st<|
       M.join (fun st=>J.b st fun b9 st=>D.nil st<|
       M.join (fun st=>J.b st fun vM st=>D.nil st<|
       bif vM then
       M.ret [.bool false]
      else
       M.ar s9 8 fun d2=>
      D.slice 1 d2 fun x2 dh=>
      M.join (fun st=>
       D.nil st<|
      M.ret [.bool true]) fun jH=>
      M.loop (fun aN st=>
       J.i .i64 st fun x3 st=>
      D.nil st<|
      bif decide (x3<(dh:Int))then
       M.nn x2 fun i o=>
      M.ak (au x3 dh)<|
      M.ar i (x3.toNat*1+o) fun d3=>
      D.int .i64 d3 fun x4=>
      M.call (c 221 [.int .i64 x4,.ptr (some (s9,0))]) fun ds=>
      J.b ds fun x5 ds=>
      D.nil ds<|
      M.join (fun st=>J.b st fun Pc st=>D.nil st<|
       bif Pc then
       M.ret [.bool false]
      else
       aN [.int .i64 (af (x3+1))]) fun mF=>
      bif !x5 then
       mF [.bool true]
      else
       M.ar s9 8 fun d4=>
      D.slice 1 d4 fun x6 qQ=>
      M.ak (decide (0<=x3)&&decide (x3<=(qQ:Int)))<|
      M.call (c 222 [.slice 1 x6 x3.toNat,.int .i64 x4]) fun ds=>
      J.b ds fun x7 ds=>
      D.nil ds<|
      mF [.bool x7]
      else
       jH []) n [.int .i64 0]) fun ku=>
      bif b9 then
       ku [.bool true]
      else
       M.ar s9 8 fun d5=>
      D.slice 1 d5 fun x8 wX=>
      M.load s9 1 3 fun bw=>
      J.i .i64 bw fun x9 r=>
      J.i .i64 r fun da r=>
      J.i .i64 r fun eR r=>
      D.nil r<|
      M.ew (c 223 [.agg [.int .i64 x9,.int .i64 da,.int .i64 eR]]) fun ds=>
      J.i .i64 ds fun ft ds=>
      D.nil ds<|
      ku [.bool (!((wX:Int)==ft))]) fun iK=>
      bif b8 then
       iK [.bool true]
      else
       M.ar s9 7 fun d6=>
      D.int .i64 d6 fun fm=>
      M.join (fun st=>J.b st fun Pd st=>D.nil st<|
       iK [.bool Pd]) fun kz=>
      bif !(fm==0)then
       M.ar s9 7 fun d7=>
      D.int .i64 d7 fun iy=>
      M.call (c 221 [.int .i64 iy,.ptr (some (s9,0))]) fun ds=>
      J.b ds fun fp ds=>
      D.nil ds<|
      kz [.bool (!fp)]
      else
       kz [.bool false]) fun jm=>
      bif b7 then
       jm [.bool true]
      else
       M.ar s9 5 fun d8=>
      D.int .i64 d8 fun gk=>
      M.join (fun st=>J.b st fun Pe st=>D.nil st<|
       jm [.bool Pe]) fun DN=>
      bif decide (gk>0)then
       M.ar s9 4 fun d9=>
      D.int .i64 d9 fun gI=>
      M.call (c 221 [.int .i64 gI,.ptr (some (s9,0))]) fun ds=>
      J.b ds fun kI ds=>
      D.nil ds<|
      DN [.bool (!kI)]
      else
       DN [.bool false]) fun iJ=>
      bif x1==0 then
       M.ar s9 4 fun d10=>
      D.int .i64 d10 fun jo=>
      iJ [.bool (!(jo==0))]
      else
       iJ [.bool false]) fun eM=>
      bif b5 then
       eM [.bool true]
      else
       M.ar s9 6 fun d11=>
      D.int .i64 d11 fun j1=>
      M.ar s9 5 fun d12=>
      D.int .i64 d12 fun mM=>
      eM [.bool (decide (j1>mM))]) fun ca=>
     bif b4 then
      ca [.bool true]
     else
      M.ar s9 6 fun d13=>
      D.int .i64 d13 fun qP=>
      ca [.bool (decide (qP<0))]) fun bq=>
    bif b3 then
     bq [.bool true]
    else
     M.ar s9 5 fun d14=>
     D.int .i64 d14 fun tB=>
     M.ar s9 2 fun d15=>
     D.int .i64 d15 fun wW=>
     bq [.bool (decide (tB>wW))]) fun aV=>
   bif b2 then
    aV [.bool true]
   else
    M.ar s9 5 fun d16=>
    D.int .i64 d16 fun u7=>
    aV [.bool (decide (u7<0))]) fun aB=>
  bif b1 then
   aB [.bool true]
  else
   M.load s9 1 3 fun di=>
   J.i .i64 di fun yQ r=>
   J.i .i64 r fun yR r=>
   J.i .i64 r fun yS r=>
   D.nil r<|
   M.call (c 145 [.agg [.int .i64 yQ,.int .i64 yR,.int .i64 yS]]) fun ds=>
   J.b ds fun yT ds=>
   D.nil ds<|
   aB [.bool (!yT)]) fun aq=>
 bif decide (x<1)then
  aq [.bool true]
 else
  M.ar s9 0 fun d17=>
  D.int .i64 d17 fun yU=>
  aq [.bool (decide (yU>4611686018427387904))]
def Zu:Zg->Nat->List DV->M (List DV):=fun c n args=>
 J.l 2 args fun s1 kE args=>
 J.l 2 args fun s2 nJ args=>
 J.f args fun eq eqf eqc args=>
 D.nil args<|
 bif !((kE:Int)==(nJ:Int))then
  M.ret [.bool false]
 else
  M.join (fun st=>
   D.nil st<|
   M.ret [.bool true]) fun aq=>
  M.loop (fun aN st=>
   J.i .i64 st fun x st=>
   D.nil st<|
   bif decide (x<(kE:Int))then
    M.nn s1 fun i o=>
    M.ak (au x kE)<|
    M.load i (x.toNat*2+o) 2 fun cs=>
    J.s cs fun x1 r=>
    J.l 4 r fun x2 dh r=>
    D.nil r<|
    M.nn s2 fun i1 o1=>
    M.ak (au x nJ)<|
    M.load i1 (x.toNat*2+o1) 2 fun bw=>
    J.s bw fun x3 r=>
    J.l 4 r fun x4 cE r=>
    D.nil r<|
    M.call (c eq (eqf++[.agg [.str x1,.slice 4 x2 dh],.agg [.str x3,.slice 4 x4 cE]]++eqc)) fun ds=>
    J.b ds fun x5 ds=>
    D.nil ds<|
    bif !x5 then
     M.ret [.bool false]
    else
     aN [.int .i64 (af (x+1))]
   else
    aq []) n [.int .i64 0]
def Hr:Zg->Nat->List DV->M (List DV):=fun c n args=>
 J.a args fun cs args=>
 J.s cs fun a r=>
 J.l 4 r fun a1 a1n r=>
 D.nil r<|
 J.a args fun bw args=>
 J.s bw fun b1 r=>
 J.l 4 r fun b2 b2n r=>
 D.nil r<|
 D.nil args<|
 M.join (fun st=>J.b st fun b3 st=>D.nil st<|
  M.ret [.bool b3]) fun aq=>
 bif a==b1 then
  M.call (c 235 [.slice 4 a1 a1n,.slice 4 b2 b2n]) fun ds=>
  J.b ds fun x ds=>
  D.nil ds<|
  aq [.bool x]
 else
  aq [.bool false]
def G0:Zg->Nat->List DV->M (List DV):=fun c n args=>
 J.i .i64 args fun n1 args=>
 J.l 49 args fun cs Pr args=>
 D.nil args<|
 M.join (fun st=>J.b st fun b1 st=>D.nil st<|
  M.join (fun st=>J.b st fun b2 st=>D.nil st<|
   bif b2 then
    M.ret [.ptr none,.bool false]
   else
    M.call (c 177 [.int .i64 n1,.slice 0 none 0]) fun ds=>
    J.p ds fun x ds=>
    D.nil ds<|
    M.join (fun st=>
     D.nil st<|
     M.ret [.ptr x,.bool true]) fun aV=>
    M.loop (fun aN st=>
     J.i .i64 st fun x1 st=>
     D.nil st<|
     bif decide (x1<(Pr:Int))then
      M.nn cs fun i o=>
      M.ak (au x1 Pr)<|
      M.load i (x1.toNat*49+o) 49 fun bw=>
      J.i .i64 bw fun x2 r1=>
      D.len r1 48<|
      D.len ((.int .i64 x2)::r1) 49<|
      M.call (c 239 [.agg ((.int .i64 x2)::r1)]) fun ds=>
      J.l 1 ds fun x3 du ds=>
      D.nil ds<|
      M.join (fun st=>J.b st fun b3 st=>D.nil st<|
       bif b3 then
       M.ret [.ptr none,.bool false]
      else
       M.call (c 206 [.ptr x,.slice 1 x3 du]) fun ds=>
      D.nil ds<|
      aN [.int .i64 (af (x1+1))]) fun bq=>
      bif !(x2==x1)then
       bq [.bool true]
      else
       M.join (fun st=>J.b st fun b4 st=>D.nil st<|
       bq [.bool b4]) fun ca=>
      bif decide ((du:Int)>0)then
       M.nn x3 fun i1 o1=>
      M.ak (au (af ((du:Int)-1)) du)<|
      M.ar i1 (((af ((du:Int)-1)).toNat)*1+o1) fun d=>
      D.int .i64 d fun x4=>
      ca [.bool (decide (x4>=n1))]
      else
       ca [.bool false]
     else
      aV []) n [.int .i64 0]) fun aB=>
  bif b1 then
   aB [.bool true]
  else
   M.call (c 240 [.int .i64 n1]) fun ds=>
   J.i .i64 ds fun x5 ds=>
   D.nil ds<|
   aB [.bool (!((Pr:Int)==x5))]) fun aq=>
 bif decide (n1<0)then
  aq [.bool true]
 else
  aq [.bool (decide (n1>3072))]
def Fy:Zg->Nat->List DV->M (List DV):=fun c n args=>
 J.p args fun s args=>
 J.p args fun t args=>
 D.nil args<|
 M.call (c 241 [.ptr s]) fun ds=>
 J.p ds fun x ds=>
 D.nil ds<|
 M.call (c 172 [.ptr t]) fun ds=>
 J.l 1 ds fun x1 nP ds=>
 D.nil ds<|
 M.call (c 206 [.ptr x,.slice 1 x1 nP]) fun ds=>
 D.nil ds<|
 M.ret [.ptr x]
def FC:Zg->Nat->List DV->M (List DV):=fun c n args=>
 J.p args fun s args=>
 J.p args fun t args=>
 D.nil args<|
 M.nn s fun i o=>
 M.ar i o fun d=>
 D.int .i64 d fun x=>
 M.nn t fun i1 o1=>
 M.ar i1 o1 fun d1=>
 D.int .i64 d1 fun x1=>
 M.join (fun st=>J.b st fun b1 st=>D.nil st<|
  M.ret [.bool b1]) fun aq=>
 bif x==x1 then
  M.nn s fun i2 o2=>
  M.ar i2 (o2+1) fun d2=>
  D.slice 1 d2 fun x2 dh=>
  M.nn t fun i3 o3=>
  M.ar i3 (o3+1) fun d3=>
  D.slice 1 d3 fun x3 du=>
  M.call (c 236 [.slice 1 x2 dh,.slice 1 x3 du]) fun ds=>
  J.b ds fun x4 ds=>
  D.nil ds<|
  aq [.bool x4]
 else
  aq [.bool false]
def Hk:Zg->Nat->List DV->M (List DV):=fun c n args=>
 J.l 1 args fun image yB args=>
 J.i .i64 args fun bZ args=>
 D.nil args<|
 M.base fun b0=>
 M.ak (decide (0<=af ((af (bZ+1))*64))&&decide (af ((af (bZ+1))*64)<=(yB:Int)))<|
 M.ak (decide (0<=af (bZ*64))&&decide (af (bZ*64)<=(((af ((af (bZ+1))*64)).toNat:Nat):Int)))<|
 M.lq b0 [.slice 1 (cY true image (((af (bZ*64)).toNat)*1)) (((af ((af (bZ+1))*64)).toNat)-((af (bZ*64)).toNat))]
def Hh:Zg->Nat->List DV->M (List DV):=fun c n args=>
 J.l 1 args fun b1 ck args=>
 D.nil args<|
 M.call (c 237 [.slice 1 b1 ck]) fun ds=>
 J.i .i64 ds fun x ds=>
 J.i .i64 ds fun x1 ds=>
 J.l 1 ds fun x2 dh ds=>
 J.b ds fun x3 ds=>
 D.nil ds<|
 M.join (fun st=>J.b st fun b2 st=>D.nil st<|
  M.join (fun st=>J.b st fun b3 st=>D.nil st<|
   M.join (fun st=>J.b st fun b4 st=>D.nil st<|
    bif b4 then
     M.ret [.agg [.int .i64 0,.int .u8 0,.int .u8 0,.int .u8 0,.int .u8 0,.int .u8 0,.int .u8 0,.int .u8 0,.int .u8 0,.int .u8 0,.int .u8 0,.int .u8 0,.int .u8 0,.int .u8 0,.int .u8 0,.int .u8 0,.int .u8 0,.int .u8 0,.int .u8 0,.int .u8 0,.int .u8 0,.int .u8 0,.int .u8 0,.int .u8 0,.int .u8 0,.int .u8 0,.int .u8 0,.int .u8 0,.int .u8 0,.int .u8 0,.int .u8 0,.int .u8 0,.int .u8 0,.int .u8 0,.int .u8 0,.int .u8 0,.int .u8 0,.int .u8 0,.int .u8 0,.int .u8 0,.int .u8 0,.int .u8 0,.int .u8 0,.int .u8 0,.int .u8 0,.int .u8 0,.int .u8 0,.int .u8 0,.int .u8 0],.bool false]
    else
     M.new [.int .i64 0,.int .u8 0,.int .u8 0,.int .u8 0,.int .u8 0,.int .u8 0,.int .u8 0,.int .u8 0,.int .u8 0,.int .u8 0,.int .u8 0,.int .u8 0,.int .u8 0,.int .u8 0,.int .u8 0,.int .u8 0,.int .u8 0,.int .u8 0,.int .u8 0,.int .u8 0,.int .u8 0,.int .u8 0,.int .u8 0,.int .u8 0,.int .u8 0,.int .u8 0,.int .u8 0,.int .u8 0,.int .u8 0,.int .u8 0,.int .u8 0,.int .u8 0,.int .u8 0,.int .u8 0,.int .u8 0,.int .u8 0,.int .u8 0,.int .u8 0,.int .u8 0,.int .u8 0,.int .u8 0,.int .u8 0,.int .u8 0,.int .u8 0,.int .u8 0,.int .u8 0,.int .u8 0,.int .u8 0,.int .u8 0] fun c1=>
     M.store c1 0 [.int .i64 x1,.int .u8 0,.int .u8 0,.int .u8 0,.int .u8 0,.int .u8 0,.int .u8 0,.int .u8 0,.int .u8 0,.int .u8 0,.int .u8 0,.int .u8 0,.int .u8 0,.int .u8 0,.int .u8 0,.int .u8 0,.int .u8 0,.int .u8 0,.int .u8 0,.int .u8 0,.int .u8 0,.int .u8 0,.int .u8 0,.int .u8 0,.int .u8 0,.int .u8 0,.int .u8 0,.int .u8 0,.int .u8 0,.int .u8 0,.int .u8 0,.int .u8 0,.int .u8 0,.int .u8 0,.int .u8 0,.int .u8 0,.int .u8 0,.int .u8 0,.int .u8 0,.int .u8 0,.int .u8 0,.int .u8 0,.int .u8 0,.int .u8 0,.int .u8 0,.int .u8 0,.int .u8 0,.int .u8 0,.int .u8 0]<|
     M.load c1 1 48 fun _=>
     M.rd x2 ((min dh 48)*1) fun cs=>
     M.store c1 1 cs<|
     M.load c1 0 49 fun bw=>
     J.i .i64 bw fun x4 r1=>
     D.len r1 48<|
     D.len ((.int .i64 x4)::r1) 49<|
     M.ret [.agg ((.int .i64 x4)::r1),.bool true]) fun aV=>
   bif b3 then
    aV [.bool true]
   else
    M.call (c 238 [.slice 1 x2 dh,.int .i64 48,.int .i64 (af ((dh:Int)-48))]) fun ds=>
    J.b ds fun x5 ds=>
    D.nil ds<|
    aV [.bool (!x5)]) fun aB=>
  bif b2 then
   aB [.bool true]
  else
   aB [.bool (decide (x1>=8))]) fun aq=>
 bif !x3 then
  aq [.bool true]
 else
  aq [.bool (!(x==4))]
def Fo:Zg->Nat->List DV->M (List DV):=fun c n args=>
 J.p args fun s args=>
 J.l 1 args fun l ln args=>
 D.nil args<|
 M.join (fun st=>
  D.nil st<|
  M.ret []) fun aq=>
 M.loop (fun aN st=>
  J.i .i64 st fun x st=>
  D.nil st<|
  bif decide (x<(ln:Int))then
   M.nn l fun i o=>
   M.ak (au x ln)<|
   M.ar i (x.toNat*1+o) fun d=>
   D.int .i64 d fun x1=>
   M.call (c 209 [.ptr s,.int .i64 x1]) fun ds=>
   J.b ds fun x2 ds=>
   D.nil ds<|
   M.join (fun st=>
    D.nil st<|
    aN [.int .i64 (af (x+1))]) fun aB=>
   bif x2 then
    M.nn s fun i1 o1=>
    M.ar i1 (o1+1) fun d1=>
    D.slice 1 d1 fun x3 du=>
    M.nn x3 fun i2 o2=>
    M.ak (au (af (x1.tdiv 64)) du)<|
    M.ar i2 (((af (x1.tdiv 64)).toNat)*1+o2) fun d2=>
    D.int .u64 d2 fun x4=>
    M.ak (decide (0<=x1.tmod 64))<|
    M.nn x3 fun i3 o3=>
    M.ak (au (af (x1.tdiv 64)) du)<|
    M.store i3 (((af (x1.tdiv 64)).toNat)*1+o3) [.int .u64 (bits .or .u64 x4 (IntKind.wrap .u64 (1*2^(min (x1.tmod 64).toNat 64))))]<|
    aB []
   else
    aB []
  else
   aq []) n [.int .i64 0]
def Fq:Zg->Nat->List DV->M (List DV):=fun c n args=>
 J.p args fun s args=>
 J.i .i64 args fun bZ args=>
 D.nil args<|
 M.join (fun st=>J.b st fun b1 st=>D.nil st<|
  M.ret [.bool b1]) fun aq=>
 bif decide (bZ>=0)then
  M.nn s fun i o=>
  M.ar i o fun d=>
  D.int .i64 d fun x=>
  aq [.bool (decide (bZ<x))]
 else
  aq [.bool false]
def ER:Zg->Nat->List DV->M (List DV):=fun c n args=>
 J.i .u64 args fun x args=>
 D.nil args<|
 M.ret [.int .i64 (bits .and .i64 (af (IntKind.wrap .u64 ((IntKind.wrap .u64 ((IntKind.wrap .u64 ((bits .and .u64 (IntKind.wrap .u64 (((IntKind.wrap .u64 ((bits .and .u64 ((IntKind.wrap .u64 ((bits .and .u64 (x.fdiv (2^1)) 6148914691236517205)+(bits .and .u64 x 6148914691236517205))).fdiv (2^2)) 3689348814741910323)+(bits .and .u64 (IntKind.wrap .u64 ((bits .and .u64 (x.fdiv (2^1)) 6148914691236517205)+(bits .and .u64 x 6148914691236517205))) 3689348814741910323))).fdiv (2^4))+(IntKind.wrap .u64 ((bits .and .u64 ((IntKind.wrap .u64 ((bits .and .u64 (x.fdiv (2^1)) 6148914691236517205)+(bits .and .u64 x 6148914691236517205))).fdiv (2^2)) 3689348814741910323)+(bits .and .u64 (IntKind.wrap .u64 ((bits .and .u64 (x.fdiv (2^1)) 6148914691236517205)+(bits .and .u64 x 6148914691236517205))) 3689348814741910323))))) 1085102592571150095)+((bits .and .u64 (IntKind.wrap .u64 (((IntKind.wrap .u64 ((bits .and .u64 ((IntKind.wrap .u64 ((bits .and .u64 (x.fdiv (2^1)) 6148914691236517205)+(bits .and .u64 x 6148914691236517205))).fdiv (2^2)) 3689348814741910323)+(bits .and .u64 (IntKind.wrap .u64 ((bits .and .u64 (x.fdiv (2^1)) 6148914691236517205)+(bits .and .u64 x 6148914691236517205))) 3689348814741910323))).fdiv (2^4))+(IntKind.wrap .u64 ((bits .and .u64 ((IntKind.wrap .u64 ((bits .and .u64 (x.fdiv (2^1)) 6148914691236517205)+(bits .and .u64 x 6148914691236517205))).fdiv (2^2)) 3689348814741910323)+(bits .and .u64 (IntKind.wrap .u64 ((bits .and .u64 (x.fdiv (2^1)) 6148914691236517205)+(bits .and .u64 x 6148914691236517205))) 3689348814741910323))))) 1085102592571150095).fdiv (2^8))))+((IntKind.wrap .u64 ((bits .and .u64 (IntKind.wrap .u64 (((IntKind.wrap .u64 ((bits .and .u64 ((IntKind.wrap .u64 ((bits .and .u64 (x.fdiv (2^1)) 6148914691236517205)+(bits .and .u64 x 6148914691236517205))).fdiv (2^2)) 3689348814741910323)+(bits .and .u64 (IntKind.wrap .u64 ((bits .and .u64 (x.fdiv (2^1)) 6148914691236517205)+(bits .and .u64 x 6148914691236517205))) 3689348814741910323))).fdiv (2^4))+(IntKind.wrap .u64 ((bits .and .u64 ((IntKind.wrap .u64 ((bits .and .u64 (x.fdiv (2^1)) 6148914691236517205)+(bits .and .u64 x 6148914691236517205))).fdiv (2^2)) 3689348814741910323)+(bits .and .u64 (IntKind.wrap .u64 ((bits .and .u64 (x.fdiv (2^1)) 6148914691236517205)+(bits .and .u64 x 6148914691236517205))) 3689348814741910323))))) 1085102592571150095)+((bits .and .u64 (IntKind.wrap .u64 (((IntKind.wrap .u64 ((bits .and .u64 ((IntKind.wrap .u64 ((bits .and .u64 (x.fdiv (2^1)) 6148914691236517205)+(bits .and .u64 x 6148914691236517205))).fdiv (2^2)) 3689348814741910323)+(bits .and .u64 (IntKind.wrap .u64 ((bits .and .u64 (x.fdiv (2^1)) 6148914691236517205)+(bits .and .u64 x 6148914691236517205))) 3689348814741910323))).fdiv (2^4))+(IntKind.wrap .u64 ((bits .and .u64 ((IntKind.wrap .u64 ((bits .and .u64 (x.fdiv (2^1)) 6148914691236517205)+(bits .and .u64 x 6148914691236517205))).fdiv (2^2)) 3689348814741910323)+(bits .and .u64 (IntKind.wrap .u64 ((bits .and .u64 (x.fdiv (2^1)) 6148914691236517205)+(bits .and .u64 x 6148914691236517205))) 3689348814741910323))))) 1085102592571150095).fdiv (2^8)))).fdiv (2^16))))+((IntKind.wrap .u64 ((IntKind.wrap .u64 ((bits .and .u64 (IntKind.wrap .u64 (((IntKind.wrap .u64 ((bits .and .u64 ((IntKind.wrap .u64 ((bits .and .u64 (x.fdiv (2^1)) 6148914691236517205)+(bits .and .u64 x 6148914691236517205))).fdiv (2^2)) 3689348814741910323)+(bits .and .u64 (IntKind.wrap .u64 ((bits .and .u64 (x.fdiv (2^1)) 6148914691236517205)+(bits .and .u64 x 6148914691236517205))) 3689348814741910323))).fdiv (2^4))+(IntKind.wrap .u64 ((bits .and .u64 ((IntKind.wrap .u64 ((bits .and .u64 (x.fdiv (2^1)) 6148914691236517205)+(bits .and .u64 x 6148914691236517205))).fdiv (2^2)) 3689348814741910323)+(bits .and .u64 (IntKind.wrap .u64 ((bits .and .u64 (x.fdiv (2^1)) 6148914691236517205)+(bits .and .u64 x 6148914691236517205))) 3689348814741910323))))) 1085102592571150095)+((bits .and .u64 (IntKind.wrap .u64 (((IntKind.wrap .u64 ((bits .and .u64 ((IntKind.wrap .u64 ((bits .and .u64 (x.fdiv (2^1)) 6148914691236517205)+(bits .and .u64 x 6148914691236517205))).fdiv (2^2)) 3689348814741910323)+(bits .and .u64 (IntKind.wrap .u64 ((bits .and .u64 (x.fdiv (2^1)) 6148914691236517205)+(bits .and .u64 x 6148914691236517205))) 3689348814741910323))).fdiv (2^4))+(IntKind.wrap .u64 ((bits .and .u64 ((IntKind.wrap .u64 ((bits .and .u64 (x.fdiv (2^1)) 6148914691236517205)+(bits .and .u64 x 6148914691236517205))).fdiv (2^2)) 3689348814741910323)+(bits .and .u64 (IntKind.wrap .u64 ((bits .and .u64 (x.fdiv (2^1)) 6148914691236517205)+(bits .and .u64 x 6148914691236517205))) 3689348814741910323))))) 1085102592571150095).fdiv (2^8))))+((IntKind.wrap .u64 ((bits .and .u64 (IntKind.wrap .u64 (((IntKind.wrap .u64 ((bits .and .u64 ((IntKind.wrap .u64 ((bits .and .u64 (x.fdiv (2^1)) 6148914691236517205)+(bits .and .u64 x 6148914691236517205))).fdiv (2^2)) 3689348814741910323)+(bits .and .u64 (IntKind.wrap .u64 ((bits .and .u64 (x.fdiv (2^1)) 6148914691236517205)+(bits .and .u64 x 6148914691236517205))) 3689348814741910323))).fdiv (2^4))+(IntKind.wrap .u64 ((bits .and .u64 ((IntKind.wrap .u64 ((bits .and .u64 (x.fdiv (2^1)) 6148914691236517205)+(bits .and .u64 x 6148914691236517205))).fdiv (2^2)) 3689348814741910323)+(bits .and .u64 (IntKind.wrap .u64 ((bits .and .u64 (x.fdiv (2^1)) 6148914691236517205)+(bits .and .u64 x 6148914691236517205))) 3689348814741910323))))) 1085102592571150095)+((bits .and .u64 (IntKind.wrap .u64 (((IntKind.wrap .u64 ((bits .and .u64 ((IntKind.wrap .u64 ((bits .and .u64 (x.fdiv (2^1)) 6148914691236517205)+(bits .and .u64 x 6148914691236517205))).fdiv (2^2)) 3689348814741910323)+(bits .and .u64 (IntKind.wrap .u64 ((bits .and .u64 (x.fdiv (2^1)) 6148914691236517205)+(bits .and .u64 x 6148914691236517205))) 3689348814741910323))).fdiv (2^4))+(IntKind.wrap .u64 ((bits .and .u64 ((IntKind.wrap .u64 ((bits .and .u64 (x.fdiv (2^1)) 6148914691236517205)+(bits .and .u64 x 6148914691236517205))).fdiv (2^2)) 3689348814741910323)+(bits .and .u64 (IntKind.wrap .u64 ((bits .and .u64 (x.fdiv (2^1)) 6148914691236517205)+(bits .and .u64 x 6148914691236517205))) 3689348814741910323))))) 1085102592571150095).fdiv (2^8)))).fdiv (2^16)))).fdiv (2^32))))) 127)]
def G3:Zg->Nat->List DV->M (List DV):=fun c n args=>
 J.i .u64 args fun v args=>
 J.i .i64 args fun n1 args=>
 D.nil args<|
 M.join (fun st=>
  J.s st fun s st=>
  D.nil st<|
  M.ret [.str s]) fun aq=>
 M.loop (fun aN st=>
  J.s st fun s1 st=>
  J.i .i64 st fun i st=>
  D.nil st<|
  bif decide (i<n1)then
   M.call (c 248 [.int .u64 v,.int .i64 i]) fun ds=>
   J.i .u8 ds fun x ds=>
   D.nil ds<|
   M.new [.int .u8 x] fun i1=>
   M.load i1 0 1 fun cs=>
   D.cO cs fun l=>
   M.ak (Nat.ble (s1.length+l.length) 4611686018427387904)<|
   aN [.str (s1++l),.int .i64 (af (i+1))]
  else
   aq [.str s1]) n [.str (bs []),.int .i64 0]
def GC:Zg->Nat->List DV->M (List DV):=fun c n args=>
 J.i .i64 args fun kind args=>
 J.i .i64 args fun tag args=>
 J.s args fun body args=>
 D.nil args<|
 M.new [.int .u8 (IntKind.wrap .u8 (kind)),.int .u8 (IntKind.wrap .u8 (tag)),.int .u8 0,.int .u8 0] fun i=>
 M.load i 0 4 fun cs=>
 D.cO cs fun l=>
 M.ew (c 249 [.str body,.int .i64 56]) fun ds=>
 J.s ds fun x ds=>
 D.nil ds<|
 M.ak (Nat.ble (l.length+x.length) 4611686018427387904)<|
 M.new (ZH (l++x)) fun i1=>
 M.call (c 242 [.slice 1 (some (i1,0)) ((l++x).length)]) fun ds=>
 J.i .u32 ds fun x1 ds=>
 D.nil ds<|
 M.call (c 213 [.int .u64 (IntKind.wrap .u64 (x1)),.int .i64 4]) fun ds=>
 J.s ds fun x2 ds=>
 D.nil ds<|
 M.ak (Nat.ble (x2.length+(l++x).length) 4611686018427387904)<|
 M.ret [.str (x2++(l++x))]
def Ha:Zg->Nat->List DV->M (List DV):=fun c n args=>
 J.l 1 args fun l ln args=>
 D.nil args<|
 M.join (fun st=>J.b st fun b1 st=>D.nil st<|
  bif b1 then
   M.ret [.str (bs []),.bool false]
  else
   M.join (fun st=>
    J.s st fun s st=>
    D.nil st<|
    M.call (c 214 [.int .i64 6,.int .i64 (ln:Int),.str s]) fun ds=>
    J.s ds fun x ds=>
    D.nil ds<|
    M.ret [.str x,.bool true]) fun aB=>
   M.loop (fun aN st=>
    J.s st fun s1 st=>
    J.i .i64 st fun i st=>
    D.nil st<|
    bif decide (i<(ln:Int))then
     M.join (fun st=>
      J.s st fun s2 st=>
      D.nil st<|
      aN [.str s2,.int .i64 (af (i+1))]) fun aV=>
     M.nn l fun i1 o=>
     M.ak (au i ln)<|
     M.ar i1 (i.toNat*1+o) fun d=>
     D.int .i64 d fun x1=>
     M.call (c 251 [.int .i64 x1]) fun ds=>
     J.b ds fun x2 ds=>
     D.nil ds<|
     bif !x2 then
      M.ret [.str (bs []),.bool false]
     else
      M.join (fun st=>
       D.nil st<|
      M.nn l fun i2 o1=>
      M.ak (au i ln)<|
      M.ar i2 (i.toNat*1+o1) fun d1=>
      D.int .i64 d1 fun x3=>
      M.call (c 213 [.int .u64 (IntKind.wrap .u64 (x3)),.int .i64 2]) fun ds=>
      J.s ds fun x4 ds=>
      D.nil ds<|
      M.ak (Nat.ble (s1.length+x4.length) 4611686018427387904)<|
      aV [.str (s1++x4)]) fun bq=>
      M.loop (fun dW st=>
       J.i .i64 st fun k st=>
      D.nil st<|
      bif decide (k<i)then
       M.nn l fun i3 o2=>
      M.ak (au k ln)<|
      M.ar i3 (k.toNat*1+o2) fun d2=>
      D.int .i64 d2 fun x5=>
      M.nn l fun i4 o3=>
      M.ak (au i ln)<|
      M.ar i4 (i.toNat*1+o3) fun d3=>
      D.int .i64 d3 fun x6=>
      bif x5==x6 then
       M.ret [.str (bs []),.bool false]
      else
       dW [.int .i64 (af (k+1))]
      else
       bq []) n [.int .i64 0]
    else
     aB [.str s1]) n [.str (bs []),.int .i64 0]) fun aq=>
 bif decide ((ln:Int)<1)then
  aq [.bool true]
 else
  aq [.bool (decide ((ln:Int)>16))]
def G6:Zg->Nat->List DV->M (List DV):=fun c n args=>
 J.a args fun cs args=>
 J.s cs fun q r1=>
 J.i .i64 r1 fun q1 r2=>
 D.len r2 12<|
 D.nil args<|
 D.len ((.str q)::(.int .i64 q1)::r2) 14<|
 M.call (c 213 [.int .u64 (IntKind.wrap .u64 (q1)),.int .i64 4]) fun ds=>
 J.s ds fun x ds=>
 D.nil ds<|
 M.join (fun st=>
  J.s st fun s st=>
  D.nil st<|
  M.ak (Nat.ble (s.length+q.length) 4611686018427387904)<|
  M.call (c 214 [.int .i64 5,.int .i64 (q.length:Int),.str (s++q)]) fun ds=>
  J.s ds fun x1 ds=>
  D.nil ds<|
  M.ret [.str x1]) fun aq=>
 M.loop (fun aN st=>
  J.s st fun s1 st=>
  J.i .i64 st fun i st=>
  D.nil st<|
  bif decide (i<12)then
   M.ak (au i 12)<|
   D.nth r2 (i.toNat*1) fun d=>
   D.int .i64 d fun x2=>
   M.call (c 213 [.int .u64 (IntKind.wrap .u64 (x2)),.int .i64 2]) fun ds=>
   J.s ds fun x3 ds=>
   D.nil ds<|
   M.ak (Nat.ble (s1.length+x3.length) 4611686018427387904)<|
   aN [.str (s1++x3),.int .i64 (af (i+1))]
  else
   aq [.str s1]) n [.str x,.int .i64 0]
def EV:Zg->Nat->List DV->M (List DV):=fun c n args=>
 J.p args fun m args=>
 J.l 4 args fun es IZ args=>
 D.nil args<|
 M.nn es fun i o=>
 M.ak (au 0 IZ)<|
 M.load i (0+o) 4 fun cs=>
 J.i .i64 cs fun x r=>
 J.i .i64 r fun x1 r=>
 J.i .i64 r fun x2 r=>
 J.i .i64 r fun x3 r=>
 D.nil r<|
 M.join (fun st=>
  J.a st fun bw st=>
  J.i .i64 bw fun n1 r=>
  J.i .i64 r fun n2 r=>
  J.i .i64 r fun n3 r=>
  J.i .i64 r fun n4 r=>
  J.l 1 r fun n5 rL r=>
  D.nil r<|
  D.nil st<|
  M.call (c 250 [.agg [.int .i64 n1,.int .i64 n2,.int .i64 n3,.int .i64 n4,.slice 1 n5 rL]]) fun ds=>
  J.s ds fun x4 ds=>
  D.nil ds<|
  M.call (c 194 [.ptr m,.str x4]) fun ds=>
  J.i .i64 ds fun x5 ds=>
  D.nil ds<|
  M.nn m fun i1 o1=>
  M.ar i1 (o1+2) fun d=>
  D.slice 1 d fun x6 qQ=>
  M.nn es fun i2 o2=>
  M.ak (au 0 IZ)<|
  M.ar i2 (0+o2) fun d1=>
  D.int .i64 d1 fun x7=>
  M.nn x6 fun i3 o3=>
  M.ak (au x7 qQ)<|
  M.store i3 (x7.toNat*1+o3) [.int .i64 x5]<|
  M.ret [.int .i64 x5]) fun aq=>
 M.loop (fun aN st=>
  J.a st fun di st=>
  J.i .i64 di fun n6 r=>
  J.i .i64 r fun n7 r=>
  J.i .i64 r fun n8 r=>
  J.i .i64 r fun n9 r=>
  J.l 1 r fun n10 yG r=>
  D.nil r<|
  J.i .i64 st fun k st=>
  D.nil st<|
  bif decide (k<(IZ:Int))then
   M.ak (decide (0<=af (2*k))&&decide (af (2*k)<=(IZ:Int)))<|
   M.ak (decide (0<=k)&&decide (k<=(((af (2*k)).toNat:Nat):Int)))<|
   M.ig (c 217 [.ptr m,.slice 4 (cY true es (k.toNat*4)) (((af (2*k)).toNat)-k.toNat)]) fun ds=>
   J.i .i64 ds fun x8 ds=>
   D.nil ds<|
   M.new [.int .i64 x8] fun i4=>
   M.load i4 0 1 fun fJ=>
   M.app 1 n10 yG fJ 1 8796093022208 fun p=>
   aN [.agg [.int .i64 n6,.int .i64 n7,.int .i64 n8,.int .i64 n9,.slice 1 p (yG+1)],.int .i64 (af (2*k))]
  else
   aq [.agg [.int .i64 n6,.int .i64 n7,.int .i64 n8,.int .i64 n9,.slice 1 n10 yG]]) n [.agg [.int .i64 x,.int .i64 x1,.int .i64 x2,.int .i64 x3,.slice 0 none 0],.int .i64 1]
def Hi:Zg->Nat->List DV->M (List DV):=fun c n args=>
 J.a args fun cs args=>
 D.len cs 16<|
 D.nil args<|
 D.len cs 16<|
 M.join (fun st=>
  J.s st fun s st=>
  D.nil st<|
  M.call (c 214 [.int .i64 3,.int .i64 0,.str s]) fun ds=>
  J.s ds fun x ds=>
  D.nil ds<|
  M.ret [.str x,.bool true]) fun aq=>
 M.loop (fun aN st=>
  J.s st fun s1 st=>
  J.i .i64 st fun i st=>
  D.nil st<|
  bif decide (i<16)then
   M.ak (au i 16)<|
   D.nth cs (i.toNat*1) fun d=>
   D.int .i64 d fun x1=>
   M.join (fun st=>J.b st fun b1 st=>D.nil st<|
    bif b1 then
     M.ret [.str (bs []),.bool false]
    else
     M.ak (au i 16)<|
     D.nth cs (i.toNat*1) fun d1=>
     D.int .i64 d1 fun x2=>
     M.call (c 213 [.int .u64 (IntKind.wrap .u64 (x2)),.int .i64 2]) fun ds=>
     J.s ds fun x3 ds=>
     D.nil ds<|
     M.ak (Nat.ble (s1.length+x3.length) 4611686018427387904)<|
     aN [.str (s1++x3),.int .i64 (af (i+1))]) fun aB=>
   bif !(x1==0)then
    M.ak (au i 16)<|
    D.nth cs (i.toNat*1) fun d2=>
    D.int .i64 d2 fun x4=>
    M.call (c 251 [.int .i64 x4]) fun ds=>
    J.b ds fun x5 ds=>
    D.nil ds<|
    aB [.bool (!x5)]
   else
    aB [.bool false]
  else
   aq [.str s1]) n [.str (bs []),.int .i64 0]
def GR:Zg->Nat->List DV->M (List DV):=fun c n args=>
 J.a args fun cs args=>
 D.len cs 21<|
 D.nil args<|
 D.len cs 21<|
 M.join (fun st=>
  J.s st fun s st=>
  J.i .i64 st fun tag st=>
  D.nil st<|
  M.call (c 214 [.int .i64 2,.int .i64 tag,.str s]) fun ds=>
  J.s ds fun x ds=>
  D.nil ds<|
  M.ret [.str x,.bool true]) fun aq=>
 M.loop (fun aN st=>
  J.s st fun s1 st=>
  J.i .i64 st fun Sp st=>
  J.i .i64 st fun i st=>
  D.nil st<|
  bif decide (i<7)then
   M.ak (au i 7)<|
   M.ak (Nat.ble (i.toNat*3+3) 21)<|
   D.len ((cs.drop (i.toNat*3)).take 3) 3<|
   M.call (c 252 [.agg ((cs.drop (i.toNat*3)).take 3)]) fun ds=>
   J.b ds fun x1 ds=>
   D.nil ds<|
   bif !x1 then
    M.ret [.str (bs []),.bool false]
   else
    D.nth ((cs.drop (i.toNat*3)).take 3) 0 fun d=>
    D.bool d fun x2=>
    M.join (fun st=>
     J.i .i64 st fun XU st=>
     D.nil st<|
     D.nth ((cs.drop (i.toNat*3)).take 3) 1 fun d1=>
     D.int .i64 d1 fun x3=>
     M.ew (c 213 [.int .u64 (IntKind.wrap .u64 (x3)),.int .i64 4]) fun ds=>
     J.s ds fun x4 ds=>
     D.nil ds<|
     M.ak (Nat.ble (s1.length+x4.length) 4611686018427387904)<|
     D.nth ((cs.drop (i.toNat*3)).take 3) 2 fun d2=>
     D.int .i64 d2 fun x5=>
     M.ig (c 213 [.int .u64 (IntKind.wrap .u64 (x5)),.int .i64 4]) fun ds=>
     J.s ds fun x6 ds=>
     D.nil ds<|
     M.ak (Nat.ble ((s1++x4).length+x6.length) 4611686018427387904)<|
     aN [.str ((s1++x4)++x6),.int .i64 XU,.int .i64 (af (i+1))]) fun aB=>
    bif x2 then
     M.ak (decide (0<=i))<|
     aB [.int .i64 (af (Sp+(af (1*2^(min i.toNat 64)))))]
    else
     aB [.int .i64 Sp]
  else
   aq [.str s1,.int .i64 Sp]) n [.str (bs []),.int .i64 0,.int .i64 0]
def GM:Zg->Nat->List DV->M (List DV):=fun c n args=>
 J.i .i64 args fun n1 args=>
 J.i .i64 args fun each args=>
 D.nil args<|
 M.join (fun st=>
  J.i .i64 st fun k st=>
  D.nil st<|
  M.ret [.int .i64 k]) fun aq=>
 M.loop (fun aN st=>
  J.i .i64 st fun k1 st=>
  D.nil st<|
  bif decide (af (k1*each)<n1)then
   aN [.int .i64 (af (k1+1))]
  else
   aq [.int .i64 k1]) n [.int .i64 0]
def FD:Zg->Nat->List DV->M (List DV):=fun c n args=>
 J.i .i64 args fun bZ args=>
 J.p args fun x args=>
 D.nil args<|
 M.join (fun st=>J.b st fun b1 st=>D.nil st<|
  M.ret [.bool b1]) fun aq=>
 bif decide (bZ>=2)then
  M.nn x fun i o=>
  M.ar i (o+1) fun d=>
  D.int .i64 d fun x1=>
  aq [.bool (decide (bZ<x1))]
 else
  aq [.bool false]
def EO:Zg->Nat->List DV->M (List DV):=fun c n args=>
 J.l 1 args fun s sn args=>
 J.i .i64 args fun v args=>
 D.nil args<|
 M.call (c 254 [.slice 1 s sn,.int .i64 v]) fun ds=>
 J.i .i64 ds fun x ds=>
 D.nil ds<|
 M.ret [.bool (decide (x>=0))]
def Gt:Zg->Nat->List DV->M (List DV):=fun c n args=>
 J.a args fun cs args=>
 J.i .i64 cs fun g r=>
 J.i .i64 r fun g1 r=>
 J.i .i64 r fun g2 r=>
 D.nil r<|
 D.nil args<|
 M.call (c 145 [.agg [.int .i64 g,.int .i64 g1,.int .i64 g2]]) fun ds=>
 J.b ds fun x ds=>
 D.nil ds<|
 bif !x then
  M.ret [.int .i64 0]
 else
  M.call (c 253 [.int .i64 g,.int .i64 384]) fun ds=>
  J.i .i64 ds fun x1 ds=>
  D.nil ds<|
  M.ret [.int .i64 x1]
def GY:Zg->Nat->List DV->M (List DV):=fun c n args=>
 J.b args fun ok args=>
 D.nil args<|
 M.join (fun st=>
  D.nil st<|
  M.ret []) fun aq=>
 bif !ok then
  M.cy
 else
  aq []
def Fi:Zg->Nat->List DV->M (List DV):=fun c n args=>
 J.p args fun w args=>
 D.nil args<|
 M.nn w fun i o=>
 M.ar i (o+6) fun d=>
 D.int .i64 d fun x=>
 bif x==0 then
  M.ret []
 else
  M.nn w fun i1 o1=>
  M.ar i1 (o1+6) fun d1=>
  D.int .i64 d1 fun x1=>
  M.call (c 227 [.int .i64 x1]) fun ds=>
  J.i .i64 ds fun x2 ds=>
  D.nil ds<|
  M.nn w fun i2 o2=>
  M.ar i2 (o2+5) fun d2=>
  D.int .i64 d2 fun x3=>
  M.call (c 228 [.ptr w,.int .i64 x3]) fun ds=>
  J.d ds fun x4 ds=>
  D.nil ds<|
  D.qa M.cy x4 2 fun d3=>
  D.agg d3 fun cs=>
  D.len cs 16<|
  M.join (fun st=>
   D.nil st<|
   M.ret []) fun aq=>
  M.loop (fun aN st=>
   J.i .i64 st fun x5 st=>
   D.nil st<|
   bif decide (x5<16)then
    M.join (fun st=>
     D.nil st<|
     aN [.int .i64 (af (x5+1))]) fun aB=>
    M.ak (au x5 16)<|
    D.nth (cs.take 16) (x5.toNat*1) fun d4=>
    D.int .i64 d4 fun x6=>
    M.call (c 225 [.bool ((!(x6==0))==(decide (af (x5*16)<x2)))]) fun ds=>
    D.nil ds<|
    bif x6==0 then
     aB []
    else
     M.call (c 228 [.ptr w,.int .i64 x6]) fun ds=>
     J.d ds fun x7 ds=>
     D.nil ds<|
     D.qa M.cy x7 2 fun d5=>
     D.agg d5 fun bw=>
     D.len bw 16<|
     M.join (fun st=>
      D.nil st<|
      aB []) fun aV=>
     M.loop (fun dW st=>
      J.i .i64 st fun x8 st=>
      D.nil st<|
      bif decide (x8<16)then
       M.ak (au x8 16)<|
      D.nth (bw.take 16) (x8.toNat*1) fun d6=>
      D.int .i64 d6 fun x9=>
      M.call (c 225 [.bool ((!(x9==0))==(decide (af ((af (x5*16))+x8)<x2)))]) fun ds=>
      D.nil ds<|
      M.join (fun st=>
       D.nil st<|
      dW [.int .i64 (af (x8+1))]) fun bq=>
      bif !(x9==0)then
       M.call (c 229 [.ptr w,.int .i64 x9,.int .i64 (af ((af ((af (x5*16))+x8))*7))]) fun ds=>
      D.nil ds<|
      bq []
      else
       bq []
      else
       aV []) n [.int .i64 0]
   else
    aq []) n [.int .i64 0]
def Gd:Zg->Nat->List DV->M (List DV):=fun c n args=>
 J.i .i64 args fun n1 args=>
 D.nil args<|
 M.call (c 255 [.int .i64 n1]) fun ds=>
 J.b ds fun x ds=>
 D.nil ds<|
 bif !x then
  M.ret [.int .i64 0]
 else
  M.call (c 253 [.int .i64 n1,.int .i64 7]) fun ds=>
  J.i .i64 ds fun x1 ds=>
  D.nil ds<|
  M.ret [.int .i64 x1]
def EU:Zg->Nat->List DV->M (List DV):=fun c n args=>
 J.p args fun w args=>
 J.i .i64 args fun bZ args=>
 D.nil args<|
 M.join (fun st=>J.b st fun b1 st=>D.nil st<|
  M.join (fun st=>J.b st fun b2 st=>D.nil st<|
   M.call (c 225 [.bool b2]) fun ds=>
   D.nil ds<|
   M.nn w fun i o=>
   M.ar i (o+10) fun d=>
   D.ptr d fun x=>
   M.new [.int .i64 bZ] fun i1=>
   M.call (c 206 [.ptr x,.slice 1 (some (i1,0)) 1]) fun ds=>
   D.nil ds<|
   M.nn w fun i2 o1=>
   M.ar i2 o1 fun d1=>
   D.slice 1 d1 fun x1 nP=>
   M.call (c 203 [.slice 1 x1 nP,.int .i64 bZ]) fun ds=>
   J.l 1 ds fun x2 dh ds=>
   D.nil ds<|
   M.call (c 256 [.slice 1 x2 dh]) fun ds=>
   J.d ds fun x3 ds=>
   D.nil ds<|
   M.ret [x3]) fun aB=>
  bif b1 then
   M.nn w fun i3 o2=>
   M.ar i3 (o2+10) fun d2=>
   D.ptr d2 fun x4=>
   M.call (c 184 [.ptr x4,.int .i64 bZ]) fun ds=>
   J.b ds fun x5 ds=>
   D.nil ds<|
   aB [.bool (!x5)]
  else
   aB [.bool false]) fun aq=>
 bif decide (bZ>=2)then
  M.nn w fun i4 o3=>
  M.ar i4 (o3+2) fun d3=>
  D.int .i64 d3 fun x6=>
  aq [.bool (decide (bZ<x6))]
 else
  aq [.bool false]
def EZ:Zg->Nat->List DV->M (List DV):=fun c n args=>
 J.p args fun w args=>
 J.i .i64 args fun bZ args=>
 J.i .i64 args fun slot args=>
 D.nil args<|
 M.call (c 228 [.ptr w,.int .i64 bZ]) fun ds=>
 J.d ds fun x ds=>
 D.nil ds<|
 D.qa M.cy x 5 fun d=>
 D.agg d fun cs=>
 D.len cs 21<|
 M.join (fun st=>
  D.nil st<|
  M.ret []) fun aq=>
 M.loop (fun aN st=>
  J.i .i64 st fun x1 st=>
  D.nil st<|
  bif decide (x1<7)then
   M.join (fun st=>
    D.nil st<|
    aN [.int .i64 (af (x1+1))]) fun aB=>
   M.ak (au x1 7)<|
   D.len (((cs.take 21).drop (x1.toNat*3)).take 3) 3<|
   M.nn w fun i o=>
   M.ar i (o+6) fun d1=>
   D.int .i64 d1 fun x2=>
   bif decide (af (slot+x1)>=x2)then
    D.eqs [.bool,.int .i64,.int .i64] (((cs.take 21).drop (x1.toNat*3)).take 3) [.bool false,.int .i64 0,.int .i64 0] fun e=>
    M.call (c 225 [.bool e]) fun ds=>
    D.nil ds<|
    aB []
   else
    D.nth (((cs.take 21).drop (x1.toNat*3)).take 3) 1 fun d2=>
    D.int .i64 d2 fun x3=>
    M.join (fun st=>J.b st fun b1 st=>D.nil st<|
     M.join (fun st=>J.b st fun b2 st=>D.nil st<|
      M.call (c 225 [.bool b2]) fun ds=>
      D.nil ds<|
      M.nn w fun i1 o1=>
      M.ar i1 (o1+11) fun d3=>
      D.slice 3 d3 fun x4 cE=>
      D.len (((cs.take 21).drop (x1.toNat*3)).take 3) 3<|
      M.new (((cs.take 21).drop (x1.toNat*3)).take 3) fun i2=>
      M.load i2 0 3 fun bw=>
      M.app 3 x4 cE bw 1 2932031007402 fun p=>
      M.nn w fun i3 o2=>
      M.store i3 (o2+11) [.slice 3 p (cE+1)]<|
      aB []) fun bq=>
     bif b1 then
      D.nth (((cs.take 21).drop (x1.toNat*3)).take 3) 0 fun d4=>
      D.bool d4 fun x5=>
      M.join (fun st=>J.b st fun b3 st=>D.nil st<|
       M.join (fun st=>J.b st fun b4 st=>D.nil st<|
       bq [.bool b4]) fun eM=>
      bif b3 then
       eM [.bool true]
      else
       D.nth (((cs.take 21).drop (x1.toNat*3)).take 3) 2 fun d5=>
      D.int .i64 d5 fun x6=>
      eM [.bool (x6==0)]) fun ca=>
      bif x5 then
       ca [.bool true]
      else
       D.nth (((cs.take 21).drop (x1.toNat*3)).take 3) 1 fun d6=>
      D.int .i64 d6 fun x7=>
      M.nn w fun i4 o3=>
      M.ar i4 (o3+4) fun d7=>
      D.int .i64 d7 fun x8=>
      ca [.bool (decide (x7<x8))]
     else
      bq [.bool false]) fun aV=>
    bif decide (x3>=1)then
     D.nth (((cs.take 21).drop (x1.toNat*3)).take 3) 1 fun d8=>
     D.int .i64 d8 fun x9=>
     M.nn w fun i5 o4=>
     M.ar i5 (o4+4) fun d9=>
     D.int .i64 d9 fun da=>
     aV [.bool (decide (x9<=da))]
    else
     aV [.bool false]
  else
   aq []) n [.int .i64 0]
def Fa:Zg->Nat->List DV->M (List DV):=fun c n args=>
 J.p args fun w args=>
 D.nil args<|
 M.nn w fun i o=>
 M.ar i (o+6) fun d=>
 D.int .i64 d fun x=>
 M.ak (decide (0<=x)&&decide (x<=x)&&decide (x<=70368744177664))<|
 M.new (fj x.toNat [.bool false]) fun i1=>
 M.nn w fun i2 o1=>
 M.ar i2 (o1+7) fun d1=>
 D.int .i64 d1 fun x1=>
 M.join (fun st=>
  D.nil st<|
  M.nn w fun i3 o2=>
  M.ar i3 (o2+11) fun d2=>
  D.slice 3 d2 fun x2 dh=>
  M.join (fun st=>
   D.nil st<|
   M.ret []) fun aB=>
  M.loop (fun aN st=>
   J.i .i64 st fun x3 st=>
   D.nil st<|
   bif decide (x3<(dh:Int))then
    M.nn x2 fun i4 o3=>
    M.ak (au x3 dh)<|
    M.load i4 (x3.toNat*3+o3) 3 fun cs=>
    J.b cs fun x4 r=>
    J.i .i64 r fun x5 r=>
    J.i .i64 r fun x6 r=>
    D.nil r<|
    M.join (fun st=>J.b st fun b1 st=>D.nil st<|
     M.join (fun st=>J.b st fun b2 st=>D.nil st<|
      M.call (c 225 [.bool b2]) fun ds=>
      D.nil ds<|
      aN [.int .i64 (af (x3+1))]) fun bq=>
     bif b1 then
      bq [.bool true]
     else
      M.ak (au x3 x.toNat)<|
      M.ar i1 (x3.toNat*1) fun d3=>
      D.bool d3 fun x7=>
      bq [.bool x7]) fun aV=>
    bif x4 then
     aV [.bool true]
    else
     M.nn w fun i5 o4=>
     M.ar i5 (o4+4) fun d4=>
     D.int .i64 d4 fun x8=>
     aV [.bool (x5==x8)]
   else
    aB []) n [.int .i64 0]) fun aq=>
 M.loop (fun dW st=>
  J.i .i64 st fun next st=>
  D.nil st<|
  bif !(next==0)then
   M.nn w fun i6 o5=>
   M.ar i6 (o5+6) fun d5=>
   D.int .i64 d5 fun x9=>
   M.call (c 225 [.bool (decide (next<=x9))]) fun ds=>
   D.nil ds<|
   M.nn w fun i7 o6=>
   M.ar i7 (o6+11) fun d6=>
   D.slice 3 d6 fun da XY=>
   M.nn da fun i8 o7=>
   M.ak (au (af (next-1)) XY)<|
   M.load i8 (((af (next-1)).toNat)*3+o7) 3 fun bw=>
   J.b bw fun eR r=>
   J.i .i64 r fun ft r=>
   J.i .i64 r fun fm r=>
   D.nil r<|
   M.join (fun st=>J.b st fun b3 st=>D.nil st<|
    M.join (fun st=>J.b st fun b4 st=>D.nil st<|
     M.call (c 225 [.bool b4]) fun ds=>
     D.nil ds<|
     M.ak (au (af (next-1)) x.toNat)<|
     M.store i1 (((af (next-1)).toNat)*1) [.bool true]<|
     M.nn w fun i9 o8=>
     M.ar i9 (o8+17) fun d7=>
     D.slice 1 d7 fun iy UQ=>
     M.new [.int .i64 (af (next-1))] fun i10=>
     M.load i10 0 1 fun di=>
     M.app 1 iy UQ di 1 8796093022208 fun p=>
     M.nn w fun i11 o9=>
     M.store i11 (o9+17) [.slice 1 p (UQ+1)]<|
     dW [.int .i64 fm]) fun eM=>
    bif b3 then
     M.ak (au (af (next-1)) x.toNat)<|
     M.ar i1 (((af (next-1)).toNat)*1) fun d8=>
     D.bool d8 fun fp=>
     eM [.bool (!fp)]
    else
     eM [.bool false]) fun ca=>
   bif !eR then
    M.nn w fun i12 o10=>
    M.ar i12 (o10+4) fun d9=>
    D.int .i64 d9 fun gk=>
    ca [.bool (decide (ft<gk))]
   else
    ca [.bool false]
  else
   aq []) n [.int .i64 x1]
def Ff:Zg->Nat->List DV->M (List DV):=fun c n args=>
 J.p args fun w args=>
 D.nil args<|
 M.nn w fun i o=>
 M.ar i (o+8) fun d=>
 D.int .i64 d fun x=>
 bif x==0 then
  M.ret []
 else
  M.nn w fun i1 o1=>
  M.ar i1 (o1+8) fun d1=>
  D.int .i64 d1 fun x1=>
  M.call (c 228 [.ptr w,.int .i64 x1]) fun ds=>
  J.d ds fun x2 ds=>
  D.nil ds<|
  D.qa M.cy x2 3 fun d2=>
  D.agg d2 fun cs=>
  J.l 1 cs fun x3 du r=>
  D.nil r<|
  M.join (fun st=>
   D.nil st<|
   M.ret []) fun aq=>
  M.loop (fun aN st=>
   J.i .i64 st fun x4 st=>
   D.nil st<|
   bif decide (x4<(du:Int))then
    M.join (fun st=>
     D.nil st<|
     aN [.int .i64 (af (x4+1))]) fun aB=>
    M.nn x3 fun i2 o2=>
    M.ak (au x4 du)<|
    M.ar i2 (x4.toNat*1+o2) fun d3=>
    D.int .i64 d3 fun x5=>
    M.call (c 228 [.ptr w,.int .i64 x5]) fun ds=>
    J.d ds fun x6 ds=>
    D.nil ds<|
    D.qa M.cy x6 4 fun d4=>
    D.agg d4 fun bw=>
    J.s bw fun x7 r1=>
    J.i .i64 r1 fun x8 r2=>
    D.len r2 12<|
    D.len ((.str x7)::(.int .i64 x8)::r2) 14<|
    M.join (fun st=>J.b st fun b1 st=>D.nil st<|
     M.call (c 225 [.bool b1]) fun ds=>
     D.nil ds<|
     M.join (fun st=>
      J.a st fun di st=>
      J.s di fun h r=>
      J.l 4 r fun h1 h1n r=>
      D.nil r<|
      D.nil st<|
      M.call (c 232 [.slice 4 h1 h1n,.func 159 [] []]) fun ds=>
      D.nil ds<|
      M.nn w fun i3 o3=>
      M.ar i3 (o3+15) fun d5=>
      D.slice 2 d5 fun x9 Em=>
      M.new [.str h,.slice 4 h1 h1n] fun i4=>
      M.load i4 0 2 fun fJ=>
      M.app 2 x9 Em fJ 1 1759218604441 fun p=>
      M.nn w fun i5 o4=>
      M.store i5 (o4+15) [.slice 2 p (Em+1)]<|
      aB []) fun bq=>
     M.loop (fun dW st=>
      J.a st fun mj st=>
      J.s mj fun h2 r=>
      J.l 4 r fun h3 ui r=>
      D.nil r<|
      J.i .i64 st fun da st=>
      D.nil st<|
      bif decide (da<12)then
       M.ak (au da 12)<|
      D.nth (r2.take 12) (da.toNat*1) fun d6=>
      D.int .i64 d6 fun eR=>
      M.join (fun st=>
       J.a st fun nf st=>
      J.s nf fun h4 r=>
      J.l 4 r fun h5 PB r=>
      D.nil r<|
      D.nil st<|
      dW [.agg [.str h4,.slice 4 h5 PB],.int .i64 (af (da+1))]) fun ca=>
      bif !(eR==0)then
       M.call (c 233 [.ptr w,.int .i64 eR,.int .i64 da]) fun ds=>
      J.l 4 ds fun ft nO ds=>
      D.nil ds<|
      M.rd ft (nO*4) fun vQ=>
      M.app 4 h3 ui vQ nO 2199023255552 fun p1=>
      ca [.agg [.str h2,.slice 4 p1 (ui+nO)]]
      else
       ca [.agg [.str h2,.slice 4 h3 ui]]
      else
       bq [.agg [.str h2,.slice 4 h3 ui]]) n [.agg [.str x7,.slice 0 none 0],.int .i64 0]) fun aV=>
    bif x4==0 then
     aV [.bool true]
    else
     M.nn w fun i6 o5=>
     M.ar i6 (o5+15) fun d7=>
     D.slice 2 d7 fun fm X0=>
     M.nn fm fun i7 o6=>
     M.ak (au (af (x4-1)) X0)<|
     M.ar i7 (((af (x4-1)).toNat)*2+o6) fun d8=>
     D.str d8 fun iy=>
     M.call (c 39 [.str iy,.str x7]) fun ds=>
     J.i .i64 ds fun fp ds=>
     D.nil ds<|
     aV [.bool (decide (fp<0))]
   else
    aq []) n [.int .i64 0]
def E8:Zg->Nat->List DV->M (List DV):=fun c n args=>
 J.p args fun w args=>
 J.i .i64 args fun bZ args=>
 J.i .i64 args fun degree args=>
 D.nil args<|
 M.new [.int .i64 bZ,.int .i64 degree,.int .i64 0,.int .i64 0,.int .i64 0,.int .i64 0,.bool true] fun i=>
 M.join (fun st=>
  J.l 4 st fun out rO st=>
  D.nil st<|
  M.ret [.slice 4 out rO]) fun aq=>
 M.loop (fun aN st=>
  J.l 4 st fun lj jc st=>
  J.l 7 st fun todo wV st=>
  D.nil st<|
  bif decide ((wV:Int)>0)then
   M.join (fun st=>
    J.l 4 st fun yI yJ st=>
    J.l 7 st fun Sq Sr st=>
    D.nil st<|
    aN [.slice 4 yI yJ,.slice 7 Sq Sr]) fun aB=>
   M.nn todo fun i1 o=>
   M.ak (au (af ((wV:Int)-1)) wV)<|
   M.load i1 (((af ((wV:Int)-1)).toNat)*7+o) 7 fun cs=>
   J.i .i64 cs fun x r=>
   J.i .i64 r fun x1 r=>
   J.i .i64 r fun x2 r=>
   J.i .i64 r fun x3 r=>
   J.i .i64 r fun x4 r=>
   J.i .i64 r fun x5 r=>
   J.b r fun x6 r=>
   D.nil r<|
   M.ak (decide (0<=af ((wV:Int)-1))&&decide (af ((wV:Int)-1)<=(wV:Int)))<|
   M.call (c 228 [.ptr w,.int .i64 x]) fun ds=>
   J.d ds fun x7 ds=>
   D.nil ds<|
   D.qa M.cy x7 6 fun d=>
   D.agg d fun bw=>
   J.i .i64 bw fun x8 r=>
   J.i .i64 r fun x9 r=>
   J.i .i64 r fun da r=>
   J.i .i64 r fun eR r=>
   J.l 1 r fun ft nO r=>
   D.nil r<|
   M.join (fun st=>J.b st fun b1 st=>D.nil st<|
    M.call (c 225 [.bool b1]) fun ds=>
    D.nil ds<|
    M.nn w fun i2 o1=>
    M.ar i2 (o1+6) fun d1=>
    D.int .i64 d1 fun fm=>
    M.join (fun st=>J.b st fun b2 st=>D.nil st<|
     M.call (c 225 [.bool b2]) fun ds=>
     D.nil ds<|
     M.nn w fun i3 o2=>
     M.ar i3 (o2+18) fun d2=>
     D.int .i64 d2 fun iy=>
     M.nn w fun i4 o3=>
     M.store i4 (o3+18) [.int .i64 (af (iy+1))]<|
     M.new [.int .i64 x8,.int .i64 x9,.int .i64 da,.int .i64 eR] fun i5=>
     M.load i5 0 4 fun di=>
     M.app 4 lj jc di 1 2199023255552 fun p=>
     M.join (fun st=>
      J.l 7 st fun Ss Sv st=>
      D.nil st<|
      aB [.slice 4 p (jc+1),.slice 7 Ss Sv]) fun ca=>
     M.loop (fun dW st=>
      J.l 7 st fun Ee yP st=>
      J.i .i64 st fun fp st=>
      D.nil st<|
      bif decide (fp<(nO:Int))then
       M.nn ft fun i6 o4=>
      M.ak (au fp nO)<|
      M.ar i6 (fp.toNat*1+o4) fun d3=>
      D.int .i64 d3 fun gk=>
      M.new [.int .i64 gk,.int .i64 fp,.int .i64 x8,.int .i64 x9,.int .i64 da,.int .i64 eR,.bool false] fun i7=>
      M.load i7 0 7 fun fJ=>
      M.app 7 Ee yP fJ 1 1256584717458 fun p1=>
      dW [.slice 7 p1 (yP+1),.int .i64 (af (fp+1))]
      else
       ca [.slice 7 Ee yP]) n [.slice 7 todo ((af ((wV:Int)-1)).toNat),.int .i64 0]) fun bq=>
    bif decide (x8<fm)then
     M.nn w fun i8 o5=>
     M.ar i8 (o5+11) fun d4=>
     D.slice 3 d4 fun gI u6=>
     M.nn gI fun i9 o6=>
     M.ak (au x8 u6)<|
     M.load i9 (x8.toNat*3+o6) 3 fun mj=>
     J.b mj fun kI r=>
     J.i .i64 r fun jo r=>
     J.i .i64 r fun j1 r=>
     D.nil r<|
     bq [.bool ((kI==true)&&((jo==x9)&&((j1==x)&&true)))]
    else
     bq [.bool false]) fun aV=>
   bif (nO:Int)==x1 then
    M.join (fun st=>J.b st fun b3 st=>D.nil st<|
     aV [.bool b3]) fun eM=>
    bif x6 then
     eM [.bool true]
    else
     M.call (c 159 [.agg [.int .i64 x2,.int .i64 x3,.int .i64 x4,.int .i64 x5],.agg [.int .i64 x8,.int .i64 x9,.int .i64 da,.int .i64 eR]]) fun ds=>
     J.i .i64 ds fun mM ds=>
     D.nil ds<|
     eM [.bool (decide (mM<0))]
   else
    aV [.bool false]
  else
   aq [.slice 4 lj jc]) n [.slice 0 none 0,.slice 7 (some (i,0)) 1]
def EX:Zg->Nat->List DV->M (List DV):=fun c n args=>
 J.p args fun w args=>
 D.nil args<|
 M.nn w fun i o=>
 M.ar i (o+11) fun d=>
 D.slice 3 d fun x xn=>
 M.join (fun st=>
  J.i .i64 st fun n1 st=>
  D.nil st<|
  M.ret [.int .i64 n1]) fun aq=>
 M.loop (fun aN st=>
  J.i .i64 st fun n2 st=>
  J.i .i64 st fun x1 st=>
  D.nil st<|
  bif decide (x1<(xn:Int))then
   M.nn x fun i1 o1=>
   M.ak (au x1 xn)<|
   M.load i1 (x1.toNat*3+o1) 3 fun cs=>
   J.b cs fun x2 r=>
   J.i .i64 r fun x3 r=>
   J.i .i64 r fun x4 r=>
   D.nil r<|
   M.nn w fun i2 o2=>
   M.ar i2 (o2+16) fun d1=>
   D.slice 1 d1 fun x5 fR=>
   M.new [.int .i64 x3] fun i3=>
   M.load i3 0 1 fun bw=>
   M.app 1 x5 fR bw 1 8796093022208 fun p=>
   M.nn w fun i4 o3=>
   M.store i4 (o3+16) [.slice 1 p (fR+1)]<|
   M.join (fun st=>
    J.i .i64 st fun n3 st=>
    D.nil st<|
    aN [.int .i64 n3,.int .i64 (af (x1+1))]) fun aB=>
   bif x2 then
    aB [.int .i64 (af (n2+1))]
   else
    aB [.int .i64 n2]
  else
   aq [.int .i64 n2]) n [.int .i64 0,.int .i64 0]
def ZQ:Zg->Nat->List DV->M (List DV):=fun c n args=>
 J.l 4 args fun s1 kE args=>
 J.l 4 args fun s2 nJ args=>
 D.nil args<|
 bif !((kE:Int)==(nJ:Int))then
  M.ret [.bool false]
 else
  M.join (fun st=>
   D.nil st<|
   M.ret [.bool true]) fun aq=>
  M.loop (fun aN st=>
   J.i .i64 st fun x st=>
   D.nil st<|
   bif decide (x<(kE:Int))then
    M.nn s1 fun i o=>
    M.ak (au x kE)<|
    M.load i (x.toNat*4+o) 4 fun cs=>
    J.i .i64 cs fun x1 r=>
    J.i .i64 r fun x2 r=>
    J.i .i64 r fun x3 r=>
    J.i .i64 r fun x4 r=>
    D.nil r<|
    M.nn s2 fun i1 o1=>
    M.ak (au x nJ)<|
    M.load i1 (x.toNat*4+o1) 4 fun bw=>
    J.i .i64 bw fun x5 r=>
    J.i .i64 r fun x6 r=>
    J.i .i64 r fun x7 r=>
    J.i .i64 r fun x8 r=>
    D.nil r<|
    bif !((x1==x5)&&((x2==x6)&&((x3==x7)&&((x4==x8)&&true))))then
     M.ret [.bool false]
    else
     aN [.int .i64 (af (x+1))]
   else
    aq []) n [.int .i64 0]
def Z6:Zg->Nat->List DV->M (List DV):=fun c n args=>
 J.l 1 args fun s1 kE args=>
 J.l 1 args fun s2 nJ args=>
 D.nil args<|
 bif !((kE:Int)==(nJ:Int))then
  M.ret [.bool false]
 else
  M.join (fun st=>
   D.nil st<|
   M.ret [.bool true]) fun aq=>
  M.loop (fun aN st=>
   J.i .i64 st fun x st=>
   D.nil st<|
   bif decide (x<(kE:Int))then
    M.nn s1 fun i o=>
    M.ak (au x kE)<|
    M.ar i (x.toNat*1+o) fun d=>
    D.int .u64 d fun x1=>
    M.nn s2 fun i1 o1=>
    M.ak (au x nJ)<|
    M.ar i1 (x.toNat*1+o1) fun d1=>
    D.int .u64 d1 fun x2=>
    bif !(x1==x2)then
     M.ret [.bool false]
    else
     aN [.int .i64 (af (x+1))]
   else
    aq []) n [.int .i64 0]
def GF:Zg->Nat->List DV->M (List DV):=fun c n args=>
 J.l 1 args fun b1 ck args=>
 D.nil args<|
 M.base fun b0=>
 M.call (c 259 [.slice 1 b1 ck]) fun ds=>
 J.b ds fun x ds=>
 D.nil ds<|
 bif !x then
  M.lq b0 [.int .i64 0,.int .i64 0,.slice 0 none 0,.bool false]
 else
  M.nn b1 fun i o=>
  M.ak (au 4 ck)<|
  M.ar i (4+o) fun d=>
  D.int .u8 d fun x1=>
  M.nn b1 fun i1 o1=>
  M.ak (au 5 ck)<|
  M.ar i1 (5+o1) fun d1=>
  D.int .u8 d1 fun x2=>
  M.ak (decide ((8:Int)<=(ck:Int)))<|
  M.ew (c 260 [.slice 1 (cY true b1 8) (ck-8)]) fun ds=>
  J.l 1 ds fun x3 du ds=>
  D.nil ds<|
  M.lq b0 [.int .i64 (af (x1)),.int .i64 (af (x2)),.slice 1 x3 du,.bool true]
def FE:Zg->Nat->List DV->M (List DV):=fun c n args=>
 J.l 1 args fun b1 ck args=>
 J.i .i64 args fun bZ args=>
 J.i .i64 args fun n1 args=>
 D.nil args<|
 M.call (c 261 [.slice 1 b1 ck,.int .i64 bZ,.int .i64 n1]) fun ds=>
 J.b ds fun x ds=>
 D.nil ds<|
 bif !x then
  M.ret [.bool false]
 else
  M.ak (decide (0<=af (bZ+n1))&&decide (af (bZ+n1)<=(ck:Int)))<|
  M.ak (decide (0<=bZ)&&decide (bZ<=(((af (bZ+n1)).toNat:Nat):Int)))<|
  M.join (fun st=>
   D.nil st<|
   M.ret [.bool true]) fun aq=>
  M.loop (fun aN st=>
   J.i .i64 st fun x1 st=>
   D.nil st<|
   bif decide (x1<((((af (bZ+n1)).toNat)-bZ.toNat:Nat):Int))then
    M.nn (cY true b1 (bZ.toNat*1)) fun i o=>
    M.ak (au x1 (((af (bZ+n1)).toNat)-bZ.toNat))<|
    M.ar i (x1.toNat*1+o) fun d=>
    D.int .u8 d fun x2=>
    bif !(x2==0)then
     M.ret [.bool false]
    else
     aN [.int .i64 (af (x1+1))]
   else
    aq []) n [.int .i64 0]
def GH:Zg->Nat->List DV->M (List DV):=fun c n args=>
 J.a args fun cs args=>
 J.i .i64 cs fun c1 r1=>
 D.len r1 48<|
 D.nil args<|
 M.base fun b0=>
 D.len ((.int .i64 c1)::r1) 49<|
 M.join (fun st=>
  J.l 1 st fun out rO st=>
  D.nil st<|
  M.lq b0 [.slice 1 out rO]) fun aq=>
 M.loop (fun aN st=>
  J.l 1 st fun lj jc st=>
  J.i .i64 st fun x st=>
  D.nil st<|
  bif decide (x<384)then
   M.call (c 262 [.agg ((.int .i64 c1)::r1),.int .i64 (af ((af (c1*384))+x))]) fun ds=>
   J.b ds fun x1 ds=>
   D.nil ds<|
   M.join (fun st=>
    J.l 1 st fun yI yJ st=>
    D.nil st<|
    aN [.slice 1 yI yJ,.int .i64 (af (x+1))]) fun aB=>
   bif x1 then
    M.new [.int .i64 (af ((af (c1*384))+x))] fun i=>
    M.load i 0 1 fun bw=>
    M.app 1 lj jc bw 1 8796093022208 fun p=>
    aB [.slice 1 p (jc+1)]
   else
    aB [.slice 1 lj jc]
  else
   aq [.slice 1 lj jc]) n [.slice 0 none 0,.int .i64 0]
def LQ:Zg->Nat->List DV->M (List DV):=fun c n args=>
 J.i .i64 args fun n1 args=>
 D.nil args<|
 M.ret [.int .i64 (af ((af ((af (n1+384))-1)).tdiv 384))]
def FK:Zg->Nat->List DV->M (List DV):=fun c n args=>
 J.p args fun s args=>
 D.nil args<|
 M.nn s fun i o=>
 M.ar i o fun d=>
 D.int .i64 d fun x=>
 M.nn s fun i1 o1=>
 M.ar i1 (o1+1) fun d1=>
 D.slice 1 d1 fun x1 nP=>
 M.ew (c 263 [.slice 1 x1 nP]) fun ds=>
 J.l 1 ds fun x2 dh ds=>
 D.nil ds<|
 M.new [.int .i64 x,.slice 1 x2 dh] fun i2=>
 M.ret [.ptr (some (i2,0))]
def G7:Zg->Nat->List DV->M (List DV):=fun c n args=>
 J.l 1 args fun b1 ck args=>
 D.nil args<|
 M.join (fun st=>
  J.i .u32 st fun x st=>
  D.nil st<|
  M.ret [.int .u32 (IntKind.wrap .u32 (4294967295-x))]) fun aq=>
 M.loop (fun aN st=>
  J.i .u32 st fun x1 st=>
  J.i .i64 st fun i st=>
  D.nil st<|
  bif decide (i<(ck:Int))then
   M.nn b1 fun i1 o=>
   M.ak (au i ck)<|
   M.ar i1 (i.toNat*1+o) fun d=>
   D.int .u8 d fun x2=>
   M.call (c 264 [.int .u32 (bits .xor .u32 x1 (IntKind.wrap .u32 (x2))),.int .i64 8]) fun ds=>
   J.i .u32 ds fun x3 ds=>
   D.nil ds<|
   aN [.int .u32 x3,.int .i64 (af (i+1))]
  else
   aq [.int .u32 x1]) n [.int .u32 4294967295,.int .i64 0]
def Gh:Zg->Nat->List DV->M (List DV):=fun c n args=>
 J.i .u64 args fun v args=>
 J.i .i64 args fun i args=>
 D.nil args<|
 M.join (fun st=>
  J.i .u64 st fun v1 st=>
  D.nil st<|
  M.ret [.int .u8 (IntKind.wrap .u8 (v1.tmod 256))]) fun aq=>
 M.loop (fun aN st=>
  J.i .u64 st fun v2 st=>
  J.i .i64 st fun k st=>
  D.nil st<|
  bif decide (k<i)then
   aN [.int .u64 (IntKind.wrap .u64 (v2.tdiv 256)),.int .i64 (af (k+1))]
  else
   aq [.int .u64 v2]) n [.int .u64 v,.int .i64 0]
def Gx:Zg->Nat->List DV->M (List DV):=fun c n args=>
 J.s args fun s args=>
 J.i .i64 args fun n1 args=>
 D.nil args<|
 M.ak (decide (0<=(if (af (n1-(s.length:Int)))<0 then 0 else(af (n1-(s.length:Int)))))&&decide ((if (af (n1-(s.length:Int)))<0 then 0 else(af (n1-(s.length:Int))))<=(if (af (n1-(s.length:Int)))<0 then 0 else(af (n1-(s.length:Int)))))&&decide ((if (af (n1-(s.length:Int)))<0 then 0 else(af (n1-(s.length:Int))))<=70368744177664))<|
 M.new (fj ((if (af (n1-(s.length:Int)))<0 then 0 else(af (n1-(s.length:Int)))).toNat) [.int .u8 0]) fun i=>
 M.load i 0 ((if (af (n1-(s.length:Int)))<0 then 0 else(af (n1-(s.length:Int)))).toNat) fun cs=>
 D.cO cs fun l=>
 M.ak (Nat.ble (s.length+l.length) 4611686018427387904)<|
 M.ret [.str (s++l)]
def GZ:Zg->Nat->List DV->M (List DV):=fun c n args=>
 J.a args fun cs args=>
 J.i .i64 cs fun n1 r=>
 J.i .i64 r fun n2 r=>
 J.i .i64 r fun n3 r=>
 J.i .i64 r fun n4 r=>
 J.l 1 r fun n5 rL r=>
 D.nil r<|
 D.nil args<|
 M.ew (c 213 [.int .u64 (IntKind.wrap .u64 (n3)),.int .i64 8]) fun ds=>
 J.s ds fun x ds=>
 D.nil ds<|
 M.ew (c 213 [.int .u64 (IntKind.wrap .u64 (n4)),.int .i64 8]) fun ds=>
 J.s ds fun x1 ds=>
 D.nil ds<|
 M.ak (Nat.ble (x.length+x1.length) 4611686018427387904)<|
 M.ew (c 213 [.int .u64 (IntKind.wrap .u64 (n1)),.int .i64 4]) fun ds=>
 J.s ds fun x2 ds=>
 D.nil ds<|
 M.ak (Nat.ble ((x++x1).length+x2.length) 4611686018427387904)<|
 M.ig (c 213 [.int .u64 (IntKind.wrap .u64 (n2)),.int .i64 4]) fun ds=>
 J.s ds fun x3 ds=>
 D.nil ds<|
 M.ak (Nat.ble (((x++x1)++x2).length+x3.length) 4611686018427387904)<|
 M.join (fun st=>
  J.s st fun s st=>
  D.nil st<|
  M.call (c 214 [.int .i64 1,.int .i64 (rL:Int),.str s]) fun ds=>
  J.s ds fun x4 ds=>
  D.nil ds<|
  M.ret [.str x4]) fun aq=>
 M.loop (fun aN st=>
  J.s st fun s1 st=>
  J.i .i64 st fun i st=>
  D.nil st<|
  bif decide (i<(rL:Int))then
   M.nn n5 fun i1 o=>
   M.ak (au i rL)<|
   M.ar i1 (i.toNat*1+o) fun d=>
   D.int .i64 d fun x5=>
   M.call (c 213 [.int .u64 (IntKind.wrap .u64 (x5)),.int .i64 2]) fun ds=>
   J.s ds fun x6 ds=>
   D.nil ds<|
   M.ak (Nat.ble (s1.length+x6.length) 4611686018427387904)<|
   aN [.str (s1++x6),.int .i64 (af (i+1))]
  else
   aq [.str s1]) n [.str (((x++x1)++x2)++x3),.int .i64 0]
def FZ:Zg->Nat->List DV->M (List DV):=fun c n args=>
 J.i .i64 args fun n1 args=>
 D.nil args<|
 M.join (fun st=>J.b st fun b1 st=>D.nil st<|
  M.ret [.bool b1]) fun aq=>
 bif decide (n1>=2)then
  aq [.bool (decide (n1<=3071))]
 else
  aq [.bool false]
def GG:Zg->Nat->List DV->M (List DV):=fun c n args=>
 J.a args fun cs args=>
 J.b cs fun x r=>
 J.i .i64 r fun x1 r=>
 J.i .i64 r fun x2 r=>
 D.nil r<|
 D.nil args<|
 M.join (fun st=>J.b st fun b1 st=>D.nil st<|
  bif b1 then
   M.ret [.bool false]
  else
   bif x then
    M.join (fun st=>J.b st fun b2 st=>D.nil st<|
     M.ret [.bool b2]) fun aB=>
    bif decide (x1>0)then
     M.call (c 251 [.int .i64 x2]) fun ds=>
     J.b ds fun x3 ds=>
     D.nil ds<|
     aB [.bool x3]
    else
     aB [.bool false]
   else
    M.join (fun st=>J.b st fun b3 st=>D.nil st<|
     M.join (fun st=>J.b st fun b4 st=>D.nil st<|
      M.ret [.bool b4]) fun bq=>
     bif b3 then
      M.join (fun st=>J.b st fun b5 st=>D.nil st<|
       bq [.bool b5]) fun ca=>
      bif !(x1==0)then
       ca [.bool true]
      else
       ca [.bool (x2==0)]
     else
      bq [.bool false]) fun aV=>
    bif decide (x2>=0)then
     aV [.bool (decide (x2<=1792))]
    else
     aV [.bool false]) fun aq=>
 bif decide (x1<0)then
  aq [.bool true]
 else
  aq [.bool (decide (x1>4294967295))]
def Ic:Zg->Nat->List DV->M (List DV):=fun c n args=>
 J.i .i64 args fun n1 args=>
 J.i .i64 args fun Pn args=>
 D.nil args<|
 M.ak (!(Pn==0))<|
 M.ret [.int .i64 (af ((af ((af (n1+Pn))-1)).tdiv Pn))]
def EJ:Zg->Nat->List DV->M (List DV):=fun c n args=>
 J.l 1 args fun s sn args=>
 J.i .i64 args fun v args=>
 D.nil args<|
 M.join (fun st=>
  D.nil st<|
  M.ret [.int .i64 (-1)]) fun aq=>
 M.loop (fun aN st=>
  J.i .i64 st fun x st=>
  D.nil st<|
  bif decide (x<(sn:Int))then
   M.nn s fun i o=>
   M.ak (au x sn)<|
   M.ar i (x.toNat*1+o) fun d=>
   D.int .i64 d fun x1=>
   bif v==x1 then
    M.ret [.int .i64 x]
   else
    aN [.int .i64 (af (x+1))]
  else
   aq []) n [.int .i64 0]
def GA:Zg->Nat->List DV->M (List DV):=fun c n args=>
 J.i .i64 args fun n1 args=>
 D.nil args<|
 M.join (fun st=>J.b st fun b1 st=>D.nil st<|
  M.ret [.bool b1]) fun aq=>
 bif decide (n1>=0)then
  aq [.bool (decide (n1<=1792))]
 else
  aq [.bool false]
def GL:Zg->Nat->List DV->M (List DV):=fun c n args=>
 J.l 1 args fun b1 ck args=>
 D.nil args<|
 M.call (c 272 [.slice 1 b1 ck]) fun ds=>
 J.a ds fun cs ds=>
 J.i .i64 cs fun x r=>
 J.i .i64 r fun x1 r=>
 J.i .i64 r fun x2 r=>
 J.i .i64 r fun x3 r=>
 J.l 1 r fun x4 cE r=>
 D.nil r<|
 J.b ds fun x5 ds=>
 D.nil ds<|
 bif x5 then
  M.ret [.iface 6 (.agg [.int .i64 x,.int .i64 x1,.int .i64 x2,.int .i64 x3,.slice 1 x4 cE])]
 else
  M.call (c 273 [.slice 1 b1 ck]) fun ds=>
  J.a ds fun bw ds=>
  D.len bw 21<|
  J.b ds fun x6 ds=>
  D.nil ds<|
  D.len bw 21<|
  bif x6 then
   M.ret [.iface 5 (.agg bw)]
  else
   M.call (c 274 [.slice 1 b1 ck]) fun ds=>
   J.a ds fun di ds=>
   D.len di 16<|
   J.b ds fun x7 ds=>
   D.nil ds<|
   D.len di 16<|
   bif x7 then
    M.ret [.iface 2 (.agg di)]
   else
    M.call (c 275 [.slice 1 b1 ck]) fun ds=>
    J.a ds fun fJ ds=>
    J.s fJ fun x8 r1=>
    J.i .i64 r1 fun x9 r2=>
    D.len r2 12<|
    J.b ds fun da ds=>
    D.nil ds<|
    D.len ((.str x8)::(.int .i64 x9)::r2) 14<|
    bif da then
     M.ret [.iface 4 (.agg ((.str x8)::(.int .i64 x9)::r2))]
    else
     M.call (c 276 [.slice 1 b1 ck]) fun ds=>
     J.a ds fun mj ds=>
     J.l 1 mj fun eR XZ r=>
     D.nil r<|
     J.b ds fun ft ds=>
     D.nil ds<|
     bif ft then
      M.ret [.iface 3 (.agg [.slice 1 eR XZ])]
     else
      M.ret [.nilIface]
def F8:Zg->Nat->List DV->M (List DV):=fun c n args=>
 J.l 1 args fun b1 ck args=>
 D.nil args<|
 M.join (fun st=>J.b st fun b2 st=>D.nil st<|
  M.join (fun st=>J.b st fun b3 st=>D.nil st<|
   M.join (fun st=>J.b st fun b4 st=>D.nil st<|
    M.ret [.bool b4]) fun aV=>
   bif b3 then
    M.ak (decide ((4:Int)<=(ck:Int)))<|
    M.ew (c 285 [.slice 1 b1 4]) fun ds=>
    J.i .u64 ds fun x ds=>
    D.nil ds<|
    M.ak (decide ((4:Int)<=(ck:Int)))<|
    M.new [.slice 1 (cY true b1 4) (ck-4)] fun i=>
    M.call (c 286 [.int .u32 (IntKind.wrap .u32 (x)),.slice 1 (some (i,0)) 1]) fun ds=>
    J.b ds fun x1 ds=>
    D.nil ds<|
    aV [.bool x1]
   else
    aV [.bool false]) fun aB=>
  bif b2 then
   M.call (c 238 [.slice 1 b1 ck,.int .i64 6,.int .i64 2]) fun ds=>
   J.b ds fun x2 ds=>
   D.nil ds<|
   aB [.bool x2]
  else
   aB [.bool false]) fun aq=>
 bif (ck:Int)==64 then
  M.nn b1 fun i1 o=>
  M.ak (au 4 ck)<|
  M.ar i1 (4+o) fun d=>
  D.int .u8 d fun x3=>
  aq [.bool (!(x3==0))]
 else
  aq [.bool false]
def FY:Zg->Nat->List DV->M (List DV):=fun c n args=>
 J.l 1 args fun b1 ck args=>
 D.nil args<|
 M.base fun b0=>
 bif b1.isNone then
  M.lq b0 [.slice 0 none 0]
 else
  M.new [] fun i=>
  M.rd b1 (ck*1) fun cs=>
  M.app 1 (some (i,0)) 0 cs ck 70368744177664 fun p=>
  M.lq b0 [.slice 1 p (0+ck)]
def Gc:Zg->Nat->List DV->M (List DV):=fun c n args=>
 J.l 1 args fun b1 ck args=>
 J.i .i64 args fun bZ args=>
 J.i .i64 args fun n1 args=>
 D.nil args<|
 M.join (fun st=>J.b st fun b2 st=>D.nil st<|
  M.join (fun st=>J.b st fun b3 st=>D.nil st<|
   M.join (fun st=>J.b st fun b4 st=>D.nil st<|
    M.ret [.bool b4]) fun aV=>
   bif b3 then
    aV [.bool (decide (bZ<=af ((ck:Int)-n1)))]
   else
    aV [.bool false]) fun aB=>
  bif b2 then
   aB [.bool (decide (n1<=(ck:Int)))]
  else
   aB [.bool false]) fun aq=>
 bif decide (bZ>=0)then
  aq [.bool (decide (n1>=0))]
 else
  aq [.bool false]
def G8:Zg->Nat->List DV->M (List DV):=fun c n args=>
 J.a args fun cs args=>
 J.i .i64 cs fun c1 r1=>
 D.len r1 48<|
 J.i .i64 args fun bZ args=>
 D.nil args<|
 D.len ((.int .i64 c1)::r1) 49<|
 M.call (c 287 [.agg ((.int .i64 c1)::r1),.int .i64 bZ]) fun ds=>
 J.i .i64 ds fun x ds=>
 J.i .u8 ds fun x1 ds=>
 J.b ds fun x2 ds=>
 D.nil ds<|
 M.join (fun st=>J.b st fun b1 st=>D.nil st<|
  M.ret [.bool b1]) fun aq=>
 bif x2 then
  M.ak (au x 48)<|
  D.nth r1 (x.toNat*1) fun d=>
  D.int .u8 d fun x3=>
  aq [.bool (!((bits .and .u8 x3 x1)==0))]
 else
  aq [.bool false]
def Z7:Zg->Nat->List DV->M (List DV):=fun c n args=>
 J.l 1 args fun s sn args=>
 D.nil args<|
 bif s.isNone then
  M.ret [.slice 0 none 0]
 else
  M.new [] fun i=>
  M.rd s (sn*1) fun cs=>
  M.app 1 (some (i,0)) 0 cs sn 8796093022208 fun p=>
  M.ret [.slice 1 p (0+sn)]
def FU:Zg->Nat->List DV->M (List DV):=fun c n args=>
 J.i .u32 args fun x args=>
 J.i .i64 args fun n1 args=>
 D.nil args<|
 M.join (fun st=>
  J.i .u32 st fun x1 st=>
  D.nil st<|
  M.ret [.int .u32 x1]) fun aq=>
 M.loop (fun aN st=>
  J.i .u32 st fun x2 st=>
  J.i .i64 st fun i st=>
  D.nil st<|
  bif decide (i<n1)then
   M.call (c 288 [.int .u32 x2]) fun ds=>
   J.i .u32 ds fun x3 ds=>
   D.nil ds<|
   aN [.int .u32 x3,.int .i64 (af (i+1))]
  else
   aq [.int .u32 x2]) n [.int .u32 x,.int .i64 0]
def HL:Zg->Nat->List DV->M (List DV):=fun c n args=>
 J.l 1 args fun b1 ck args=>
 D.nil args<|
 M.base fun b0=>
 M.call (c 237 [.slice 1 b1 ck]) fun ds=>
 J.i .i64 ds fun x ds=>
 J.i .i64 ds fun x1 ds=>
 J.l 1 ds fun x2 dh ds=>
 J.b ds fun x3 ds=>
 D.nil ds<|
 M.join (fun st=>J.b st fun b2 st=>D.nil st<|
  M.join (fun st=>J.b st fun b3 st=>D.nil st<|
   bif b3 then
    M.lq b0 [.agg [.int .i64 0,.int .i64 0,.int .i64 0,.int .i64 0,.slice 0 none 0],.bool false]
   else
    M.call (c 295 [.slice 1 x2 dh,.int .i64 16,.int .i64 4]) fun ds=>
    J.i .i64 ds fun x4 ds=>
    D.nil ds<|
    M.call (c 295 [.slice 1 x2 dh,.int .i64 20,.int .i64 4]) fun ds=>
    J.i .i64 ds fun x5 ds=>
    D.nil ds<|
    M.call (c 295 [.slice 1 x2 dh,.int .i64 0,.int .i64 8]) fun ds=>
    J.i .i64 ds fun x6 ds=>
    D.nil ds<|
    M.call (c 295 [.slice 1 x2 dh,.int .i64 8,.int .i64 8]) fun ds=>
    J.i .i64 ds fun x7 ds=>
    D.nil ds<|
    M.join (fun st=>
     J.a st fun cs st=>
     J.i .i64 cs fun n1 r=>
     J.i .i64 r fun n2 r=>
     J.i .i64 r fun n3 r=>
     J.i .i64 r fun n4 r=>
     J.l 1 r fun n5 rL r=>
     D.nil r<|
     D.nil st<|
     M.call (c 296 [.agg [.int .i64 n1,.int .i64 n2,.int .i64 n3,.int .i64 n4,.slice 1 n5 rL]]) fun ds=>
     J.b ds fun x8 ds=>
     D.nil ds<|
     M.join (fun st=>J.b st fun b4 st=>D.nil st<|
      bif b4 then
       M.lq b0 [.agg [.int .i64 0,.int .i64 0,.int .i64 0,.int .i64 0,.slice 0 none 0],.bool false]
      else
       M.lq b0 [.agg [.int .i64 n1,.int .i64 n2,.int .i64 n3,.int .i64 n4,.slice 1 n5 rL],.bool true]) fun bq=>
     bif !x8 then
      bq [.bool true]
     else
      M.call (c 238 [.slice 1 x2 dh,.int .i64 (af (24+(af (2*x1)))),.int .i64 (af ((dh:Int)-(af (24+(af (2*x1))))))]) fun ds=>
      J.b ds fun x9 ds=>
      D.nil ds<|
      bq [.bool (!x9)]) fun aV=>
    M.loop (fun aN st=>
     J.a st fun bw st=>
     J.i .i64 bw fun n6 r=>
     J.i .i64 r fun n7 r=>
     J.i .i64 r fun n8 r=>
     J.i .i64 r fun n9 r=>
     J.l 1 r fun n10 yG r=>
     D.nil r<|
     J.i .i64 st fun da st=>
     D.nil st<|
     bif decide (da<x1)then
      M.ig (c 295 [.slice 1 x2 dh,.int .i64 (af (24+(af (2*da)))),.int .i64 2]) fun ds=>
      J.i .i64 ds fun eR ds=>
      D.nil ds<|
      M.new [.int .i64 eR] fun i=>
      M.load i 0 1 fun di=>
      M.app 1 n10 yG di 1 8796093022208 fun p=>
      aN [.agg [.int .i64 n6,.int .i64 n7,.int .i64 n8,.int .i64 n9,.slice 1 p (yG+1)],.int .i64 (af (da+1))]
     else
      aV [.agg [.int .i64 n6,.int .i64 n7,.int .i64 n8,.int .i64 n9,.slice 1 n10 yG]]) n [.agg [.int .i64 x4,.int .i64 x5,.int .i64 x6,.int .i64 x7,.slice 0 none 0],.int .i64 0]) fun aB=>
  bif b2 then
   aB [.bool true]
  else
   aB [.bool (decide (x1>12))]) fun aq=>
 bif !x3 then
  aq [.bool true]
 else
  aq [.bool (!(x==1))]
def Fv:Zg->Nat->List DV->M (List DV):=fun c n args=>
 J.l 1 args fun b1 ck args=>
 D.nil args<|
 M.call (c 237 [.slice 1 b1 ck]) fun ds=>
 J.i .i64 ds fun x ds=>
 J.i .i64 ds fun x1 ds=>
 J.l 1 ds fun x2 dh ds=>
 J.b ds fun x3 ds=>
 D.nil ds<|
 M.join (fun st=>J.b st fun b2 st=>D.nil st<|
  M.join (fun st=>J.b st fun b3 st=>D.nil st<|
   bif b3 then
    M.ret [.agg [.bool false,.int .i64 0,.int .i64 0,.bool false,.int .i64 0,.int .i64 0,.bool false,.int .i64 0,.int .i64 0,.bool false,.int .i64 0,.int .i64 0,.bool false,.int .i64 0,.int .i64 0,.bool false,.int .i64 0,.int .i64 0,.bool false,.int .i64 0,.int .i64 0],.bool false]
   else
    M.join (fun st=>
     J.a st fun cs st=>
     D.len cs 21<|
     J.a st fun bw st=>
     D.len bw 21<|
     D.nil st<|
     D.len bw 21<|
     M.ret [.agg bw,.bool true]) fun aV=>
    M.loop (fun aN st=>
     J.a st fun di st=>
     D.len di 21<|
     J.a st fun fJ st=>
     D.len fJ 21<|
     J.i .i64 st fun x4 st=>
     D.nil st<|
     bif decide (x4<7)then
      M.ak (decide (0<=af (8*(af (x4+1))))&&decide (af (8*(af (x4+1)))<=(dh:Int)))<|
      M.ak (decide (0<=af (8*x4))&&decide (af (8*x4)<=(((af (8*(af (x4+1)))).toNat:Nat):Int)))<|
      M.ak (decide (0<=x4))<|
      M.ak (decide ((4:Int)<=((((af (8*(af (x4+1)))).toNat)-((af (8*x4)).toNat):Nat):Int)))<|
      M.ew (c 285 [.slice 1 (cY true x2 (((af (8*x4)).toNat)*1)) 4]) fun ds=>
      J.i .u64 ds fun x5 ds=>
      D.nil ds<|
      M.ak (decide ((4:Int)<=((((af (8*(af (x4+1)))).toNat)-((af (8*x4)).toNat):Nat):Int)))<|
      M.ew (c 285 [.slice 1 (cY true (cY true x2 (((af (8*x4)).toNat)*1)) 4) ((((af (8*(af (x4+1)))).toNat)-((af (8*x4)).toNat))-4)]) fun ds=>
      J.i .u64 ds fun x6 ds=>
      D.nil ds<|
      M.call (c 297 [.agg [.bool ((bits .and .i64 (x1.fdiv (2^(min x4.toNat 64))) 1)==1),.int .i64 (af (x5)),.int .i64 (af (x6))]]) fun ds=>
      J.b ds fun x7 ds=>
      D.nil ds<|
      bif !x7 then
       M.ret [.agg [.bool false,.int .i64 0,.int .i64 0,.bool false,.int .i64 0,.int .i64 0,.bool false,.int .i64 0,.int .i64 0,.bool false,.int .i64 0,.int .i64 0,.bool false,.int .i64 0,.int .i64 0,.bool false,.int .i64 0,.int .i64 0,.bool false,.int .i64 0,.int .i64 0],.bool false]
      else
       M.ak (au x4 7)<|
      M.ak (Nat.ble (x4.toNat*3+3) 21)<|
      aN [.agg di,.agg (bN fJ (x4.toNat*3) [.bool ((bits .and .i64 (x1.fdiv (2^(min x4.toNat 64))) 1)==1),.int .i64 (af (x5)),.int .i64 (af (x6))]),.int .i64 (af (x4+1))]
     else
      aV [.agg di,.agg fJ]) n [.agg [.bool false,.int .i64 0,.int .i64 0,.bool false,.int .i64 0,.int .i64 0,.bool false,.int .i64 0,.int .i64 0,.bool false,.int .i64 0,.int .i64 0,.bool false,.int .i64 0,.int .i64 0,.bool false,.int .i64 0,.int .i64 0,.bool false,.int .i64 0,.int .i64 0],.agg [.bool false,.int .i64 0,.int .i64 0,.bool false,.int .i64 0,.int .i64 0,.bool false,.int .i64 0,.int .i64 0,.bool false,.int .i64 0,.int .i64 0,.bool false,.int .i64 0,.int .i64 0,.bool false,.int .i64 0,.int .i64 0,.bool false,.int .i64 0,.int .i64 0],.int .i64 0]) fun aB=>
  bif b2 then
   aB [.bool true]
  else
   aB [.bool (decide (x1>=128))]) fun aq=>
 bif !x3 then
  aq [.bool true]
 else
  aq [.bool (!(x==2))]
def F0:Zg->Nat->List DV->M (List DV):=fun c n args=>
 J.l 1 args fun b1 ck args=>
 D.nil args<|
 M.call (c 237 [.slice 1 b1 ck]) fun ds=>
 J.i .i64 ds fun x ds=>
 J.i .i64 ds fun x1 ds=>
 J.l 1 ds fun x2 dh ds=>
 J.b ds fun x3 ds=>
 D.nil ds<|
 M.join (fun st=>J.b st fun b2 st=>D.nil st<|
  M.join (fun st=>J.b st fun b3 st=>D.nil st<|
   M.join (fun st=>J.b st fun b4 st=>D.nil st<|
    bif b4 then
     M.ret [.agg (List.replicate 16 (.int .i64 0)),.bool false]
    else
     M.join (fun st=>
      J.a st fun cs st=>
      D.len cs 16<|
      D.nil st<|
      M.call (c 298 [.agg cs]) fun ds=>
      J.b ds fun x4 ds=>
      D.nil ds<|
      bif !x4 then
       M.ret [.agg (List.replicate 16 (.int .i64 0)),.bool false]
      else
       D.len cs 16<|
      M.ret [.agg cs,.bool true]) fun bq=>
     M.loop (fun aN st=>
      J.a st fun bw st=>
      D.len bw 16<|
      J.i .i64 st fun x5 st=>
      D.nil st<|
      bif decide (x5<16)then
       M.ak (decide (0<=af (2*(af (x5+1))))&&decide (af (2*(af (x5+1)))<=(dh:Int)))<|
      M.ak (decide (0<=af (2*x5))&&decide (af (2*x5)<=(((af (2*(af (x5+1)))).toNat:Nat):Int)))<|
      M.call (c 285 [.slice 1 (cY true x2 (((af (2*x5)).toNat)*1)) (((af (2*(af (x5+1)))).toNat)-((af (2*x5)).toNat))]) fun ds=>
      J.i .u64 ds fun x6 ds=>
      D.nil ds<|
      M.ak (au x5 16)<|
      M.ak (Nat.ble (x5.toNat*1+1) 16)<|
      aN [.agg (bN bw (x5.toNat*1) [.int .i64 (af (x6))]),.int .i64 (af (x5+1))]
      else
       bq [.agg bw]) n [.agg (List.replicate 16 (.int .i64 0)),.int .i64 0]) fun aV=>
   bif b3 then
    aV [.bool true]
   else
    M.call (c 238 [.slice 1 x2 dh,.int .i64 32,.int .i64 (af ((dh:Int)-32))]) fun ds=>
    J.b ds fun x7 ds=>
    D.nil ds<|
    aV [.bool (!x7)]) fun aB=>
  bif b2 then
   aB [.bool true]
  else
   aB [.bool (!(x1==0))]) fun aq=>
 bif !x3 then
  aq [.bool true]
 else
  aq [.bool (!(x==3))]
def FL:Zg->Nat->List DV->M (List DV):=fun c n args=>
 J.l 1 args fun b1 ck args=>
 D.nil args<|
 M.call (c 237 [.slice 1 b1 ck]) fun ds=>
 J.i .i64 ds fun x ds=>
 J.i .i64 ds fun x1 ds=>
 J.l 1 ds fun x2 dh ds=>
 J.b ds fun x3 ds=>
 D.nil ds<|
 M.join (fun st=>J.b st fun b2 st=>D.nil st<|
  M.join (fun st=>J.b st fun b3 st=>D.nil st<|
   M.join (fun st=>J.b st fun b4 st=>D.nil st<|
    bif b4 then
     M.ret [.agg [.str (bs []),.int .i64 0,.int .i64 0,.int .i64 0,.int .i64 0,.int .i64 0,.int .i64 0,.int .i64 0,.int .i64 0,.int .i64 0,.int .i64 0,.int .i64 0,.int .i64 0,.int .i64 0],.bool false]
    else
     M.ak (decide (0<=af (28+x1))&&decide (af (28+x1)<=(dh:Int)))<|
     M.ak (decide ((28:Int)<=(((af (28+x1)).toNat:Nat):Int)))<|
     M.rd (cY true x2 28) (((af (28+x1)).toNat)-28) fun cs=>
     D.cO cs fun l=>
     M.ak (decide ((4:Int)<=(dh:Int)))<|
     M.ew (c 285 [.slice 1 x2 4]) fun ds=>
     J.i .u64 ds fun x4 ds=>
     D.nil ds<|
     M.join (fun st=>
      J.a st fun bw st=>
      J.s bw fun q r1=>
      J.i .i64 r1 fun q1 r2=>
      D.len r2 12<|
      D.nil st<|
      M.call (c 299 [.agg ((.str q)::(.int .i64 q1)::r2)]) fun ds=>
      J.b ds fun x5 ds=>
      D.nil ds<|
      bif !x5 then
       M.ret [.agg [.str (bs []),.int .i64 0,.int .i64 0,.int .i64 0,.int .i64 0,.int .i64 0,.int .i64 0,.int .i64 0,.int .i64 0,.int .i64 0,.int .i64 0,.int .i64 0,.int .i64 0,.int .i64 0],.bool false]
      else
       D.len ((.str q)::(.int .i64 q1)::r2) 14<|
      M.ret [.agg ((.str q)::(.int .i64 q1)::r2),.bool true]) fun bq=>
     M.loop (fun aN st=>
      J.a st fun di st=>
      J.s di fun q2 r3=>
      J.i .i64 r3 fun q3 r4=>
      D.len r4 12<|
      J.i .i64 st fun x6 st=>
      D.nil st<|
      bif decide (x6<12)then
       M.ak (decide (0<=af ((af (4+(af (2*x6))))+2))&&decide (af ((af (4+(af (2*x6))))+2)<=(dh:Int)))<|
      M.ak (decide (0<=af (4+(af (2*x6))))&&decide (af (4+(af (2*x6)))<=(((af ((af (4+(af (2*x6))))+2)).toNat:Nat):Int)))<|
      M.call (c 285 [.slice 1 (cY true x2 (((af (4+(af (2*x6)))).toNat)*1)) (((af ((af (4+(af (2*x6))))+2)).toNat)-((af (4+(af (2*x6)))).toNat))]) fun ds=>
      J.i .u64 ds fun x7 ds=>
      D.nil ds<|
      M.ak (au x6 12)<|
      M.ak (Nat.ble (x6.toNat*1+2+1) 14)<|
      aN [.agg ((.str q2)::(.int .i64 q3)::(bN r4 (x6.toNat*1) [.int .i64 (af (x7))])),.int .i64 (af (x6+1))]
      else
       bq [.agg ((.str q2)::(.int .i64 q3)::r4)]) n [.agg [.str l,.int .i64 (af (x4)),.int .i64 0,.int .i64 0,.int .i64 0,.int .i64 0,.int .i64 0,.int .i64 0,.int .i64 0,.int .i64 0,.int .i64 0,.int .i64 0,.int .i64 0,.int .i64 0],.int .i64 0]) fun aV=>
   bif b3 then
    aV [.bool true]
   else
    M.call (c 238 [.slice 1 x2 dh,.int .i64 (af (28+x1)),.int .i64 (af ((af ((dh:Int)-28))-x1))]) fun ds=>
    J.b ds fun x8 ds=>
    D.nil ds<|
    aV [.bool (!x8)]) fun aB=>
  bif b2 then
   aB [.bool true]
  else
   aB [.bool (decide (x1>24))]) fun aq=>
 bif !x3 then
  aq [.bool true]
 else
  aq [.bool (!(x==5))]
def Fm:Zg->Nat->List DV->M (List DV):=fun c n args=>
 J.l 1 args fun b1 ck args=>
 D.nil args<|
 M.base fun b0=>
 M.call (c 237 [.slice 1 b1 ck]) fun ds=>
 J.i .i64 ds fun x ds=>
 J.i .i64 ds fun x1 ds=>
 J.l 1 ds fun x2 dh ds=>
 J.b ds fun x3 ds=>
 D.nil ds<|
 M.join (fun st=>J.b st fun b2 st=>D.nil st<|
  M.join (fun st=>J.b st fun b3 st=>D.nil st<|
   M.join (fun st=>J.b st fun b4 st=>D.nil st<|
    bif b4 then
     M.lq b0 [.agg [.slice 0 none 0],.bool false]
    else
     M.join (fun st=>
      J.a st fun cs st=>
      J.l 1 cs fun d dn r=>
      D.nil r<|
      D.nil st<|
      M.call (c 300 [.agg [.slice 1 d dn]]) fun ds=>
      J.b ds fun x4 ds=>
      D.nil ds<|
      bif !x4 then
       M.lq b0 [.agg [.slice 0 none 0],.bool false]
      else
       M.lq b0 [.agg [.slice 1 d dn],.bool true]) fun bq=>
     M.loop (fun aN st=>
      J.a st fun bw st=>
      J.l 1 bw fun d1 Pt r=>
      D.nil r<|
      J.i .i64 st fun x5 st=>
      D.nil st<|
      bif decide (x5<x1)then
       M.ak (decide (0<=af (2*(af (x5+1))))&&decide (af (2*(af (x5+1)))<=(dh:Int)))<|
      M.ak (decide (0<=af (2*x5))&&decide (af (2*x5)<=(((af (2*(af (x5+1)))).toNat:Nat):Int)))<|
      M.ig (c 285 [.slice 1 (cY true x2 (((af (2*x5)).toNat)*1)) (((af (2*(af (x5+1)))).toNat)-((af (2*x5)).toNat))]) fun ds=>
      J.i .u64 ds fun x6 ds=>
      D.nil ds<|
      M.new [.int .i64 (af (x6))] fun i=>
      M.load i 0 1 fun di=>
      M.app 1 d1 Pt di 1 8796093022208 fun p=>
      aN [.agg [.slice 1 p (Pt+1)],.int .i64 (af (x5+1))]
      else
       bq [.agg [.slice 1 d1 Pt]]) n [.agg [.slice 0 none 0],.int .i64 0]) fun aV=>
   bif b3 then
    aV [.bool true]
   else
    M.call (c 238 [.slice 1 x2 dh,.int .i64 (af (2*x1)),.int .i64 (af ((dh:Int)-(af (2*x1))))]) fun ds=>
    J.b ds fun x7 ds=>
    D.nil ds<|
    aV [.bool (!x7)]) fun aB=>
  bif b2 then
   aB [.bool true]
  else
   aB [.bool (decide (x1>16))]) fun aq=>
 bif !x3 then
  aq [.bool true]
 else
  aq [.bool (!(x==6))]
def GQ:Zg->Nat->List DV->M (List DV):=fun c n args=>
 J.l 1 args fun b1 ck args=>
 D.nil args<|
 M.ak (decide (0<=(if 8<(ck:Int)then 8 else(ck:Int)))&&decide ((if 8<(ck:Int)then 8 else(ck:Int))<=(ck:Int)))<|
 M.join (fun st=>
  J.i .u64 st fun v st=>
  D.nil st<|
  M.ret [.int .u64 v]) fun aq=>
 M.loop (fun aN st=>
  J.i .u64 st fun v1 st=>
  J.i .i64 st fun x st=>
  D.nil st<|
  bif decide (x<(((if 8<(ck:Int)then 8 else(ck:Int)).toNat:Nat):Int))then
   M.nn b1 fun i o=>
   M.ak (au x ((if 8<(ck:Int)then 8 else(ck:Int)).toNat))<|
   M.ar i (x.toNat*1+o) fun d=>
   D.int .u8 d fun x1=>
   M.ak (decide (0<=af (8*x)))<|
   aN [.int .u64 (bits .or .u64 v1 (IntKind.wrap .u64 ((IntKind.wrap .u64 (x1))*2^(min (af (8*x)).toNat 64)))),.int .i64 (af (x+1))]
  else
   aq [.int .u64 v1]) n [.int .u64 0,.int .i64 0]
def Hz:Zg->Nat->List DV->M (List DV):=fun c n args=>
 J.i .u32 args fun sum args=>
 J.l 1 args fun bs IS args=>
 D.nil args<|
 M.call (c 306 [.slice 1 bs IS]) fun ds=>
 J.i .u32 ds fun x ds=>
 D.nil ds<|
 M.ret [.bool (x==sum)]
def Hm:Zg->Nat->List DV->M (List DV):=fun c n args=>
 J.a args fun cs args=>
 J.i .i64 cs fun c1 r1=>
 D.len r1 48<|
 J.i .i64 args fun bZ args=>
 D.nil args<|
 D.len ((.int .i64 c1)::r1) 49<|
 M.call (c 307 [.agg ((.int .i64 c1)::r1)]) fun ds=>
 J.b ds fun x ds=>
 D.nil ds<|
 M.join (fun st=>J.b st fun b1 st=>D.nil st<|
  M.join (fun st=>J.b st fun b2 st=>D.nil st<|
   bif b2 then
    M.ret [.int .i64 0,.int .u8 0,.bool false]
   else
    M.ak (decide (0<=(bZ.tmod 384).tmod 8))<|
    M.ret [.int .i64 (af ((bZ.tmod 384).tdiv 8)),.int .u8 (IntKind.wrap .u8 (1*2^(min ((bZ.tmod 384).tmod 8).toNat 8))),.bool true]) fun aB=>
  bif b1 then
   aB [.bool true]
  else
   aB [.bool (!((af (bZ.tdiv 384))==c1))]) fun aq=>
 bif !x then
  aq [.bool true]
 else
  aq [.bool (decide (bZ<0))]
def GD:Zg->Nat->List DV->M (List DV):=fun c n args=>
 J.i .u32 args fun x args=>
 D.nil args<|
 bif (x.tmod 2)==1 then
  M.ret [.int .u32 (bits .xor .u32 (IntKind.wrap .u32 (x.tdiv 2)) 2197175160)]
 else
  M.ret [.int .u32 (IntKind.wrap .u32 (x.tdiv 2))]
def Gw:Zg->Nat->List DV->M (List DV):=fun c n args=>
 J.l 1 args fun body U7 args=>
 J.i .i64 args fun bZ args=>
 J.i .i64 args fun n1 args=>
 D.nil args<|
 M.call (c 312 [.slice 1 body U7,.int .i64 bZ,.int .i64 n1]) fun ds=>
 J.i .u64 ds fun x ds=>
 J.b ds fun x1 ds=>
 D.nil ds<|
 M.ret [.int .i64 (af (x))]
def GP:Zg->Nat->List DV->M (List DV):=fun c n args=>
 J.a args fun cs args=>
 J.i .i64 cs fun n1 r=>
 J.i .i64 r fun n2 r=>
 J.i .i64 r fun n3 r=>
 J.i .i64 r fun n4 r=>
 J.l 1 r fun n5 rL r=>
 D.nil r<|
 D.nil args<|
 M.join (fun st=>J.b st fun b1 st=>D.nil st<|
  M.join (fun st=>J.b st fun b2 st=>D.nil st<|
   M.join (fun st=>J.b st fun b3 st=>D.nil st<|
    M.join (fun st=>J.b st fun b4 st=>D.nil st<|
     bif b4 then
      M.ret [.bool false]
     else
      M.call (c 147 [.slice 1 n5 rL,.func 313 [] []]) fun ds=>
      J.b ds fun x ds=>
      D.nil ds<|
      M.ret [.bool (!x)]) fun bq=>
    bif b3 then
     bq [.bool true]
    else
     bq [.bool (decide ((rL:Int)>12))]) fun aV=>
   bif b2 then
    aV [.bool true]
   else
    aV [.bool (decide (n2>4294967295))]) fun aB=>
  bif b1 then
   aB [.bool true]
  else
   aB [.bool (decide (n2<1))]) fun aq=>
 bif decide (n1<0)then
  aq [.bool true]
 else
  aq [.bool (decide (n1>=1792))]
def FM:Zg->Nat->List DV->M (List DV):=fun c n args=>
 J.a args fun cs args=>
 J.b cs fun x r=>
 J.i .i64 r fun x1 r=>
 J.i .i64 r fun x2 r=>
 D.nil r<|
 D.nil args<|
 bif x then
  M.call (c 314 [.int .i64 x1,.int .i64 1,.int .i64 4294967295]) fun ds=>
  J.b ds fun x3 ds=>
  D.nil ds<|
  M.join (fun st=>J.b st fun b1 st=>D.nil st<|
   M.ret [.bool b1]) fun aq=>
  bif x3 then
   M.call (c 314 [.int .i64 x2,.int .i64 2,.int .i64 3071]) fun ds=>
   J.b ds fun x4 ds=>
   D.nil ds<|
   aq [.bool x4]
  else
   aq [.bool false]
 else
  M.call (c 314 [.int .i64 x1,.int .i64 0,.int .i64 4294967295]) fun ds=>
  J.b ds fun x5 ds=>
  D.nil ds<|
  M.join (fun st=>J.b st fun b2 st=>D.nil st<|
   M.join (fun st=>J.b st fun b3 st=>D.nil st<|
    M.ret [.bool b3]) fun aV=>
   bif b2 then
    M.join (fun st=>J.b st fun b4 st=>D.nil st<|
     aV [.bool b4]) fun bq=>
    bif decide (x1>0)then
     bq [.bool true]
    else
     bq [.bool (x2==0)]
   else
    aV [.bool false]) fun aB=>
  bif x5 then
   M.call (c 314 [.int .i64 x2,.int .i64 0,.int .i64 1792]) fun ds=>
   J.b ds fun x6 ds=>
   D.nil ds<|
   aB [.bool x6]
  else
   aB [.bool false]
def FI:Zg->Nat->List DV->M (List DV):=fun c n args=>
 J.a args fun cs args=>
 D.len cs 16<|
 D.nil args<|
 D.len cs 16<|
 M.join (fun st=>
  D.nil st<|
  M.ret [.bool true]) fun aq=>
 M.loop (fun aN st=>
  J.i .i64 st fun x st=>
  D.nil st<|
  bif decide (x<16)then
   M.ak (au x 16)<|
   D.nth cs (x.toNat*1) fun d=>
   D.int .i64 d fun x1=>
   M.join (fun st=>J.b st fun b1 st=>D.nil st<|
    bif b1 then
     M.ret [.bool false]
    else
     aN [.int .i64 (af (x+1))]) fun aB=>
   bif !(x1==0)then
    M.call (c 314 [.int .i64 x1,.int .i64 2,.int .i64 3071]) fun ds=>
    J.b ds fun x2 ds=>
    D.nil ds<|
    aB [.bool (!x2)]
   else
    aB [.bool false]
  else
   aq []) n [.int .i64 0]
def EW:Zg->Nat->List DV->M (List DV):=fun c n args=>
 J.a args fun cs args=>
 J.s cs fun q r1=>
 J.i .i64 r1 fun q1 r2=>
 D.len r2 12<|
 D.nil args<|
 D.len ((.str q)::(.int .i64 q1)::r2) 14<|
 M.call (c 26 [.str q]) fun ds=>
 J.b ds fun x ds=>
 D.nil ds<|
 M.join (fun st=>J.b st fun b1 st=>D.nil st<|
  M.join (fun st=>J.b st fun b2 st=>D.nil st<|
   bif b2 then
    M.ret [.bool false]
   else
    M.join (fun st=>
     D.nil st<|
     M.ret [.bool true]) fun aV=>
    M.loop (fun aN st=>
     J.i .i64 st fun x1 st=>
     D.nil st<|
     bif decide (x1<12)then
      M.ak (au x1 12)<|
      D.nth (r2.take 12) (x1.toNat*1) fun d=>
      D.int .i64 d fun x2=>
      M.ak (decide (0<=x1))<|
      M.join (fun st=>J.b st fun b3 st=>D.nil st<|
       M.join (fun st=>J.b st fun b4 st=>D.nil st<|
       bif b4 then
       M.ret [.bool false]
      else
       aN [.int .i64 (af (x1+1))]) fun ca=>
      bif b3 then
       ca [.bool true]
      else
       M.ak (decide (0<=x1))<|
      M.join (fun st=>J.b st fun b5 st=>D.nil st<|
       ca [.bool b5]) fun eM=>
      bif (bits .and .i64 (q1.fdiv (2^(min x1.toNat 64))) 1)==1 then
       M.call (c 315 [.int .i64 x2]) fun ds=>
      J.b ds fun x3 ds=>
      D.nil ds<|
      eM [.bool (!x3)]
      else
       eM [.bool false]) fun bq=>
      bif (bits .and .i64 (q1.fdiv (2^(min x1.toNat 64))) 1)==0 then
       bq [.bool (!(x2==0))]
      else
       bq [.bool false]
     else
      aV []) n [.int .i64 0]) fun aB=>
  bif b1 then
   aB [.bool true]
  else
   aB [.bool (decide (q1>=4096))]) fun aq=>
 bif !x then
  aq [.bool true]
 else
  aq [.bool (decide (q1<0))]
def FN:Zg->Nat->List DV->M (List DV):=fun c n args=>
 J.a args fun cs args=>
 J.l 1 cs fun d dn r=>
 D.nil r<|
 D.nil args<|
 M.join (fun st=>J.b st fun b1 st=>D.nil st<|
  bif b1 then
   M.ret [.bool false]
  else
   M.join (fun st=>
    D.nil st<|
    M.ret [.bool true]) fun aB=>
   M.loop (fun aN st=>
    J.i .i64 st fun x st=>
    D.nil st<|
    bif decide (x<(dn:Int))then
     M.nn d fun i o=>
     M.ak (au x dn)<|
     M.ar i (x.toNat*1+o) fun d1=>
     D.int .i64 d1 fun x1=>
     M.call (c 315 [.int .i64 x1]) fun ds=>
     J.b ds fun x2 ds=>
     D.nil ds<|
     M.join (fun st=>J.b st fun b2 st=>D.nil st<|
      bif b2 then
       M.ret [.bool false]
      else
       aN [.int .i64 (af (x+1))]) fun aV=>
     bif !x2 then
      aV [.bool true]
     else
      M.ak (decide (0<=x)&&decide (x<=(dn:Int)))<|
      M.call (c 222 [.slice 1 d x.toNat,.int .i64 x1]) fun ds=>
      J.b ds fun x3 ds=>
      D.nil ds<|
      aV [.bool x3]
    else
     aB []) n [.int .i64 0]) fun aq=>
 bif decide ((dn:Int)<1)then
  aq [.bool true]
 else
  aq [.bool (decide ((dn:Int)>16))]
def H2:Zg->Nat->List DV->M (List DV):=fun c n args=>
 J.l 1 args fun bs IS args=>
 D.nil args<|
 M.call (c 317 []) fun ds=>
 J.a ds fun cs ds=>
 D.len cs 16<|
 D.nil ds<|
 M.new (List.replicate 16 (.int .u32 0)) fun t=>
 D.len cs 16<|
 M.store t 0 cs<|
 M.join (fun st=>
  J.i .u32 st fun x st=>
  D.nil st<|
  M.ret [.int .u32 (bits .xor .u32 x 4294967295)]) fun aq=>
 M.loop (fun aN st=>
  J.i .u32 st fun x1 st=>
  J.i .i64 st fun x2 st=>
  D.nil st<|
  bif decide (x2<(IS:Int))then
   M.nn bs fun i o=>
   M.ak (au x2 IS)<|
   M.ar i (x2.toNat*1+o) fun d=>
   D.slice 1 d fun x3 du=>
   M.call (c 318 [.ptr (some (t,0)),.int .u32 x1,.slice 1 x3 du]) fun ds=>
   J.i .u32 ds fun x4 ds=>
   D.nil ds<|
   aN [.int .u32 x4,.int .i64 (af (x2+1))]
  else
   aq [.int .u32 x1]) n [.int .u32 4294967295,.int .i64 0]
def Gj:Zg->Nat->List DV->M (List DV):=fun c n args=>
 J.a args fun cs args=>
 J.i .i64 cs fun c1 r1=>
 D.len r1 48<|
 D.nil args<|
 D.len ((.int .i64 c1)::r1) 49<|
 M.join (fun st=>J.b st fun b1 st=>D.nil st<|
  M.ret [.bool b1]) fun aq=>
 bif decide (c1>=0)then
  aq [.bool (decide (c1<8))]
 else
  aq [.bool false]
def Hd:Zg->Nat->List DV->M (List DV):=fun c n args=>
 J.l 1 args fun b1 ck args=>
 J.i .i64 args fun bZ args=>
 J.i .i64 args fun n1 args=>
 D.nil args<|
 M.join (fun st=>J.b st fun b2 st=>D.nil st<|
  M.join (fun st=>J.b st fun b3 st=>D.nil st<|
   bif b3 then
    M.ret [.int .u64 0,.bool false]
   else
    M.ak (decide (0<=af (bZ+n1))&&decide (af (bZ+n1)<=(ck:Int)))<|
    M.ak (decide (0<=bZ)&&decide (bZ<=(((af (bZ+n1)).toNat:Nat):Int)))<|
    M.call (c 285 [.slice 1 (cY true b1 (bZ.toNat*1)) (((af (bZ+n1)).toNat)-bZ.toNat)]) fun ds=>
    J.i .u64 ds fun x ds=>
    D.nil ds<|
    M.ret [.int .u64 x,.bool true]) fun aB=>
  bif b2 then
   aB [.bool true]
  else
   M.call (c 261 [.slice 1 b1 ck,.int .i64 bZ,.int .i64 n1]) fun ds=>
   J.b ds fun x1 ds=>
   D.nil ds<|
   aB [.bool (!x1)]) fun aq=>
 bif decide (n1<1)then
  aq [.bool true]
 else
  aq [.bool (decide (n1>8))]
def Fu:Zg->Nat->List DV->M (List DV):=fun c n args=>
 J.i .i64 args fun kid args=>
 D.nil args<|
 M.join (fun st=>J.b st fun b1 st=>D.nil st<|
  M.ret [.bool b1]) fun aq=>
 bif decide (kid<2)then
  aq [.bool true]
 else
  aq [.bool (decide (kid>=3072))]
def F7:Zg->Nat->List DV->M (List DV):=fun c n args=>
 J.i .i64 args fun n1 args=>
 J.i .i64 args fun Vh args=>
 J.i .i64 args fun to args=>
 D.nil args<|
 M.join (fun st=>J.b st fun b1 st=>D.nil st<|
  M.ret [.bool b1]) fun aq=>
 bif decide (n1>=Vh)then
  aq [.bool (decide (n1<=to))]
 else
  aq [.bool false]
def Fl:Zg->Nat->List DV->M (List DV):=fun c n args=>
 J.i .i64 args fun n1 args=>
 D.nil args<|
 M.join (fun st=>J.b st fun b1 st=>D.nil st<|
  M.ret [.bool b1]) fun aq=>
 bif decide (n1>=2)then
  aq [.bool (decide (n1<3072))]
 else
  aq [.bool false]
def Hs:Zg->Nat->List DV->M (List DV):=fun c n args=>
 D.nil args<|
 M.join (fun st=>
  J.a st fun cs st=>
  D.len cs 16<|
  D.nil st<|
  D.len cs 16<|
  M.ret [.agg cs]) fun aq=>
 M.loop (fun aN st=>
  J.a st fun bw st=>
  D.len bw 16<|
  J.i .i64 st fun x st=>
  D.nil st<|
  bif decide (x<16)then
   M.join (fun st=>
    J.a st fun di st=>
    D.len di 16<|
    D.nil st<|
    aN [.agg di,.int .i64 (af (x+1))]) fun aB=>
   M.join (fun st=>
    J.i .u32 st fun x1 st=>
    D.nil st<|
    M.ak (au x 16)<|
    M.ak (Nat.ble (x.toNat*1+1) 16)<|
    aB [.agg (bN bw (x.toNat*1) [.int .u32 x1])]) fun aV=>
   M.loop (fun dW st=>
    J.i .u32 st fun x2 st=>
    J.i .i64 st fun x3 st=>
    D.nil st<|
    bif decide (x3<4)then
     M.call (c 320 [.int .u32 x2]) fun ds=>
     J.i .u32 ds fun x4 ds=>
     D.nil ds<|
     dW [.int .u32 x4,.int .i64 (af (x3+1))]
    else
     aV [.int .u32 x2]) n [.int .u32 (IntKind.wrap .u32 (x)),.int .i64 0]
  else
   aq [.agg bw]) n [.agg (List.replicate 16 (.int .u32 0)),.int .i64 0]
def Gq:Zg->Nat->List DV->M (List DV):=fun c n args=>
 J.p args fun t args=>
 J.i .u32 args fun x args=>
 J.l 1 args fun b1 ck args=>
 D.nil args<|
 M.join (fun st=>
  J.i .u32 st fun x1 st=>
  D.nil st<|
  M.ret [.int .u32 x1]) fun aq=>
 M.loop (fun aN st=>
  J.i .u32 st fun x2 st=>
  J.i .i64 st fun x3 st=>
  D.nil st<|
  bif decide (x3<(ck:Int))then
   M.nn b1 fun i o=>
   M.ak (au x3 ck)<|
   M.ar i (x3.toNat*1+o) fun d=>
   D.int .u8 d fun x4=>
   M.nn t fun i1 o1=>
   M.ak (au (bits .and .u32 (bits .xor .u32 x2 (IntKind.wrap .u32 (x4))) 15) 16)<|
   M.ar i1 (((bits .and .u32 (bits .xor .u32 x2 (IntKind.wrap .u32 (x4))) 15).toNat)*1+o1) fun d1=>
   D.int .u32 d1 fun x5=>
   M.nn t fun i2 o2=>
   M.ak (au (bits .and .u32 (bits .xor .u32 ((bits .xor .u32 x2 (IntKind.wrap .u32 (x4))).fdiv (2^4)) x5) 15) 16)<|
   M.ar i2 (((bits .and .u32 (bits .xor .u32 ((bits .xor .u32 x2 (IntKind.wrap .u32 (x4))).fdiv (2^4)) x5) 15).toNat)*1+o2) fun d2=>
   D.int .u32 d2 fun x6=>
   aN [.int .u32 (bits .xor .u32 ((bits .xor .u32 ((bits .xor .u32 x2 (IntKind.wrap .u32 (x4))).fdiv (2^4)) x5).fdiv (2^4)) x6),.int .i64 (af (x3+1))]
  else
   aq [.int .u32 x2]) n [.int .u32 x,.int .i64 0]
def HD:Zg->Nat->List DV->M (List DV):=fun c n args=>
 J.i .u32 args fun x args=>
 D.nil args<|
 bif (bits .and .u32 x 1)==1 then
  M.ret [.int .u32 (bits .xor .u32 (x.fdiv (2^1)) 2197175160)]
 else
  M.ret [.int .u32 (x.fdiv (2^1))]
end
structure Ms (Bd:Za):Prop where
 eq:Bd 179=GO
structure LI (Bd:Za):Prop where
 eq:Bd 248=Gh
structure tL (Bd:Za):Prop where
 eq:Bd 213=G3
 q69:LI Bd
structure L9 (Bd:Za):Prop where
 eq:Bd 288=GD
structure LP (Bd:Za):Prop where
 eq:Bd 264=FU
 q94:L9 Bd
structure MC (Bd:Za):Prop where
 eq:Bd 242=G7
 q70:LP Bd
structure Mn (Bd:Za):Prop where
 eq:Bd 249=Gx
structure tM (Bd:Za):Prop where
 eq:Bd 214=GC
 kD:tL Bd
 Xt:MC Bd
 q95:Mn Bd
structure Mu (Bd:Za):Prop where
 eq:Bd 191=G5
 kD:tL Bd
 pL:tM Bd
structure zr (Bd:Za):Prop where
 eq:Bd 194=Fe
structure My (Bd:Za):Prop where
 eq:Bd 250=GZ
 kD:tL Bd
 pL:tM Bd
structure ET (Bd:Za):Prop where
 eq:Bd 217=EV
 tq:zr Bd
 Xu:My Bd
structure MH (Bd:Za):Prop where
 eq:Bd 216=G6
 kD:tL Bd
 pL:tM Bd
structure BL (Bd:Za):Prop where
 eq:Bd 251=FZ
structure MF (Bd:Za):Prop where
 eq:Bd 215=Ha
 kD:tL Bd
 pL:tM Bd
 D6:BL Bd
structure Lc (Bd:Za):Prop where
 eq:Bd 189=Fc
 tq:zr Bd
 q24:ET Bd
 Xx:MH Bd
 Xw:MF Bd
structure Mg (Bd:Za):Prop where
 eq:Bd 252=GG
 D6:BL Bd
structure Mh (Bd:Za):Prop where
 eq:Bd 219=GR
 kD:tL Bd
 pL:tM Bd
 q98:Mg Bd
structure MD (Bd:Za):Prop where
 eq:Bd 218=Hi
 kD:tL Bd
 pL:tM Bd
 D6:BL Bd
structure K4 (Bd:Za):Prop where
 eq:Bd 190=Fj
 tq:zr Bd
 q97:Mh Bd
 UD:MD Bd
structure Mq (Bd:Za):Prop where
 eq:Bd 220=GM
structure Gn (Bd:Za):Prop where
 eq:Bd 196=Gp
 Xk:Mq Bd
structure LH (Bd:Za):Prop where
 eq:Bd 195=F3
 RR:Gn Bd
 RT:F5 Bd
structure MB (Bd:Za):Prop where
 eq:Bd 193=Ho
 pL:tM Bd
structure Zip (Bd:Za):Prop where
 eq:Bd 192=GB
structure Ge (Bd:Za):Prop where
 eq:Bd 170=FW
 q93:Ms Bd
 Xz:Mw Bd
 Xy:Mu Bd
 q26:Lc Bd
 q15:K4 Bd
 RR:Gn Bd
 q77:LH Bd
 tq:zr Bd
 Xv:MB Bd
 q99:Zip Bd
structure FJ (Bd:Za):Prop where
 eq:Bd 209=Fq
structure zA (Bd:Za):Prop where
 eq:Bd 206=Fo
 RP:FJ Bd
structure B2 (Bd:Za):Prop where
 eq:Bd 177=Ia
 yK:zA Bd
structure Ll (Bd:Za):Prop where
 eq:Bd 221=FD
structure H9 (Bd:Za):Prop where
 eq:Bd 253=Ic
structure LU (Bd:Za):Prop where
 eq:Bd 223=Gt
 RV:GI Bd
 RJ:H9 Bd
structure KU (Bd:Za):Prop where
 eq:Bd 254=EJ
structure EN (Bd:Za):Prop where
 eq:Bd 222=EO
 q11:KU Bd
structure LN (Bd:Za):Prop where
 eq:Bd 197=Gb
 RV:GI Bd
 q44:Ll Bd
 q60:LU Bd
 q8:EN Bd
structure ZX (Bd:Za):Prop where
 eq:Bd 225=GY
structure L8 (Bd:Za):Prop where
 eq:Bd 255=GA
structure LJ (Bd:Za):Prop where
 eq:Bd 227=Gd
 RJ:H9 Bd
 q85:L8 Bd
structure Gl (Bd:Za):Prop where
 eq:Bd 184=Fs
 RP:FJ Bd
structure Hq (Bd:Za):Prop where
 eq:Bd 203=Hk
structure F4 (Bd:Za):Prop where
 eq:Bd 261=Gc
structure vw (Bd:Za):Prop where
 eq:Bd 238=FE
 RS:F4 Bd
structure M2 (Bd:Za):Prop where
 eq:Bd 320=HD
structure MI (Bd:Za):Prop where
 eq:Bd 317=Hs
 XB:M2 Bd
structure Ls (Bd:Za):Prop where
 eq:Bd 318=Gq
structure NB (Bd:Za):Prop where
 eq:Bd 306=H2
 Xq:MI Bd
 q48:Ls Bd
structure Nu (Bd:Za):Prop where
 eq:Bd 286=Hz
 XE:NB Bd
structure vv (Bd:Za):Prop where
 eq:Bd 285=GQ
structure LC (Bd:Za):Prop where
 eq:Bd 259=F8
 rQ:vw Bd
 XA:Nu Bd
 pK:vv Bd
structure LM (Bd:Za):Prop where
 eq:Bd 260=FY
structure vu (Bd:Za):Prop where
 eq:Bd 237=GF
 q57:LC Bd
 q58:LM Bd
structure MK (Bd:Za):Prop where
 eq:Bd 312=Hd
 RS:F4 Bd
 pK:vv Bd
structure LA (Bd:Za):Prop where
 eq:Bd 295=Gw
 Xs:MK Bd
structure Lp (Bd:Za):Prop where
 eq:Bd 313=Fu
structure Ma (Bd:Za):Prop where
 eq:Bd 296=GP
 q3:KQ Bd
 q53:Lp Bd
structure Ns (Bd:Za):Prop where
 eq:Bd 272=HL
 rR:vu Bd
 rQ:vw Bd
 D5:LA Bd
 q90:Ma Bd
structure Gs (Bd:Za):Prop where
 eq:Bd 314=F7
structure Lb (Bd:Za):Prop where
 eq:Bd 297=FM
 Bi:Gs Bd
structure Lt (Bd:Za):Prop where
 eq:Bd 273=Fv
 rR:vu Bd
 pK:vv Bd
 q33:Lb Bd
structure Lm (Bd:Za):Prop where
 eq:Bd 298=FI
 Bi:Gs Bd
structure LD (Bd:Za):Prop where
 eq:Bd 274=F0
 rR:vu Bd
 rQ:vw Bd
 pK:vv Bd
 q39:Lm Bd
structure Fh (Bd:Za):Prop where
 eq:Bd 315=Fl
structure KX (Bd:Za):Prop where
 eq:Bd 299=EW
 q87:Mr Bd
 RK:Fh Bd
structure La (Bd:Za):Prop where
 eq:Bd 275=FL
 rR:vu Bd
 rQ:vw Bd
 pK:vv Bd
 q18:KX Bd
structure K7 (Bd:Za):Prop where
 eq:Bd 300=FN
 q8:EN Bd
 RK:Fh Bd
structure Lq (Bd:Za):Prop where
 eq:Bd 276=Fm
 rR:vu Bd
 rQ:vw Bd
 pK:vv Bd
 q32:K7 Bd
structure Mp (Bd:Za):Prop where
 eq:Bd 256=GL
 XC:Ns Bd
 q54:Lt Bd
 q67:LD Bd
 q31:La Bd
 q49:Lq Bd
structure Z4 (Bd:Za):Prop where
 eq:Bd 228=EU
 RO:Gl Bd
 fh:ZX Bd
 RI:Hq Bd
 yK:zA Bd
 q86:Mp Bd
structure E9 (Bd:Za):Prop where
 eq:Bd 229=EZ
 fh:ZX Bd
 uW:Z4 Bd
structure K3 (Bd:Za):Prop where
 eq:Bd 226=Fi
 fh:ZX Bd
 q61:LJ Bd
 uW:Z4 Bd
 q20:E9 Bd
structure KY (Bd:Za):Prop where
 eq:Bd 230=Fa
 fh:ZX Bd
structure ES (Bd:Za):Prop where
 eq:Bd 233=E8
 fh:ZX Bd
 uW:Z4 Bd
 q52:xq Bd
structure Z0 (Bd:Za):Prop where
 eq:Bd 232=Cg
structure K2 (Bd:Za):Prop where
 eq:Bd 231=Ff
 fh:ZX Bd
 uW:Z4 Bd
 q51:Lx Bd
 q23:ES Bd
 q1:Z0 Bd
 q52:xq Bd
structure K0 (Bd:Za):Prop where
 eq:Bd 234=EX
structure zF (Bd:Za):Prop where
 eq:Bd 171=Hc
 Bh:B2 Bd
 q80:LN Bd
 fh:ZX Bd
 q14:K3 Bd
 q19:KY Bd
 q12:K2 Bd
 q21:K0 Bd
structure ZB (Bd:Za):Prop where
 eq:Bd 198=Zu
structure Z9 (Bd:Za):Prop where
 eq:Bd 235=ZQ
structure Hg (Bd:Za):Prop where
 eq:Bd 199=Hr
 q2:Z9 Bd
structure Hp (Bd:Za):Prop where
 eq:Bd 174=Hl
 q0:ZB Bd
 Xr:Hg Bd
 q10:KT Bd
structure KR (Bd:Za):Prop where
 eq:Bd 236=Z6
structure Lj (Bd:Za):Prop where
 eq:Bd 202=FC
 q5:KR Bd
structure Mv (Bd:Za):Prop where
 eq:Bd 204=Hh
 rR:vu Bd
 rQ:vw Bd
structure L5 (Bd:Za):Prop where
 eq:Bd 240=LQ
structure LR (Bd:Za):Prop where
 eq:Bd 307=Gj
structure Mt (Bd:Za):Prop where
 eq:Bd 287=Hm
 q59:LR Bd
structure MM (Bd:Za):Prop where
 eq:Bd 262=G8
 Xp:Mt Bd
structure Mm (Bd:Za):Prop where
 eq:Bd 239=GH
 Xo:MM Bd
structure MO (Bd:Za):Prop where
 eq:Bd 200=G0
 Bh:B2 Bd
 yK:zA Bd
 q56:L5 Bd
 q82:Mm Bd
structure FB (Bd:Za):Prop where
 eq:Bd 172=FG
 q9:KV Bd
structure KS (Bd:Za):Prop where
 eq:Bd 263=Z7
structure K8 (Bd:Za):Prop where
 eq:Bd 241=FK
 q4:KS Bd
structure Lg (Bd:Za):Prop where
 eq:Bd 201=Fy
 D4:FB Bd
 yK:zA Bd
 q29:K8 Bd
structure Gr (Bd:Za):Prop where
 eq:Bd 173=Gm
 D3:zF Bd
 Bh:B2 Bd
 RO:Gl Bd
 q35:Lj Bd
 Xn:Mv Bd
 RI:Hq Bd
 Xm:MO Bd
 q36:Lg Bd
structure K1 (Bd:Za):Prop where
 eq:Bd 210=ER
structure K9 (Bd:Za):Prop where
 eq:Bd 183=FO
 q16:K1 Bd
structure Lz (Bd:Za):Prop where
 eq:Bd 188=Gf
structure LG (Bd:Za):Prop where
 eq:Bd 169=F6
 RU:Ge Bd
 D3:zF Bd
 RH:Hp Bd
 RQ:Gr Bd
 q28:K9 Bd
 q64:Lz Bd
structure Zhh (Bd:Za):Prop where
 eq:Bd 168=EY
 q63:LG Bd
 q62:LW Bd
 RU:Ge Bd
 D3:zF Bd
 Xl:Mf Bd
 RH:Hp Bd
 RQ:Gr Bd
 D4:FB Bd
end Go.Gv
