/- Functions of the program, as the machine runs them: written by gvseat.py. -/
import Derived.Test.YtegglibipjjblaaGreatDoorGvBMk
set_option linter.all false
namespace Go.Gv
set_option maxRecDepth 10000
set_option maxHeartbeats 4000000
noncomputable section
def RJ:ao:=λc n args=>
 aL args<|cQ (c 170 [.a [.i 16,.i 2,.i 1,.s 0 none 0,.s 0 none 0,.s 0 none 0],.i 1,.i 0]) λds=>bW 1 ds λx xn ds=>Ziw ds λx1 x2 x3 x4 x5 x6 x7 x8 x9 vP cV=>Iq (c 323 (aZ x xn)) λeB fj fH gG fS fN=>Iq (c 323 [.s 0 none 0]) λgH iG iH jG nP rN=>aA (λb1=>aA (λb2=>aA (λb3=>ay (Lb b3)) λaW=>bif b2 then aW (Lb (rN==30))else aW (Lb false)) λaI=>bif b1 then aI (Lb ((eB==0)&&((fj==0)&&((fH==0)&&((gG==0)&&((fS==3)&&true))))))else aI (Lb false)) λaz=>bif cV then az (Lb (fN==0))else az (Lb false)
def R8:ao:=λc n args=>
 bV args λimage kl=>xC (c 324 (aZ image kl)) λx x1 x2 x3 ee x4 dC x5 gO x6 x7=>bif !(x7==0)then ay (BA 0 0 0 0 0 x7)else tp (c 183 (Lp x6)) λx8=>DB (λf f1 f2 f3 f4=>ay (BA f f1 f2 (ar ((ar ((dC:Int)-f))-f2)) f4 0)) λaz=>cS (λaV st=>Mb st λf5 f6 f7 f8 f9 x9=>bif decide (x9<(ee:Int))then N_ x3 x9 ee λi o=>bS i (x9.toNat*2+o) 2 λfC=>eR fC λcV r=>bW 4 r λeB aaq r=>aL r<|aV (BA (ar (f5+(aaq:Int))) f6 f7 f8 f9 (ar (x9+1)))else az (xM f5 f6 f7 f8 f9)) n (BA 0 (ee:Int) (gO:Int) 0 x8 0)
def Sg:ao:=λc n args=>
 bV args λimage kl=>zD (c 325 (aZ image kl)) λx=>LQ (c 326 (Lp x)) λx1 x2 x3 x4 x5 x6 x7 x8 x9 vP cV eB=>bif !eB then ay [.a [.i 0,.i 0,.i 0,.s 0 none 0,.s 0 none 0,.s 0 none 0],.p none,.i 30]else xC (c 171 [.s 1 image kl,.a [.i x1,.i x2,.i x3,.i x4,.i x5,.i x6,.i x7,.i x8,.s 1 x9 vP]]) λfj fH gG fS zg fN aas gH zi iG iH=>bif !(iH==0)then ay [.a [.i 0,.i 0,.i 0,.s 0 none 0,.s 0 none 0,.s 0 none 0],.p none,.i 31]else bq (c 173 [.s 1 image kl,.a [.i x1,.i x2,.i x3,.i x4,.i x5,.i x6,.i x7,.i x8,.s 1 x9 vP],.p iG]) λjG=>
 bif !jG then ay [.a [.i 0,.i 0,.i 0,.s 0 none 0,.s 0 none 0,.s 0 none 0],.p none,.i 32]else C_ (c 206 [.p iG,.s 1 x9 vP])<|ay [.a [.i fj,.i fH,.i gG,.s 2 fS zg,.s 1 fN aas,.s 1 gH zi],.p iG,.i 0]
def TX:ao:=λc n args=>
 bV args λimage kl=>cd [.s 0 none 0,.s 0 none 0,.i 0,.b false,.b false,.i 0,.i 0] λi=>aC (decide (0<=ar ((if 4096<(ar ((kl:Int).tdiv 64))then 4096 else(ar ((kl:Int).tdiv 64)))*64))&&decide (ar ((if 4096<(ar ((kl:Int).tdiv 64))then 4096 else(ar ((kl:Int).tdiv 64)))*64)<=(kl:Int)))<|iL (c 328 (aZ image ((ar ((if 4096<(ar ((kl:Int).tdiv 64))then 4096 else(ar ((kl:Int).tdiv 64)))*64)).toNat))) λx xn=>Q_ (ay (Lp (some (i,0)))) λaz=>cN (λaV x1=>bif decide (x1<(xn:Int))then wb 1 x x1 xn λx2=>bD i 0 λd1=>dr 4 d1 λx3 ee=>cd [.w x2,.w x2,.w 0,.b false] λi2=>bS i2 0 4 λcs=>cm 4 x3 ee cs 1 2199023255552 λp=>dI i 0 (rY p (ee+1))<|aV (Li (ar (x1+1)))else az []) n (Li 0)
def S9:ao:=λc n args=>
 jh args λd=>QV (λadF adG adJ adS adT adU adV adW adX adY bP found=>ay (Bq adF adG adJ adS adT adU adV adW adX adY bP found)) λaz=>cS (λaV st=>ba st λbM st=>Z6 bM λWs aaQ aaR aaS aaT aaU aaV aaW aaX aaY=>Zwx st λat2 WI x=>bif decide (x<2)then zL (c 327 (ix d x)) λx1 x2 x3 x4 x5 x6 x7 x8 x9 vP cV=>aA (λb1=>QV (λadH adI adK adL adM adN adO adP adQ adR at3 agO=>aV [.a [.i adH,.i adI,.i adK,.i adL,.i adM,.i adN,.i adO,.i adP,.s 1 adQ adR],.i at3,.b agO,.i (ar (x+1))]) λaW=>bif b1 then aW (Bq x1 x2 x3 x4 x5 x6 x7 x8 x9 vP x true)else aW (Bq Ws aaQ aaR aaS aaT aaU aaV aaW aaX aaY at2 WI)) λaI=>bif cV then aA (λb2=>aI (Lb b2)) λbz=>
 bif !WI then bz (Lb true)else bz (Lb (decide (x1>Ws)))else aI (Lb false)else az (Bq Ws aaQ aaR aaS aaT aaU aaV aaW aaX aaY at2 WI)) n [.a [.i 0,.i 0,.i 0,.i 0,.i 0,.i 0,.i 0,.i 0,.s 0 none 0],.i 0,.b false,.i 0]
def TH:ao:=λc n args=>
 pP args λd place=>aA (λb1=>bif b1 then ay (vZ 0 0 0 0 0 0 0 0 none 0 false)else cQ (c 329 (ix d place)) λds=>oe ds λx xn x1=>bif !(x1==0)then ay (vZ 0 0 0 0 0 0 0 0 none 0 false)else zL (c 330 (aZ x xn)) λx2 x3 x4 x5 x6 x7 x8 x9 cV aap eB=>ay (Br x2 x3 x4 x5 x6 x7 x8 x9 cV aap eB)) λaz=>bif decide (place<0)then az (Lb true)else az (Lb (decide (place>=2)))
def RG:ao:=λc n args=>
 bV args λb1 bX=>gD λb0=>fB (λout kS=>bZ b0 (aZ out kS)) λaz=>cS (λaV st=>bW 1 st λb2 NI st=>bV st λgu eK=>bif decide ((NI:Int)>=8)then uT (c 285 (aZ b2 NI)) λx=>cd (lg x) λi=>bS i 0 1 λcs=>cm 1 gu eK cs 1 8796093022208 λp=>aC (decide ((8:Int)<=(NI:Int)))<|aV (wh (cU true b2 8) (NI-8) p (eK+1))else az (aZ gu eK)) n [.s 1 b1 bX,.s 0 none 0]
def SI:ao:=λc n args=>
 pP args λd bP=>cw (c 331 (ix d bP)) λx=>bif !(x==0)then ay (iw none 0 x)else cd [.w 0,.w 0,.w 0,.w 0,.w 0,.w 0,.w 0,.w 0] λws=>Q_ (bS ws 0 8 λ_=>iL (c 332 (aZ (some (ws,0)) 8)) λx1 jE=>ay (dY x1 jE 0)) λaz=>cN (λaV x2=>bif decide (x2<8)then cQ (c 333 (ix d (ar ((ar (bP*8))+x2)))) λds=>BH ds λx3 x4=>bif !(x4==0)then ay (iw none 0 x4)else aC (aR x2 8)<|dI ws (x2.toNat*1+0) (lg x3)<|aV (Li (ar (x2+1)))else az []) n (Li 0)
def Tj:ao:=λc n args=>
 bV args λb1 bX=>gD λb0=>sm (c 237 (aZ b1 bX)) λx x1 x2 cW x3=>aA (λb2=>aA (λb3=>bif b3 then bZ b0 (vZ 0 0 0 0 0 0 0 0 none 0 false)else cd [.i 0,.i 0,.i 0,.i 0,.i 0,.i 0,.i 0,.i 0,.s 0 none 0] λs=>cd [.s 0 none 0] λr1=>dI r1 0 (aZ x2 cW)<|cw (c 334 (ix (some (r1,0)) 8)) λx4=>dI s 0 (Li x4)<|Q_ (cw (c 334 (ix (some (r1,0)) 2)) λx5=>cw (c 334 (ix (some (r1,0)) 2)) λx6=>dI s 4 (Li x5)<|dI s 7 (Li x6)<|Q_ (bS s 0 9 λcs=>Z6 cs λx7 x8 x9 cV eB fj fH gG fS zg=>bq (c 197 (ZX x7 x8 x9 cV eB fj fH gG fS zg)) λfN=>aA (λb4=>bif b4 then bZ b0 (vZ 0 0 0 0 0 0 0 0 none 0 false)else bS s 0 9 λbM=>Z6 bM λgH iG iH jG nP rN zj zl zm aax=>bZ b0 (Br gH iG iH jG nP rN zj zl zm aax true)) λck=>bif !fN then ck (Lb true)else bD r1 0 λd=>dr 1 d λzn Hv=>bD r1 0 λd1=>dr 1 d1 λC1 PO=>
 bq (c 238 (Z7 zn Hv 0 (PO:Int))) λBa=>ck (Lb (!Ba))) λbz=>cN (λaV Bb=>bif decide (Bb<x1)then bD s 8 λd2=>dr 1 d2 λC2 C3=>lY (Ja s (c 334 (ix (some (r1,0)) 2))) λHw=>cd (Li Hw) λi=>bS i 0 1 λcC=>cm 1 C2 C3 cC 1 8796093022208 λp=>dI s 8 (aZ p (C3+1))<|aV (Li (ar (Bb+1)))else bz []) n (Li 0)) λaW=>cN (λdw Bc=>bif decide (Bc<5)then aC (aR Bc 5)<|eJ [.p (some (s,1)),.p (some (s,2)),.p (some (s,3)),.p (some (s,5)),.p (some (s,6))] (Bc.toNat*1) λd3=>BV d3 λC4=>cw (c 334 (ix (some (r1,0)) 4)) λHx=>bH C4 λi1 o=>dI i1 o (Li Hx)<|dw (Li (ar (Bc+1)))else aW []) n (Li 0)) λaI=>bif b2 then aI (Lb true)else aI (Lb (decide (x1>8)))) λaz=>bif !x3 then az (Lb true)else az (Lb (!(x==7)))
def S8:ao:=λc n args=>
 pP args λd bP=>bif d.isNone then ay (Li 1)else aA (λb1=>bif b1 then ay (Li 2)else ay (Li 0)) λaz=>bif decide (bP<0)then az (Lb true)else cw (c 335 (Lp d)) λx=>az (Lb (decide (bP>=x)))
def Rc:ao:=λc n args=>
 bV args λws wsn=>gD λb0=>fB (λout kS=>bZ b0 (aZ out kS)) λaz=>kd (λaV gu eK x=>bif decide (x<(wsn:Int))then wb 1 ws x wsn λx1=>iL (c 337 (ZC x1 8)) λx2 cW=>dy x2 (cW*1) λcs=>cm 1 gu eK cs cW 70368744177664 λp=>aV (dY p (eK+cW) (ar (x+1)))else az (aZ gu eK)) n (iw none 0 0)
def QE:ao:=λc n args=>
 pP args λd bP=>bH d λi o=>bD i o λd1=>dr 4 d1 λx xn=>cw (c 336 [.p d,.i bP,.i (xn:Int)]) λx1=>bif !(x1==0)then ay (ZC 0 x1)else bH d λi1 o1=>bD i1 o1 λd2=>dr 4 d2 λx2 cW=>N_ x2 bP cW λi2 o2=>bD i2 (bP.toNat*4+o2+1) λd3=>cY .u64 d3 λx3=>ay (ZC x3 0)
def QA:ao:=λc n args=>
 pP args λr1 n1=>bH r1 λi o=>bD i o λd=>dr 1 d λx xn=>aC (decide (0<=n1)&&decide (n1<=(xn:Int)))<|uT (c 285 (aZ x n1.toNat)) λx1=>bH r1 λi1 o1=>bD i1 o1 λd1=>dr 1 d1 λx2 cW=>aC (decide (0<=n1)&&decide (n1<=(cW:Int)))<|bH r1 λi2 o2=>dI i2 o2 (aZ (cU true x2 (n1.toNat*1)) (cW-n1.toNat))<|ay (Li (ar (x1)))
def QC:ao:=λc n args=>
 jh args λd=>bH d λi o=>bD i o λd1=>dr 4 d1 λx xn=>ay (Li (ar ((xn:Int).tdiv 8)))
def Qr:ao:=λc n args=>
 F5 args λd bP n1=>bH d λi o=>qK i (o+3) λx=>bif x then ay (Li 3)else aA (λb1=>bif b1 then ay (Li 2)else ay (Li 0)) λaz=>bif decide (bP<0)then az (Lb true)else az (Lb (decide (bP>=n1)))
def Ti:ao:=λc n args=>
 BH args λv n1=>gD λb0=>aA (λb1=>bif b1 then bZ b0 [.s 0 none 0]else aC (decide (0<=n1)&&decide (n1<=n1)&&decide (n1<=70368744177664))<|cd (il n1.toNat (lH 0)) λi=>Q_ (bZ b0 (aZ (some (i,0)) n1.toNat)) λaI=>zS (λaV v1 x=>bif decide (x<(n1.toNat:Int))then aC (aR x n1.toNat)<|dI i (x.toNat*1) (lH (IntKind.wrap .u8 (v1)))<|aV (ZC (v1.fdiv (2^8)) (ar (x+1)))else aI []) n (ZC v 0)) λaz=>bif decide (n1<0)then az (Lb true)else az (Lb (decide (n1>8)))
end
end Go.Gv
