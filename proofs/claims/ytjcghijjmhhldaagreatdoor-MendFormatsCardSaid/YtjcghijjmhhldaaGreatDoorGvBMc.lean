/- Functions of the program, as the machine runs them: written by gvseat.py. -/
import Derived.Test.YtjcghijjmhhldaaGreatDoorGvBMk
set_option linter.all false
namespace Go.Gv
set_option maxRecDepth 10000
set_option maxHeartbeats 4000000
noncomputable section
def JX:an:=λc n args=>
 bG args λimage jm=>bH [.slice 0 none 0,.slice 0 none 0,.i 0,.bool false,.bool false,.i 0,.i 0] λi=>aJ (decide (0<=aq ((if 4096<(aq ((jm:Int).tdiv 64))then 4096 else(aq ((jm:Int).tdiv 64)))*64))&&decide (aq ((if 4096<(aq ((jm:Int).tdiv 64))then 4096 else(aq ((jm:Int).tdiv 64)))*64)<=(jm:Int)))<|dZ (c 328 (bh image ((aq ((if 4096<(aq ((jm:Int).tdiv 64))then 4096 else(aq ((jm:Int).tdiv 64)))*64)).toNat))) λx xn=>Q_ (au (Lp (some (i,0)))) λav=>bY (λaV x1=>bif decide (x1<(xn:Int))then ZF 1 x x1 xn λx2=>bc i 0 λd1=>bJ 4 d1 λx3 eU=>bH [.w x2,.w x2,.w 0,.bool false] λi2=>bP i2 0 4 λcs=>cB 4 x3 eU cs 1 2199023255552 λp=>bB i 0 [.slice 4 p (eU+1)]<|aV (Li (aq (x1+1)))else av []) n (Li 0)
def J3:an:=λc n args=>
 ck args λd=>HK (λRo Rp Rt RD RE RF RG RH RI RJ br found=>au (Ag Ro Rp Rt RD RE RF RG RH RI RJ br found)) λav=>dL (λaV st=>bW st λbM st=>ZA bM λMu O7 O8 O9 Pa Pb Pc Pd Pe Pf=>Zru st λat2 MN x=>bif decide (x<2)then xN (c 327 (cP d x)) λx1 x2 x3 x4 x5 x6 x7 x8 x9 lh dr=>aB (λb1=>HK (λRq Rs Ru Rv Rw Rx Ry Rz RA RC at3 UM=>aV [.agg [.i Rq,.i Rs,.i Ru,.i Rv,.i Rw,.i Rx,.i Ry,.i Rz,.slice 1 RA RC],.i at3,.bool UM,.i (aq (x+1))]) λbp=>bif b1 then bp (Ag x1 x2 x3 x4 x5 x6 x7 x8 x9 lh x true)else bp (Ag Mu O7 O8 O9 Pa Pb Pc Pd Pe Pf at2 MN)) λaG=>bif dr then aB (λb2=>aG (Lb b2)) λbR=>
 bif !MN then bR (Lb true)else bR (Lb (decide (x1>Mu)))else aG (Lb false)else av (Ag Mu O7 O8 O9 Pa Pb Pc Pd Pe Pf at2 MN)) n [.agg [.i 0,.i 0,.i 0,.i 0,.i 0,.i 0,.i 0,.i 0,.slice 0 none 0],.i 0,.bool false,.i 0]
def JZ:an:=λc n args=>
 gy args λd place=>aB (λb1=>bif b1 then au (xL 0 0 0 0 0 0 0 0 none 0 false)else cK (c 329 (cP d place)) λds=>cj 1 ds λx xn ds=>bQ ds λx1=>bif !(x1==0)then au (xL 0 0 0 0 0 0 0 0 none 0 false)else xN (c 330 (bh x xn)) λx2 x3 x4 x5 x6 x7 x8 x9 dr zU fa=>au [.agg [.i x2,.i x3,.i x4,.i x5,.i x6,.i x7,.i x8,.i x9,.slice 1 dr zU],.bool fa]) λav=>bif decide (place<0)then av (Lb true)else av (Lb (decide (place>=2)))
def IN:an:=λc n args=>
 bG args λb1 bX=>kS λb0=>jx (λout mF=>gk b0 (bh out mF)) λav=>dL (λaV st=>cj 1 st λb2 wh st=>bG st λjo gL=>bif decide ((wh:Int)>=8)then kR (c 285 (bh b2 wh)) λx=>bH (cV x) λi=>bP i 0 1 λcs=>cB 1 jo gL cs 1 8796093022208 λp=>aJ (decide ((8:Int)<=(wh:Int)))<|aV [.slice 1 (cR true b2 8) (wh-8),.slice 1 p (gL+1)]else av (bh jo gL)) n [.slice 1 b1 bX,.slice 0 none 0]
def J8:an:=λc n args=>
 gy args λd br=>aX (c 331 (cP d br)) λx=>bif !(x==0)then au (lT none 0 x)else bH [.w 0,.w 0,.w 0,.w 0,.w 0,.w 0,.w 0,.w 0] λws=>Q_ (bP ws 0 8 λ_=>dZ (c 332 (bh (some (ws,0)) 8)) λx1 fD=>au (gj x1 fD 0)) λav=>bY (λaV x2=>bif decide (x2<8)then cK (c 333 (cP d (aq ((aq (br*8))+x2)))) λds=>uA ds λx3 x4=>bif !(x4==0)then au (lT none 0 x4)else aJ (bL x2 8)<|bB ws (x2.toNat*1+0) (cV x3)<|aV (Li (aq (x2+1)))else av []) n (Li 0)
def J2:an:=λc n args=>
 bG args λb1 bX=>kS λb0=>mX (c 237 (bh b1 bX)) λx x1 x2 cc x3=>aB (λb2=>aB (λb3=>bif b3 then gk b0 (xL 0 0 0 0 0 0 0 0 none 0 false)else bH [.i 0,.i 0,.i 0,.i 0,.i 0,.i 0,.i 0,.i 0,.slice 0 none 0] λs=>bH [.slice 0 none 0] λr1=>bB r1 0 (bh x2 cc)<|aX (c 334 (cP (some (r1,0)) 8)) λx4=>bB s 0 (Li x4)<|Q_ (aX (c 334 (cP (some (r1,0)) 2)) λx5=>aX (c 334 (cP (some (r1,0)) 2)) λx6=>bB s 4 (Li x5)<|bB s 7 (Li x6)<|Q_ (bP s 0 9 λcs=>ZA cs λx7 x8 x9 dr fa gD jt j9 gM G3=>bA (c 197 (ZO x7 x8 x9 dr fa gD jt j9 gM G3)) λjc=>aB (λb4=>bif b4 then gk b0 (xL 0 0 0 0 0 0 0 0 none 0 false)else bP s 0 9 λbM=>ZA bM λlg mL kF pz ow sr su sv sw WI=>gk b0 [.agg [.i lg,.i mL,.i kF,.i pz,.i ow,.i sr,.i su,.i sv,.slice 1 sw WI],.bool true]) λdC=>bif !jc then dC (Lb true)else bc r1 0 λd=>
 bJ 1 d λsy G4=>bc r1 0 λd1=>bJ 1 d1 λub WJ=>bA (c 238 (ZY sy G4 0 (WJ:Int))) λsA=>dC (Lb (!sA))) λbR=>bY (λaV qM=>bif decide (qM<x1)then bc s 8 λd2=>bJ 1 d2 λsB G5=>nR (Bp s (c 334 (cP (some (r1,0)) 2))) λsC=>bH (Li sC) λi=>bP i 0 1 λeb=>cB 1 sB G5 eb 1 8796093022208 λp=>bB s 8 (bh p (G5+1))<|aV (Li (aq (qM+1)))else bR []) n (Li 0)) λbp=>bY (λgv vt=>bif decide (vt<5)then aJ (bL vt 5)<|fe [.ptr (some (s,1)),.ptr (some (s,2)),.ptr (some (s,3)),.ptr (some (s,5)),.ptr (some (s,6))] (vt.toNat*1) λd3=>uI d3 λC9=>aX (c 334 (cP (some (r1,0)) 4)) λOV=>aF C9 λi1 o=>bB i1 o (Li OV)<|gv (Li (aq (vt+1)))else bp []) n (Li 0)) λaG=>bif b2 then aG (Lb true)else aG (Lb (decide (x1>8)))) λav=>bif !x3 then av (Lb true)else av (Lb (!(x==7)))
def JE:an:=λc n args=>
 gy args λd br=>bif d.isNone then au (Li 1)else aB (λb1=>bif b1 then au (Li 2)else au (Li 0)) λav=>bif decide (br<0)then av (Lb true)else aX (c 335 (Lp d)) λx=>av (Lb (decide (br>=x)))
def H9:an:=λc n args=>
 bG args λws qL=>jx (λout mF=>au (bh out mF)) λav=>oG (λaV jo gL x=>bif decide (x<(qL:Int))then ZF 1 ws x qL λx1=>dZ (c 337 (ZD x1 8)) λx2 cc=>gJ x2 (cc*1) λcs=>cB 1 jo gL cs cc 70368744177664 λp=>aV (gj p (gL+cc) (aq (x+1)))else av (bh jo gL)) n (lT none 0 0)
def Hm:an:=λc n args=>
 gy args λd br=>aF d λi o=>bc i o λd1=>bJ 4 d1 λx xn=>aX (c 336 (kf d br (xn:Int))) λx1=>bif !(x1==0)then au (ZD 0 x1)else aF d λi1 o1=>bc i1 o1 λd2=>bJ 4 d2 λx2 cc=>N_ x2 br cc λi2 o2=>ZL i2 (br.toNat*4+o2+1) λx3=>au (ZD x3 0)
def Hl:an:=λc n args=>
 gy args λr1 n1=>aF r1 λi o=>bc i o λd=>bJ 1 d λx xn=>aJ (decide (0<=n1)&&decide (n1<=(xn:Int)))<|kR (c 285 (bh x n1.toNat)) λx1=>aF r1 λi1 o1=>bc i1 o1 λd1=>bJ 1 d1 λx2 cc=>aJ (decide (0<=n1)&&decide (n1<=(cc:Int)))<|aF r1 λi2 o2=>bB i2 o2 (bh (cR true x2 (n1.toNat*1)) (cc-n1.toNat))<|au (Li (aq (x1)))
def HC:an:=λc n args=>
 ck args λd=>aF d λi o=>bc i o λd1=>bJ 4 d1 λx xn=>au (Li (aq ((xn:Int).tdiv 8)))
def HO:an:=λc n args=>
 uD args λd br n1=>aF d λi o=>lW i (o+3) λx=>bif x then au (Li 3)else aB (λb1=>bif b1 then au (Li 2)else au (Li 0)) λav=>bif decide (br<0)then av (Lb true)else av (Lb (decide (br>=n1)))
def JR:an:=λc n args=>
 uA args λv n1=>kS λb0=>aB (λb1=>bif b1 then gk b0 [.slice 0 none 0]else aJ (decide (0<=n1)&&decide (n1<=n1)&&decide (n1<=70368744177664))<|bH (fp n1.toNat (iP 0)) λi=>Q_ (gk b0 (bh (some (i,0)) n1.toNat)) λaG=>sQ (λaV v1 x=>bif decide (x<(n1.toNat:Int))then aJ (bL x n1.toNat)<|bB i (x.toNat*1) (iP (IntKind.wrap .u8 (v1)))<|aV (ZD (v1.fdiv (2^8)) (aq (x+1)))else aG []) n (ZD v 0)) λav=>bif decide (n1<0)then av (Lb true)else av (Lb (decide (n1>8)))
end
end Go.Gv
