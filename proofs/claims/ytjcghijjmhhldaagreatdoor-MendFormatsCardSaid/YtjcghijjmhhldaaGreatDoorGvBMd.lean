/- Functions of the program, as the machine runs them: written by gvseat.py. -/
import Derived.Test.YtjcghijjmhhldaaGreatDoorGvBMn
set_option linter.all false
namespace Go.Gv
set_option maxRecDepth 10000
set_option maxHeartbeats 4000000
noncomputable section
def Hw:an:=λc n args=>
 cj 1 args λimage jm args=>bW args λcs args=>oH cs λg g1 g2=>bW args λbM args=>az .u8 bM λc1 r=>cj 1 r λc2 Bu r=>bG r λc3 MC=>aL args<|bA (c 352 []) λx=>aB (λb1=>aB (λb2=>bif b2 then bA (c 352 []) λx1=>au (Lb x1)else iH (c 325 (bh image jm)) λx2=>iH (c 353 (bh image jm)) λx3=>bif x2.isNone then au (Lb false)else Q_ (C_ (c 354 (jM x2 c2 Bu))<|C_ (c 355 (jM x3 c2 Bu))<|nR (c 356 (A7 x2 g g1 g2)) λx4=>aX (c 357 (A7 x3 g g1 g2)) λx5=>aB (λb3=>au (Lb b3)) λbR=>bif x4==x5 then bA (c 358 (pH x2 x3)) λx6=>bR (Lb x6)else bR (Lb false)) λbp=>bif decide (c1>0)then C_ (c 359 (cP x2 (aq ((aq (c1))-1))))<|C_ (c 360 (cP x3 (aq ((aq (c1))-1))))<|bp []else bp []) λaG=>bif b1 then aG (Lb true)else bA (c 361 [.agg [.u c1,.slice 1 c2 Bu,.slice 1 c3 MC]]) λx7=>aG (Lb (!x7))) λav=>bif !x then av (Lb true)else av (Lb (decide ((jm:Int)>6000)))
def IV:an:=λc n args=>
 aL args<|cK (c 377 (Li 16)) λds=>gy ds λx x1=>aB (λb1=>bif b1 then au (Lb false)else DB (c 367 (Lp x)) λx2 x3 x4 x5 x6 x7 x8 x9 dr zU fa gD jt j9=>aB (λb2=>aB (λb3=>aB (λb4=>aB (λb5=>aB (λb6=>aB (λb7=>au (Lb b7)) λpe=>bif b6 then pe (Lb (fa==0))else pe (Lb false)) λic=>bif b5 then ic (Lb (x2==1))else ic (Lb false)) λdC=>bif b4 then aX (c 183 (Lp jt)) λgM=>dC (Lb (gM==0))else dC (Lb false)) λbR=>bif b3 then aX (c 183 (Lp gD)) λjc=>bR (Lb (jc==3))else bR (Lb false)) λbp=>bif b2 then bp (Lb (!jt.isNone))else bp (Lb false)) λaG=>bif j9==0 then aG (Lb (!gD.isNone))else aG (Lb false)) λav=>bif x.isNone then av (Lb true)else aX (c 356 (A7 x 16 4 2)) λlg=>av (Lb (!(lg==0)))
def Je:an:=λc n args=>
 bG args λb1 bX=>jg (λn1=>iH (c 378 (Li n1)) λx=>Q_ (au (Lp x)) λaG=>bY (λaV i=>bif decide (i<aq (8*n1))then aF x λi1 o=>bc i1 o λd=>bJ 1 d λx1 fD=>aJ (decide (0<=aq ((aq (8*i))+8))&&decide (aq ((aq (8*i))+8)<=(bX:Int)))<|aJ (decide (0<=aq (8*i))&&decide (aq (8*i)<=(((aq ((aq (8*i))+8)).toNat:Nat):Int)))<|gJ (cR true b1 (((aq (8*i)).toNat)*1)) (((aq ((aq (8*i))+8)).toNat)-((aq (8*i)).toNat)) λcs=>gI cs λl=>sT (c 310 (Ls l)) λx2=>N_ x1 i fD λi2 o1=>bB i2 (i.toNat*1+o1) (cV x2)<|aF x λi3 o2=>bc i3 (o2+1) λd1=>bJ 1 d1 λx3 eU=>aF x λi4 o3=>bc i4 o3 λd2=>bJ 1 d2 λx4 lM=>ZF 1 x4 i lM λx5=>N_ x3 i eU λi6 o5=>bB i6 (i.toNat*1+o5) (cV x5)<|aV (Li (aq (i+1)))else aG []) n (Li 0)) λav=>bif decide (aq ((bX:Int).tdiv 64)>4096)then av (Li 4096)else av (Li (aq ((bX:Int).tdiv 64)))
def H0:an:=λc n args=>
 eW args λd args=>bG args λl ln=>dZ (c 379 (bh l ln)) λx xn=>aF d λi o=>bB i (o+1) (gj x xn 0)<|au []
def HR:an:=λc n args=>
 eW args λd args=>bG args λl ln=>bH [] λi=>gJ l (ln*1) λcs=>cB 1 (some (i,0)) 0 cs ln 8796093022208 λp=>aF d λi1 o=>bB i1 (o+4) (bh p (0+ln))<|aF d λi2 o1=>bB i2 (o1+5) (Li 0)<|au []
def IA:an:=λc n args=>
 eW args λd args=>pK args λg g1 g2=>bif d.isNone then au (Li 1)else bA (c 145 (p6 g g1 g2)) λx=>bif !x then au (Li 22)else nR (c 335 (Lp d)) λx1=>bif decide (x1<g)then au (Li 2)else aX (c 380 (Lp d)) λx2=>bif !(x2==0)then au (Li x2)else bH (gH 0 1) λi=>iH (c 177 (lu g (some (i,0)) 2)) λx3=>aX (c 223 (p6 g g1 g2)) λx4=>dU (λst=>ZQ st λs s1 s2 s3 s4 s5 s6 s7 s8 fC=>aX (c 381 [.ptr d,.ptr x3,.slice 1 s8 fC]) λx5=>bif !(x5==0)then au (Li x5)else aX (c 382 (Ah d 0 s s1 s2 s3 s4 s5 s6 s7 s8 fC)) λx6=>au (Li x6)) λav=>dL (λaV st=>bW st λeb st=>ZA eb λs9 sc vl vm vn vo vp qF vq qG=>bQ st λx7=>bif decide (x7<x4)then aX (c 383 (cP x3 0)) λx8=>bH (Li x8) λi1=>C_ (c 206 (jM x3 (some (i1,0)) 1))<|bH (Li x8) λi2=>bP i2 0 1 λiu=>cB 1 vq qG iu 1 8796093022208 λp=>
 aV [.agg [.i s9,.i sc,.i vl,.i vm,.i vn,.i vo,.i vp,.i qF,.slice 1 p (qG+1)],.i (aq (x7+1))]else av (ZO s9 sc vl vm vn vo vp qF vq qG)) n [.agg [.i 1,.i g,.i g1,.i g2,.i 0,.i 0,.i 0,.i 0,.slice 0 none 0],.i 0]
def Ic:an:=λc n args=>
 eW args λd args=>pK args λg g1 g2=>bA (c 141 (p6 g g1 g2)) λx=>bif !x then au (Li 22)else nR (c 384 (Lp d)) λx1=>bif decide (x1<g)then au (Li 2)else aX (c 385 (Lp d)) λx2=>bif !(x2==0)then au (Li x2)else bH (gH 0 1) λi=>dU (λst=>bW st λbM st=>ZA bM λs s1 s2 s3 s4 s5 s6 s7 s8 fC=>bG st λl ln=>aX (c 386 [.ptr d,.slice 1 l ln,.slice 1 s8 fC]) λx3=>bif !(x3==0)then au (Li x3)else aX (c 387 (Ah d 0 s s1 s2 s3 s4 s5 s6 s7 s8 fC)) λx4=>au (Li x4)) λav=>dL (λaV st=>bW st λeb st=>ZA eb λs9 sc vl vm vn vo vp qF vq qG=>cj 1 st λl1 Og st=>bQ st λi1=>aX (c 196 (p6 g g1 g2)) λx5=>bif decide (i1<x5)then bH (Li (aq (2+i1))) λi2=>bP i2 0 1 λiu=>cB 1 vq qG iu 1 8796093022208 λp=>bH (Li (aq (2+i1))) λi3=>bP i3 0 1 λmc=>cB 1 l1 Og mc 1 8796093022208 λp1=>
 aV [.agg [.i s9,.i sc,.i vl,.i vm,.i vn,.i vo,.i vp,.i qF,.slice 1 p (qG+1)],.slice 1 p1 (Og+1),.i (aq (i1+1))]else av [.agg [.i s9,.i sc,.i vl,.i vm,.i vn,.i vo,.i vp,.i qF,.slice 1 vq qG],.slice 1 l1 Og]) n [.agg [.i 1,.i g,.i g1,.i g2,.i 0,.i 0,.i 0,.i 0,.slice 0 none 0],.slice 1 (some (i,0)) 2,.i 0]
def Iz:an:=λc n args=>
 eW args λd args=>ck args λm=>nf (c 374 (Lp d)) λds=>bQ ds λx=>aF m λi o=>Zl i (o+7) λx1=>aB (λb1=>aB (λb2=>au (Lb b2)) λaG=>bif b1 then vD (c 364 (Lp d)) λx2 cc=>gJ x2 cc λcs=>gI cs λl=>aF m λi1 o1=>bc i1 o1 λd2=>bJ 1 d2 λx3 eU=>mR (c 388 (bh x3 eU)) λx4=>aG (Lb (l==x4))else aG (Lb false)) λav=>bif x==x1 then vD (c 372 (Lp d)) λx5 pA=>gJ x5 pA λbM=>gI bM λl1=>aF m λi2 o2=>bc i2 (o2+1) λd3=>bJ 1 d3 λx6 nM=>mR (c 388 (bh x6 nM)) λx7=>av (Lb (l1==x7))else av (Lb false)
def HP:an:=λc n args=>
 gy args λd n1=>aF d λi o=>lW i (o+3) λx=>bif x then au []else aF d λi1 o1=>bB i1 (o1+4) (Lb (decide (n1>=0)))<|aF d λi2 o2=>bB i2 (o2+5) (Li n1)<|aF d λi3 o3=>bB i3 (o3+3) (Lb (n1==0))<|au []
def HZ:an:=λc n args=>
 gy args λd n1=>aF d λi o=>Zl i (o+6) λx=>Q_ (au []) λav=>bif !(x==0)then aF d λi1 o1=>bB i1 (o1+6) (Li (if n1<(-1)then(-1)else n1))<|av []else av []
def IK:an:=λc n args=>
 bW args λcs args=>az .u8 cs λc1 r=>cj 1 r λc2 Bu r=>bG r λc3 MC=>aL args<|aB (λb1=>au (Lb b1)) λav=>bif decide ((Bu:Int)<=40)then av (Lb (decide ((MC:Int)<=40)))else av (Lb false)
def Hs:an:=λc n args=>
 ck args λd=>dZ (c 392 [.ptr d,.func 393 [] []]) λx xn=>au (bh x xn)
def I8:an:=λc n args=>
 ck args λd=>bif d.isNone then au (ZP 0 0 0 0 0 0 0 0 none 0 0 none none 1)else bA (c 394 (Lp d)) λx=>bif !x then au (ZP 0 0 0 0 0 0 0 0 none 0 0 none none 3)else cK (c 326 (Lp d)) λds=>bW ds λcs ds=>ZA cs λx1 x2 x3 x4 x5 x6 x7 x8 x9 lh=>az .i64 ds λdr ds=>jK ds λfa=>bif !fa then au (ZP 0 0 0 0 0 0 0 0 none 0 0 none none 30)else dZ (c 372 (Lp d)) λgD kE=>xM (c 171 (xO gD kE x1 x2 x3 x4 x5 x6 x7 x8 x9 lh)) λjt j9 gM jc WH lg Rb mL Xt kF pz=>bif !(pz==0)then au (ZP 0 0 0 0 0 0 0 0 none 0 0 none none 31)else nf (c 395 [.ptr d,.slice 1 gD kE,.i dr,.i x2]) λds=>ck ds λow=>bA (c 173 [.slice 1 gD kE,.agg [.i x1,.i x2,.i x3,.i x4,.i x5,.i x6,.i x7,.i x8,.slice 1 x9 lh],.ptr kF]) λsr=>bif !sr then DB (c 396 [.ptr d,.agg (Dw x1 x2 x3 x4 x5 x6 x7 x8 x9 lh dr none ow),.ptr kF]) λsu sv sw sy ub sA qM sB sC OU vt C9 OV x35=>
 au (DC su sv sw sy ub sA qM sB sC OU vt C9 OV x35)else iH (c 177 (lu x2 x9 lh)) λx36=>iH (c 201 (pH kF x36)) λx37=>au (DC x1 x2 x3 x4 x5 x6 x7 x8 x9 lh dr x37 ow 0)
def HT:an:=λc n args=>
 ck args λd=>dZ (c 392 [.ptr d,.func 397 [] []]) λx xn=>au (bh x xn)
def Hy:an:=λc n args=>
 ck args λd=>aF d λi o=>Zl i (o+6) λx=>au (Li x)
def K0:an:=λc n args=>
 bQ args λlines=>aB (λb1=>bif b1 then au (cP none 2)else aJ (decide (0<=aq (lines*8))&&decide (aq (lines*8)<=aq (lines*8))&&decide (aq (lines*8)<=2199023255552))<|bH (fp ((aq (lines*8)).toNat) [.w 0,.w 0,.w 0,.bool false]) λi=>bH [.slice 4 (some (i,0)) ((aq (lines*8)).toNat),.slice 0 none 0,.i 0,.bool false,.bool false,.i 0,.i 0] λi1=>au (cP (some (i1,0)) 0)) λav=>bif decide (lines<0)then av (Lb true)else av (Lb (decide (lines>4096)))
def JO:an:=λc n args=>
 bQ args λlines=>aJ (decide (0<=aq (8*lines))&&decide (aq (8*lines)<=aq (8*lines))&&decide (aq (8*lines)<=8796093022208))<|bH (fp ((aq (8*lines)).toNat) (cV 0)) λi=>aJ (decide (0<=aq (8*lines))&&decide (aq (8*lines)<=aq (8*lines))&&decide (aq (8*lines)<=8796093022208))<|bH (fp ((aq (8*lines)).toNat) (cV 0)) λi1=>aJ (decide (0<=aq (8*lines))&&decide (aq (8*lines)<=aq (8*lines))&&decide (aq (8*lines)<=8796093022208))<|bH (fp ((aq (8*lines)).toNat) (cV 0)) λi2=>aJ (decide (0<=aq (8*lines))&&decide (aq (8*lines)<=aq (8*lines))&&decide (aq (8*lines)<=70368744177664))<|bH (fp ((aq (8*lines)).toNat) (Lb false)) λi3=>bH [.slice 1 (some (i,0)) ((aq (8*lines)).toNat),.slice 1 (some (i1,0)) ((aq (8*lines)).toNat),.slice 1 (some (i2,0)) ((aq (8*lines)).toNat),.slice 1 (some (i3,0)) ((aq (8*lines)).toNat),.slice 0 none 0,.i 0,.i (-1),.i 0] λi4=>au (Lp (some (i4,0)))
def HE:an:=λc n args=>
 bG args λs sn=>kS λb0=>bif s.isNone then gk b0 [.slice 0 none 0]else bH [] λi=>gJ s (sn*1) λcs=>cB 1 (some (i,0)) 0 cs sn 8796093022208 λp=>gk b0 (bh p (0+sn))
def Jo:an:=λc n args=>
 ck args λd=>aX (c 398 (Lp d)) λx=>bif !(x==0)then au (Li x)else Q_ (aX (c 399 (Lp d)) λx1=>au (Li x1)) λav=>bY (λaV x2=>bif decide (x2<2)then aX (c 400 (rh d x2 0 0)) λx3=>bif !(x3==0)then au (Li x3)else aV (Li (aq (x2+1)))else av []) n (Li 0)
def H8:an:=λc n args=>
 eW args λd args=>eW args λs args=>bG args λats Fg=>cK (c 401 (Lp s)) λds=>cj 49 ds λx xn ds=>aL ds<|Q_ (aX (c 399 (Lp d)) λx1=>au (Li x1)) λav=>bY (λaV x2=>bif decide (x2<(xn:Int))then N_ x x2 xn λi o=>bP i (x2.toNat*49+o) 49 λcs=>az .i64 cs λx3 r1=>bK r1 48<|bK ((.i x3)::r1) 49<|uj (c 402 [.agg ((.i x3)::r1)]) λx4 lM x5=>bif !x5 then au (Li 31)else Zw 1 ats x2 Fg λx6=>aX (c 403 [.ptr d,.i x6,.slice 1 x4 lM]) λx7=>bif !(x7==0)then au (Li x7)else aV (Li (aq (x2+1)))else av []) n (Li 0)
def Kg:an:=λc n args=>
 DD args λd place s s1 s2 s3 s4 s5 s6 s7 s8 fC=>aX (c 398 (Lp d)) λx=>bif !(x==0)then au (Li x)else uj (c 404 (ZO s s1 s2 s3 s4 s5 s6 s7 s8 fC)) λx1 fD x2=>aB (λb1=>aB (λb2=>bif b2 then au (Li 2)else dZ (c 328 (bh x1 fD)) λx3 eU=>aX (c 405 (kQ d place 0)) λx4=>bif !(x4==0)then au (Li x4)else aX (c 406 [.ptr d,.i place,.slice 1 x3 eU]) λx5=>bif !(x5==0)then au (Li x5)else aF x3 λi o=>aJ (bL 0 eU)<|ZL i (0+o) λx6=>aX (c 405 (kQ d place x6)) λx7=>au (Li x7)) λaG=>bif b1 then aG (Lb true)else aG (Lb (decide (place>=2)))) λav=>bif !x2 then av (Lb true)else av (Lb (decide (place<0)))
def H3:an:=λc n args=>
 gy args λs Fy=>Q_ (au (Li (-1))) λav=>bY (λaV br=>aF s λi o=>Zl i o λx=>bif decide (br<x)then bA (c 184 (cP s br)) λx1=>bif !x1 then au (Li br)else aV (Li (aq (br+1)))else av []) n (Li (if Fy<0 then 0 else Fy))
def IB:an:=λc n args=>
 ck args λd=>aF d λi o=>bc i o λd1=>bJ 1 d1 λx xn=>au (Li (aq ((xn:Int).tdiv 8)))
def IQ:an:=λc n args=>
 ck args λd=>aX (c 407 (rh d 0 0 0)) λx=>jg (λe=>jg (λe1=>au (Li e1)) λaG=>bif e==0 then aX (c 408 (Lp d)) λx1=>aG (Li x1)else aG (Li e)) λav=>bif x==0 then aX (c 407 (rh d 1 0 0)) λx2=>av (Li x2)else av (Li x)
def Jz:an:=λc n args=>
 eW args λd args=>cj 1 args λl ln args=>bG args λats Fg=>Q_ (aX (c 408 (Lp d)) λx=>au (Li x)) λav=>bY (λaV i=>bif decide (i<(Fg:Int))then Zw 1 ats i Fg λx1=>nf (c 192 (lu i l ln)) λds=>bW ds λcs ds=>az .i64 cs λx2 r1=>bK r1 48<|aL ds<|mR (c 193 [.agg ((.i x2)::r1)]) λx3=>bH (ZR x3) λi2=>aX (c 409 [.ptr d,.i x1,.slice 1 (some (i2,0)) x3.length]) λx4=>bif !(x4==0)then au (Li x4)else aV (Li (aq (i+1)))else av []) n (Li 0)
def JY:an:=λc n args=>
 DD args λd place s s1 s2 s3 s4 s5 s6 s7 s8 fC=>sH (c 191 (ZO s s1 s2 s3 s4 s5 s6 s7 s8 fC)) λx=>aX (c 407 (rh d place 0 0)) λx1=>jg (λe=>jg (λe1=>jg (λe2=>jg (λe3=>jg (λe4=>jg (λe5=>au (Li e5)) λic=>bif e4==0 then aX (c 408 (Lp d)) λx2=>ic (Li x2)else ic (Li e4)) λdC=>bif e3==0 then aJ (decide ((8:Int)<=(x.length:Int)))<|kR (c 310 (Ls (x.take 8))) λx3=>aX (c 407 (rh d place 0 x3)) λx4=>dC (Li x4)else dC (Li e3)) λbR=>bif e2==0 then aX (c 408 (Lp d)) λx5=>bR (Li x5)else bR (Li e2)) λbp=>bif e1==0 then aX (c 410 (cP d place)) λx6=>bp (Li x6)else bp (Li e1)) λaG=>dL (λaV st=>az .i64 st λe6 st=>bQ st λi=>aB (λb1=>bif b1 then aJ (decide (0<=aq ((aq (8*i))+8))&&decide (aq ((aq (8*i))+8)<=(x.length:Int)))<|aJ (decide (0<=aq (8*i))&&decide (aq (8*i)<=(((aq ((aq (8*i))+8)).toNat:Nat):Int)))<|kR (c 310 (Ls ((x.take ((aq ((aq (8*i))+8)).toNat)).drop ((aq (8*i)).toNat)))) λx7=>
 aX (c 411 (kQ d (aq ((aq (8*place))+i)) x7)) λx8=>aV (gH x8 (aq (i+1)))else aG (Li e6)) λpe=>bif decide (i<8)then pe (Lb (e6==0))else pe (Lb false)) n (gH e 1)) λav=>bif x1==0 then aX (c 408 (Lp d)) λx9=>av (Li x9)else av (Li x1)
def Jq:an:=λc n args=>
 bG args λws qL=>jx (λb1 bX=>gJ b1 bX λcs=>gI cs λl=>au (Ls l)) λav=>oG (λaV b2 wh i=>bif decide (i<(qL:Int))then jx (λb3 b3n=>aV (gj b3 b3n (aq (i+1)))) λaG=>jx (λb4 b4n=>aG (bh b4 b4n)) λbp=>oG (λgv b5 Mr k=>bif decide (k<8)then ZF 1 ws i qL λx=>aJ (decide (0<=aq (8*k)))<|bH (iP (IntKind.wrap .u8 (x.fdiv (2^(min (aq (8*k)).toNat 64))))) λi2=>bP i2 0 1 λbM=>cB 1 b5 Mr bM 1 70368744177664 λp=>gv (gj p (Mr+1) (aq (k+1)))else bp (bh b5 Mr)) n (gj b2 wh 0)else av (bh b2 wh)) n (lT none 0 0)
def Ir:an:=λc n args=>
 eW args λc1 args=>az .u64 args λw args=>aL args<|aF c1 λi o=>bB i o (cV w)<|aF c1 λi1 o1=>bB i1 (o1+2) (cV 0)<|aF c1 λi2 o2=>bB i2 (o2+3) (Lb false)<|au []
def Hp:an:=λc n args=>
 eW args λd args=>Bo args λvalue WD WC args=>aL args<|aF d λi o=>bc i o λd1=>bJ 4 d1 λx xn=>aJ (decide (0<=(xn:Int))&&decide ((xn:Int)<=(xn:Int))&&decide ((xn:Int)<=8796093022208))<|bH (fp ((xn:Int).toNat) (cV 0)) λi1=>aF d λi2 o1=>bc i2 o1 λd2=>bJ 4 d2 λx1 fD=>Q_ (dZ (c 332 (bh (some (i1,0)) ((xn:Int).toNat))) λx2 cc=>au (bh x2 cc)) λav=>bY (λaV x3=>bif decide (x3<(fD:Int))then aF d λi3 o2=>bc i3 o2 λd3=>bJ 4 d3 λx4 lM=>N_ x4 x3 lM λi4 o3=>kR (c value (WD++(Lp (some (i4,x3.toNat*4+o3)))++WC)) λx5=>aJ (bL x3 ((xn:Int).toNat))<|bB i1 (x3.toNat*1) (cV x5)<|aV (Li (aq (x3+1)))else av []) n (Li 0)
def HF:an:=λc n args=>
 ck args λc1=>aF c1 λi o=>ZL i o λx=>au (cV x)
def Iu:an:=λc n args=>
 ck args λd=>aF d λi o=>lW i (o+3) λx=>au (Lb (!x))
def J7:an:=λc n args=>
 eW args λd args=>qY args λimage jm place size=>iH (c 177 [.i size,.slice 0 none 0]) λx=>xN (c 327 (cP d (aq (1-place)))) λx1 x2 x3 x4 x5 x6 x7 x8 x9 lh dr=>bif !dr then au (Lp x)else xM (c 171 (xO image jm x1 x2 x3 x4 x5 x6 x7 x8 x9 lh)) λfa gD jt j9 OS gM G3 jc WH lg mL=>bif !(mL==0)then au (Lp x)else dZ (c 172 (Lp lg)) λkF OT=>C_ (c 206 (jM x kF OT))<|C_ (c 206 (jM x x9 lh))<|au (Lp x)
def Zin:an:=λc n args=>
 eW args λd args=>bW args λcs args=>HJ cs λf f1 f2 f3 f4 f5 f6 f7 f8 f8n f9 f10 f11=>ck args λoq=>bif f==4611686018427387904 then au (ZP 0 0 0 0 0 0 0 0 none 0 0 none none 21)else iH (c 177 (lu f1 f8 f8n)) λx=>iH (c 201 (pH oq x)) λx1=>iH (c 201 (pH x1 f11)) λx2=>iH (c 201 (pH oq oq)) λx3=>dU (λst=>bW st λbM st=>HJ bM λx4 x5 x6 x7 x8 x9 dr fa gD kE jt j9 gM=>ZQ st λs s1 s2 s3 s4 s5 s6 s7 s8 fC=>aX (c 381 [.ptr d,.ptr x3,.slice 1 s8 fC]) λjc=>bif !(jc==0)then au (ZP 0 0 0 0 0 0 0 0 none 0 0 none none jc)else aX (c 382 (Ah d (aq (1-f9)) s s1 s2 s3 s4 s5 s6 s7 s8 fC)) λlg=>bif !(lg==0)then au (ZP 0 0 0 0 0 0 0 0 none 0 0 none none lg)else au (DC s s1 s2 s3 s4 s5 s6 s7 s8 fC (aq (1-f9)) x3 x1 0)) λav=>dL (λaV st=>bW st λiu st=>HJ iu λmL kF pz ow sr su sv sw sy G4 ub sA qM=>bW st λmc st=>
 ZA mc λs9 sc vl vm vn vo vp qF vq qG=>bQ st λsB=>bif decide (sB<(f8n:Int))then aX (c 383 (cP x2 0)) λsC=>bif decide (sC<0)then au (ZP 0 0 0 0 0 0 0 0 none 0 0 none none 10)else bH (Li sC) λi=>C_ (c 206 (jM x2 (some (i,0)) 1))<|bH (Li sC) λi1=>C_ (c 206 (jM x3 (some (i1,0)) 1))<|bH (Li sC) λi2=>bP i2 0 1 λwo=>cB 1 vq qG wo 1 8796093022208 λp=>
 aV [.agg (Dw mL kF pz ow sr su sv sw sy G4 ub sA qM),.agg [.i s9,.i sc,.i vl,.i vm,.i vn,.i vo,.i vp,.i qF,.slice 1 p (qG+1)],.i (aq (sB+1))]else av [.agg (Dw mL kF pz ow sr su sv sw sy G4 ub sA qM),.agg [.i s9,.i sc,.i vl,.i vm,.i vn,.i vo,.i vp,.i qF,.slice 1 vq qG]]) n [.agg [.i 0,.i 0,.i 0,.i 0,.i 0,.i 0,.i 0,.i 0,.slice 0 none 0,.i 0,.ptr none,.ptr none],.agg [.i (aq (f+1)),.i f1,.i f2,.i f3,.i f4,.i f5,.i f6,.i f7,.slice 0 none 0],.i 0]
def HH:an:=λc n args=>
 ck args λc1=>aF c1 λi o=>ZL i (o+1) λx=>au (cV x)
def Kw:an:=λc n args=>
 ck args λd=>bif d.isNone then au (Li 1)else aX (c 335 (Lp d)) λx=>bif decide (x<2)then au (Li 2)else au (Li 0)
def Jg:an:=λc n args=>
 ck args λd=>bif d.isNone then au (Li 1)else aX (c 413 (Lp d)) λx=>au (Li x)
def Jd:an:=λc n args=>
 eW args λd args=>az .i64 args λbr args=>Es args λi w=>aX (c 331 (cP d br)) λx=>bif !(x==0)then au (Li x)else aB (λb1=>bif b1 then au (Li 2)else bH (cV w) λi1=>aX (c 412 [.ptr d,.i br,.i i,.slice 1 (some (i1,0)) 1]) λx1=>au (Li x1)) λav=>bif decide (i<0)then av (Lb true)else av (Lb (decide (i>=8)))
def HN:an:=λc n args=>
 ck args λs=>aF s λi o=>Zl i o λx=>aX (c 240 (Li x)) λx1=>dU (λst=>cj 49 st λout mF st=>aL st<|dZ (c 172 (Lp s)) λx2 cc=>Q_ (au [.slice 49 out mF]) λaG=>bY (λaV x3=>bif decide (x3<(cc:Int))then Zw 1 x2 x3 cc λx4=>aF out λi2 o2=>aJ (bL (aq (x4.tdiv 384)) mF)<|bP i2 (((aq (x4.tdiv 384)).toNat)*49+o2) 49 λcs=>az .i64 cs λx5 r1=>bK r1 48<|cK (c 414 [.agg ((.i x5)::r1),.i x4,.bool true]) λds=>bW ds λbM ds=>az .i64 bM λx6 r2=>bK r2 48<|jK ds λx7=>aF out λi3 o3=>aJ (bL (aq (x4.tdiv 384)) mF)<|bK ((.i x6)::r2) 49<|bB i3 (((aq (x4.tdiv 384)).toNat)*49+o3) ((.i x6)::r2)<|aV (Li (aq (x3+1)))else aG []) n (Li 0)) λav=>dL (λgv st=>cj 49 st λjo gL st=>bQ st λx8=>
 bif decide (x8<x1)then bH (Za x8 0 0 0 0 0 0 0 0 0 0 0 0 0 0 0 0 0 0 0 0 0 0 0 0 0 0 0 0 0 0 0 0 0 0 0 0 0 0 0 0 0 0 0 0 0 0 0 0) λi4=>bP i4 0 49 λeb=>cB 49 jo gL eb 1 1256584717458 λp=>gv [.slice 49 p (gL+1),.i (aq (x8+1))]else av [.slice 49 jo gL]) n (lT none 0 0)
def JI:an:=λc n args=>
 bW args λcs args=>az .i64 cs λc1 r1=>bK r1 48<|aL args<|kS λb0=>bK ((.i c1)::r1) 49<|bH ((.i c1)::r1) λc2=>bP c2 0 49 λbM=>az .i64 bM λx r2=>bK r2 48<|bA (c 307 [.agg ((.i x)::r2)]) λx1=>bif !x1 then gk b0 [.slice 0 none 0,.bool false]else Zl c2 0 λx2=>bP c2 1 48 λ_=>uj (c 415 [.i 4,.i x2,.slice 1 (some (c2,1)) 48]) λx3 eU x4=>gk b0 [.slice 1 x3 eU,.bool x4]
def IX:an:=λc n args=>
 eW args λd args=>az .i64 args λbr args=>bG args λb1 bX=>aX (c 331 (cP d br)) λx=>bif !(x==0)then au (Li x)else bif !((bX:Int)==64)then au (Li 2)else dZ (c 328 (bh b1 bX)) λx1 fD=>aX (c 412 [.ptr d,.i br,.i 0,.slice 1 x1 fD]) λx2=>au (Li x2)
def J5:an:=λc n args=>
 ZQ args λs s1 s2 s3 s4 s5 s6 s7 s8 fC=>kS λb0=>bA (c 197 (ZO s s1 s2 s3 s4 s5 s6 s7 s8 fC)) λx=>bif !x then gk b0 [.slice 0 none 0,.bool false]else bH (cV (IntKind.wrap .u64 (s))) λi=>dZ (c 332 (bh (some (i,0)) 1)) λx1 fD=>jx (λbody yE=>bH (gH s4 s7) λi1=>gJ s8 (fC*1) λbM=>cB 1 (some (i1,0)) 2 bM fC 8796093022208 λp=>jx (λRK RL=>uj (c 415 [.i 7,.i (fC:Int),.slice 1 RK RL]) λx2 cc x3=>gk b0 [.slice 1 x2 cc,.bool x3]) λaG=>oG (λaV Pj Mw x4=>bif decide (x4<((2+fC:Nat):Int))then aF p λi2 o=>aJ (bL x4 (2+fC))<|Zl i2 (x4.toNat*1+o) λx5=>dZ (c 337 (ZD (IntKind.wrap .u64 (x5)) 2)) λx6 nM=>gJ x6 (nM*1) λeb=>cB 1 Pj Mw eb nM 70368744177664 λp1=>aV (gj p1 (Mw+nM) (aq (x4+1)))else aG (bh Pj Mw)) n (gj body yE 0)) λav=>oG (λgv Pk Mx x7=>
 bif decide (x7<5)then aJ (bL x7 5)<|fe [.i s1,.i s2,.i s3,.i s5,.i s6] (x7.toNat*1) λd1=>dj .i64 d1 λx8=>dZ (c 337 (ZD (IntKind.wrap .u64 (x8)) 4)) λx9 lh=>gJ x9 (lh*1) λiu=>cB 1 Pk Mx iu lh 70368744177664 λp2=>gv (gj p2 (Mx+lh) (aq (x7+1)))else av (bh Pk Mx)) n (gj x1 fD 0)
def JG:an:=λc n args=>
 uy args λd place w=>aX (c 400 (rh d place 0 w)) λx=>bif !(x==0)then au (Li x)else aX (c 399 (Lp d)) λx1=>au (Li x1)
def J1:an:=λc n args=>
 eW args λd args=>az .i64 args λplace args=>bG args λws qL=>Q_ (aX (c 416 (cP d place)) λx=>bif !(x==0)then au (Li x)else aX (c 399 (Lp d)) λx1=>au (Li x1)) λav=>bY (λaV i=>bif decide (i<(qL:Int))then ZF 1 ws i qL λx2=>aX (c 417 (kQ d (aq ((aq (place*8))+i)) x2)) λx3=>bif !(x3==0)then au (Li x3)else aV (Li (aq (i+1)))else av []) n (Li 1)
def Jj:an:=λc n args=>
 eW args λd args=>az .i64 args λbr args=>Es args λi w=>aB (λb1=>aB (λb2=>aB (λb3=>bif b3 then au (Li 2)else aX (c 411 (kQ d (aq ((aq (8*br))+i)) w)) λx=>bif !(x==0)then au (Li x)else aX (c 410 (cP d br)) λx1=>au (Li x1)) λbp=>bif b2 then bp (Lb true)else bp (Lb (decide (i>7)))) λaG=>bif b1 then aG (Lb true)else aG (Lb (decide (i<0)))) λav=>bif decide (br<0)then av (Lb true)else aX (c 384 (Lp d)) λx2=>av (Lb (decide (br>=x2)))
def HG:an:=λc n args=>
 ck args λd=>aX (c 418 (kf d 0 1)) λx=>Q_ (au (Li x)) λav=>bif x==0 then Q_ (C_ (c 419 (Lp d))<|av []) λaG=>bY (λaV i=>aF d λi1 o=>bc i1 o λd1=>bJ 1 d1 λx1 fD=>bif decide (i<(fD:Int))then aF d λi2 o1=>bc i2 (o1+3) λd2=>bJ 1 d2 λx2 cc=>N_ x2 i cc λi3 o2=>lW i3 (i.toNat*1+o2) λx3=>Q_ (aV (Li (aq (i+1)))) λbp=>bif x3 then aF d λi4 o3=>bc i4 (o3+2) λd4=>bJ 1 d4 λx4 lM=>ZF 1 x4 i lM λx5=>C_ (c 420 (kQ d i x5))<|bp []else bp []else aG []) n (Li 0)else av []
def IU:an:=λc n args=>
 eW args λd args=>az .i64 args λbr args=>bG args λb1 bX=>aB (λb2=>aB (λb3=>bif b3 then au (Li 2)else Q_ (aX (c 410 (cP d br)) λx=>au (Li x)) λbp=>bY (λaV i=>bif decide (i<8)then aJ (decide (0<=aq ((aq (8*i))+8))&&decide (aq ((aq (8*i))+8)<=(bX:Int)))<|aJ (decide (0<=aq (8*i))&&decide (aq (8*i)<=(((aq ((aq (8*i))+8)).toNat:Nat):Int)))<|gJ (cR true b1 (((aq (8*i)).toNat)*1)) (((aq ((aq (8*i))+8)).toNat)-((aq (8*i)).toNat)) λcs=>gI cs λl=>kR (c 310 (Ls l)) λx1=>aX (c 411 (kQ d (aq ((aq (8*br))+i)) x1)) λx2=>bif !(x2==0)then au (Li x2)else aV (Li (aq (i+1)))else bp []) n (Li 0)) λaG=>bif b2 then aG (Lb true)else aG (Lb (!((bX:Int)==64)))) λav=>bif decide (br<0)then av (Lb true)else aX (c 384 (Lp d)) λx3=>av (Lb (decide (br>=x3)))
def Hq:an:=λc n args=>
 gy args λd line=>aF d λi o=>bc i o λd1=>bJ 1 d1 λx xn=>aX (c 418 (kf d line (aq ((xn:Int).tdiv 8)))) λx1=>Q_ (au (Li x1)) λav=>bif x1==0 then Q_ (C_ (c 419 (Lp d))<|av []) λaG=>bY (λaV i1=>bif decide (i1<aq ((aq (8*line))+8))then aF d λi2 o1=>bc i2 (o1+2) λd2=>bJ 1 d2 λx2 cc=>aF d λi3 o2=>bc i3 (o2+1) λd3=>bJ 1 d3 λx3 eU=>ZF 1 x3 i1 eU λx4=>N_ x2 i1 cc λi5 o4=>bB i5 (i1.toNat*1+o4) (cV x4)<|aF d λi6 o5=>bc i6 (o5+3) λd5=>bJ 1 d5 λx5 pA=>N_ x5 i1 pA λi7 o6=>bB i7 (i1.toNat*1+o6) (Lb true)<|aV (Li (aq (i1+1)))else aG []) n (Li (aq (8*line)))else av []
def Hr:an:=λc n args=>
 uy args λd br w=>aF d λi o=>bc i o λd1=>bJ 1 d1 λx xn=>aX (c 418 (kf d br (xn:Int))) λx1=>Q_ (au (Li x1)) λav=>bif x1==0 then aF d λi1 o1=>bc i1 (o1+1) λd2=>bJ 1 d2 λx2 cc=>N_ x2 br cc λi2 o2=>bB i2 (br.toNat*1+o2) (cV w)<|C_ (c 419 (Lp d))<|av []else av []
def II:an:=λc n args=>
 eW args λd args=>az .i64 args λline args=>az .i64 args λfirst args=>bG args λws qL=>Q_ (aX (c 416 (cP d line)) λx=>au (Li x)) λav=>bY (λaV x1=>bif decide (x1<(qL:Int))then ZF 1 ws x1 qL λx2=>aX (c 417 (kQ d (aq ((aq ((aq (line*8))+first))+x1)) x2)) λx3=>bif !(x3==0)then au (Li x3)else aV (Li (aq (x1+1)))else av []) n (Li 0)
def Hz:an:=λc n args=>
 ck args λd=>aX (c 336 (kf d 0 1)) λx=>bif !(x==0)then au (Li x)else aF d λi o=>bc i o λd1=>bJ 4 d1 λx1 fD=>Q_ (C_ (c 421 (Lp d))<|au (Li 0)) λav=>bY (λaV x2=>bif decide (x2<(fD:Int))then aF d λi1 o1=>bc i1 o1 λd2=>bJ 4 d2 λx3 eU=>N_ x3 x2 eU λi2 o2=>lW i2 (x2.toNat*4+o2+3) λx4=>Q_ (aV (Li (aq (x2+1)))) λaG=>bif x4 then ZL i2 (x2.toNat*4+o2+2) λx5=>C_ (c 391 [.ptr (some (i2,x2.toNat*4+o2)),.w x5])<|aG []else aG []else av []) n (Li 0)
def Jm:an:=λc n args=>
 bW args λcs args=>az .i64 cs λc1 r1=>bK r1 48<|az .i64 args λbr args=>jK args λon=>bK ((.i c1)::r1) 49<|EP (c 287 [.agg ((.i c1)::r1),.i br]) λx x1 x2=>bif !x2 then au [.agg (Za 0 0 0 0 0 0 0 0 0 0 0 0 0 0 0 0 0 0 0 0 0 0 0 0 0 0 0 0 0 0 0 0 0 0 0 0 0 0 0 0 0 0 0 0 0 0 0 0 0),.bool false]else aJ (bL x 48)<|fe r1 (x.toNat*1) λd=>dj .u8 d λx3=>aJ (bL x 48)<|aJ (Nat.ble (x.toNat*1+1+1) 49)<|dU (λst=>bW st λbM st=>az .i64 bM λc2 r2=>bK r2 48<|aL st<|bK ((.i c2)::r2) 49<|au [.agg ((.i c2)::r2),.bool true]) λav=>bif on then aJ (bL x 48)<|fe (cT r1 (x.toNat*1) (iP (bits .andNot .u8 x3 x1))) (x.toNat*1) λd1=>dj .u8 d1 λx4=>
 aJ (bL x 48)<|aJ (Nat.ble (x.toNat*1+1+1) 49)<|av [.agg ((.i c1)::(cT (cT r1 (x.toNat*1) (iP (bits .andNot .u8 x3 x1))) (x.toNat*1) (iP (bits .or .u8 x4 x1))))]else av [.agg ((.i c1)::(cT r1 (x.toNat*1) (iP (bits .andNot .u8 x3 x1))))]
def Jh:an:=λc n args=>
 az .i64 args λkind args=>az .i64 args λtag args=>bG args λbody yE=>kS λb0=>aB (λb1=>aB (λb2=>aB (λb3=>aB (λb4=>bif b4 then gk b0 [.slice 0 none 0,.bool false]else bH (fp 64 (iP 0)) λi=>bB i 4 (iP (IntKind.wrap .u8 (kind)))<|bB i 5 (iP (IntKind.wrap .u8 (tag)))<|gJ body ((min yE 56)*1) λcs=>bB i 8 cs<|bH (bh (some (i,4)) 60) λi1=>nc (c 306 (bh (some (i1,0)) 1)) λx=>dZ (c 337 (ZD (IntKind.wrap .u64 (x)) 4)) λx1 fD=>gJ x1 ((min fD 64)*1) λbM=>bB i 0 bM<|gk b0 [.slice 1 (some (i,0)) 64,.bool true]) λbR=>bif b3 then bR (Lb true)else bR (Lb (decide ((yE:Int)>56)))) λbp=>bif b2 then bp (Lb true)else bp (Lb (decide (tag>=256)))) λaG=>bif b1 then aG (Lb true)else aG (Lb (decide (tag<0)))) λav=>bif decide (kind<1)then av (Lb true)else av (Lb (decide (kind>=256)))
def HB:an:=λc n args=>
 gy args λd line=>aX (c 335 (Lp d)) λx=>aX (c 336 (kf d line x)) λx1=>bif !(x1==0)then au (Li x1)else Q_ (C_ (c 421 (Lp d))<|au (Li 0)) λav=>bY (λaV x2=>bif decide (x2<8)then aF d λi o=>bc i o λd1=>bJ 4 d1 λx3 eU=>aF x3 λi1 o1=>aJ (bL (aq ((aq (line*8))+x2)) eU)<|ZL i1 (((aq ((aq (line*8))+x2)).toNat)*4+o1+1) λx4=>bB i1 (((aq ((aq (line*8))+x2)).toNat)*4+o1+2) (cV x4)<|bB i1 (((aq ((aq (line*8))+x2)).toNat)*4+o1+3) (Lb true)<|aV (Li (aq (x2+1)))else av []) n (Li 0)
def Hk:an:=λc n args=>
 uy args λd br w=>aF d λi o=>bc i o λd1=>bJ 4 d1 λx xn=>aX (c 336 (kf d br (xn:Int))) λx1=>bif !(x1==0)then au (Li x1)else aF d λi1 o1=>bc i1 o1 λd2=>bJ 4 d2 λx2 cc=>N_ x2 br cc λi2 o2=>bB i2 (br.toNat*4+o2+1) (cV w)<|C_ (c 421 (Lp d))<|au (Li 0)
def HI:an:=λc n args=>
 uD args λd br n1=>aF d λi o=>Zl i (o+6) λx=>bif x==0 then au (Li 3)else aB (λb1=>bif b1 then au (Li 2)else au (Li 0)) λav=>bif decide (br<0)then av (Lb true)else av (Lb (decide (br>=n1)))
def Hu:an:=λc n args=>
 ck args λd=>aF d λi o=>bc i o λd1=>bJ 1 d1 λx xn=>aF d λi1 o1=>bc i1 (o1+4) λd2=>bJ 1 d2 λx1 fD=>aB (λb1=>Q_ (aF d λi2 o2=>Zl i2 (o2+5) λx2=>aF d λi3 o3=>bB i3 (o3+5) (Li (aq (x2+1)))<|aF d λi4 o4=>Zl i4 (o4+7) λx3=>aF d λi5 o5=>bB i5 (o5+7) (Li (aq (x3+1)))<|aF d λi6 o6=>Zl i6 (o6+6) λx4=>Q_ (au []) λbp=>bif decide (x4>0)then aF d λi7 o7=>Zl i7 (o7+6) λx5=>aF d λi8 o8=>bB i8 (o8+6) (Li (aq (x5-1)))<|bp []else bp []) λaG=>bif b1 then aF d λi9 o9=>bc i9 (o9+4) λd7=>bJ 1 d7 λx6 nM=>aF d λi10 zL=>Zl i10 (zL+5) λx7=>aF d λi11 Oo=>bc i11 (Oo+4) λd9=>bJ 1 d9 λx8 uc=>aJ (!((uc:Int)==0))<|aF x6 λi12 o12=>aJ (bL (x7.tmod (uc:Int)) nM)<|Zl i12 (((x7.tmod (uc:Int)).toNat)*1+o12) λx9=>Q_ (aG []) λbR=>bif decide (x9>=0)then aJ (!((xn:Int)==0))<|aF d λi13 o13=>bc i13 (o13+1) λd11=>
 bJ 1 d11 λdr zU=>aJ (!((xn:Int)==0))<|aF dr λi14 o14=>aJ (bL (x9.tmod (xn:Int)) zU)<|ZL i14 (((x9.tmod (xn:Int)).toNat)*1+o14) λfa=>C_ (c 420 (kQ d (x9.tmod (xn:Int)) fa))<|bR []else bR []else aG []) λav=>bif decide ((fD:Int)>0)then av (Lb (decide ((xn:Int)>0)))else av (Lb false)
def Hv:an:=λc n args=>
 uy args λd i w=>aF d λi1 o=>bc i1 o λd1=>bJ 1 d1 λx xn=>N_ x i xn λi2 o1=>bB i2 (i.toNat*1+o1) (cV w)<|aF d λi3 o2=>bc i3 (o2+2) λd2=>bJ 1 d2 λx1 fD=>N_ x1 i fD λi4 o3=>bB i4 (i.toNat*1+o3) (cV 0)<|aF d λi5 o4=>bc i5 (o4+3) λd3=>bJ 1 d3 λx2 cc=>N_ x2 i cc λi6 o5=>bB i6 (i.toNat*1+o5) (Lb false)<|au []
def HY:an:=λc n args=>
 ck args λd=>aF d λi o=>Zl i (o+6) λx=>aF d λi1 o1=>bB i1 (o1+6) (Li (aq (x+1)))<|aF d λi2 o2=>aX (c 422 (Lp (some (i2,o2+1)))) λx1=>aB (λb1=>Q_ (aF d λi3 o3=>lW i3 (o3+4) λx2=>Q_ (au []) λbp=>bif x2 then aF d λi4 o4=>Zl i4 (o4+5) λx3=>aF d λi5 o5=>bB i5 (o5+5) (Li (aq (x3-1)))<|aF d λi6 o6=>Zl i6 (o6+5) λx4=>aF d λi7 o7=>bB i7 (o7+3) (Lb (x4==0))<|bp []else bp []) λaG=>bif b1 then aF d λi8 o8=>bc i8 o8 λd5=>bJ 4 d5 λx5 pA=>aF d λi9 o9=>bc i9 o9 λd6=>bJ 4 d6 λx6 nM=>aJ (!((nM:Int)==0))<|aF x5 λi10 zL=>aJ (bL (x1.tmod (nM:Int)) pA)<|ZL i10 (((x1.tmod (nM:Int)).toNat)*4+zL+1) λx7=>C_ (c 391 [.ptr (some (i10,((x1.tmod (nM:Int)).toNat)*4+zL)),.w x7])<|aG []else aG []) λav=>bif decide (x1>=0)then aF d λi11 Oo=>bc i11 Oo λd8=>bJ 4 d8 λx8 uc=>av (Lb (decide ((uc:Int)>0)))else av (Lb false)
def HL:an:=λc n args=>
 ck args λp=>aF p λi o=>bc i o λd=>bJ 1 d λx xn=>bif (xn:Int)==0 then au (Li (-1))else aF p λi1 o1=>bc i1 o1 λd1=>bJ 1 d1 λx1 fD=>aF p λi2 o2=>Zl i2 (o2+1) λx2=>Zw 1 x1 x2 fD λx3=>aF p λi4 o4=>Zl i4 (o4+1) λx4=>aF p λi5 o5=>bc i5 o5 λd5=>bJ 1 d5 λx5 pA=>aJ (!((pA:Int)==0))<|aF p λi6 o6=>bB i6 (o6+1) (Li ((aq (x4+1)).tmod (pA:Int)))<|au (Li x3)
end
class HA (Bd:outParam Ze):Prop where
 e26:Bd 26=Jn
 e28:Bd 28=KO
 e34:Bd 34=Jt
 e39:Bd 39=I3
 e54:Bd 54=ZjQ
 e57:Bd 57=He
 e64:Bd 64=H2
 e72:Bd 72=Io
 e86:Bd 86=Z7
 RU:Bd 141=IP
 RV:Bd 145=Aw
 RW:Bd 147=Hh
 RX:Bd 156=Hf
 RY:Bd 171=DR
 RZ:Bd 172=Ix
 R8:Bd 173=IY
 ML:Bd 177=Ej
 R9:Bd 183=Iq
 Sa:Bd 184=H7
 Sb:Bd 191=JW
 Sc:Bd 192=Kd
 Sd:Bd 193=JQ
 Se:Bd 196=I7
 Sf:Bd 197=Jw
 Sg:Bd 200=JU
 Si:Bd 201=If
 Sj:Bd 202=Ii
 Sk:Bd 203=JB
 Sm:Bd 204=J0
 Sn:Bd 206=IZ
 Sp:Bd 209=Ij
 Sq:Bd 210=HW
 Sr:Bd 213=JF
 Ss:Bd 214=Jk
 Sv:Bd 220=Jf
 Sw:Bd 221=Ih
 Sx:Bd 222=Hg
 Sy:Bd 223=IJ
 Sz:Bd 225=JH
 SA:Bd 226=Hx
 SB:Bd 227=IG
 SC:Bd 228=HV
 SD:Bd 229=Hn
 SE:Bd 230=HU
 SF:Bd 231=Ho
 SG:Bd 232=AT
 SH:Bd 233=HQ
 SI:Bd 234=HX
 SJ:Bd 236=Hi
 SK:Bd 237=Jl
 SL:Bd 238=Iv
 SM:Bd 239=Ji
 SN:Bd 240=Zjt
 SO:Bd 241=Ip
 SP:Bd 242=JV
 SQ:Bd 248=IC
 SR:Bd 249=Ka
 SS:Bd 253=KN
 SU:Bd 254=HD
 SX:Bd 255=Jr
 SY:Bd 256=Jc
 SZ:Bd 259=IL
 S0:Bd 260=IS
 S6:Bd 261=IT
 S7:Bd 262=KC
 S8:Bd 263=Hj
 S9:Bd 264=IW
 Ta:Bd 272=Kt
 Tb:Bd 273=H4
 Tc:Bd 274=IH
 Td:Bd 275=Is
 Te:Bd 276=I4
 Pu:Bd 285=DI
 Tf:Bd 286=Ke
 Tg:Bd 287=JD
 Th:Bd 288=Jp
 Ti:Bd 295=Jv
 Tj:Bd 296=Js
 Tk:Bd 297=HM
 Tl:Bd 298=Ig
 Tm:Bd 299=HS
 Tn:Bd 300=It
 To:Bd 306=K9
 Tp:Bd 307=ID
 Tq:Bd 310=I9
 Ts:Bd 312=JC
 Tt:Bd 313=Il
 Tu:Bd 314=IM
 Tv:Bd 315=Ht
 Tw:Bd 317=JK
 Tx:Bd 318=Ik
 Tz:Bd 320=Ko
 TA:Bd 325=JX
 TB:Bd 326=J3
 TC:Bd 327=JZ
 TD:Bd 328=IN
 TE:Bd 329=J8
 TF:Bd 330=J2
 TG:Bd 331=JE
 TH:Bd 332=H9
 TI:Bd 333=Hm
 TJ:Bd 334=Hl
 TK:Bd 335=HC
 TL:Bd 336=HO
 TM:Bd 337=JR
 TN:Bd 351=Hw
 TO:Bd 352=IV
 TP:Bd 353=Je
 TQ:Bd 354=H0
 TR:Bd 355=HR
 TS:Bd 356=IA
 TT:Bd 357=Ic
 TU:Bd 358=Iz
 TV:Bd 359=HP
 TW:Bd 360=HZ
 TX:Bd 361=IK
 TY:Bd 364=Hs
 TZ:Bd 367=I8
 T0:Bd 372=HT
 T1:Bd 374=Hy
 T2:Bd 377=K0
 T3:Bd 378=JO
 T4:Bd 379=HE
 T5:Bd 380=Jo
 T6:Bd 381=H8
 T7:Bd 382=Kg
 T8:Bd 383=H3
 T9:Bd 384=IB
 Ua:Bd 385=IQ
 Ub:Bd 386=Jz
 Uc:Bd 387=JY
 Ud:Bd 388=Jq
 Ue:Bd 391=Ir
 Uf:Bd 392=Hp
 Ug:Bd 393=HF
 Uh:Bd 394=Iu
 Ui:Bd 395=J7
 WY:Bd 396=Zin
 Uj:Bd 397=HH
 Uk:Bd 398=Kw
 Ul:Bd 399=Jg
 Um:Bd 400=Jd
 Uo:Bd 401=HN
 Up:Bd 402=JI
 Uq:Bd 403=IX
 Ur:Bd 404=J5
 Us:Bd 405=JG
 Ut:Bd 406=J1
 Uu:Bd 407=Jj
 Uv:Bd 408=HG
 Uw:Bd 409=IU
 Ux:Bd 410=Hq
 Uy:Bd 411=Hr
 Uz:Bd 412=II
 UA:Bd 413=Hz
 UB:Bd 414=Jm
 UC:Bd 415=Jh
 UD:Bd 416=HB
 UE:Bd 417=Hk
 UF:Bd 418=HI
 UG:Bd 419=Hu
 UH:Bd 420=Hv
 UI:Bd 421=HY
 UJ:Bd 422=HL
 V8:xK Bd
 Xn:Ai Bd
 Xo:DJ Bd
 Xp:Dv Bd
end Go.Gv
