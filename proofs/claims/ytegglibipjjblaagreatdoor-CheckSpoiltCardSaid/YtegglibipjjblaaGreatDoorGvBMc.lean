/- Functions of the program, as the machine runs them: written by gvseat.py. -/
import Derived.Test.YtegglibipjjblaaGreatDoorGvBMk
set_option linter.all false
namespace Go.Gv
set_option maxRecDepth 10000
set_option maxHeartbeats 4000000
noncomputable section
def Ss:ao:=λc n args=>
 aI args<|Mx (c 170 [.agg [.i 16,.i 2,.i 1,.slice 0 none 0,.slice 0 none 0,.slice 0 none 0],.i 1,.i 0]) λx xn x1 x2 x3 x4 x5 x6 x7 x8 x9 wB cX=>IY (c 323 (ba x xn)) λee fj fA gG fQ fI=>IY (c 323 [.slice 0 none 0]) λgH ij ik jn mT qg=>az (λb1=>az (λb2=>az (λb3=>ax (Lb b3)) λaW=>bif b2 then aW (Lb (qg==30))else aW (Lb false)) λaH=>bif b1 then aH (Lb ((ee==0)&&((fj==0)&&((fA==0)&&((gG==0)&&((fQ==3)&&true))))))else aH (Lb false)) λay=>bif cX then ay (Lb (fI==0))else ay (Lb false)
def SG:ao:=λc n args=>
 bZ args λimage kF=>yf (c 324 (ba image kF)) λx x1 x2 x3 dK x4 dy x5 gr x6 x7=>bif !(x7==0)then ax (B3 0 0 0 0 0 x7)else tY (c 183 (Lp x6)) λx8=>D0 (λf f1 f2 f3 f4=>ax (B3 f f1 f2 (ar ((ar ((dy:Int)-f))-f2)) f4 0)) λay=>cY (λaQ st=>MI st λf5 f6 f7 f8 f9 x9=>bif decide (x9<(dK:Int))then N_ x3 x9 dK λi o=>bX i (x9.toNat*2+o) 2 λfK=>fa fK λcX r=>bU 4 r λee aa7 r=>aI r<|aQ (B3 (ar (f5+(aa7:Int))) f6 f7 f8 f9 (ar (x9+1)))else ay (yq f5 f6 f7 f8 f9)) n (B3 0 (dK:Int) (gr:Int) 0 x8 0)
def S6:ao:=λc n args=>
 bZ args λimage kF=>Ab (c 325 (ba image kF)) λx=>My (c 326 (Lp x)) λx1 x2 x3 x4 x5 x6 x7 x8 x9 wB cX ee=>bif !ee then ax [.agg [.i 0,.i 0,.i 0,.slice 0 none 0,.slice 0 none 0,.slice 0 none 0],.ptr none,.i 30]else yf (c 171 [.slice 1 image kF,.agg [.i x1,.i x2,.i x3,.i x4,.i x5,.i x6,.i x7,.i x8,.slice 1 x9 wB]]) λfj fA gG fQ zQ fI aa9 gH wz ij ik=>bif !(ik==0)then ax [.agg [.i 0,.i 0,.i 0,.slice 0 none 0,.slice 0 none 0,.slice 0 none 0],.ptr none,.i 31]else bu (c 173 [.slice 1 image kF,.agg [.i x1,.i x2,.i x3,.i x4,.i x5,.i x6,.i x7,.i x8,.slice 1 x9 wB],.ptr ij]) λjn=>
 bif !jn then ax [.agg [.i 0,.i 0,.i 0,.slice 0 none 0,.slice 0 none 0,.slice 0 none 0],.ptr none,.i 32]else C_ (c 206 [.ptr ij,.slice 1 x9 wB])<|ax [.agg [.i fj,.i fA,.i gG,.slice 2 fQ zQ,.slice 1 fI aa9,.slice 1 gH wz],.ptr ij,.i 0]
def Ud:ao:=λc n args=>
 bZ args λimage kF=>ck [.slice 0 none 0,.slice 0 none 0,.i 0,.bool false,.bool false,.i 0,.i 0] λi=>aB (decide (0<=ar ((if 4096<(ar ((kF:Int).tdiv 64))then 4096 else(ar ((kF:Int).tdiv 64)))*64))&&decide (ar ((if 4096<(ar ((kF:Int).tdiv 64))then 4096 else(ar ((kF:Int).tdiv 64)))*64)<=(kF:Int)))<|il (c 328 (ba image ((ar ((if 4096<(ar ((kF:Int).tdiv 64))then 4096 else(ar ((kF:Int).tdiv 64)))*64)).toNat))) λx xn=>Q_ (ax (Lp (some (i,0)))) λay=>cN (λaQ x1=>bif decide (x1<(xn:Int))then wN 1 x x1 xn λx2=>bD i 0 λd1=>dz 4 d1 λx3 dK=>ck [.w x2,.w x2,.w 0,.bool false] λi2=>bX i2 0 4 λcs=>cw 4 x3 dK cs 1 2199023255552 λp=>dG i 0 (sJ p (dK+1))<|aQ (Li (ar (x1+1)))else ay []) n (Li 0)
def Uj:ao:=λc n args=>
 jt args λd=>RI (λaeq aer aeu aeD aeE aeF aeG aeH aeI aeJ bV found=>ax (BT aeq aer aeu aeD aeE aeF aeG aeH aeI aeJ bV found)) λay=>cY (λaQ st=>bh st λbQ st=>Z6 bQ λXg abx aby abz abA abB abC abD abE abF=>ZwR st λat2 Xv x=>bif decide (x<2)then Ah (c 327 (iI d x)) λx1 x2 x3 x4 x5 x6 x7 x8 x9 wB cX=>az (λb1=>RI (λaes aet aev aew aex aey aez aeA aeB aeC at3 ahE=>aQ [.agg [.i aes,.i aet,.i aev,.i aew,.i aex,.i aey,.i aez,.i aeA,.slice 1 aeB aeC],.i at3,.bool ahE,.i (ar (x+1))]) λaW=>bif b1 then aW (BT x1 x2 x3 x4 x5 x6 x7 x8 x9 wB x true)else aW (BT Xg abx aby abz abA abB abC abD abE abF at2 Xv)) λaH=>bif cX then az (λb2=>aH (Lb b2)) λbA=>
 bif !Xv then bA (Lb true)else bA (Lb (decide (x1>Xg)))else aH (Lb false)else ay (BT Xg abx aby abz abA abB abC abD abE abF at2 Xv)) n [.agg [.i 0,.i 0,.i 0,.i 0,.i 0,.i 0,.i 0,.i 0,.slice 0 none 0],.i 0,.bool false,.i 0]
def Ua:ao:=λc n args=>
 ql args λd place=>az (λb1=>bif b1 then ax (wL 0 0 0 0 0 0 0 0 none 0 false)else cV (c 329 (iI d place)) λds=>oq ds λx xn x1=>bif !(x1==0)then ax (wL 0 0 0 0 0 0 0 0 none 0 false)else Ah (c 330 (ba x xn)) λx2 x3 x4 x5 x6 x7 x8 x9 cX aa6 ee=>ax (BU x2 x3 x4 x5 x6 x7 x8 x9 cX aa6 ee)) λay=>bif decide (place<0)then ay (Lb true)else ay (Lb (decide (place>=2)))
def SP:ao:=λc n args=>
 bZ args λb1 bS=>gB λb0=>fJ (λout lj=>cc b0 (ba out lj)) λay=>cY (λaQ st=>bU 1 st λb2 Om st=>bZ st λgE eU=>bif decide ((Om:Int)>=8)then vv (c 285 (ba b2 Om)) λx=>ck (lE x) λi=>bX i 0 1 λcs=>cw 1 gE eU cs 1 8796093022208 λp=>aB (decide ((8:Int)<=(Om:Int)))<|aQ (wP (cK true b2 8) (Om-8) p (eU+1))else ay (ba gE eU)) n [.slice 1 b1 bS,.slice 0 none 0]
def TB:ao:=λc n args=>
 ql args λd bV=>cA (c 331 (iI d bV)) λx=>bif !(x==0)then ax (iH none 0 x)else ck [.w 0,.w 0,.w 0,.w 0,.w 0,.w 0,.w 0,.w 0] λws=>Q_ (bX ws 0 8 λ_=>il (c 332 (ba (some (ws,0)) 8)) λx1 jS=>ax (ep x1 jS 0)) λay=>cN (λaQ x2=>bif decide (x2<8)then cV (c 333 (iI d (ar ((ar (bV*8))+x2)))) λds=>Cd ds λx3 x4=>bif !(x4==0)then ax (iH none 0 x4)else aB (aP x2 8)<|dG ws (x2.toNat*1+0) (lE x3)<|aQ (Li (ar (x2+1)))else ay []) n (Li 0)
def Up:ao:=λc n args=>
 bZ args λb1 bS=>gB λb0=>sR (c 237 (ba b1 bS)) λx x1 x2 db x3=>az (λb2=>az (λb3=>bif b3 then cc b0 (wL 0 0 0 0 0 0 0 0 none 0 false)else ck [.i 0,.i 0,.i 0,.i 0,.i 0,.i 0,.i 0,.i 0,.slice 0 none 0] λs=>ck [.slice 0 none 0] λr1=>dG r1 0 (ba x2 db)<|cA (c 334 (iI (some (r1,0)) 8)) λx4=>dG s 0 (Li x4)<|Q_ (cA (c 334 (iI (some (r1,0)) 2)) λx5=>cA (c 334 (iI (some (r1,0)) 2)) λx6=>dG s 4 (Li x5)<|dG s 7 (Li x6)<|Q_ (bX s 0 9 λcs=>Z6 cs λx7 x8 x9 cX ee fj fA gG fQ zQ=>bu (c 197 (ZP x7 x8 x9 cX ee fj fA gG fQ zQ)) λfI=>az (λb4=>bif b4 then cc b0 (wL 0 0 0 0 0 0 0 0 none 0 false)else bX s 0 9 λbQ=>Z6 bQ λgH ij ik jn mT qg zR zS zT abd=>cc b0 (BU gH ij ik jn mT qg zR zS zT abd true)) λcq=>bif !fI then cq (Lb true)else bD r1 0 λd=>dz 1 d λzU H0=>bD r1 0 λd1=>dz 1 d1 λDz Qv=>
 bu (c 238 (Z7 zU H0 0 (Qv:Int))) λBy=>cq (Lb (!By))) λbA=>cN (λaQ Bz=>bif decide (Bz<x1)then bD s 8 λd2=>dz 1 d2 λDA DB=>mq (JI s (c 334 (iI (some (r1,0)) 2))) λH2=>ck (Li H2) λi=>bX i 0 1 λcI=>cw 1 DA DB cI 1 8796093022208 λp=>dG s 8 (ba p (DB+1))<|aQ (Li (ar (Bz+1)))else bA []) n (Li 0)) λaW=>cN (λdC BA=>bif decide (BA<5)then aB (aP BA 5)<|eS [.ptr (some (s,1)),.ptr (some (s,2)),.ptr (some (s,3)),.ptr (some (s,5)),.ptr (some (s,6))] (BA.toNat*1) λd3=>Cv d3 λDC=>cA (c 334 (iI (some (r1,0)) 4)) λH3=>bJ DC λi1 o=>dG i1 o (Li H3)<|dC (Li (ar (BA+1)))else aW []) n (Li 0)) λaH=>bif b2 then aH (Lb true)else aH (Lb (decide (x1>8)))) λay=>bif !x3 then ay (Lb true)else ay (Lb (!(x==7)))
def TI:ao:=λc n args=>
 ql args λd bV=>bif d.isNone then ax (Li 1)else az (λb1=>bif b1 then ax (Li 2)else ax (Li 0)) λay=>bif decide (bV<0)then ay (Lb true)else cA (c 335 (Lp d)) λx=>ay (Lb (decide (bV>=x)))
def RY:ao:=λc n args=>
 bZ args λws wsn=>gB λb0=>fJ (λout lj=>cc b0 (ba out lj)) λay=>kB (λaQ gE eU x=>bif decide (x<(wsn:Int))then wN 1 ws x wsn λx1=>il (c 337 (ZA x1 8)) λx2 db=>dx x2 (db*1) λcs=>cw 1 gE eU cs db 70368744177664 λp=>aQ (ep p (eU+db) (ar (x+1)))else ay (ba gE eU)) n (iH none 0 0)
def Re:ao:=λc n args=>
 ql args λd bV=>bJ d λi o=>bD i o λd1=>dz 4 d1 λx xn=>cA (c 336 [.ptr d,.i bV,.i (xn:Int)]) λx1=>bif !(x1==0)then ax (ZA 0 x1)else bJ d λi1 o1=>bD i1 o1 λd2=>dz 4 d2 λx2 db=>N_ x2 bV db λi2 o2=>bD i2 (bV.toNat*4+o2+1) λd3=>de .u64 d3 λx3=>ax (ZA x3 0)
def Rj:ao:=λc n args=>
 ql args λr1 n1=>bJ r1 λi o=>bD i o λd=>dz 1 d λx xn=>aB (decide (0<=n1)&&decide (n1<=(xn:Int)))<|vv (c 285 (ba x n1.toNat)) λx1=>bJ r1 λi1 o1=>bD i1 o1 λd1=>dz 1 d1 λx2 db=>aB (decide (0<=n1)&&decide (n1<=(db:Int)))<|bJ r1 λi2 o2=>dG i2 o2 (ba (cK true x2 (n1.toNat*1)) (db-n1.toNat))<|ax (Li (ar (x1)))
def Rl:ao:=λc n args=>
 jt args λd=>bJ d λi o=>bD i o λd1=>dz 4 d1 λx xn=>ax (Li (ar ((xn:Int).tdiv 8)))
def Q6:ao:=λc n args=>
 GI args λd bV n1=>bJ d λi o=>pJ i (o+3) λx=>bif x then ax (Li 3)else az (λb1=>bif b1 then ax (Li 2)else ax (Li 0)) λay=>bif decide (bV<0)then ay (Lb true)else ay (Lb (decide (bV>=n1)))
def Ut:ao:=λc n args=>
 Cd args λv n1=>gB λb0=>az (λb1=>bif b1 then cc b0 [.slice 0 none 0]else aB (decide (0<=n1)&&decide (n1<=n1)&&decide (n1<=70368744177664))<|ck (iD n1.toNat (kM 0)) λi=>Q_ (cc b0 (ba (some (i,0)) n1.toNat)) λaH=>Ar (λaQ v1 x=>bif decide (x<(n1.toNat:Int))then aB (aP x n1.toNat)<|dG i (x.toNat*1) (kM (IntKind.wrap .u8 (v1)))<|aQ (ZA (v1.fdiv (2^8)) (ar (x+1)))else aH []) n (ZA v 0)) λay=>bif decide (n1<0)then ay (Lb true)else ay (Lb (decide (n1>8)))
end
end Go.Gv
