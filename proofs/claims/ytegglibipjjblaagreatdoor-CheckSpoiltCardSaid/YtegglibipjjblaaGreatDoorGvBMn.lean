/- Functions of the program, as the machine runs them: written by gvseat.py. -/
import Derived.Test.YtegglibipjjblaaGreatDoorGvBMc
set_option linter.all false
namespace Go.Gv
set_option maxRecDepth 10000
set_option maxHeartbeats 4000000
noncomputable section
def Sa:ao:=λc n args=>
 bZ args λb1 bS=>dx b1 bS λcs=>lJ cs λl=>cV (c 345 (Ls l)) λds=>bh ds λbQ ds=>aC .i64 bQ λx r=>ZF r λx1 x2 x3 dK x4 dy x5 gr=>Zhs ds λx6 x7 x8 x9 cX ee fj fA gG FJ fQ zQ fI=>IY (c 323 (ba b1 bS)) λgH ij ik jn mT qg=>cV (c 341 (ba b1 bS)) λds=>bh ds λkQ ds=>aC .i64 kQ λzR r=>ZF r λzS zT zU H0 Dz Qv By adP=>cW ds λBz=>cV (c 346 (ba b1 bS)) λds=>oq ds λDA DB H2=>az (λb2=>az (λb3=>bif b3 then ax (Lb false)else bif !(fI==0)then az (λb4=>az (λb5=>ax (Lb b5)) λbA=>bif b4 then bA (Lb ((DB:Int)==0))else bA (Lb false)) λaW=>bif (gH==0)&&((ij==0)&&((ik==0)&&((jn==0)&&((mT==0)&&true))))then bu (c 136 [.agg [.i zR,.i zS,.i zT,.slice 2 zU H0,.slice 1 Dz Qv,.slice 1 By adP],.agg [.i 0,.i 0,.i 0,.slice 0 none 0,.slice 0 none 0,.slice 0 none 0]]) λBA=>
 aW (Lb BA)else aW (Lb false)else uv (c 347 (BS x x1 x2 x3 dK x4 dy x5 gr (zQ:Int))) λds=>bh ds λnH ds=>Ztk nH λDC H3 Qw Qx Qy=>aI ds<|az (λb6=>az (λb7=>ax (Lb b7)) λdA=>bif b6 then bu (c 113 (wP DA DB fQ zQ)) λQz=>dA (Lb Qz)else dA (Lb false)) λcq=>bif (gH==DC)&&((ij==H3)&&((ik==Qw)&&((jn==Qx)&&((mT==Qy)&&true))))then bu (c 136 [.agg [.i zR,.i zS,.i zT,.slice 2 zU H0,.slice 1 Dz Qv,.slice 1 By adP],.agg [.i x,.i x1,.i x2,.slice 2 x3 dK,.slice 1 x4 dy,.slice 1 x5 gr]]) λx39=>cq (Lb x39)else cq (Lb false)) λaH=>bif b2 then aH (Lb true)else aH (Lb (!(H2==fI)))) λay=>bif !(qg==fI)then ay (Lb true)else ay (Lb (!(Bz==fI)))
def SC:ao:=λc n args=>
 bZ args λimage kF=>gB λb0=>yf (c 324 (ba image kF)) λx x1 x2 x3 dK x4 dy x5 gr x6 x7=>cc b0 (BS x x1 x2 x3 dK x4 dy x5 gr x7)
def Ri:ao:=λc n args=>
 bh args λcs args=>aC .i64 cs λx r=>ZF r λx1 x2 x3 dK x4 dy x5 gr=>bh args λbQ args=>Na bQ λahB ahC=>bU 4 args λakt adz args=>aI args<|bu (c 322 []) λx6=>az (λb1=>az (λb2=>bif b2 then bu (c 322 []) λx7=>ax (Lb x7)else Mx (c 170 [.agg [.i x,.i x1,.i x2,.slice 2 x3 dK,.slice 1 x4 dy,.slice 1 x5 gr],.i (ar (1+(ar (ahB)))),.i 0]) λx8 jE x9 cX ee fj fA gG fQ fI gH wz ij=>bif !ij then ax (Lb true)else aB (decide ((128:Int)<=(jE:Int)))<|Aa (c 191 (ZP (ar (1+(ar (ahC)))) cX ee fj fA gG fQ fI gH wz)) λik=>rK (cK true x8 64) (ZM (ik.take 64))<|il (c 180 [.slice 1 x8 jE,.slice 4 akt adz]) λjn LW=>bu (c 339 (ba jn LW)) λmT=>ax (Lb mT)) λaH=>bif b1 then aH (Lb true)else aH (Lb (decide ((adz:Int)>6)))) λay=>bif !x6 then ay (Lb true)else bu (c 138 (ye x x1 x2 x3 dK x4 dy x5 gr)) λqg=>ay (Lb (!qg))
def Ti:ao:=λc n args=>
 bh args λcs args=>Z6 cs λs s1 s2 s3 s4 s5 s6 s7 s8 gy=>bZ args λqO FB=>gB λb0=>fJ (λout lj=>cc b0 (ba out lj)) λay=>kB (λaQ gE eU i=>bif decide (i<(gy:Int))then Zn 1 s8 i gy λx=>il (c 205 (Z7 gE eU s1 x)) λx1 jS=>aQ (ep x1 jS (ar (i+1)))else ay (ba gE eU)) n (ep qO FB 0)
def Sr:ao:=λc n args=>
 jU args λimage=>gB λb0=>My (c 348 (Ls image)) λx x1 x2 x3 x4 x5 x6 x7 x8 jE x9 cX=>bif !cX then cc b0 (Mw 0 0 0 none 0 none 0 none 0 x x1 x2 x3 x4 x5 x6 x7 x8 jE none 0 30)else cV (c 211 [.str image,.agg [.i x,.i x1,.i x2,.i x3,.i x4,.i x5,.i x6,.i x7,.slice 1 x8 jE]]) λds=>bh ds λbQ ds=>aC .i64 bQ λee r=>ZF r λfj fA gG FJ fQ zQ fI aa9=>JE ds λgH wz ij=>bif !ij then cc b0 (Mw 0 0 0 none 0 none 0 none 0 x x1 x2 x3 x4 x5 x6 x7 x8 jE none 0 31)else bu (c 178 [.str image,.agg [.i x,.i x1,.i x2,.i x3,.i x4,.i x5,.i x6,.i x7,.slice 1 x8 jE],.slice 1 gH wz]) λik=>bif !ik then cc b0 (Mw 0 0 0 none 0 none 0 none 0 x x1 x2 x3 x4 x5 x6 x7 x8 jE none 0 32)else uv (c 344 [.agg [.i x,.i x1,.i x2,.i x3,.i x4,.i x5,.i x6,.i x7,.slice 1 x8 jE],.slice 1 gH wz]) λds=>
 bZ ds λjn LW=>cc b0 [.agg [.i ee,.i fj,.i fA,.slice 2 gG FJ,.slice 1 fQ zQ,.slice 1 fI aa9],.agg [.i x,.i x1,.i x2,.i x3,.i x4,.i x5,.i x6,.i x7,.slice 1 x8 jE],.slice 1 jn LW,.i 0]
def TW:ao:=λc n args=>
 bZ args λimage kF=>gB λb0=>yf (c 324 (ba image kF)) λx x1 x2 x3 dK x4 dy x5 gr x6 x7=>bif !(x7==0)then cc b0 (iH none 0 x7)else il (c 172 (Lp x6)) λx8 jE=>cc b0 (ep x8 jE 0)
def Sv:ao:=λc n args=>
 bh args λcs args=>aC .i64 cs λx r=>ZF r λx1 x2 x3 dK x4 dy x5 gr=>cW args λblocks=>cV (c 142 (ye x x1 x2 x3 dK x4 dy x5 gr)) λds=>bU 4 ds λx6 mU ds=>aI ds<|D0 (λf f1 f2 f3 f4=>ax (yq f f1 f2 f3 f4)) λay=>cY (λaQ st=>MI st λf5 f6 f7 f8 f9 i=>bif decide (i<(dy:Int))then D0 (λf10 f11 f12 f13 f14=>aQ (B3 f10 f11 f12 f13 f14 (ar (i+1)))) λaH=>az (λlive=>bu (c 143 (ep x5 gr i)) λx7=>D0 (λf15 f16 f17 f18 f19=>aH (yq f15 f16 f17 f18 f19)) λbA=>bif x7 then bA (yq f5 f6 (ar (f7+1)) f8 f9)else D0 (λf20 f21 f22 f23 f24=>bA (yq f20 f21 f22 f23 f24)) λcq=>bif !live then cq (yq f5 f6 f7 (ar (f8+1)) f9)else cq (yq f5 f6 f7 f8 f9)) λaW=>cY (λdC st=>gK st λP3 st=>cW st λk=>bif decide (k<(mU:Int))then az (λb1=>dC (Ad b1 (ar (k+1)))) λdA=>bif P3 then dA (Lb true)else Zn 4 x6 k mU λx8=>
 dA (Lb (x8==i))else aW (Lb P3)) n (Ad false 0)else ay (yq f5 f6 f7 f8 f9)) n (B3 (mU:Int) (dK:Int) 0 0 blocks 0)
def Tt:ao:=λc n args=>
 jU args λimage=>gB λb0=>Ah (c 349 (eQ image 0)) λx x1 x2 x3 x4 x5 x6 x7 x8 jE x9=>Ah (c 349 (eQ image 1)) λcX ee fj fA gG fQ fI gH ij aba ik=>az (λb1=>bif b1 then cc b0 (BT cX ee fj fA gG fQ fI gH ij aba 1 true)else cc b0 (BT x x1 x2 x3 x4 x5 x6 x7 x8 jE 0 x9)) λay=>bif ik then az (λb2=>ay (Lb b2)) λaH=>bif !x9 then aH (Lb true)else aH (Lb (decide (cX>x)))else ay (Lb false)
def UJ:ao:=λc n args=>
 oi args λimage place=>gB λb0=>az (λb1=>az (λb2=>bif b2 then cc b0 (wL 0 0 0 0 0 0 0 0 none 0 false)else aB (decide (0<=ar ((ar (64*place))+64))&&decide (ar ((ar (64*place))+64)<=(image.length:Int)))<|aB (decide (0<=ar (64*place))&&decide (ar (64*place)<=(((ar ((ar (64*place))+64)).toNat:Nat):Int)))<|ck (ZM ((image.take ((ar ((ar (64*place))+64)).toNat)).drop ((ar (64*place)).toNat))) λi=>Ah (c 350 (ba (some (i,0)) (((image.take ((ar ((ar (64*place))+64)).toNat)).drop ((ar (64*place)).toNat)).length))) λx x1 x2 x3 x4 x5 x6 x7 x8 jE x9=>cc b0 (BU x x1 x2 x3 x4 x5 x6 x7 x8 jE x9)) λaH=>bif b1 then aH (Lb true)else aH (Lb (decide ((image.length:Int)<ar ((ar (64*place))+64))))) λay=>bif decide (place<0)then ay (Lb true)else ay (Lb (decide (place>1)))
def T8:ao:=λc n args=>
 bZ args λb1 bS=>gB λb0=>vy (c 291 (ba b1 bS)) λx x1 x2 x3=>az (λb2=>az (λb3=>bif b3 then cc b0 (wL 0 0 0 0 0 0 0 0 none 0 false)else aB (decide ((8:Int)<=(x2.length:Int)))<|cA (c 292 (Ls (x2.take 8))) λx4=>aB (decide ((12:Int)<=(x2.length:Int)))<|cA (c 292 (Ls ((x2.take 12).drop 8))) λx5=>aB (decide ((16:Int)<=(x2.length:Int)))<|cA (c 292 (Ls ((x2.take 16).drop 12))) λx6=>aB (decide ((20:Int)<=(x2.length:Int)))<|cA (c 292 (Ls ((x2.take 20).drop 16))) λx7=>aB (decide ((24:Int)<=(x2.length:Int)))<|cA (c 292 (Ls ((x2.take 24).drop 20))) λx8=>aB (decide ((28:Int)<=(x2.length:Int)))<|cA (c 292 (Ls ((x2.take 28).drop 24))) λx9=>aB (decide ((30:Int)<=(x2.length:Int)))<|cA (c 292 (Ls ((x2.take 30).drop 28))) λcX=>aB (decide ((32:Int)<=(x2.length:Int)))<|cA (c 292 (Ls ((x2.take 32).drop 30))) λee=>Iw (λs s1 s2 s3 s4 s5 s6 s7 s8 gy=>bu (c 195 (ZP s s1 s2 s3 s4 s5 s6 s7 s8 gy)) λfj=>az (λb4=>
 bif b4 then cc b0 (wL 0 0 0 0 0 0 0 0 none 0 false)else cc b0 (BU s s1 s2 s3 s4 s5 s6 s7 s8 gy true)) λbA=>bif !fj then bA (Lb true)else jI (c 191 (ZP s s1 s2 s3 s4 s5 s6 s7 s8 gy)) λfA=>dx b1 bS λbQ=>lJ bQ λl=>bA (Lb (!(fA==l)))) λaW=>cY (λaQ st=>Mz st λs9 Dv HQ HR HS HT HU Bu HV Bv i=>bif decide (i<x1)then aB (decide (0<=ar (34+(ar (2*i))))&&decide (ar (34+(ar (2*i)))<=(x2.length:Int)))<|aB (decide (0<=ar (32+(ar (2*i))))&&decide (ar (32+(ar (2*i)))<=(((ar (34+(ar (2*i)))).toNat:Nat):Int)))<|mq (c 292 (Ls ((x2.take ((ar (34+(ar (2*i)))).toNat)).drop ((ar (32+(ar (2*i)))).toNat)))) λgG=>ck (Li gG) λi1=>bX i1 0 1 λfK=>cw 1 HV Bv fK 1 8796093022208 λp=>
 aQ (Iz s9 Dv HQ HR HS HT HU Bu p (Bv+1) (ar (i+1)))else aW (ZP s9 Dv HQ HR HS HT HU Bu HV Bv)) n [.agg [.i x4,.i x5,.i x6,.i x7,.i cX,.i x8,.i x9,.i ee,.slice 0 none 0],.i 0]) λaH=>bif b2 then aH (Lb true)else aH (Lb (decide (x1>8)))) λay=>bif !x3 then ay (Lb true)else ay (Lb (!(x==7)))
end
class HA (Bd:outParam Zh):Prop where
 Xr:Bd 12=Sy
 e15:Bd 15=SM
 e19:Bd 19=Rs
 e26:Bd 26=Ts
 e27:Bd 27=Sw
 e28:Bd 28=U6
 e29:Bd 29=U3
 e34:Bd 34=TX
 e39:Bd 39=Sq
 e40:Bd 40=Ry
 e54:Bd 54=Znj
 e57:Bd 57=QW
 e64:Bd 64=Rc
 e72:Bd 72=Ru
 e86:Bd 86=Ir
 ae3:Bd 113=MF
 ae4:Bd 133=Uk
 ae5:Bd 136=Tj
 ae6:Bd 138=TC
 ae7:Bd 141=SS
 ae8:Bd 142=Sg
 ae9:Bd 143=TN
 afa:Bd 144=SN
 afb:Bd 145=IC
 afc:Bd 147=QZ
 afd:Bd 155=SR
 afe:Bd 156=QX
 aff:Bd 170=SL
 afg:Bd 171=MR
 afh:Bd 172=Rz
 afi:Bd 173=RU
 abQ:Bd 177=VI
 afj:Bd 178=Sj
 afk:Bd 179=Tx
 afl:Bd 180=RM
 afm:Bd 183=RH
 afn:Bd 184=RT
 afo:Bd 189=RB
 afp:Bd 190=Rm
 afq:Bd 191=T9
 afr:Bd 192=Tq
 afs:Bd 193=Ui
 aft:Bd 194=Q8
 afu:Bd 195=S8
 afv:Bd 196=Sb
 afw:Bd 197=SJ
 afx:Bd 200=TK
 afy:Bd 201=Rw
 afz:Bd 202=RA
 afA:Bd 203=Uh
 afB:Bd 204=UB
 afC:Bd 205=Uc
 afD:Bd 206=RX
 afE:Bd 207=SK
 afF:Bd 208=Tp
 afG:Bd 209=Sn
 afH:Bd 210=Rp
 afI:Bd 211=SH
 afJ:Bd 213=TL
 afK:Bd 214=T4
 afL:Bd 215=Uv
 afM:Bd 216=Ug
 afN:Bd 217=Rb
 afO:Bd 218=TS
 afP:Bd 219=T2
 afQ:Bd 220=Tz
 afR:Bd 221=Sf
 afS:Bd 222=QY
 afT:Bd 223=S9
 afU:Bd 225=Ur
 afV:Bd 226=Rh
 afW:Bd 227=Td
 afX:Bd 228=Rn
 afY:Bd 229=Ro
 afZ:Bd 230=Rg
 af0:Bd 231=Q4
 af1:Bd 232=Jl
 af2:Bd 233=Ra
 af3:Bd 234=Q9
 af4:Bd 236=Q3
 af5:Bd 237=Tn
 af6:Bd 238=Rq
 af7:Bd 239=TG
 af8:Bd 240=Zl3
 af9:Bd 241=RC
 aga:Bd 242=UA
 agb:Bd 243=Sz
 agc:Bd 244=T7
 agd:Bd 245=T0
 age:Bd 246=RQ
 agf:Bd 247=Sk
 agh:Bd 248=SX
 agi:Bd 249=Tw
 agj:Bd 250=TR
 agk:Bd 251=TF
 agl:Bd 252=Tk
 agm:Bd 253=U9
 agn:Bd 254=Q5
 ago:Bd 255=TY
 agp:Bd 256=TA
 agq:Bd 259=S7
 agr:Bd 260=SQ
 ags:Bd 261=SO
 agt:Bd 262=Ub
 agu:Bd 263=Q2
 agv:Bd 264=Tb
 agw:Bd 265=SA
 agx:Bd 266=RK
 agy:Bd 267=Th
 agz:Bd 268=To
 agA:Bd 269=RV
 agB:Bd 270=Uy
 agC:Bd 271=T5
 agD:Bd 272=UZ
 agE:Bd 273=Sc
 agF:Bd 274=SI
 agG:Bd 275=RD
 agH:Bd 276=R8
 abS:Bd 285=MQ
 agI:Bd 286=U2
 agJ:Bd 287=TJ
 agK:Bd 288=T1
 agL:Bd 289=Uu
 agM:Bd 290=Tm
 agN:Bd 291=T3
 agO:Bd 292=Uo
 agP:Bd 293=Tc
 agQ:Bd 294=Tv
 agR:Bd 295=Sx
 agS:Bd 296=Te
 agT:Bd 297=RG
 agU:Bd 298=Rx
 agV:Bd 299=Rf
 agW:Bd 300=RE
 agX:Bd 306=U8
 agY:Bd 307=TE
 agZ:Bd 308=Sp
 ag0:Bd 309=Rv
 ag1:Bd 310=RW
 ag2:Bd 311=TU
 ag3:Bd 312=Uw
 ag4:Bd 313=Sd
 ag5:Bd 314=Ta
 ag6:Bd 315=Rk
 ag7:Bd 317=Ue
 ag8:Bd 318=RZ
 ag9:Bd 319=SU
 aha:Bd 320=UI
 ahb:Bd 322=Ss
 abT:Bd 323=SG
 ahc:Bd 324=S6
 ahd:Bd 325=Ud
 ahe:Bd 326=Uj
 ahf:Bd 327=Ua
 ahg:Bd 328=SP
 ahh:Bd 329=TB
 ahi:Bd 330=Up
 ahj:Bd 331=TI
 ahk:Bd 332=RY
 ahl:Bd 333=Re
 ahm:Bd 334=Rj
 ahn:Bd 335=Rl
 aho:Bd 336=Q6
 ahp:Bd 337=Ut
 ahq:Bd 339=Sa
 ahr:Bd 341=SC
 ahs:Bd 342=Ri
 aht:Bd 344=Ti
 ahu:Bd 345=Sr
 ahv:Bd 346=TW
 ahw:Bd 347=Sv
 ahx:Bd 348=Tt
 ahy:Bd 349=UJ
 ahz:Bd 350=T8
 ajX:Se Bd
 ajY:F3 Bd
 alI:It Bd
 alJ:MP Bd
 alK:ME Bd
end Go.Gv
