/- Functions of the program, as the machine runs them: written by gvseat.py. -/
import Derived.Test.YtegglibipjjblaaGreatDoorGvBMc
set_option linter.all false
namespace Go.Gv
set_option maxRecDepth 10000
set_option maxHeartbeats 4000000
noncomputable section
def QL:ao:=λc n args=>
 bV args λb1 bX=>bq (c 322 []) λx=>aA (λb2=>bif b2 then bq (c 322 []) λx1=>ay (Lb x1)else dy b1 bX λcs=>kd cs λl=>bq (c 339 (aZ b1 bX)) λx2=>aA (λb3=>ay (Lb b3)) λaI=>bif x2 then dy b1 bX λbM=>kd bM λl1=>aI (Lb (l1==l))else aI (Lb false)) λaz=>bif !x then az (Lb true)else az (Lb (decide ((bX:Int)>8000)))
def QS:ao:=λc n args=>
 bV args λb1 bX=>dy b1 bX λcs=>kd cs λl=>cQ (c 345 (Ls l)) λds=>ba ds λbM ds=>aD .i64 bM λx r=>Zx r λx1 x2 x3 ee x4 dC x5 gO=>Zhl ds λx6 x7 x8 x9 cV eB fj fH gG ET fS ze fN=>H2 (c 323 (aZ b1 bX)) λgH iG iH jE nO rM=>cQ (c 341 (aZ b1 bX)) λds=>ba ds λkF ds=>aD .i64 kF λzi r=>Zx r λzj zl zm Hp CX PD AZ acR=>cP ds λA0=>cQ (c 346 (aZ b1 bX)) λds=>oe ds λCY CZ Hq=>aA (λb2=>aA (λb3=>bif b3 then ay (Lb false)else bif !(fN==0)then aA (λb4=>aA (λb5=>ay (Lb b5)) λbz=>bif b4 then bz (Lb ((CZ:Int)==0))else bz (Lb false)) λaW=>bif (gH==0)&&((iG==0)&&((iH==0)&&((jE==0)&&((nO==0)&&true))))then bq (c 136 [.agg [.int .i64 zi,.int .i64 zj,.int .i64 zl,.slice 2 zm Hp,.slice 1 CX PD,.slice 1 AZ acR],.agg [.int .i64 0,.int .i64 0,.int .i64 0,.slice 0 none 0,.slice 0 none 0,.slice 0 none 0]]) λA9=>
 aW (Lb A9)else aW (Lb false)else uX (c 347 (Bm x x1 x2 x3 ee x4 dC x5 gO (ze:Int))) λds=>ba ds λnp ds=>ZtA np λC0 Hr PE PF PG=>aL ds<|aA (λb6=>aA (λb7=>ay (Lb b7)) λdp=>bif b6 then bq (c 113 (we CY CZ fS ze)) λPH=>dp (Lb PH)else dp (Lb false)) λck=>bif (gH==C0)&&((iG==Hr)&&((iH==PE)&&((jE==PF)&&((nO==PG)&&true))))then bq (c 136 [.agg [.int .i64 zi,.int .i64 zj,.int .i64 zl,.slice 2 zm Hp,.slice 1 CX PD,.slice 1 AZ acR],.agg [.int .i64 x,.int .i64 x1,.int .i64 x2,.slice 2 x3 ee,.slice 1 x4 dC,.slice 1 x5 gO]]) λx39=>ck (Lb x39)else ck (Lb false)) λaI=>bif b2 then aI (Lb true)else aI (Lb (!(Hq==fN)))) λaz=>bif !(rM==fN)then az (Lb true)else az (Lb (!(A0==fN)))
def R9:ao:=λc n args=>
 bV args λimage kh=>gD λb0=>xD (c 324 (aZ image kh)) λx x1 x2 x3 ee x4 dC x5 gO x6 x7=>bZ b0 (Bm x x1 x2 x3 ee x4 dC x5 gO x7)
def Sx:ao:=λc n args=>
 ba args λcs args=>Z6 cs λs s1 s2 s3 s4 s5 s6 s7 s8 gk=>bV args λqh EK=>gD λb0=>fB (λout kR=>bZ b0 (aZ out kR)) λaz=>kb (λaV gu eK i=>bif decide (i<(gk:Int))then Zn 1 s8 i gk λx=>iL (c 205 (Z7 gu eK s1 x)) λx1 jD=>aV (dY x1 jD (ar (i+1)))else az (aZ gu eK)) n (dY qh EK 0)
def RS:ao:=λc n args=>
 jJ args λimage=>gD λb0=>LL (c 348 (Ls image)) λx x1 x2 x3 x4 x5 x6 x7 x8 kt x9 cV=>bif !cV then bZ b0 (LI 0 0 0 none 0 none 0 none 0 x x1 x2 x3 x4 x5 x6 x7 x8 kt none 0 30)else cQ (c 211 [.str image,.agg [.int .i64 x,.int .i64 x1,.int .i64 x2,.int .i64 x3,.int .i64 x4,.int .i64 x5,.int .i64 x6,.int .i64 x7,.slice 1 x8 kt]]) λds=>ba ds λbM ds=>aD .i64 bM λeB r=>Zx r λfj fH gG ET fS ze fN aah=>IZ ds λgH zg iG=>bif !iG then bZ b0 (LI 0 0 0 none 0 none 0 none 0 x x1 x2 x3 x4 x5 x6 x7 x8 kt none 0 31)else bq (c 178 [.str image,.agg [.int .i64 x,.int .i64 x1,.int .i64 x2,.int .i64 x3,.int .i64 x4,.int .i64 x5,.int .i64 x6,.int .i64 x7,.slice 1 x8 kt],.slice 1 gH zg]) λiH=>bif !iH then bZ b0 (LI 0 0 0 none 0 none 0 none 0 x x1 x2 x3 x4 x5 x6 x7 x8 kt none 0 32)else uX (c 344 [.agg [.int .i64 x,.int .i64 x1,.int .i64 x2,.int .i64 x3,.int .i64 x4,.int .i64 x5,.int .i64 x6,.int .i64 x7,.slice 1 x8 kt],.slice 1 gH zg]) λds=>
 bV ds λjE aak=>bZ b0 [.agg [.int .i64 eB,.int .i64 fj,.int .i64 fH,.slice 2 gG ET,.slice 1 fS ze,.slice 1 fN aah],.agg [.int .i64 x,.int .i64 x1,.int .i64 x2,.int .i64 x3,.int .i64 x4,.int .i64 x5,.int .i64 x6,.int .i64 x7,.slice 1 x8 kt],.slice 1 jE aak,.int .i64 0]
def Sz:ao:=λc n args=>
 bV args λimage kh=>gD λb0=>xD (c 324 (aZ image kh)) λx x1 x2 x3 ee x4 dC x5 gO x6 x7=>bif !(x7==0)then bZ b0 (iw none 0 x7)else iL (c 172 (Lp x6)) λx8 kt=>bZ b0 (dY x8 kt 0)
def RH:ao:=λc n args=>
 ba args λcs args=>aD .i64 cs λx r=>Zx r λx1 x2 x3 ee x4 dC x5 gO=>cP args λblocks=>cQ (c 142 (Bo x x1 x2 x3 ee x4 dC x5 gO)) λds=>bW 4 ds λx6 pJ ds=>aL ds<|Dx (λf f1 f2 f3 f4=>ay (xN f f1 f2 f3 f4)) λaz=>cS (λaV st=>L9 st λf5 f6 f7 f8 f9 i=>bif decide (i<(dC:Int))then Dx (λf10 f11 f12 f13 f14=>aV (Bw f10 f11 f12 f13 f14 (ar (i+1)))) λaI=>aA (λlive=>bq (c 143 (dY x5 gO i)) λx7=>Dx (λf15 f16 f17 f18 f19=>aI (xN f15 f16 f17 f18 f19)) λbz=>bif x7 then bz (xN f5 f6 (ar (f7+1)) f8 f9)else Dx (λf20 f21 f22 f23 f24=>bz (xN f20 f21 f22 f23 f24)) λck=>bif !live then ck (xN f5 f6 f7 (ar (f8+1)) f9)else ck (xN f5 f6 f7 f8 f9)) λaW=>cS (λdw st=>gC st λPa st=>cP st λk=>bif decide (k<(pJ:Int))then aA (λb1=>dw (zD b1 (ar (k+1)))) λdp=>bif Pa then dp (Lb true)else Zn 4 x6 k pJ λx8=>
 dp (Lb (x8==i))else aW (Lb Pa)) n (zD false 0)else az (xN f5 f6 f7 f8 f9)) n (Bw (pJ:Int) (ee:Int) 0 0 blocks 0)
def SA:ao:=λc n args=>
 jJ args λimage=>gD λb0=>zI (c 349 (eI image 0)) λx x1 x2 x3 x4 x5 x6 x7 x8 kt x9=>zI (c 349 (eI image 1)) λcV eB fj fH gG fS fN gH iG aai iH=>aA (λb1=>bif b1 then bZ b0 (Bn cV eB fj fH gG fS fN gH iG aai 1 true)else bZ b0 (Bn x x1 x2 x3 x4 x5 x6 x7 x8 kt 0 x9)) λaz=>bif iH then aA (λb2=>az (Lb b2)) λaI=>bif !x9 then aI (Lb true)else aI (Lb (decide (cV>x)))else az (Lb false)
def TZ:ao:=λc n args=>
 nU args λimage place=>gD λb0=>aA (λb1=>aA (λb2=>bif b2 then bZ b0 (vY 0 0 0 0 0 0 0 0 none 0 false)else aC (decide (0<=ar ((ar (64*place))+64))&&decide (ar ((ar (64*place))+64)<=(image.length:Int)))<|aC (decide (0<=ar (64*place))&&decide (ar (64*place)<=(((ar ((ar (64*place))+64)).toNat:Nat):Int)))<|cd (ZQ ((image.take ((ar ((ar (64*place))+64)).toNat)).drop ((ar (64*place)).toNat))) λi=>zI (c 350 (aZ (some (i,0)) (((image.take ((ar ((ar (64*place))+64)).toNat)).drop ((ar (64*place)).toNat)).length))) λx x1 x2 x3 x4 x5 x6 x7 x8 kt x9=>bZ b0 (Bp x x1 x2 x3 x4 x5 x6 x7 x8 kt x9)) λaI=>bif b1 then aI (Lb true)else aI (Lb (decide ((image.length:Int)<ar ((ar (64*place))+64))))) λaz=>bif decide (place<0)then az (Lb true)else az (Lb (decide (place>1)))
def Te:ao:=λc n args=>
 bV args λb1 bX=>gD λb0=>uN (c 291 (aZ b1 bX)) λx x1 x2 x3=>aA (λb2=>aA (λb3=>bif b3 then bZ b0 (vY 0 0 0 0 0 0 0 0 none 0 false)else aC (decide ((8:Int)<=(x2.length:Int)))<|cw (c 292 (Ls (x2.take 8))) λx4=>aC (decide ((12:Int)<=(x2.length:Int)))<|cw (c 292 (Ls ((x2.take 12).drop 8))) λx5=>aC (decide ((16:Int)<=(x2.length:Int)))<|cw (c 292 (Ls ((x2.take 16).drop 12))) λx6=>aC (decide ((20:Int)<=(x2.length:Int)))<|cw (c 292 (Ls ((x2.take 20).drop 16))) λx7=>aC (decide ((24:Int)<=(x2.length:Int)))<|cw (c 292 (Ls ((x2.take 24).drop 20))) λx8=>aC (decide ((28:Int)<=(x2.length:Int)))<|cw (c 292 (Ls ((x2.take 28).drop 24))) λx9=>aC (decide ((30:Int)<=(x2.length:Int)))<|cw (c 292 (Ls ((x2.take 30).drop 28))) λcV=>aC (decide ((32:Int)<=(x2.length:Int)))<|cw (c 292 (Ls ((x2.take 32).drop 30))) λeB=>HV (λs s1 s2 s3 s4 s5 s6 s7 s8 gk=>bq (c 195 (ZZ s s1 s2 s3 s4 s5 s6 s7 s8 gk)) λfj=>aA (λb4=>
 bif b4 then bZ b0 (vY 0 0 0 0 0 0 0 0 none 0 false)else bZ b0 (Bp s s1 s2 s3 s4 s5 s6 s7 s8 gk true)) λbz=>bif !fj then bz (Lb true)else jw (c 191 (ZZ s s1 s2 s3 s4 s5 s6 s7 s8 gk)) λfH=>dy b1 bX λbM=>kd bM λl=>bz (Lb (!(fH==l)))) λaW=>cS (λaV st=>LK st λs9 CT Hg Hh Hi Hj Hk AV Hl AW i=>bif decide (i<x1)then aC (decide (0<=ar (34+(ar (2*i))))&&decide (ar (34+(ar (2*i)))<=(x2.length:Int)))<|aC (decide (0<=ar (32+(ar (2*i))))&&decide (ar (32+(ar (2*i)))<=(((ar (34+(ar (2*i)))).toNat:Nat):Int)))<|lW (c 292 (Ls ((x2.take ((ar (34+(ar (2*i)))).toNat)).drop ((ar (32+(ar (2*i)))).toNat)))) λgG=>cd (Li gG) λi1=>bS i1 0 1 λfC=>cm 1 Hl AW fC 1 8796093022208 λp=>
 aV (HT s9 CT Hg Hh Hi Hj Hk AV p (AW+1) (ar (i+1)))else aW (ZZ s9 CT Hg Hh Hi Hj Hk AV Hl AW)) n [.agg [.int .i64 x4,.int .i64 x5,.int .i64 x6,.int .i64 x7,.int .i64 cV,.int .i64 x8,.int .i64 x9,.int .i64 eB,.slice 0 none 0],.int .i64 0]) λaI=>bif b2 then aI (Lb true)else aI (Lb (decide (x1>8)))) λaz=>bif !x3 then az (Lb true)else az (Lb (!(x==7)))
end
class HA (Bd:outParam Zh):Prop where
 Wt:Bd 12=RW
 e15:Bd 15=RC
 e19:Bd 19=QB
 e26:Bd 26=Sq
 e27:Bd 27=Rt
 e28:Bd 28=UK
 e29:Bd 29=Tt
 e34:Bd 34=Sp
 e39:Bd 39=QT
 e40:Bd 40=Q8
 e54:Bd 54=ZmX
 e57:Bd 57=P5
 e64:Bd 64=Qs
 e72:Bd 72=QH
 e86:Bd 86=HM
 ad5:Bd 113=LR
 ad6:Bd 133=SX
 ad7:Bd 136=Sj
 ad8:Bd 141=Rn
 ad9:Bd 142=Qz
 aea:Bd 143=TI
 aeb:Bd 144=RA
 aec:Bd 145=HY
 aed:Bd 147=P9
 aee:Bd 155=RN
 aef:Bd 156=P7
 aeg:Bd 170=RI
 aeh:Bd 171=LW
 aei:Bd 172=Qx
 aej:Bd 173=QV
 aaX:Bd 177=Uy
 aek:Bd 178=Q9
 ael:Bd 179=SI
 aem:Bd 183=QG
 aen:Bd 184=Rm
 aeo:Bd 189=Qe
 aep:Bd 190=Qm
 aeq:Bd 191=TA
 aer:Bd 192=Sw
 aes:Bd 193=Tb
 aet:Bd 194=Qh
 aeu:Bd 195=RO
 aev:Bd 196=Ri
 aew:Bd 197=Ry
 aex:Bd 200=S6
 aey:Bd 201=QF
 aez:Bd 202=Ra
 aeA:Bd 203=Tg
 aeB:Bd 204=TH
 aeC:Bd 205=SO
 aeD:Bd 206=Rf
 aeE:Bd 208=Sg
 aeF:Bd 209=QP
 aeG:Bd 210=Qi
 aeH:Bd 211=Ro
 aeI:Bd 213=TM
 aeJ:Bd 214=Se
 aeK:Bd 215=SS
 aeL:Bd 216=TO
 aeM:Bd 217=Qu
 aeN:Bd 218=Tf
 aeO:Bd 219=Sn
 aeP:Bd 220=SC
 aeQ:Bd 221=Qy
 aeR:Bd 222=P8
 aeS:Bd 223=RJ
 aeT:Bd 225=SP
 aeU:Bd 226=Qo
 aeV:Bd 227=RT
 aeW:Bd 228=Qv
 aeX:Bd 229=Qk
 aeY:Bd 230=Qj
 aeZ:Bd 231=Qc
 ae0:Bd 232=Ix
 ae1:Bd 233=Ql
 ae2:Bd 234=Qw
 ae3:Bd 236=Qa
 ae4:Bd 237=Sv
 ae5:Bd 238=QA
 ae6:Bd 239=SE
 ae7:Bd 240=ZlT
 ae8:Bd 241=QK
 ae9:Bd 242=SK
 afa:Bd 243=Rp
 afb:Bd 244=Sc
 afc:Bd 245=SD
 afd:Bd 246=Rj
 afe:Bd 247=Re
 aff:Bd 248=RU
 afg:Bd 249=Sd
 afh:Bd 250=SZ
 afi:Bd 251=RZ
 afj:Bd 252=SF
 afk:Bd 253=Ur
 afl:Bd 254=Qd
 afm:Bd 255=Tk
 afn:Bd 256=Th
 afo:Bd 259=Sa
 afp:Bd 260=Rq
 afq:Bd 261=Ru
 afr:Bd 262=S8
 afs:Bd 263=Qb
 aft:Bd 264=Rv
 afu:Bd 265=Rw
 afv:Bd 266=Rg
 afw:Bd 267=Sb
 afx:Bd 268=Ss
 afy:Bd 269=Rk
 afz:Bd 270=Tc
 afA:Bd 271=Si
 afB:Bd 272=Tu
 afC:Bd 273=QZ
 afD:Bd 274=Rz
 afE:Bd 275=QN
 afF:Bd 276=Q6
 aaZ:Bd 285=LU
 afG:Bd 286=Tn
 afH:Bd 287=TE
 afI:Bd 288=Tl
 afJ:Bd 289=SY
 afK:Bd 290=Tj
 afL:Bd 291=Sf
 afM:Bd 292=Tz
 afN:Bd 293=RX
 afO:Bd 294=Sr
 afP:Bd 295=RM
 afQ:Bd 296=SJ
 afR:Bd 297=QI
 afS:Bd 298=QE
 afT:Bd 299=Qt
 afU:Bd 300=QO
 afV:Bd 306=TX
 afW:Bd 307=RB
 afX:Bd 308=QY
 afY:Bd 309=QD
 afZ:Bd 310=QX
 af0:Bd 311=S7
 af1:Bd 312=S9
 af2:Bd 313=Q3
 af3:Bd 314=RV
 af4:Bd 315=Qp
 af5:Bd 317=SR
 af6:Bd 318=Q4
 af7:Bd 319=RD
 af8:Bd 320=T3
 af9:Bd 322=RP
 aa0:Bd 323=RK
 aga:Bd 324=R8
 agb:Bd 325=TL
 agc:Bd 326=TF
 agd:Bd 327=Ta
 age:Bd 328=RY
 agf:Bd 329=SG
 agh:Bd 330=SU
 agi:Bd 331=TC
 agj:Bd 332=Rh
 agk:Bd 333=Qr
 agl:Bd 334=Qn
 agm:Bd 335=Qq
 agn:Bd 336=Qf
 ago:Bd 337=TD
 agp:Bd 338=QL
 agq:Bd 339=QS
 agr:Bd 341=R9
 ags:Bd 344=Sx
 agt:Bd 345=RS
 agu:Bd 346=Sz
 agv:Bd 347=RH
 agw:Bd 348=SA
 agx:Bd 349=TZ
 agy:Bd 350=Te
 aiT:Rb Bd
 aiU:Fk Bd
 akz:HO Bd
 akA:LS Bd
 akB:LN Bd
end Go.Gv
