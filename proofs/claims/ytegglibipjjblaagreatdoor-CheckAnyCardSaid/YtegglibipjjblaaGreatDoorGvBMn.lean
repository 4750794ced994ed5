/- Functions of the program, as the machine runs them: written by gvseat.py. -/
import Derived.Test.YtegglibipjjblaaGreatDoorGvBMc
set_option linter.all false
namespace Go.Gv
set_option maxRecDepth 10000
set_option maxHeartbeats 4000000
noncomputable section
def QW:ao:=λc n args=>
 bV args λb1 bX=>bq (c 322 []) λx=>aA (λb2=>bif b2 then bq (c 322 []) λx1=>ay (Lb x1)else dy b1 bX λcs=>ke cs λl=>bq (c 339 (aZ b1 bX)) λx2=>aA (λb3=>ay (Lb b3)) λaI=>bif x2 then dy b1 bX λbM=>ke bM λl1=>aI (Lb (l1==l))else aI (Lb false)) λaz=>bif !x then az (Lb true)else az (Lb (decide ((bX:Int)>8000)))
def Rg:ao:=λc n args=>
 bV args λb1 bX=>dy b1 bX λcs=>ke cs λl=>cQ (c 345 (Ls l)) λds=>ba ds λbM ds=>aD .i64 bM λx r=>Zx r λx1 x2 x3 ee x4 dC x5 gO=>Zhi ds λx6 x7 x8 x9 cV eB fj fH gG EZ fS zg fN=>Iv (c 323 (aZ b1 bX)) λgH iG iH jG nP rN=>cQ (c 341 (aZ b1 bX)) λds=>ba ds λkF ds=>aD .i64 kF λzj r=>Zx r λzl zm zn Hw C1 PQ Ba ac5=>cP ds λBb=>cQ (c 346 (aZ b1 bX)) λds=>nY ds λC2 C3 Hx=>aA (λb2=>aA (λb3=>bif b3 then ay (Lb false)else bif !(fN==0)then aA (λb4=>aA (λb5=>ay (Lb b5)) λbz=>bif b4 then bz (Lb ((C3:Int)==0))else bz (Lb false)) λaW=>bif (gH==0)&&((iG==0)&&((iH==0)&&((jG==0)&&((nP==0)&&true))))then bq (c 136 [.a [.i zj,.i zl,.i zm,.s 2 zn Hw,.s 1 C1 PQ,.s 1 Ba ac5],.a [.i 0,.i 0,.i 0,.s 0 none 0,.s 0 none 0,.s 0 none 0]]) λBc=>
 aW (Lb Bc)else aW (Lb false)else uZ (c 347 (Bp x x1 x2 x3 ee x4 dC x5 gO (zg:Int))) λds=>ba ds λnr ds=>Zs8 nr λC4 Hy PR PS PT=>aL ds<|aA (λb6=>aA (λb7=>ay (Lb b7)) λdp=>bif b6 then bq (c 113 (we C2 C3 fS zg)) λPU=>dp (Lb PU)else dp (Lb false)) λck=>bif (gH==C4)&&((iG==Hy)&&((iH==PR)&&((jG==PS)&&((nP==PT)&&true))))then bq (c 136 [.a [.i zj,.i zl,.i zm,.s 2 zn Hw,.s 1 C1 PQ,.s 1 Ba ac5],.a [.i x,.i x1,.i x2,.s 2 x3 ee,.s 1 x4 dC,.s 1 x5 gO]]) λx39=>ck (Lb x39)else ck (Lb false)) λaI=>bif b2 then aI (Lb true)else aI (Lb (!(Hx==fN)))) λaz=>bif !(rN==fN)then az (Lb true)else az (Lb (!(Bb==fN)))
def Sb:ao:=λc n args=>
 bV args λimage kl=>gD λb0=>xD (c 324 (aZ image kl)) λx x1 x2 x3 ee x4 dC x5 gO x6 x7=>bZ b0 (Bp x x1 x2 x3 ee x4 dC x5 gO x7)
def SO:ao:=λc n args=>
 ba args λcs args=>Z6 cs λs s1 s2 s3 s4 s5 s6 s7 s8 gk=>bV args λqi ER=>gD λb0=>fB (λout kS=>bZ b0 (aZ out kS)) λaz=>kd (λaV gu eK i=>bif decide (i<(gk:Int))then Zn 1 s8 i gk λx=>iL (c 205 (Z7 gu eK s1 x)) λx1 jE=>aV (dY x1 jE (ar (i+1)))else az (aZ gu eK)) n (dY qi ER 0)
def RD:ao:=λc n args=>
 jK args λimage=>gD λb0=>LU (c 348 (Ls image)) λx x1 x2 x3 x4 x5 x6 x7 x8 ku x9 cV=>bif !cV then bZ b0 (LQ 0 0 0 none 0 none 0 none 0 x x1 x2 x3 x4 x5 x6 x7 x8 ku none 0 30)else cQ (c 211 [.t image,.a [.i x,.i x1,.i x2,.i x3,.i x4,.i x5,.i x6,.i x7,.s 1 x8 ku]]) λds=>ba ds λbM ds=>aD .i64 bM λeB r=>Zx r λfj fH gG EZ fS zg fN aau=>I7 ds λgH zi iG=>bif !iG then bZ b0 (LQ 0 0 0 none 0 none 0 none 0 x x1 x2 x3 x4 x5 x6 x7 x8 ku none 0 31)else bq (c 178 [.t image,.a [.i x,.i x1,.i x2,.i x3,.i x4,.i x5,.i x6,.i x7,.s 1 x8 ku],.s 1 gH zi]) λiH=>bif !iH then bZ b0 (LQ 0 0 0 none 0 none 0 none 0 x x1 x2 x3 x4 x5 x6 x7 x8 ku none 0 32)else uZ (c 344 [.a [.i x,.i x1,.i x2,.i x3,.i x4,.i x5,.i x6,.i x7,.s 1 x8 ku],.s 1 gH zi]) λds=>
 bV ds λjG aax=>bZ b0 [.a [.i eB,.i fj,.i fH,.s 2 gG EZ,.s 1 fS zg,.s 1 fN aau],.a [.i x,.i x1,.i x2,.i x3,.i x4,.i x5,.i x6,.i x7,.s 1 x8 ku],.s 1 jG aax,.i 0]
def SB:ao:=λc n args=>
 bV args λimage kl=>gD λb0=>xD (c 324 (aZ image kl)) λx x1 x2 x3 ee x4 dC x5 gO x6 x7=>bif !(x7==0)then bZ b0 (iw none 0 x7)else iL (c 172 (Lp x6)) λx8 ku=>bZ b0 (dY x8 ku 0)
def Se:ao:=λc n args=>
 ba args λcs args=>aD .i64 cs λx r=>Zx r λx1 x2 x3 ee x4 dC x5 gO=>cP args λblocks=>cQ (c 142 (Br x x1 x2 x3 ee x4 dC x5 gO)) λds=>bW 4 ds λx6 pJ ds=>aL ds<|DB (λf f1 f2 f3 f4=>ay (xM f f1 f2 f3 f4)) λaz=>cS (λaV st=>L7 st λf5 f6 f7 f8 f9 i=>bif decide (i<(dC:Int))then DB (λf10 f11 f12 f13 f14=>aV (BA f10 f11 f12 f13 f14 (ar (i+1)))) λaI=>aA (λlive=>bq (c 143 (dY x5 gO i)) λx7=>DB (λf15 f16 f17 f18 f19=>aI (xM f15 f16 f17 f18 f19)) λbz=>bif x7 then bz (xM f5 f6 (ar (f7+1)) f8 f9)else DB (λf20 f21 f22 f23 f24=>bz (xM f20 f21 f22 f23 f24)) λck=>bif !live then ck (xM f5 f6 f7 (ar (f8+1)) f9)else ck (xM f5 f6 f7 f8 f9)) λaW=>cS (λdw st=>gC st λPm st=>cP st λk=>bif decide (k<(pJ:Int))then aA (λb1=>dw (zH b1 (ar (k+1)))) λdp=>bif Pm then dp (Lb true)else Zn 4 x6 k pJ λx8=>
 dp (Lb (x8==i))else aW (Lb Pm)) n (zH false 0)else az (xM f5 f6 f7 f8 f9)) n (BA (pJ:Int) (ee:Int) 0 0 blocks 0)
def Tw:ao:=λc n args=>
 jK args λimage=>gD λb0=>zL (c 349 (eI image 0)) λx x1 x2 x3 x4 x5 x6 x7 x8 ku x9=>zL (c 349 (eI image 1)) λcV eB fj fH gG fS fN gH iG aav iH=>aA (λb1=>bif b1 then bZ b0 (Bq cV eB fj fH gG fS fN gH iG aav 1 true)else bZ b0 (Bq x x1 x2 x3 x4 x5 x6 x7 x8 ku 0 x9)) λaz=>bif iH then aA (λb2=>az (Lb b2)) λaI=>bif !x9 then aI (Lb true)else aI (Lb (decide (cV>x)))else az (Lb false)
def Uq:ao:=λc n args=>
 nU args λimage place=>gD λb0=>aA (λb1=>aA (λb2=>bif b2 then bZ b0 (vY 0 0 0 0 0 0 0 0 none 0 false)else aC (decide (0<=ar ((ar (64*place))+64))&&decide (ar ((ar (64*place))+64)<=(image.length:Int)))<|aC (decide (0<=ar (64*place))&&decide (ar (64*place)<=(((ar ((ar (64*place))+64)).toNat:Nat):Int)))<|cd (ZQ ((image.take ((ar ((ar (64*place))+64)).toNat)).drop ((ar (64*place)).toNat))) λi=>zL (c 350 (aZ (some (i,0)) (((image.take ((ar ((ar (64*place))+64)).toNat)).drop ((ar (64*place)).toNat)).length))) λx x1 x2 x3 x4 x5 x6 x7 x8 ku x9=>bZ b0 (Bs x x1 x2 x3 x4 x5 x6 x7 x8 ku x9)) λaI=>bif b1 then aI (Lb true)else aI (Lb (decide ((image.length:Int)<ar ((ar (64*place))+64))))) λaz=>bif decide (place<0)then az (Lb true)else az (Lb (decide (place>1)))
def Ti:ao:=λc n args=>
 bV args λb1 bX=>gD λb0=>uP (c 291 (aZ b1 bX)) λx x1 x2 x3=>aA (λb2=>aA (λb3=>bif b3 then bZ b0 (vY 0 0 0 0 0 0 0 0 none 0 false)else aC (decide ((8:Int)<=(x2.length:Int)))<|cw (c 292 (Ls (x2.take 8))) λx4=>aC (decide ((12:Int)<=(x2.length:Int)))<|cw (c 292 (Ls ((x2.take 12).drop 8))) λx5=>aC (decide ((16:Int)<=(x2.length:Int)))<|cw (c 292 (Ls ((x2.take 16).drop 12))) λx6=>aC (decide ((20:Int)<=(x2.length:Int)))<|cw (c 292 (Ls ((x2.take 20).drop 16))) λx7=>aC (decide ((24:Int)<=(x2.length:Int)))<|cw (c 292 (Ls ((x2.take 24).drop 20))) λx8=>aC (decide ((28:Int)<=(x2.length:Int)))<|cw (c 292 (Ls ((x2.take 28).drop 24))) λx9=>aC (decide ((30:Int)<=(x2.length:Int)))<|cw (c 292 (Ls ((x2.take 30).drop 28))) λcV=>aC (decide ((32:Int)<=(x2.length:Int)))<|cw (c 292 (Ls ((x2.take 32).drop 30))) λeB=>HW (λs s1 s2 s3 s4 s5 s6 s7 s8 gk=>bq (c 195 (ZV s s1 s2 s3 s4 s5 s6 s7 s8 gk)) λfj=>aA (λb4=>
 bif b4 then bZ b0 (vY 0 0 0 0 0 0 0 0 none 0 false)else bZ b0 (Bs s s1 s2 s3 s4 s5 s6 s7 s8 gk true)) λbz=>bif !fj then bz (Lb true)else jw (c 191 (ZV s s1 s2 s3 s4 s5 s6 s7 s8 gk)) λfH=>dy b1 bX λbM=>ke bM λl=>bz (Lb (!(fH==l)))) λaW=>cS (λaV st=>LS st λs9 CX Hn Ho Hp Hq Hr AY Hs AZ i=>bif decide (i<x1)then aC (decide (0<=ar (34+(ar (2*i))))&&decide (ar (34+(ar (2*i)))<=(x2.length:Int)))<|aC (decide (0<=ar (32+(ar (2*i))))&&decide (ar (32+(ar (2*i)))<=(((ar (34+(ar (2*i)))).toNat:Nat):Int)))<|lY (c 292 (Ls ((x2.take ((ar (34+(ar (2*i)))).toNat)).drop ((ar (32+(ar (2*i)))).toNat)))) λgG=>cd (Li gG) λi1=>bS i1 0 1 λfC=>cm 1 Hs AZ fC 1 8796093022208 λp=>
 aV (HY s9 CX Hn Ho Hp Hq Hr AY p (AZ+1) (ar (i+1)))else aW (ZV s9 CX Hn Ho Hp Hq Hr AY Hs AZ)) n [.a [.i x4,.i x5,.i x6,.i x7,.i cV,.i x8,.i x9,.i eB,.s 0 none 0],.i 0]) λaI=>bif b2 then aI (Lb true)else aI (Lb (decide (x1>8)))) λaz=>bif !x3 then az (Lb true)else az (Lb (!(x==7)))
end
class HA (Bd:outParam Zh):Prop where
 WG:Bd 12=RG
 e15:Bd 15=Sc
 e19:Bd 19=Rm
 e26:Bd 26=SU
 e27:Bd 27=RW
 e28:Bd 28=Uw
 e29:Bd 29=Ug
 e34:Bd 34=Sr
 e39:Bd 39=Ra
 e40:Bd 40=QR
 e54:Bd 54=Zl8
 e57:Bd 57=Qk
 e64:Bd 64=QE
 e72:Bd 72=QX
 e86:Bd 86=HS
 aek:Bd 113=Mi
 ael:Bd 133=S7
 aem:Bd 136=SL
 aen:Bd 141=Sf
 aeo:Bd 142=Ro
 aep:Bd 143=TJ
 aeq:Bd 144=Si
 aer:Bd 145=H5
 aes:Bd 147=Qm
 aet:Bd 155=RB
 aeu:Bd 156=Qj
 aev:Bd 170=Sm
 aew:Bd 171=Mc
 aex:Bd 172=Rn
 aey:Bd 173=Rh
 abb:Bd 177=UD
 aez:Bd 178=QM
 aeA:Bd 179=SZ
 aeB:Bd 183=Q3
 aeC:Bd 184=Q8
 aeD:Bd 189=Qr
 aeE:Bd 190=QA
 aeF:Bd 191=Tn
 aeG:Bd 192=SF
 aeH:Bd 193=Ts
 aeI:Bd 194=Qu
 aeJ:Bd 195=RT
 aeK:Bd 196=Rv
 aeL:Bd 197=RV
 aeM:Bd 200=To
 aeN:Bd 201=QO
 aeO:Bd 202=QT
 aeP:Bd 203=TM
 aeQ:Bd 204=Tp
 aeR:Bd 205=TQ
 aeS:Bd 206=Q5
 aeT:Bd 208=SP
 aeU:Bd 209=Rj
 aeV:Bd 210=QG
 aeW:Bd 211=RE
 aeX:Bd 213=Tf
 aeY:Bd 214=SN
 aeZ:Bd 215=TL
 ae0:Bd 216=TU
 ae1:Bd 217=QJ
 ae2:Bd 218=TW
 ae3:Bd 219=Sx
 ae4:Bd 220=Tu
 ae5:Bd 221=QS
 ae6:Bd 222=Ql
 ae7:Bd 223=RN
 ae8:Bd 225=TS
 ae9:Bd 226=QB
 afa:Bd 227=Sg
 afb:Bd 228=QH
 afc:Bd 229=QF
 afd:Bd 230=QI
 afe:Bd 231=Qp
 aff:Bd 232=II
 afg:Bd 233=QC
 afh:Bd 234=Qw
 afi:Bd 236=Qo
 afj:Bd 237=SA
 afk:Bd 238=Rq
 afl:Bd 239=SM
 afm:Bd 240=ZlN
 afn:Bd 241=QU
 afo:Bd 242=Tt
 afp:Bd 243=RQ
 afq:Bd 244=SJ
 afr:Bd 245=SI
 afs:Bd 246=Rf
 aft:Bd 247=Rt
 afu:Bd 248=Sq
 afv:Bd 249=Sw
 afw:Bd 250=TK
 afx:Bd 251=RY
 afy:Bd 252=SK
 afz:Bd 253=Uv
 afA:Bd 254=Qq
 afB:Bd 255=Sv
 afC:Bd 256=Sz
 afD:Bd 259=RX
 afE:Bd 260=RO
 afF:Bd 261=Sj
 afG:Bd 262=TO
 afH:Bd 263=Qn
 afI:Bd 264=RM
 afJ:Bd 265=RK
 afK:Bd 266=Ri
 afL:Bd 267=TA
 afM:Bd 268=SX
 afN:Bd 269=Re
 afO:Bd 270=Tq
 afP:Bd 271=Tx
 afQ:Bd 272=TE
 afR:Bd 273=Ry
 afS:Bd 274=RC
 afT:Bd 275=Q2
 afU:Bd 276=Rs
 abd:Bd 285=Mh
 afV:Bd 286=TB
 afW:Bd 287=T0
 afX:Bd 288=SY
 afY:Bd 289=Tl
 afZ:Bd 290=SD
 af0:Bd 291=SQ
 af1:Bd 292=Th
 af2:Bd 293=RU
 af3:Bd 294=SE
 af4:Bd 295=RS
 af5:Bd 296=SG
 af6:Bd 297=QZ
 af7:Bd 298=QK
 af8:Bd 299=Qv
 af9:Bd 300=QY
 aga:Bd 306=UA
 agb:Bd 307=R9
 agc:Bd 308=Rx
 agd:Bd 309=QL
 age:Bd 310=Rl
 agf:Bd 311=Tm
 agh:Bd 312=Te
 agi:Bd 313=Rk
 agj:Bd 314=Sk
 agk:Bd 315=Qx
 agl:Bd 317=TR
 agm:Bd 318=RA
 agn:Bd 319=R8
 ago:Bd 320=Uo
 agp:Bd 322=Sd
 abe:Bd 323=RH
 agq:Bd 324=Sn
 agr:Bd 325=TX
 ags:Bd 326=S6
 agt:Bd 327=TN
 agu:Bd 328=RI
 agv:Bd 329=Tz
 agw:Bd 330=Tc
 agx:Bd 331=TY
 agy:Bd 332=Q9
 agz:Bd 333=QD
 agA:Bd 334=Qy
 agB:Bd 335=Qz
 agC:Bd 336=Qs
 agD:Bd 337=T1
 agE:Bd 338=QW
 agF:Bd 339=Rg
 agG:Bd 341=Sb
 agH:Bd 344=SO
 agI:Bd 345=RD
 agJ:Bd 346=SB
 agK:Bd 347=Se
 agL:Bd 348=Tw
 agM:Bd 349=Uq
 agN:Bd 350=Ti
 ai8:QN Bd
 ai9:Ft Bd
 akO:HT Bd
 akP:Mj Bd
 akQ:LW Bd
end Go.Gv
