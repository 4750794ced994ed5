/- Functions of the program, as the machine runs them: written by gvseat.py. -/
import Derived.Test.YtegglibipjjblaaGreatDoorGvBMc
set_option linter.all false
namespace Go.Gv
set_option maxRecDepth 10000
set_option maxHeartbeats 4000000
noncomputable section
def Q5:ao:=λc n args=>
 bV args λb1 bX=>bq (c 322 []) λx=>aA (λb2=>bif b2 then bq (c 322 []) λx1=>ay (Lb x1)else dy b1 bX λcs=>ke cs λl=>bq (c 339 (aZ b1 bX)) λx2=>aA (λb3=>ay (Lb b3)) λaI=>bif x2 then dy b1 bX λbM=>ke bM λl1=>aI (Lb (l1==l))else aI (Lb false)) λaz=>bif !x then az (Lb true)else az (Lb (decide ((bX:Int)>8000)))
def Q9:ao:=λc n args=>
 bV args λb1 bX=>dy b1 bX λcs=>ke cs λl=>cQ (c 345 (Ls l)) λds=>ba ds λbM ds=>aD .i64 bM λx r=>Zx r λx1 x2 x3 ee x4 dC x5 gO=>Zhf ds λx6 x7 x8 x9 cV eB fj fH gG EZ fS zg fN=>Ij (c 323 (aZ b1 bX)) λgH iG iH jG nP rN=>cQ (c 341 (aZ b1 bX)) λds=>ba ds λkF ds=>aD .i64 kF λzj r=>Zx r λzl zm zn Hw C1 PQ Ba ac4=>cP ds λBb=>cQ (c 346 (aZ b1 bX)) λds=>oa ds λC2 C3 Hx=>aA (λb2=>aA (λb3=>bif b3 then ay (Lb false)else bif !(fN==0)then aA (λb4=>aA (λb5=>ay (Lb b5)) λbz=>bif b4 then bz (Lb ((C3:Int)==0))else bz (Lb false)) λaW=>bif (gH==0)&&((iG==0)&&((iH==0)&&((jG==0)&&((nP==0)&&true))))then bq (c 136 [.a [.i zj,.i zl,.i zm,.s 2 zn Hw,.s 1 C1 PQ,.s 1 Ba ac4],.a [.i 0,.i 0,.i 0,.s 0 none 0,.s 0 none 0,.s 0 none 0]]) λBc=>
 aW (Lb Bc)else aW (Lb false)else uZ (c 347 (Bq x x1 x2 x3 ee x4 dC x5 gO (zg:Int))) λds=>ba ds λnr ds=>ZsT nr λC4 Hy PR PS PT=>aL ds<|aA (λb6=>aA (λb7=>ay (Lb b7)) λdp=>bif b6 then bq (c 113 (wg C2 C3 fS zg)) λPU=>dp (Lb PU)else dp (Lb false)) λck=>bif (gH==C4)&&((iG==Hy)&&((iH==PR)&&((jG==PS)&&((nP==PT)&&true))))then bq (c 136 [.a [.i zj,.i zl,.i zm,.s 2 zn Hw,.s 1 C1 PQ,.s 1 Ba ac4],.a [.i x,.i x1,.i x2,.s 2 x3 ee,.s 1 x4 dC,.s 1 x5 gO]]) λx39=>ck (Lb x39)else ck (Lb false)) λaI=>bif b2 then aI (Lb true)else aI (Lb (!(Hx==fN)))) λaz=>bif !(rN==fN)then az (Lb true)else az (Lb (!(Bb==fN)))
def RY:ao:=λc n args=>
 bV args λimage kl=>gD λb0=>xD (c 324 (aZ image kl)) λx x1 x2 x3 ee x4 dC x5 gO x6 x7=>bZ b0 (Bq x x1 x2 x3 ee x4 dC x5 gO x7)
def SR:ao:=λc n args=>
 ba args λcs args=>Z6 cs λs s1 s2 s3 s4 s5 s6 s7 s8 gk=>bV args λqi ER=>gD λb0=>fB (λout kS=>bZ b0 (aZ out kS)) λaz=>kd (λaV gu eK i=>bif decide (i<(gk:Int))then Zn 1 s8 i gk λx=>iL (c 205 (Z7 gu eK s1 x)) λx1 jE=>aV (dY x1 jE (ar (i+1)))else az (aZ gu eK)) n (dY qi ER 0)
def RW:ao:=λc n args=>
 jK args λimage=>gD λb0=>LR (c 348 (Ls image)) λx x1 x2 x3 x4 x5 x6 x7 x8 ku x9 cV=>bif !cV then bZ b0 (LQ 0 0 0 none 0 none 0 none 0 x x1 x2 x3 x4 x5 x6 x7 x8 ku none 0 30)else cQ (c 211 [.t image,.a [.i x,.i x1,.i x2,.i x3,.i x4,.i x5,.i x6,.i x7,.s 1 x8 ku]]) λds=>ba ds λbM ds=>aD .i64 bM λeB r=>Zx r λfj fH gG EZ fS zg fN aat=>I8 ds λgH zi iG=>bif !iG then bZ b0 (LQ 0 0 0 none 0 none 0 none 0 x x1 x2 x3 x4 x5 x6 x7 x8 ku none 0 31)else bq (c 178 [.t image,.a [.i x,.i x1,.i x2,.i x3,.i x4,.i x5,.i x6,.i x7,.s 1 x8 ku],.s 1 gH zi]) λiH=>bif !iH then bZ b0 (LQ 0 0 0 none 0 none 0 none 0 x x1 x2 x3 x4 x5 x6 x7 x8 ku none 0 32)else uZ (c 344 [.a [.i x,.i x1,.i x2,.i x3,.i x4,.i x5,.i x6,.i x7,.s 1 x8 ku],.s 1 gH zi]) λds=>
 bV ds λjG aaw=>bZ b0 [.a [.i eB,.i fj,.i fH,.s 2 gG EZ,.s 1 fS zg,.s 1 fN aat],.a [.i x,.i x1,.i x2,.i x3,.i x4,.i x5,.i x6,.i x7,.s 1 x8 ku],.s 1 jG aaw,.i 0]
def SJ:ao:=λc n args=>
 bV args λimage kl=>gD λb0=>xD (c 324 (aZ image kl)) λx x1 x2 x3 ee x4 dC x5 gO x6 x7=>bif !(x7==0)then bZ b0 (iw none 0 x7)else iL (c 172 (Lp x6)) λx8 ku=>bZ b0 (dY x8 ku 0)
def Sb:ao:=λc n args=>
 ba args λcs args=>aD .i64 cs λx r=>Zx r λx1 x2 x3 ee x4 dC x5 gO=>cP args λblocks=>cQ (c 142 (Br x x1 x2 x3 ee x4 dC x5 gO)) λds=>bW 4 ds λx6 pJ ds=>aL ds<|Dx (λf f1 f2 f3 f4=>ay (xM f f1 f2 f3 f4)) λaz=>cS (λaV st=>Ma st λf5 f6 f7 f8 f9 i=>bif decide (i<(dC:Int))then Dx (λf10 f11 f12 f13 f14=>aV (Bz f10 f11 f12 f13 f14 (ar (i+1)))) λaI=>aA (λlive=>bq (c 143 (dY x5 gO i)) λx7=>Dx (λf15 f16 f17 f18 f19=>aI (xM f15 f16 f17 f18 f19)) λbz=>bif x7 then bz (xM f5 f6 (ar (f7+1)) f8 f9)else Dx (λf20 f21 f22 f23 f24=>bz (xM f20 f21 f22 f23 f24)) λck=>bif !live then ck (xM f5 f6 f7 (ar (f8+1)) f9)else ck (xM f5 f6 f7 f8 f9)) λaW=>cS (λdw st=>gC st λPm st=>cP st λk=>bif decide (k<(pJ:Int))then aA (λb1=>dw (zH b1 (ar (k+1)))) λdp=>bif Pm then dp (Lb true)else Zn 4 x6 k pJ λx8=>
 dp (Lb (x8==i))else aW (Lb Pm)) n (zH false 0)else az (xM f5 f6 f7 f8 f9)) n (Bz (pJ:Int) (ee:Int) 0 0 blocks 0)
def SY:ao:=λc n args=>
 jK args λimage=>gD λb0=>zL (c 349 (eI image 0)) λx x1 x2 x3 x4 x5 x6 x7 x8 ku x9=>zL (c 349 (eI image 1)) λcV eB fj fH gG fS fN gH iG aau iH=>aA (λb1=>bif b1 then bZ b0 (Bp cV eB fj fH gG fS fN gH iG aau 1 true)else bZ b0 (Bp x x1 x2 x3 x4 x5 x6 x7 x8 ku 0 x9)) λaz=>bif iH then aA (λb2=>az (Lb b2)) λaI=>bif !x9 then aI (Lb true)else aI (Lb (decide (cV>x)))else az (Lb false)
def Uq:ao:=λc n args=>
 nU args λimage place=>gD λb0=>aA (λb1=>aA (λb2=>bif b2 then bZ b0 (vZ 0 0 0 0 0 0 0 0 none 0 false)else aC (decide (0<=ar ((ar (64*place))+64))&&decide (ar ((ar (64*place))+64)<=(image.length:Int)))<|aC (decide (0<=ar (64*place))&&decide (ar (64*place)<=(((ar ((ar (64*place))+64)).toNat:Nat):Int)))<|cd (ZQ ((image.take ((ar ((ar (64*place))+64)).toNat)).drop ((ar (64*place)).toNat))) λi=>zL (c 350 (aZ (some (i,0)) (((image.take ((ar ((ar (64*place))+64)).toNat)).drop ((ar (64*place)).toNat)).length))) λx x1 x2 x3 x4 x5 x6 x7 x8 ku x9=>bZ b0 (Bs x x1 x2 x3 x4 x5 x6 x7 x8 ku x9)) λaI=>bif b1 then aI (Lb true)else aI (Lb (decide ((image.length:Int)<ar ((ar (64*place))+64))))) λaz=>bif decide (place<0)then az (Lb true)else az (Lb (decide (place>1)))
def TQ:ao:=λc n args=>
 bV args λb1 bX=>gD λb0=>uW (c 291 (aZ b1 bX)) λx x1 x2 x3=>aA (λb2=>aA (λb3=>bif b3 then bZ b0 (vZ 0 0 0 0 0 0 0 0 none 0 false)else aC (decide ((8:Int)<=(x2.length:Int)))<|cw (c 292 (Ls (x2.take 8))) λx4=>aC (decide ((12:Int)<=(x2.length:Int)))<|cw (c 292 (Ls ((x2.take 12).drop 8))) λx5=>aC (decide ((16:Int)<=(x2.length:Int)))<|cw (c 292 (Ls ((x2.take 16).drop 12))) λx6=>aC (decide ((20:Int)<=(x2.length:Int)))<|cw (c 292 (Ls ((x2.take 20).drop 16))) λx7=>aC (decide ((24:Int)<=(x2.length:Int)))<|cw (c 292 (Ls ((x2.take 24).drop 20))) λx8=>aC (decide ((28:Int)<=(x2.length:Int)))<|cw (c 292 (Ls ((x2.take 28).drop 24))) λx9=>aC (decide ((30:Int)<=(x2.length:Int)))<|cw (c 292 (Ls ((x2.take 30).drop 28))) λcV=>aC (decide ((32:Int)<=(x2.length:Int)))<|cw (c 292 (Ls ((x2.take 32).drop 30))) λeB=>HW (λs s1 s2 s3 s4 s5 s6 s7 s8 gk=>bq (c 195 (ZZ s s1 s2 s3 s4 s5 s6 s7 s8 gk)) λfj=>aA (λb4=>
 bif b4 then bZ b0 (vZ 0 0 0 0 0 0 0 0 none 0 false)else bZ b0 (Bs s s1 s2 s3 s4 s5 s6 s7 s8 gk true)) λbz=>bif !fj then bz (Lb true)else jw (c 191 (ZZ s s1 s2 s3 s4 s5 s6 s7 s8 gk)) λfH=>dy b1 bX λbM=>ke bM λl=>bz (Lb (!(fH==l)))) λaW=>cS (λaV st=>LS st λs9 CX Hn Ho Hp Hq Hr AY Hs AZ i=>bif decide (i<x1)then aC (decide (0<=ar (34+(ar (2*i))))&&decide (ar (34+(ar (2*i)))<=(x2.length:Int)))<|aC (decide (0<=ar (32+(ar (2*i))))&&decide (ar (32+(ar (2*i)))<=(((ar (34+(ar (2*i)))).toNat:Nat):Int)))<|lY (c 292 (Ls ((x2.take ((ar (34+(ar (2*i)))).toNat)).drop ((ar (32+(ar (2*i)))).toNat)))) λgG=>cd (Li gG) λi1=>bS i1 0 1 λfC=>cm 1 Hs AZ fC 1 8796093022208 λp=>
 aV (HX s9 CX Hn Ho Hp Hq Hr AY p (AZ+1) (ar (i+1)))else aW (ZZ s9 CX Hn Ho Hp Hq Hr AY Hs AZ)) n [.a [.i x4,.i x5,.i x6,.i x7,.i cV,.i x8,.i x9,.i eB,.s 0 none 0],.i 0]) λaI=>bif b2 then aI (Lb true)else aI (Lb (decide (x1>8)))) λaz=>bif !x3 then az (Lb true)else az (Lb (!(x==7)))
end
class HA (Bd:outParam Zh):Prop where
 WE:Bd 12=Sn
 e15:Bd 15=R8
 e19:Bd 19=QU
 e26:Bd 26=SU
 e27:Bd 27=RO
 e28:Bd 28=UT
 e29:Bd 29=T8
 e34:Bd 34=SI
 e39:Bd 39=Rc
 e40:Bd 40=Rp
 e54:Bd 54=ZmP
 e57:Bd 57=Qj
 e64:Bd 64=Qx
 e72:Bd 72=Q4
 e86:Bd 86=HS
 aej:Bd 113=LZ
 aek:Bd 133=Tn
 ael:Bd 136=Zip
 aem:Bd 141=Sg
 aen:Bd 142=QM
 aeo:Bd 143=TL
 aep:Bd 144=Sa
 aeq:Bd 145=H8
 aer:Bd 147=Qm
 aes:Bd 155=RG
 aet:Bd 156=Qk
 aeu:Bd 170=RI
 aev:Bd 171=Me
 aew:Bd 172=QP
 aex:Bd 173=Q6
 aba:Bd 177=T2
 aey:Bd 178=Rq
 aez:Bd 179=SG
 aeA:Bd 183=Q2
 aeB:Bd 184=Rx
 aeC:Bd 189=Qu
 aeD:Bd 190=QE
 aeE:Bd 191=Ti
 aeF:Bd 192=SL
 aeG:Bd 193=Tc
 aeH:Bd 194=Qt
 aeI:Bd 195=RP
 aeJ:Bd 196=Q7
 aeK:Bd 197=Se
 aeL:Bd 200=TO
 aeM:Bd 201=QR
 aeN:Bd 202=QT
 aeO:Bd 203=Ts
 aeP:Bd 204=TU
 aeQ:Bd 205=S8
 aeR:Bd 206=Rt
 aeS:Bd 208=Tw
 aeT:Bd 209=Rn
 aeU:Bd 210=QG
 aeV:Bd 211=RR
 aeW:Bd 213=TS
 aeX:Bd 214=SD
 aeY:Bd 215=TN
 aeZ:Bd 216=Tj
 ae0:Bd 217=QF
 ae1:Bd 218=TZ
 ae2:Bd 219=Tx
 ae3:Bd 220=SP
 ae4:Bd 221=Rs
 ae5:Bd 222=Ql
 ae6:Bd 223=RZ
 ae7:Bd 225=Tq
 ae8:Bd 226=QB
 ae9:Bd 227=Sc
 afa:Bd 228=Qw
 afb:Bd 229=QH
 afc:Bd 230=Qv
 afd:Bd 231=Qp
 afe:Bd 232=ID
 aff:Bd 233=Qy
 afg:Bd 234=QI
 afh:Bd 236=Qn
 afi:Bd 237=Sr
 afj:Bd 238=QS
 afk:Bd 239=SO
 afl:Bd 240=ZlL
 afm:Bd 241=QZ
 afn:Bd 242=TT
 afo:Bd 243=Sp
 afp:Bd 244=SF
 afq:Bd 245=SX
 afr:Bd 246=Rm
 afs:Bd 247=Rf
 aft:Bd 248=R9
 afu:Bd 249=SE
 afv:Bd 250=Te
 afw:Bd 251=RV
 afx:Bd 252=Sv
 afy:Bd 253=UQ
 afz:Bd 254=Qq
 afA:Bd 255=Sz
 afB:Bd 256=SK
 afC:Bd 259=RS
 afD:Bd 260=Sq
 afE:Bd 261=Si
 afF:Bd 262=Tp
 afG:Bd 263=Qo
 afH:Bd 264=Sm
 afI:Bd 265=RC
 afJ:Bd 266=Q8
 afK:Bd 267=SS
 afL:Bd 268=SN
 afM:Bd 269=Rl
 afN:Bd 270=Tm
 afO:Bd 271=Tz
 afP:Bd 272=Ue
 afQ:Bd 273=Ra
 afR:Bd 274=RH
 afS:Bd 275=QX
 afT:Bd 276=Ry
 abc:Bd 285=Mi
 afU:Bd 286=TC
 afV:Bd 287=SZ
 afW:Bd 288=Tu
 afX:Bd 289=TV
 afY:Bd 290=SB
 afZ:Bd 291=SH
 af0:Bd 292=Ta
 af1:Bd 293=RT
 af2:Bd 294=Sx
 af3:Bd 295=Sf
 af4:Bd 296=SC
 af5:Bd 297=Q3
 af6:Bd 298=QN
 af7:Bd 299=QJ
 af8:Bd 300=QY
 af9:Bd 306=UP
 aga:Bd 307=RM
 agb:Bd 308=Rg
 agc:Bd 309=QL
 agd:Bd 310=RA
 age:Bd 311=S9
 agf:Bd 312=Th
 agh:Bd 313=Ri
 agi:Bd 314=RQ
 agj:Bd 315=QC
 agk:Bd 317=T1
 agl:Bd 318=Rk
 agm:Bd 319=Sj
 agn:Bd 320=TA
 ago:Bd 322=RB
 abd:Bd 323=RK
 agp:Bd 324=RN
 agq:Bd 325=TR
 agr:Bd 326=T0
 ags:Bd 327=Tl
 agt:Bd 328=RX
 agu:Bd 329=Ss
 agv:Bd 330=S6
 agw:Bd 331=TX
 agx:Bd 332=Rh
 agy:Bd 333=Qz
 agz:Bd 334=QA
 agA:Bd 335=QD
 agB:Bd 336=Qs
 agC:Bd 337=Tk
 agD:Bd 338=Q5
 agE:Bd 339=Q9
 agF:Bd 341=RY
 agG:Bd 344=SR
 agH:Bd 345=RW
 agI:Bd 346=SJ
 agJ:Bd 347=Sb
 agK:Bd 348=SY
 agL:Bd 349=Uq
 agM:Bd 350=TQ
 ai7:Ro Bd
 ai8:Ft Bd
 akN:HT Bd
 akO:Mg Bd
 akP:LW Bd
end Go.Gv
