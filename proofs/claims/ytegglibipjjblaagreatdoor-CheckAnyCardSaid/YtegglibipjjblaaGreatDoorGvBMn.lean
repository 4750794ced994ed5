/- Functions of the program, as the machine runs them: written by gvseat.py. -/
import Derived.Test.YtegglibipjjblaaGreatDoorGvBMc
set_option linter.all false
namespace Go.Gv
set_option maxRecDepth 10000
set_option maxHeartbeats 4000000
noncomputable section
def QU:ao:=λc n args=>
 bV args λb1 bX=>bq (c 322 []) λx=>aA (λb2=>bif b2 then bq (c 322 []) λx1=>ay (Lb x1)else dy b1 bX λcs=>ke cs λl=>bq (c 339 (aZ b1 bX)) λx2=>aA (λb3=>ay (Lb b3)) λaI=>bif x2 then dy b1 bX λbM=>ke bM λl1=>aI (Lb (l1==l))else aI (Lb false)) λaz=>bif !x then az (Lb true)else az (Lb (decide ((bX:Int)>8000)))
def Rc:ao:=λc n args=>
 bV args λb1 bX=>dy b1 bX λcs=>ke cs λl=>cQ (c 345 (Ls l)) λds=>ba ds λbM ds=>aD .i64 bM λx r=>Zx r λx1 x2 x3 ee x4 dC x5 gO=>Zhb ds λx6 x7 x8 x9 cV eB fj fH gG EZ fS zg fN=>Io (c 323 (aZ b1 bX)) λgH iG iH jG nP rN=>cQ (c 341 (aZ b1 bX)) λds=>ba ds λkF ds=>aD .i64 kF λzj r=>Zx r λzl zm zn Hw C1 PQ Ba ac4=>cP ds λBb=>cQ (c 346 (aZ b1 bX)) λds=>od ds λC2 C3 Hx=>aA (λb2=>aA (λb3=>bif b3 then ay (Lb false)else bif !(fN==0)then aA (λb4=>aA (λb5=>ay (Lb b5)) λbz=>bif b4 then bz (Lb ((C3:Int)==0))else bz (Lb false)) λaW=>bif (gH==0)&&((iG==0)&&((iH==0)&&((jG==0)&&((nP==0)&&true))))then bq (c 136 [.a [.i zj,.i zl,.i zm,.s 2 zn Hw,.s 1 C1 PQ,.s 1 Ba ac4],.a [.i 0,.i 0,.i 0,.s 0 none 0,.s 0 none 0,.s 0 none 0]]) λBc=>
 aW (Lb Bc)else aW (Lb false)else uZ (c 347 (Bq x x1 x2 x3 ee x4 dC x5 gO (zg:Int))) λds=>ba ds λnr ds=>ZsG nr λC4 Hy PR PS PT=>aL ds<|aA (λb6=>aA (λb7=>ay (Lb b7)) λdp=>bif b6 then bq (c 113 (wc C2 C3 fS zg)) λPU=>dp (Lb PU)else dp (Lb false)) λck=>bif (gH==C4)&&((iG==Hy)&&((iH==PR)&&((jG==PS)&&((nP==PT)&&true))))then bq (c 136 [.a [.i zj,.i zl,.i zm,.s 2 zn Hw,.s 1 C1 PQ,.s 1 Ba ac4],.a [.i x,.i x1,.i x2,.s 2 x3 ee,.s 1 x4 dC,.s 1 x5 gO]]) λx39=>ck (Lb x39)else ck (Lb false)) λaI=>bif b2 then aI (Lb true)else aI (Lb (!(Hx==fN)))) λaz=>bif !(rN==fN)then az (Lb true)else az (Lb (!(Bb==fN)))
def RP:ao:=λc n args=>
 bV args λimage kl=>gD λb0=>xD (c 324 (aZ image kl)) λx x1 x2 x3 ee x4 dC x5 gO x6 x7=>bZ b0 (Bq x x1 x2 x3 ee x4 dC x5 gO x7)
def SA:ao:=λc n args=>
 ba args λcs args=>Z6 cs λs s1 s2 s3 s4 s5 s6 s7 s8 gk=>bV args λqi ER=>gD λb0=>fB (λout kS=>bZ b0 (aZ out kS)) λaz=>kd (λaV gu eK i=>bif decide (i<(gk:Int))then Zn 1 s8 i gk λx=>iL (c 205 (Z7 gu eK s1 x)) λx1 jE=>aV (dY x1 jE (ar (i+1)))else az (aZ gu eK)) n (dY qi ER 0)
def RR:ao:=λc n args=>
 jK args λimage=>gD λb0=>LR (c 348 (Ls image)) λx x1 x2 x3 x4 x5 x6 x7 x8 ku x9 cV=>bif !cV then bZ b0 (LQ 0 0 0 none 0 none 0 none 0 x x1 x2 x3 x4 x5 x6 x7 x8 ku none 0 30)else cQ (c 211 [.t image,.a [.i x,.i x1,.i x2,.i x3,.i x4,.i x5,.i x6,.i x7,.s 1 x8 ku]]) λds=>ba ds λbM ds=>aD .i64 bM λeB r=>Zx r λfj fH gG EZ fS zg fN aat=>Ja ds λgH zi iG=>bif !iG then bZ b0 (LQ 0 0 0 none 0 none 0 none 0 x x1 x2 x3 x4 x5 x6 x7 x8 ku none 0 31)else bq (c 178 [.t image,.a [.i x,.i x1,.i x2,.i x3,.i x4,.i x5,.i x6,.i x7,.s 1 x8 ku],.s 1 gH zi]) λiH=>bif !iH then bZ b0 (LQ 0 0 0 none 0 none 0 none 0 x x1 x2 x3 x4 x5 x6 x7 x8 ku none 0 32)else uZ (c 344 [.a [.i x,.i x1,.i x2,.i x3,.i x4,.i x5,.i x6,.i x7,.s 1 x8 ku],.s 1 gH zi]) λds=>
 bV ds λjG aaw=>bZ b0 [.a [.i eB,.i fj,.i fH,.s 2 gG EZ,.s 1 fS zg,.s 1 fN aat],.a [.i x,.i x1,.i x2,.i x3,.i x4,.i x5,.i x6,.i x7,.s 1 x8 ku],.s 1 jG aaw,.i 0]
def SS:ao:=λc n args=>
 bV args λimage kl=>gD λb0=>xD (c 324 (aZ image kl)) λx x1 x2 x3 ee x4 dC x5 gO x6 x7=>bif !(x7==0)then bZ b0 (iw none 0 x7)else iL (c 172 (Lp x6)) λx8 ku=>bZ b0 (dY x8 ku 0)
def RI:ao:=λc n args=>
 ba args λcs args=>aD .i64 cs λx r=>Zx r λx1 x2 x3 ee x4 dC x5 gO=>cP args λblocks=>cQ (c 142 (Br x x1 x2 x3 ee x4 dC x5 gO)) λds=>bW 4 ds λx6 pJ ds=>aL ds<|DB (λf f1 f2 f3 f4=>ay (xN f f1 f2 f3 f4)) λaz=>cS (λaV st=>Mb st λf5 f6 f7 f8 f9 i=>bif decide (i<(dC:Int))then DB (λf10 f11 f12 f13 f14=>aV (BA f10 f11 f12 f13 f14 (ar (i+1)))) λaI=>aA (λlive=>bq (c 143 (dY x5 gO i)) λx7=>DB (λf15 f16 f17 f18 f19=>aI (xN f15 f16 f17 f18 f19)) λbz=>bif x7 then bz (xN f5 f6 (ar (f7+1)) f8 f9)else DB (λf20 f21 f22 f23 f24=>bz (xN f20 f21 f22 f23 f24)) λck=>bif !live then ck (xN f5 f6 f7 (ar (f8+1)) f9)else ck (xN f5 f6 f7 f8 f9)) λaW=>cS (λdw st=>gC st λPm st=>cP st λk=>bif decide (k<(pJ:Int))then aA (λb1=>dw (zH b1 (ar (k+1)))) λdp=>bif Pm then dp (Lb true)else Zn 4 x6 k pJ λx8=>
 dp (Lb (x8==i))else aW (Lb Pm)) n (zH false 0)else az (xN f5 f6 f7 f8 f9)) n (BA (pJ:Int) (ee:Int) 0 0 blocks 0)
def SH:ao:=λc n args=>
 jK args λimage=>gD λb0=>zL (c 349 (eI image 0)) λx x1 x2 x3 x4 x5 x6 x7 x8 ku x9=>zL (c 349 (eI image 1)) λcV eB fj fH gG fS fN gH iG aau iH=>aA (λb1=>bif b1 then bZ b0 (Bp cV eB fj fH gG fS fN gH iG aau 1 true)else bZ b0 (Bp x x1 x2 x3 x4 x5 x6 x7 x8 ku 0 x9)) λaz=>bif iH then aA (λb2=>az (Lb b2)) λaI=>bif !x9 then aI (Lb true)else aI (Lb (decide (cV>x)))else az (Lb false)
def TH:ao:=λc n args=>
 nU args λimage place=>gD λb0=>aA (λb1=>aA (λb2=>bif b2 then bZ b0 (vZ 0 0 0 0 0 0 0 0 none 0 false)else aC (decide (0<=ar ((ar (64*place))+64))&&decide (ar ((ar (64*place))+64)<=(image.length:Int)))<|aC (decide (0<=ar (64*place))&&decide (ar (64*place)<=(((ar ((ar (64*place))+64)).toNat:Nat):Int)))<|cd (ZQ ((image.take ((ar ((ar (64*place))+64)).toNat)).drop ((ar (64*place)).toNat))) λi=>zL (c 350 (aZ (some (i,0)) (((image.take ((ar ((ar (64*place))+64)).toNat)).drop ((ar (64*place)).toNat)).length))) λx x1 x2 x3 x4 x5 x6 x7 x8 ku x9=>bZ b0 (Bs x x1 x2 x3 x4 x5 x6 x7 x8 ku x9)) λaI=>bif b1 then aI (Lb true)else aI (Lb (decide ((image.length:Int)<ar ((ar (64*place))+64))))) λaz=>bif decide (place<0)then az (Lb true)else az (Lb (decide (place>1)))
def SZ:ao:=λc n args=>
 bV args λb1 bX=>gD λb0=>uQ (c 291 (aZ b1 bX)) λx x1 x2 x3=>aA (λb2=>aA (λb3=>bif b3 then bZ b0 (vZ 0 0 0 0 0 0 0 0 none 0 false)else aC (decide ((8:Int)<=(x2.length:Int)))<|cw (c 292 (Ls (x2.take 8))) λx4=>aC (decide ((12:Int)<=(x2.length:Int)))<|cw (c 292 (Ls ((x2.take 12).drop 8))) λx5=>aC (decide ((16:Int)<=(x2.length:Int)))<|cw (c 292 (Ls ((x2.take 16).drop 12))) λx6=>aC (decide ((20:Int)<=(x2.length:Int)))<|cw (c 292 (Ls ((x2.take 20).drop 16))) λx7=>aC (decide ((24:Int)<=(x2.length:Int)))<|cw (c 292 (Ls ((x2.take 24).drop 20))) λx8=>aC (decide ((28:Int)<=(x2.length:Int)))<|cw (c 292 (Ls ((x2.take 28).drop 24))) λx9=>aC (decide ((30:Int)<=(x2.length:Int)))<|cw (c 292 (Ls ((x2.take 30).drop 28))) λcV=>aC (decide ((32:Int)<=(x2.length:Int)))<|cw (c 292 (Ls ((x2.take 32).drop 30))) λeB=>H2 (λs s1 s2 s3 s4 s5 s6 s7 s8 gk=>bq (c 195 (ZZ s s1 s2 s3 s4 s5 s6 s7 s8 gk)) λfj=>aA (λb4=>
 bif b4 then bZ b0 (vZ 0 0 0 0 0 0 0 0 none 0 false)else bZ b0 (Bs s s1 s2 s3 s4 s5 s6 s7 s8 gk true)) λbz=>bif !fj then bz (Lb true)else jw (c 191 (ZZ s s1 s2 s3 s4 s5 s6 s7 s8 gk)) λfH=>dy b1 bX λbM=>ke bM λl=>bz (Lb (!(fH==l)))) λaW=>cS (λaV st=>LS st λs9 CX Hn Ho Hp Hq Hr AY Hs AZ i=>bif decide (i<x1)then aC (decide (0<=ar (34+(ar (2*i))))&&decide (ar (34+(ar (2*i)))<=(x2.length:Int)))<|aC (decide (0<=ar (32+(ar (2*i))))&&decide (ar (32+(ar (2*i)))<=(((ar (34+(ar (2*i)))).toNat:Nat):Int)))<|lY (c 292 (Ls ((x2.take ((ar (34+(ar (2*i)))).toNat)).drop ((ar (32+(ar (2*i)))).toNat)))) λgG=>cd (Li gG) λi1=>bS i1 0 1 λfC=>cm 1 Hs AZ fC 1 8796093022208 λp=>
 aV (HY s9 CX Hn Ho Hp Hq Hr AY p (AZ+1) (ar (i+1)))else aW (ZZ s9 CX Hn Ho Hp Hq Hr AY Hs AZ)) n [.a [.i x4,.i x5,.i x6,.i x7,.i cV,.i x8,.i x9,.i eB,.s 0 none 0],.i 0]) λaI=>bif b2 then aI (Lb true)else aI (Lb (decide (x1>8)))) λaz=>bif !x3 then az (Lb true)else az (Lb (!(x==7)))
end
class HA (Bd:outParam Zh):Prop where
 WE:Bd 12=Sn
 e15:Bd 15=RS
 e19:Bd 19=QN
 e26:Bd 26=Ss
 e27:Bd 27=RO
 e28:Bd 28=Uu
 e29:Bd 29=TI
 e34:Bd 34=Tv
 e39:Bd 39=Ra
 e40:Bd 40=QL
 e54:Bd 54=Zm2
 e57:Bd 57=Qj
 e64:Bd 64=Qv
 e72:Bd 72=Q2
 e86:Bd 86=HS
 aej:Bd 113=L5
 aek:Bd 133=S9
 ael:Bd 136=SK
 aem:Bd 141=RG
 aen:Bd 142=QM
 aeo:Bd 143=S8
 aep:Bd 144=RQ
 aeq:Bd 145=H5
 aer:Bd 147=Qm
 aes:Bd 155=RW
 aet:Bd 156=Qk
 aeu:Bd 170=RB
 aev:Bd 171=Mh
 aew:Bd 172=Rp
 aex:Bd 173=Rj
 aba:Bd 177=UO
 aey:Bd 178=Rs
 aez:Bd 179=SF
 aeA:Bd 183=QY
 aeB:Bd 184=Rx
 aeC:Bd 189=Qt
 aeD:Bd 190=QC
 aeE:Bd 191=Tk
 aeF:Bd 192=SQ
 aeG:Bd 193=TY
 aeH:Bd 194=Qr
 aeI:Bd 195=Sg
 aeJ:Bd 196=Ry
 aeK:Bd 197=RN
 aeL:Bd 200=Tl
 aeM:Bd 201=Rt
 aeN:Bd 202=QR
 aeO:Bd 203=TQ
 aeP:Bd 204=S6
 aeQ:Bd 205=Tf
 aeR:Bd 206=Q6
 aeS:Bd 208=Tz
 aeT:Bd 209=Rf
 aeU:Bd 210=Qw
 aeV:Bd 211=R8
 aeW:Bd 213=Tj
 aeX:Bd 214=SL
 aeY:Bd 215=TT
 aeZ:Bd 216=TK
 ae0:Bd 217=QJ
 ae1:Bd 218=Ta
 ae2:Bd 219=Sr
 ae3:Bd 220=SX
 ae4:Bd 221=QP
 ae5:Bd 222=Ql
 ae6:Bd 223=Sa
 ae7:Bd 225=Th
 ae8:Bd 226=Qz
 ae9:Bd 227=Sf
 afa:Bd 228=QE
 afb:Bd 229=Qy
 afc:Bd 230=QH
 afd:Bd 231=Qp
 afe:Bd 232=IJ
 aff:Bd 233=QI
 afg:Bd 234=Qx
 afh:Bd 236=Qn
 afi:Bd 237=SR
 afj:Bd 238=QT
 afk:Bd 239=SI
 afl:Bd 240=ZlS
 afm:Bd 241=QX
 afn:Bd 242=TX
 afo:Bd 243=RH
 afp:Bd 244=SO
 afq:Bd 245=Tu
 afr:Bd 246=Q5
 afs:Bd 247=Rg
 aft:Bd 248=RD
 afu:Bd 249=SM
 afv:Bd 250=Ts
 afw:Bd 251=Sp
 afx:Bd 252=Sx
 afy:Bd 253=Uy
 afz:Bd 254=Qq
 afA:Bd 255=Sv
 afB:Bd 256=Zip
 afC:Bd 259=RV
 afD:Bd 260=RY
 afE:Bd 261=Sd
 afF:Bd 262=Tp
 afG:Bd 263=Qo
 afH:Bd 264=Sj
 afI:Bd 265=RK
 afJ:Bd 266=Rm
 afK:Bd 267=SE
 afL:Bd 268=Sz
 afM:Bd 269=Rh
 afN:Bd 270=TN
 afO:Bd 271=SY
 afP:Bd 272=Up
 afQ:Bd 273=Rw
 afR:Bd 274=RJ
 afS:Bd 275=Q4
 afT:Bd 276=Rv
 abc:Bd 285=L9
 afU:Bd 286=T7
 afV:Bd 287=TO
 afW:Bd 288=TA
 afX:Bd 289=TL
 afY:Bd 290=SJ
 afZ:Bd 291=SC
 af0:Bd 292=Tc
 af1:Bd 293=Sc
 af2:Bd 294=SU
 af3:Bd 295=RT
 af4:Bd 296=Tx
 af5:Bd 297=QZ
 af6:Bd 298=QO
 af7:Bd 299=QG
 af8:Bd 300=QW
 af9:Bd 306=UF
 aga:Bd 307=Sk
 agb:Bd 308=Rk
 agc:Bd 309=Ro
 agd:Bd 310=Rl
 age:Bd 311=TU
 agf:Bd 312=TS
 agh:Bd 313=RA
 agi:Bd 314=Sb
 agj:Bd 315=QA
 agk:Bd 317=Tg
 agl:Bd 318=Q9
 agm:Bd 319=R9
 agn:Bd 320=TG
 ago:Bd 322=RE
 abd:Bd 323=RX
 agp:Bd 324=RZ
 agq:Bd 325=Tn
 agr:Bd 326=S7
 ags:Bd 327=TZ
 agt:Bd 328=Si
 agu:Bd 329=SP
 agv:Bd 330=Ti
 agw:Bd 331=Tb
 agx:Bd 332=Rb
 agy:Bd 333=QF
 agz:Bd 334=QD
 agA:Bd 335=QB
 agB:Bd 336=Qu
 agC:Bd 337=Te
 agD:Bd 338=QU
 agE:Bd 339=Rc
 agF:Bd 341=RP
 agG:Bd 344=SA
 agH:Bd 345=RR
 agI:Bd 346=SS
 agJ:Bd 347=RI
 agK:Bd 348=SH
 agL:Bd 349=TH
 agM:Bd 350=SZ
 ai7:QK Bd
 ai8:Ft Bd
 akN:HU Bd
 akO:L7 Bd
 akP:LY Bd
end Go.Gv
