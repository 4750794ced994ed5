/- Functions of the program, as the machine runs them: written by gvseat.py. -/
import Derived.Test.YtegglibipjjblaaGreatDoorGvBMc
set_option linter.all false
namespace Go.Gv
set_option maxRecDepth 10000
set_option maxHeartbeats 4000000
noncomputable section
def QW:ao:=λc n args=>
 bV args λb1 bX=>bq (c 322 []) λx=>aA (λb2=>bif b2 then bq (c 322 []) λx1=>ay (Lb x1)else dy b1 bX λcs=>ke cs λl=>bq (c 339 (aZ b1 bX)) λx2=>aA (λb3=>ay (Lb b3)) λaI=>bif x2 then dy b1 bX λbM=>ke bM λl1=>aI (Lb (l1==l))else aI (Lb false)) λaz=>bif !x then az (Lb true)else az (Lb (decide ((bX:Int)>8000)))
def Ra:ao:=λc n args=>
 bV args λb1 bX=>dy b1 bX λcs=>ke cs λl=>cQ (c 345 (Ls l)) λds=>ba ds λbM ds=>aD .i64 bM λx r=>Zx r λx1 x2 x3 ee x4 dC x5 gO=>Zhb ds λx6 x7 x8 x9 cV eB fj fH gG EZ fS zg fN=>Ia (c 323 (aZ b1 bX)) λgH iG iH jG nP rN=>cQ (c 341 (aZ b1 bX)) λds=>ba ds λkF ds=>aD .i64 kF λzj r=>Zx r λzl zm zn Hw C1 PO Ba ac4=>cP ds λBb=>cQ (c 346 (aZ b1 bX)) λds=>nX ds λC2 C3 Hx=>aA (λb2=>aA (λb3=>bif b3 then ay (Lb false)else bif !(fN==0)then aA (λb4=>aA (λb5=>ay (Lb b5)) λbz=>bif b4 then bz (Lb ((C3:Int)==0))else bz (Lb false)) λaW=>bif (gH==0)&&((iG==0)&&((iH==0)&&((jG==0)&&((nP==0)&&true))))then bq (c 136 [.a [.i zj,.i zl,.i zm,.s 2 zn Hw,.s 1 C1 PO,.s 1 Ba ac4],.a [.i 0,.i 0,.i 0,.s 0 none 0,.s 0 none 0,.s 0 none 0]]) λBc=>
 aW (Lb Bc)else aW (Lb false)else uZ (c 347 (Bq x x1 x2 x3 ee x4 dC x5 gO (zg:Int))) λds=>ba ds λnr ds=>Zsu nr λC4 Hy PQ PR PS=>aL ds<|aA (λb6=>aA (λb7=>ay (Lb b7)) λdp=>bif b6 then bq (c 113 (we C2 C3 fS zg)) λPT=>dp (Lb PT)else dp (Lb false)) λck=>bif (gH==C4)&&((iG==Hy)&&((iH==PQ)&&((jG==PR)&&((nP==PS)&&true))))then bq (c 136 [.a [.i zj,.i zl,.i zm,.s 2 zn Hw,.s 1 C1 PO,.s 1 Ba ac4],.a [.i x,.i x1,.i x2,.s 2 x3 ee,.s 1 x4 dC,.s 1 x5 gO]]) λx39=>ck (Lb x39)else ck (Lb false)) λaI=>bif b2 then aI (Lb true)else aI (Lb (!(Hx==fN)))) λaz=>bif !(rN==fN)then az (Lb true)else az (Lb (!(Bb==fN)))
def RX:ao:=λc n args=>
 bV args λimage kl=>gD λb0=>xC (c 324 (aZ image kl)) λx x1 x2 x3 ee x4 dC x5 gO x6 x7=>bZ b0 (Bq x x1 x2 x3 ee x4 dC x5 gO x7)
def SR:ao:=λc n args=>
 ba args λcs args=>Z6 cs λs s1 s2 s3 s4 s5 s6 s7 s8 gk=>bV args λqi ER=>gD λb0=>fB (λout kS=>bZ b0 (aZ out kS)) λaz=>kd (λaV gu eK i=>bif decide (i<(gk:Int))then Zn 1 s8 i gk λx=>iL (c 205 (Z7 gu eK s1 x)) λx1 jE=>aV (dY x1 jE (ar (i+1)))else az (aZ gu eK)) n (dY qi ER 0)
def Sn:ao:=λc n args=>
 jK args λimage=>gD λb0=>LR (c 348 (Ls image)) λx x1 x2 x3 x4 x5 x6 x7 x8 ku x9 cV=>bif !cV then bZ b0 (LP 0 0 0 none 0 none 0 none 0 x x1 x2 x3 x4 x5 x6 x7 x8 ku none 0 30)else cQ (c 211 [.t image,.a [.i x,.i x1,.i x2,.i x3,.i x4,.i x5,.i x6,.i x7,.s 1 x8 ku]]) λds=>ba ds λbM ds=>aD .i64 bM λeB r=>Zx r λfj fH gG EZ fS zg fN aat=>I9 ds λgH zi iG=>bif !iG then bZ b0 (LP 0 0 0 none 0 none 0 none 0 x x1 x2 x3 x4 x5 x6 x7 x8 ku none 0 31)else bq (c 178 [.t image,.a [.i x,.i x1,.i x2,.i x3,.i x4,.i x5,.i x6,.i x7,.s 1 x8 ku],.s 1 gH zi]) λiH=>bif !iH then bZ b0 (LP 0 0 0 none 0 none 0 none 0 x x1 x2 x3 x4 x5 x6 x7 x8 ku none 0 32)else uZ (c 344 [.a [.i x,.i x1,.i x2,.i x3,.i x4,.i x5,.i x6,.i x7,.s 1 x8 ku],.s 1 gH zi]) λds=>
 bV ds λjG aaw=>bZ b0 [.a [.i eB,.i fj,.i fH,.s 2 gG EZ,.s 1 fS zg,.s 1 fN aat],.a [.i x,.i x1,.i x2,.i x3,.i x4,.i x5,.i x6,.i x7,.s 1 x8 ku],.s 1 jG aaw,.i 0]
def SF:ao:=λc n args=>
 bV args λimage kl=>gD λb0=>xC (c 324 (aZ image kl)) λx x1 x2 x3 ee x4 dC x5 gO x6 x7=>bif !(x7==0)then bZ b0 (iw none 0 x7)else iL (c 172 (Lp x6)) λx8 ku=>bZ b0 (dY x8 ku 0)
def RV:ao:=λc n args=>
 ba args λcs args=>aD .i64 cs λx r=>Zx r λx1 x2 x3 ee x4 dC x5 gO=>cP args λblocks=>cQ (c 142 (Br x x1 x2 x3 ee x4 dC x5 gO)) λds=>bW 4 ds λx6 pJ ds=>aL ds<|Dz (λf f1 f2 f3 f4=>ay (xN f f1 f2 f3 f4)) λaz=>cS (λaV st=>L9 st λf5 f6 f7 f8 f9 i=>bif decide (i<(dC:Int))then Dz (λf10 f11 f12 f13 f14=>aV (BB f10 f11 f12 f13 f14 (ar (i+1)))) λaI=>aA (λlive=>bq (c 143 (dY x5 gO i)) λx7=>Dz (λf15 f16 f17 f18 f19=>aI (xN f15 f16 f17 f18 f19)) λbz=>bif x7 then bz (xN f5 f6 (ar (f7+1)) f8 f9)else Dz (λf20 f21 f22 f23 f24=>bz (xN f20 f21 f22 f23 f24)) λck=>bif !live then ck (xN f5 f6 f7 (ar (f8+1)) f9)else ck (xN f5 f6 f7 f8 f9)) λaW=>cS (λdw st=>gC st λPl st=>cP st λk=>bif decide (k<(pJ:Int))then aA (λb1=>dw (zH b1 (ar (k+1)))) λdp=>bif Pl then dp (Lb true)else Zn 4 x6 k pJ λx8=>
 dp (Lb (x8==i))else aW (Lb Pl)) n (zH false 0)else az (xN f5 f6 f7 f8 f9)) n (BB (pJ:Int) (ee:Int) 0 0 blocks 0)
def Sw:ao:=λc n args=>
 jK args λimage=>gD λb0=>zL (c 349 (eI image 0)) λx x1 x2 x3 x4 x5 x6 x7 x8 ku x9=>zL (c 349 (eI image 1)) λcV eB fj fH gG fS fN gH iG aau iH=>aA (λb1=>bif b1 then bZ b0 (Bp cV eB fj fH gG fS fN gH iG aau 1 true)else bZ b0 (Bp x x1 x2 x3 x4 x5 x6 x7 x8 ku 0 x9)) λaz=>bif iH then aA (λb2=>az (Lb b2)) λaI=>bif !x9 then aI (Lb true)else aI (Lb (decide (cV>x)))else az (Lb false)
def Uh:ao:=λc n args=>
 nU args λimage place=>gD λb0=>aA (λb1=>aA (λb2=>bif b2 then bZ b0 (vZ 0 0 0 0 0 0 0 0 none 0 false)else aC (decide (0<=ar ((ar (64*place))+64))&&decide (ar ((ar (64*place))+64)<=(image.length:Int)))<|aC (decide (0<=ar (64*place))&&decide (ar (64*place)<=(((ar ((ar (64*place))+64)).toNat:Nat):Int)))<|cd (ZQ ((image.take ((ar ((ar (64*place))+64)).toNat)).drop ((ar (64*place)).toNat))) λi=>zL (c 350 (aZ (some (i,0)) (((image.take ((ar ((ar (64*place))+64)).toNat)).drop ((ar (64*place)).toNat)).length))) λx x1 x2 x3 x4 x5 x6 x7 x8 ku x9=>bZ b0 (Bs x x1 x2 x3 x4 x5 x6 x7 x8 ku x9)) λaI=>bif b1 then aI (Lb true)else aI (Lb (decide ((image.length:Int)<ar ((ar (64*place))+64))))) λaz=>bif decide (place<0)then az (Lb true)else az (Lb (decide (place>1)))
def Te:ao:=λc n args=>
 bV args λb1 bX=>gD λb0=>uW (c 291 (aZ b1 bX)) λx x1 x2 x3=>aA (λb2=>aA (λb3=>bif b3 then bZ b0 (vZ 0 0 0 0 0 0 0 0 none 0 false)else aC (decide ((8:Int)<=(x2.length:Int)))<|cw (c 292 (Ls (x2.take 8))) λx4=>aC (decide ((12:Int)<=(x2.length:Int)))<|cw (c 292 (Ls ((x2.take 12).drop 8))) λx5=>aC (decide ((16:Int)<=(x2.length:Int)))<|cw (c 292 (Ls ((x2.take 16).drop 12))) λx6=>aC (decide ((20:Int)<=(x2.length:Int)))<|cw (c 292 (Ls ((x2.take 20).drop 16))) λx7=>aC (decide ((24:Int)<=(x2.length:Int)))<|cw (c 292 (Ls ((x2.take 24).drop 20))) λx8=>aC (decide ((28:Int)<=(x2.length:Int)))<|cw (c 292 (Ls ((x2.take 28).drop 24))) λx9=>aC (decide ((30:Int)<=(x2.length:Int)))<|cw (c 292 (Ls ((x2.take 30).drop 28))) λcV=>aC (decide ((32:Int)<=(x2.length:Int)))<|cw (c 292 (Ls ((x2.take 32).drop 30))) λeB=>H3 (λs s1 s2 s3 s4 s5 s6 s7 s8 gk=>bq (c 195 (ZZ s s1 s2 s3 s4 s5 s6 s7 s8 gk)) λfj=>aA (λb4=>
 bif b4 then bZ b0 (vZ 0 0 0 0 0 0 0 0 none 0 false)else bZ b0 (Bs s s1 s2 s3 s4 s5 s6 s7 s8 gk true)) λbz=>bif !fj then bz (Lb true)else jw (c 191 (ZZ s s1 s2 s3 s4 s5 s6 s7 s8 gk)) λfH=>dy b1 bX λbM=>ke bM λl=>bz (Lb (!(fH==l)))) λaW=>cS (λaV st=>LS st λs9 CX Hn Ho Hp Hq Hr AY Hs AZ i=>bif decide (i<x1)then aC (decide (0<=ar (34+(ar (2*i))))&&decide (ar (34+(ar (2*i)))<=(x2.length:Int)))<|aC (decide (0<=ar (32+(ar (2*i))))&&decide (ar (32+(ar (2*i)))<=(((ar (34+(ar (2*i)))).toNat:Nat):Int)))<|lY (c 292 (Ls ((x2.take ((ar (34+(ar (2*i)))).toNat)).drop ((ar (32+(ar (2*i)))).toNat)))) λgG=>cd (Li gG) λi1=>bS i1 0 1 λfC=>cm 1 Hs AZ fC 1 8796093022208 λp=>
 aV (HZ s9 CX Hn Ho Hp Hq Hr AY p (AZ+1) (ar (i+1)))else aW (ZZ s9 CX Hn Ho Hp Hq Hr AY Hs AZ)) n [.a [.i x4,.i x5,.i x6,.i x7,.i cV,.i x8,.i x9,.i eB,.s 0 none 0],.i 0]) λaI=>bif b2 then aI (Lb true)else aI (Lb (decide (x1>8)))) λaz=>bif !x3 then az (Lb true)else az (Lb (!(x==7)))
end
class HA (Bd:outParam Zh):Prop where
 WE:Bd 12=R8
 e15:Bd 15=RB
 e19:Bd 19=Rm
 e26:Bd 26=Sz
 e27:Bd 27=Sb
 e28:Bd 28=UB
 e29:Bd 29=Ub
 e34:Bd 34=SS
 e39:Bd 39=Rh
 e40:Bd 40=QL
 e54:Bd 54=ZmI
 e57:Bd 57=Qj
 e64:Bd 64=QF
 e72:Bd 72=Q3
 e86:Bd 86=HS
 aej:Bd 113=Mi
 aek:Bd 133=Th
 ael:Bd 136=Tx
 aem:Bd 141=Sk
 aen:Bd 142=Rq
 aeo:Bd 143=Tb
 aep:Bd 144=RK
 aeq:Bd 145=H7
 aer:Bd 147=Ql
 aes:Bd 155=Sd
 aet:Bd 156=Qi
 aeu:Bd 170=RA
 aev:Bd 171=L5
 aew:Bd 172=QK
 aex:Bd 173=Rz
 aba:Bd 177=UK
 aey:Bd 178=QM
 aez:Bd 179=Tz
 aeA:Bd 183=QV
 aeB:Bd 184=Rg
 aeC:Bd 189=Qs
 aeD:Bd 190=QB
 aeE:Bd 191=To
 aeF:Bd 192=Ss
 aeG:Bd 193=TR
 aeH:Bd 194=Qt
 aeI:Bd 195=RW
 aeJ:Bd 196=Ri
 aeK:Bd 197=RR
 aeL:Bd 200=Tt
 aeM:Bd 201=QP
 aeN:Bd 202=Ro
 aeO:Bd 203=TL
 aeP:Bd 204=TO
 aeQ:Bd 205=TV
 aeR:Bd 206=Rk
 aeS:Bd 208=SC
 aeT:Bd 209=Ry
 aeU:Bd 210=Qu
 aeV:Bd 211=RY
 aeW:Bd 213=Tl
 aeX:Bd 214=SL
 aeY:Bd 215=Tc
 aeZ:Bd 216=S7
 ae0:Bd 217=QH
 ae1:Bd 218=Tn
 ae2:Bd 219=Tw
 ae3:Bd 220=SB
 ae4:Bd 221=QN
 ae5:Bd 222=Qk
 ae6:Bd 223=RQ
 ae7:Bd 225=Tk
 ae8:Bd 226=QD
 ae9:Bd 227=Se
 afa:Bd 228=Qv
 afb:Bd 229=Qy
 afc:Bd 230=Qz
 afd:Bd 231=Qo
 afe:Bd 232=IH
 aff:Bd 233=QI
 afg:Bd 234=QG
 afh:Bd 236=Qm
 afi:Bd 237=SG
 afj:Bd 238=Rp
 afk:Bd 239=SN
 afl:Bd 240=ZlP
 afm:Bd 241=QT
 afn:Bd 242=TQ
 afo:Bd 243=RD
 afp:Bd 244=Sx
 afq:Bd 245=TA
 afr:Bd 246=Rw
 afs:Bd 247=Q6
 aft:Bd 248=RP
 afu:Bd 249=SO
 afv:Bd 250=T0
 afw:Bd 251=RI
 afx:Bd 252=SD
 afy:Bd 253=T7
 afz:Bd 254=Qp
 afA:Bd 255=SH
 afB:Bd 256=Sv
 afC:Bd 259=RE
 afD:Bd 260=RT
 afE:Bd 261=Sp
 afF:Bd 262=TJ
 afG:Bd 263=Qn
 afH:Bd 264=RS
 afI:Bd 265=RZ
 afJ:Bd 266=Q7
 afK:Bd 267=SJ
 afL:Bd 268=SA
 afM:Bd 269=Rj
 afN:Bd 270=Tp
 afO:Bd 271=SM
 afP:Bd 272=Ug
 afQ:Bd 273=Rb
 afR:Bd 274=RC
 afS:Bd 275=Q2
 afT:Bd 276=Rl
 abc:Bd 285=Mg
 afU:Bd 286=T8
 afV:Bd 287=S6
 afW:Bd 288=SX
 afX:Bd 289=TX
 afY:Bd 290=SU
 afZ:Bd 291=Sq
 af0:Bd 292=Td
 af1:Bd 293=R9
 af2:Bd 294=SP
 af3:Bd 295=Sf
 af4:Bd 296=SE
 af5:Bd 297=QY
 af6:Bd 298=QR
 af7:Bd 299=Qx
 af8:Bd 300=QX
 af9:Bd 306=UT
 aga:Bd 307=RJ
 agb:Bd 308=Rx
 agc:Bd 309=QO
 agd:Bd 310=Q5
 age:Bd 311=TZ
 agf:Bd 312=Ts
 agh:Bd 313=Rt
 agi:Bd 314=RG
 agj:Bd 315=QC
 agk:Bd 317=Tj
 agl:Bd 318=Rf
 agm:Bd 319=Si
 agn:Bd 320=Uq
 ago:Bd 322=Sc
 abd:Bd 323=Sj
 agp:Bd 324=RO
 agq:Bd 325=TY
 agr:Bd 326=Tm
 ags:Bd 327=S8
 agt:Bd 328=RN
 agu:Bd 329=SI
 agv:Bd 330=S9
 agw:Bd 331=TS
 agx:Bd 332=Rc
 agy:Bd 333=Qw
 agz:Bd 334=QA
 agA:Bd 335=QE
 agB:Bd 336=Qr
 agC:Bd 337=TU
 agD:Bd 338=QW
 agE:Bd 339=Ra
 agF:Bd 341=RX
 agG:Bd 344=SR
 agH:Bd 345=Sn
 agI:Bd 346=SF
 agJ:Bd 347=RV
 agK:Bd 348=Sw
 agL:Bd 349=Uh
 agM:Bd 350=Te
 ai7:QJ Bd
 ai8:Ft Bd
 akN:HT Bd
 akO:LZ Bd
 akP:LV Bd
end Go.Gv
