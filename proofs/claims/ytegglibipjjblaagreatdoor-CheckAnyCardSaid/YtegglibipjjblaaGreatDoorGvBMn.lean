/- Functions of the program, as the machine runs them: written by gvseat.py. -/
import Derived.Test.YtegglibipjjblaaGreatDoorGvBMc
set_option linter.all false
namespace Go.Gv
set_option maxRecDepth 10000
set_option maxHeartbeats 4000000
noncomputable section
def Q2:ao:=λc n args=>
 bV args λb1 bX=>bq (c 322 []) λx=>aA (λb2=>bif b2 then bq (c 322 []) λx1=>ay (Lb x1)else dy b1 bX λcs=>ke cs λl=>bq (c 339 (aZ b1 bX)) λx2=>aA (λb3=>ay (Lb b3)) λaI=>bif x2 then dy b1 bX λbM=>ke bM λl1=>aI (Lb (l1==l))else aI (Lb false)) λaz=>bif !x then az (Lb true)else az (Lb (decide ((bX:Int)>8000)))
def Ri:ao:=λc n args=>
 bV args λb1 bX=>dy b1 bX λcs=>ke cs λl=>cQ (c 345 (Ls l)) λds=>ba ds λbM ds=>aD .i64 bM λx r=>Zx r λx1 x2 x3 ee x4 dC x5 gO=>Zhi ds λx6 x7 x8 x9 cV eB fj fH gG EY fS zg fN=>Iq (c 323 (aZ b1 bX)) λgH iG iH jG nP rN=>cQ (c 341 (aZ b1 bX)) λds=>ba ds λkF ds=>aD .i64 kF λzj r=>Zx r λzl zm zn Hv C1 PO Ba ac3=>cP ds λBb=>cQ (c 346 (aZ b1 bX)) λds=>oe ds λC2 C3 Hw=>aA (λb2=>aA (λb3=>bif b3 then ay (Lb false)else bif !(fN==0)then aA (λb4=>aA (λb5=>ay (Lb b5)) λbz=>bif b4 then bz (Lb ((C3:Int)==0))else bz (Lb false)) λaW=>bif (gH==0)&&((iG==0)&&((iH==0)&&((jG==0)&&((nP==0)&&true))))then bq (c 136 [.a [.i zj,.i zl,.i zm,.s 2 zn Hv,.s 1 C1 PO,.s 1 Ba ac3],.a [.i 0,.i 0,.i 0,.s 0 none 0,.s 0 none 0,.s 0 none 0]]) λBc=>
 aW (Lb Bc)else aW (Lb false)else uZ (c 347 (Bp x x1 x2 x3 ee x4 dC x5 gO (zg:Int))) λds=>ba ds λnr ds=>Zty nr λC4 Hx PQ PR PS=>aL ds<|aA (λb6=>aA (λb7=>ay (Lb b7)) λdp=>bif b6 then bq (c 113 (wh C2 C3 fS zg)) λPT=>dp (Lb PT)else dp (Lb false)) λck=>bif (gH==C4)&&((iG==Hx)&&((iH==PQ)&&((jG==PR)&&((nP==PS)&&true))))then bq (c 136 [.a [.i zj,.i zl,.i zm,.s 2 zn Hv,.s 1 C1 PO,.s 1 Ba ac3],.a [.i x,.i x1,.i x2,.s 2 x3 ee,.s 1 x4 dC,.s 1 x5 gO]]) λx39=>ck (Lb x39)else ck (Lb false)) λaI=>bif b2 then aI (Lb true)else aI (Lb (!(Hw==fN)))) λaz=>bif !(rN==fN)then az (Lb true)else az (Lb (!(Bb==fN)))
def RD:ao:=λc n args=>
 bV args λimage kl=>gD λb0=>xC (c 324 (aZ image kl)) λx x1 x2 x3 ee x4 dC x5 gO x6 x7=>bZ b0 (Bp x x1 x2 x3 ee x4 dC x5 gO x7)
def Sv:ao:=λc n args=>
 ba args λcs args=>Z6 cs λs s1 s2 s3 s4 s5 s6 s7 s8 gk=>bV args λqi EP=>gD λb0=>fB (λout kS=>bZ b0 (aZ out kS)) λaz=>kd (λaV gu eK i=>bif decide (i<(gk:Int))then Zn 1 s8 i gk λx=>iL (c 205 (Z7 gu eK s1 x)) λx1 jE=>aV (dY x1 jE (ar (i+1)))else az (aZ gu eK)) n (dY qi EP 0)
def RV:ao:=λc n args=>
 jK args λimage=>gD λb0=>LQ (c 348 (Ls image)) λx x1 x2 x3 x4 x5 x6 x7 x8 ku x9 cV=>bif !cV then bZ b0 (LP 0 0 0 none 0 none 0 none 0 x x1 x2 x3 x4 x5 x6 x7 x8 ku none 0 30)else cQ (c 211 [.t image,.a [.i x,.i x1,.i x2,.i x3,.i x4,.i x5,.i x6,.i x7,.s 1 x8 ku]]) λds=>ba ds λbM ds=>aD .i64 bM λeB r=>Zx r λfj fH gG EY fS zg fN aas=>I4 ds λgH zi iG=>bif !iG then bZ b0 (LP 0 0 0 none 0 none 0 none 0 x x1 x2 x3 x4 x5 x6 x7 x8 ku none 0 31)else bq (c 178 [.t image,.a [.i x,.i x1,.i x2,.i x3,.i x4,.i x5,.i x6,.i x7,.s 1 x8 ku],.s 1 gH zi]) λiH=>bif !iH then bZ b0 (LP 0 0 0 none 0 none 0 none 0 x x1 x2 x3 x4 x5 x6 x7 x8 ku none 0 32)else uZ (c 344 [.a [.i x,.i x1,.i x2,.i x3,.i x4,.i x5,.i x6,.i x7,.s 1 x8 ku],.s 1 gH zi]) λds=>
 bV ds λjG aav=>bZ b0 [.a [.i eB,.i fj,.i fH,.s 2 gG EY,.s 1 fS zg,.s 1 fN aas],.a [.i x,.i x1,.i x2,.i x3,.i x4,.i x5,.i x6,.i x7,.s 1 x8 ku],.s 1 jG aav,.i 0]
def SM:ao:=λc n args=>
 bV args λimage kl=>gD λb0=>xC (c 324 (aZ image kl)) λx x1 x2 x3 ee x4 dC x5 gO x6 x7=>bif !(x7==0)then bZ b0 (iw none 0 x7)else iL (c 172 (Lp x6)) λx8 ku=>bZ b0 (dY x8 ku 0)
def RW:ao:=λc n args=>
 ba args λcs args=>aD .i64 cs λx r=>Zx r λx1 x2 x3 ee x4 dC x5 gO=>cP args λblocks=>cQ (c 142 (Bs x x1 x2 x3 ee x4 dC x5 gO)) λds=>bW 4 ds λx6 pJ ds=>aL ds<|DB (λf f1 f2 f3 f4=>ay (xM f f1 f2 f3 f4)) λaz=>cS (λaV st=>Mb st λf5 f6 f7 f8 f9 i=>bif decide (i<(dC:Int))then DB (λf10 f11 f12 f13 f14=>aV (BA f10 f11 f12 f13 f14 (ar (i+1)))) λaI=>aA (λlive=>bq (c 143 (dY x5 gO i)) λx7=>DB (λf15 f16 f17 f18 f19=>aI (xM f15 f16 f17 f18 f19)) λbz=>bif x7 then bz (xM f5 f6 (ar (f7+1)) f8 f9)else DB (λf20 f21 f22 f23 f24=>bz (xM f20 f21 f22 f23 f24)) λck=>bif !live then ck (xM f5 f6 f7 (ar (f8+1)) f9)else ck (xM f5 f6 f7 f8 f9)) λaW=>cS (λdw st=>gC st λPl st=>cP st λk=>bif decide (k<(pJ:Int))then aA (λb1=>dw (zH b1 (ar (k+1)))) λdp=>bif Pl then dp (Lb true)else Zn 4 x6 k pJ λx8=>
 dp (Lb (x8==i))else aW (Lb Pl)) n (zH false 0)else az (xM f5 f6 f7 f8 f9)) n (BA (pJ:Int) (ee:Int) 0 0 blocks 0)
def SG:ao:=λc n args=>
 jK args λimage=>gD λb0=>zL (c 349 (eI image 0)) λx x1 x2 x3 x4 x5 x6 x7 x8 ku x9=>zL (c 349 (eI image 1)) λcV eB fj fH gG fS fN gH iG aat iH=>aA (λb1=>bif b1 then bZ b0 (Bq cV eB fj fH gG fS fN gH iG aat 1 true)else bZ b0 (Bq x x1 x2 x3 x4 x5 x6 x7 x8 ku 0 x9)) λaz=>bif iH then aA (λb2=>az (Lb b2)) λaI=>bif !x9 then aI (Lb true)else aI (Lb (decide (cV>x)))else az (Lb false)
def Us:ao:=λc n args=>
 nU args λimage place=>gD λb0=>aA (λb1=>aA (λb2=>bif b2 then bZ b0 (vZ 0 0 0 0 0 0 0 0 none 0 false)else aC (decide (0<=ar ((ar (64*place))+64))&&decide (ar ((ar (64*place))+64)<=(image.length:Int)))<|aC (decide (0<=ar (64*place))&&decide (ar (64*place)<=(((ar ((ar (64*place))+64)).toNat:Nat):Int)))<|cd (ZQ ((image.take ((ar ((ar (64*place))+64)).toNat)).drop ((ar (64*place)).toNat))) λi=>zL (c 350 (aZ (some (i,0)) (((image.take ((ar ((ar (64*place))+64)).toNat)).drop ((ar (64*place)).toNat)).length))) λx x1 x2 x3 x4 x5 x6 x7 x8 ku x9=>bZ b0 (Br x x1 x2 x3 x4 x5 x6 x7 x8 ku x9)) λaI=>bif b1 then aI (Lb true)else aI (Lb (decide ((image.length:Int)<ar ((ar (64*place))+64))))) λaz=>bif decide (place<0)then az (Lb true)else az (Lb (decide (place>1)))
def Tm:ao:=λc n args=>
 bV args λb1 bX=>gD λb0=>uV (c 291 (aZ b1 bX)) λx x1 x2 x3=>aA (λb2=>aA (λb3=>bif b3 then bZ b0 (vZ 0 0 0 0 0 0 0 0 none 0 false)else aC (decide ((8:Int)<=(x2.length:Int)))<|cw (c 292 (Ls (x2.take 8))) λx4=>aC (decide ((12:Int)<=(x2.length:Int)))<|cw (c 292 (Ls ((x2.take 12).drop 8))) λx5=>aC (decide ((16:Int)<=(x2.length:Int)))<|cw (c 292 (Ls ((x2.take 16).drop 12))) λx6=>aC (decide ((20:Int)<=(x2.length:Int)))<|cw (c 292 (Ls ((x2.take 20).drop 16))) λx7=>aC (decide ((24:Int)<=(x2.length:Int)))<|cw (c 292 (Ls ((x2.take 24).drop 20))) λx8=>aC (decide ((28:Int)<=(x2.length:Int)))<|cw (c 292 (Ls ((x2.take 28).drop 24))) λx9=>aC (decide ((30:Int)<=(x2.length:Int)))<|cw (c 292 (Ls ((x2.take 30).drop 28))) λcV=>aC (decide ((32:Int)<=(x2.length:Int)))<|cw (c 292 (Ls ((x2.take 32).drop 30))) λeB=>HW (λs s1 s2 s3 s4 s5 s6 s7 s8 gk=>bq (c 195 (ZX s s1 s2 s3 s4 s5 s6 s7 s8 gk)) λfj=>aA (λb4=>
 bif b4 then bZ b0 (vZ 0 0 0 0 0 0 0 0 none 0 false)else bZ b0 (Br s s1 s2 s3 s4 s5 s6 s7 s8 gk true)) λbz=>bif !fj then bz (Lb true)else jw (c 191 (ZX s s1 s2 s3 s4 s5 s6 s7 s8 gk)) λfH=>dy b1 bX λbM=>ke bM λl=>bz (Lb (!(fH==l)))) λaW=>cS (λaV st=>LR st λs9 CX Hm Hn Ho Hp Hq AY Hr AZ i=>bif decide (i<x1)then aC (decide (0<=ar (34+(ar (2*i))))&&decide (ar (34+(ar (2*i)))<=(x2.length:Int)))<|aC (decide (0<=ar (32+(ar (2*i))))&&decide (ar (32+(ar (2*i)))<=(((ar (34+(ar (2*i)))).toNat:Nat):Int)))<|lY (c 292 (Ls ((x2.take ((ar (34+(ar (2*i)))).toNat)).drop ((ar (32+(ar (2*i)))).toNat)))) λgG=>cd (Li gG) λi1=>bS i1 0 1 λfC=>cm 1 Hr AZ fC 1 8796093022208 λp=>
 aV (HY s9 CX Hm Hn Ho Hp Hq AY p (AZ+1) (ar (i+1)))else aW (ZX s9 CX Hm Hn Ho Hp Hq AY Hr AZ)) n [.a [.i x4,.i x5,.i x6,.i x7,.i cV,.i x8,.i x9,.i eB,.s 0 none 0],.i 0]) λaI=>bif b2 then aI (Lb true)else aI (Lb (decide (x1>8)))) λaz=>bif !x3 then az (Lb true)else az (Lb (!(x==7)))
end
class HA (Bd:outParam Zh):Prop where
 WD:Bd 12=Sa
 e15:Bd 15=Sb
 e19:Bd 19=QU
 e26:Bd 26=Tu
 e27:Bd 27=RH
 e28:Bd 28=UI
 e29:Bd 29=Uf
 e34:Bd 34=SF
 e39:Bd 39=Rj
 e40:Bd 40=QJ
 e54:Bd 54=Zl3
 e57:Bd 57=Qi
 e64:Bd 64=Qy
 e72:Bd 72=QZ
 e86:Bd 86=HR
 aei:Bd 113=Mg
 aej:Bd 133=TW
 aek:Bd 136=SN
 ael:Bd 141=Sk
 aem:Bd 142=QR
 aen:Bd 143=Ts
 aeo:Bd 144=RR
 aep:Bd 145=H5
 aeq:Bd 147=Ql
 aer:Bd 155=RS
 aes:Bd 156=Qj
 aet:Bd 170=RE
 aeu:Bd 171=Me
 aev:Bd 172=QM
 aew:Bd 173=Rb
 aa9:Bd 177=UQ
 aex:Bd 178=QK
 aey:Bd 179=SK
 aez:Bd 183=QW
 aeA:Bd 184=Rz
 aeB:Bd 189=Qq
 aeC:Bd 190=QB
 aeD:Bd 191=S7
 aeE:Bd 192=Tz
 aeF:Bd 193=Tp
 aeG:Bd 194=Qt
 aeH:Bd 195=Se
 aeI:Bd 196=Ry
 aeJ:Bd 197=RQ
 aeK:Bd 200=TI
 aeL:Bd 201=QL
 aeM:Bd 202=Rs
 aeN:Bd 203=TR
 aeO:Bd 204=Th
 aeP:Bd 205=TJ
 aeQ:Bd 206=Rl
 aeR:Bd 208=SJ
 aeS:Bd 209=Ra
 aeT:Bd 210=QH
 aeU:Bd 211=RC
 aeV:Bd 213=Td
 aeW:Bd 214=Sr
 aeX:Bd 215=TZ
 aeY:Bd 216=Tg
 aeZ:Bd 217=QI
 ae0:Bd 218=TS
 ae1:Bd 219=SP
 ae2:Bd 220=SS
 ae3:Bd 221=Rt
 ae4:Bd 222=Qk
 ae5:Bd 223=Sc
 ae6:Bd 225=Tl
 ae7:Bd 226=QD
 ae8:Bd 227=Sd
 ae9:Bd 228=Qx
 afa:Bd 229=Qw
 afb:Bd 230=Qv
 afc:Bd 231=Qo
 afd:Bd 232=IC
 afe:Bd 233=QG
 aff:Bd 234=QF
 afg:Bd 236=Qm
 afh:Bd 237=SB
 afi:Bd 238=Rq
 afj:Bd 239=Sy
 afk:Bd 240=ZlR
 afl:Bd 241=Q3
 afm:Bd 242=TV
 afn:Bd 243=RA
 afo:Bd 244=SC
 afp:Bd 245=SQ
 afq:Bd 246=Rk
 afr:Bd 247=Rm
 afs:Bd 248=Sj
 aft:Bd 249=Sq
 afu:Bd 250=TT
 afv:Bd 251=RU
 afw:Bd 252=SO
 afx:Bd 253=UN
 afy:Bd 254=Qp
 afz:Bd 255=Sx
 afA:Bd 256=Tw
 afB:Bd 259=Sm
 afC:Bd 260=RM
 afD:Bd 261=Sf
 afE:Bd 262=TY
 afF:Bd 263=Qn
 afG:Bd 264=RK
 afH:Bd 265=RP
 afI:Bd 266=Rx
 afJ:Bd 267=Tv
 afK:Bd 268=SH
 afL:Bd 269=Q8
 afM:Bd 270=Tk
 afN:Bd 271=SR
 afO:Bd 272=Ud
 afP:Bd 273=Rh
 afQ:Bd 274=RZ
 afR:Bd 275=QY
 afS:Bd 276=Rw
 abb:Bd 285=LZ
 afT:Bd 286=Uj
 afU:Bd 287=TM
 afV:Bd 288=Sw
 afW:Bd 289=Tf
 afX:Bd 290=SU
 afY:Bd 291=SD
 afZ:Bd 292=Tq
 af0:Bd 293=RB
 af1:Bd 294=Sz
 af2:Bd 295=Sn
 af3:Bd 296=SZ
 af4:Bd 297=QX
 af5:Bd 298=QN
 af6:Bd 299=Qu
 af7:Bd 300=Q5
 af8:Bd 306=T2
 af9:Bd 307=R9
 aga:Bd 308=Q6
 agb:Bd 309=QS
 agc:Bd 310=Rg
 agd:Bd 311=Tt
 age:Bd 312=Te
 agf:Bd 313=Q9
 agh:Bd 314=RX
 agi:Bd 315=Qz
 agj:Bd 317=S6
 agk:Bd 318=Re
 agl:Bd 319=RI
 agm:Bd 320=TD
 agn:Bd 322=RJ
 abc:Bd 323=R8
 ago:Bd 324=Sg
 agp:Bd 325=TX
 agq:Bd 326=S9
 agr:Bd 327=TH
 ags:Bd 328=RG
 agt:Bd 329=SI
 agu:Bd 330=Tj
 agv:Bd 331=S8
 agw:Bd 332=Rc
 agx:Bd 333=QE
 agy:Bd 334=QA
 agz:Bd 335=QC
 agA:Bd 336=Qr
 agB:Bd 337=Ti
 agC:Bd 338=Q2
 agD:Bd 339=Ri
 agE:Bd 341=RD
 agF:Bd 344=Sv
 agG:Bd 345=RV
 agH:Bd 346=SM
 agI:Bd 347=RW
 agJ:Bd 348=SG
 agK:Bd 349=Us
 agL:Bd 350=Tm
 ai6:QT Bd
 ai7:Fs Bd
 akM:HT Bd
 akN:Mi Bd
 akO:LV Bd
end Go.Gv
