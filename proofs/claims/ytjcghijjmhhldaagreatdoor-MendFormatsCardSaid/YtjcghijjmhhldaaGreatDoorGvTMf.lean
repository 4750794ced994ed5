/- The ties of a seat: written by gvseat.py. -/
import Derived.Test.YtjcghijjmhhldaaGreatDoorGvSortOk
import Derived.Test.YtjcghijjmhhldaaGreatDoorProg
set_option linter.all false
namespace Go.Gv
open Go.Proofs Go.Proofs.Tryz
set_option maxRecDepth 100000
noncomputable section
def bE:JS:= .v (.b (.int .i64))
def gP:JS:= .v (.b (.slice 1))
noncomputable def cfgMf:aY:=⟨Tryz.prog,vh [(264,26),(268,28),(205,34),(173,39),(269,54),(204,57),(228,64),(252,72),(83,86),(57,141),(48,145),(261,147),(267,156),(176,159),(209,161),(208,162),(239,163),(68,171),(30,172),(70,173),(51,177),(43,183),(104,184),(64,191),(94,192),(93,193),(60,196),(122,197),(131,200),(72,201),(33,202),(130,203),(129,204),(54,206),(105,209),(98,210),(118,213),(119,214),(114,220),(168,221),(169,222),(52,223),(124,225),(125,226),(170,227),(171,228),(172,229),(126,230),(127,231),(175,232),(174,233),(128,234),(87,236),(177,237),(178,238),(179,239),(153,240),(132,241),(120,242),(163,248),(164,249),(103,253),(201,254),(202,255),(203,256),(210,259),(211,260),(212,261),(213,262),(180,263),(165,264),(223,272),(224,273),(225,274),(226,275),(227,276),(99,285),(240,286),(196,287),(198,288),(246,295),(247,296),(248,297),(249,298),(250,299),(251,300),(197,306),(155,307),(46,310),(260,312),(262,313),(263,314),(265,315),(221,317),(222,318),(245,320),(11,325),(67,326),(121,327),(44,328),(166,329),(167,330),(150,331),(140,332),(199,333),(200,334),(49,335),(194,336),(157,337),(3,351),(9,352),(12,353),(15,354),(16,355),(17,356),(18,357),(19,358),(13,359),(14,360),(10,361),(36,364),(22,367),(27,372),(28,374),(42,377),(45,378),(47,379),(50,380),(55,381),(56,382),(53,383),(58,384),(59,385),(61,386),(62,387),(63,388),(85,391),(81,392),(95,393),(66,394),(69,395),(71,396),(82,397),(100,398),(102,399),(101,400),(106,401),(107,402),(108,403),(109,404),(110,405),(111,406),(112,407),(113,408),(115,409),(117,410),(116,411),(151,412),(152,413),(154,414),(156,415),(159,416),(158,417),(160,418),(162,419),(161,420),(195,421),(220,422)],has [264,268,205,173,269,204,228,252,83,57,48,261,267,176,209,208,239,68,30,70,51,43,104,64,94,93,60,122,131,72,33,130,129,54,105,98,118,119,114,168,169,52,124,125,170,171,172,126,127,175,174,128,87,177,178,179,153,132,120,163,164,103,201,202,203,210,211,212,213,180,165,223,224,225,226,227,99,240,196,198,246,247,248,249,250,251,197,155,46,260,262,263,265,221,222,245,11,67,121,44,166,167,150,140,199,200,49,194,157,3,9,12,15,16,17,18,19,13,14,10,36,22,27,28,42,45,47,50,55,56,53,58,59,61,62,63,85,81,95,66,69,71,82,100,102,101,106,107,108,109,110,111,112,113,115,117,116,151,152,154,156,159,158,160,162,161,195,220],GZ [(9,0),(212,4),(231,5),(235,2),(256,1),(260,3),(280,6)],vh [(0,2)],has [0],CG [(206,[.bool,.int .i64,.int .i64])],has [174]⟩
theorem Zh0:oM cfgMf ⟨[],.z,false⟩ f83=Z7:=Zt9 (λc=>by kernel_rfl) (by kernel_rfl)
theorem Zis:oM cfgMf ⟨[2,3],.z,false⟩ f176=Am:=by kernel_rfl
theorem Zgh:oM cfgMf ⟨[],.z,false⟩ f209=Aj:=by kernel_rfl
theorem Zke:oM cfgMf ⟨[],(.n .z (.n .z (.n (.n .z (.j [] (.j [(8,bE)] .z .z) .z)) .z))),false⟩ f208=Av:=by kernel_rfl
theorem Zhs:oM cfgMf ⟨[],.z,false⟩ f239=Ak:=by kernel_rfl
theorem ZpH:My cfgMf 3 f68 f123=DR:=by kernel_rfl
end
noncomputable def Zrp:Go.Shelf.Ren:=⟨λ|6=>175|14=>206|15=>207|20=>229|21=>230|22=>231|23=>232|24=>233|25=>234|26=>235|27=>236|28=>237|29=>238|46=>253|47=>254|48=>255|49=>256|50=>257|57=>266|n=>n,λ|0=>0|3=>3|4=>4|5=>5|9=>9|22=>143|24=>216|25=>264|39=>222|45=>328|46=>329|50=>333|53=>184|55=>104|66=>345|70=>293|76=>355|77=>337|n=>n,λ|n=>n⟩
theorem ZqM:SlLaysF0.n6 Tryz.prog Zrp where
 mixed:=by kernel_rfl
 f6:=⟨f175.name,by kernel_rfl,func175.trans (congrArg some (by kernel_rfl))⟩
 f14:=⟨f206.name,by kernel_rfl,func206.trans (congrArg some (by kernel_rfl))⟩
 f15:=func207.trans (congrArg some (by kernel_rfl))
 f20:=⟨f229.name,by kernel_rfl,func229.trans (congrArg some (by kernel_rfl))⟩
 f21:=⟨f230.name,by kernel_rfl,func230.trans (congrArg some (by kernel_rfl))⟩
 f22:=⟨f231.name,by kernel_rfl,func231.trans (congrArg some (by kernel_rfl))⟩
 f23:=⟨f232.name,by kernel_rfl,func232.trans (congrArg some (by kernel_rfl))⟩
 f24:=⟨f233.name,by kernel_rfl,func233.trans (congrArg some (by kernel_rfl))⟩
 f25:=⟨f234.name,by kernel_rfl,func234.trans (congrArg some (by kernel_rfl))⟩
 f26:=⟨f235.name,by kernel_rfl,func235.trans (congrArg some (by kernel_rfl))⟩
 f27:=⟨f236.name,by kernel_rfl,func236.trans (congrArg some (by kernel_rfl))⟩
 f28:=func237.trans (congrArg some (by kernel_rfl))
 f29:=func238.trans (congrArg some (by kernel_rfl))
 f46:=⟨f253.name,by kernel_rfl,func253.trans (congrArg some (by kernel_rfl))⟩
 f47:=func254.trans (congrArg some (by kernel_rfl))
 f48:=func255.trans (congrArg some (by kernel_rfl))
 f49:=⟨f256.name,by kernel_rfl,func256.trans (congrArg some (by kernel_rfl))⟩
 f50:=⟨f257.name,by kernel_rfl,func257.trans (congrArg some (by kernel_rfl))⟩
 f57:=⟨f266.name,by kernel_rfl,func266.trans (congrArg some (by kernel_rfl))⟩
 t0:=Tryz.underlying0
 a0:=Tryz.isAgg0
 z0:=sizeOf0
 v0:=zeroValue0
 t3:=Tryz.underlying3
 a3:=Tryz.isAgg3
 z3:=sizeOf3
 v3:=zeroValue3
 t4:=Tryz.underlying4
 a4:=Tryz.isAgg4
 z4:=sizeOf4
 v4:=zeroValue4
 t5:=Tryz.underlying5
 a5:=Tryz.isAgg5
 z5:=sizeOf5
 v5:=zeroValue5
 t9:=Tryz.underlying9
 a9:=Tryz.isAgg9
 z9:=sizeOf9
 v9:=zeroValue9
 t22:=Tryz.underlying143
 a22:=Tryz.isAgg143
 z22:=sizeOf143
 v22:=zeroValue143
 t25:=Tryz.underlying264
 a25:=Tryz.isAgg264
 z25:=sizeOf264
 v25:=zeroValue264
 t39:=Tryz.underlying222
 a39:=Tryz.isAgg222
 z39:=sizeOf222
 v39:=zeroValue222
 t45:=Tryz.underlying328
 a45:=Tryz.isAgg328
 z45:=sizeOf328
 v45:=zeroValue328
 t46:=Tryz.underlying329
 a46:=Tryz.isAgg329
 z46:=sizeOf329
 v46:=zeroValue329
 t50:=Tryz.underlying333
 a50:=Tryz.isAgg333
 z50:=sizeOf333
 v50:=zeroValue333
 t53:=Tryz.underlying184
 a53:=Tryz.isAgg184
 z53:=sizeOf184
 v53:=zeroValue184
 t55:=Tryz.underlying104
 a55:=Tryz.isAgg104
 z55:=sizeOf104
 v55:=zeroValue104
 t66:=Tryz.underlying345
 a66:=Tryz.isAgg345
 z66:=sizeOf345
 v66:=zeroValue345
 t70:=Tryz.underlying293
 a70:=Tryz.isAgg293
 z70:=sizeOf293
 v70:=zeroValue293
 t76:=Tryz.underlying355
 a76:=Tryz.isAgg355
 z76:=sizeOf355
 v76:=zeroValue355
 t77:=Tryz.underlying337
 a77:=Tryz.isAgg337
 z77:=sizeOf337
 v77:=zeroValue337
theorem ZtG:kI cfgMf:=⟨ZtF (by kernel_rfl),(λt h=>ZqU (Mg (by kernel_rfl) t h)),(λt h _ _ _ _ _ _ w hx hy he=>ZsB (Mg (by kernel_rfl) t h) w hx hy he),ZtZ (e:=364) (by kernel_rfl) (by kernel_rfl)⟩
theorem LK:Af cfgMf:=⟨ZtG,by kernel_rfl⟩
variable {f:FuncId} {P:FuncId->Body} {l:List FuncId}
theorem tX {A:FA} {fn:Func} (hfn:cfgMf.P.funcs[f]? =some fn) (ht:oM cfgMf A fn=P f) (r: ∀x∈l,oB cfgMf (P x) x) (hn:(fn.name== "runtime.NumGoroutine")=false:=by kernel_rfl): ∀x∈f::l,oB cfgMf (P x) x:=List.forall_mem_cons.2 ⟨oB.QP LK hfn hn ht,r⟩
theorem aP {fn:Func} (A:FA) (hfn:cfgMf.P.funcs[f]? =some fn) (r: ∀x∈l,oB cfgMf (P x) x) (ht:oM cfgMf A fn=P f:=by kernel_rfl) (hn:(fn.name== "runtime.NumGoroutine")=false:=by kernel_rfl): ∀x∈f::l,oB cfgMf (P x) x:=List.forall_mem_cons.2 ⟨oB.QP LK hfn hn ht,r⟩
noncomputable def CW:List (Nat×Body):=[(159,Am),(161,Aj),(162,Av),(163,Ak)]
theorem Zth: ∀n,ZI cfgMf (run (bdOf CW) n):=
 Zuc (cov:=[264,268,205,173,269,204,228,252,83,57,48,261,267,176,209,208,239,68,30,70,51,43,104,64,94,93,60,122,131,72,33,130,129,54,105,98,118,119,114,168,169,52,124,125,170,171,172,126,127,175,174,128,87,177,178,179,153,132,120,163,164,103,201,202,203,210,211,212,213,180,165,223,224,225,226,227,99,240,196,198,246,247,248,249,250,251,197,155,46,260,262,263,265,221,222,245,11,67,121,44,166,167,150,140,199,200,49,194,157,3,9,12,15,16,17,18,19,13,14,10,36,22,27,28,42,45,47,50,55,56,53,58,59,61,62,63,85,81,95,66,69,71,82,100,102,101,106,107,108,109,110,111,112,113,115,117,116,151,152,154,156,159,158,160,162,161,195,220]) (sub:=[176,209,208,239]) rfl (by kernel_rfl) (by kernel_rfl) (tX func176 Zis<|tX func209 Zgh<|tX func208 Zke<|tX func239 Zhs<|(λ_ h=>by cases h))
theorem Zle:DJ (bdOf CW):=⟨by kernel_rfl⟩
theorem Zjy:Dv (bdOf CW):=⟨by kernel_rfl⟩
theorem Zic:Ai (bdOf CW):=⟨by kernel_rfl,Zjy⟩
theorem Zkl:xK (bdOf CW):=⟨by kernel_rfl,Zle,Zic⟩
noncomputable def bdsMf:List (Nat×Body):=[(26,Jn),(28,KO),(34,Jt),(39,I3),(54,ZjQ),(57,He),(64,H2),(72,Io),(86,Z7),(141,IP),(145,Aw),(147,Hh),(156,Hf),(159,Am),(161,Aj),(162,Av),(163,Ak),(171,DR),(172,Ix),(173,IY),(177,Ej),(183,Iq),(184,H7),(191,JW),(192,Kd),(193,JQ),(196,I7),(197,Jw),(200,JU),(201,If),(202,Ii),(203,JB),(204,J0),(206,IZ),(209,Ij),(210,HW),(213,JF),(214,Jk),(220,Jf),(221,Ih),(222,Hg),(223,IJ),(225,JH),(226,Hx),(227,IG),(228,HV),(229,Hn),(230,HU),(231,Ho),(232,AT),(233,HQ),(234,HX),(236,Hi),(237,Jl),(238,Iv),(239,Ji),(240,Zjt),(241,Ip),(242,JV),(248,IC),(249,Ka),(253,KN),(254,HD),(255,Jr),(256,Jc),(259,IL),(260,IS),(261,IT),(262,KC),(263,Hj),(264,IW),(272,Kt),(273,H4),(274,IH),(275,Is),(276,I4),(285,DI),(286,Ke),(287,JD),(288,Jp),(295,Jv),(296,Js),(297,HM),(298,Ig),(299,HS),(300,It),(306,K9),(307,ID),(310,I9),(312,JC),(313,Il),(314,IM),(315,Ht),(317,JK),(318,Ik),(320,Ko),(325,JX),(326,J3),(327,JZ),(328,IN),(329,J8),(330,J2),(331,JE),(332,H9),(333,Hm),(334,Hl),(335,HC),(336,HO),(337,JR),(351,Hw),(352,IV),(353,Je),(354,H0),(355,HR),(356,IA),(357,Ic),(358,Iz),(359,HP),(360,HZ),(361,IK),(364,Hs),(367,I8),(372,HT),(374,Hy),(377,K0),(378,JO),(379,HE),(380,Jo),(381,H8),(382,Kg),(383,H3),(384,IB),(385,IQ),(386,Jz),(387,JY),(388,Jq),(391,Ir),(392,Hp),(393,HF),(394,Iu),(395,J7),(396,Zin),(397,HH),(398,Kw),(399,Jg),(400,Jd),(401,HN),(402,JI),(403,IX),(404,J5),(405,JG),(406,J1),(407,Jj),(408,HG),(409,IU),(410,Hq),(411,Hr),(412,II),(413,Hz),(414,Jm),(415,Jh),(416,HB),(417,Hk),(418,HI),(419,Hu),(420,Hv),(421,HY),(422,HL)]
theorem bodiesMf: ∀n,ZI cfgMf (run (bdOf bdsMf) n):=
 Ztd (cov:=[264,268,205,173,269,204,228,252,83,57,48,261,267,176,209,208,239,68,30,70,51,43,104,64,94,93,60,122,131,72,33,130,129,54,105,98,118,119,114,168,169,52,124,125,170,171,172,126,127,175,174,128,87,177,178,179,153,132,120,163,164,103,201,202,203,210,211,212,213,180,165,223,224,225,226,227,99,240,196,198,246,247,248,249,250,251,197,155,46,260,262,263,265,221,222,245,11,67,121,44,166,167,150,140,199,200,49,194,157,3,9,12,15,16,17,18,19,13,14,10,36,22,27,28,42,45,47,50,55,56,53,58,59,61,62,63,85,81,95,66,69,71,82,100,102,101,106,107,108,109,110,111,112,113,115,117,116,151,152,154,156,159,158,160,162,161,195,220]) rfl (by kernel_rfl) (aP ⟨[],(.n .z (.n .z (.n (.n .z (.j [(3,bE)] (.j [(3,bE),(7,.t)] .z .z) .z)) .z))),false⟩ func264<|aP ⟨[4],(.n .z (.n (.n .z (.j [] (.j [(6,bE)] .z .z) .z)) .z)),false⟩ func268<|aP ⟨[],(.n .z (.n .z (.n (.n .z (.j [(3,gP)] (.j [(3,gP),(7,.t)] .z .z) .z)) .z))),true⟩ func205<|aP ⟨[],.z,false⟩ func173<|aP ⟨[0],.z,false⟩ func269<|aP ⟨[],(.n .z (.n (.n .z (.j [] (.j [(11,bE)] .z .z) .z)) .z)),false⟩ func204<|aP ⟨[],.z,false⟩ func228<|aP ⟨[],.z,false⟩ func252<|tX func83 Zh0<|aP ⟨[1],.z,false⟩ func57<|aP ⟨[1],.z,false⟩ func48<|aP ⟨[],.z,false⟩ func261<|aP ⟨[],(.n .z (.n (.n .z (.j [] (.j [(8,bE)] .z .z) .z)) .z)),false⟩ func267<|tX func176 Zis<|tX func209 Zgh<|tX func208 Zke<|tX func239 Zhs<|List.forall_mem_cons.2 ⟨(λ_ n _ _ _ hc h=>Zs6 (n:=n) LK hc func68 (by kernel_rfl) func123 (by kernel_rfl) (by kernel_rfl) (by rw[ZpH];exact h)),aP ⟨[],(.n .z (.n .z (.n (.n .z (.j [(3,gP)] (.j [(3,gP),(11,bE)] (.n .z (.n .z (.n (.j [(3,gP)] (.n .z (.j [(3,gP)] (.j [(3,gP),(5,.v (.b (.int .u64)))] .z .z) .z)) .z) .z))) .z) .z)) .z))),false⟩ func30<|aP ⟨[4,7,13],(.n .z (.n .z (.n .z (.n .z (.n (.n .z (.j [(10,.v (.b (.slice 49)))] (.j [(10,.v (.b (.slice 49))),(39,bE)] .z .z) .z)) .z))))),false⟩ func70<|aP ⟨[],.z,false⟩ func51<|aP ⟨[],(.n .z (.n .z (.n (.n .z (.j [(3,bE)] (.j [(3,bE),(11,bE)] .z .z) .z)) .z))),false⟩ func43<|aP ⟨[],.z,false⟩ func104<|aP ⟨[1],(.n .z (.n .z (.n .z (.n (.n .z (.j [(3,.v (.b (.str)))] (.j [(3,.v (.b (.str))),(4,bE)] .z .z) .z)) .z)))),false⟩ func64<|aP ⟨[4,5],(.n .z (.n .z (.n (.n .z (.j [(5,.l [.int .i64,.gR 48])] (.j [(5,.l [.int .i64,.gR 48]),(6,bE)] (.n .z (.n (.n (.n .z (.j [(5,.l [.int .i64,.gR 48])] .z .z)) .z) .z)) .z) .z)) .z))),false⟩ func94<|aP ⟨[],.z,false⟩ func93<|aP ⟨[1],.z,false⟩ func60<|aP ⟨[],(.n .z (.n .z (.n .z (.n .z (.n (.n .z (.j [] (.j [(102,bE)] .z .z) .z)) .z))))),false⟩ func122<|aP ⟨[8],(.n .z (.n .z (.n .z (.n (.n .z (.j [] (.j [(27,bE)] .z .z) .z)) .z)))),false⟩ func131<|aP ⟨[],.z,false⟩ func72<|aP ⟨[],.z,false⟩ func33<|aP ⟨[],.z,true⟩ func130<|aP ⟨[2],.z,false⟩ func129<|aP ⟨[],(.n .z (.j [] (.j [(8,bE)] (.n .z (.n .z (.n (.n (.n .z (.n .z (.j [] .z .z))) .z) .z))) .z) .z)),false⟩ func54<|aP ⟨[],.z,false⟩ func105<|aP ⟨[],.z,false⟩ func98<|aP ⟨[],(.n .z (.n .z (.n (.n .z (.j [(5,.v (.b (.str)))] (.j [(5,.v (.b (.str))),(6,bE)] .z .z) .z)) .z))),false⟩ func118<|aP ⟨[],.z,false⟩ func119<|aP ⟨[],(.n .z (.n .z (.n (.j [(5,bE)] (.j [(5,bE)] .z .z) .z) .z))),false⟩ func114<|aP ⟨[],.z,false⟩ func168<|aP ⟨[],.z,false⟩ func169<|aP ⟨[1],.z,false⟩ func52<|aP ⟨[],(.n .z (.j [] .z .z)),false⟩ func124<|aP ⟨[],(.n .z (.n .z (.n .z (.j [] (.j [(32,bE)] (.n .z (.n .z (.n (.j [] (.n .z (.n .z (.n .z (.n .z (.n .z (.j [] (.j [(52,bE)] (.n .z (.n .z (.n (.n (.n .z (.n .z (.n .z (.j [] .z .z)))) .z) .z))) .z) .z)))))) .z) .z))) .z) .z)))),false⟩ func125<|aP ⟨[],.z,false⟩ func170<|aP ⟨[],.z,false⟩ func171<|aP ⟨[7],(.n .z (.j [] (.j [(13,bE)] (.n .z (.n .z (.n (.j [] .z .z) .z))) .z) .z)),false⟩ func172<|aP ⟨[5,7],(.n .z (.n (.n .z (.j [] (.j [(3,bE)] .z .z) .z)) (.n .z (.j [] (.j [(86,bE)] .z .z) .z)))),false⟩ func126<|aP ⟨[4,5],(.n .z (.n .z (.j [] (.j [(24,bE)] (.n .z (.n .z (.n (.j [] (.n .z (.n .z (.n .z (.n .z (.n (.n .z (.j [(5,.l [.str,.slice 4])] (.j [(5,.l [.str,.slice 4]),(57,bE)] (.n .z (.n .z (.n (.n (.n .z (.n .z (.j [(5,.l [.str,.slice 4])] .z .z))) .z) .z))) .z) .z)) .z))))) .z) .z))) .z) .z))),false⟩ func127<|List.forall_mem_cons.2 ⟨ZpX ZqM Tryz.isAgg216 sizeOf216 rfl func175 (by kernel_rfl) (by kernel_rfl) (Zth 100) (fc:=176) (by kernel_rfl) (by kernel_rfl) (λk hk he=>cO (by have:=has_all (P:=λk=> !Nat.beq (cfgMf.fn k) 159||Nat.beq k 176) (l:=[264,268,205,173,269,204,228,252,83,57,48,261,267,176,209,208,239,68,30,70,51,43,104,64,94,93,60,122,131,72,33,130,129,54,105,98,118,119,114,168,169,52,124,125,170,171,172,126,127,175,174,128,87,177,178,179,153,132,120,163,164,103,201,202,203,210,211,212,213,180,165,223,224,225,226,227,99,240,196,198,246,247,248,249,250,251,197,155,46,260,262,263,265,221,222,245,11,67,121,44,166,167,150,140,199,200,49,194,157,3,9,12,15,16,17,18,19,13,14,10,36,22,27,28,42,45,47,50,55,56,53,58,59,61,62,63,85,81,95,66,69,71,82,100,102,101,106,107,108,109,110,111,112,113,115,117,116,151,152,154,156,159,158,160,162,161,195,220]) (by kernel_rfl) k hk;rw[he]at this;simpa using this)) func176 (by kernel_rfl) (by kernel_rfl) (N:=100) (λg hg=>by have:=has_all (P:=λg=>Nat.blt (cfgMf.gl g) 100) (l:=[0]) (by kernel_rfl) g hg;rwa [lP]at this) (λx y=>ZtQ Zkl _ x y),aP ⟨[9,10,11],(.n .z (.n .z (.n .z (.n (.j [(7,.v (.b (.slice 4)))] (.j [(7,.v (.b (.slice 4))),(8,.v (.b (.slice 7)))] (.n .z (.j [(7,.v (.b (.slice 4))),(8,.v (.b (.slice 7)))] (.n .z (.n .z (.n .z (.n .z (.n .z (.n .z (.n .z (.n .z (.n .z (.j [(8,.v (.b (.slice 7)))] (.j [(8,.v (.b (.slice 7))),(100,bE)] .z .z) .z)))))))))) .z)) .z) .z) .z)))),false⟩ func174<|aP ⟨[5],(.n .z (.n .z (.n (.n .z (.j [(3,bE)] (.j [(3,bE),(11,bE)] (.n .z (.n .z (.n (.n (.n .z (.n .z (.n .z (.j [(3,bE)] .z .z)))) .z) .z))) .z) .z)) .z))),false⟩ func128<|aP ⟨[],(.n .z (.n .z (.n (.n .z (.j [] (.j [(13,bE)] .z .z) .z)) .z))),false⟩ func87<|aP ⟨[],.z,true⟩ func177<|aP ⟨[],(.n .z (.n .z (.n (.n .z (.j [] (.j [(21,bE)] .z .z) .z)) .z))),false⟩ func178<|aP ⟨[1],(.n .z (.n .z (.n (.n .z (.j [(3,gP)] (.j [(3,gP),(6,bE)] (.n .z (.n .z (.n (.n (.n .z (.n .z (.n .z (.j [(3,gP)] .z .z)))) .z) .z))) .z) .z)) .z))),true⟩ func179<|aP ⟨[],.z,false⟩ func153<|aP ⟨[],.z,false⟩ func132<|aP ⟨[],(.n .z (.n .z (.n (.n .z (.j [(3,.v (.b (.int .u32)))] (.j [(3,.v (.b (.int .u32))),(4,bE)] .z .z) .z)) .z))),false⟩ func120<|aP ⟨[],(.n .z (.n (.n .z (.j [(0,.v (.b (.int .u64)))] (.j [(0,.v (.b (.int .u64))),(5,bE)] .z .z) .z)) .z)),false⟩ func163<|aP ⟨[],.z,false⟩ func164<|aP ⟨[],.z,false⟩ func103<|aP ⟨[],(.n .z (.n (.n .z (.j [] (.j [(8,bE)] .z .z) .z)) .z)),false⟩ func201<|aP ⟨[],.z,false⟩ func202<|aP ⟨[3,5,7,9,11],.z,false⟩ func203<|aP ⟨[],.z,false⟩ func210<|aP ⟨[],.z,true⟩ func211<|aP ⟨[],.z,false⟩ func212<|aP ⟨[2],.z,false⟩ func213<|aP ⟨[],.z,false⟩ func180<|aP ⟨[],(.n .z (.n (.n .z (.j [(0,.v (.b (.int .u32)))] (.j [(0,.v (.b (.int .u32))),(5,bE)] .z .z) .z)) .z)),false⟩ func165<|aP ⟨[2,8],(.n .z (.n .z (.n .z (.n .z (.n (.n .z (.j [(8,.l [.int .i64,.int .i64,.int .i64,.int .i64,.slice 1])] (.j [(8,.l [.int .i64,.int .i64,.int .i64,.int .i64,.slice 1]),(41,bE)] .z .z) .z)) .z))))),true⟩ func223<|aP ⟨[2,8,11],(.n .z (.n .z (.n .z (.n .z (.n (.n .z (.j [(2,.l [.gR 21]),(8,.l [.gR 21])] (.j [(2,.l [.gR 21]),(8,.l [.gR 21]),(30,bE)] .z .z) .z)) .z))))),false⟩ func224<|aP ⟨[2,8],(.n .z (.n .z (.n .z (.n .z (.n (.n .z (.j [(8,.l [.gR 16])] (.j [(8,.l [.gR 16]),(36,bE)] .z .z) .z)) .z))))),false⟩ func225<|aP ⟨[2,8],(.n .z (.n .z (.n .z (.n .z (.n (.n .z (.j [(8,.l [.str,.int .i64,.gR 12])] (.j [(8,.l [.str,.int .i64,.gR 12]),(51,bE)] .z .z) .z)) .z))))),false⟩ func226<|aP ⟨[2,8],(.n .z (.n .z (.n .z (.n .z (.n (.n .z (.j [(8,.l [.slice 1])] (.j [(8,.l [.slice 1]),(41,bE)] .z .z) .z)) .z))))),true⟩ func227<|aP ⟨[],(.n .z (.n .z (.n (.n .z (.j [(3,.v (.b (.int .u64)))] (.j [(3,.v (.b (.int .u64))),(12,bE)] .z .z) .z)) .z))),false⟩ func99<|aP ⟨[],.z,false⟩ func240<|aP ⟨[2],.z,false⟩ func196<|aP ⟨[],.z,false⟩ func198<|aP ⟨[],.z,false⟩ func246<|aP ⟨[1,3],.z,false⟩ func247<|aP ⟨[1],.z,false⟩ func248<|aP ⟨[1],(.n .z (.n (.n .z (.j [] (.j [(7,bE)] .z .z) .z)) .z)),false⟩ func249<|aP ⟨[1],(.n .z (.n .z (.n (.n .z (.j [] (.j [(21,bE)] .z .z) .z)) .z))),false⟩ func250<|aP ⟨[1],(.n .z (.n .z (.n (.n .z (.j [] (.j [(18,bE)] .z .z) .z)) .z))),false⟩ func251<|aP ⟨[],(.n .z (.n .z (.n (.n .z (.j [(4,.v (.b (.int .u32)))] (.j [(4,.v (.b (.int .u32))),(10,bE)] .z .z) .z)) .z))),false⟩ func197<|aP ⟨[1],.z,false⟩ func155<|aP ⟨[],(.n .z (.n .z (.n (.n .z (.j [(3,.v (.b (.int .u64)))] (.j [(3,.v (.b (.int .u64))),(4,bE)] (.n .z (.n (.n (.n .z (.j [(3,.v (.b (.int .u64)))] .z .z)) .z) .z)) .z) .z)) .z))),false⟩ func46<|aP ⟨[],.z,false⟩ func260<|aP ⟨[],.z,false⟩ func262<|aP ⟨[],.z,false⟩ func263<|aP ⟨[],.z,false⟩ func265<|aP ⟨[0,1],(.n .z (.n .z (.n (.n .z (.j [(1,.l [.gR 16])] (.j [(1,.l [.gR 16]),(4,bE)] (.n .z (.n .z (.n (.j [(1,.l [.gR 16])] (.n .z (.n .z (.n (.n .z (.j [(3,.v (.b (.int .u32)))] (.j [(3,.v (.b (.int .u32))),(9,bE)] .z .z) .z)) .z))) .z) .z))) .z) .z)) .z))),false⟩ func221<|aP ⟨[],(.n .z (.n (.n .z (.j [(1,.v (.b (.int .u32)))] (.j [(1,.v (.b (.int .u32))),(11,bE)] .z .z) .z)) .z)),false⟩ func222<|aP ⟨[],.z,false⟩ func245<|aP ⟨[],(.n .z (.n .z (.n .z (.n (.n .z (.j [] (.j [(19,bE)] .z .z) .z)) .z)))),false⟩ func11<|aP ⟨[2,6],(.n .z (.n (.n .z (.j [(2,.l [.int .i64,.int .i64,.int .i64,.int .i64,.int .i64,.int .i64,.int .i64,.int .i64,.slice 1]),(3,bE),(4,.v (.b (.bool)))] (.j [(2,.l [.int .i64,.int .i64,.int .i64,.int .i64,.int .i64,.int .i64,.int .i64,.int .i64,.slice 1]),(3,bE),(4,.v (.b (.bool))),(8,bE)] (.n .z (.n .z (.n (.n (.n .z (.n .z (.n .z (.j [(2,.l [.int .i64,.int .i64,.int .i64,.int .i64,.int .i64,.int .i64,.int .i64,.int .i64,.slice 1]),(3,bE),(4,.v (.b (.bool)))] .z .z)))) .z) .z))) .z) .z)) .z)),false⟩ func67<|aP ⟨[4],.z,false⟩ func121<|aP ⟨[],(.n .z (.n .z (.n (.j [(3,gP)] (.j [(0,gP),(3,gP)] .z .z) .z) .z))),true⟩ func44<|aP ⟨[],(.n .z (.n .z (.n .z (.n (.n .z (.j [] (.j [(17,bE)] .z .z) .z)) .z)))),false⟩ func166<|aP ⟨[2,1000000],(.n .z (.n .z (.n .z (.n .z (.n .z (.n .z (.n (.n .z (.j [] (.j [(48,bE)] .z .z) .z)) (.n .z (.n (.n .z (.j [] (.j [(61,bE)] .z .z) .z)) .z))))))))),true⟩ func167<|aP ⟨[],.z,false⟩ func150<|aP ⟨[],(.n .z (.n .z (.n (.n .z (.j [(3,gP)] (.j [(3,gP),(8,bE)] .z .z) .z)) .z))),false⟩ func140<|aP ⟨[],.z,false⟩ func199<|aP ⟨[],.z,false⟩ func200<|aP ⟨[],.z,false⟩ func49<|aP ⟨[],.z,false⟩ func194<|aP ⟨[],(.n .z (.n .z (.n .z (.n (.n .z (.j [] (.j [(0,.v (.b (.int .u64))),(17,bE)] .z .z) .z)) .z)))),true⟩ func157<|aP ⟨[4,5],(.n .z (.n .z (.n .z (.n .z (.n (.n .z (.j [] .z .z)) .z))))),false⟩ func3<|aP ⟨[3],.z,false⟩ func9<|aP ⟨[],(.n .z (.n .z (.n (.n .z (.j [(3,bE)] .z .z)) (.n .z (.n (.n .z (.j [] (.j [(5,bE)] .z .z) .z)) .z))))),false⟩ func12<|aP ⟨[],.z,false⟩ func15<|aP ⟨[],.z,false⟩ func16<|aP ⟨[3,6],(.n .z (.n .z (.n .z (.n .z (.n .z (.n (.n .z (.j [(6,.l [.int .i64,.int .i64,.int .i64,.int .i64,.int .i64,.int .i64,.int .i64,.int .i64,.slice 1])] (.j [(6,.l [.int .i64,.int .i64,.int .i64,.int .i64,.int .i64,.int .i64,.int .i64,.int .i64,.slice 1]),(37,bE)] .z .z) .z)) .z)))))),false⟩ func17<|aP ⟨[3,6],(.n .z (.n .z (.n .z (.n .z (.n .z (.n .z (.n .z (.n .z (.n (.n .z (.j [(6,.l [.int .i64,.int .i64,.int .i64,.int .i64,.int .i64,.int .i64,.int .i64,.int .i64,.slice 1]),(7,gP)] (.j [(6,.l [.int .i64,.int .i64,.int .i64,.int .i64,.int .i64,.int .i64,.int .i64,.int .i64,.slice 1]),(7,gP),(8,bE)] .z .z) .z)) .z))))))))),false⟩ func18<|aP ⟨[],.z,false⟩ func19<|aP ⟨[],.z,false⟩ func13<|aP ⟨[],(.n .z (.j [] .z .z)),false⟩ func14<|aP ⟨[1],.z,false⟩ func10<|aP ⟨[],.z,false⟩ func36<|aP ⟨[2,4,8,11],.z,false⟩ func22<|aP ⟨[],.z,false⟩ func27<|aP ⟨[],.z,false⟩ func28<|aP ⟨[],.z,false⟩ func42<|aP ⟨[],.z,false⟩ func45<|aP ⟨[],.z,true⟩ func47<|aP ⟨[],(.n .z (.n .z (.n (.n .z (.j [] (.j [(11,bE)] .z .z) .z)) .z))),false⟩ func50<|aP ⟨[8],(.n .z (.n (.n .z (.j [] (.j [(15,bE)] .z .z) .z)) .z)),false⟩ func55<|aP ⟨[5],.z,false⟩ func56<|aP ⟨[],(.n .z (.n (.n .z (.j [] (.j [(5,bE)] .z .z) .z)) .z)),false⟩ func53<|aP ⟨[],.z,false⟩ func58<|aP ⟨[],(.n .z (.n .z (.n (.n .z (.j [(3,bE)] .z .z)) (.n (.n .z (.j [(3,bE)] .z .z)) .z)))),false⟩ func59<|aP ⟨[],(.n .z (.n (.n .z (.j [] (.j [(7,bE)] .z .z) .z)) .z)),false⟩ func61<|aP ⟨[5],(.n .z (.n .z (.n .z (.n (.n .z (.j [(8,bE)] .z .z)) (.n (.n .z (.j [(8,bE)] (.j [(8,bE),(9,bE)] .z .z) .z)) (.n (.n .z (.j [(8,bE)] .z .z)) (.n (.n .z (.j [(8,bE)] .z .z)) (.n (.n .z (.j [(8,bE)] .z .z)) (.n (.n .z (.j [(8,bE)] .z .z)) .z))))))))),false⟩ func62<|aP ⟨[],(.n .z (.n .z (.n (.n .z (.j [(3,gP)] (.j [(3,gP),(4,bE)] (.n .z (.n (.j [(3,gP)] (.n .z (.j [(3,gP)] (.j [(3,gP),(5,bE)] .z .z) .z)) .z) .z)) .z) .z)) .z))),false⟩ func63<|aP ⟨[],.z,false⟩ func85<|aP ⟨[],(.n .z (.n .z (.n (.n .z (.j [] (.j [(18,bE)] .z .z) .z)) .z))),false⟩ func81<|aP ⟨[],.z,false⟩ func95<|aP ⟨[],.z,false⟩ func66<|aP ⟨[10,12],.z,false⟩ func69<|aP ⟨[4,6,8],(.n .z (.n .z (.n .z (.n .z (.n .z (.n .z (.n .z (.n .z (.n (.n .z (.j [(6,.l [.int .i64,.int .i64,.int .i64,.int .i64,.int .i64,.int .i64,.int .i64,.int .i64,.slice 1,.int .i64,.ptr,.ptr]),(8,.l [.int .i64,.int .i64,.int .i64,.int .i64,.int .i64,.int .i64,.int .i64,.int .i64,.slice 1])] (.j [(6,.l [.int .i64,.int .i64,.int .i64,.int .i64,.int .i64,.int .i64,.int .i64,.int .i64,.slice 1,.int .i64,.ptr,.ptr]),(8,.l [.int .i64,.int .i64,.int .i64,.int .i64,.int .i64,.int .i64,.int .i64,.int .i64,.slice 1]),(46,bE)] .z .z) .z)) .z))))))))),false⟩ func71<|aP ⟨[],.z,false⟩ func82<|aP ⟨[],.z,false⟩ func100<|aP ⟨[],.z,false⟩ func102<|aP ⟨[],.z,false⟩ func101<|aP ⟨[],(.n .z (.n .z (.n (.n .z (.j [(3,.v (.b (.slice 49)))] (.j [(3,.v (.b (.slice 49))),(13,bE)] .z .z) .z)) (.n (.n .z (.j [] (.j [(25,bE)] .z .z) .z)) .z)))),false⟩ func106<|aP ⟨[],.z,true⟩ func107<|aP ⟨[],.z,false⟩ func108<|aP ⟨[1],(.n .z (.n .z (.n .z (.n (.n .z (.j [(4,gP)] (.j [(4,gP),(36,bE)] .z .z) .z)) (.n (.n .z (.j [(4,gP)] (.j [(4,gP),(55,bE)] .z .z) .z)) .z))))),true⟩ func109<|aP ⟨[],.z,false⟩ func110<|aP ⟨[],(.n .z (.n (.n .z (.j [] (.j [(7,bE)] .z .z) .z)) .z)),false⟩ func111<|aP ⟨[],.z,false⟩ func112<|aP ⟨[],(.n .z (.n .z (.n (.n .z (.j [] (.n (.n .z (.j [] (.j [(4,bE)] (.n .z (.n (.n (.n .z (.j [] .z .z)) .z) .z)) .z) .z)) .z) .z)) .z))),false⟩ func113<|aP ⟨[],(.n .z (.n .z (.n (.n .z (.j [] (.j [(7,bE)] .z .z) .z)) .z))),false⟩ func115<|aP ⟨[],(.n .z (.n .z (.n (.n .z (.j [] (.n (.n .z (.j [] (.j [(6,bE)] .z .z) .z)) .z) .z)) .z))),false⟩ func117<|aP ⟨[],(.n .z (.n .z (.n (.n .z (.j [] .z .z)) .z))),false⟩ func116<|aP ⟨[],(.n .z (.n (.n .z (.j [] (.j [(14,bE)] .z .z) .z)) .z)),false⟩ func151<|aP ⟨[],(.n .z (.n .z (.n (.n .z (.j [] (.j [(16,bE)] (.n .z (.n .z (.n (.n (.n .z (.n .z (.n .z (.j [] .z .z)))) .z) .z))) .z) .z)) .z))),false⟩ func152<|aP ⟨[3,6],(.n .z (.n .z (.n .z (.n .z (.n (.n .z (.j [(3,.l [.int .i64,.gR 48])] .z .z)) .z))))),false⟩ func154<|aP ⟨[],.z,true⟩ func156<|aP ⟨[],(.n .z (.n .z (.n (.n .z (.j [] (.j [(16,bE)] .z .z) .z)) .z))),false⟩ func159<|aP ⟨[],.z,false⟩ func158<|aP ⟨[],.z,false⟩ func160<|aP ⟨[],(.n .z (.n (.n .z (.j [] (.n .z (.n .z (.j [] .z .z))) .z)) (.n .z (.n .z (.n .z (.j [] .z .z)))))),false⟩ func162<|aP ⟨[],.z,false⟩ func161<|aP ⟨[],(.n .z (.n (.n .z (.n .z (.j [] .z .z))) (.n .z (.j [] .z .z)))),false⟩ func195<|aP ⟨[],.z,false⟩ func220<|(λ_ h=>by cases h)⟩⟩)
theorem ZiC:DJ (bdOf bdsMf):=⟨by kernel_rfl⟩
theorem Zgg:Dv (bdOf bdsMf):=⟨by kernel_rfl⟩
theorem ZeT:Ai (bdOf bdsMf):=⟨by kernel_rfl,Zgg⟩
theorem Zlb:xK (bdOf bdsMf):=⟨by kernel_rfl,ZiC,ZeT⟩
theorem has_law28_MendFormats:HA (bdOf bdsMf):=by constructor<;>first|kernel_rfl|exact Zlb|exact ZeT|exact ZiC|exact Zgg
end Go.Gv
