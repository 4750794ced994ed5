/- The ties of a seat: written by gvseat.py. -/
import Derived.Test.YtegglibipjjblaaGreatDoorGvZRun
import Derived.Test.YtegglibipjjblaaGreatDoorGvSortOk
import Derived.Test.YtegglibipjjblaaGreatDoorGvZLaw
import Derived.Test.YtegglibipjjblaaGreatDoorGvZBod
import Derived.Test.YtegglibipjjblaaGreatDoorGvBMk
import Derived.Test.YtegglibipjjblaaGreatDoorProg
namespace Go.Gv
open Go.Proofs
set_option maxRecDepth 100000
noncomputable section
noncomputable def cfgMt:aM:=⟨Tryz.prog,wO [(145,12),(177,15),(199,19),(209,26),(112,27),(218,28),(146,29),(134,34),(100,39),(113,40),(220,54),(133,57),(161,64),(191,72),(64,86),(24,113),(58,114),(29,133),(18,136),(15,138),(70,141),(72,142),(68,143),(71,144),(93,145),(206,147),(55,153),(28,155),(217,156),(103,159),(138,161),(137,162),(172,163),(3,168),(14,169),(16,170),(17,171),(21,172),(20,173),(19,174),(23,177),(25,179),(31,183),(30,184),(40,188),(41,189),(42,190),(39,191),(47,192),(46,193),(45,194),(44,195),(43,196),(48,197),(56,198),(57,199),(62,200),(63,201),(59,202),(61,203),(60,204),(66,206),(73,209),(74,210),(85,213),(86,214),(89,215),(88,216),(87,217),(91,218),(90,219),(92,220),(94,221),(96,222),(95,223),(50,225),(51,226),(97,227),(98,228),(99,229),(52,230),(53,231),(102,232),(101,233),(54,234),(104,235),(105,236),(106,237),(107,238),(109,239),(108,240),(110,241),(111,242),(124,248),(125,249),(126,250),(127,251),(128,252),(129,253),(130,254),(131,255),(132,256),(139,259),(140,260),(141,261),(142,262),(143,263),(144,264),(156,272),(157,273),(158,274),(159,275),(160,276),(174,285),(173,286),(175,287),(176,288),(185,295),(186,296),(187,297),(188,298),(189,299),(190,300),(197,306),(198,307),(205,312),(207,313),(208,314),(210,315),(212,317),(213,318),(219,320)],has [145,177,199,209,112,218,146,134,100,113,220,133,161,191,64,24,58,29,18,15,70,72,68,71,93,206,55,28,217,103,138,137,172,3,14,16,17,21,20,19,23,25,31,30,40,41,42,39,47,46,45,44,43,48,56,57,62,63,59,61,60,66,73,74,85,86,89,88,87,91,90,92,94,96,95,50,51,97,98,99,52,53,102,101,54,104,105,106,107,109,108,110,111,124,125,126,127,128,129,130,131,132,139,140,141,142,143,144,156,157,158,159,160,174,173,175,176,185,186,187,188,189,190,197,198,205,207,208,210,212,213,219],Kv [(9,0),(143,4),(159,5),(163,2),(166,1),(171,3),(202,6)],wO [(0,2)],has [0],DQ [(23,[.int .i64,.int .i64,.int .i64]),(62,[.int .i64,.int .i64,.int .i64,.int .i64]),(137,[.bool,.int .i64,.int .i64])],has [101]⟩
theorem Zsv:aP cfgMt ⟨[],(.n .z (.n .z (.n (.j [(3,.v (.b (.slice 1)))] (.j [(0,.v (.b (.str))),(3,.v (.b (.slice 1)))] .z .z) .z) .z))),true⟩ Tryz.f145=FT:=by kernel_rfl
theorem Zr8:aP cfgMt ⟨[],(.n .z (.n .z (.n .z (.n (.n (.n .z (.n .z (.n .z (.n .z (.n .z (.j [] (.n (.n .z (.j [(5,.v (.b (.int .u8)))] .z .z)) (.n (.n .z (.j [(6,.v (.b (.int .u8)))] .z .z)) .z)) (.n .z (.j [] (.n (.n .z (.j [(5,.v (.b (.int .u8)))] .z .z)) (.n (.n .z (.j [(6,.v (.b (.int .u8)))] .z .z)) .z)) .z)))))))) .z) .z)))),false⟩ Tryz.f177=Gg:=by kernel_rfl
theorem Zof:aP cfgMt ⟨[],.z,false⟩ Tryz.f199=FH:=by kernel_rfl
theorem ZtP:aP cfgMt ⟨[],(.n .z (.n .z (.n (.n .z (.j [(3,.v (.b (.int .i64)))] (.j [(3,.v (.b (.int .i64))),(7,.t)] .z .z) .z)) .z))),false⟩ Tryz.f209=Gy:=by kernel_rfl
theorem Zr4:aP cfgMt ⟨[],(.n .z (.n .z (.n .z (.n (.n .z (.j [(4,.v (.b (.bool)))] (.j [(4,.v (.b (.bool))),(5,.v (.b (.int .i64)))] .z .z) .z)) .z)))),false⟩ Tryz.f112=Gu:=by kernel_rfl
theorem Zx7:aP cfgMt ⟨[4],(.n .z (.n (.n .z (.j [] (.j [(6,.v (.b (.int .i64)))] .z .z) .z)) .z)),false⟩ Tryz.f218=H5:=by kernel_rfl
theorem ZwN:aP cfgMt ⟨[],.z,false⟩ Tryz.f146=Hw:=by kernel_rfl
theorem Ztb:aP cfgMt ⟨[],(.n .z (.n .z (.n (.n .z (.j [(3,.v (.b (.slice 1)))] (.j [(3,.v (.b (.slice 1))),(7,.t)] .z .z) .z)) .z))),true⟩ Tryz.f134=Gz:=by kernel_rfl
theorem Zqv:aP cfgMt ⟨[],.z,false⟩ Tryz.f100=Fp:=by kernel_rfl
theorem ZoQ:aP cfgMt ⟨[],(.n .z (.n .z (.n (.n .z (.j [] (.j [(7,.v (.b (.int .i64)))] .z .z) .z)) .z))),false⟩ Tryz.f113=Fw:=by kernel_rfl
theorem Zun:aP cfgMt ⟨[0],.z,false⟩ Tryz.f220=Mi:=by kernel_rfl
theorem ZhC:aP cfgMt ⟨[],(.n .z (.n (.n .z (.j [] (.j [(11,.v (.b (.int .i64)))] .z .z) .z)) .z)),false⟩ Tryz.f133=EL:=by kernel_rfl
theorem Zmd:aP cfgMt ⟨[],.z,false⟩ Tryz.f161=EP:=by kernel_rfl
theorem ZnF:aP cfgMt ⟨[],.z,false⟩ Tryz.f191=FQ:=by kernel_rfl
theorem ZjW:aP cfgMt ⟨[],.z,false⟩ Tryz.f64=BC:=ZAv (fun c=>by kernel_rfl) (by kernel_rfl)
theorem ZsZ:aP cfgMt ⟨[],(.n .z (.n .z (.n (.n .z (.j [] (.j [(5,.v (.b (.int .i64)))] .z .z) .z)) .z))),false⟩ Tryz.f24=zw:=by kernel_rfl
theorem Zjy:aP cfgMt ⟨[],(.n .z (.n .z (.n (.n .z (.j [] (.j [(13,.v (.b (.int .i64)))] .z .z) .z)) .z))),false⟩ Tryz.f58=EK:=by kernel_rfl
theorem ZvK:aP cfgMt ⟨[1,7],(.n .z (.n .z (.n .z (.n .z (.n .z (.n .z (.n (.n .z (.j [] (.j [(6,.v (.b (.int .i64)))] .z .z) .z)) (.n (.n .z (.j [] (.j [(8,.v (.b (.int .i64)))] .z .z) .z)) (.n (.n .z (.j [] (.j [(10,.v (.b (.int .i64)))] .z .z) .z)) .z))))))))),false⟩ Tryz.f29=GS:=by kernel_rfl
theorem Zur:aP cfgMt ⟨[2,3],(.n .z (.n .z (.n (.n .z (.j [] (.j [(5,.v (.b (.int .i64)))] .z .z) .z)) .z))),false⟩ Tryz.f18=GK:=by kernel_rfl
theorem Zsa:aP cfgMt ⟨[1],(.n .z (.n .z (.n (.n .z (.j [] (.j [(3,.v (.b (.int .i64)))] .z .z) .z)) .z))),false⟩ Tryz.f15=FV:=by kernel_rfl
theorem Zr3:aP cfgMt ⟨[1],.z,false⟩ Tryz.f70=FX:=by kernel_rfl
theorem Zpe:aP cfgMt ⟨[1],(.n .z (.n .z (.n (.n .z (.j [(3,.v (.b (.slice 4)))] (.j [(3,.v (.b (.slice 4))),(4,.v (.b (.int .i64)))] .z .z) .z)) .z))),true⟩ Tryz.f72=FR:=by kernel_rfl
theorem ZuM:aP cfgMt ⟨[],(.n .z (.n (.n .z (.j [] (.j [(5,.v (.b (.int .i64)))] .z .z) .z)) .z)),false⟩ Tryz.f68=Hu:=by kernel_rfl
theorem ZrF:aP cfgMt ⟨[],(.n .z (.n .z (.n (.n .z (.j [] (.j [(3,.v (.b (.int .i64)))] (.n .z (.n (.j [] (.n .z (.n .z (.j [] (.j [(4,.v (.b (.int .i64)))] .z .z) .z))) .z) .z)) .z) .z)) .z))),false⟩ Tryz.f71=Ga:=by kernel_rfl
theorem Zut:aP cfgMt ⟨[1],.z,false⟩ Tryz.f93=zu:=by kernel_rfl
theorem Zf8:aP cfgMt ⟨[],.z,false⟩ Tryz.f206=Z2:=by kernel_rfl
theorem ZoO:aP cfgMt ⟨[],(.n .z (.n .z (.n (.n .z (.j [] (.j [(5,.v (.b (.int .i64)))] .z .z) .z)) .z))),false⟩ Tryz.f55=xu:=by kernel_rfl
theorem Zsc:aP cfgMt ⟨[2,3],.z,false⟩ Tryz.f28=F9:=by kernel_rfl
theorem ZhK:aP cfgMt ⟨[],(.n .z (.n (.n .z (.j [] (.j [(8,.v (.b (.int .i64)))] .z .z) .z)) .z)),false⟩ Tryz.f217=EM:=by kernel_rfl
theorem Zkr:aP cfgMt ⟨[2,3],.z,false⟩ Tryz.f103=BH:=by kernel_rfl
theorem ZhN:aP cfgMt ⟨[],.z,false⟩ Tryz.f138=BI:=by kernel_rfl
theorem ZmD:aP cfgMt ⟨[],(.n .z (.n .z (.n (.n .z (.j [] (.j [(8,.v (.b (.int .i64)))] .z .z) .z)) .z))),false⟩ Tryz.f137=BK:=by kernel_rfl
theorem Zjj:aP cfgMt ⟨[],.z,false⟩ Tryz.f172=BJ:=by kernel_rfl
theorem Zmj:aP cfgMt ⟨[2,6,8],(.n .z (.n .z (.n .z (.n .z (.n .z (.n .z (.n .z (.n (.n .z (.j [] (.j [(12,.v (.b (.int .i64)))] .z .z) .z)) .z)))))))),false⟩ Tryz.f3=EY:=by kernel_rfl
theorem ZrQ:aP cfgMt ⟨[2,4],.z,false⟩ Tryz.f14=F6:=by kernel_rfl
theorem Zsq:aP cfgMt ⟨[3,7,10],(.n .z (.n .z (.n .z (.n .z (.n .z (.n .z (.n .z (.n .z (.n (.n .z (.j [(10,.l [.int .i64,.int .i64,.int .i64,.int .i64,.int .i64,.int .i64,.int .i64,.int .i64,.slice 1])] .z .z)) (.n .z (.n (.n .z (.j [(10,.l [.int .i64,.int .i64,.int .i64,.int .i64,.int .i64,.int .i64,.int .i64,.int .i64,.slice 1])] (.j [(10,.l [.int .i64,.int .i64,.int .i64,.int .i64,.int .i64,.int .i64,.int .i64,.int .i64,.slice 1]),(12,.v (.b (.int .i64)))] .z .z) .z)) (.n (.n .z (.j [(11,.v (.b (.slice 1)))] (.j [(11,.v (.b (.slice 1))),(13,.v (.b (.int .i64)))] .z .z) .z)) (.n .z (.n (.n .z (.j [] (.j [(14,.v (.b (.int .i64)))] .z .z) .z)) .z)))))))))))))),false⟩ Tryz.f16=FW:=by kernel_rfl
theorem Zvz:Pk cfgMt 3 Tryz.f17 Tryz.f49=Hc:=by kernel_rfl
theorem ZoK:aP cfgMt ⟨[],(.n .z (.n .z (.n (.n .z (.j [(3,.v (.b (.slice 1)))] (.j [(3,.v (.b (.slice 1))),(11,.v (.b (.int .i64)))] (.n .z (.n .z (.n (.j [(3,.v (.b (.slice 1)))] (.n .z (.j [(3,.v (.b (.slice 1)))] (.j [(3,.v (.b (.slice 1))),(5,.v (.b (.int .u64)))] .z .z) .z)) .z) .z))) .z) .z)) .z))),false⟩ Tryz.f21=FG:=by kernel_rfl
theorem ZpD:aP cfgMt ⟨[4,7,13],(.n .z (.n .z (.n .z (.n .z (.n (.n .z (.j [(10,.v (.b (.slice 49)))] (.j [(10,.v (.b (.slice 49))),(39,.v (.b (.int .i64)))] .z .z) .z)) .z))))),false⟩ Tryz.f20=Gm:=by kernel_rfl
theorem Zvp:aP cfgMt ⟨[2,3],.z,false⟩ Tryz.f19=Hl:=by kernel_rfl
theorem Zxv:aP cfgMt ⟨[],.z,false⟩ Tryz.f23=Ia:=by kernel_rfl
theorem Zuf:aP cfgMt ⟨[],.z,false⟩ Tryz.f25=GO:=by kernel_rfl
theorem ZnR:aP cfgMt ⟨[],(.n .z (.n .z (.n (.n .z (.j [(3,.v (.b (.int .i64)))] (.j [(3,.v (.b (.int .i64))),(11,.v (.b (.int .i64)))] .z .z) .z)) .z))),false⟩ Tryz.f31=FO:=by kernel_rfl
theorem Zp3:aP cfgMt ⟨[],.z,false⟩ Tryz.f30=Fs:=by kernel_rfl
theorem ZrX:aP cfgMt ⟨[0],.z,true⟩ Tryz.f40=Gf:=by kernel_rfl
theorem Zm2:aP cfgMt ⟨[7],(.n .z (.n .z (.n (.n .z (.j [(5,.v (.b (.slice 1)))] (.j [(5,.v (.b (.slice 1))),(6,.v (.b (.int .i64)))] (.n .z (.n (.j [(5,.v (.b (.slice 1)))] (.n .z (.n .z (.n (.n .z (.j [(7,.l [.str,.int .i64,.dQ 12])] (.j [(7,.l [.str,.int .i64,.dQ 12]),(8,.v (.b (.slice 4))),(9,.v (.b (.int .i64)))] (.n .z (.n (.n (.n .z (.j [(7,.l [.str,.int .i64,.dQ 12]),(8,.v (.b (.slice 4)))] .z .z)) .z) .z)) .z) .z)) .z))) .z) .z)) .z) .z)) .z))),false⟩ Tryz.f41=Fc:=by kernel_rfl
theorem Zlp:aP cfgMt ⟨[3,7,12,14],(.n .z (.n .z (.n (.n .z (.j [(5,.v (.b (.slice 1)))] (.j [(5,.v (.b (.slice 1))),(6,.v (.b (.int .i64)))] (.n .z (.n (.j [(5,.v (.b (.slice 1)))] (.n .z (.n (.n .z (.j [(7,.l [.dQ 21])] (.j [(7,.l [.dQ 21]),(8,.v (.b (.int .i64)))] (.n .z (.n (.j [(7,.l [.dQ 21])] (.n .z (.n (.n .z (.j [(7,.l [.dQ 21])] .z .z)) (.n .z (.j [(7,.l [.dQ 21])] (.j [(7,.l [.dQ 21]),(9,.v (.b (.int .i64)))] (.n .z (.n (.n (.n .z (.j [(7,.l [.dQ 21])] .z .z)) .z) .z)) .z) .z)))) .z) .z)) .z) .z)) .z)) .z) .z)) .z) .z)) (.n .z (.n .z (.n (.n .z (.j [(12,.l [.dQ 16])] (.j [(12,.l [.dQ 16]),(13,.v (.b (.int .i64)))] (.n .z (.n (.j [(12,.l [.dQ 16])] (.n .z (.n (.n .z (.j [(14,.l [.dQ 16])] (.j [(14,.l [.dQ 16]),(15,.v (.b (.int .i64)))] .z .z) .z)) .z)) .z) .z)) .z) .z)) .z)))))),false⟩ Tryz.f42=Fj:=by kernel_rfl
theorem Zu0:aP cfgMt ⟨[1],(.n .z (.n .z (.n .z (.n (.n .z (.j [(3,.v (.b (.str)))] (.j [(3,.v (.b (.str))),(4,.v (.b (.int .i64)))] .z .z) .z)) .z)))),false⟩ Tryz.f39=G5:=by kernel_rfl
theorem Zuc:aP cfgMt ⟨[4,5],(.n .z (.n .z (.n (.n .z (.j [(5,.l [.int .i64,.dQ 48])] (.j [(5,.l [.int .i64,.dQ 48]),(6,.v (.b (.int .i64)))] (.n .z (.n (.n (.n .z (.j [(5,.l [.int .i64,.dQ 48])] .z .z)) .z) .z)) .z) .z)) .z))),false⟩ Tryz.f47=GB:=by kernel_rfl
theorem Zvs:aP cfgMt ⟨[],.z,false⟩ Tryz.f46=Ho:=by kernel_rfl
theorem Zm3:aP cfgMt ⟨[],(.n .z (.n .z (.n .z (.n (.n .z (.j [] .z .z)) .z)))),false⟩ Tryz.f45=Fe:=by kernel_rfl
theorem ZrU:aP cfgMt ⟨[1],(.n .z (.n .z (.n .z (.n .z (.n (.n .z (.j [(3,.v (.b (.slice 1)))] .z .z)) (.n (.n .z (.j [(3,.v (.b (.slice 1)))] .z .z)) (.n (.n .z (.j [(3,.v (.b (.slice 1)))] (.j [(3,.v (.b (.slice 1))),(4,.v (.b (.int .i64)))] (.n .z (.n (.j [(3,.v (.b (.slice 1)))] (.n .z (.n .z (.j [] (.j [(5,.v (.b (.int .i64)))] .z .z) .z))) .z) .z)) .z) .z)) (.n (.n .z (.j [] (.j [(6,.v (.b (.int .i64)))] .z .z) .z)) .z)))))))),false⟩ Tryz.f44=F3:=by kernel_rfl
theorem ZpQ:aP cfgMt ⟨[1],.z,false⟩ Tryz.f43=Gp:=by kernel_rfl
theorem ZrR:aP cfgMt ⟨[],(.n .z (.n .z (.n .z (.n .z (.n (.n .z (.j [] (.j [(102,.v (.b (.int .i64)))] .z .z) .z)) .z))))),false⟩ Tryz.f48=Gb:=by kernel_rfl
theorem ZbX:aP cfgMt ⟨[8,9],(.n .z (.n .z (.n (.n .z (.j [] (.j [(17,.v (.b (.int .i64)))] .z .z) .z)) .z))),false⟩ Tryz.f56=Zu:=by kernel_rfl
theorem Zu2:aP cfgMt ⟨[2,3],.z,false⟩ Tryz.f57=Hr:=by kernel_rfl
theorem ZvG:aP cfgMt ⟨[8],(.n .z (.n .z (.n .z (.n (.n .z (.j [] (.j [(27,.v (.b (.int .i64)))] .z .z) .z)) .z)))),false⟩ Tryz.f62=G0:=by kernel_rfl
theorem ZoJ:aP cfgMt ⟨[],.z,false⟩ Tryz.f63=Fy:=by kernel_rfl
theorem Zox:aP cfgMt ⟨[],.z,false⟩ Tryz.f59=FC:=by kernel_rfl
theorem Zu9:aP cfgMt ⟨[],.z,true⟩ Tryz.f61=Hk:=by kernel_rfl
theorem ZvD:aP cfgMt ⟨[2],.z,false⟩ Tryz.f60=Hh:=by kernel_rfl
theorem Zp4:aP cfgMt ⟨[],(.n .z (.j [] (.j [(8,.v (.b (.int .i64)))] (.n .z (.n .z (.n (.n (.n .z (.n .z (.j [] .z .z))) .z) .z))) .z) .z)),false⟩ Tryz.f66=Fo:=by kernel_rfl
theorem ZqP:aP cfgMt ⟨[],.z,false⟩ Tryz.f73=Fq:=by kernel_rfl
theorem Zl9:aP cfgMt ⟨[],.z,false⟩ Tryz.f74=ER:=by kernel_rfl
theorem Zvt:aP cfgMt ⟨[],(.n .z (.n .z (.n (.n .z (.j [(5,.v (.b (.str)))] (.j [(5,.v (.b (.str))),(6,.v (.b (.int .i64)))] .z .z) .z)) .z))),false⟩ Tryz.f85=G3:=by kernel_rfl
theorem Ztj:aP cfgMt ⟨[],.z,false⟩ Tryz.f86=GC:=by kernel_rfl
theorem ZuT:aP cfgMt ⟨[],(.n .z (.n .z (.n .z (.n (.n .z (.j [(4,.v (.b (.str)))] (.j [(4,.v (.b (.str))),(5,.v (.b (.int .i64)))] (.n .z (.n (.j [(4,.v (.b (.str)))] (.n .z (.n (.n .z (.j [] (.j [(6,.v (.b (.int .i64)))] .z .z) .z)) .z)) .z) .z)) .z) .z)) .z)))),false⟩ Tryz.f89=Ha:=by kernel_rfl
theorem ZuO:aP cfgMt ⟨[1],(.n .z (.n .z (.n (.n .z (.j [(3,.v (.b (.str)))] (.j [(3,.v (.b (.str))),(4,.v (.b (.int .i64)))] .z .z) .z)) .z))),false⟩ Tryz.f88=G6:=by kernel_rfl
theorem ZlP:aP cfgMt ⟨[5],(.n .z (.n .z (.n (.n .z (.j [(5,.l [.int .i64,.int .i64,.int .i64,.int .i64,.slice 1])] (.j [(5,.l [.int .i64,.int .i64,.int .i64,.int .i64,.slice 1]),(6,.v (.b (.int .i64)))] .z .z) .z)) .z))),false⟩ Tryz.f87=EV:=by kernel_rfl
theorem Zvo:aP cfgMt ⟨[1],(.n .z (.n .z (.n (.n .z (.j [(4,.v (.b (.str)))] (.j [(4,.v (.b (.str))),(5,.v (.b (.int .i64)))] .z .z) .z)) .z))),false⟩ Tryz.f91=Hi:=by kernel_rfl
theorem ZuB:aP cfgMt ⟨[1,7],(.n .z (.n .z (.n (.n .z (.j [(4,.v (.b (.str))),(5,.v (.b (.int .i64)))] (.j [(4,.v (.b (.str))),(5,.v (.b (.int .i64))),(6,.v (.b (.int .i64)))] (.n .z (.n (.n (.n .z (.n .z (.n (.n .z (.j [(5,.v (.b (.int .i64)))] .z .z)) .z))) .z) .z)) .z) .z)) .z))),false⟩ Tryz.f90=GR:=by kernel_rfl
theorem Zs3:aP cfgMt ⟨[],(.n .z (.n .z (.n (.j [(5,.v (.b (.int .i64)))] (.j [(5,.v (.b (.int .i64)))] .z .z) .z) .z))),false⟩ Tryz.f92=GM:=by kernel_rfl
theorem ZoC:aP cfgMt ⟨[],.z,false⟩ Tryz.f94=FD:=by kernel_rfl
theorem ZhQ:aP cfgMt ⟨[],.z,false⟩ Tryz.f96=EO:=by kernel_rfl
theorem Zr0:aP cfgMt ⟨[1],.z,false⟩ Tryz.f95=Gt:=by kernel_rfl
theorem ZvC:aP cfgMt ⟨[],(.n .z (.j [] .z .z)),false⟩ Tryz.f50=GY:=by kernel_rfl
theorem Zlu:aP cfgMt ⟨[],(.n .z (.n .z (.n .z (.j [] (.j [(32,.v (.b (.int .i64)))] (.n .z (.n .z (.n (.j [] (.n .z (.n .z (.n .z (.n .z (.n .z (.j [] (.j [(52,.v (.b (.int .i64)))] (.n .z (.n .z (.n (.n (.n .z (.n .z (.n .z (.j [] .z .z)))) .z) .z))) .z) .z)))))) .z) .z))) .z) .z)))),false⟩ Tryz.f51=Fi:=by kernel_rfl
theorem Zst:aP cfgMt ⟨[],.z,false⟩ Tryz.f97=Gd:=by kernel_rfl
theorem ZlQ:aP cfgMt ⟨[],.z,false⟩ Tryz.f98=EU:=by kernel_rfl
theorem ZlS:aP cfgMt ⟨[7],(.n .z (.j [] (.j [(13,.v (.b (.int .i64)))] (.n .z (.n .z (.n (.j [] .z .z) .z))) .z) .z)),false⟩ Tryz.f99=EZ:=by kernel_rfl
theorem Zl4:aP cfgMt ⟨[5,7],(.n .z (.n (.n .z (.j [] (.j [(3,.v (.b (.int .i64)))] .z .z) .z)) (.n .z (.j [] (.j [(86,.v (.b (.int .i64)))] .z .z) .z)))),false⟩ Tryz.f52=Fa:=by kernel_rfl
theorem Zkw:aP cfgMt ⟨[4,5],(.n .z (.n .z (.j [] (.j [(24,.v (.b (.int .i64)))] (.n .z (.n .z (.n (.j [] (.n .z (.n .z (.n .z (.n .z (.n (.n .z (.j [(5,.l [.str,.slice 4])] (.j [(5,.l [.str,.slice 4]),(57,.v (.b (.int .i64)))] (.n .z (.n .z (.n (.n (.n .z (.n .z (.j [(5,.l [.str,.slice 4])] .z .z))) .z) .z))) .z) .z)) .z))))) .z) .z))) .z) .z))),false⟩ Tryz.f53=Ff:=by kernel_rfl
theorem ZlT:aP cfgMt ⟨[9,10,11],(.n .z (.n .z (.n .z (.n (.j [(7,.v (.b (.slice 4)))] (.j [(7,.v (.b (.slice 4))),(8,.v (.b (.slice 7)))] (.n .z (.j [(7,.v (.b (.slice 4))),(8,.v (.b (.slice 7)))] (.n .z (.n .z (.n .z (.n .z (.n .z (.n .z (.n .z (.n .z (.n .z (.j [(8,.v (.b (.slice 7)))] (.j [(8,.v (.b (.slice 7))),(100,.v (.b (.int .i64)))] .z .z) .z)))))))))) .z)) .z) .z) .z)))),false⟩ Tryz.f101=E8:=by kernel_rfl
theorem ZlX:aP cfgMt ⟨[5],(.n .z (.n .z (.n (.n .z (.j [(3,.v (.b (.int .i64)))] (.j [(3,.v (.b (.int .i64))),(11,.v (.b (.int .i64)))] (.n .z (.n .z (.n (.n (.n .z (.n .z (.n .z (.j [(3,.v (.b (.int .i64)))] .z .z)))) .z) .z))) .z) .z)) .z))),false⟩ Tryz.f54=EX:=by kernel_rfl
theorem Zen:aP cfgMt ⟨[],(.n .z (.n .z (.n (.n .z (.j [] (.j [(13,.v (.b (.int .i64)))] .z .z) .z)) .z))),false⟩ Tryz.f104=ZQ:=by kernel_rfl
theorem Zgg:aP cfgMt ⟨[],(.n .z (.n .z (.n (.n .z (.j [] (.j [(13,.v (.b (.int .i64)))] .z .z) .z)) .z))),false⟩ Tryz.f105=Z6:=by kernel_rfl
theorem ZtT:aP cfgMt ⟨[],.z,true⟩ Tryz.f106=GF:=by kernel_rfl
theorem ZoN:aP cfgMt ⟨[],(.n .z (.n .z (.n (.n .z (.j [] (.j [(21,.v (.b (.int .i64)))] .z .z) .z)) .z))),false⟩ Tryz.f107=FE:=by kernel_rfl
theorem Zs2:aP cfgMt ⟨[1],(.n .z (.n .z (.n (.n .z (.j [(3,.v (.b (.slice 1)))] (.j [(3,.v (.b (.slice 1))),(6,.v (.b (.int .i64)))] (.n .z (.n .z (.n (.n (.n .z (.n .z (.n .z (.j [(3,.v (.b (.slice 1)))] .z .z)))) .z) .z))) .z) .z)) .z))),true⟩ Tryz.f109=GH:=by kernel_rfl
theorem Zr6:aP cfgMt ⟨[],.z,false⟩ Tryz.f108=LQ:=by kernel_rfl
theorem ZnD:aP cfgMt ⟨[],.z,false⟩ Tryz.f110=FK:=by kernel_rfl
theorem ZuU:aP cfgMt ⟨[],(.n .z (.n .z (.n (.n .z (.j [(3,.v (.b (.int .u32)))] (.j [(3,.v (.b (.int .u32))),(4,.v (.b (.int .i64)))] .z .z) .z)) .z))),false⟩ Tryz.f111=G7:=by kernel_rfl
theorem Zsw:aP cfgMt ⟨[],(.n .z (.n (.n .z (.j [(0,.v (.b (.int .u64)))] (.j [(0,.v (.b (.int .u64))),(5,.v (.b (.int .i64)))] .z .z) .z)) .z)),false⟩ Tryz.f124=Gh:=by kernel_rfl
theorem ZtM:aP cfgMt ⟨[],.z,false⟩ Tryz.f125=Gx:=by kernel_rfl
theorem Zvd:aP cfgMt ⟨[1,3],(.n .z (.n .z (.n .z (.n (.n .z (.j [(4,.v (.b (.str)))] (.j [(4,.v (.b (.str))),(5,.v (.b (.int .i64)))] .z .z) .z)) .z)))),false⟩ Tryz.f126=GZ:=by kernel_rfl
theorem Zsr:aP cfgMt ⟨[],.z,false⟩ Tryz.f127=FZ:=by kernel_rfl
theorem ZtF:aP cfgMt ⟨[1],.z,false⟩ Tryz.f128=GG:=by kernel_rfl
theorem Zyo:aP cfgMt ⟨[],.z,false⟩ Tryz.f129=Ic:=by kernel_rfl
theorem ZjQ:aP cfgMt ⟨[],(.n .z (.n (.n .z (.j [] (.j [(8,.v (.b (.int .i64)))] .z .z) .z)) .z)),false⟩ Tryz.f130=EJ:=by kernel_rfl
theorem Zuo:aP cfgMt ⟨[],.z,false⟩ Tryz.f131=GA:=by kernel_rfl
theorem ZtE:aP cfgMt ⟨[3,5,7,9,11],.z,false⟩ Tryz.f132=GL:=by kernel_rfl
theorem Zr9:aP cfgMt ⟨[],.z,false⟩ Tryz.f139=F8:=by kernel_rfl
theorem ZrW:aP cfgMt ⟨[],.z,true⟩ Tryz.f140=FY:=by kernel_rfl
theorem Zsy:aP cfgMt ⟨[],.z,false⟩ Tryz.f141=Gc:=by kernel_rfl
theorem ZvI:aP cfgMt ⟨[2],.z,false⟩ Tryz.f142=G8:=by kernel_rfl
theorem Zgw:aP cfgMt ⟨[],.z,false⟩ Tryz.f143=Z7:=by kernel_rfl
theorem Zr5:aP cfgMt ⟨[],(.n .z (.n (.n .z (.j [(0,.v (.b (.int .u32)))] (.j [(0,.v (.b (.int .u32))),(5,.v (.b (.int .i64)))] .z .z) .z)) .z)),false⟩ Tryz.f144=FU:=by kernel_rfl
theorem ZwH:aP cfgMt ⟨[2,8],(.n .z (.n .z (.n .z (.n .z (.n (.n .z (.j [(8,.l [.int .i64,.int .i64,.int .i64,.int .i64,.slice 1])] (.j [(8,.l [.int .i64,.int .i64,.int .i64,.int .i64,.slice 1]),(41,.v (.b (.int .i64)))] .z .z) .z)) .z))))),true⟩ Tryz.f156=HL:=by kernel_rfl
theorem ZpZ:aP cfgMt ⟨[2,8,11],(.n .z (.n .z (.n .z (.n .z (.n (.n .z (.j [(2,.l [.dQ 21]),(8,.l [.dQ 21])] (.j [(2,.l [.dQ 21]),(8,.l [.dQ 21]),(30,.v (.b (.int .i64)))] .z .z) .z)) .z))))),false⟩ Tryz.f157=Fv:=by kernel_rfl
theorem ZrV:aP cfgMt ⟨[2,8],(.n .z (.n .z (.n .z (.n .z (.n (.n .z (.j [(8,.l [.dQ 16])] (.j [(8,.l [.dQ 16]),(36,.v (.b (.int .i64)))] .z .z) .z)) .z))))),false⟩ Tryz.f158=F0:=by kernel_rfl
theorem ZnZ:aP cfgMt ⟨[2,8],(.n .z (.n .z (.n .z (.n .z (.n (.n .z (.j [(8,.l [.str,.int .i64,.dQ 12])] (.j [(8,.l [.str,.int .i64,.dQ 12]),(51,.v (.b (.int .i64)))] .z .z) .z)) .z))))),false⟩ Tryz.f159=FL:=by kernel_rfl
theorem Zqe:aP cfgMt ⟨[2,8],(.n .z (.n .z (.n .z (.n .z (.n (.n .z (.j [(8,.l [.slice 1])] (.j [(8,.l [.slice 1]),(41,.v (.b (.int .i64)))] .z .z) .z)) .z))))),true⟩ Tryz.f160=Fm:=by kernel_rfl
theorem ZtV:aP cfgMt ⟨[],(.n .z (.n .z (.n (.n .z (.j [(3,.v (.b (.int .u64)))] (.j [(3,.v (.b (.int .u64))),(12,.v (.b (.int .i64)))] .z .z) .z)) .z))),false⟩ Tryz.f174=GQ:=by kernel_rfl
theorem Zw4:aP cfgMt ⟨[],.z,false⟩ Tryz.f173=Hz:=by kernel_rfl
theorem Zvj:aP cfgMt ⟨[2],.z,false⟩ Tryz.f175=Hm:=by kernel_rfl
theorem ZtJ:aP cfgMt ⟨[],.z,false⟩ Tryz.f176=GD:=by kernel_rfl
theorem ZsB:aP cfgMt ⟨[],.z,false⟩ Tryz.f185=Gw:=by kernel_rfl
theorem ZuC:aP cfgMt ⟨[1,3],.z,false⟩ Tryz.f186=GP:=by kernel_rfl
theorem ZnV:aP cfgMt ⟨[1],.z,false⟩ Tryz.f187=FM:=by kernel_rfl
theorem Zpr:aP cfgMt ⟨[1],(.n .z (.n (.n .z (.j [] (.j [(7,.v (.b (.int .i64)))] .z .z) .z)) .z)),false⟩ Tryz.f188=FI:=by kernel_rfl
theorem Zmq:aP cfgMt ⟨[1],(.n .z (.n .z (.n (.n .z (.j [] (.j [(21,.v (.b (.int .i64)))] .z .z) .z)) .z))),false⟩ Tryz.f189=EW:=by kernel_rfl
theorem Zn2:aP cfgMt ⟨[1],(.n .z (.n .z (.n (.n .z (.j [] (.j [(18,.v (.b (.int .i64)))] .z .z) .z)) .z))),false⟩ Tryz.f190=FN:=by kernel_rfl
theorem Zxp:aP cfgMt ⟨[],(.n .z (.n .z (.n (.n .z (.j [(4,.v (.b (.int .u32)))] (.j [(4,.v (.b (.int .u32))),(10,.v (.b (.int .i64)))] .z .z) .z)) .z))),false⟩ Tryz.f197=H2:=by kernel_rfl
theorem ZrH:aP cfgMt ⟨[1],.z,false⟩ Tryz.f198=Gj:=by kernel_rfl
theorem ZvH:aP cfgMt ⟨[],.z,false⟩ Tryz.f205=Hd:=by kernel_rfl
theorem ZqO:aP cfgMt ⟨[],.z,false⟩ Tryz.f207=Fu:=by kernel_rfl
theorem ZrI:aP cfgMt ⟨[],.z,false⟩ Tryz.f208=F7:=by kernel_rfl
theorem Zlv:aP cfgMt ⟨[],.z,false⟩ Tryz.f210=Fl:=by kernel_rfl
theorem Zu4:aP cfgMt ⟨[0,1],(.n .z (.n .z (.n (.n .z (.j [(1,.l [.dQ 16])] (.j [(1,.l [.dQ 16]),(4,.v (.b (.int .i64)))] (.n .z (.n .z (.n (.j [(1,.l [.dQ 16])] (.n .z (.n .z (.n (.n .z (.j [(3,.v (.b (.int .u32)))] (.j [(3,.v (.b (.int .u32))),(9,.v (.b (.int .i64)))] .z .z) .z)) .z))) .z) .z))) .z) .z)) .z))),false⟩ Tryz.f212=Hs:=by kernel_rfl
theorem ZpY:aP cfgMt ⟨[],(.n .z (.n (.n .z (.j [(1,.v (.b (.int .u32)))] (.j [(1,.v (.b (.int .u32))),(11,.v (.b (.int .i64)))] .z .z) .z)) .z)),false⟩ Tryz.f213=Gq:=by kernel_rfl
theorem ZwJ:aP cfgMt ⟨[],.z,false⟩ Tryz.f219=HD:=by kernel_rfl
end
noncomputable def ZxX:Go.Shelf.Ren:=⟨fun|6=>102|14=>135|15=>136|20=>162|21=>163|22=>164|23=>165|24=>166|25=>167|26=>168|27=>169|28=>170|29=>171|46=>192|47=>193|48=>194|49=>195|50=>196|57=>211|n=>n,fun|0=>0|3=>3|4=>4|5=>5|9=>9|22=>56|24=>62|25=>175|39=>183|45=>247|46=>248|50=>252|53=>184|55=>118|66=>271|70=>275|76=>293|77=>260|n=>n,fun|n=>n⟩
theorem ZwD:SlLaysF0.n6 Tryz.prog ZxX where
 mixed:=by kernel_rfl
 f6:=⟨Tryz.f102.name,by kernel_rfl,Tryz.func102.trans (congrArg some (by kernel_rfl))⟩
 f14:=⟨Tryz.f135.name,by kernel_rfl,Tryz.func135.trans (congrArg some (by kernel_rfl))⟩
 f15:=Tryz.func136.trans (congrArg some (by kernel_rfl))
 f20:=⟨Tryz.f162.name,by kernel_rfl,Tryz.func162.trans (congrArg some (by kernel_rfl))⟩
 f21:=⟨Tryz.f163.name,by kernel_rfl,Tryz.func163.trans (congrArg some (by kernel_rfl))⟩
 f22:=⟨Tryz.f164.name,by kernel_rfl,Tryz.func164.trans (congrArg some (by kernel_rfl))⟩
 f23:=⟨Tryz.f165.name,by kernel_rfl,Tryz.func165.trans (congrArg some (by kernel_rfl))⟩
 f24:=⟨Tryz.f166.name,by kernel_rfl,Tryz.func166.trans (congrArg some (by kernel_rfl))⟩
 f25:=⟨Tryz.f167.name,by kernel_rfl,Tryz.func167.trans (congrArg some (by kernel_rfl))⟩
 f26:=⟨Tryz.f168.name,by kernel_rfl,Tryz.func168.trans (congrArg some (by kernel_rfl))⟩
 f27:=⟨Tryz.f169.name,by kernel_rfl,Tryz.func169.trans (congrArg some (by kernel_rfl))⟩
 f28:=Tryz.func170.trans (congrArg some (by kernel_rfl))
 f29:=Tryz.func171.trans (congrArg some (by kernel_rfl))
 f46:=⟨Tryz.f192.name,by kernel_rfl,Tryz.func192.trans (congrArg some (by kernel_rfl))⟩
 f47:=Tryz.func193.trans (congrArg some (by kernel_rfl))
 f48:=Tryz.func194.trans (congrArg some (by kernel_rfl))
 f49:=⟨Tryz.f195.name,by kernel_rfl,Tryz.func195.trans (congrArg some (by kernel_rfl))⟩
 f50:=⟨Tryz.f196.name,by kernel_rfl,Tryz.func196.trans (congrArg some (by kernel_rfl))⟩
 f57:=⟨Tryz.f211.name,by kernel_rfl,Tryz.func211.trans (congrArg some (by kernel_rfl))⟩
 t0:=Tryz.underlying0
 a0:=Tryz.isAgg0
 z0:=Tryz.sizeOf0
 v0:=Tryz.zeroValue0
 t3:=Tryz.underlying3
 a3:=Tryz.isAgg3
 z3:=Tryz.sizeOf3
 v3:=Tryz.zeroValue3
 t4:=Tryz.underlying4
 a4:=Tryz.isAgg4
 z4:=Tryz.sizeOf4
 v4:=Tryz.zeroValue4
 t5:=Tryz.underlying5
 a5:=Tryz.isAgg5
 z5:=Tryz.sizeOf5
 v5:=Tryz.zeroValue5
 t9:=Tryz.underlying9
 a9:=Tryz.isAgg9
 z9:=Tryz.sizeOf9
 v9:=Tryz.zeroValue9
 t22:=Tryz.underlying56
 a22:=Tryz.isAgg56
 z22:=Tryz.sizeOf56
 v22:=Tryz.zeroValue56
 t25:=Tryz.underlying175
 a25:=Tryz.isAgg175
 z25:=Tryz.sizeOf175
 v25:=Tryz.zeroValue175
 t39:=Tryz.underlying183
 a39:=Tryz.isAgg183
 z39:=Tryz.sizeOf183
 v39:=Tryz.zeroValue183
 t45:=Tryz.underlying247
 a45:=Tryz.isAgg247
 z45:=Tryz.sizeOf247
 v45:=Tryz.zeroValue247
 t46:=Tryz.underlying248
 a46:=Tryz.isAgg248
 z46:=Tryz.sizeOf248
 v46:=Tryz.zeroValue248
 t50:=Tryz.underlying252
 a50:=Tryz.isAgg252
 z50:=Tryz.sizeOf252
 v50:=Tryz.zeroValue252
 t53:=Tryz.underlying184
 a53:=Tryz.isAgg184
 z53:=Tryz.sizeOf184
 v53:=Tryz.zeroValue184
 t55:=Tryz.underlying118
 a55:=Tryz.isAgg118
 z55:=Tryz.sizeOf118
 v55:=Tryz.zeroValue118
 t66:=Tryz.underlying271
 a66:=Tryz.isAgg271
 z66:=Tryz.sizeOf271
 v66:=Tryz.zeroValue271
 t70:=Tryz.underlying275
 a70:=Tryz.isAgg275
 z70:=Tryz.sizeOf275
 v70:=Tryz.zeroValue275
 t76:=Tryz.underlying293
 a76:=Tryz.isAgg293
 z76:=Tryz.sizeOf293
 v76:=Tryz.zeroValue293
 t77:=Tryz.underlying260
 a77:=Tryz.isAgg260
 z77:=Tryz.sizeOf260
 v77:=Tryz.zeroValue260
theorem Zzs:lE cfgMt:=⟨ZzV (by kernel_rfl),(fun t h=>ZwQ (O7 (by kernel_rfl) t h)),(fun t h _ _ _ _ _ _ w hx hy he=>ZyH (O7 (by kernel_rfl) t h) w hx hy he),ZAm (e:=309) (by kernel_rfl) (by kernel_rfl)⟩
theorem Zh:BA cfgMt:=⟨Zzs,by kernel_rfl⟩
noncomputable def Eb:List (Nat×Body):=[(159,BH),(161,BI),(162,BK),(163,BJ)]
theorem ZAf: ∀n,ZA cfgMt (run (bdOf Eb) n):=
 ZAC (cov:=[145,177,199,209,112,218,146,134,100,113,220,133,161,191,64,24,58,29,18,15,70,72,68,71,93,206,55,28,217,103,138,137,172,3,14,16,17,21,20,19,23,25,31,30,40,41,42,39,47,46,45,44,43,48,56,57,62,63,59,61,60,66,73,74,85,86,89,88,87,91,90,92,94,96,95,50,51,97,98,99,52,53,102,101,54,104,105,106,107,109,108,110,111,124,125,126,127,128,129,130,131,132,139,140,141,142,143,144,156,157,158,159,160,174,173,175,176,185,186,187,188,189,190,197,198,205,207,208,210,212,213,219]) (sub:=[103,138,137,172]) rfl (by kernel_rfl) (by kernel_rfl) (aO.2 ⟨aL.aQ Zh Tryz.func103 (by kernel_rfl) Zkr,aO.2 ⟨aL.aQ Zh Tryz.func138 (by kernel_rfl) ZhN,aO.2 ⟨aL.aQ Zh Tryz.func137 (by kernel_rfl) ZmD,aO.2 ⟨aL.aQ Zh Tryz.func172 (by kernel_rfl) Zjj,(fun _ h=>by cases h)⟩⟩⟩⟩)
theorem ZnC:Mb (bdOf Eb):=⟨by kernel_rfl⟩
theorem Zlq:Lo (bdOf Eb):=⟨by kernel_rfl⟩
theorem Zj9:Fb (bdOf Eb):=⟨by kernel_rfl,Zlq⟩
theorem Zms:xq (bdOf Eb):=⟨by kernel_rfl,ZnC,Zj9⟩
noncomputable def bdsMt:List (Nat×Body):=[(12,FT),(15,Gg),(19,FH),(26,Gy),(27,Gu),(28,H5),(29,Hw),(34,Gz),(39,Fp),(40,Fw),(54,Mi),(57,EL),(64,EP),(72,FQ),(86,BC),(113,zw),(114,EK),(133,GS),(136,GK),(138,FV),(141,FX),(142,FR),(143,Hu),(144,Ga),(145,zu),(147,Z2),(153,xu),(155,F9),(156,EM),(159,BH),(161,BI),(162,BK),(163,BJ),(168,EY),(169,F6),(170,FW),(171,Hc),(172,FG),(173,Gm),(174,Hl),(177,Ia),(179,GO),(183,FO),(184,Fs),(188,Gf),(189,Fc),(190,Fj),(191,G5),(192,GB),(193,Ho),(194,Fe),(195,F3),(196,Gp),(197,Gb),(198,Zu),(199,Hr),(200,G0),(201,Fy),(202,FC),(203,Hk),(204,Hh),(206,Fo),(209,Fq),(210,ER),(213,G3),(214,GC),(215,Ha),(216,G6),(217,EV),(218,Hi),(219,GR),(220,GM),(221,FD),(222,EO),(223,Gt),(225,GY),(226,Fi),(227,Gd),(228,EU),(229,EZ),(230,Fa),(231,Ff),(232,Cg),(233,E8),(234,EX),(235,ZQ),(236,Z6),(237,GF),(238,FE),(239,GH),(240,LQ),(241,FK),(242,G7),(248,Gh),(249,Gx),(250,GZ),(251,FZ),(252,GG),(253,Ic),(254,EJ),(255,GA),(256,GL),(259,F8),(260,FY),(261,Gc),(262,G8),(263,Z7),(264,FU),(272,HL),(273,Fv),(274,F0),(275,FL),(276,Fm),(285,GQ),(286,Hz),(287,Hm),(288,GD),(295,Gw),(296,GP),(297,FM),(298,FI),(299,EW),(300,FN),(306,H2),(307,Gj),(312,Hd),(313,Fu),(314,F7),(315,Fl),(317,Hs),(318,Gq),(320,HD)]
theorem bodiesMt: ∀n,ZA cfgMt (run (bdOf bdsMt) n):=
 ZzH (cov:=[145,177,199,209,112,218,146,134,100,113,220,133,161,191,64,24,58,29,18,15,70,72,68,71,93,206,55,28,217,103,138,137,172,3,14,16,17,21,20,19,23,25,31,30,40,41,42,39,47,46,45,44,43,48,56,57,62,63,59,61,60,66,73,74,85,86,89,88,87,91,90,92,94,96,95,50,51,97,98,99,52,53,102,101,54,104,105,106,107,109,108,110,111,124,125,126,127,128,129,130,131,132,139,140,141,142,143,144,156,157,158,159,160,174,173,175,176,185,186,187,188,189,190,197,198,205,207,208,210,212,213,219]) rfl (by kernel_rfl) (aO.2 ⟨aL.aQ Zh Tryz.func145 (by kernel_rfl) Zsv,aO.2 ⟨aL.aQ Zh Tryz.func177 (by kernel_rfl) Zr8,aO.2 ⟨aL.aQ Zh Tryz.func199 (by kernel_rfl) Zof,aO.2 ⟨aL.aQ Zh Tryz.func209 (by kernel_rfl) ZtP,aO.2 ⟨aL.aQ Zh Tryz.func112 (by kernel_rfl) Zr4,aO.2 ⟨aL.aQ Zh Tryz.func218 (by kernel_rfl) Zx7,aO.2 ⟨aL.aQ Zh Tryz.func146 (by kernel_rfl) ZwN,aO.2 ⟨aL.aQ Zh Tryz.func134 (by kernel_rfl) Ztb,aO.2 ⟨aL.aQ Zh Tryz.func100 (by kernel_rfl) Zqv,aO.2 ⟨aL.aQ Zh Tryz.func113 (by kernel_rfl) ZoQ,aO.2 ⟨aL.aQ Zh Tryz.func220 (by kernel_rfl) Zun,aO.2 ⟨aL.aQ Zh Tryz.func133 (by kernel_rfl) ZhC,aO.2 ⟨aL.aQ Zh Tryz.func161 (by kernel_rfl) Zmd,aO.2 ⟨aL.aQ Zh Tryz.func191 (by kernel_rfl) ZnF,aO.2 ⟨aL.aQ Zh Tryz.func64 (by kernel_rfl) ZjW,aO.2 ⟨aL.aQ Zh Tryz.func24 (by kernel_rfl) ZsZ,aO.2 ⟨aL.aQ Zh Tryz.func58 (by kernel_rfl) Zjy,aO.2 ⟨aL.aQ Zh Tryz.func29 (by kernel_rfl) ZvK,aO.2 ⟨aL.aQ Zh Tryz.func18 (by kernel_rfl) Zur,aO.2 ⟨aL.aQ Zh Tryz.func15 (by kernel_rfl) Zsa,aO.2 ⟨aL.aQ Zh Tryz.func70 (by kernel_rfl) Zr3,aO.2 ⟨aL.aQ Zh Tryz.func72 (by kernel_rfl) Zpe,aO.2 ⟨aL.aQ Zh Tryz.func68 (by kernel_rfl) ZuM,aO.2 ⟨aL.aQ Zh Tryz.func71 (by kernel_rfl) ZrF,aO.2 ⟨aL.aQ Zh Tryz.func93 (by kernel_rfl) Zut,aO.2 ⟨aL.aQ Zh Tryz.func206 (by kernel_rfl) Zf8,aO.2 ⟨aL.aQ Zh Tryz.func55 (by kernel_rfl) ZoO,aO.2 ⟨aL.aQ Zh Tryz.func28 (by kernel_rfl) Zsc,aO.2 ⟨aL.aQ Zh Tryz.func217 (by kernel_rfl) ZhK,aO.2 ⟨aL.aQ Zh Tryz.func103 (by kernel_rfl) Zkr,aO.2 ⟨aL.aQ Zh Tryz.func138 (by kernel_rfl) ZhN,aO.2 ⟨aL.aQ Zh Tryz.func137 (by kernel_rfl) ZmD,aO.2 ⟨aL.aQ Zh Tryz.func172 (by kernel_rfl) Zjj,aO.2 ⟨aL.aQ Zh Tryz.func3 (by kernel_rfl) Zmj,aO.2 ⟨aL.aQ Zh Tryz.func14 (by kernel_rfl) ZrQ,aO.2 ⟨aL.aQ Zh Tryz.func16 (by kernel_rfl) Zsq,aO.2 ⟨(fun _ n _ _ _ hc h=>ZyJ (n:=n) Zh hc Tryz.func17 (by kernel_rfl) Tryz.func49 (by kernel_rfl) (by kernel_rfl) (by rw[Zvz];exact h)),aO.2 ⟨aL.aQ Zh Tryz.func21 (by kernel_rfl) ZoK,aO.2 ⟨aL.aQ Zh Tryz.func20 (by kernel_rfl) ZpD,aO.2 ⟨aL.aQ Zh Tryz.func19 (by kernel_rfl) Zvp,aO.2 ⟨aL.aQ Zh Tryz.func23 (by kernel_rfl) Zxv,aO.2 ⟨aL.aQ Zh Tryz.func25 (by kernel_rfl) Zuf,aO.2 ⟨aL.aQ Zh Tryz.func31 (by kernel_rfl) ZnR,aO.2 ⟨aL.aQ Zh Tryz.func30 (by kernel_rfl) Zp3,aO.2 ⟨aL.aQ Zh Tryz.func40 (by kernel_rfl) ZrX,aO.2 ⟨aL.aQ Zh Tryz.func41 (by kernel_rfl) Zm2,aO.2 ⟨aL.aQ Zh Tryz.func42 (by kernel_rfl) Zlp,aO.2 ⟨aL.aQ Zh Tryz.func39 (by kernel_rfl) Zu0,aO.2 ⟨aL.aQ Zh Tryz.func47 (by kernel_rfl) Zuc,aO.2 ⟨aL.aQ Zh Tryz.func46 (by kernel_rfl) Zvs,aO.2 ⟨aL.aQ Zh Tryz.func45 (by kernel_rfl) Zm3,aO.2 ⟨aL.aQ Zh Tryz.func44 (by kernel_rfl) ZrU,aO.2 ⟨aL.aQ Zh Tryz.func43 (by kernel_rfl) ZpQ,aO.2 ⟨aL.aQ Zh Tryz.func48 (by kernel_rfl) ZrR,aO.2 ⟨aL.aQ Zh Tryz.func56 (by kernel_rfl) ZbX,aO.2 ⟨aL.aQ Zh Tryz.func57 (by kernel_rfl) Zu2,aO.2 ⟨aL.aQ Zh Tryz.func62 (by kernel_rfl) ZvG,aO.2 ⟨aL.aQ Zh Tryz.func63 (by kernel_rfl) ZoJ,aO.2 ⟨aL.aQ Zh Tryz.func59 (by kernel_rfl) Zox,aO.2 ⟨aL.aQ Zh Tryz.func61 (by kernel_rfl) Zu9,aO.2 ⟨aL.aQ Zh Tryz.func60 (by kernel_rfl) ZvD,aO.2 ⟨aL.aQ Zh Tryz.func66 (by kernel_rfl) Zp4,aO.2 ⟨aL.aQ Zh Tryz.func73 (by kernel_rfl) ZqP,aO.2 ⟨aL.aQ Zh Tryz.func74 (by kernel_rfl) Zl9,aO.2 ⟨aL.aQ Zh Tryz.func85 (by kernel_rfl) Zvt,aO.2 ⟨aL.aQ Zh Tryz.func86 (by kernel_rfl) Ztj,aO.2 ⟨aL.aQ Zh Tryz.func89 (by kernel_rfl) ZuT,aO.2 ⟨aL.aQ Zh Tryz.func88 (by kernel_rfl) ZuO,aO.2 ⟨aL.aQ Zh Tryz.func87 (by kernel_rfl) ZlP,aO.2 ⟨aL.aQ Zh Tryz.func91 (by kernel_rfl) Zvo,aO.2 ⟨aL.aQ Zh Tryz.func90 (by kernel_rfl) ZuB,aO.2 ⟨aL.aQ Zh Tryz.func92 (by kernel_rfl) Zs3,aO.2 ⟨aL.aQ Zh Tryz.func94 (by kernel_rfl) ZoC,aO.2 ⟨aL.aQ Zh Tryz.func96 (by kernel_rfl) ZhQ,aO.2 ⟨aL.aQ Zh Tryz.func95 (by kernel_rfl) Zr0,aO.2 ⟨aL.aQ Zh Tryz.func50 (by kernel_rfl) ZvC,aO.2 ⟨aL.aQ Zh Tryz.func51 (by kernel_rfl) Zlu,aO.2 ⟨aL.aQ Zh Tryz.func97 (by kernel_rfl) Zst,aO.2 ⟨aL.aQ Zh Tryz.func98 (by kernel_rfl) ZlQ,aO.2 ⟨aL.aQ Zh Tryz.func99 (by kernel_rfl) ZlS,aO.2 ⟨aL.aQ Zh Tryz.func52 (by kernel_rfl) Zl4,aO.2 ⟨aL.aQ Zh Tryz.func53 (by kernel_rfl) Zkw,aO.2 ⟨ZuV ZwD Tryz.isAgg62 Tryz.sizeOf62 rfl Tryz.func102 (by kernel_rfl) (by kernel_rfl) (ZAf 100) (fc:=103) (by kernel_rfl) (by kernel_rfl) (fun k hk he=>bY (by have:=has_all (P:=fun k=> !Nat.beq (cfgMt.fn k) 159||Nat.beq k 103) (l:=[145,177,199,209,112,218,146,134,100,113,220,133,161,191,64,24,58,29,18,15,70,72,68,71,93,206,55,28,217,103,138,137,172,3,14,16,17,21,20,19,23,25,31,30,40,41,42,39,47,46,45,44,43,48,56,57,62,63,59,61,60,66,73,74,85,86,89,88,87,91,90,92,94,96,95,50,51,97,98,99,52,53,102,101,54,104,105,106,107,109,108,110,111,124,125,126,127,128,129,130,131,132,139,140,141,142,143,144,156,157,158,159,160,174,173,175,176,185,186,187,188,189,190,197,198,205,207,208,210,212,213,219]) (by kernel_rfl) k hk;rw[he]at this;simpa using this)) Tryz.func103 (by kernel_rfl) (by kernel_rfl) (N:=100) (fun g hg=>by have:=has_all (P:=fun g=>Nat.blt (cfgMt.gl g) 100) (l:=[0]) (by kernel_rfl) g hg;rwa [lB]at this) (fun x y=>ZzG Zms _ x y),aO.2 ⟨aL.aQ Zh Tryz.func101 (by kernel_rfl) ZlT,aO.2 ⟨aL.aQ Zh Tryz.func54 (by kernel_rfl) ZlX,aO.2 ⟨aL.aQ Zh Tryz.func104 (by kernel_rfl) Zen,aO.2 ⟨aL.aQ Zh Tryz.func105 (by kernel_rfl) Zgg,aO.2 ⟨aL.aQ Zh Tryz.func106 (by kernel_rfl) ZtT,aO.2 ⟨aL.aQ Zh Tryz.func107 (by kernel_rfl) ZoN,aO.2 ⟨aL.aQ Zh Tryz.func109 (by kernel_rfl) Zs2,aO.2 ⟨aL.aQ Zh Tryz.func108 (by kernel_rfl) Zr6,aO.2 ⟨aL.aQ Zh Tryz.func110 (by kernel_rfl) ZnD,aO.2 ⟨aL.aQ Zh Tryz.func111 (by kernel_rfl) ZuU,aO.2 ⟨aL.aQ Zh Tryz.func124 (by kernel_rfl) Zsw,aO.2 ⟨aL.aQ Zh Tryz.func125 (by kernel_rfl) ZtM,aO.2 ⟨aL.aQ Zh Tryz.func126 (by kernel_rfl) Zvd,aO.2 ⟨aL.aQ Zh Tryz.func127 (by kernel_rfl) Zsr,aO.2 ⟨aL.aQ Zh Tryz.func128 (by kernel_rfl) ZtF,aO.2 ⟨aL.aQ Zh Tryz.func129 (by kernel_rfl) Zyo,aO.2 ⟨aL.aQ Zh Tryz.func130 (by kernel_rfl) ZjQ,aO.2 ⟨aL.aQ Zh Tryz.func131 (by kernel_rfl) Zuo,aO.2 ⟨aL.aQ Zh Tryz.func132 (by kernel_rfl) ZtE,aO.2 ⟨aL.aQ Zh Tryz.func139 (by kernel_rfl) Zr9,aO.2 ⟨aL.aQ Zh Tryz.func140 (by kernel_rfl) ZrW,aO.2 ⟨aL.aQ Zh Tryz.func141 (by kernel_rfl) Zsy,aO.2 ⟨aL.aQ Zh Tryz.func142 (by kernel_rfl) ZvI,aO.2 ⟨aL.aQ Zh Tryz.func143 (by kernel_rfl) Zgw,aO.2 ⟨aL.aQ Zh Tryz.func144 (by kernel_rfl) Zr5,aO.2 ⟨aL.aQ Zh Tryz.func156 (by kernel_rfl) ZwH,aO.2 ⟨aL.aQ Zh Tryz.func157 (by kernel_rfl) ZpZ,aO.2 ⟨aL.aQ Zh Tryz.func158 (by kernel_rfl) ZrV,aO.2 ⟨aL.aQ Zh Tryz.func159 (by kernel_rfl) ZnZ,aO.2 ⟨aL.aQ Zh Tryz.func160 (by kernel_rfl) Zqe,aO.2 ⟨aL.aQ Zh Tryz.func174 (by kernel_rfl) ZtV,aO.2 ⟨aL.aQ Zh Tryz.func173 (by kernel_rfl) Zw4,aO.2 ⟨aL.aQ Zh Tryz.func175 (by kernel_rfl) Zvj,aO.2 ⟨aL.aQ Zh Tryz.func176 (by kernel_rfl) ZtJ,aO.2 ⟨aL.aQ Zh Tryz.func185 (by kernel_rfl) ZsB,aO.2 ⟨aL.aQ Zh Tryz.func186 (by kernel_rfl) ZuC,aO.2 ⟨aL.aQ Zh Tryz.func187 (by kernel_rfl) ZnV,aO.2 ⟨aL.aQ Zh Tryz.func188 (by kernel_rfl) Zpr,aO.2 ⟨aL.aQ Zh Tryz.func189 (by kernel_rfl) Zmq,aO.2 ⟨aL.aQ Zh Tryz.func190 (by kernel_rfl) Zn2,aO.2 ⟨aL.aQ Zh Tryz.func197 (by kernel_rfl) Zxp,aO.2 ⟨aL.aQ Zh Tryz.func198 (by kernel_rfl) ZrH,aO.2 ⟨aL.aQ Zh Tryz.func205 (by kernel_rfl) ZvH,aO.2 ⟨aL.aQ Zh Tryz.func207 (by kernel_rfl) ZqO,aO.2 ⟨aL.aQ Zh Tryz.func208 (by kernel_rfl) ZrI,aO.2 ⟨aL.aQ Zh Tryz.func210 (by kernel_rfl) Zlv,aO.2 ⟨aL.aQ Zh Tryz.func212 (by kernel_rfl) Zu4,aO.2 ⟨aL.aQ Zh Tryz.func213 (by kernel_rfl) ZpY,aO.2 ⟨aL.aQ Zh Tryz.func219 (by kernel_rfl) ZwJ,(fun _ h=>by cases h)⟩⟩⟩⟩⟩⟩⟩⟩⟩⟩⟩⟩⟩⟩⟩⟩⟩⟩⟩⟩⟩⟩⟩⟩⟩⟩⟩⟩⟩⟩⟩⟩⟩⟩⟩⟩⟩⟩⟩⟩⟩⟩⟩⟩⟩⟩⟩⟩⟩⟩⟩⟩⟩⟩⟩⟩⟩⟩⟩⟩⟩⟩⟩⟩⟩⟩⟩⟩⟩⟩⟩⟩⟩⟩⟩⟩⟩⟩⟩⟩⟩⟩⟩⟩⟩⟩⟩⟩⟩⟩⟩⟩⟩⟩⟩⟩⟩⟩⟩⟩⟩⟩⟩⟩⟩⟩⟩⟩⟩⟩⟩⟩⟩⟩⟩⟩⟩⟩⟩⟩⟩⟩⟩⟩⟩⟩⟩⟩⟩⟩⟩⟩)
theorem Zm0:Li (bdOf bdsMt):=⟨by kernel_rfl⟩
theorem Zps:LY (bdOf bdsMt):=⟨by kernel_rfl,Zm0⟩
theorem Zjq:Gi (bdOf bdsMt):=⟨by kernel_rfl,Zps⟩
theorem ZqN:Mc (bdOf bdsMt):=⟨by kernel_rfl⟩
theorem Zvc:Nj (bdOf bdsMt):=⟨by kernel_rfl,ZqN⟩
theorem Zp7:Mr (bdOf bdsMt):=⟨by kernel_rfl,Zvc⟩
theorem Zub:MQ (bdOf bdsMt):=⟨by kernel_rfl⟩
theorem ZoT:LX (bdOf bdsMt):=⟨by kernel_rfl,Zub,Zjq⟩
theorem Zqh:Ml (bdOf bdsMt):=⟨by kernel_rfl⟩
theorem Zl1:K5 (bdOf bdsMt):=⟨by kernel_rfl⟩
theorem ZkC:KZ (bdOf bdsMt):=⟨by kernel_rfl,Zl1⟩
theorem Zgj:KP (bdOf bdsMt):=⟨by kernel_rfl,ZkC⟩
theorem Zn0:Lx (bdOf bdsMt):=⟨by kernel_rfl,Zqh,Zgj⟩
theorem Zm4:Lf (bdOf bdsMt):=⟨by kernel_rfl,Zjq⟩
theorem ZiQ:KV (bdOf bdsMt):=⟨by kernel_rfl⟩
theorem ZqL:Me (bdOf bdsMt):=⟨by kernel_rfl⟩
theorem ZiA:KT (bdOf bdsMt):=⟨by kernel_rfl⟩
theorem Zsu:Mx (bdOf bdsMt):=⟨by kernel_rfl⟩
theorem Zi2:F5 (bdOf bdsMt):=⟨by kernel_rfl⟩
theorem Zpp:LL (bdOf bdsMt):=⟨by kernel_rfl⟩
theorem Zpy:LB (bdOf bdsMt):=⟨by kernel_rfl,ZoT,Zm4,Zpp⟩
theorem Zm1:Ln (bdOf bdsMt):=⟨by kernel_rfl⟩
theorem Zsk:Mw (bdOf bdsMt):=⟨by kernel_rfl,Zi2,Zpy,Zm1,Zsu⟩
theorem ZmW:Le (bdOf bdsMt):=⟨by kernel_rfl⟩
theorem ZqF:Mf (bdOf bdsMt):=⟨by kernel_rfl,ZqL,ZmW⟩
theorem Zpc:LW (bdOf bdsMt):=⟨by kernel_rfl⟩
theorem Zj5:GI (bdOf bdsMt):=⟨by kernel_rfl⟩
theorem Zgh:Zdo (bdOf bdsMt):=⟨by kernel_rfl⟩
theorem Zfl:KQ (bdOf bdsMt):=⟨by kernel_rfl,Zgh⟩
theorem Zqq:Mb (bdOf bdsMt):=⟨by kernel_rfl⟩
theorem ZmU:Lo (bdOf bdsMt):=⟨by kernel_rfl⟩
theorem Zlt:Fb (bdOf bdsMt):=⟨by kernel_rfl,ZmU⟩
theorem ZiW:xq (bdOf bdsMt):=⟨by kernel_rfl,Zqq,Zlt⟩
theorem ZpH:Ms (bdOf bdsMt):=⟨by kernel_rfl⟩
theorem Zph:LI (bdOf bdsMt):=⟨by kernel_rfl⟩
theorem xo:tL (bdOf bdsMt):=⟨by kernel_rfl,Zph⟩
theorem ZqM:L9 (bdOf bdsMt):=⟨by kernel_rfl⟩
theorem Zpg:LP (bdOf bdsMt):=⟨by kernel_rfl,ZqM⟩
theorem Zso:MC (bdOf bdsMt):=⟨by kernel_rfl,Zpg⟩
theorem ZqJ:Mn (bdOf bdsMt):=⟨by kernel_rfl⟩
theorem xr:tM (bdOf bdsMt):=⟨by kernel_rfl,xo,Zso,ZqJ⟩
theorem Zr7:Mu (bdOf bdsMt):=⟨by kernel_rfl,xo,xr⟩
theorem Fk:zr (bdOf bdsMt):=⟨by kernel_rfl⟩
theorem ZrK:My (bdOf bdsMt):=⟨by kernel_rfl,xo,xr⟩
theorem Zk6:ET (bdOf bdsMt):=⟨by kernel_rfl,Fk,ZrK⟩
theorem Zsm:MH (bdOf bdsMt):=⟨by kernel_rfl,xo,xr⟩
theorem Lh:BL (bdOf bdsMt):=⟨by kernel_rfl⟩
theorem ZrC:MF (bdOf bdsMt):=⟨by kernel_rfl,xo,xr,Lh⟩
theorem Zls:Lc (bdOf bdsMt):=⟨by kernel_rfl,Fk,Zk6,Zsm,ZrC⟩
theorem Zp5:Mg (bdOf bdsMt):=⟨by kernel_rfl,Lh⟩
theorem Zqn:Mh (bdOf bdsMt):=⟨by kernel_rfl,xo,xr,Zp5⟩
theorem ZrE:MD (bdOf bdsMt):=⟨by kernel_rfl,xo,xr,Lh⟩
theorem Zj3:K4 (bdOf bdsMt):=⟨by kernel_rfl,Fk,Zqn,ZrE⟩
theorem ZpG:Mq (bdOf bdsMt):=⟨by kernel_rfl⟩
theorem ZiM:Gn (bdOf bdsMt):=⟨by kernel_rfl,ZpG⟩
theorem Zoh:LH (bdOf bdsMt):=⟨by kernel_rfl,ZiM,Zi2⟩
theorem Zsg:MB (bdOf bdsMt):=⟨by kernel_rfl,xr⟩
theorem Zqd:Zip (bdOf bdsMt):=⟨by kernel_rfl⟩
theorem Zjk:Ge (bdOf bdsMt):=⟨by kernel_rfl,ZpH,Zsk,Zr7,Zls,Zj3,ZiM,Zoh,Fk,Zsg,Zqd⟩
theorem ZiN:FJ (bdOf bdsMt):=⟨by kernel_rfl⟩
theorem FP:zA (bdOf bdsMt):=⟨by kernel_rfl,ZiN⟩
theorem Mz:B2 (bdOf bdsMt):=⟨by kernel_rfl,FP⟩
theorem ZmX:Ll (bdOf bdsMt):=⟨by kernel_rfl⟩
theorem Znv:H9 (bdOf bdsMt):=⟨by kernel_rfl⟩
theorem ZoP:LU (bdOf bdsMt):=⟨by kernel_rfl,Zj5,Znv⟩
theorem Zik:KU (bdOf bdsMt):=⟨by kernel_rfl⟩
theorem Zdb:EN (bdOf bdsMt):=⟨by kernel_rfl,Zik⟩
theorem Zon:LN (bdOf bdsMt):=⟨by kernel_rfl,Zj5,ZmX,ZoP,Zdb⟩
theorem xp:ZX (bdOf bdsMt):=⟨by kernel_rfl⟩
theorem Zp8:L8 (bdOf bdsMt):=⟨by kernel_rfl⟩
theorem Zpm:LJ (bdOf bdsMt):=⟨by kernel_rfl,Znv,Zp8⟩
theorem Zir:Gl (bdOf bdsMt):=⟨by kernel_rfl,ZiN⟩
theorem Zli:Hq (bdOf bdsMt):=⟨by kernel_rfl⟩
theorem Zjp:F4 (bdOf bdsMt):=⟨by kernel_rfl⟩
theorem zp:vw (bdOf bdsMt):=⟨by kernel_rfl,Zjp⟩
theorem ZsM:M2 (bdOf bdsMt):=⟨by kernel_rfl⟩
theorem ZrL:MI (bdOf bdsMt):=⟨by kernel_rfl,ZsM⟩
theorem ZnY:Ls (bdOf bdsMt):=⟨by kernel_rfl⟩
theorem Zvu:NB (bdOf bdsMt):=⟨by kernel_rfl,ZrL,ZnY⟩
theorem ZsR:Nu (bdOf bdsMt):=⟨by kernel_rfl,Zvu⟩
theorem zz:vv (bdOf bdsMt):=⟨by kernel_rfl⟩
theorem Zpt:LC (bdOf bdsMt):=⟨by kernel_rfl,zp,ZsR,zz⟩
theorem Zop:LM (bdOf bdsMt):=⟨by kernel_rfl⟩
theorem zy:vu (bdOf bdsMt):=⟨by kernel_rfl,Zpt,Zop⟩
theorem ZrM:MK (bdOf bdsMt):=⟨by kernel_rfl,Zjp,zz⟩
theorem Zok:LA (bdOf bdsMt):=⟨by kernel_rfl,ZrM⟩
theorem Zoa:Lp (bdOf bdsMt):=⟨by kernel_rfl⟩
theorem ZpM:Ma (bdOf bdsMt):=⟨by kernel_rfl,Zfl,Zoa⟩
theorem Zud:Ns (bdOf bdsMt):=⟨by kernel_rfl,zy,zp,Zok,ZpM⟩
theorem Zjc:Gs (bdOf bdsMt):=⟨by kernel_rfl⟩
theorem ZmF:Lb (bdOf bdsMt):=⟨by kernel_rfl,Zjc⟩
theorem ZnA:Lt (bdOf bdsMt):=⟨by kernel_rfl,zy,zz,ZmF⟩
theorem Zm6:Lm (bdOf bdsMt):=⟨by kernel_rfl,Zjc⟩
theorem Zpf:LD (bdOf bdsMt):=⟨by kernel_rfl,zy,zp,zz,Zm6⟩
theorem Zfc:Fh (bdOf bdsMt):=⟨by kernel_rfl⟩
theorem ZkE:KX (bdOf bdsMt):=⟨by kernel_rfl,Zp7,Zfc⟩
theorem Zme:La (bdOf bdsMt):=⟨by kernel_rfl,zy,zp,zz,ZkE⟩
theorem Zmv:K7 (bdOf bdsMt):=⟨by kernel_rfl,Zdb,Zfc⟩
theorem ZnW:Lq (bdOf bdsMt):=⟨by kernel_rfl,zy,zp,zz,Zmv⟩
theorem ZqD:Mp (bdOf bdsMt):=⟨by kernel_rfl,Zud,ZnA,Zpf,Zme,ZnW⟩
theorem Fg:Z4 (bdOf bdsMt):=⟨by kernel_rfl,Zir,xp,Zli,FP,ZqD⟩
theorem ZkY:E9 (bdOf bdsMt):=⟨by kernel_rfl,xp,Fg⟩
theorem ZjZ:K3 (bdOf bdsMt):=⟨by kernel_rfl,xp,Zpm,Fg,ZkY⟩
theorem ZkT:KY (bdOf bdsMt):=⟨by kernel_rfl,xp⟩
theorem ZkH:ES (bdOf bdsMt):=⟨by kernel_rfl,xp,Fg,ZiW⟩
theorem Zdm:Z0 (bdOf bdsMt):=⟨by kernel_rfl⟩
theorem ZjG:K2 (bdOf bdsMt):=⟨by kernel_rfl,xp,Fg,Zn0,ZkH,Zdm,ZiW⟩
theorem Zk3:K0 (bdOf bdsMt):=⟨by kernel_rfl⟩
theorem LF:zF (bdOf bdsMt):=⟨by kernel_rfl,Mz,Zon,xp,ZjZ,ZkT,ZjG,Zk3⟩
theorem ZbI:ZB (bdOf bdsMt):=⟨by kernel_rfl⟩
theorem ZdS:Z9 (bdOf bdsMt):=⟨by kernel_rfl⟩
theorem Zsf:Hg (bdOf bdsMt):=⟨by kernel_rfl,ZdS⟩
theorem Zlf:Hp (bdOf bdsMt):=⟨by kernel_rfl,ZbI,Zsf,ZiA⟩
theorem Zf0:KR (bdOf bdsMt):=⟨by kernel_rfl⟩
theorem ZmV:Lj (bdOf bdsMt):=⟨by kernel_rfl,Zf0⟩
theorem Zsl:Mv (bdOf bdsMt):=⟨by kernel_rfl,zy,zp⟩
theorem ZoR:L5 (bdOf bdsMt):=⟨by kernel_rfl⟩
theorem Zo0:LR (bdOf bdsMt):=⟨by kernel_rfl⟩
theorem Zsx:Mt (bdOf bdsMt):=⟨by kernel_rfl,Zo0⟩
theorem ZsA:MM (bdOf bdsMt):=⟨by kernel_rfl,Zsx⟩
theorem ZpO:Mm (bdOf bdsMt):=⟨by kernel_rfl,ZsA⟩
theorem ZrT:MO (bdOf bdsMt):=⟨by kernel_rfl,Mz,FP,ZoR,ZpO⟩
theorem ZhM:FB (bdOf bdsMt):=⟨by kernel_rfl,ZiQ⟩
theorem Zf5:KS (bdOf bdsMt):=⟨by kernel_rfl⟩
theorem ZlH:K8 (bdOf bdsMt):=⟨by kernel_rfl,Zf5⟩
theorem ZmY:Lg (bdOf bdsMt):=⟨by kernel_rfl,ZhM,FP,ZlH⟩
theorem Zij:Gr (bdOf bdsMt):=⟨by kernel_rfl,LF,Mz,Zir,ZmV,Zsl,Zli,ZrT,ZmY⟩
theorem ZkK:K1 (bdOf bdsMt):=⟨by kernel_rfl⟩
theorem Zl7:K9 (bdOf bdsMt):=⟨by kernel_rfl,ZkK⟩
theorem Zom:Lz (bdOf bdsMt):=⟨by kernel_rfl⟩
theorem Zog:LG (bdOf bdsMt):=⟨by kernel_rfl,Zjk,LF,Zlf,Zij,Zl7,Zom⟩
theorem has_law26_MarkStates:Zhh (bdOf bdsMt):=⟨by kernel_rfl,Zog,Zpc,Zjk,LF,ZqF,Zlf,Zij,ZhM⟩
end Go.Gv
