/- The ties of a seat: written by gvseat.py. -/
import Derived.Test.YtegglibipjjblaaGreatDoorGvZRun
import Derived.Test.YtegglibipjjblaaGreatDoorGvSortOk
import Derived.Test.YtegglibipjjblaaGreatDoorGvZLaw
import Derived.Test.YtegglibipjjblaaGreatDoorGvZBod
import Derived.Test.YtegglibipjjblaaGreatDoorGvBMk
import Derived.Test.YtegglibipjjblaaGreatDoorProg
namespace Go.Gv
open Go.Proofs
set_option maxRecDepth 100000
noncomputable section
noncomputable def cfgMs:Cfg:=⟨Tryz.prog,lkN [(145,12),(177,15),(199,19),(209,26),(112,27),(218,28),(146,29),(134,34),(100,39),(113,40),(220,54),(133,57),(161,64),(191,72),(64,86),(24,113),(58,114),(29,133),(18,136),(15,138),(70,141),(72,142),(68,143),(71,144),(93,145),(206,147),(55,153),(28,155),(217,156),(103,159),(138,161),(137,162),(172,163),(14,169),(16,170),(17,171),(21,172),(20,173),(19,174),(23,177),(25,179),(5,181),(31,183),(30,184),(40,188),(41,189),(42,190),(39,191),(47,192),(46,193),(45,194),(44,195),(43,196),(48,197),(56,198),(57,199),(62,200),(63,201),(59,202),(61,203),(60,204),(66,206),(73,209),(74,210),(85,213),(86,214),(89,215),(88,216),(87,217),(91,218),(90,219),(92,220),(94,221),(96,222),(95,223),(50,225),(51,226),(97,227),(98,228),(99,229),(52,230),(53,231),(102,232),(101,233),(54,234),(104,235),(105,236),(106,237),(107,238),(109,239),(108,240),(110,241),(111,242),(124,248),(125,249),(126,250),(127,251),(128,252),(129,253),(130,254),(131,255),(132,256),(139,259),(140,260),(141,261),(142,262),(143,263),(144,264),(156,272),(157,273),(158,274),(159,275),(160,276),(174,285),(173,286),(175,287),(176,288),(185,295),(186,296),(187,297),(188,298),(189,299),(190,300),(197,306),(198,307),(205,312),(207,313),(208,314),(210,315),(212,317),(213,318),(219,320)],has [145,177,199,209,112,218,146,134,100,113,220,133,161,191,64,24,58,29,18,15,70,72,68,71,93,206,55,28,217,103,138,137,172,14,16,17,21,20,19,23,25,5,31,30,40,41,42,39,47,46,45,44,43,48,56,57,62,63,59,61,60,66,73,74,85,86,89,88,87,91,90,92,94,96,95,50,51,97,98,99,52,53,102,101,54,104,105,106,107,109,108,110,111,124,125,126,127,128,129,130,131,132,139,140,141,142,143,144,156,157,158,159,160,174,173,175,176,185,186,187,188,189,190,197,198,205,207,208,210,212,213,219],tyN [(9,0),(143,4),(159,5),(163,2),(166,1),(171,3),(202,6)],lkN [(0,2)],has [0],lkE [(23,[.int .i64,.int .i64,.int .i64]),(62,[.int .i64,.int .i64,.int .i64,.int .i64]),(137,[.bool,.int .i64,.int .i64])],has [101]⟩
theorem Zri:bodyM cfgMs ⟨[],(.n .z (.n .z (.n (.j [(3,.v (.b (.slice 1)))] (.j [(0,.v (.b (.str))),(3,.v (.b (.slice 1)))] .z .z) .z) .z))),true⟩ Tryz.f145=ZeC:=by kernel_rfl
theorem Zrj:bodyM cfgMs ⟨[],(.n .z (.n .z (.n .z (.n (.n (.n .z (.n .z (.n .z (.n .z (.n .z (.j [] (.n (.n .z (.j [(5,.v (.b (.int .u8)))] .z .z)) (.n (.n .z (.j [(6,.v (.b (.int .u8)))] .z .z)) .z)) (.n .z (.j [] (.n (.n .z (.j [(5,.v (.b (.int .u8)))] .z .z)) (.n (.n .z (.j [(6,.v (.b (.int .u8)))] .z .z)) .z)) .z)))))))) .z) .z)))),false⟩ Tryz.f177=Zek:=by kernel_rfl
theorem Zos:bodyM cfgMs ⟨[],.z,false⟩ Tryz.f199=Zdp:=by kernel_rfl
theorem ZsC:bodyM cfgMs ⟨[],(.n .z (.n .z (.n (.n .z (.j [(3,.v (.b (.int .i64)))] (.j [(3,.v (.b (.int .i64))),(7,.t)] .z .z) .z)) .z))),false⟩ Tryz.f209=Zfu:=by kernel_rfl
theorem Zq4:bodyM cfgMs ⟨[],(.n .z (.n .z (.n .z (.n (.n .z (.j [(4,.v (.b (.bool)))] (.j [(4,.v (.b (.bool))),(5,.v (.b (.int .i64)))] .z .z) .z)) .z)))),false⟩ Tryz.f112=ZeE:=by kernel_rfl
theorem ZwF:bodyM cfgMs ⟨[4],(.n .z (.n (.n .z (.j [] (.j [(6,.v (.b (.int .i64)))] .z .z) .z)) .z)),false⟩ Tryz.f218=ZiK:=by kernel_rfl
theorem ZvN:bodyM cfgMs ⟨[],.z,false⟩ Tryz.f146=Zhp:=by kernel_rfl
theorem ZtT:bodyM cfgMs ⟨[],(.n .z (.n .z (.n (.n .z (.j [(3,.v (.b (.slice 1)))] (.j [(3,.v (.b (.slice 1))),(7,.t)] .z .z) .z)) .z))),true⟩ Tryz.f134=Ze9:=by kernel_rfl
theorem Zpb:bodyM cfgMs ⟨[],.z,false⟩ Tryz.f100=Zd0:=by kernel_rfl
theorem Zor:bodyM cfgMs ⟨[],(.n .z (.n .z (.n (.n .z (.j [] (.j [(7,.v (.b (.int .i64)))] .z .z) .z)) .z))),false⟩ Tryz.f113=Zdu:=by kernel_rfl
theorem Zs5:bodyM cfgMs ⟨[0],.z,false⟩ Tryz.f220=Ziu:=by kernel_rfl
theorem Zg4:bodyM cfgMs ⟨[],(.n .z (.n (.n .z (.j [] (.j [(11,.v (.b (.int .i64)))] .z .z) .z)) .z)),false⟩ Tryz.f133=Z9:=by kernel_rfl
theorem ZlY:bodyM cfgMs ⟨[],.z,false⟩ Tryz.f161=Zcg:=by kernel_rfl
theorem Znw:bodyM cfgMs ⟨[],.z,false⟩ Tryz.f191=Zc0:=by kernel_rfl
theorem Zju:bodyM cfgMs ⟨[],.z,false⟩ Tryz.f64=Z8:=Zzd (fun c=>by kernel_rfl) (by kernel_rfl)
theorem ZtQ:bodyM cfgMs ⟨[],(.n .z (.n .z (.n (.n .z (.j [] (.j [(5,.v (.b (.int .i64)))] .z .z) .z)) .z))),false⟩ Tryz.f24=ZcO:=by kernel_rfl
theorem Zjx:bodyM cfgMs ⟨[],(.n .z (.n .z (.n (.n .z (.j [] (.j [(13,.v (.b (.int .i64)))] .z .z) .z)) .z))),false⟩ Tryz.f58=ZbE:=by kernel_rfl
theorem ZuQ:bodyM cfgMs ⟨[1,7],(.n .z (.n .z (.n .z (.n .z (.n .z (.n .z (.n (.n .z (.j [] (.j [(6,.v (.b (.int .i64)))] .z .z) .z)) (.n (.n .z (.j [] (.j [(8,.v (.b (.int .i64)))] .z .z) .z)) (.n (.n .z (.j [] (.j [(10,.v (.b (.int .i64)))] .z .z) .z)) .z))))))))),false⟩ Tryz.f29=Zgn:=by kernel_rfl
theorem Zsk:bodyM cfgMs ⟨[2,3],(.n .z (.n .z (.n (.n .z (.j [] (.j [(5,.v (.b (.int .i64)))] .z .z) .z)) .z))),false⟩ Tryz.f18=Ze5:=by kernel_rfl
theorem Zr0:bodyM cfgMs ⟨[1],(.n .z (.n .z (.n (.n .z (.j [] (.j [(3,.v (.b (.int .i64)))] .z .z) .z)) .z))),false⟩ Tryz.f15=Zet:=by kernel_rfl
theorem ZrA:bodyM cfgMs ⟨[1],.z,false⟩ Tryz.f70=ZeF:=by kernel_rfl
theorem Zod:bodyM cfgMs ⟨[1],(.n .z (.n .z (.n (.n .z (.j [(3,.v (.b (.slice 4)))] (.j [(3,.v (.b (.slice 4))),(4,.v (.b (.int .i64)))] .z .z) .z)) .z))),true⟩ Tryz.f72=Zdt:=by kernel_rfl
theorem Zt5:bodyM cfgMs ⟨[],(.n .z (.n (.n .z (.j [] (.j [(5,.v (.b (.int .i64)))] .z .z) .z)) .z)),false⟩ Tryz.f68=Zgf:=by kernel_rfl
theorem Zrz:bodyM cfgMs ⟨[],(.n .z (.n .z (.n (.n .z (.j [] (.j [(3,.v (.b (.int .i64)))] (.n .z (.n (.j [] (.n .z (.n .z (.j [] (.j [(4,.v (.b (.int .i64)))] .z .z) .z))) .z) .z)) .z) .z)) .z))),false⟩ Tryz.f71=Zew:=by kernel_rfl
theorem Ztq:bodyM cfgMs ⟨[1],.z,false⟩ Tryz.f93=ZcI:=by kernel_rfl
theorem ZfN:bodyM cfgMs ⟨[],.z,false⟩ Tryz.f206=ZY:=by kernel_rfl
theorem Zoj:bodyM cfgMs ⟨[],(.n .z (.n .z (.n (.n .z (.j [] (.j [(5,.v (.b (.int .i64)))] .z .z) .z)) .z))),false⟩ Tryz.f55=Zbj:=by kernel_rfl
theorem Zrn:bodyM cfgMs ⟨[2,3],.z,false⟩ Tryz.f28=ZeA:=by kernel_rfl
theorem ZgU:bodyM cfgMs ⟨[],(.n .z (.n (.n .z (.j [] (.j [(8,.v (.b (.int .i64)))] .z .z) .z)) .z)),false⟩ Tryz.f217=Zba:=by kernel_rfl
theorem Zj2:bodyM cfgMs ⟨[2,3],.z,false⟩ Tryz.f103=ZcG:=by kernel_rfl
theorem Zhj:bodyM cfgMs ⟨[],.z,false⟩ Tryz.f138=ZbW:=by kernel_rfl
theorem Zls:bodyM cfgMs ⟨[],(.n .z (.n .z (.n (.n .z (.j [] (.j [(8,.v (.b (.int .i64)))] .z .z) .z)) .z))),false⟩ Tryz.f137=ZdB:=by kernel_rfl
theorem ZiR:bodyM cfgMs ⟨[],.z,false⟩ Tryz.f172=Zcm:=by kernel_rfl
theorem Zro:bodyM cfgMs ⟨[2,4],.z,false⟩ Tryz.f14=Zeo:=by kernel_rfl
theorem ZrT:bodyM cfgMs ⟨[3,7,10],(.n .z (.n .z (.n .z (.n .z (.n .z (.n .z (.n .z (.n .z (.n (.n .z (.j [(10,.l [.int .i64,.int .i64,.int .i64,.int .i64,.int .i64,.int .i64,.int .i64,.int .i64,.slice 1])] .z .z)) (.n .z (.n (.n .z (.j [(10,.l [.int .i64,.int .i64,.int .i64,.int .i64,.int .i64,.int .i64,.int .i64,.int .i64,.slice 1])] (.j [(10,.l [.int .i64,.int .i64,.int .i64,.int .i64,.int .i64,.int .i64,.int .i64,.int .i64,.slice 1]),(12,.v (.b (.int .i64)))] .z .z) .z)) (.n (.n .z (.j [(11,.v (.b (.slice 1)))] (.j [(11,.v (.b (.slice 1))),(13,.v (.b (.int .i64)))] .z .z) .z)) (.n .z (.n (.n .z (.j [] (.j [(14,.v (.b (.int .i64)))] .z .z) .z)) .z)))))))))))))),false⟩ Tryz.f16=Zes:=by kernel_rfl
theorem Zug:bodyD cfgMs 3 Tryz.f17 Tryz.f49=Zgd:=by kernel_rfl
theorem ZoZ:bodyM cfgMs ⟨[],(.n .z (.n .z (.n (.n .z (.j [(3,.v (.b (.slice 1)))] (.j [(3,.v (.b (.slice 1))),(11,.v (.b (.int .i64)))] (.n .z (.n .z (.n (.j [(3,.v (.b (.slice 1)))] (.n .z (.j [(3,.v (.b (.slice 1)))] (.j [(3,.v (.b (.slice 1))),(5,.v (.b (.int .u64)))] .z .z) .z)) .z) .z))) .z) .z)) .z))),false⟩ Tryz.f21=Zdr:=by kernel_rfl
theorem ZpZ:bodyM cfgMs ⟨[4,7,13],(.n .z (.n .z (.n .z (.n .z (.n (.n .z (.j [(10,.v (.b (.slice 49)))] (.j [(10,.v (.b (.slice 49))),(39,.v (.b (.int .i64)))] .z .z) .z)) .z))))),false⟩ Tryz.f20=ZdQ:=by kernel_rfl
theorem Zus:bodyM cfgMs ⟨[2,3],.z,false⟩ Tryz.f19=Zgc:=by kernel_rfl
theorem Zv7:bodyM cfgMs ⟨[],.z,false⟩ Tryz.f23=Zi3:=by kernel_rfl
theorem ZsZ:bodyM cfgMs ⟨[],.z,false⟩ Tryz.f25=Zff:=by kernel_rfl
theorem ZmD:bodyM cfgMs ⟨[2,3,5],.z,false⟩ Tryz.f5=ZcE:=by kernel_rfl
theorem Zns:bodyM cfgMs ⟨[],(.n .z (.n .z (.n (.n .z (.j [(3,.v (.b (.int .i64)))] (.j [(3,.v (.b (.int .i64))),(11,.v (.b (.int .i64)))] .z .z) .z)) .z))),false⟩ Tryz.f31=ZcX:=by kernel_rfl
theorem Zpt:bodyM cfgMs ⟨[],.z,false⟩ Tryz.f30=Zd1:=by kernel_rfl
theorem Zrx:bodyM cfgMs ⟨[0],.z,true⟩ Tryz.f40=Zeu:=by kernel_rfl
theorem Zmt:bodyM cfgMs ⟨[7],(.n .z (.n .z (.n (.n .z (.j [(5,.v (.b (.slice 1)))] (.j [(5,.v (.b (.slice 1))),(6,.v (.b (.int .i64)))] (.n .z (.n (.j [(5,.v (.b (.slice 1)))] (.n .z (.n .z (.n (.n .z (.j [(7,.l [.str,.int .i64,.blob 12])] (.j [(7,.l [.str,.int .i64,.blob 12]),(8,.v (.b (.slice 4))),(9,.v (.b (.int .i64)))] (.n .z (.n (.n (.n .z (.j [(7,.l [.str,.int .i64,.blob 12]),(8,.v (.b (.slice 4)))] .z .z)) .z) .z)) .z) .z)) .z))) .z) .z)) .z) .z)) .z))),false⟩ Tryz.f41=ZcF:=by kernel_rfl
theorem Zk3:bodyM cfgMs ⟨[3,7,12,14],(.n .z (.n .z (.n (.n .z (.j [(5,.v (.b (.slice 1)))] (.j [(5,.v (.b (.slice 1))),(6,.v (.b (.int .i64)))] (.n .z (.n (.j [(5,.v (.b (.slice 1)))] (.n .z (.n (.n .z (.j [(7,.l [.blob 21])] (.j [(7,.l [.blob 21]),(8,.v (.b (.int .i64)))] (.n .z (.n (.j [(7,.l [.blob 21])] (.n .z (.n (.n .z (.j [(7,.l [.blob 21])] .z .z)) (.n .z (.j [(7,.l [.blob 21])] (.j [(7,.l [.blob 21]),(9,.v (.b (.int .i64)))] (.n .z (.n (.n (.n .z (.j [(7,.l [.blob 21])] .z .z)) .z) .z)) .z) .z)))) .z) .z)) .z) .z)) .z)) .z) .z)) .z) .z)) (.n .z (.n .z (.n (.n .z (.j [(12,.l [.blob 16])] (.j [(12,.l [.blob 16]),(13,.v (.b (.int .i64)))] (.n .z (.n (.j [(12,.l [.blob 16])] (.n .z (.n (.n .z (.j [(14,.l [.blob 16])] (.j [(14,.l [.blob 16]),(15,.v (.b (.int .i64)))] .z .z) .z)) .z)) .z) .z)) .z) .z)) .z)))))),false⟩ Tryz.f42=Zce:=by kernel_rfl
theorem ZuM:bodyM cfgMs ⟨[1],(.n .z (.n .z (.n .z (.n (.n .z (.j [(3,.v (.b (.str)))] (.j [(3,.v (.b (.str))),(4,.v (.b (.int .i64)))] .z .z) .z)) .z)))),false⟩ Tryz.f39=ZgE:=by kernel_rfl
theorem ZsY:bodyM cfgMs ⟨[4,5],(.n .z (.n .z (.n (.n .z (.j [(5,.l [.int .i64,.blob 48])] (.j [(5,.l [.int .i64,.blob 48]),(6,.v (.b (.int .i64)))] (.n .z (.n (.n (.n .z (.j [(5,.l [.int .i64,.blob 48])] .z .z)) .z) .z)) .z) .z)) .z))),false⟩ Tryz.f47=Zfp:=by kernel_rfl
theorem ZuA:bodyM cfgMs ⟨[],.z,false⟩ Tryz.f46=Zgs:=by kernel_rfl
theorem Zmy:bodyM cfgMs ⟨[],(.n .z (.n .z (.n .z (.n (.n .z (.j [] .z .z)) .z)))),false⟩ Tryz.f45=ZcD:=by kernel_rfl
theorem Zrv:bodyM cfgMs ⟨[1],(.n .z (.n .z (.n .z (.n .z (.n (.n .z (.j [(3,.v (.b (.slice 1)))] .z .z)) (.n (.n .z (.j [(3,.v (.b (.slice 1)))] .z .z)) (.n (.n .z (.j [(3,.v (.b (.slice 1)))] (.j [(3,.v (.b (.slice 1))),(4,.v (.b (.int .i64)))] (.n .z (.n (.j [(3,.v (.b (.slice 1)))] (.n .z (.n .z (.j [] (.j [(5,.v (.b (.int .i64)))] .z .z) .z))) .z) .z)) .z) .z)) (.n (.n .z (.j [] (.j [(6,.v (.b (.int .i64)))] .z .z) .z)) .z)))))))),false⟩ Tryz.f44=Zei:=by kernel_rfl
theorem Zph:bodyM cfgMs ⟨[1],.z,false⟩ Tryz.f43=ZdZ:=by kernel_rfl
theorem Zq8:bodyM cfgMs ⟨[],(.n .z (.n .z (.n .z (.n .z (.n (.n .z (.j [] (.j [(102,.v (.b (.int .i64)))] .z .z) .z)) .z))))),false⟩ Tryz.f48=Zej:=by kernel_rfl
theorem ZbH:bodyM cfgMs ⟨[8,9],(.n .z (.n .z (.n (.n .z (.j [] (.j [(17,.v (.b (.int .i64)))] .z .z) .z)) .z))),false⟩ Tryz.f56=Zt:=by kernel_rfl
theorem Zut:bodyM cfgMs ⟨[2,3],.z,false⟩ Tryz.f57=Zgy:=by kernel_rfl
theorem Zt0:bodyM cfgMs ⟨[8],(.n .z (.n .z (.n .z (.n (.n .z (.j [] (.j [(27,.v (.b (.int .i64)))] .z .z) .z)) .z)))),false⟩ Tryz.f62=Zgq:=by kernel_rfl
theorem Zov:bodyM cfgMs ⟨[],.z,false⟩ Tryz.f63=Zdq:=by kernel_rfl
theorem ZnO:bodyM cfgMs ⟨[],.z,false⟩ Tryz.f59=Zdn:=by kernel_rfl
theorem ZuP:bodyM cfgMs ⟨[],.z,true⟩ Tryz.f61=Zgg:=by kernel_rfl
theorem ZuC:bodyM cfgMs ⟨[2],.z,false⟩ Tryz.f60=Zgt:=by kernel_rfl
theorem Zqd:bodyM cfgMs ⟨[],(.n .z (.j [] (.j [(8,.v (.b (.int .i64)))] (.n .z (.n .z (.n (.n (.n .z (.n .z (.j [] .z .z))) .z) .z))) .z) .z)),false⟩ Tryz.f66=Zd6:=by kernel_rfl
theorem Zpa:bodyM cfgMs ⟨[],.z,false⟩ Tryz.f73=ZdO:=by kernel_rfl
theorem ZlE:bodyM cfgMs ⟨[],.z,false⟩ Tryz.f74=Zcu:=by kernel_rfl
theorem Zuj:bodyM cfgMs ⟨[],(.n .z (.n .z (.n (.n .z (.j [(5,.v (.b (.str)))] (.j [(5,.v (.b (.str))),(6,.v (.b (.int .i64)))] .z .z) .z)) .z))),false⟩ Tryz.f85=Zgx:=by kernel_rfl
theorem Zto:bodyM cfgMs ⟨[],.z,false⟩ Tryz.f86=Ze3:=by kernel_rfl
theorem Zue:bodyM cfgMs ⟨[],(.n .z (.n .z (.n .z (.n (.n .z (.j [(4,.v (.b (.str)))] (.j [(4,.v (.b (.str))),(5,.v (.b (.int .i64)))] (.n .z (.n (.j [(4,.v (.b (.str)))] (.n .z (.n (.n .z (.j [] (.j [(6,.v (.b (.int .i64)))] .z .z) .z)) .z)) .z) .z)) .z) .z)) .z)))),false⟩ Tryz.f89=Zgh:=by kernel_rfl
theorem Zt7:bodyM cfgMs ⟨[1],(.n .z (.n .z (.n (.n .z (.j [(3,.v (.b (.str)))] (.j [(3,.v (.b (.str))),(4,.v (.b (.int .i64)))] .z .z) .z)) .z))),false⟩ Tryz.f88=Zgr:=by kernel_rfl
theorem ZlA:bodyM cfgMs ⟨[5],(.n .z (.n .z (.n (.n .z (.j [(5,.l [.int .i64,.int .i64,.int .i64,.int .i64,.slice 1])] (.j [(5,.l [.int .i64,.int .i64,.int .i64,.int .i64,.slice 1]),(6,.v (.b (.int .i64)))] .z .z) .z)) .z))),false⟩ Tryz.f87=Zcv:=by kernel_rfl
theorem ZuG:bodyM cfgMs ⟨[1],(.n .z (.n .z (.n (.n .z (.j [(4,.v (.b (.str)))] (.j [(4,.v (.b (.str))),(5,.v (.b (.int .i64)))] .z .z) .z)) .z))),false⟩ Tryz.f91=ZgC:=by kernel_rfl
theorem ZtM:bodyM cfgMs ⟨[1,7],(.n .z (.n .z (.n (.n .z (.j [(4,.v (.b (.str))),(5,.v (.b (.int .i64)))] (.j [(4,.v (.b (.str))),(5,.v (.b (.int .i64))),(6,.v (.b (.int .i64)))] (.n .z (.n (.n (.n .z (.n .z (.n (.n .z (.j [(5,.v (.b (.int .i64)))] .z .z)) .z))) .z) .z)) .z) .z)) .z))),false⟩ Tryz.f90=ZfG:=by kernel_rfl
theorem ZsJ:bodyM cfgMs ⟨[],(.n .z (.n .z (.n (.j [(5,.v (.b (.int .i64)))] (.j [(5,.v (.b (.int .i64)))] .z .z) .z) .z))),false⟩ Tryz.f92=ZfM:=by kernel_rfl
theorem Zn9:bodyM cfgMs ⟨[],.z,false⟩ Tryz.f94=Zdo:=by kernel_rfl
theorem Zhz:bodyM cfgMs ⟨[],.z,false⟩ Tryz.f96=Zbh:=by kernel_rfl
theorem ZrJ:bodyM cfgMs ⟨[1],.z,false⟩ Tryz.f95=ZeH:=by kernel_rfl
theorem ZuJ:bodyM cfgMs ⟨[],(.n .z (.j [] .z .z)),false⟩ Tryz.f50=Zga:=by kernel_rfl
theorem Zk5:bodyM cfgMs ⟨[],(.n .z (.n .z (.n .z (.j [] (.j [(32,.v (.b (.int .i64)))] (.n .z (.n .z (.n (.j [] (.n .z (.n .z (.n .z (.n .z (.n .z (.j [] (.j [(52,.v (.b (.int .i64)))] (.n .z (.n .z (.n (.n (.n .z (.n .z (.n .z (.j [] .z .z)))) .z) .z))) .z) .z)))))) .z) .z))) .z) .z)))),false⟩ Tryz.f51=Zca:=by kernel_rfl
theorem Zr3:bodyM cfgMs ⟨[],.z,false⟩ Tryz.f97=Zel:=by kernel_rfl
theorem Zlp:bodyM cfgMs ⟨[],.z,false⟩ Tryz.f98=Zcw:=by kernel_rfl
theorem Zlk:bodyM cfgMs ⟨[7],(.n .z (.j [] (.j [(13,.v (.b (.int .i64)))] (.n .z (.n .z (.n (.j [] .z .z) .z))) .z) .z)),false⟩ Tryz.f99=Zct:=by kernel_rfl
theorem Zll:bodyM cfgMs ⟨[5,7],(.n .z (.n (.n .z (.j [] (.j [(3,.v (.b (.int .i64)))] .z .z) .z)) (.n .z (.j [] (.j [(86,.v (.b (.int .i64)))] .z .z) .z)))),false⟩ Tryz.f52=Zcs:=by kernel_rfl
theorem Zkx:bodyM cfgMs ⟨[4,5],(.n .z (.n .z (.j [] (.j [(24,.v (.b (.int .i64)))] (.n .z (.n .z (.n (.j [] (.n .z (.n .z (.n .z (.n .z (.n (.n .z (.j [(5,.l [.str,.slice 4])] (.j [(5,.l [.str,.slice 4]),(57,.v (.b (.int .i64)))] (.n .z (.n .z (.n (.n (.n .z (.n .z (.j [(5,.l [.str,.slice 4])] .z .z))) .z) .z))) .z) .z)) .z))))) .z) .z))) .z) .z))),false⟩ Tryz.f53=ZbY:=by kernel_rfl
theorem Zma:bodyM cfgMs ⟨[9,10,11],(.n .z (.n .z (.n .z (.n (.j [(7,.v (.b (.slice 4)))] (.j [(7,.v (.b (.slice 4))),(8,.v (.b (.slice 7)))] (.n .z (.j [(7,.v (.b (.slice 4))),(8,.v (.b (.slice 7)))] (.n .z (.n .z (.n .z (.n .z (.n .z (.n .z (.n .z (.n .z (.n .z (.j [(8,.v (.b (.slice 7)))] (.j [(8,.v (.b (.slice 7))),(100,.v (.b (.int .i64)))] .z .z) .z)))))))))) .z)) .z) .z) .z)))),false⟩ Tryz.f101=Zcl:=by kernel_rfl
theorem ZlI:bodyM cfgMs ⟨[5],(.n .z (.n .z (.n (.n .z (.j [(3,.v (.b (.int .i64)))] (.j [(3,.v (.b (.int .i64))),(11,.v (.b (.int .i64)))] (.n .z (.n .z (.n (.n (.n .z (.n .z (.n .z (.j [(3,.v (.b (.int .i64)))] .z .z)))) .z) .z))) .z) .z)) .z))),false⟩ Tryz.f54=Zcp:=by kernel_rfl
theorem Zd8:bodyM cfgMs ⟨[],(.n .z (.n .z (.n (.n .z (.j [] (.j [(13,.v (.b (.int .i64)))] .z .z) .z)) .z))),false⟩ Tryz.f104=ZL:=by kernel_rfl
theorem Zf1:bodyM cfgMs ⟨[],(.n .z (.n .z (.n (.n .z (.j [] (.j [(13,.v (.b (.int .i64)))] .z .z) .z)) .z))),false⟩ Tryz.f105=Z2:=by kernel_rfl
theorem Ztg:bodyM cfgMs ⟨[],.z,true⟩ Tryz.f106=Zfy:=by kernel_rfl
theorem Zn1:bodyM cfgMs ⟨[],(.n .z (.n .z (.n (.n .z (.j [] (.j [(21,.v (.b (.int .i64)))] .z .z) .z)) .z))),false⟩ Tryz.f107=Zds:=by kernel_rfl
theorem Zta:bodyM cfgMs ⟨[1],(.n .z (.n .z (.n (.n .z (.j [(3,.v (.b (.slice 1)))] (.j [(3,.v (.b (.slice 1))),(6,.v (.b (.int .i64)))] (.n .z (.n .z (.n (.n (.n .z (.n .z (.n .z (.j [(3,.v (.b (.slice 1)))] .z .z)))) .z) .z))) .z) .z)) .z))),true⟩ Tryz.f109=Zfb:=by kernel_rfl
theorem ZrC:bodyM cfgMs ⟨[],.z,false⟩ Tryz.f108=Zg3:=by kernel_rfl
theorem ZnF:bodyM cfgMs ⟨[],.z,false⟩ Tryz.f110=ZcV:=by kernel_rfl
theorem ZuF:bodyM cfgMs ⟨[],(.n .z (.n .z (.n (.n .z (.j [(3,.v (.b (.int .u32)))] (.j [(3,.v (.b (.int .u32))),(4,.v (.b (.int .i64)))] .z .z) .z)) .z))),false⟩ Tryz.f111=Zgm:=by kernel_rfl
theorem Zra:bodyM cfgMs ⟨[],(.n .z (.n (.n .z (.j [(0,.v (.b (.int .u64)))] (.j [(0,.v (.b (.int .u64))),(5,.v (.b (.int .i64)))] .z .z) .z)) .z)),false⟩ Tryz.f124=ZeD:=by kernel_rfl
theorem Zsw:bodyM cfgMs ⟨[],.z,false⟩ Tryz.f125=Zfs:=by kernel_rfl
theorem ZuO:bodyM cfgMs ⟨[1,3],(.n .z (.n .z (.n .z (.n (.n .z (.j [(4,.v (.b (.str)))] (.j [(4,.v (.b (.str))),(5,.v (.b (.int .i64)))] .z .z) .z)) .z)))),false⟩ Tryz.f126=ZgA:=by kernel_rfl
theorem Zrq:bodyM cfgMs ⟨[],.z,false⟩ Tryz.f127=Zer:=by kernel_rfl
theorem Ztk:bodyM cfgMs ⟨[1],.z,false⟩ Tryz.f128=Zfo:=by kernel_rfl
theorem ZwG:bodyM cfgMs ⟨[],.z,false⟩ Tryz.f129=ZiX:=by kernel_rfl
theorem Zjl:bodyM cfgMs ⟨[],(.n .z (.n (.n .z (.j [] (.j [(8,.v (.b (.int .i64)))] .z .z) .z)) .z)),false⟩ Tryz.f130=ZbD:=by kernel_rfl
theorem ZsI:bodyM cfgMs ⟨[],.z,false⟩ Tryz.f131=ZfK:=by kernel_rfl
theorem Zsa:bodyM cfgMs ⟨[3,5,7,9,11],.z,false⟩ Tryz.f132=Zfh:=by kernel_rfl
theorem Zrw:bodyM cfgMs ⟨[],.z,false⟩ Tryz.f139=Zex:=by kernel_rfl
theorem ZrD:bodyM cfgMs ⟨[],.z,true⟩ Tryz.f140=ZeG:=by kernel_rfl
theorem ZrH:bodyM cfgMs ⟨[],.z,false⟩ Tryz.f141=ZeB:=by kernel_rfl
theorem Zun:bodyM cfgMs ⟨[2],.z,false⟩ Tryz.f142=Zgz:=by kernel_rfl
theorem ZfS:bodyM cfgMs ⟨[],.z,false⟩ Tryz.f143=Z3:=by kernel_rfl
theorem ZrI:bodyM cfgMs ⟨[],(.n .z (.n (.n .z (.j [(0,.v (.b (.int .u32)))] (.j [(0,.v (.b (.int .u32))),(5,.v (.b (.int .i64)))] .z .z) .z)) .z)),false⟩ Tryz.f144=Zeq:=by kernel_rfl
theorem ZvX:bodyM cfgMs ⟨[2,8],(.n .z (.n .z (.n .z (.n .z (.n (.n .z (.j [(8,.l [.int .i64,.int .i64,.int .i64,.int .i64,.slice 1])] (.j [(8,.l [.int .i64,.int .i64,.int .i64,.int .i64,.slice 1]),(41,.v (.b (.int .i64)))] .z .z) .z)) .z))))),true⟩ Tryz.f156=Zhx:=by kernel_rfl
theorem Zp4:bodyM cfgMs ⟨[2,8,11],(.n .z (.n .z (.n .z (.n .z (.n (.n .z (.j [(2,.l [.blob 21]),(8,.l [.blob 21])] (.j [(2,.l [.blob 21]),(8,.l [.blob 21]),(30,.v (.b (.int .i64)))] .z .z) .z)) .z))))),false⟩ Tryz.f157=Zd2:=by kernel_rfl
theorem Zr6:bodyM cfgMs ⟨[2,8],(.n .z (.n .z (.n .z (.n .z (.n (.n .z (.j [(8,.l [.blob 16])] (.j [(8,.l [.blob 16]),(36,.v (.b (.int .i64)))] .z .z) .z)) .z))))),false⟩ Tryz.f158=Zeh:=by kernel_rfl
theorem Zny:bodyM cfgMs ⟨[2,8],(.n .z (.n .z (.n .z (.n .z (.n (.n .z (.j [(8,.l [.str,.int .i64,.blob 12])] (.j [(8,.l [.str,.int .i64,.blob 12]),(51,.v (.b (.int .i64)))] .z .z) .z)) .z))))),false⟩ Tryz.f159=Zc1:=by kernel_rfl
theorem Zp7:bodyM cfgMs ⟨[2,8],(.n .z (.n .z (.n .z (.n .z (.n (.n .z (.j [(8,.l [.slice 1])] (.j [(8,.l [.slice 1]),(41,.v (.b (.int .i64)))] .z .z) .z)) .z))))),true⟩ Tryz.f160=ZdR:=by kernel_rfl
theorem ZtW:bodyM cfgMs ⟨[],(.n .z (.n .z (.n (.n .z (.j [(3,.v (.b (.int .u64)))] (.j [(3,.v (.b (.int .u64))),(12,.v (.b (.int .i64)))] .z .z) .z)) .z))),false⟩ Tryz.f174=ZfH:=by kernel_rfl
theorem ZvZ:bodyM cfgMs ⟨[],.z,false⟩ Tryz.f173=Zhu:=by kernel_rfl
theorem ZtZ:bodyM cfgMs ⟨[2],.z,false⟩ Tryz.f175=Zgu:=by kernel_rfl
theorem Zs1:bodyM cfgMs ⟨[],.z,false⟩ Tryz.f176=Zfv:=by kernel_rfl
theorem ZrN:bodyM cfgMs ⟨[],.z,false⟩ Tryz.f185=Zep:=by kernel_rfl
theorem ZsO:bodyM cfgMs ⟨[1,3],.z,false⟩ Tryz.f186=Zfk:=by kernel_rfl
theorem ZnC:bodyM cfgMs ⟨[1],.z,false⟩ Tryz.f187=Zc2:=by kernel_rfl
theorem ZnR:bodyM cfgMs ⟨[1],(.n .z (.n (.n .z (.j [] (.j [(7,.v (.b (.int .i64)))] .z .z) .z)) .z)),false⟩ Tryz.f188=Zdm:=by kernel_rfl
theorem ZlM:bodyM cfgMs ⟨[1],(.n .z (.n .z (.n (.n .z (.j [] (.j [(21,.v (.b (.int .i64)))] .z .z) .z)) .z))),false⟩ Tryz.f189=Zch:=by kernel_rfl
theorem Znr:bodyM cfgMs ⟨[1],(.n .z (.n .z (.n (.n .z (.j [] (.j [(18,.v (.b (.int .i64)))] .z .z) .z)) .z))),false⟩ Tryz.f190=ZcW:=by kernel_rfl
theorem Zw3:bodyM cfgMs ⟨[],(.n .z (.n .z (.n (.n .z (.j [(4,.v (.b (.int .u32)))] (.j [(4,.v (.b (.int .u32))),(10,.v (.b (.int .i64)))] .z .z) .z)) .z))),false⟩ Tryz.f197=ZiG:=by kernel_rfl
theorem ZrG:bodyM cfgMs ⟨[1],.z,false⟩ Tryz.f198=Zem:=by kernel_rfl
theorem Zt1:bodyM cfgMs ⟨[],.z,false⟩ Tryz.f205=ZgG:=by kernel_rfl
theorem Zp0:bodyM cfgMs ⟨[],.z,false⟩ Tryz.f207=ZdW:=by kernel_rfl
theorem Zrg:bodyM cfgMs ⟨[],.z,false⟩ Tryz.f208=Zeg:=by kernel_rfl
theorem Zk8:bodyM cfgMs ⟨[],.z,false⟩ Tryz.f210=Zcb:=by kernel_rfl
theorem Zt4:bodyM cfgMs ⟨[0,1],(.n .z (.n .z (.n (.n .z (.j [(1,.l [.blob 16])] (.j [(1,.l [.blob 16]),(4,.v (.b (.int .i64)))] (.n .z (.n .z (.n (.j [(1,.l [.blob 16])] (.n .z (.n .z (.n (.n .z (.j [(3,.v (.b (.int .u32)))] (.j [(3,.v (.b (.int .u32))),(9,.v (.b (.int .i64)))] .z .z) .z)) .z))) .z) .z))) .z) .z)) .z))),false⟩ Tryz.f212=Zgb:=by kernel_rfl
theorem Zpw:bodyM cfgMs ⟨[],(.n .z (.n (.n .z (.j [(1,.v (.b (.int .u32)))] (.j [(1,.v (.b (.int .u32))),(11,.v (.b (.int .i64)))] .z .z) .z)) .z)),false⟩ Tryz.f213=ZdS:=by kernel_rfl
theorem Zvl:bodyM cfgMs ⟨[],.z,false⟩ Tryz.f219=Zhv:=by kernel_rfl
end
noncomputable def Zwy:Go.Shelf.Ren:=⟨fun|6=>102|14=>135|15=>136|20=>162|21=>163|22=>164|23=>165|24=>166|25=>167|26=>168|27=>169|28=>170|29=>171|46=>192|47=>193|48=>194|49=>195|50=>196|57=>211|n=>n,fun|0=>0|3=>3|4=>4|5=>5|9=>9|22=>56|24=>62|25=>175|39=>183|45=>247|46=>248|50=>252|53=>184|55=>118|66=>271|70=>275|76=>293|77=>260|n=>n,fun|n=>n⟩
theorem Zvy:SlLaysF0.n6 Tryz.prog Zwy where
 mixed:=by kernel_rfl
 f6:=⟨Tryz.f102.name,by kernel_rfl,Tryz.func102.trans (congrArg some (by kernel_rfl))⟩
 f14:=⟨Tryz.f135.name,by kernel_rfl,Tryz.func135.trans (congrArg some (by kernel_rfl))⟩
 f15:=Tryz.func136.trans (congrArg some (by kernel_rfl))
 f20:=⟨Tryz.f162.name,by kernel_rfl,Tryz.func162.trans (congrArg some (by kernel_rfl))⟩
 f21:=⟨Tryz.f163.name,by kernel_rfl,Tryz.func163.trans (congrArg some (by kernel_rfl))⟩
 f22:=⟨Tryz.f164.name,by kernel_rfl,Tryz.func164.trans (congrArg some (by kernel_rfl))⟩
 f23:=⟨Tryz.f165.name,by kernel_rfl,Tryz.func165.trans (congrArg some (by kernel_rfl))⟩
 f24:=⟨Tryz.f166.name,by kernel_rfl,Tryz.func166.trans (congrArg some (by kernel_rfl))⟩
 f25:=⟨Tryz.f167.name,by kernel_rfl,Tryz.func167.trans (congrArg some (by kernel_rfl))⟩
 f26:=⟨Tryz.f168.name,by kernel_rfl,Tryz.func168.trans (congrArg some (by kernel_rfl))⟩
 f27:=⟨Tryz.f169.name,by kernel_rfl,Tryz.func169.trans (congrArg some (by kernel_rfl))⟩
 f28:=Tryz.func170.trans (congrArg some (by kernel_rfl))
 f29:=Tryz.func171.trans (congrArg some (by kernel_rfl))
 f46:=⟨Tryz.f192.name,by kernel_rfl,Tryz.func192.trans (congrArg some (by kernel_rfl))⟩
 f47:=Tryz.func193.trans (congrArg some (by kernel_rfl))
 f48:=Tryz.func194.trans (congrArg some (by kernel_rfl))
 f49:=⟨Tryz.f195.name,by kernel_rfl,Tryz.func195.trans (congrArg some (by kernel_rfl))⟩
 f50:=⟨Tryz.f196.name,by kernel_rfl,Tryz.func196.trans (congrArg some (by kernel_rfl))⟩
 f57:=⟨Tryz.f211.name,by kernel_rfl,Tryz.func211.trans (congrArg some (by kernel_rfl))⟩
 t0:=Tryz.underlying0
 a0:=Tryz.isAgg0
 z0:=Tryz.sizeOf0
 v0:=Tryz.zeroValue0
 t3:=Tryz.underlying3
 a3:=Tryz.isAgg3
 z3:=Tryz.sizeOf3
 v3:=Tryz.zeroValue3
 t4:=Tryz.underlying4
 a4:=Tryz.isAgg4
 z4:=Tryz.sizeOf4
 v4:=Tryz.zeroValue4
 t5:=Tryz.underlying5
 a5:=Tryz.isAgg5
 z5:=Tryz.sizeOf5
 v5:=Tryz.zeroValue5
 t9:=Tryz.underlying9
 a9:=Tryz.isAgg9
 z9:=Tryz.sizeOf9
 v9:=Tryz.zeroValue9
 t22:=Tryz.underlying56
 a22:=Tryz.isAgg56
 z22:=Tryz.sizeOf56
 v22:=Tryz.zeroValue56
 t25:=Tryz.underlying175
 a25:=Tryz.isAgg175
 z25:=Tryz.sizeOf175
 v25:=Tryz.zeroValue175
 t39:=Tryz.underlying183
 a39:=Tryz.isAgg183
 z39:=Tryz.sizeOf183
 v39:=Tryz.zeroValue183
 t45:=Tryz.underlying247
 a45:=Tryz.isAgg247
 z45:=Tryz.sizeOf247
 v45:=Tryz.zeroValue247
 t46:=Tryz.underlying248
 a46:=Tryz.isAgg248
 z46:=Tryz.sizeOf248
 v46:=Tryz.zeroValue248
 t50:=Tryz.underlying252
 a50:=Tryz.isAgg252
 z50:=Tryz.sizeOf252
 v50:=Tryz.zeroValue252
 t53:=Tryz.underlying184
 a53:=Tryz.isAgg184
 z53:=Tryz.sizeOf184
 v53:=Tryz.zeroValue184
 t55:=Tryz.underlying118
 a55:=Tryz.isAgg118
 z55:=Tryz.sizeOf118
 v55:=Tryz.zeroValue118
 t66:=Tryz.underlying271
 a66:=Tryz.isAgg271
 z66:=Tryz.sizeOf271
 v66:=Tryz.zeroValue271
 t70:=Tryz.underlying275
 a70:=Tryz.isAgg275
 z70:=Tryz.sizeOf275
 v70:=Tryz.zeroValue275
 t76:=Tryz.underlying293
 a76:=Tryz.isAgg293
 z76:=Tryz.sizeOf293
 v76:=Tryz.zeroValue293
 t77:=Tryz.underlying260
 a77:=Tryz.isAgg260
 z77:=Tryz.sizeOf260
 v77:=Tryz.zeroValue260
theorem ZyK:CfgOk cfgMs:=⟨Zyk (by kernel_rfl),(fun t h=>ZvW (Zss (by kernel_rfl) t h)),(fun t h _ _ _ _ _ _ w hx hy he=>ZxV (Zss (by kernel_rfl) t h) w hx hy he),Zy9 (e:=309) (by kernel_rfl) (by kernel_rfl)⟩
theorem Zh:FunOk cfgMs:=⟨ZyK,by kernel_rfl⟩
noncomputable def smMs:List (Nat×Body):=[(159,ZcG),(161,ZbW),(162,ZdB),(163,Zcm)]
theorem ZyB: ∀n,Zz cfgMs (run (bdOf smMs) n):=
 Zy4 (cov:=[145,177,199,209,112,218,146,134,100,113,220,133,161,191,64,24,58,29,18,15,70,72,68,71,93,206,55,28,217,103,138,137,172,14,16,17,21,20,19,23,25,5,31,30,40,41,42,39,47,46,45,44,43,48,56,57,62,63,59,61,60,66,73,74,85,86,89,88,87,91,90,92,94,96,95,50,51,97,98,99,52,53,102,101,54,104,105,106,107,109,108,110,111,124,125,126,127,128,129,130,131,132,139,140,141,142,143,144,156,157,158,159,160,174,173,175,176,185,186,187,188,189,190,197,198,205,207,208,210,212,213,219]) (sub:=[103,138,137,172]) rfl (by kernel_rfl) (by kernel_rfl) (List.forall_mem_cons.2 ⟨BodyOK.of_tie Zh Tryz.func103 (by kernel_rfl) Zj2,List.forall_mem_cons.2 ⟨BodyOK.of_tie Zh Tryz.func138 (by kernel_rfl) Zhj,List.forall_mem_cons.2 ⟨BodyOK.of_tie Zh Tryz.func137 (by kernel_rfl) Zls,List.forall_mem_cons.2 ⟨BodyOK.of_tie Zh Tryz.func172 (by kernel_rfl) ZiR,(fun _ h=>by cases h)⟩⟩⟩⟩)
theorem Zng:Zif (bdOf smMs):=⟨by kernel_rfl⟩
theorem Zk2:ZfA (bdOf smMs):=⟨by kernel_rfl⟩
theorem ZjR:ZcC (bdOf smMs):=⟨by kernel_rfl,Zk2⟩
theorem ZlZ:Zbu (bdOf smMs):=⟨by kernel_rfl,Zng,ZjR⟩
noncomputable def bdsMs:List (Nat×Body):=[(12,ZeC),(15,Zek),(19,Zdp),(26,Zfu),(27,ZeE),(28,ZiK),(29,Zhp),(34,Ze9),(39,Zd0),(40,Zdu),(54,Ziu),(57,Z9),(64,Zcg),(72,Zc0),(86,Z8),(113,ZcO),(114,ZbE),(133,Zgn),(136,Ze5),(138,Zet),(141,ZeF),(142,Zdt),(143,Zgf),(144,Zew),(145,ZcI),(147,ZY),(153,Zbj),(155,ZeA),(156,Zba),(159,ZcG),(161,ZbW),(162,ZdB),(163,Zcm),(169,Zeo),(170,Zes),(171,Zgd),(172,Zdr),(173,ZdQ),(174,Zgc),(177,Zi3),(179,Zff),(181,ZcE),(183,ZcX),(184,Zd1),(188,Zeu),(189,ZcF),(190,Zce),(191,ZgE),(192,Zfp),(193,Zgs),(194,ZcD),(195,Zei),(196,ZdZ),(197,Zej),(198,Zt),(199,Zgy),(200,Zgq),(201,Zdq),(202,Zdn),(203,Zgg),(204,Zgt),(206,Zd6),(209,ZdO),(210,Zcu),(213,Zgx),(214,Ze3),(215,Zgh),(216,Zgr),(217,Zcv),(218,ZgC),(219,ZfG),(220,ZfM),(221,Zdo),(222,Zbh),(223,ZeH),(225,Zga),(226,Zca),(227,Zel),(228,Zcw),(229,Zct),(230,Zcs),(231,ZbY),(232,Ziy),(233,Zcl),(234,Zcp),(235,ZL),(236,Z2),(237,Zfy),(238,Zds),(239,Zfb),(240,Zg3),(241,ZcV),(242,Zgm),(248,ZeD),(249,Zfs),(250,ZgA),(251,Zer),(252,Zfo),(253,ZiX),(254,ZbD),(255,ZfK),(256,Zfh),(259,Zex),(260,ZeG),(261,ZeB),(262,Zgz),(263,Z3),(264,Zeq),(272,Zhx),(273,Zd2),(274,Zeh),(275,Zc1),(276,ZdR),(285,ZfH),(286,Zhu),(287,Zgu),(288,Zfv),(295,Zep),(296,Zfk),(297,Zc2),(298,Zdm),(299,Zch),(300,ZcW),(306,ZiG),(307,Zem),(312,ZgG),(313,ZdW),(314,Zeg),(315,Zcb),(317,Zgb),(318,ZdS),(320,Zhv)]
theorem bodiesMs: ∀n,Zz cfgMs (run (bdOf bdsMs) n):=
 Zyy (cov:=[145,177,199,209,112,218,146,134,100,113,220,133,161,191,64,24,58,29,18,15,70,72,68,71,93,206,55,28,217,103,138,137,172,14,16,17,21,20,19,23,25,5,31,30,40,41,42,39,47,46,45,44,43,48,56,57,62,63,59,61,60,66,73,74,85,86,89,88,87,91,90,92,94,96,95,50,51,97,98,99,52,53,102,101,54,104,105,106,107,109,108,110,111,124,125,126,127,128,129,130,131,132,139,140,141,142,143,144,156,157,158,159,160,174,173,175,176,185,186,187,188,189,190,197,198,205,207,208,210,212,213,219]) rfl (by kernel_rfl) (List.forall_mem_cons.2 ⟨BodyOK.of_tie Zh Tryz.func145 (by kernel_rfl) Zri,List.forall_mem_cons.2 ⟨BodyOK.of_tie Zh Tryz.func177 (by kernel_rfl) Zrj,List.forall_mem_cons.2 ⟨BodyOK.of_tie Zh Tryz.func199 (by kernel_rfl) Zos,List.forall_mem_cons.2 ⟨BodyOK.of_tie Zh Tryz.func209 (by kernel_rfl) ZsC,List.forall_mem_cons.2 ⟨BodyOK.of_tie Zh Tryz.func112 (by kernel_rfl) Zq4,List.forall_mem_cons.2 ⟨BodyOK.of_tie Zh Tryz.func218 (by kernel_rfl) ZwF,List.forall_mem_cons.2 ⟨BodyOK.of_tie Zh Tryz.func146 (by kernel_rfl) ZvN,List.forall_mem_cons.2 ⟨BodyOK.of_tie Zh Tryz.func134 (by kernel_rfl) ZtT,List.forall_mem_cons.2 ⟨BodyOK.of_tie Zh Tryz.func100 (by kernel_rfl) Zpb,List.forall_mem_cons.2 ⟨BodyOK.of_tie Zh Tryz.func113 (by kernel_rfl) Zor,List.forall_mem_cons.2 ⟨BodyOK.of_tie Zh Tryz.func220 (by kernel_rfl) Zs5,List.forall_mem_cons.2 ⟨BodyOK.of_tie Zh Tryz.func133 (by kernel_rfl) Zg4,List.forall_mem_cons.2 ⟨BodyOK.of_tie Zh Tryz.func161 (by kernel_rfl) ZlY,List.forall_mem_cons.2 ⟨BodyOK.of_tie Zh Tryz.func191 (by kernel_rfl) Znw,List.forall_mem_cons.2 ⟨BodyOK.of_tie Zh Tryz.func64 (by kernel_rfl) Zju,List.forall_mem_cons.2 ⟨BodyOK.of_tie Zh Tryz.func24 (by kernel_rfl) ZtQ,List.forall_mem_cons.2 ⟨BodyOK.of_tie Zh Tryz.func58 (by kernel_rfl) Zjx,List.forall_mem_cons.2 ⟨BodyOK.of_tie Zh Tryz.func29 (by kernel_rfl) ZuQ,List.forall_mem_cons.2 ⟨BodyOK.of_tie Zh Tryz.func18 (by kernel_rfl) Zsk,List.forall_mem_cons.2 ⟨BodyOK.of_tie Zh Tryz.func15 (by kernel_rfl) Zr0,List.forall_mem_cons.2 ⟨BodyOK.of_tie Zh Tryz.func70 (by kernel_rfl) ZrA,List.forall_mem_cons.2 ⟨BodyOK.of_tie Zh Tryz.func72 (by kernel_rfl) Zod,List.forall_mem_cons.2 ⟨BodyOK.of_tie Zh Tryz.func68 (by kernel_rfl) Zt5,List.forall_mem_cons.2 ⟨BodyOK.of_tie Zh Tryz.func71 (by kernel_rfl) Zrz,List.forall_mem_cons.2 ⟨BodyOK.of_tie Zh Tryz.func93 (by kernel_rfl) Ztq,List.forall_mem_cons.2 ⟨BodyOK.of_tie Zh Tryz.func206 (by kernel_rfl) ZfN,List.forall_mem_cons.2 ⟨BodyOK.of_tie Zh Tryz.func55 (by kernel_rfl) Zoj,List.forall_mem_cons.2 ⟨BodyOK.of_tie Zh Tryz.func28 (by kernel_rfl) Zrn,List.forall_mem_cons.2 ⟨BodyOK.of_tie Zh Tryz.func217 (by kernel_rfl) ZgU,List.forall_mem_cons.2 ⟨BodyOK.of_tie Zh Tryz.func103 (by kernel_rfl) Zj2,List.forall_mem_cons.2 ⟨BodyOK.of_tie Zh Tryz.func138 (by kernel_rfl) Zhj,List.forall_mem_cons.2 ⟨BodyOK.of_tie Zh Tryz.func137 (by kernel_rfl) Zls,List.forall_mem_cons.2 ⟨BodyOK.of_tie Zh Tryz.func172 (by kernel_rfl) ZiR,List.forall_mem_cons.2 ⟨BodyOK.of_tie Zh Tryz.func14 (by kernel_rfl) Zro,List.forall_mem_cons.2 ⟨BodyOK.of_tie Zh Tryz.func16 (by kernel_rfl) ZrT,List.forall_mem_cons.2 ⟨(fun _ n _ _ _ hc h=>Zxo (n:=n) Zh hc Tryz.func17 (by kernel_rfl) Tryz.func49 (by kernel_rfl) (by kernel_rfl) (by rw [Zug];exact h)),List.forall_mem_cons.2 ⟨BodyOK.of_tie Zh Tryz.func21 (by kernel_rfl) ZoZ,List.forall_mem_cons.2 ⟨BodyOK.of_tie Zh Tryz.func20 (by kernel_rfl) ZpZ,List.forall_mem_cons.2 ⟨BodyOK.of_tie Zh Tryz.func19 (by kernel_rfl) Zus,List.forall_mem_cons.2 ⟨BodyOK.of_tie Zh Tryz.func23 (by kernel_rfl) Zv7,List.forall_mem_cons.2 ⟨BodyOK.of_tie Zh Tryz.func25 (by kernel_rfl) ZsZ,List.forall_mem_cons.2 ⟨BodyOK.of_tie Zh Tryz.func5 (by kernel_rfl) ZmD,List.forall_mem_cons.2 ⟨BodyOK.of_tie Zh Tryz.func31 (by kernel_rfl) Zns,List.forall_mem_cons.2 ⟨BodyOK.of_tie Zh Tryz.func30 (by kernel_rfl) Zpt,List.forall_mem_cons.2 ⟨BodyOK.of_tie Zh Tryz.func40 (by kernel_rfl) Zrx,List.forall_mem_cons.2 ⟨BodyOK.of_tie Zh Tryz.func41 (by kernel_rfl) Zmt,List.forall_mem_cons.2 ⟨BodyOK.of_tie Zh Tryz.func42 (by kernel_rfl) Zk3,List.forall_mem_cons.2 ⟨BodyOK.of_tie Zh Tryz.func39 (by kernel_rfl) ZuM,List.forall_mem_cons.2 ⟨BodyOK.of_tie Zh Tryz.func47 (by kernel_rfl) ZsY,List.forall_mem_cons.2 ⟨BodyOK.of_tie Zh Tryz.func46 (by kernel_rfl) ZuA,List.forall_mem_cons.2 ⟨BodyOK.of_tie Zh Tryz.func45 (by kernel_rfl) Zmy,List.forall_mem_cons.2 ⟨BodyOK.of_tie Zh Tryz.func44 (by kernel_rfl) Zrv,List.forall_mem_cons.2 ⟨BodyOK.of_tie Zh Tryz.func43 (by kernel_rfl) Zph,List.forall_mem_cons.2 ⟨BodyOK.of_tie Zh Tryz.func48 (by kernel_rfl) Zq8,List.forall_mem_cons.2 ⟨BodyOK.of_tie Zh Tryz.func56 (by kernel_rfl) ZbH,List.forall_mem_cons.2 ⟨BodyOK.of_tie Zh Tryz.func57 (by kernel_rfl) Zut,List.forall_mem_cons.2 ⟨BodyOK.of_tie Zh Tryz.func62 (by kernel_rfl) Zt0,List.forall_mem_cons.2 ⟨BodyOK.of_tie Zh Tryz.func63 (by kernel_rfl) Zov,List.forall_mem_cons.2 ⟨BodyOK.of_tie Zh Tryz.func59 (by kernel_rfl) ZnO,List.forall_mem_cons.2 ⟨BodyOK.of_tie Zh Tryz.func61 (by kernel_rfl) ZuP,List.forall_mem_cons.2 ⟨BodyOK.of_tie Zh Tryz.func60 (by kernel_rfl) ZuC,List.forall_mem_cons.2 ⟨BodyOK.of_tie Zh Tryz.func66 (by kernel_rfl) Zqd,List.forall_mem_cons.2 ⟨BodyOK.of_tie Zh Tryz.func73 (by kernel_rfl) Zpa,List.forall_mem_cons.2 ⟨BodyOK.of_tie Zh Tryz.func74 (by kernel_rfl) ZlE,List.forall_mem_cons.2 ⟨BodyOK.of_tie Zh Tryz.func85 (by kernel_rfl) Zuj,List.forall_mem_cons.2 ⟨BodyOK.of_tie Zh Tryz.func86 (by kernel_rfl) Zto,List.forall_mem_cons.2 ⟨BodyOK.of_tie Zh Tryz.func89 (by kernel_rfl) Zue,List.forall_mem_cons.2 ⟨BodyOK.of_tie Zh Tryz.func88 (by kernel_rfl) Zt7,List.forall_mem_cons.2 ⟨BodyOK.of_tie Zh Tryz.func87 (by kernel_rfl) ZlA,List.forall_mem_cons.2 ⟨BodyOK.of_tie Zh Tryz.func91 (by kernel_rfl) ZuG,List.forall_mem_cons.2 ⟨BodyOK.of_tie Zh Tryz.func90 (by kernel_rfl) ZtM,List.forall_mem_cons.2 ⟨BodyOK.of_tie Zh Tryz.func92 (by kernel_rfl) ZsJ,List.forall_mem_cons.2 ⟨BodyOK.of_tie Zh Tryz.func94 (by kernel_rfl) Zn9,List.forall_mem_cons.2 ⟨BodyOK.of_tie Zh Tryz.func96 (by kernel_rfl) Zhz,List.forall_mem_cons.2 ⟨BodyOK.of_tie Zh Tryz.func95 (by kernel_rfl) ZrJ,List.forall_mem_cons.2 ⟨BodyOK.of_tie Zh Tryz.func50 (by kernel_rfl) ZuJ,List.forall_mem_cons.2 ⟨BodyOK.of_tie Zh Tryz.func51 (by kernel_rfl) Zk5,List.forall_mem_cons.2 ⟨BodyOK.of_tie Zh Tryz.func97 (by kernel_rfl) Zr3,List.forall_mem_cons.2 ⟨BodyOK.of_tie Zh Tryz.func98 (by kernel_rfl) Zlp,List.forall_mem_cons.2 ⟨BodyOK.of_tie Zh Tryz.func99 (by kernel_rfl) Zlk,List.forall_mem_cons.2 ⟨BodyOK.of_tie Zh Tryz.func52 (by kernel_rfl) Zll,List.forall_mem_cons.2 ⟨BodyOK.of_tie Zh Tryz.func53 (by kernel_rfl) Zkx,List.forall_mem_cons.2 ⟨Zuc Zvy Tryz.isAgg62 Tryz.sizeOf62 rfl Tryz.func102 (by kernel_rfl) (by kernel_rfl) (ZyB 100) (fc:=103) (by kernel_rfl) (by kernel_rfl) (fun k hk he=>Nat.eq_of_beq_eq_true (by have:=has_all (P:=fun k=> !Nat.beq (cfgMs.fn k) 159||Nat.beq k 103) (l:=[145,177,199,209,112,218,146,134,100,113,220,133,161,191,64,24,58,29,18,15,70,72,68,71,93,206,55,28,217,103,138,137,172,14,16,17,21,20,19,23,25,5,31,30,40,41,42,39,47,46,45,44,43,48,56,57,62,63,59,61,60,66,73,74,85,86,89,88,87,91,90,92,94,96,95,50,51,97,98,99,52,53,102,101,54,104,105,106,107,109,108,110,111,124,125,126,127,128,129,130,131,132,139,140,141,142,143,144,156,157,158,159,160,174,173,175,176,185,186,187,188,189,190,197,198,205,207,208,210,212,213,219]) (by kernel_rfl) k hk;rw [he] at this;simpa using this)) Tryz.func103 (by kernel_rfl) (by kernel_rfl) (N:=100) (fun g hg=>by have:=has_all (P:=fun g=>Nat.blt (cfgMs.gl g) 100) (l:=[0]) (by kernel_rfl) g hg;rwa [Nat.blt_eq] at this) (fun x y=>ZyI ZlZ _ x y),List.forall_mem_cons.2 ⟨BodyOK.of_tie Zh Tryz.func101 (by kernel_rfl) Zma,List.forall_mem_cons.2 ⟨BodyOK.of_tie Zh Tryz.func54 (by kernel_rfl) ZlI,List.forall_mem_cons.2 ⟨BodyOK.of_tie Zh Tryz.func104 (by kernel_rfl) Zd8,List.forall_mem_cons.2 ⟨BodyOK.of_tie Zh Tryz.func105 (by kernel_rfl) Zf1,List.forall_mem_cons.2 ⟨BodyOK.of_tie Zh Tryz.func106 (by kernel_rfl) Ztg,List.forall_mem_cons.2 ⟨BodyOK.of_tie Zh Tryz.func107 (by kernel_rfl) Zn1,List.forall_mem_cons.2 ⟨BodyOK.of_tie Zh Tryz.func109 (by kernel_rfl) Zta,List.forall_mem_cons.2 ⟨BodyOK.of_tie Zh Tryz.func108 (by kernel_rfl) ZrC,List.forall_mem_cons.2 ⟨BodyOK.of_tie Zh Tryz.func110 (by kernel_rfl) ZnF,List.forall_mem_cons.2 ⟨BodyOK.of_tie Zh Tryz.func111 (by kernel_rfl) ZuF,List.forall_mem_cons.2 ⟨BodyOK.of_tie Zh Tryz.func124 (by kernel_rfl) Zra,List.forall_mem_cons.2 ⟨BodyOK.of_tie Zh Tryz.func125 (by kernel_rfl) Zsw,List.forall_mem_cons.2 ⟨BodyOK.of_tie Zh Tryz.func126 (by kernel_rfl) ZuO,List.forall_mem_cons.2 ⟨BodyOK.of_tie Zh Tryz.func127 (by kernel_rfl) Zrq,List.forall_mem_cons.2 ⟨BodyOK.of_tie Zh Tryz.func128 (by kernel_rfl) Ztk,List.forall_mem_cons.2 ⟨BodyOK.of_tie Zh Tryz.func129 (by kernel_rfl) ZwG,List.forall_mem_cons.2 ⟨BodyOK.of_tie Zh Tryz.func130 (by kernel_rfl) Zjl,List.forall_mem_cons.2 ⟨BodyOK.of_tie Zh Tryz.func131 (by kernel_rfl) ZsI,List.forall_mem_cons.2 ⟨BodyOK.of_tie Zh Tryz.func132 (by kernel_rfl) Zsa,List.forall_mem_cons.2 ⟨BodyOK.of_tie Zh Tryz.func139 (by kernel_rfl) Zrw,List.forall_mem_cons.2 ⟨BodyOK.of_tie Zh Tryz.func140 (by kernel_rfl) ZrD,List.forall_mem_cons.2 ⟨BodyOK.of_tie Zh Tryz.func141 (by kernel_rfl) ZrH,List.forall_mem_cons.2 ⟨BodyOK.of_tie Zh Tryz.func142 (by kernel_rfl) Zun,List.forall_mem_cons.2 ⟨BodyOK.of_tie Zh Tryz.func143 (by kernel_rfl) ZfS,List.forall_mem_cons.2 ⟨BodyOK.of_tie Zh Tryz.func144 (by kernel_rfl) ZrI,List.forall_mem_cons.2 ⟨BodyOK.of_tie Zh Tryz.func156 (by kernel_rfl) ZvX,List.forall_mem_cons.2 ⟨BodyOK.of_tie Zh Tryz.func157 (by kernel_rfl) Zp4,List.forall_mem_cons.2 ⟨BodyOK.of_tie Zh Tryz.func158 (by kernel_rfl) Zr6,List.forall_mem_cons.2 ⟨BodyOK.of_tie Zh Tryz.func159 (by kernel_rfl) Zny,List.forall_mem_cons.2 ⟨BodyOK.of_tie Zh Tryz.func160 (by kernel_rfl) Zp7,List.forall_mem_cons.2 ⟨BodyOK.of_tie Zh Tryz.func174 (by kernel_rfl) ZtW,List.forall_mem_cons.2 ⟨BodyOK.of_tie Zh Tryz.func173 (by kernel_rfl) ZvZ,List.forall_mem_cons.2 ⟨BodyOK.of_tie Zh Tryz.func175 (by kernel_rfl) ZtZ,List.forall_mem_cons.2 ⟨BodyOK.of_tie Zh Tryz.func176 (by kernel_rfl) Zs1,List.forall_mem_cons.2 ⟨BodyOK.of_tie Zh Tryz.func185 (by kernel_rfl) ZrN,List.forall_mem_cons.2 ⟨BodyOK.of_tie Zh Tryz.func186 (by kernel_rfl) ZsO,List.forall_mem_cons.2 ⟨BodyOK.of_tie Zh Tryz.func187 (by kernel_rfl) ZnC,List.forall_mem_cons.2 ⟨BodyOK.of_tie Zh Tryz.func188 (by kernel_rfl) ZnR,List.forall_mem_cons.2 ⟨BodyOK.of_tie Zh Tryz.func189 (by kernel_rfl) ZlM,List.forall_mem_cons.2 ⟨BodyOK.of_tie Zh Tryz.func190 (by kernel_rfl) Znr,List.forall_mem_cons.2 ⟨BodyOK.of_tie Zh Tryz.func197 (by kernel_rfl) Zw3,List.forall_mem_cons.2 ⟨BodyOK.of_tie Zh Tryz.func198 (by kernel_rfl) ZrG,List.forall_mem_cons.2 ⟨BodyOK.of_tie Zh Tryz.func205 (by kernel_rfl) Zt1,List.forall_mem_cons.2 ⟨BodyOK.of_tie Zh Tryz.func207 (by kernel_rfl) Zp0,List.forall_mem_cons.2 ⟨BodyOK.of_tie Zh Tryz.func208 (by kernel_rfl) Zrg,List.forall_mem_cons.2 ⟨BodyOK.of_tie Zh Tryz.func210 (by kernel_rfl) Zk8,List.forall_mem_cons.2 ⟨BodyOK.of_tie Zh Tryz.func212 (by kernel_rfl) Zt4,List.forall_mem_cons.2 ⟨BodyOK.of_tie Zh Tryz.func213 (by kernel_rfl) Zpw,List.forall_mem_cons.2 ⟨BodyOK.of_tie Zh Tryz.func219 (by kernel_rfl) Zvl,(fun _ h=>by cases h)⟩⟩⟩⟩⟩⟩⟩⟩⟩⟩⟩⟩⟩⟩⟩⟩⟩⟩⟩⟩⟩⟩⟩⟩⟩⟩⟩⟩⟩⟩⟩⟩⟩⟩⟩⟩⟩⟩⟩⟩⟩⟩⟩⟩⟩⟩⟩⟩⟩⟩⟩⟩⟩⟩⟩⟩⟩⟩⟩⟩⟩⟩⟩⟩⟩⟩⟩⟩⟩⟩⟩⟩⟩⟩⟩⟩⟩⟩⟩⟩⟩⟩⟩⟩⟩⟩⟩⟩⟩⟩⟩⟩⟩⟩⟩⟩⟩⟩⟩⟩⟩⟩⟩⟩⟩⟩⟩⟩⟩⟩⟩⟩⟩⟩⟩⟩⟩⟩⟩⟩⟩⟩⟩⟩⟩⟩⟩⟩⟩⟩⟩⟩)
theorem ZmI:Zfa (bdOf bdsMs):=⟨by kernel_rfl⟩
theorem ZoL:Zhg (bdOf bdsMs):=⟨by kernel_rfl,ZmI⟩
theorem ZiN:Zen (bdOf bdsMs):=⟨by kernel_rfl,ZoL⟩
theorem Zpr:Zir (bdOf bdsMs):=⟨by kernel_rfl⟩
theorem Zuu:ZlB (bdOf bdsMs):=⟨by kernel_rfl,Zpr⟩
theorem ZpC:Zh7 (bdOf bdsMs):=⟨by kernel_rfl,Zuu⟩
theorem Zts:Zkr (bdOf bdsMs):=⟨by kernel_rfl⟩
theorem ZnW:ZgT (bdOf bdsMs):=⟨by kernel_rfl,Zts,ZiN⟩
theorem Zpo:Ziw (bdOf bdsMs):=⟨by kernel_rfl⟩
theorem Zk9:ZeL (bdOf bdsMs):=⟨by kernel_rfl⟩
theorem ZkK:ZdD (bdOf bdsMs):=⟨by kernel_rfl,Zk9⟩
theorem ZfZ:ZbS (bdOf bdsMs):=⟨by kernel_rfl,ZkK⟩
theorem Znx:Zf8 (bdOf bdsMs):=⟨by kernel_rfl,Zpo,ZfZ⟩
theorem Zmz:ZfJ (bdOf bdsMs):=⟨by kernel_rfl,ZiN⟩
theorem ZhV:ZcB (bdOf bdsMs):=⟨by kernel_rfl⟩
theorem Zpc:Zh3 (bdOf bdsMs):=⟨by kernel_rfl⟩
theorem Zis:Zcz (bdOf bdsMs):=⟨by kernel_rfl⟩
theorem Zrr:Zjc (bdOf bdsMs):=⟨by kernel_rfl⟩
theorem ZiU:Zev (bdOf bdsMs):=⟨by kernel_rfl⟩
theorem Zn0:Zhi (bdOf bdsMs):=⟨by kernel_rfl⟩
theorem ZoA:Zg6 (bdOf bdsMs):=⟨by kernel_rfl,ZnW,Zmz,Zn0⟩
theorem Zms:Zft (bdOf bdsMs):=⟨by kernel_rfl⟩
theorem Zrk:Zjq (bdOf bdsMs):=⟨by kernel_rfl,ZiU,ZoA,Zms,Zrr⟩
theorem ZmH:Zfd (bdOf bdsMs):=⟨by kernel_rfl⟩
theorem Zpq:ZiA (bdOf bdsMs):=⟨by kernel_rfl,Zpc,ZmH⟩
theorem Zoc:ZgZ (bdOf bdsMs):=⟨by kernel_rfl⟩
theorem ZjA:ZfI (bdOf bdsMs):=⟨by kernel_rfl⟩
theorem ZfP:Zde (bdOf bdsMs):=⟨by kernel_rfl⟩
theorem Ze1:Zbs (bdOf bdsMs):=⟨by kernel_rfl,ZfP⟩
theorem Zqk:Zif (bdOf bdsMs):=⟨by kernel_rfl⟩
theorem Zmv:ZfA (bdOf bdsMs):=⟨by kernel_rfl⟩
theorem Zk4:ZcC (bdOf bdsMs):=⟨by kernel_rfl,Zmv⟩
theorem ZhY:Zbu (bdOf bdsMs):=⟨by kernel_rfl,Zqk,Zk4⟩
theorem Zpl:Zix (bdOf bdsMs):=⟨by kernel_rfl⟩
theorem ZnL:Zg1 (bdOf bdsMs):=⟨by kernel_rfl⟩
theorem ZbV:ZbC (bdOf bdsMs):=⟨by kernel_rfl,ZnL⟩
theorem Zpv:Zic (bdOf bdsMs):=⟨by kernel_rfl⟩
theorem Zoz:Zg9 (bdOf bdsMs):=⟨by kernel_rfl,Zpv⟩
theorem ZrX:Zjm (bdOf bdsMs):=⟨by kernel_rfl,Zoz⟩
theorem Zps:ZhS (bdOf bdsMs):=⟨by kernel_rfl⟩
theorem Zbx:Zbm (bdOf bdsMs):=⟨by kernel_rfl,ZbV,ZrX,Zps⟩
theorem Zr5:Zjn (bdOf bdsMs):=⟨by kernel_rfl,ZbV,Zbx⟩
theorem Zcd:Zbp (bdOf bdsMs):=⟨by kernel_rfl⟩
theorem Zq7:Zjt (bdOf bdsMs):=⟨by kernel_rfl,ZbV,Zbx⟩
theorem Zky:Zcj (bdOf bdsMs):=⟨by kernel_rfl,Zcd,Zq7⟩
theorem Zr7:Zi7 (bdOf bdsMs):=⟨by kernel_rfl,ZbV,Zbx⟩
theorem Ze6:Zdb (bdOf bdsMs):=⟨by kernel_rfl⟩
theorem ZrM:Zjo (bdOf bdsMs):=⟨by kernel_rfl,ZbV,Zbx,Ze6⟩
theorem Zk6:Zd9 (bdOf bdsMs):=⟨by kernel_rfl,Zcd,Zky,Zr7,ZrM⟩
theorem ZpX:Zik (bdOf bdsMs):=⟨by kernel_rfl,Ze6⟩
theorem Zpz:ZhU (bdOf bdsMs):=⟨by kernel_rfl,ZbV,Zbx,ZpX⟩
theorem Zq9:Zjs (bdOf bdsMs):=⟨by kernel_rfl,ZbV,Zbx,Ze6⟩
theorem ZjG:Zdl (bdOf bdsMs):=⟨by kernel_rfl,Zcd,Zpz,Zq9⟩
theorem Zp9:Zig (bdOf bdsMs):=⟨by kernel_rfl⟩
theorem ZhT:Zd3 (bdOf bdsMs):=⟨by kernel_rfl,Zp9⟩
theorem Zn5:ZgY (bdOf bdsMs):=⟨by kernel_rfl,ZhT,ZiU⟩
theorem ZrU:Zi9 (bdOf bdsMs):=⟨by kernel_rfl,Zbx⟩
theorem Zqn:ZhQ (bdOf bdsMs):=⟨by kernel_rfl⟩
theorem Zo5:Zhh (bdOf bdsMs):=⟨by kernel_rfl,Zpl,Zrk,Zr5,Zk6,ZjG,ZhT,Zn5,Zcd,ZrU,Zqn⟩
theorem Zit:Zd5 (bdOf bdsMs):=⟨by kernel_rfl⟩
theorem ZcZ:Zb3 (bdOf bdsMs):=⟨by kernel_rfl,Zit⟩
theorem Zja:ZgJ (bdOf bdsMs):=⟨by kernel_rfl,ZcZ⟩
theorem ZmF:Zfn (bdOf bdsMs):=⟨by kernel_rfl⟩
theorem ZmM:ZiZ (bdOf bdsMs):=⟨by kernel_rfl⟩
theorem ZoN:Zhe (bdOf bdsMs):=⟨by kernel_rfl,ZjA,ZmM⟩
theorem Zh8:Zcy (bdOf bdsMs):=⟨by kernel_rfl⟩
theorem ZcT:Zbi (bdOf bdsMs):=⟨by kernel_rfl,Zh8⟩
theorem Zo1:ZgV (bdOf bdsMs):=⟨by kernel_rfl,ZjA,ZmF,ZoN,ZcT⟩
theorem ZbU:ZT (bdOf bdsMs):=⟨by kernel_rfl⟩
theorem ZpE:Zh5 (bdOf bdsMs):=⟨by kernel_rfl⟩
theorem Zoe:ZgX (bdOf bdsMs):=⟨by kernel_rfl,ZmM,ZpE⟩
theorem Zin:ZdX (bdOf bdsMs):=⟨by kernel_rfl,Zit⟩
theorem ZkT:ZgD (bdOf bdsMs):=⟨by kernel_rfl⟩
theorem ZiY:Zez (bdOf bdsMs):=⟨by kernel_rfl⟩
theorem Zbo:Z6 (bdOf bdsMs):=⟨by kernel_rfl,ZiY⟩
theorem Zsd:ZkA (bdOf bdsMs):=⟨by kernel_rfl⟩
theorem ZrK:Zi8 (bdOf bdsMs):=⟨by kernel_rfl,Zsd⟩
theorem Zm9:Zf9 (bdOf bdsMs):=⟨by kernel_rfl⟩
theorem ZuD:Zln (bdOf bdsMs):=⟨by kernel_rfl,ZrK,Zm9⟩
theorem ZsP:ZkN (bdOf bdsMs):=⟨by kernel_rfl,ZuD⟩
theorem Zb6:ZbI (bdOf bdsMs):=⟨by kernel_rfl⟩
theorem Zn8:Zhb (bdOf bdsMs):=⟨by kernel_rfl,Zbo,ZsP,Zb6⟩
theorem ZoC:Zhc (bdOf bdsMs):=⟨by kernel_rfl⟩
theorem Zb4:ZbL (bdOf bdsMs):=⟨by kernel_rfl,Zn8,ZoC⟩
theorem Zr1:Zjf (bdOf bdsMs):=⟨by kernel_rfl,ZiY,Zb6⟩
theorem ZoF:Zg5 (bdOf bdsMs):=⟨by kernel_rfl,Zr1⟩
theorem Znf:Zf6 (bdOf bdsMs):=⟨by kernel_rfl⟩
theorem Zqa:ZiD (bdOf bdsMs):=⟨by kernel_rfl,Ze1,Znf⟩
theorem ZtA:ZkM (bdOf bdsMs):=⟨by kernel_rfl,Zb4,Zbo,ZoF,Zqa⟩
theorem ZiM:Zey (bdOf bdsMs):=⟨by kernel_rfl⟩
theorem ZlJ:ZeI (bdOf bdsMs):=⟨by kernel_rfl,ZiM⟩
theorem ZnB:Zf2 (bdOf bdsMs):=⟨by kernel_rfl,Zb4,Zb6,ZlJ⟩
theorem ZmG:ZfE (bdOf bdsMs):=⟨by kernel_rfl,ZiM⟩
theorem Zon:Zg2 (bdOf bdsMs):=⟨by kernel_rfl,Zb4,Zbo,Zb6,ZmG⟩
theorem ZeU:Zcc (bdOf bdsMs):=⟨by kernel_rfl⟩
theorem ZkI:ZdE (bdOf bdsMs):=⟨by kernel_rfl,ZpC,ZeU⟩
theorem ZlL:ZeK (bdOf bdsMs):=⟨by kernel_rfl,Zb4,Zbo,Zb6,ZkI⟩
theorem Zl1:ZeQ (bdOf bdsMs):=⟨by kernel_rfl,ZcT,ZeU⟩
theorem Znn:ZfU (bdOf bdsMs):=⟨by kernel_rfl,Zb4,Zbo,Zb6,Zl1⟩
theorem ZpT:ZhZ (bdOf bdsMs):=⟨by kernel_rfl,ZtA,ZnB,Zon,ZlL,Znn⟩
theorem ZbZ:Z0 (bdOf bdsMs):=⟨by kernel_rfl,Zin,ZbU,ZkT,ZcZ,ZpT⟩
theorem ZkC:Zco (bdOf bdsMs):=⟨by kernel_rfl,ZbU,ZbZ⟩
theorem Zj1:Zdk (bdOf bdsMs):=⟨by kernel_rfl,ZbU,Zoe,ZbZ,ZkC⟩
theorem ZkL:Zdx (bdOf bdsMs):=⟨by kernel_rfl,ZbU⟩
theorem ZkH:Zck (bdOf bdsMs):=⟨by kernel_rfl,ZbU,ZbZ,ZhY⟩
theorem Zc6:ZW (bdOf bdsMs):=⟨by kernel_rfl⟩
theorem Zje:Zc4 (bdOf bdsMs):=⟨by kernel_rfl,ZbU,ZbZ,Znx,ZkH,Zc6,ZhY⟩
theorem Zkt:ZdI (bdOf bdsMs):=⟨by kernel_rfl⟩
theorem ZkV:Zee (bdOf bdsMs):=⟨by kernel_rfl,Zja,Zo1,ZbU,Zj1,ZkL,Zje,Zkt⟩
theorem Zby:ZA (bdOf bdsMs):=⟨by kernel_rfl⟩
theorem ZdA:Z4 (bdOf bdsMs):=⟨by kernel_rfl⟩
theorem ZrY:Zgv (bdOf bdsMs):=⟨by kernel_rfl,ZdA⟩
theorem ZkX:Zgk (bdOf bdsMs):=⟨by kernel_rfl,Zby,ZrY,Zis⟩
theorem Zfj:Zbw (bdOf bdsMs):=⟨by kernel_rfl⟩
theorem ZmE:Ze8 (bdOf bdsMs):=⟨by kernel_rfl,Zfj⟩
theorem Zrh:Zjg (bdOf bdsMs):=⟨by kernel_rfl,Zb4,Zbo⟩
theorem Zow:ZgW (bdOf bdsMs):=⟨by kernel_rfl⟩
theorem Zou:Zha (bdOf bdsMs):=⟨by kernel_rfl⟩
theorem ZrR:Zjk (bdOf bdsMs):=⟨by kernel_rfl,Zou⟩
theorem Zr4:Zjb (bdOf bdsMs):=⟨by kernel_rfl,ZrR⟩
theorem ZpU:Zio (bdOf bdsMs):=⟨by kernel_rfl,Zr4⟩
theorem Zrm:Zji (bdOf bdsMs):=⟨by kernel_rfl,Zja,ZcZ,Zow,ZpU⟩
theorem ZmC:ZfB (bdOf bdsMs):=⟨by kernel_rfl,ZhV⟩
theorem Zfx:Zbv (bdOf bdsMs):=⟨by kernel_rfl⟩
theorem Zlf:ZeN (bdOf bdsMs):=⟨by kernel_rfl,Zfx⟩
theorem Zmw:Zfl (bdOf bdsMs):=⟨by kernel_rfl,ZmC,ZcZ,Zlf⟩
theorem Znj:Zf4 (bdOf bdsMs):=⟨by kernel_rfl,ZkV,Zja,Zin,ZmE,Zrh,ZkT,Zrm,Zmw⟩
theorem ZkE:Zdw (bdOf bdsMs):=⟨by kernel_rfl⟩
theorem Zlo:ZeO (bdOf bdsMs):=⟨by kernel_rfl,ZkE⟩
theorem ZoR:Zhd (bdOf bdsMs):=⟨by kernel_rfl⟩
theorem ZnX:Zg8 (bdOf bdsMs):=⟨by kernel_rfl,Zo5,ZkV,ZkX,Znj,Zlo,ZoR⟩
theorem has_law26_MarkSames:Zhk (bdOf bdsMs):=⟨by kernel_rfl,ZnX,Zoc,Zpq,ZkX⟩
end Go.Gv
