/- The ties of a seat: written by gvseat.py. -/
import Derived.Test.YtegglibipjjblaaGreatDoorGvZRun
import Derived.Test.YtegglibipjjblaaGreatDoorGvSortOk
import Derived.Test.YtegglibipjjblaaGreatDoorGvZLaw
import Derived.Test.YtegglibipjjblaaGreatDoorGvZBod
import Derived.Test.YtegglibipjjblaaGreatDoorGvBMc
import Derived.Test.YtegglibipjjblaaGreatDoorGvBMk
import Derived.Test.YtegglibipjjblaaGreatDoorProg
namespace Go.Gv
open Go.Proofs
set_option maxRecDepth 100000
noncomputable section
noncomputable def cfgMc:Cfg:=⟨Tryz.prog,lkN [(145,12),(177,15),(199,19),(209,26),(112,27),(218,28),(146,29),(134,34),(100,39),(113,40),(220,54),(133,57),(161,64),(191,72),(64,86),(29,133),(15,138),(70,141),(72,142),(68,143),(71,144),(93,145),(206,147),(28,155),(217,156),(103,159),(138,161),(137,162),(172,163),(16,170),(17,171),(21,172),(20,173),(23,177),(25,179),(31,183),(30,184),(41,189),(42,190),(39,191),(47,192),(46,193),(45,194),(44,195),(43,196),(48,197),(62,200),(63,201),(59,202),(61,203),(60,204),(66,206),(73,209),(74,210),(85,213),(86,214),(89,215),(88,216),(87,217),(91,218),(90,219),(92,220),(94,221),(96,222),(95,223),(50,225),(51,226),(97,227),(98,228),(99,229),(52,230),(53,231),(102,232),(101,233),(54,234),(105,236),(106,237),(107,238),(109,239),(108,240),(110,241),(111,242),(124,248),(125,249),(126,250),(127,251),(128,252),(129,253),(130,254),(131,255),(132,256),(139,259),(140,260),(141,261),(142,262),(143,263),(144,264),(156,272),(157,273),(158,274),(159,275),(160,276),(174,285),(173,286),(175,287),(176,288),(185,295),(186,296),(187,297),(188,298),(189,299),(190,300),(197,306),(198,307),(205,312),(207,313),(208,314),(210,315),(212,317),(213,318),(219,320),(10,321),(33,322),(36,323),(81,324),(122,325),(121,326),(153,327),(154,328),(182,329),(183,330),(201,331),(203,332),(202,333),(204,334),(214,335),(215,336),(216,337)],has [145,177,199,209,112,218,146,134,100,113,220,133,161,191,64,29,15,70,72,68,71,93,206,28,217,103,138,137,172,16,17,21,20,23,25,31,30,41,42,39,47,46,45,44,43,48,62,63,59,61,60,66,73,74,85,86,89,88,87,91,90,92,94,96,95,50,51,97,98,99,52,53,102,101,54,105,106,107,109,108,110,111,124,125,126,127,128,129,130,131,132,139,140,141,142,143,144,156,157,158,159,160,174,173,175,176,185,186,187,188,189,190,197,198,205,207,208,210,212,213,219,10,33,36,81,122,121,153,154,182,183,201,203,202,204,214,215,216],tyN [(9,0),(143,4),(159,5),(163,2),(166,1),(171,3),(202,6)],lkN [(0,2)],has [0],lkE [(73,[.int .i64,.int .i64,.int .i64,.int .i64,.int .i64]),(137,[.bool,.int .i64,.int .i64])],has [101]⟩
theorem ZrK:bodyM cfgMc ⟨[],(.n .z (.n .z (.n (.j [(3,.v (.b (.slice 1)))] (.j [(0,.v (.b (.str))),(3,.v (.b (.slice 1)))] .z .z) .z) .z))),true⟩ Tryz.f145=Zeu:=by kernel_rfl
theorem Zsj:bodyM cfgMc ⟨[],(.n .z (.n .z (.n .z (.n (.n (.n .z (.n .z (.n .z (.n .z (.n .z (.j [] (.n (.n .z (.j [(5,.v (.b (.int .u8)))] .z .z)) (.n (.n .z (.j [(6,.v (.b (.int .u8)))] .z .z)) .z)) (.n .z (.j [] (.n (.n .z (.j [(5,.v (.b (.int .u8)))] .z .z)) (.n (.n .z (.j [(6,.v (.b (.int .u8)))] .z .z)) .z)) .z)))))))) .z) .z)))),false⟩ Tryz.f177=Zev:=by kernel_rfl
theorem ZoV:bodyM cfgMc ⟨[],.z,false⟩ Tryz.f199=Zdv:=by kernel_rfl
theorem ZtX:bodyM cfgMc ⟨[],(.n .z (.n .z (.n (.n .z (.j [(3,.v (.b (.int .i64)))] (.j [(3,.v (.b (.int .i64))),(7,.t)] .z .z) .z)) .z))),false⟩ Tryz.f209=ZfE:=by kernel_rfl
theorem Zrz:bodyM cfgMc ⟨[],(.n .z (.n .z (.n .z (.n (.n .z (.j [(4,.v (.b (.bool)))] (.j [(4,.v (.b (.bool))),(5,.v (.b (.int .i64)))] .z .z) .z)) .z)))),false⟩ Tryz.f112=ZeB:=by kernel_rfl
theorem Zx2:bodyM cfgMc ⟨[4],(.n .z (.n (.n .z (.j [] (.j [(6,.v (.b (.int .i64)))] .z .z) .z)) .z)),false⟩ Tryz.f218=Zi7:=by kernel_rfl
theorem ZvW:bodyM cfgMc ⟨[],.z,false⟩ Tryz.f146=Zhx:=by kernel_rfl
theorem ZsD:bodyM cfgMc ⟨[],(.n .z (.n .z (.n (.n .z (.j [(3,.v (.b (.slice 1)))] (.j [(3,.v (.b (.slice 1))),(7,.t)] .z .z) .z)) .z))),true⟩ Tryz.f134=ZfH:=by kernel_rfl
theorem Zp1:bodyM cfgMc ⟨[],.z,false⟩ Tryz.f100=Zd8:=by kernel_rfl
theorem ZoN:bodyM cfgMc ⟨[],(.n .z (.n .z (.n (.n .z (.j [] (.j [(7,.v (.b (.int .i64)))] .z .z) .z)) .z))),false⟩ Tryz.f113=Zdm:=by kernel_rfl
theorem Zt8:bodyM cfgMc ⟨[0],.z,false⟩ Tryz.f220=Zit:=by kernel_rfl
theorem Zhf:bodyM cfgMc ⟨[],(.n .z (.n (.n .z (.j [] (.j [(11,.v (.b (.int .i64)))] .z .z) .z)) .z)),false⟩ Tryz.f133=Zbe:=by kernel_rfl
theorem ZlW:bodyM cfgMc ⟨[],.z,false⟩ Tryz.f161=Zcu:=by kernel_rfl
theorem ZnE:bodyM cfgMc ⟨[],.z,false⟩ Tryz.f191=Zc3:=by kernel_rfl
theorem ZjJ:bodyM cfgMc ⟨[],.z,false⟩ Tryz.f64=Zbc:=ZzW (fun c=>by kernel_rfl) (by kernel_rfl)
theorem Zvn:bodyM cfgMc ⟨[1,7],(.n .z (.n .z (.n .z (.n .z (.n .z (.n .z (.n (.n .z (.j [] (.j [(6,.v (.b (.int .i64)))] .z .z) .z)) (.n (.n .z (.j [] (.j [(8,.v (.b (.int .i64)))] .z .z) .z)) (.n (.n .z (.j [] (.j [(10,.v (.b (.int .i64)))] .z .z) .z)) .z))))))))),false⟩ Tryz.f29=Zgs:=by kernel_rfl
theorem ZrY:bodyM cfgMc ⟨[1],(.n .z (.n .z (.n (.n .z (.j [] (.j [(3,.v (.b (.int .i64)))] .z .z) .z)) .z))),false⟩ Tryz.f15=ZeA:=by kernel_rfl
theorem Zsb:bodyM cfgMc ⟨[1],.z,false⟩ Tryz.f70=ZeI:=by kernel_rfl
theorem Zo3:bodyM cfgMc ⟨[1],(.n .z (.n .z (.n (.n .z (.j [(3,.v (.b (.slice 4)))] (.j [(3,.v (.b (.slice 4))),(4,.v (.b (.int .i64)))] .z .z) .z)) .z))),true⟩ Tryz.f72=Zdr:=by kernel_rfl
theorem Zvj:bodyM cfgMc ⟨[],(.n .z (.n (.n .z (.j [] (.j [(5,.v (.b (.int .i64)))] .z .z) .z)) .z)),false⟩ Tryz.f68=Zgr:=by kernel_rfl
theorem ZsC:bodyM cfgMc ⟨[],(.n .z (.n .z (.n (.n .z (.j [] (.j [(3,.v (.b (.int .i64)))] (.n .z (.n (.j [] (.n .z (.n .z (.j [] (.j [(4,.v (.b (.int .i64)))] .z .z) .z))) .z) .z)) .z) .z)) .z))),false⟩ Tryz.f71=ZeM:=by kernel_rfl
theorem ZtE:bodyM cfgMc ⟨[1],.z,false⟩ Tryz.f93=ZcM:=by kernel_rfl
theorem ZfV:bodyM cfgMc ⟨[],.z,false⟩ Tryz.f206=Z0:=by kernel_rfl
theorem ZrX:bodyM cfgMc ⟨[2,3],.z,false⟩ Tryz.f28=ZeC:=by kernel_rfl
theorem Zhs:bodyM cfgMc ⟨[],(.n .z (.n (.n .z (.j [] (.j [(8,.v (.b (.int .i64)))] .z .z) .z)) .z)),false⟩ Tryz.f217=Zbd:=by kernel_rfl
theorem ZjT:bodyM cfgMc ⟨[2,3],.z,false⟩ Tryz.f103=ZcQ:=by kernel_rfl
theorem Zht:bodyM cfgMc ⟨[],.z,false⟩ Tryz.f138=ZbY:=by kernel_rfl
theorem Zml:bodyM cfgMc ⟨[],(.n .z (.n .z (.n (.n .z (.j [] (.j [(8,.v (.b (.int .i64)))] .z .z) .z)) .z))),false⟩ Tryz.f137=ZdH:=by kernel_rfl
theorem ZiY:bodyM cfgMc ⟨[],.z,false⟩ Tryz.f172=Zcx:=by kernel_rfl
theorem Zrr:bodyM cfgMc ⟨[3,7,10],(.n .z (.n .z (.n .z (.n .z (.n .z (.n .z (.n .z (.n .z (.n (.n .z (.j [(10,.l [.int .i64,.int .i64,.int .i64,.int .i64,.int .i64,.int .i64,.int .i64,.int .i64,.slice 1])] .z .z)) (.n .z (.n (.n .z (.j [(10,.l [.int .i64,.int .i64,.int .i64,.int .i64,.int .i64,.int .i64,.int .i64,.int .i64,.slice 1])] (.j [(10,.l [.int .i64,.int .i64,.int .i64,.int .i64,.int .i64,.int .i64,.int .i64,.int .i64,.slice 1]),(12,.v (.b (.int .i64)))] .z .z) .z)) (.n (.n .z (.j [(11,.v (.b (.slice 1)))] (.j [(11,.v (.b (.slice 1))),(13,.v (.b (.int .i64)))] .z .z) .z)) (.n .z (.n (.n .z (.j [] (.j [(14,.v (.b (.int .i64)))] .z .z) .z)) .z)))))))))))))),false⟩ Tryz.f16=ZeF:=by kernel_rfl
theorem Zu7:bodyD cfgMc 3 Tryz.f17 Tryz.f49=ZgN:=by kernel_rfl
theorem Zox:bodyM cfgMc ⟨[],(.n .z (.n .z (.n (.n .z (.j [(3,.v (.b (.slice 1)))] (.j [(3,.v (.b (.slice 1))),(11,.v (.b (.int .i64)))] (.n .z (.n .z (.n (.j [(3,.v (.b (.slice 1)))] (.n .z (.j [(3,.v (.b (.slice 1)))] (.j [(3,.v (.b (.slice 1))),(5,.v (.b (.int .u64)))] .z .z) .z)) .z) .z))) .z) .z)) .z))),false⟩ Tryz.f21=Zdo:=by kernel_rfl
theorem ZpN:bodyM cfgMc ⟨[4,7,13],(.n .z (.n .z (.n .z (.n .z (.n (.n .z (.j [(10,.v (.b (.slice 49)))] (.j [(10,.v (.b (.slice 49))),(39,.v (.b (.int .i64)))] .z .z) .z)) .z))))),false⟩ Tryz.f20=ZdU:=by kernel_rfl
theorem ZwV:bodyM cfgMc ⟨[],.z,false⟩ Tryz.f23=ZiX:=by kernel_rfl
theorem Zs8:bodyM cfgMc ⟨[],.z,false⟩ Tryz.f25=ZfQ:=by kernel_rfl
theorem ZnI:bodyM cfgMc ⟨[],(.n .z (.n .z (.n (.n .z (.j [(3,.v (.b (.int .i64)))] (.j [(3,.v (.b (.int .i64))),(11,.v (.b (.int .i64)))] .z .z) .z)) .z))),false⟩ Tryz.f31=Zc2:=by kernel_rfl
theorem Zqw:bodyM cfgMc ⟨[],.z,false⟩ Tryz.f30=Zeb:=by kernel_rfl
theorem ZmJ:bodyM cfgMc ⟨[7],(.n .z (.n .z (.n (.n .z (.j [(5,.v (.b (.slice 1)))] (.j [(5,.v (.b (.slice 1))),(6,.v (.b (.int .i64)))] (.n .z (.n (.j [(5,.v (.b (.slice 1)))] (.n .z (.n .z (.n (.n .z (.j [(7,.l [.str,.int .i64,.blob 12])] (.j [(7,.l [.str,.int .i64,.blob 12]),(8,.v (.b (.slice 4))),(9,.v (.b (.int .i64)))] (.n .z (.n (.n (.n .z (.j [(7,.l [.str,.int .i64,.blob 12]),(8,.v (.b (.slice 4)))] .z .z)) .z) .z)) .z) .z)) .z))) .z) .z)) .z) .z)) .z))),false⟩ Tryz.f41=ZcJ:=by kernel_rfl
theorem Zll:bodyM cfgMc ⟨[3,7,12,14],(.n .z (.n .z (.n (.n .z (.j [(5,.v (.b (.slice 1)))] (.j [(5,.v (.b (.slice 1))),(6,.v (.b (.int .i64)))] (.n .z (.n (.j [(5,.v (.b (.slice 1)))] (.n .z (.n (.n .z (.j [(7,.l [.blob 21])] (.j [(7,.l [.blob 21]),(8,.v (.b (.int .i64)))] (.n .z (.n (.j [(7,.l [.blob 21])] (.n .z (.n (.n .z (.j [(7,.l [.blob 21])] .z .z)) (.n .z (.j [(7,.l [.blob 21])] (.j [(7,.l [.blob 21]),(9,.v (.b (.int .i64)))] (.n .z (.n (.n (.n .z (.j [(7,.l [.blob 21])] .z .z)) .z) .z)) .z) .z)))) .z) .z)) .z) .z)) .z)) .z) .z)) .z) .z)) (.n .z (.n .z (.n (.n .z (.j [(12,.l [.blob 16])] (.j [(12,.l [.blob 16]),(13,.v (.b (.int .i64)))] (.n .z (.n (.j [(12,.l [.blob 16])] (.n .z (.n (.n .z (.j [(14,.l [.blob 16])] (.j [(14,.l [.blob 16]),(15,.v (.b (.int .i64)))] .z .z) .z)) .z)) .z) .z)) .z) .z)) .z)))))),false⟩ Tryz.f42=Zch:=by kernel_rfl
theorem ZuX:bodyM cfgMc ⟨[1],(.n .z (.n .z (.n .z (.n (.n .z (.j [(3,.v (.b (.str)))] (.j [(3,.v (.b (.str))),(4,.v (.b (.int .i64)))] .z .z) .z)) .z)))),false⟩ Tryz.f39=ZgH:=by kernel_rfl
theorem ZtO:bodyM cfgMc ⟨[4,5],(.n .z (.n .z (.n (.n .z (.j [(5,.l [.int .i64,.blob 48])] (.j [(5,.l [.int .i64,.blob 48]),(6,.v (.b (.int .i64)))] (.n .z (.n (.n (.n .z (.j [(5,.l [.int .i64,.blob 48])] .z .z)) .z) .z)) .z) .z)) .z))),false⟩ Tryz.f47=ZfT:=by kernel_rfl
theorem ZuQ:bodyM cfgMc ⟨[],.z,false⟩ Tryz.f46=ZgI:=by kernel_rfl
theorem ZmK:bodyM cfgMc ⟨[],(.n .z (.n .z (.n .z (.n (.n .z (.j [] .z .z)) .z)))),false⟩ Tryz.f45=ZcH:=by kernel_rfl
theorem Zr5:bodyM cfgMc ⟨[1],(.n .z (.n .z (.n .z (.n .z (.n (.n .z (.j [(3,.v (.b (.slice 1)))] .z .z)) (.n (.n .z (.j [(3,.v (.b (.slice 1)))] .z .z)) (.n (.n .z (.j [(3,.v (.b (.slice 1)))] (.j [(3,.v (.b (.slice 1))),(4,.v (.b (.int .i64)))] (.n .z (.n (.j [(3,.v (.b (.slice 1)))] (.n .z (.n .z (.j [] (.j [(5,.v (.b (.int .i64)))] .z .z) .z))) .z) .z)) .z) .z)) (.n (.n .z (.j [] (.j [(6,.v (.b (.int .i64)))] .z .z) .z)) .z)))))))),false⟩ Tryz.f44=Zem:=by kernel_rfl
theorem Zp2:bodyM cfgMc ⟨[1],.z,false⟩ Tryz.f43=ZdW:=by kernel_rfl
theorem Zr1:bodyM cfgMc ⟨[],(.n .z (.n .z (.n .z (.n .z (.n (.n .z (.j [] (.j [(102,.v (.b (.int .i64)))] .z .z) .z)) .z))))),false⟩ Tryz.f48=Zer:=by kernel_rfl
theorem Zvg:bodyM cfgMc ⟨[8],(.n .z (.n .z (.n .z (.n (.n .z (.j [] (.j [(27,.v (.b (.int .i64)))] .z .z) .z)) .z)))),false⟩ Tryz.f62=Zgy:=by kernel_rfl
theorem ZoJ:bodyM cfgMc ⟨[],.z,false⟩ Tryz.f63=Zdq:=by kernel_rfl
theorem Zn7:bodyM cfgMc ⟨[],.z,false⟩ Tryz.f59=Zdu:=by kernel_rfl
theorem Zvc:bodyM cfgMc ⟨[],.z,true⟩ Tryz.f61=ZgR:=by kernel_rfl
theorem Zvm:bodyM cfgMc ⟨[2],.z,false⟩ Tryz.f60=ZgL:=by kernel_rfl
theorem Zqe:bodyM cfgMc ⟨[],(.n .z (.j [] (.j [(8,.v (.b (.int .i64)))] (.n .z (.n .z (.n (.n (.n .z (.n .z (.j [] .z .z))) .z) .z))) .z) .z)),false⟩ Tryz.f66=ZdV:=by kernel_rfl
theorem ZqG:bodyM cfgMc ⟨[],.z,false⟩ Tryz.f73=Zd4:=by kernel_rfl
theorem Zmq:bodyM cfgMc ⟨[],.z,false⟩ Tryz.f74=Zcq:=by kernel_rfl
theorem ZuW:bodyM cfgMc ⟨[],(.n .z (.n .z (.n (.n .z (.j [(5,.v (.b (.str)))] (.j [(5,.v (.b (.str))),(6,.v (.b (.int .i64)))] .z .z) .z)) .z))),false⟩ Tryz.f85=ZgB:=by kernel_rfl
theorem ZtV:bodyM cfgMc ⟨[],.z,false⟩ Tryz.f86=Zfn:=by kernel_rfl
theorem Zux:bodyM cfgMc ⟨[],(.n .z (.n .z (.n .z (.n (.n .z (.j [(4,.v (.b (.str)))] (.j [(4,.v (.b (.str))),(5,.v (.b (.int .i64)))] (.n .z (.n (.j [(4,.v (.b (.str)))] (.n .z (.n (.n .z (.j [] (.j [(6,.v (.b (.int .i64)))] .z .z) .z)) .z)) .z) .z)) .z) .z)) .z)))),false⟩ Tryz.f89=ZgG:=by kernel_rfl
theorem Zu6:bodyM cfgMc ⟨[1],(.n .z (.n .z (.n (.n .z (.j [(3,.v (.b (.str)))] (.j [(3,.v (.b (.str))),(4,.v (.b (.int .i64)))] .z .z) .z)) .z))),false⟩ Tryz.f88=ZgO:=by kernel_rfl
theorem Zmp:bodyM cfgMc ⟨[5],(.n .z (.n .z (.n (.n .z (.j [(5,.l [.int .i64,.int .i64,.int .i64,.int .i64,.slice 1])] (.j [(5,.l [.int .i64,.int .i64,.int .i64,.int .i64,.slice 1]),(6,.v (.b (.int .i64)))] .z .z) .z)) .z))),false⟩ Tryz.f87=Zcy:=by kernel_rfl
theorem ZuK:bodyM cfgMc ⟨[1],(.n .z (.n .z (.n (.n .z (.j [(4,.v (.b (.str)))] (.j [(4,.v (.b (.str))),(5,.v (.b (.int .i64)))] .z .z) .z)) .z))),false⟩ Tryz.f91=Zgq:=by kernel_rfl
theorem Ztl:bodyM cfgMc ⟨[1,7],(.n .z (.n .z (.n (.n .z (.j [(4,.v (.b (.str))),(5,.v (.b (.int .i64)))] (.j [(4,.v (.b (.str))),(5,.v (.b (.int .i64))),(6,.v (.b (.int .i64)))] (.n .z (.n (.n (.n .z (.n .z (.n (.n .z (.j [(5,.v (.b (.int .i64)))] .z .z)) .z))) .z) .z)) .z) .z)) .z))),false⟩ Tryz.f90=Zfw:=by kernel_rfl
theorem Zs5:bodyM cfgMc ⟨[],(.n .z (.n .z (.n (.j [(5,.v (.b (.int .i64)))] (.j [(5,.v (.b (.int .i64)))] .z .z) .z) .z))),false⟩ Tryz.f92=Zfy:=by kernel_rfl
theorem Zpl:bodyM cfgMc ⟨[],.z,false⟩ Tryz.f94=Zdn:=by kernel_rfl
theorem ZhH:bodyM cfgMc ⟨[],.z,false⟩ Tryz.f96=Zbn:=by kernel_rfl
theorem Zr9:bodyM cfgMc ⟨[1],.z,false⟩ Tryz.f95=ZeH:=by kernel_rfl
theorem Zvl:bodyM cfgMc ⟨[],(.n .z (.j [] .z .z)),false⟩ Tryz.f50=Zgl:=by kernel_rfl
theorem Zlj:bodyM cfgMc ⟨[],(.n .z (.n .z (.n .z (.j [] (.j [(32,.v (.b (.int .i64)))] (.n .z (.n .z (.n (.j [] (.n .z (.n .z (.n .z (.n .z (.n .z (.j [] (.j [(52,.v (.b (.int .i64)))] (.n .z (.n .z (.n (.n (.n .z (.n .z (.n .z (.j [] .z .z)))) .z) .z))) .z) .z)))))) .z) .z))) .z) .z)))),false⟩ Tryz.f51=Zcg:=by kernel_rfl
theorem Zr7:bodyM cfgMc ⟨[],.z,false⟩ Tryz.f97=ZeL:=by kernel_rfl
theorem Zl8:bodyM cfgMc ⟨[],.z,false⟩ Tryz.f98=Zck:=by kernel_rfl
theorem Zmt:bodyM cfgMc ⟨[7],(.n .z (.j [] (.j [(13,.v (.b (.int .i64)))] (.n .z (.n .z (.n (.j [] .z .z) .z))) .z) .z)),false⟩ Tryz.f99=Zct:=by kernel_rfl
theorem Zmg:bodyM cfgMc ⟨[5,7],(.n .z (.n (.n .z (.j [] (.j [(3,.v (.b (.int .i64)))] .z .z) .z)) (.n .z (.j [] (.j [(86,.v (.b (.int .i64)))] .z .z) .z)))),false⟩ Tryz.f52=ZcA:=by kernel_rfl
theorem Zk0:bodyM cfgMc ⟨[4,5],(.n .z (.n .z (.j [] (.j [(24,.v (.b (.int .i64)))] (.n .z (.n .z (.n (.j [] (.n .z (.n .z (.n .z (.n .z (.n (.n .z (.j [(5,.l [.str,.slice 4])] (.j [(5,.l [.str,.slice 4]),(57,.v (.b (.int .i64)))] (.n .z (.n .z (.n (.n (.n .z (.n .z (.j [(5,.l [.str,.slice 4])] .z .z))) .z) .z))) .z) .z)) .z))))) .z) .z))) .z) .z))),false⟩ Tryz.f53=Zb1:=by kernel_rfl
theorem ZlD:bodyM cfgMc ⟨[9,10,11],(.n .z (.n .z (.n .z (.n (.j [(7,.v (.b (.slice 4)))] (.j [(7,.v (.b (.slice 4))),(8,.v (.b (.slice 7)))] (.n .z (.j [(7,.v (.b (.slice 4))),(8,.v (.b (.slice 7)))] (.n .z (.n .z (.n .z (.n .z (.n .z (.n .z (.n .z (.n .z (.n .z (.j [(8,.v (.b (.slice 7)))] (.j [(8,.v (.b (.slice 7))),(100,.v (.b (.int .i64)))] .z .z) .z)))))))))) .z)) .z) .z) .z)))),false⟩ Tryz.f101=Zco:=by kernel_rfl
theorem Zl9:bodyM cfgMc ⟨[5],(.n .z (.n .z (.n (.n .z (.j [(3,.v (.b (.int .i64)))] (.j [(3,.v (.b (.int .i64))),(11,.v (.b (.int .i64)))] (.n .z (.n .z (.n (.n (.n .z (.n .z (.n .z (.j [(3,.v (.b (.int .i64)))] .z .z)))) .z) .z))) .z) .z)) .z))),false⟩ Tryz.f54=Zcw:=by kernel_rfl
theorem Zf7:bodyM cfgMc ⟨[],(.n .z (.n .z (.n (.n .z (.j [] (.j [(13,.v (.b (.int .i64)))] .z .z) .z)) .z))),false⟩ Tryz.f105=Z7:=by kernel_rfl
theorem Ztz:bodyM cfgMc ⟨[],.z,true⟩ Tryz.f106=ZfC:=by kernel_rfl
theorem Zn0:bodyM cfgMc ⟨[],(.n .z (.n .z (.n (.n .z (.j [] (.j [(21,.v (.b (.int .i64)))] .z .z) .z)) .z))),false⟩ Tryz.f107=Zds:=by kernel_rfl
theorem ZtZ:bodyM cfgMc ⟨[1],(.n .z (.n .z (.n (.n .z (.j [(3,.v (.b (.slice 1)))] (.j [(3,.v (.b (.slice 1))),(6,.v (.b (.int .i64)))] (.n .z (.n .z (.n (.n (.n .z (.n .z (.n .z (.j [(3,.v (.b (.slice 1)))] .z .z)))) .z) .z))) .z) .z)) .z))),true⟩ Tryz.f109=ZfP:=by kernel_rfl
theorem ZsB:bodyM cfgMc ⟨[],.z,false⟩ Tryz.f108=Zhc:=by kernel_rfl
theorem Znv:bodyM cfgMc ⟨[],.z,false⟩ Tryz.f110=ZcX:=by kernel_rfl
theorem ZuS:bodyM cfgMc ⟨[],(.n .z (.n .z (.n (.n .z (.j [(3,.v (.b (.int .u32)))] (.j [(3,.v (.b (.int .u32))),(4,.v (.b (.int .i64)))] .z .z) .z)) .z))),false⟩ Tryz.f111=ZgQ:=by kernel_rfl
theorem ZrS:bodyM cfgMc ⟨[],(.n .z (.n (.n .z (.j [(0,.v (.b (.int .u64)))] (.j [(0,.v (.b (.int .u64))),(5,.v (.b (.int .i64)))] .z .z) .z)) .z)),false⟩ Tryz.f124=ZeG:=by kernel_rfl
theorem ZsH:bodyM cfgMc ⟨[],.z,false⟩ Tryz.f125=Zfj:=by kernel_rfl
theorem ZuF:bodyM cfgMc ⟨[1,3],(.n .z (.n .z (.n .z (.n (.n .z (.j [(4,.v (.b (.str)))] (.j [(4,.v (.b (.str))),(5,.v (.b (.int .i64)))] .z .z) .z)) .z)))),false⟩ Tryz.f126=Zgk:=by kernel_rfl
theorem ZrR:bodyM cfgMc ⟨[],.z,false⟩ Tryz.f127=ZeK:=by kernel_rfl
theorem ZsN:bodyM cfgMc ⟨[1],.z,false⟩ Tryz.f128=ZfJ:=by kernel_rfl
theorem ZxD:bodyM cfgMc ⟨[],.z,false⟩ Tryz.f129=ZiS:=by kernel_rfl
theorem Zjz:bodyM cfgMc ⟨[],(.n .z (.n (.n .z (.j [] (.j [(8,.v (.b (.int .i64)))] .z .z) .z)) .z)),false⟩ Tryz.f130=ZbF:=by kernel_rfl
theorem Zuq:bodyM cfgMc ⟨[],.z,false⟩ Tryz.f131=Zfo:=by kernel_rfl
theorem Zuf:bodyM cfgMc ⟨[3,5,7,9,11],.z,false⟩ Tryz.f132=Zfe:=by kernel_rfl
theorem ZrB:bodyM cfgMc ⟨[],.z,false⟩ Tryz.f139=ZeO:=by kernel_rfl
theorem Zsm:bodyM cfgMc ⟨[],.z,true⟩ Tryz.f140=Zek:=by kernel_rfl
theorem ZrE:bodyM cfgMc ⟨[],.z,false⟩ Tryz.f141=Zez:=by kernel_rfl
theorem Zvt:bodyM cfgMc ⟨[2],.z,false⟩ Tryz.f142=ZgA:=by kernel_rfl
theorem ZfX:bodyM cfgMc ⟨[],.z,false⟩ Tryz.f143=Z8:=by kernel_rfl
theorem ZrW:bodyM cfgMc ⟨[],(.n .z (.n (.n .z (.j [(0,.v (.b (.int .u32)))] (.j [(0,.v (.b (.int .u32))),(5,.v (.b (.int .i64)))] .z .z) .z)) .z)),false⟩ Tryz.f144=Zew:=by kernel_rfl
theorem Zwh:bodyM cfgMc ⟨[2,8],(.n .z (.n .z (.n .z (.n .z (.n (.n .z (.j [(8,.l [.int .i64,.int .i64,.int .i64,.int .i64,.slice 1])] (.j [(8,.l [.int .i64,.int .i64,.int .i64,.int .i64,.slice 1]),(41,.v (.b (.int .i64)))] .z .z) .z)) .z))))),true⟩ Tryz.f156=ZhE:=by kernel_rfl
theorem Zpz:bodyM cfgMc ⟨[2,8,11],(.n .z (.n .z (.n .z (.n .z (.n (.n .z (.j [(2,.l [.blob 21]),(8,.l [.blob 21])] (.j [(2,.l [.blob 21]),(8,.l [.blob 21]),(30,.v (.b (.int .i64)))] .z .z) .z)) .z))))),false⟩ Tryz.f157=ZdX:=by kernel_rfl
theorem Zsu:bodyM cfgMc ⟨[2,8],(.n .z (.n .z (.n .z (.n .z (.n (.n .z (.j [(8,.l [.blob 16])] (.j [(8,.l [.blob 16]),(36,.v (.b (.int .i64)))] .z .z) .z)) .z))))),false⟩ Tryz.f158=ZeN:=by kernel_rfl
theorem Znk:bodyM cfgMc ⟨[2,8],(.n .z (.n .z (.n .z (.n .z (.n (.n .z (.j [(8,.l [.str,.int .i64,.blob 12])] (.j [(8,.l [.str,.int .i64,.blob 12]),(51,.v (.b (.int .i64)))] .z .z) .z)) .z))))),false⟩ Tryz.f159=ZcW:=by kernel_rfl
theorem ZpS:bodyM cfgMc ⟨[2,8],(.n .z (.n .z (.n .z (.n .z (.n (.n .z (.j [(8,.l [.slice 1])] (.j [(8,.l [.slice 1]),(41,.v (.b (.int .i64)))] .z .z) .z)) .z))))),true⟩ Tryz.f160=Zd7:=by kernel_rfl
theorem Zs7:bodyM cfgMc ⟨[],(.n .z (.n .z (.n (.n .z (.j [(3,.v (.b (.int .u64)))] (.j [(3,.v (.b (.int .u64))),(12,.v (.b (.int .i64)))] .z .z) .z)) .z))),false⟩ Tryz.f174=ZdK:=by kernel_rfl
theorem Zwt:bodyM cfgMc ⟨[],.z,false⟩ Tryz.f173=ZhJ:=by kernel_rfl
theorem Zvi:bodyM cfgMc ⟨[2],.z,false⟩ Tryz.f175=ZgE:=by kernel_rfl
theorem Zuh:bodyM cfgMc ⟨[],.z,false⟩ Tryz.f176=ZfR:=by kernel_rfl
theorem Zr3:bodyM cfgMc ⟨[],.z,false⟩ Tryz.f185=Zex:=by kernel_rfl
theorem Zti:bodyM cfgMc ⟨[1,3],.z,false⟩ Tryz.f186=Zfz:=by kernel_rfl
theorem ZnK:bodyM cfgMc ⟨[1],.z,false⟩ Tryz.f187=Zc4:=by kernel_rfl
theorem Zoc:bodyM cfgMc ⟨[1],(.n .z (.n (.n .z (.j [] (.j [(7,.v (.b (.int .i64)))] .z .z) .z)) .z)),false⟩ Tryz.f188=Zdt:=by kernel_rfl
theorem Zlr:bodyM cfgMc ⟨[1],(.n .z (.n .z (.n (.n .z (.j [] (.j [(21,.v (.b (.int .i64)))] .z .z) .z)) .z))),false⟩ Tryz.f189=Zcs:=by kernel_rfl
theorem ZnX:bodyM cfgMc ⟨[1],(.n .z (.n .z (.n (.n .z (.j [] (.j [(18,.v (.b (.int .i64)))] .z .z) .z)) .z))),false⟩ Tryz.f190=ZcZ:=by kernel_rfl
theorem Zxl:bodyM cfgMc ⟨[],(.n .z (.n .z (.n (.n .z (.j [(4,.v (.b (.int .u32)))] (.j [(4,.v (.b (.int .u32))),(10,.v (.b (.int .i64)))] .z .z) .z)) .z))),false⟩ Tryz.f197=ZiQ:=by kernel_rfl
theorem Zsp:bodyM cfgMc ⟨[1],.z,false⟩ Tryz.f198=Zet:=by kernel_rfl
theorem ZuZ:bodyM cfgMc ⟨[],.z,false⟩ Tryz.f205=ZgD:=by kernel_rfl
theorem Zqx:bodyM cfgMc ⟨[],.z,false⟩ Tryz.f207=Zd6:=by kernel_rfl
theorem ZrF:bodyM cfgMc ⟨[],.z,false⟩ Tryz.f208=ZeJ:=by kernel_rfl
theorem Zln:bodyM cfgMc ⟨[],.z,false⟩ Tryz.f210=Zci:=by kernel_rfl
theorem ZuM:bodyM cfgMc ⟨[0,1],(.n .z (.n .z (.n (.n .z (.j [(1,.l [.blob 16])] (.j [(1,.l [.blob 16]),(4,.v (.b (.int .i64)))] (.n .z (.n .z (.n (.j [(1,.l [.blob 16])] (.n .z (.n .z (.n (.n .z (.j [(3,.v (.b (.int .u32)))] (.j [(3,.v (.b (.int .u32))),(9,.v (.b (.int .i64)))] .z .z) .z)) .z))) .z) .z))) .z) .z)) .z))),false⟩ Tryz.f212=Zgu:=by kernel_rfl
theorem ZqH:bodyM cfgMc ⟨[],(.n .z (.n (.n .z (.j [(1,.v (.b (.int .u32)))] (.j [(1,.v (.b (.int .u32))),(11,.v (.b (.int .i64)))] .z .z) .z)) .z)),false⟩ Tryz.f213=ZdP:=by kernel_rfl
theorem Zwx:bodyM cfgMc ⟨[],.z,false⟩ Tryz.f219=ZhC:=by kernel_rfl
theorem ZnT:bodyM cfgMc ⟨[2,6,8],.z,false⟩ Tryz.f10=ZcY:=by kernel_rfl
theorem ZrZ:bodyM cfgMc ⟨[1,3,5,7],.z,false⟩ Tryz.f33=Zes:=by kernel_rfl
theorem ZrH:bodyM cfgMc ⟨[2,4,7,9],(.n .z (.n .z (.n .z (.n .z (.n (.n .z (.j [(7,.l [.int .i64,.int .i64,.int .i64,.int .i64,.int .i64])] (.j [(7,.l [.int .i64,.int .i64,.int .i64,.int .i64,.int .i64]),(32,.v (.b (.int .i64)))] .z .z) .z)) .z))))),false⟩ Tryz.f36=Zc8:=by kernel_rfl
theorem ZrD:bodyM cfgMc ⟨[2,5,8],.z,false⟩ Tryz.f81=Zey:=by kernel_rfl
theorem ZuJ:bodyM cfgMc ⟨[],(.n .z (.n .z (.n .z (.n (.n .z (.j [] (.j [(19,.v (.b (.int .i64)))] .z .z) .z)) .z)))),false⟩ Tryz.f122=ZgJ:=by kernel_rfl
theorem Zu0:bodyM cfgMc ⟨[2,6],(.n .z (.n (.n .z (.j [(2,.l [.int .i64,.int .i64,.int .i64,.int .i64,.int .i64,.int .i64,.int .i64,.int .i64,.slice 1]),(3,.v (.b (.int .i64))),(4,.v (.b (.bool)))] (.j [(2,.l [.int .i64,.int .i64,.int .i64,.int .i64,.int .i64,.int .i64,.int .i64,.int .i64,.slice 1]),(3,.v (.b (.int .i64))),(4,.v (.b (.bool))),(8,.v (.b (.int .i64)))] (.n .z (.n .z (.n (.n (.n .z (.n .z (.n .z (.j [(2,.l [.int .i64,.int .i64,.int .i64,.int .i64,.int .i64,.int .i64,.int .i64,.int .i64,.slice 1]),(3,.v (.b (.int .i64))),(4,.v (.b (.bool)))] .z .z)))) .z) .z))) .z) .z)) .z)),false⟩ Tryz.f121=ZgP:=by kernel_rfl
theorem Zu9:bodyM cfgMc ⟨[4],.z,false⟩ Tryz.f153=Zgp:=by kernel_rfl
theorem Zsz:bodyM cfgMc ⟨[],(.n .z (.n .z (.n (.j [(3,.v (.b (.slice 1)))] (.j [(0,.v (.b (.slice 1))),(3,.v (.b (.slice 1)))] .z .z) .z) .z))),true⟩ Tryz.f154=ZeD:=by kernel_rfl
theorem Ztx:bodyM cfgMc ⟨[],(.n .z (.n .z (.n .z (.n (.n .z (.j [] (.j [(17,.v (.b (.int .i64)))] .z .z) .z)) .z)))),false⟩ Tryz.f182=ZfN:=by kernel_rfl
theorem Zvv:bodyM cfgMc ⟨[2,1000000],(.n .z (.n .z (.n .z (.n .z (.n .z (.n .z (.n (.n .z (.j [] (.j [(48,.v (.b (.int .i64)))] .z .z) .z)) (.n .z (.n (.n .z (.j [] (.j [(61,.v (.b (.int .i64)))] .z .z) .z)) .z))))))))),true⟩ Tryz.f183=Zgv:=by kernel_rfl
theorem Zvu:bodyM cfgMc ⟨[],.z,false⟩ Tryz.f201=ZgK:=by kernel_rfl
theorem ZpA:bodyM cfgMc ⟨[],(.n .z (.n .z (.n (.n .z (.j [(3,.v (.b (.slice 1)))] (.j [(3,.v (.b (.slice 1))),(8,.v (.b (.int .i64)))] .z .z) .z)) .z))),true⟩ Tryz.f203=ZdQ:=by kernel_rfl
theorem ZlH:bodyM cfgMc ⟨[],.z,false⟩ Tryz.f202=Zcz:=by kernel_rfl
theorem Zlg:bodyM cfgMc ⟨[],.z,false⟩ Tryz.f204=Zce:=by kernel_rfl
theorem Zlh:bodyM cfgMc ⟨[],.z,false⟩ Tryz.f214=Zcc:=by kernel_rfl
theorem ZmP:bodyM cfgMc ⟨[],.z,false⟩ Tryz.f215=ZcG:=by kernel_rfl
theorem Zuz:bodyM cfgMc ⟨[],(.n .z (.n .z (.n .z (.n (.n .z (.j [] (.j [(0,.v (.b (.int .u64))),(17,.v (.b (.int .i64)))] .z .z) .z)) .z)))),true⟩ Tryz.f216=Zgm:=by kernel_rfl
end
noncomputable def Zxy:Go.Shelf.Ren:=⟨fun|6=>102|14=>135|15=>136|20=>162|21=>163|22=>164|23=>165|24=>166|25=>167|26=>168|27=>169|28=>170|29=>171|46=>192|47=>193|48=>194|49=>195|50=>196|57=>211|n=>n,fun|0=>0|3=>3|4=>4|5=>5|9=>9|22=>56|24=>62|25=>175|39=>183|45=>247|46=>248|50=>252|53=>184|55=>118|66=>271|70=>275|76=>293|77=>260|n=>n,fun|n=>n⟩
theorem Zwf:SlLaysF0.n6 Tryz.prog Zxy where
 mixed:=by kernel_rfl
 f6:=⟨Tryz.f102.name,by kernel_rfl,Tryz.func102.trans (congrArg some (by kernel_rfl))⟩
 f14:=⟨Tryz.f135.name,by kernel_rfl,Tryz.func135.trans (congrArg some (by kernel_rfl))⟩
 f15:=Tryz.func136.trans (congrArg some (by kernel_rfl))
 f20:=⟨Tryz.f162.name,by kernel_rfl,Tryz.func162.trans (congrArg some (by kernel_rfl))⟩
 f21:=⟨Tryz.f163.name,by kernel_rfl,Tryz.func163.trans (congrArg some (by kernel_rfl))⟩
 f22:=⟨Tryz.f164.name,by kernel_rfl,Tryz.func164.trans (congrArg some (by kernel_rfl))⟩
 f23:=⟨Tryz.f165.name,by kernel_rfl,Tryz.func165.trans (congrArg some (by kernel_rfl))⟩
 f24:=⟨Tryz.f166.name,by kernel_rfl,Tryz.func166.trans (congrArg some (by kernel_rfl))⟩
 f25:=⟨Tryz.f167.name,by kernel_rfl,Tryz.func167.trans (congrArg some (by kernel_rfl))⟩
 f26:=⟨Tryz.f168.name,by kernel_rfl,Tryz.func168.trans (congrArg some (by kernel_rfl))⟩
 f27:=⟨Tryz.f169.name,by kernel_rfl,Tryz.func169.trans (congrArg some (by kernel_rfl))⟩
 f28:=Tryz.func170.trans (congrArg some (by kernel_rfl))
 f29:=Tryz.func171.trans (congrArg some (by kernel_rfl))
 f46:=⟨Tryz.f192.name,by kernel_rfl,Tryz.func192.trans (congrArg some (by kernel_rfl))⟩
 f47:=Tryz.func193.trans (congrArg some (by kernel_rfl))
 f48:=Tryz.func194.trans (congrArg some (by kernel_rfl))
 f49:=⟨Tryz.f195.name,by kernel_rfl,Tryz.func195.trans (congrArg some (by kernel_rfl))⟩
 f50:=⟨Tryz.f196.name,by kernel_rfl,Tryz.func196.trans (congrArg some (by kernel_rfl))⟩
 f57:=⟨Tryz.f211.name,by kernel_rfl,Tryz.func211.trans (congrArg some (by kernel_rfl))⟩
 t0:=Tryz.underlying0
 a0:=Tryz.isAgg0
 z0:=Tryz.sizeOf0
 v0:=Tryz.zeroValue0
 t3:=Tryz.underlying3
 a3:=Tryz.isAgg3
 z3:=Tryz.sizeOf3
 v3:=Tryz.zeroValue3
 t4:=Tryz.underlying4
 a4:=Tryz.isAgg4
 z4:=Tryz.sizeOf4
 v4:=Tryz.zeroValue4
 t5:=Tryz.underlying5
 a5:=Tryz.isAgg5
 z5:=Tryz.sizeOf5
 v5:=Tryz.zeroValue5
 t9:=Tryz.underlying9
 a9:=Tryz.isAgg9
 z9:=Tryz.sizeOf9
 v9:=Tryz.zeroValue9
 t22:=Tryz.underlying56
 a22:=Tryz.isAgg56
 z22:=Tryz.sizeOf56
 v22:=Tryz.zeroValue56
 t25:=Tryz.underlying175
 a25:=Tryz.isAgg175
 z25:=Tryz.sizeOf175
 v25:=Tryz.zeroValue175
 t39:=Tryz.underlying183
 a39:=Tryz.isAgg183
 z39:=Tryz.sizeOf183
 v39:=Tryz.zeroValue183
 t45:=Tryz.underlying247
 a45:=Tryz.isAgg247
 z45:=Tryz.sizeOf247
 v45:=Tryz.zeroValue247
 t46:=Tryz.underlying248
 a46:=Tryz.isAgg248
 z46:=Tryz.sizeOf248
 v46:=Tryz.zeroValue248
 t50:=Tryz.underlying252
 a50:=Tryz.isAgg252
 z50:=Tryz.sizeOf252
 v50:=Tryz.zeroValue252
 t53:=Tryz.underlying184
 a53:=Tryz.isAgg184
 z53:=Tryz.sizeOf184
 v53:=Tryz.zeroValue184
 t55:=Tryz.underlying118
 a55:=Tryz.isAgg118
 z55:=Tryz.sizeOf118
 v55:=Tryz.zeroValue118
 t66:=Tryz.underlying271
 a66:=Tryz.isAgg271
 z66:=Tryz.sizeOf271
 v66:=Tryz.zeroValue271
 t70:=Tryz.underlying275
 a70:=Tryz.isAgg275
 z70:=Tryz.sizeOf275
 v70:=Tryz.zeroValue275
 t76:=Tryz.underlying293
 a76:=Tryz.isAgg293
 z76:=Tryz.sizeOf293
 v76:=Tryz.zeroValue293
 t77:=Tryz.underlying260
 a77:=Tryz.isAgg260
 z77:=Tryz.sizeOf260
 v77:=Tryz.zeroValue260
theorem Zzi:CfgOk cfgMc:=⟨Zy5 (by kernel_rfl),(fun t h=>ZwE (ZtL (by kernel_rfl) t h)),(fun t h _ _ _ _ _ _ w hx hy he=>ZyL (ZtL (by kernel_rfl) t h) w hx hy he),ZzZ (e:=309) (by kernel_rfl) (by kernel_rfl)⟩
theorem Zh:FunOk cfgMc:=⟨Zzi,by kernel_rfl⟩
noncomputable def smMc:List (Nat×Body):=[(159,ZcQ),(161,ZbY),(162,ZdH),(163,Zcx)]
theorem ZzI: ∀n,Zy cfgMc (run (bdOf smMc) n):=
 ZzP (cov:=[145,177,199,209,112,218,146,134,100,113,220,133,161,191,64,29,15,70,72,68,71,93,206,28,217,103,138,137,172,16,17,21,20,23,25,31,30,41,42,39,47,46,45,44,43,48,62,63,59,61,60,66,73,74,85,86,89,88,87,91,90,92,94,96,95,50,51,97,98,99,52,53,102,101,54,105,106,107,109,108,110,111,124,125,126,127,128,129,130,131,132,139,140,141,142,143,144,156,157,158,159,160,174,173,175,176,185,186,187,188,189,190,197,198,205,207,208,210,212,213,219,10,33,36,81,122,121,153,154,182,183,201,203,202,204,214,215,216]) (sub:=[103,138,137,172]) rfl (by kernel_rfl) (by kernel_rfl) (List.forall_mem_cons.2 ⟨BodyOK.of_tie Zh Tryz.func103 (by kernel_rfl) ZjT,List.forall_mem_cons.2 ⟨BodyOK.of_tie Zh Tryz.func138 (by kernel_rfl) Zht,List.forall_mem_cons.2 ⟨BodyOK.of_tie Zh Tryz.func137 (by kernel_rfl) Zml,List.forall_mem_cons.2 ⟨BodyOK.of_tie Zh Tryz.func172 (by kernel_rfl) ZiY,(fun _ h=>by cases h)⟩⟩⟩⟩)
theorem ZnO:Zin (bdOf smMc):=⟨by kernel_rfl⟩
theorem Zlo:Zfi (bdOf smMc):=⟨by kernel_rfl⟩
theorem Zkc:ZcI (bdOf smMc):=⟨by kernel_rfl,Zlo⟩
theorem Zlv:Zbx (bdOf smMc):=⟨by kernel_rfl,ZnO,Zkc⟩
noncomputable def bdsMc:List (Nat×Body):=[(12,Zeu),(15,Zev),(19,Zdv),(26,ZfE),(27,ZeB),(28,Zi7),(29,Zhx),(34,ZfH),(39,Zd8),(40,Zdm),(54,Zit),(57,Zbe),(64,Zcu),(72,Zc3),(86,Zbc),(133,Zgs),(138,ZeA),(141,ZeI),(142,Zdr),(143,Zgr),(144,ZeM),(145,ZcM),(147,Z0),(155,ZeC),(156,Zbd),(159,ZcQ),(161,ZbY),(162,ZdH),(163,Zcx),(170,ZeF),(171,ZgN),(172,Zdo),(173,ZdU),(177,ZiX),(179,ZfQ),(183,Zc2),(184,Zeb),(189,ZcJ),(190,Zch),(191,ZgH),(192,ZfT),(193,ZgI),(194,ZcH),(195,Zem),(196,ZdW),(197,Zer),(200,Zgy),(201,Zdq),(202,Zdu),(203,ZgR),(204,ZgL),(206,ZdV),(209,Zd4),(210,Zcq),(213,ZgB),(214,Zfn),(215,ZgG),(216,ZgO),(217,Zcy),(218,Zgq),(219,Zfw),(220,Zfy),(221,Zdn),(222,Zbn),(223,ZeH),(225,Zgl),(226,Zcg),(227,ZeL),(228,Zck),(229,Zct),(230,ZcA),(231,Zb1),(232,Zih),(233,Zco),(234,Zcw),(236,Z7),(237,ZfC),(238,Zds),(239,ZfP),(240,Zhc),(241,ZcX),(242,ZgQ),(248,ZeG),(249,Zfj),(250,Zgk),(251,ZeK),(252,ZfJ),(253,ZiS),(254,ZbF),(255,Zfo),(256,Zfe),(259,ZeO),(260,Zek),(261,Zez),(262,ZgA),(263,Z8),(264,Zew),(272,ZhE),(273,ZdX),(274,ZeN),(275,ZcW),(276,Zd7),(285,ZdK),(286,ZhJ),(287,ZgE),(288,ZfR),(295,Zex),(296,Zfz),(297,Zc4),(298,Zdt),(299,Zcs),(300,ZcZ),(306,ZiQ),(307,Zet),(312,ZgD),(313,Zd6),(314,ZeJ),(315,Zci),(317,Zgu),(318,ZdP),(320,ZhC),(321,ZcY),(322,Zes),(323,Zc8),(324,Zey),(325,ZgJ),(326,ZgP),(327,Zgp),(328,ZeD),(329,ZfN),(330,Zgv),(331,ZgK),(332,ZdQ),(333,Zcz),(334,Zce),(335,Zcc),(336,ZcG),(337,Zgm)]
theorem bodiesMc: ∀n,Zy cfgMc (run (bdOf bdsMc) n):=
 Zzt (cov:=[145,177,199,209,112,218,146,134,100,113,220,133,161,191,64,29,15,70,72,68,71,93,206,28,217,103,138,137,172,16,17,21,20,23,25,31,30,41,42,39,47,46,45,44,43,48,62,63,59,61,60,66,73,74,85,86,89,88,87,91,90,92,94,96,95,50,51,97,98,99,52,53,102,101,54,105,106,107,109,108,110,111,124,125,126,127,128,129,130,131,132,139,140,141,142,143,144,156,157,158,159,160,174,173,175,176,185,186,187,188,189,190,197,198,205,207,208,210,212,213,219,10,33,36,81,122,121,153,154,182,183,201,203,202,204,214,215,216]) rfl (by kernel_rfl) (List.forall_mem_cons.2 ⟨BodyOK.of_tie Zh Tryz.func145 (by kernel_rfl) ZrK,List.forall_mem_cons.2 ⟨BodyOK.of_tie Zh Tryz.func177 (by kernel_rfl) Zsj,List.forall_mem_cons.2 ⟨BodyOK.of_tie Zh Tryz.func199 (by kernel_rfl) ZoV,List.forall_mem_cons.2 ⟨BodyOK.of_tie Zh Tryz.func209 (by kernel_rfl) ZtX,List.forall_mem_cons.2 ⟨BodyOK.of_tie Zh Tryz.func112 (by kernel_rfl) Zrz,List.forall_mem_cons.2 ⟨BodyOK.of_tie Zh Tryz.func218 (by kernel_rfl) Zx2,List.forall_mem_cons.2 ⟨BodyOK.of_tie Zh Tryz.func146 (by kernel_rfl) ZvW,List.forall_mem_cons.2 ⟨BodyOK.of_tie Zh Tryz.func134 (by kernel_rfl) ZsD,List.forall_mem_cons.2 ⟨BodyOK.of_tie Zh Tryz.func100 (by kernel_rfl) Zp1,List.forall_mem_cons.2 ⟨BodyOK.of_tie Zh Tryz.func113 (by kernel_rfl) ZoN,List.forall_mem_cons.2 ⟨BodyOK.of_tie Zh Tryz.func220 (by kernel_rfl) Zt8,List.forall_mem_cons.2 ⟨BodyOK.of_tie Zh Tryz.func133 (by kernel_rfl) Zhf,List.forall_mem_cons.2 ⟨BodyOK.of_tie Zh Tryz.func161 (by kernel_rfl) ZlW,List.forall_mem_cons.2 ⟨BodyOK.of_tie Zh Tryz.func191 (by kernel_rfl) ZnE,List.forall_mem_cons.2 ⟨BodyOK.of_tie Zh Tryz.func64 (by kernel_rfl) ZjJ,List.forall_mem_cons.2 ⟨BodyOK.of_tie Zh Tryz.func29 (by kernel_rfl) Zvn,List.forall_mem_cons.2 ⟨BodyOK.of_tie Zh Tryz.func15 (by kernel_rfl) ZrY,List.forall_mem_cons.2 ⟨BodyOK.of_tie Zh Tryz.func70 (by kernel_rfl) Zsb,List.forall_mem_cons.2 ⟨BodyOK.of_tie Zh Tryz.func72 (by kernel_rfl) Zo3,List.forall_mem_cons.2 ⟨BodyOK.of_tie Zh Tryz.func68 (by kernel_rfl) Zvj,List.forall_mem_cons.2 ⟨BodyOK.of_tie Zh Tryz.func71 (by kernel_rfl) ZsC,List.forall_mem_cons.2 ⟨BodyOK.of_tie Zh Tryz.func93 (by kernel_rfl) ZtE,List.forall_mem_cons.2 ⟨BodyOK.of_tie Zh Tryz.func206 (by kernel_rfl) ZfV,List.forall_mem_cons.2 ⟨BodyOK.of_tie Zh Tryz.func28 (by kernel_rfl) ZrX,List.forall_mem_cons.2 ⟨BodyOK.of_tie Zh Tryz.func217 (by kernel_rfl) Zhs,List.forall_mem_cons.2 ⟨BodyOK.of_tie Zh Tryz.func103 (by kernel_rfl) ZjT,List.forall_mem_cons.2 ⟨BodyOK.of_tie Zh Tryz.func138 (by kernel_rfl) Zht,List.forall_mem_cons.2 ⟨BodyOK.of_tie Zh Tryz.func137 (by kernel_rfl) Zml,List.forall_mem_cons.2 ⟨BodyOK.of_tie Zh Tryz.func172 (by kernel_rfl) ZiY,List.forall_mem_cons.2 ⟨BodyOK.of_tie Zh Tryz.func16 (by kernel_rfl) Zrr,List.forall_mem_cons.2 ⟨(fun _ n _ _ _ hc h=>Zyv (n:=n) Zh hc Tryz.func17 (by kernel_rfl) Tryz.func49 (by kernel_rfl) (by kernel_rfl) (by rw[Zu7];exact h)),List.forall_mem_cons.2 ⟨BodyOK.of_tie Zh Tryz.func21 (by kernel_rfl) Zox,List.forall_mem_cons.2 ⟨BodyOK.of_tie Zh Tryz.func20 (by kernel_rfl) ZpN,List.forall_mem_cons.2 ⟨BodyOK.of_tie Zh Tryz.func23 (by kernel_rfl) ZwV,List.forall_mem_cons.2 ⟨BodyOK.of_tie Zh Tryz.func25 (by kernel_rfl) Zs8,List.forall_mem_cons.2 ⟨BodyOK.of_tie Zh Tryz.func31 (by kernel_rfl) ZnI,List.forall_mem_cons.2 ⟨BodyOK.of_tie Zh Tryz.func30 (by kernel_rfl) Zqw,List.forall_mem_cons.2 ⟨BodyOK.of_tie Zh Tryz.func41 (by kernel_rfl) ZmJ,List.forall_mem_cons.2 ⟨BodyOK.of_tie Zh Tryz.func42 (by kernel_rfl) Zll,List.forall_mem_cons.2 ⟨BodyOK.of_tie Zh Tryz.func39 (by kernel_rfl) ZuX,List.forall_mem_cons.2 ⟨BodyOK.of_tie Zh Tryz.func47 (by kernel_rfl) ZtO,List.forall_mem_cons.2 ⟨BodyOK.of_tie Zh Tryz.func46 (by kernel_rfl) ZuQ,List.forall_mem_cons.2 ⟨BodyOK.of_tie Zh Tryz.func45 (by kernel_rfl) ZmK,List.forall_mem_cons.2 ⟨BodyOK.of_tie Zh Tryz.func44 (by kernel_rfl) Zr5,List.forall_mem_cons.2 ⟨BodyOK.of_tie Zh Tryz.func43 (by kernel_rfl) Zp2,List.forall_mem_cons.2 ⟨BodyOK.of_tie Zh Tryz.func48 (by kernel_rfl) Zr1,List.forall_mem_cons.2 ⟨BodyOK.of_tie Zh Tryz.func62 (by kernel_rfl) Zvg,List.forall_mem_cons.2 ⟨BodyOK.of_tie Zh Tryz.func63 (by kernel_rfl) ZoJ,List.forall_mem_cons.2 ⟨BodyOK.of_tie Zh Tryz.func59 (by kernel_rfl) Zn7,List.forall_mem_cons.2 ⟨BodyOK.of_tie Zh Tryz.func61 (by kernel_rfl) Zvc,List.forall_mem_cons.2 ⟨BodyOK.of_tie Zh Tryz.func60 (by kernel_rfl) Zvm,List.forall_mem_cons.2 ⟨BodyOK.of_tie Zh Tryz.func66 (by kernel_rfl) Zqe,List.forall_mem_cons.2 ⟨BodyOK.of_tie Zh Tryz.func73 (by kernel_rfl) ZqG,List.forall_mem_cons.2 ⟨BodyOK.of_tie Zh Tryz.func74 (by kernel_rfl) Zmq,List.forall_mem_cons.2 ⟨BodyOK.of_tie Zh Tryz.func85 (by kernel_rfl) ZuW,List.forall_mem_cons.2 ⟨BodyOK.of_tie Zh Tryz.func86 (by kernel_rfl) ZtV,List.forall_mem_cons.2 ⟨BodyOK.of_tie Zh Tryz.func89 (by kernel_rfl) Zux,List.forall_mem_cons.2 ⟨BodyOK.of_tie Zh Tryz.func88 (by kernel_rfl) Zu6,List.forall_mem_cons.2 ⟨BodyOK.of_tie Zh Tryz.func87 (by kernel_rfl) Zmp,List.forall_mem_cons.2 ⟨BodyOK.of_tie Zh Tryz.func91 (by kernel_rfl) ZuK,List.forall_mem_cons.2 ⟨BodyOK.of_tie Zh Tryz.func90 (by kernel_rfl) Ztl,List.forall_mem_cons.2 ⟨BodyOK.of_tie Zh Tryz.func92 (by kernel_rfl) Zs5,List.forall_mem_cons.2 ⟨BodyOK.of_tie Zh Tryz.func94 (by kernel_rfl) Zpl,List.forall_mem_cons.2 ⟨BodyOK.of_tie Zh Tryz.func96 (by kernel_rfl) ZhH,List.forall_mem_cons.2 ⟨BodyOK.of_tie Zh Tryz.func95 (by kernel_rfl) Zr9,List.forall_mem_cons.2 ⟨BodyOK.of_tie Zh Tryz.func50 (by kernel_rfl) Zvl,List.forall_mem_cons.2 ⟨BodyOK.of_tie Zh Tryz.func51 (by kernel_rfl) Zlj,List.forall_mem_cons.2 ⟨BodyOK.of_tie Zh Tryz.func97 (by kernel_rfl) Zr7,List.forall_mem_cons.2 ⟨BodyOK.of_tie Zh Tryz.func98 (by kernel_rfl) Zl8,List.forall_mem_cons.2 ⟨BodyOK.of_tie Zh Tryz.func99 (by kernel_rfl) Zmt,List.forall_mem_cons.2 ⟨BodyOK.of_tie Zh Tryz.func52 (by kernel_rfl) Zmg,List.forall_mem_cons.2 ⟨BodyOK.of_tie Zh Tryz.func53 (by kernel_rfl) Zk0,List.forall_mem_cons.2 ⟨ZuC Zwf Tryz.isAgg62 Tryz.sizeOf62 rfl Tryz.func102 (by kernel_rfl) (by kernel_rfl) (ZzI 100) (fc:=103) (by kernel_rfl) (by kernel_rfl) (fun k hk he=>Nat.eq_of_beq_eq_true (by have:=has_all (P:=fun k=> !Nat.beq (cfgMc.fn k) 159||Nat.beq k 103) (l:=[145,177,199,209,112,218,146,134,100,113,220,133,161,191,64,29,15,70,72,68,71,93,206,28,217,103,138,137,172,16,17,21,20,23,25,31,30,41,42,39,47,46,45,44,43,48,62,63,59,61,60,66,73,74,85,86,89,88,87,91,90,92,94,96,95,50,51,97,98,99,52,53,102,101,54,105,106,107,109,108,110,111,124,125,126,127,128,129,130,131,132,139,140,141,142,143,144,156,157,158,159,160,174,173,175,176,185,186,187,188,189,190,197,198,205,207,208,210,212,213,219,10,33,36,81,122,121,153,154,182,183,201,203,202,204,214,215,216]) (by kernel_rfl) k hk;rw[he]at this;simpa using this)) Tryz.func103 (by kernel_rfl) (by kernel_rfl) (N:=100) (fun g hg=>by have:=has_all (P:=fun g=>Nat.blt (cfgMc.gl g) 100) (l:=[0]) (by kernel_rfl) g hg;rwa [Nat.blt_eq]at this) (fun x y=>Zy0 Zlv _ x y),List.forall_mem_cons.2 ⟨BodyOK.of_tie Zh Tryz.func101 (by kernel_rfl) ZlD,List.forall_mem_cons.2 ⟨BodyOK.of_tie Zh Tryz.func54 (by kernel_rfl) Zl9,List.forall_mem_cons.2 ⟨BodyOK.of_tie Zh Tryz.func105 (by kernel_rfl) Zf7,List.forall_mem_cons.2 ⟨BodyOK.of_tie Zh Tryz.func106 (by kernel_rfl) Ztz,List.forall_mem_cons.2 ⟨BodyOK.of_tie Zh Tryz.func107 (by kernel_rfl) Zn0,List.forall_mem_cons.2 ⟨BodyOK.of_tie Zh Tryz.func109 (by kernel_rfl) ZtZ,List.forall_mem_cons.2 ⟨BodyOK.of_tie Zh Tryz.func108 (by kernel_rfl) ZsB,List.forall_mem_cons.2 ⟨BodyOK.of_tie Zh Tryz.func110 (by kernel_rfl) Znv,List.forall_mem_cons.2 ⟨BodyOK.of_tie Zh Tryz.func111 (by kernel_rfl) ZuS,List.forall_mem_cons.2 ⟨BodyOK.of_tie Zh Tryz.func124 (by kernel_rfl) ZrS,List.forall_mem_cons.2 ⟨BodyOK.of_tie Zh Tryz.func125 (by kernel_rfl) ZsH,List.forall_mem_cons.2 ⟨BodyOK.of_tie Zh Tryz.func126 (by kernel_rfl) ZuF,List.forall_mem_cons.2 ⟨BodyOK.of_tie Zh Tryz.func127 (by kernel_rfl) ZrR,List.forall_mem_cons.2 ⟨BodyOK.of_tie Zh Tryz.func128 (by kernel_rfl) ZsN,List.forall_mem_cons.2 ⟨BodyOK.of_tie Zh Tryz.func129 (by kernel_rfl) ZxD,List.forall_mem_cons.2 ⟨BodyOK.of_tie Zh Tryz.func130 (by kernel_rfl) Zjz,List.forall_mem_cons.2 ⟨BodyOK.of_tie Zh Tryz.func131 (by kernel_rfl) Zuq,List.forall_mem_cons.2 ⟨BodyOK.of_tie Zh Tryz.func132 (by kernel_rfl) Zuf,List.forall_mem_cons.2 ⟨BodyOK.of_tie Zh Tryz.func139 (by kernel_rfl) ZrB,List.forall_mem_cons.2 ⟨BodyOK.of_tie Zh Tryz.func140 (by kernel_rfl) Zsm,List.forall_mem_cons.2 ⟨BodyOK.of_tie Zh Tryz.func141 (by kernel_rfl) ZrE,List.forall_mem_cons.2 ⟨BodyOK.of_tie Zh Tryz.func142 (by kernel_rfl) Zvt,List.forall_mem_cons.2 ⟨BodyOK.of_tie Zh Tryz.func143 (by kernel_rfl) ZfX,List.forall_mem_cons.2 ⟨BodyOK.of_tie Zh Tryz.func144 (by kernel_rfl) ZrW,List.forall_mem_cons.2 ⟨BodyOK.of_tie Zh Tryz.func156 (by kernel_rfl) Zwh,List.forall_mem_cons.2 ⟨BodyOK.of_tie Zh Tryz.func157 (by kernel_rfl) Zpz,List.forall_mem_cons.2 ⟨BodyOK.of_tie Zh Tryz.func158 (by kernel_rfl) Zsu,List.forall_mem_cons.2 ⟨BodyOK.of_tie Zh Tryz.func159 (by kernel_rfl) Znk,List.forall_mem_cons.2 ⟨BodyOK.of_tie Zh Tryz.func160 (by kernel_rfl) ZpS,List.forall_mem_cons.2 ⟨BodyOK.of_tie Zh Tryz.func174 (by kernel_rfl) Zs7,List.forall_mem_cons.2 ⟨BodyOK.of_tie Zh Tryz.func173 (by kernel_rfl) Zwt,List.forall_mem_cons.2 ⟨BodyOK.of_tie Zh Tryz.func175 (by kernel_rfl) Zvi,List.forall_mem_cons.2 ⟨BodyOK.of_tie Zh Tryz.func176 (by kernel_rfl) Zuh,List.forall_mem_cons.2 ⟨BodyOK.of_tie Zh Tryz.func185 (by kernel_rfl) Zr3,List.forall_mem_cons.2 ⟨BodyOK.of_tie Zh Tryz.func186 (by kernel_rfl) Zti,List.forall_mem_cons.2 ⟨BodyOK.of_tie Zh Tryz.func187 (by kernel_rfl) ZnK,List.forall_mem_cons.2 ⟨BodyOK.of_tie Zh Tryz.func188 (by kernel_rfl) Zoc,List.forall_mem_cons.2 ⟨BodyOK.of_tie Zh Tryz.func189 (by kernel_rfl) Zlr,List.forall_mem_cons.2 ⟨BodyOK.of_tie Zh Tryz.func190 (by kernel_rfl) ZnX,List.forall_mem_cons.2 ⟨BodyOK.of_tie Zh Tryz.func197 (by kernel_rfl) Zxl,List.forall_mem_cons.2 ⟨BodyOK.of_tie Zh Tryz.func198 (by kernel_rfl) Zsp,List.forall_mem_cons.2 ⟨BodyOK.of_tie Zh Tryz.func205 (by kernel_rfl) ZuZ,List.forall_mem_cons.2 ⟨BodyOK.of_tie Zh Tryz.func207 (by kernel_rfl) Zqx,List.forall_mem_cons.2 ⟨BodyOK.of_tie Zh Tryz.func208 (by kernel_rfl) ZrF,List.forall_mem_cons.2 ⟨BodyOK.of_tie Zh Tryz.func210 (by kernel_rfl) Zln,List.forall_mem_cons.2 ⟨BodyOK.of_tie Zh Tryz.func212 (by kernel_rfl) ZuM,List.forall_mem_cons.2 ⟨BodyOK.of_tie Zh Tryz.func213 (by kernel_rfl) ZqH,List.forall_mem_cons.2 ⟨BodyOK.of_tie Zh Tryz.func219 (by kernel_rfl) Zwx,List.forall_mem_cons.2 ⟨BodyOK.of_tie Zh Tryz.func10 (by kernel_rfl) ZnT,List.forall_mem_cons.2 ⟨BodyOK.of_tie Zh Tryz.func33 (by kernel_rfl) ZrZ,List.forall_mem_cons.2 ⟨BodyOK.of_tie Zh Tryz.func36 (by kernel_rfl) ZrH,List.forall_mem_cons.2 ⟨BodyOK.of_tie Zh Tryz.func81 (by kernel_rfl) ZrD,List.forall_mem_cons.2 ⟨BodyOK.of_tie Zh Tryz.func122 (by kernel_rfl) ZuJ,List.forall_mem_cons.2 ⟨BodyOK.of_tie Zh Tryz.func121 (by kernel_rfl) Zu0,List.forall_mem_cons.2 ⟨BodyOK.of_tie Zh Tryz.func153 (by kernel_rfl) Zu9,List.forall_mem_cons.2 ⟨BodyOK.of_tie Zh Tryz.func154 (by kernel_rfl) Zsz,List.forall_mem_cons.2 ⟨BodyOK.of_tie Zh Tryz.func182 (by kernel_rfl) Ztx,List.forall_mem_cons.2 ⟨BodyOK.of_tie Zh Tryz.func183 (by kernel_rfl) Zvv,List.forall_mem_cons.2 ⟨BodyOK.of_tie Zh Tryz.func201 (by kernel_rfl) Zvu,List.forall_mem_cons.2 ⟨BodyOK.of_tie Zh Tryz.func203 (by kernel_rfl) ZpA,List.forall_mem_cons.2 ⟨BodyOK.of_tie Zh Tryz.func202 (by kernel_rfl) ZlH,List.forall_mem_cons.2 ⟨BodyOK.of_tie Zh Tryz.func204 (by kernel_rfl) Zlg,List.forall_mem_cons.2 ⟨BodyOK.of_tie Zh Tryz.func214 (by kernel_rfl) Zlh,List.forall_mem_cons.2 ⟨BodyOK.of_tie Zh Tryz.func215 (by kernel_rfl) ZmP,List.forall_mem_cons.2 ⟨BodyOK.of_tie Zh Tryz.func216 (by kernel_rfl) Zuz,(fun _ h=>by cases h)⟩⟩⟩⟩⟩⟩⟩⟩⟩⟩⟩⟩⟩⟩⟩⟩⟩⟩⟩⟩⟩⟩⟩⟩⟩⟩⟩⟩⟩⟩⟩⟩⟩⟩⟩⟩⟩⟩⟩⟩⟩⟩⟩⟩⟩⟩⟩⟩⟩⟩⟩⟩⟩⟩⟩⟩⟩⟩⟩⟩⟩⟩⟩⟩⟩⟩⟩⟩⟩⟩⟩⟩⟩⟩⟩⟩⟩⟩⟩⟩⟩⟩⟩⟩⟩⟩⟩⟩⟩⟩⟩⟩⟩⟩⟩⟩⟩⟩⟩⟩⟩⟩⟩⟩⟩⟩⟩⟩⟩⟩⟩⟩⟩⟩⟩⟩⟩⟩⟩⟩⟩⟩⟩⟩⟩⟩⟩⟩⟩⟩⟩⟩⟩⟩⟩⟩⟩⟩)
theorem ZmR:Zfx (bdOf bdsMc):=⟨by kernel_rfl⟩
theorem Zpo:Zhl (bdOf bdsMc):=⟨by kernel_rfl,ZmR⟩
theorem ZiV:Zeo (bdOf bdsMc):=⟨by kernel_rfl,Zpo⟩
theorem Zqz:Zh5 (bdOf bdsMc):=⟨by kernel_rfl⟩
theorem Zvh:Zlz (bdOf bdsMc):=⟨by kernel_rfl,Zqz⟩
theorem ZqA:Zh6 (bdOf bdsMc):=⟨by kernel_rfl,Zvh⟩
theorem ZtS:ZkB (bdOf bdsMc):=⟨by kernel_rfl⟩
theorem ZoR:Zhj (bdOf bdsMc):=⟨by kernel_rfl,ZtS,ZiV⟩
theorem Zpu:Zij (bdOf bdsMc):=⟨by kernel_rfl⟩
theorem ZlX:ZeT (bdOf bdsMc):=⟨by kernel_rfl⟩
theorem Zku:Zdz (bdOf bdsMc):=⟨by kernel_rfl,ZlX⟩
theorem Zgj:ZbS (bdOf bdsMc):=⟨by kernel_rfl,Zku⟩
theorem ZnQ:Zgh (bdOf bdsMc):=⟨by kernel_rfl,Zpu,Zgj⟩
theorem ZmT:Zfr (bdOf bdsMc):=⟨by kernel_rfl,ZiV⟩
theorem Zie:ZcE (bdOf bdsMc):=⟨by kernel_rfl⟩
theorem ZrV:ZjF (bdOf bdsMc):=⟨by kernel_rfl⟩
theorem ZiL:Zep (bdOf bdsMc):=⟨by kernel_rfl⟩
theorem ZoO:Zg9 (bdOf bdsMc):=⟨by kernel_rfl⟩
theorem Zpc:Zhp (bdOf bdsMc):=⟨by kernel_rfl,ZoR,ZmT,ZoO⟩
theorem ZmF:ZfA (bdOf bdsMc):=⟨by kernel_rfl⟩
theorem Zsv:Zjc (bdOf bdsMc):=⟨by kernel_rfl,ZiL,Zpc,ZmF,ZrV⟩
theorem Zob:Zha (bdOf bdsMc):=⟨by kernel_rfl⟩
theorem ZjY:ZfO (bdOf bdsMc):=⟨by kernel_rfl⟩
theorem Zge:Zde (bdOf bdsMc):=⟨by kernel_rfl⟩
theorem Ze9:Zbu (bdOf bdsMc):=⟨by kernel_rfl,Zge⟩
theorem Zqs:Zin (bdOf bdsMc):=⟨by kernel_rfl⟩
theorem ZmL:Zfi (bdOf bdsMc):=⟨by kernel_rfl⟩
theorem Zlm:ZcI (bdOf bdsMc):=⟨by kernel_rfl,ZmL⟩
theorem Zik:Zbx (bdOf bdsMc):=⟨by kernel_rfl,Zqs,Zlm⟩
theorem ZjV:ZfG (bdOf bdsMc):=⟨by kernel_rfl⟩
theorem Zpe:Zhi (bdOf bdsMc):=⟨by kernel_rfl⟩
theorem ZbU:ZbE (bdOf bdsMc):=⟨by kernel_rfl,Zpe⟩
theorem ZpU:ZiA (bdOf bdsMc):=⟨by kernel_rfl⟩
theorem Zoe:Zhd (bdOf bdsMc):=⟨by kernel_rfl,ZpU⟩
theorem Zsw:Zjm (bdOf bdsMc):=⟨by kernel_rfl,Zoe⟩
theorem ZpQ:ZiF (bdOf bdsMc):=⟨by kernel_rfl⟩
theorem Zbz:Zbq (bdOf bdsMc):=⟨by kernel_rfl,ZbU,Zsw,ZpQ⟩
theorem ZrA:ZjA (bdOf bdsMc):=⟨by kernel_rfl,ZbU,Zbz⟩
theorem Zcd:Zbt (bdOf bdsMc):=⟨by kernel_rfl⟩
theorem Zsq:Zjv (bdOf bdsMc):=⟨by kernel_rfl,ZbU,Zbz⟩
theorem ZkI:Zcl (bdOf bdsMc):=⟨by kernel_rfl,Zcd,Zsq⟩
theorem ZrO:Zjo (bdOf bdsMc):=⟨by kernel_rfl,ZbU,Zbz⟩
theorem ZfI:Zdc (bdOf bdsMc):=⟨by kernel_rfl⟩
theorem Zsx:Zjs (bdOf bdsMc):=⟨by kernel_rfl,ZbU,Zbz,ZfI⟩
theorem Zlk:Zec (bdOf bdsMc):=⟨by kernel_rfl,Zcd,ZkI,ZrO,Zsx⟩
theorem ZqE:ZhV (bdOf bdsMc):=⟨by kernel_rfl,ZfI⟩
theorem Zpv:Zh2 (bdOf bdsMc):=⟨by kernel_rfl,ZbU,Zbz,ZqE⟩
theorem Zrs:Zjt (bdOf bdsMc):=⟨by kernel_rfl,ZbU,Zbz,ZfI⟩
theorem ZjM:Zdk (bdOf bdsMc):=⟨by kernel_rfl,Zcd,Zpv,Zrs⟩
theorem ZpL:Zig (bdOf bdsMc):=⟨by kernel_rfl⟩
theorem Zis:ZdO (bdOf bdsMc):=⟨by kernel_rfl,ZpL⟩
theorem Zog:Zhh (bdOf bdsMc):=⟨by kernel_rfl,Zis,ZiL⟩
theorem ZrM:Zjk (bdOf bdsMc):=⟨by kernel_rfl,Zbz⟩
theorem Zp9:Ziz (bdOf bdsMc):=⟨by kernel_rfl⟩
theorem Zi0:Zel (bdOf bdsMc):=⟨by kernel_rfl,ZjV,Zsv,ZrA,Zlk,ZjM,Zis,Zog,Zcd,ZrM,Zp9⟩
theorem Zii:ZdT (bdOf bdsMc):=⟨by kernel_rfl⟩
theorem Zb9:Zbw (bdOf bdsMc):=⟨by kernel_rfl,Zii⟩
theorem Zjb:Zg3 (bdOf bdsMc):=⟨by kernel_rfl,Zb9⟩
theorem ZmM:ZfM (bdOf bdsMc):=⟨by kernel_rfl⟩
theorem Zna:ZiH (bdOf bdsMc):=⟨by kernel_rfl⟩
theorem Zoq:Zg7 (bdOf bdsMc):=⟨by kernel_rfl,ZjY,Zna⟩
theorem ZiD:ZcF (bdOf bdsMc):=⟨by kernel_rfl⟩
theorem ZcR:Zbm (bdOf bdsMc):=⟨by kernel_rfl,ZiD⟩
theorem Zi4:Zen (bdOf bdsMc):=⟨by kernel_rfl,ZjY,ZmM,Zoq,ZcR⟩
theorem ZbR:ZU (bdOf bdsMc):=⟨by kernel_rfl⟩
theorem ZqD:ZhX (bdOf bdsMc):=⟨by kernel_rfl⟩
theorem Zo9:Zhq (bdOf bdsMc):=⟨by kernel_rfl,Zna,ZqD⟩
theorem ZhW:ZdR (bdOf bdsMc):=⟨by kernel_rfl,Zii⟩
theorem Zld:ZgF (bdOf bdsMc):=⟨by kernel_rfl⟩
theorem ZiJ:Zeq (bdOf bdsMc):=⟨by kernel_rfl⟩
theorem Zba:ZY (bdOf bdsMc):=⟨by kernel_rfl,ZiJ⟩
theorem ZtN:Zkx (bdOf bdsMc):=⟨by kernel_rfl⟩
theorem Zrt:ZjE (bdOf bdsMc):=⟨by kernel_rfl,ZtN⟩
theorem ZnJ:Zgf (bdOf bdsMc):=⟨by kernel_rfl⟩
theorem ZuB:Zmn (bdOf bdsMc):=⟨by kernel_rfl,Zrt,ZnJ⟩
theorem ZsQ:ZkO (bdOf bdsMc):=⟨by kernel_rfl,ZuB⟩
theorem Zbj:Z5 (bdOf bdsMc):=⟨by kernel_rfl⟩
theorem Zn5:Zg5 (bdOf bdsMc):=⟨by kernel_rfl,Zba,ZsQ,Zbj⟩
theorem Zot:Zhr (bdOf bdsMc):=⟨by kernel_rfl⟩
theorem ZbD:Zbs (bdOf bdsMc):=⟨by kernel_rfl,Zn5,Zot⟩
theorem Zsa:Zji (bdOf bdsMc):=⟨by kernel_rfl,ZiJ,Zbj⟩
theorem ZoW:Zg4 (bdOf bdsMc):=⟨by kernel_rfl,Zsa⟩
theorem Znu:Zf6 (bdOf bdsMc):=⟨by kernel_rfl⟩
theorem ZpH:ZiG (bdOf bdsMc):=⟨by kernel_rfl,Ze9,Znu⟩
theorem Ztd:Zkl (bdOf bdsMc):=⟨by kernel_rfl,ZbD,Zba,ZoW,ZpH⟩
theorem ZiI:ZeE (bdOf bdsMc):=⟨by kernel_rfl⟩
theorem Zmm:ZeW (bdOf bdsMc):=⟨by kernel_rfl,ZiI⟩
theorem ZnS:Zgc (bdOf bdsMc):=⟨by kernel_rfl,ZbD,Zbj,Zmm⟩
theorem ZmO:Zfc (bdOf bdsMc):=⟨by kernel_rfl,ZiI⟩
theorem Zo1:Zhm (bdOf bdsMc):=⟨by kernel_rfl,ZbD,Zba,Zbj,ZmO⟩
theorem Ze4:Zcf (bdOf bdsMc):=⟨by kernel_rfl⟩
theorem Zkp:ZdG (bdOf bdsMc):=⟨by kernel_rfl,ZqA,Ze4⟩
theorem Zms:ZeU (bdOf bdsMc):=⟨by kernel_rfl,ZbD,Zba,Zbj,Zkp⟩
theorem ZlO:ZeQ (bdOf bdsMc):=⟨by kernel_rfl,ZcR,Ze4⟩
theorem ZnR:Zf5 (bdOf bdsMc):=⟨by kernel_rfl,ZbD,Zba,Zbj,ZlO⟩
theorem Zqv:Ziq (bdOf bdsMc):=⟨by kernel_rfl,Ztd,ZnS,Zo1,Zms,ZnR⟩
theorem Zb0:Z4 (bdOf bdsMc):=⟨by kernel_rfl,ZhW,ZbR,Zld,Zb9,Zqv⟩
theorem ZkY:Zcn (bdOf bdsMc):=⟨by kernel_rfl,ZbR,Zb0⟩
theorem Zkf:Zdl (bdOf bdsMc):=⟨by kernel_rfl,ZbR,Zo9,Zb0,ZkY⟩
theorem Zkz:ZdD (bdOf bdsMc):=⟨by kernel_rfl,ZbR⟩
theorem Zkw:Zcv (bdOf bdsMc):=⟨by kernel_rfl,ZbR,Zb0,Zik⟩
theorem Zda:ZZ (bdOf bdsMc):=⟨by kernel_rfl⟩
theorem Zjd:Zc0 (bdOf bdsMc):=⟨by kernel_rfl,ZbR,Zb0,ZnQ,Zkw,Zda,Zik⟩
theorem Zkn:ZdJ (bdOf bdsMc):=⟨by kernel_rfl⟩
theorem Zk5:Zef (bdOf bdsMc):=⟨by kernel_rfl,Zjb,Zi4,ZbR,Zkf,Zkz,Zjd,Zkn⟩
theorem ZmS:Zfq (bdOf bdsMc):=⟨by kernel_rfl,Zie⟩
theorem ZfS:ZbB (bdOf bdsMc):=⟨by kernel_rfl⟩
theorem ZmU:ZfF (bdOf bdsMc):=⟨by kernel_rfl,ZfS⟩
theorem Zsd:ZjD (bdOf bdsMc):=⟨by kernel_rfl,ZbD,Zba⟩
theorem ZoP:Zhn (bdOf bdsMc):=⟨by kernel_rfl⟩
theorem ZoK:Zhg (bdOf bdsMc):=⟨by kernel_rfl⟩
theorem Zrw:ZjB (bdOf bdsMc):=⟨by kernel_rfl,ZoK⟩
theorem ZrU:Zjh (bdOf bdsMc):=⟨by kernel_rfl,Zrw⟩
theorem Zps:Zir (bdOf bdsMc):=⟨by kernel_rfl,ZrU⟩
theorem Zrx:Zjq (bdOf bdsMc):=⟨by kernel_rfl,Zjb,Zb9,ZoP,Zps⟩
theorem Zfd:Zby (bdOf bdsMc):=⟨by kernel_rfl⟩
theorem Zl6:ZeS (bdOf bdsMc):=⟨by kernel_rfl,Zfd⟩
theorem ZmQ:ZfU (bdOf bdsMc):=⟨by kernel_rfl,ZmS,Zb9,Zl6⟩
theorem ZnG:Zgb (bdOf bdsMc):=⟨by kernel_rfl,Zk5,Zjb,ZhW,ZmU,Zsd,Zld,Zrx,ZmQ⟩
theorem ZkS:ZdA (bdOf bdsMc):=⟨by kernel_rfl⟩
theorem ZlR:ZeP (bdOf bdsMc):=⟨by kernel_rfl,ZkS⟩
theorem ZjW:Zdi (bdOf bdsMc):=⟨by kernel_rfl⟩
theorem Zsf:ZjI (bdOf bdsMc):=⟨by kernel_rfl,ZjW⟩
theorem Zli:Zed (bdOf bdsMc):=⟨by kernel_rfl⟩
theorem ZkP:ZdI (bdOf bdsMc):=⟨by kernel_rfl,Zli⟩
theorem Zsi:Zjx (bdOf bdsMc):=⟨by kernel_rfl⟩
theorem Zny:Zgg (bdOf bdsMc):=⟨by kernel_rfl,Zsi⟩
theorem ZpB:Zh0 (bdOf bdsMc):=⟨by kernel_rfl,Zsf,ZkP,Zny⟩
theorem ZjP:Zdj (bdOf bdsMc):=⟨by kernel_rfl,Zbj⟩
theorem Zsg:Zjl (bdOf bdsMc):=⟨by kernel_rfl,Zi4,ZbD,Zba,ZjP⟩
theorem ZrP:Zjr (bdOf bdsMc):=⟨by kernel_rfl,ZpB,Zsg⟩
theorem Zr6:Zjg (bdOf bdsMc):=⟨by kernel_rfl,ZrP⟩
theorem ZoF:Zg6 (bdOf bdsMc):=⟨by kernel_rfl,Zbj⟩
theorem ZrT:Zju (bdOf bdsMc):=⟨by kernel_rfl,ZoF⟩
theorem ZoQ:Zg8 (bdOf bdsMc):=⟨by kernel_rfl,Zk5,ZnG,Zb9,Zr6,ZrT⟩
theorem Zi5:Zc6 (bdOf bdsMc):=⟨by kernel_rfl,ZlR,ZoQ⟩
theorem Zpp:Zhb (bdOf bdsMc):=⟨by kernel_rfl,Zi0,Zi5⟩
theorem has_law27_CheckCut:Ziw (bdOf bdsMc):=⟨by kernel_rfl,Zob,Zi0,ZjV,Zpp,Zi5⟩
end Go.Gv
