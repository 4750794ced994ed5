/- The ties of a seat: written by gvseat.py. -/
import Derived.Test.YtegglibipjjblaaGreatDoorGvZRun
import Derived.Test.YtegglibipjjblaaGreatDoorGvSortOk
import Derived.Test.YtegglibipjjblaaGreatDoorGvZLaw
import Derived.Test.YtegglibipjjblaaGreatDoorGvZBod
import Derived.Test.YtegglibipjjblaaGreatDoorGvBMk
import Derived.Test.YtegglibipjjblaaGreatDoorProg
namespace Go.Gv
open Go.Proofs
set_option maxRecDepth 100000
noncomputable section
noncomputable def cfgMh:aP:=⟨Tryz.prog,xD [(145,12),(177,15),(199,19),(209,26),(112,27),(218,28),(146,29),(134,34),(100,39),(113,40),(220,54),(133,57),(161,64),(191,72),(64,86),(24,113),(58,114),(29,133),(15,138),(70,141),(72,142),(68,143),(71,144),(93,145),(206,147),(28,155),(217,156),(103,159),(138,161),(137,162),(172,163),(14,169),(16,170),(17,171),(21,172),(20,173),(19,174),(4,175),(22,176),(23,177),(27,178),(25,179),(26,180),(31,183),(30,184),(40,188),(41,189),(42,190),(39,191),(47,192),(46,193),(45,194),(44,195),(43,196),(48,197),(56,198),(57,199),(62,200),(63,201),(59,202),(61,203),(60,204),(65,205),(66,206),(67,207),(69,208),(73,209),(74,210),(85,213),(86,214),(89,215),(88,216),(87,217),(91,218),(90,219),(92,220),(94,221),(96,222),(95,223),(50,225),(51,226),(97,227),(98,228),(99,229),(52,230),(53,231),(102,232),(101,233),(54,234),(104,235),(105,236),(106,237),(107,238),(109,239),(108,240),(110,241),(111,242),(124,248),(125,249),(126,250),(127,251),(128,252),(129,253),(130,254),(131,255),(132,256),(139,259),(140,260),(141,261),(142,262),(143,263),(144,264),(156,272),(157,273),(158,274),(159,275),(160,276),(174,285),(173,286),(175,287),(176,288),(185,295),(186,296),(187,297),(188,298),(189,299),(190,300),(197,306),(198,307),(205,312),(207,313),(208,314),(210,315),(212,317),(213,318),(219,320)],has [145,177,199,209,112,218,146,134,100,113,220,133,161,191,64,24,58,29,15,70,72,68,71,93,206,28,217,103,138,137,172,14,16,17,21,20,19,4,22,23,27,25,26,31,30,40,41,42,39,47,46,45,44,43,48,56,57,62,63,59,61,60,65,66,67,69,73,74,85,86,89,88,87,91,90,92,94,96,95,50,51,97,98,99,52,53,102,101,54,104,105,106,107,109,108,110,111,124,125,126,127,128,129,130,131,132,139,140,141,142,143,144,156,157,158,159,160,174,173,175,176,185,186,187,188,189,190,197,198,205,207,208,210,212,213,219],LP [(9,0),(143,4),(159,5),(163,2),(166,1),(171,3),(202,6)],xD [(0,2)],has [0],EF [(23,[.int .i64,.int .i64,.int .i64]),(62,[.int .i64,.int .i64,.int .i64,.int .i64]),(137,[.bool,.int .i64,.int .i64])],has [101]⟩
theorem Zto:aQ cfgMh ⟨[],(.n .z (.n .z (.n (.j [(3,.v (.b (.slice 1)))] (.j [(0,.v (.b (.str))),(3,.v (.b (.slice 1)))] .z .z) .z) .z))),true⟩ Tryz.f145=GK:=by kernel_rfl
theorem Ztp:aQ cfgMh ⟨[],(.n .z (.n .z (.n .z (.n (.n (.n .z (.n .z (.n .z (.n .z (.n .z (.j [] (.n (.n .z (.j [(5,.v (.b (.int .u8)))] .z .z)) (.n (.n .z (.j [(6,.v (.b (.int .u8)))] .z .z)) .z)) (.n .z (.j [] (.n (.n .z (.j [(5,.v (.b (.int .u8)))] .z .z)) (.n (.n .z (.j [(6,.v (.b (.int .u8)))] .z .z)) .z)) .z)))))))) .z) .z)))),false⟩ Tryz.f177=G3:=by kernel_rfl
theorem ZpI:aQ cfgMh ⟨[],.z,false⟩ Tryz.f199=Gn:=by kernel_rfl
theorem ZuQ:aQ cfgMh ⟨[],(.n .z (.n .z (.n (.n .z (.j [(3,.v (.b (.int .i64)))] (.j [(3,.v (.b (.int .i64))),(7,.t)] .z .z) .z)) .z))),false⟩ Tryz.f209=Hy:=by kernel_rfl
theorem Ztn:aQ cfgMh ⟨[],(.n .z (.n .z (.n .z (.n (.n .z (.j [(4,.v (.b (.bool)))] (.j [(4,.v (.b (.bool))),(5,.v (.b (.int .i64)))] .z .z) .z)) .z)))),false⟩ Tryz.f112=G6:=by kernel_rfl
theorem ZyI:aQ cfgMh ⟨[4],(.n .z (.n (.n .z (.j [] (.j [(6,.v (.b (.int .i64)))] .z .z) .z)) .z)),false⟩ Tryz.f218=IS:=by kernel_rfl
theorem ZxJ:aQ cfgMh ⟨[],.z,false⟩ Tryz.f146=IP:=by kernel_rfl
theorem Zuj:aQ cfgMh ⟨[],(.n .z (.n .z (.n (.n .z (.j [(3,.v (.b (.slice 1)))] (.j [(3,.v (.b (.slice 1))),(7,.t)] .z .z) .z)) .z))),true⟩ Tryz.f134=Hq:=by kernel_rfl
theorem ZrC:aQ cfgMh ⟨[],.z,false⟩ Tryz.f100=Hj:=by kernel_rfl
theorem Zpr:aQ cfgMh ⟨[],(.n .z (.n .z (.n (.n .z (.j [] (.j [(7,.v (.b (.int .i64)))] .z .z) .z)) .z))),false⟩ Tryz.f113=Gw:=by kernel_rfl
theorem Zvq:aQ cfgMh ⟨[0],.z,false⟩ Tryz.f220=Np:=by kernel_rfl
theorem Zh3:aQ cfgMh ⟨[],(.n .z (.n (.n .z (.j [] (.j [(11,.v (.b (.int .i64)))] .z .z) .z)) .z)),false⟩ Tryz.f133=FQ:=by kernel_rfl
theorem Zma:aQ cfgMh ⟨[],.z,false⟩ Tryz.f161=F3:=by kernel_rfl
theorem Zow:aQ cfgMh ⟨[],.z,false⟩ Tryz.f191=Gz:=by kernel_rfl
theorem Zkd:aQ cfgMh ⟨[],.z,false⟩ Tryz.f64=Ci:=ZBw (fun c=>by kernel_rfl) (by kernel_rfl)
theorem ZtG:aQ cfgMh ⟨[],(.n .z (.n .z (.n (.n .z (.j [] (.j [(5,.v (.b (.int .i64)))] .z .z) .z)) .z))),false⟩ Tryz.f24=Ao:=by kernel_rfl
theorem Zkn:aQ cfgMh ⟨[],(.n .z (.n .z (.n (.n .z (.j [] (.j [(13,.v (.b (.int .i64)))] .z .z) .z)) .z))),false⟩ Tryz.f58=FN:=by kernel_rfl
theorem Zwy:aQ cfgMh ⟨[1,7],(.n .z (.n .z (.n .z (.n .z (.n .z (.n .z (.n (.n .z (.j [] (.j [(6,.v (.b (.int .i64)))] .z .z) .z)) (.n (.n .z (.j [] (.j [(8,.v (.b (.int .i64)))] .z .z) .z)) (.n (.n .z (.j [] (.j [(10,.v (.b (.int .i64)))] .z .z) .z)) .z))))))))),false⟩ Tryz.f29=HK:=by kernel_rfl
theorem ZsV:aQ cfgMh ⟨[1],(.n .z (.n .z (.n (.n .z (.j [] (.j [(3,.v (.b (.int .i64)))] .z .z) .z)) .z))),false⟩ Tryz.f15=G0:=by kernel_rfl
theorem Zsr:aQ cfgMh ⟨[1],.z,false⟩ Tryz.f70=GF:=by kernel_rfl
theorem Zo8:aQ cfgMh ⟨[1],(.n .z (.n .z (.n (.n .z (.j [(3,.v (.b (.slice 4)))] (.j [(3,.v (.b (.slice 4))),(4,.v (.b (.int .i64)))] .z .z) .z)) .z))),true⟩ Tryz.f72=Gj:=by kernel_rfl
theorem Zwp:aQ cfgMh ⟨[],(.n .z (.n (.n .z (.j [] (.j [(5,.v (.b (.int .i64)))] .z .z) .z)) .z)),false⟩ Tryz.f68=HW:=by kernel_rfl
theorem Zst:aQ cfgMh ⟨[],(.n .z (.n .z (.n (.n .z (.j [] (.j [(3,.v (.b (.int .i64)))] (.n .z (.n (.j [] (.n .z (.n .z (.j [] (.j [(4,.v (.b (.int .i64)))] .z .z) .z))) .z) .z)) .z) .z)) .z))),false⟩ Tryz.f71=GO:=by kernel_rfl
theorem ZuW:aQ cfgMh ⟨[1],.z,false⟩ Tryz.f93=Ag:=by kernel_rfl
theorem Zgu:aQ cfgMh ⟨[],.z,false⟩ Tryz.f206=Z2:=by kernel_rfl
theorem ZsM:aQ cfgMh ⟨[2,3],.z,false⟩ Tryz.f28=G7:=by kernel_rfl
theorem ZhZ:aQ cfgMh ⟨[],(.n .z (.n (.n .z (.j [] (.j [(8,.v (.b (.int .i64)))] .z .z) .z)) .z)),false⟩ Tryz.f217=FP:=by kernel_rfl
theorem ZkG:aQ cfgMh ⟨[2,3],.z,false⟩ Tryz.f103=Cj:=by kernel_rfl
theorem Zih:aQ cfgMh ⟨[],.z,false⟩ Tryz.f138=Cp:=by kernel_rfl
theorem Zm1:aQ cfgMh ⟨[],(.n .z (.n .z (.n (.n .z (.j [] (.j [(8,.v (.b (.int .i64)))] .z .z) .z)) .z))),false⟩ Tryz.f137=Ct:=by kernel_rfl
theorem ZjW:aQ cfgMh ⟨[],.z,false⟩ Tryz.f172=Co:=by kernel_rfl
theorem Zs2:aQ cfgMh ⟨[2,4],.z,false⟩ Tryz.f14=GN:=by kernel_rfl
theorem Ztj:aQ cfgMh ⟨[3,7,10],(.n .z (.n .z (.n .z (.n .z (.n .z (.n .z (.n .z (.n .z (.n (.n .z (.j [(10,.l [.int .i64,.int .i64,.int .i64,.int .i64,.int .i64,.int .i64,.int .i64,.int .i64,.slice 1])] .z .z)) (.n .z (.n (.n .z (.j [(10,.l [.int .i64,.int .i64,.int .i64,.int .i64,.int .i64,.int .i64,.int .i64,.int .i64,.slice 1])] (.j [(10,.l [.int .i64,.int .i64,.int .i64,.int .i64,.int .i64,.int .i64,.int .i64,.int .i64,.slice 1]),(12,.v (.b (.int .i64)))] .z .z) .z)) (.n (.n .z (.j [(11,.v (.b (.slice 1)))] (.j [(11,.v (.b (.slice 1))),(13,.v (.b (.int .i64)))] .z .z) .z)) (.n .z (.n (.n .z (.j [] (.j [(14,.v (.b (.int .i64)))] .z .z) .z)) .z)))))))))))))),false⟩ Tryz.f16=GH:=by kernel_rfl
theorem Zws:QH cfgMh 3 Tryz.f17 Tryz.f49=It:=by kernel_rfl
theorem Zpt:aQ cfgMh ⟨[],(.n .z (.n .z (.n (.n .z (.j [(3,.v (.b (.slice 1)))] (.j [(3,.v (.b (.slice 1))),(11,.v (.b (.int .i64)))] (.n .z (.n .z (.n (.j [(3,.v (.b (.slice 1)))] (.n .z (.j [(3,.v (.b (.slice 1)))] (.j [(3,.v (.b (.slice 1))),(5,.v (.b (.int .u64)))] .z .z) .z)) .z) .z))) .z) .z)) .z))),false⟩ Tryz.f21=Gm:=by kernel_rfl
theorem Zrr:aQ cfgMh ⟨[4,7,13],(.n .z (.n .z (.n .z (.n .z (.n (.n .z (.j [(10,.v (.b (.slice 49)))] (.j [(10,.v (.b (.slice 49))),(39,.v (.b (.int .i64)))] .z .z) .z)) .z))))),false⟩ Tryz.f20=Hc:=by kernel_rfl
theorem ZvF:aQ cfgMh ⟨[2,3],.z,false⟩ Tryz.f19=H9:=by kernel_rfl
theorem Zng:aQ cfgMh ⟨[3,8,10],(.n .z (.n .z (.n .z (.n .z (.n .z (.n .z (.n .z (.n .z (.n .z (.n .z (.n (.n .z (.j [(15,.v (.b (.slice 1))),(16,.v (.b (.bool)))] (.j [(15,.v (.b (.slice 1))),(16,.v (.b (.bool))),(17,.v (.b (.int .i64)))] .z .z) .z)) .z))))))))))),false⟩ Tryz.f4=F5:=by kernel_rfl
theorem Zxk:aQ cfgMh ⟨[],(.n .z (.n .z (.n (.n .z (.j [(5,.v (.b (.slice 1)))] (.j [(5,.v (.b (.slice 1))),(6,.v (.b (.int .i64)))] .z .z) .z)) .z))),true⟩ Tryz.f22=IE:=by kernel_rfl
theorem Zye:aQ cfgMh ⟨[],.z,false⟩ Tryz.f23=I3:=by kernel_rfl
theorem Zpz:aQ cfgMh ⟨[4],(.n .z (.n .z (.n (.n .z (.j [(7,.v (.b (.slice 1)))] (.j [(7,.v (.b (.slice 1))),(8,.v (.b (.int .i64)))] .z .z) .z)) (.n (.n .z (.j [] (.j [(9,.v (.b (.int .i64)))] .z .z) .z)) .z)))),false⟩ Tryz.f27=Gq:=by kernel_rfl
theorem ZuN:aQ cfgMh ⟨[],.z,false⟩ Tryz.f25=Hv:=by kernel_rfl
theorem Zrm:aQ cfgMh ⟨[],(.n .z (.n .z (.n (.n .z (.j [] (.j [(6,.v (.b (.int .i64)))] (.n .z (.n (.n (.n .z (.n .z (.n .z (.n .z (.j [] .z .z))))) .z) .z)) .z) .z)) .z))),true⟩ Tryz.f26=Hl:=by kernel_rfl
theorem ZoQ:aQ cfgMh ⟨[],(.n .z (.n .z (.n (.n .z (.j [(3,.v (.b (.int .i64)))] (.j [(3,.v (.b (.int .i64))),(11,.v (.b (.int .i64)))] .z .z) .z)) .z))),false⟩ Tryz.f31=GB:=by kernel_rfl
theorem ZqE:aQ cfgMh ⟨[],.z,false⟩ Tryz.f30=Hi:=by kernel_rfl
theorem ZsN:aQ cfgMh ⟨[0],.z,true⟩ Tryz.f40=G5:=by kernel_rfl
theorem ZnA:aQ cfgMh ⟨[7],(.n .z (.n .z (.n (.n .z (.j [(5,.v (.b (.slice 1)))] (.j [(5,.v (.b (.slice 1))),(6,.v (.b (.int .i64)))] (.n .z (.n (.j [(5,.v (.b (.slice 1)))] (.n .z (.n .z (.n (.n .z (.j [(7,.l [.str,.int .i64,.dV 12])] (.j [(7,.l [.str,.int .i64,.dV 12]),(8,.v (.b (.slice 4))),(9,.v (.b (.int .i64)))] (.n .z (.n (.n (.n .z (.j [(7,.l [.str,.int .i64,.dV 12]),(8,.v (.b (.slice 4)))] .z .z)) .z) .z)) .z) .z)) .z))) .z) .z)) .z) .z)) .z))),false⟩ Tryz.f41=FV:=by kernel_rfl
theorem ZlY:aQ cfgMh ⟨[3,7,12,14],(.n .z (.n .z (.n (.n .z (.j [(5,.v (.b (.slice 1)))] (.j [(5,.v (.b (.slice 1))),(6,.v (.b (.int .i64)))] (.n .z (.n (.j [(5,.v (.b (.slice 1)))] (.n .z (.n (.n .z (.j [(7,.l [.dV 21])] (.j [(7,.l [.dV 21]),(8,.v (.b (.int .i64)))] (.n .z (.n (.j [(7,.l [.dV 21])] (.n .z (.n (.n .z (.j [(7,.l [.dV 21])] .z .z)) (.n .z (.j [(7,.l [.dV 21])] (.j [(7,.l [.dV 21]),(9,.v (.b (.int .i64)))] (.n .z (.n (.n (.n .z (.j [(7,.l [.dV 21])] .z .z)) .z) .z)) .z) .z)))) .z) .z)) .z) .z)) .z)) .z) .z)) .z) .z)) (.n .z (.n .z (.n (.n .z (.j [(12,.l [.dV 16])] (.j [(12,.l [.dV 16]),(13,.v (.b (.int .i64)))] (.n .z (.n (.j [(12,.l [.dV 16])] (.n .z (.n (.n .z (.j [(14,.l [.dV 16])] (.j [(14,.l [.dV 16]),(15,.v (.b (.int .i64)))] .z .z) .z)) .z)) .z) .z)) .z) .z)) .z)))))),false⟩ Tryz.f42=Gh:=by kernel_rfl
theorem ZvW:aQ cfgMh ⟨[1],(.n .z (.n .z (.n .z (.n (.n .z (.j [(3,.v (.b (.str)))] (.j [(3,.v (.b (.str))),(4,.v (.b (.int .i64)))] .z .z) .z)) .z)))),false⟩ Tryz.f39=HN:=by kernel_rfl
theorem ZuD:aQ cfgMh ⟨[4,5],(.n .z (.n .z (.n (.n .z (.j [(5,.l [.int .i64,.dV 48])] (.j [(5,.l [.int .i64,.dV 48]),(6,.v (.b (.int .i64)))] (.n .z (.n (.n (.n .z (.j [(5,.l [.int .i64,.dV 48])] .z .z)) .z) .z)) .z) .z)) .z))),false⟩ Tryz.f47=Ho:=by kernel_rfl
theorem ZvQ:aQ cfgMh ⟨[],.z,false⟩ Tryz.f46=Is:=by kernel_rfl
theorem ZnG:aQ cfgMh ⟨[],(.n .z (.n .z (.n .z (.n (.n .z (.j [] .z .z)) .z)))),false⟩ Tryz.f45=FW:=by kernel_rfl
theorem ZsJ:aQ cfgMh ⟨[1],(.n .z (.n .z (.n .z (.n .z (.n (.n .z (.j [(3,.v (.b (.slice 1)))] .z .z)) (.n (.n .z (.j [(3,.v (.b (.slice 1)))] .z .z)) (.n (.n .z (.j [(3,.v (.b (.slice 1)))] (.j [(3,.v (.b (.slice 1))),(4,.v (.b (.int .i64)))] (.n .z (.n (.j [(3,.v (.b (.slice 1)))] (.n .z (.n .z (.j [] (.j [(5,.v (.b (.int .i64)))] .z .z) .z))) .z) .z)) .z) .z)) (.n (.n .z (.j [] (.j [(6,.v (.b (.int .i64)))] .z .z) .z)) .z)))))))),false⟩ Tryz.f44=HB:=by kernel_rfl
theorem Zrv:aQ cfgMh ⟨[1],.z,false⟩ Tryz.f43=GQ:=by kernel_rfl
theorem Ztk:aQ cfgMh ⟨[],(.n .z (.n .z (.n .z (.n .z (.n (.n .z (.j [] (.j [(102,.v (.b (.int .i64)))] .z .z) .z)) .z))))),false⟩ Tryz.f48=G4:=by kernel_rfl
theorem Zb0:aQ cfgMh ⟨[8,9],(.n .z (.n .z (.n (.n .z (.j [] (.j [(17,.v (.b (.int .i64)))] .z .z) .z)) .z))),false⟩ Tryz.f56=Zv:=by kernel_rfl
theorem Zvy:aQ cfgMh ⟨[2,3],.z,false⟩ Tryz.f57=H7:=by kernel_rfl
theorem ZvE:aQ cfgMh ⟨[8],(.n .z (.n .z (.n .z (.n (.n .z (.j [] (.j [(27,.v (.b (.int .i64)))] .z .z) .z)) .z)))),false⟩ Tryz.f62=Ie:=by kernel_rfl
theorem Zpm:aQ cfgMh ⟨[],.z,false⟩ Tryz.f63=Gr:=by kernel_rfl
theorem ZpT:aQ cfgMh ⟨[],.z,false⟩ Tryz.f59=Gp:=by kernel_rfl
theorem Zvz:aQ cfgMh ⟨[],.z,true⟩ Tryz.f61=Ip:=by kernel_rfl
theorem ZwD:aQ cfgMh ⟨[2],.z,false⟩ Tryz.f60=HR:=by kernel_rfl
theorem Zv0:aQ cfgMh ⟨[],(.n .z (.n .z (.n .z (.n (.j [(7,.v (.b (.int .i64)))] (.j [(7,.v (.b (.int .i64)))] .z .z) .z) .z)))),true⟩ Tryz.f65=HX:=by kernel_rfl
theorem Zrn:aQ cfgMh ⟨[],(.n .z (.j [] (.j [(8,.v (.b (.int .i64)))] (.n .z (.n .z (.n (.n (.n .z (.n .z (.j [] .z .z))) .z) .z))) .z) .z)),false⟩ Tryz.f66=GR:=by kernel_rfl
theorem ZsT:aQ cfgMh ⟨[],.z,true⟩ Tryz.f67=HD:=by kernel_rfl
theorem ZuM:aQ cfgMh ⟨[],.z,true⟩ Tryz.f69=HA:=by kernel_rfl
theorem ZqI:aQ cfgMh ⟨[],.z,false⟩ Tryz.f73=Hk:=by kernel_rfl
theorem ZmE:aQ cfgMh ⟨[],.z,false⟩ Tryz.f74=F9:=by kernel_rfl
theorem Zwi:aQ cfgMh ⟨[],(.n .z (.n .z (.n (.n .z (.j [(5,.v (.b (.str)))] (.j [(5,.v (.b (.str))),(6,.v (.b (.int .i64)))] .z .z) .z)) .z))),false⟩ Tryz.f85=HJ:=by kernel_rfl
theorem ZuS:aQ cfgMh ⟨[],.z,false⟩ Tryz.f86=H3:=by kernel_rfl
theorem ZvH:aQ cfgMh ⟨[],(.n .z (.n .z (.n .z (.n (.n .z (.j [(4,.v (.b (.str)))] (.j [(4,.v (.b (.str))),(5,.v (.b (.int .i64)))] (.n .z (.n (.j [(4,.v (.b (.str)))] (.n .z (.n (.n .z (.j [] (.j [(6,.v (.b (.int .i64)))] .z .z) .z)) .z)) .z) .z)) .z) .z)) .z)))),false⟩ Tryz.f89=Ib:=by kernel_rfl
theorem ZwC:aQ cfgMh ⟨[1],(.n .z (.n .z (.n (.n .z (.j [(3,.v (.b (.str)))] (.j [(3,.v (.b (.str))),(4,.v (.b (.int .i64)))] .z .z) .z)) .z))),false⟩ Tryz.f88=HS:=by kernel_rfl
theorem Znd:aQ cfgMh ⟨[5],(.n .z (.n .z (.n (.n .z (.j [(5,.l [.int .i64,.int .i64,.int .i64,.int .i64,.slice 1])] (.j [(5,.l [.int .i64,.int .i64,.int .i64,.int .i64,.slice 1]),(6,.v (.b (.int .i64)))] .z .z) .z)) .z))),false⟩ Tryz.f87=F4:=by kernel_rfl
theorem Zwz:aQ cfgMh ⟨[1],(.n .z (.n .z (.n (.n .z (.j [(4,.v (.b (.str)))] (.j [(4,.v (.b (.str))),(5,.v (.b (.int .i64)))] .z .z) .z)) .z))),false⟩ Tryz.f91=H8:=by kernel_rfl
theorem Zuk:aQ cfgMh ⟨[1,7],(.n .z (.n .z (.n (.n .z (.j [(4,.v (.b (.str))),(5,.v (.b (.int .i64)))] (.j [(4,.v (.b (.str))),(5,.v (.b (.int .i64))),(6,.v (.b (.int .i64)))] (.n .z (.n (.n (.n .z (.n .z (.n (.n .z (.j [(5,.v (.b (.int .i64)))] .z .z)) .z))) .z) .z)) .z) .z)) .z))),false⟩ Tryz.f90=Ht:=by kernel_rfl
theorem ZuG:aQ cfgMh ⟨[],(.n .z (.n .z (.n (.j [(5,.v (.b (.int .i64)))] (.j [(5,.v (.b (.int .i64)))] .z .z) .z) .z))),false⟩ Tryz.f92=Hw:=by kernel_rfl
theorem ZpQ:aQ cfgMh ⟨[],.z,false⟩ Tryz.f94=Gs:=by kernel_rfl
theorem Zii:aQ cfgMh ⟨[],.z,false⟩ Tryz.f96=FT:=by kernel_rfl
theorem Zs0:aQ cfgMh ⟨[1],.z,false⟩ Tryz.f95=GY:=by kernel_rfl
theorem Zwm:aQ cfgMh ⟨[],(.n .z (.j [] .z .z)),false⟩ Tryz.f50=Ih:=by kernel_rfl
theorem ZlW:aQ cfgMh ⟨[],(.n .z (.n .z (.n .z (.j [] (.j [(32,.v (.b (.int .i64)))] (.n .z (.n .z (.n (.j [] (.n .z (.n .z (.n .z (.n .z (.n .z (.j [] (.j [(52,.v (.b (.int .i64)))] (.n .z (.n .z (.n (.n (.n .z (.n .z (.n .z (.j [] .z .z)))) .z) .z))) .z) .z)))))) .z) .z))) .z) .z)))),false⟩ Tryz.f51=Gi:=by kernel_rfl
theorem Ztr:aQ cfgMh ⟨[],.z,false⟩ Tryz.f97=GX:=by kernel_rfl
theorem Zl7:aQ cfgMh ⟨[],.z,false⟩ Tryz.f98=Gc:=by kernel_rfl
theorem Zmp:aQ cfgMh ⟨[7],(.n .z (.j [] (.j [(13,.v (.b (.int .i64)))] (.n .z (.n .z (.n (.j [] .z .z) .z))) .z) .z)),false⟩ Tryz.f99=FZ:=by kernel_rfl
theorem Zmi:aQ cfgMh ⟨[5,7],(.n .z (.n (.n .z (.j [] (.j [(3,.v (.b (.int .i64)))] .z .z) .z)) (.n .z (.j [] (.j [(86,.v (.b (.int .i64)))] .z .z) .z)))),false⟩ Tryz.f52=F7:=by kernel_rfl
theorem Zln:aQ cfgMh ⟨[4,5],(.n .z (.n .z (.j [] (.j [(24,.v (.b (.int .i64)))] (.n .z (.n .z (.n (.j [] (.n .z (.n .z (.n .z (.n .z (.n (.n .z (.j [(5,.l [.str,.slice 4])] (.j [(5,.l [.str,.slice 4]),(57,.v (.b (.int .i64)))] (.n .z (.n .z (.n (.n (.n .z (.n .z (.j [(5,.l [.str,.slice 4])] .z .z))) .z) .z))) .z) .z)) .z))))) .z) .z))) .z) .z))),false⟩ Tryz.f53=Ge:=by kernel_rfl
theorem ZmF:aQ cfgMh ⟨[9,10,11],(.n .z (.n .z (.n .z (.n (.j [(7,.v (.b (.slice 4)))] (.j [(7,.v (.b (.slice 4))),(8,.v (.b (.slice 7)))] (.n .z (.j [(7,.v (.b (.slice 4))),(8,.v (.b (.slice 7)))] (.n .z (.n .z (.n .z (.n .z (.n .z (.n .z (.n .z (.n .z (.n .z (.j [(8,.v (.b (.slice 7)))] (.j [(8,.v (.b (.slice 7))),(100,.v (.b (.int .i64)))] .z .z) .z)))))))))) .z)) .z) .z) .z)))),false⟩ Tryz.f101=F8:=by kernel_rfl
theorem Zl1:aQ cfgMh ⟨[5],(.n .z (.n .z (.n (.n .z (.j [(3,.v (.b (.int .i64)))] (.j [(3,.v (.b (.int .i64))),(11,.v (.b (.int .i64)))] (.n .z (.n .z (.n (.n (.n .z (.n .z (.n .z (.j [(3,.v (.b (.int .i64)))] .z .z)))) .z) .z))) .z) .z)) .z))),false⟩ Tryz.f54=Ga:=by kernel_rfl
theorem ZeD:aQ cfgMh ⟨[],(.n .z (.n .z (.n (.n .z (.j [] (.j [(13,.v (.b (.int .i64)))] .z .z) .z)) .z))),false⟩ Tryz.f104=ZU:=by kernel_rfl
theorem ZgD:aQ cfgMh ⟨[],(.n .z (.n .z (.n (.n .z (.j [] (.j [(13,.v (.b (.int .i64)))] .z .z) .z)) .z))),false⟩ Tryz.f105=Z6:=by kernel_rfl
theorem Zvm:aQ cfgMh ⟨[],.z,true⟩ Tryz.f106=Hs:=by kernel_rfl
theorem ZpJ:aQ cfgMh ⟨[],(.n .z (.n .z (.n (.n .z (.j [] (.j [(21,.v (.b (.int .i64)))] .z .z) .z)) .z))),false⟩ Tryz.f107=Gu:=by kernel_rfl
theorem Zvk:aQ cfgMh ⟨[1],(.n .z (.n .z (.n (.n .z (.j [(3,.v (.b (.slice 1)))] (.j [(3,.v (.b (.slice 1))),(6,.v (.b (.int .i64)))] (.n .z (.n .z (.n (.n (.n .z (.n .z (.n .z (.j [(3,.v (.b (.slice 1)))] .z .z)))) .z) .z))) .z) .z)) .z))),true⟩ Tryz.f109=Hx:=by kernel_rfl
theorem ZsO:aQ cfgMh ⟨[],.z,false⟩ Tryz.f108=MZ:=by kernel_rfl
theorem Zor:aQ cfgMh ⟨[],.z,false⟩ Tryz.f110=GC:=by kernel_rfl
theorem Zwv:aQ cfgMh ⟨[],(.n .z (.n .z (.n (.n .z (.j [(3,.v (.b (.int .u32)))] (.j [(3,.v (.b (.int .u32))),(4,.v (.b (.int .i64)))] .z .z) .z)) .z))),false⟩ Tryz.f111=Iq:=by kernel_rfl
theorem ZsU:aQ cfgMh ⟨[],(.n .z (.n (.n .z (.j [(0,.v (.b (.int .u64)))] (.j [(0,.v (.b (.int .u64))),(5,.v (.b (.int .i64)))] .z .z) .z)) .z)),false⟩ Tryz.f124=GL:=by kernel_rfl
theorem ZuT:aQ cfgMh ⟨[],.z,false⟩ Tryz.f125=Hr:=by kernel_rfl
theorem ZvL:aQ cfgMh ⟨[1,3],(.n .z (.n .z (.n .z (.n (.n .z (.j [(4,.v (.b (.str)))] (.j [(4,.v (.b (.str))),(5,.v (.b (.int .i64)))] .z .z) .z)) .z)))),false⟩ Tryz.f126=Iu:=by kernel_rfl
theorem Zta:aQ cfgMh ⟨[],.z,false⟩ Tryz.f127=GG:=by kernel_rfl
theorem Zvb:aQ cfgMh ⟨[1],.z,false⟩ Tryz.f128=Hn:=by kernel_rfl
theorem ZyQ:aQ cfgMh ⟨[],.z,false⟩ Tryz.f129=IU:=by kernel_rfl
theorem Zke:aQ cfgMh ⟨[],(.n .z (.n (.n .z (.j [] (.j [(8,.v (.b (.int .i64)))] .z .z) .z)) .z)),false⟩ Tryz.f130=FO:=by kernel_rfl
theorem Zt7:aQ cfgMh ⟨[],.z,false⟩ Tryz.f131=Hp:=by kernel_rfl
theorem Zu3:aQ cfgMh ⟨[3,5,7,9,11],.z,false⟩ Tryz.f132=Hz:=by kernel_rfl
theorem ZsQ:aQ cfgMh ⟨[],.z,false⟩ Tryz.f139=HC:=by kernel_rfl
theorem Zti:aQ cfgMh ⟨[],.z,true⟩ Tryz.f140=HI:=by kernel_rfl
theorem Ztg:aQ cfgMh ⟨[],.z,false⟩ Tryz.f141=GM:=by kernel_rfl
theorem Zwl:aQ cfgMh ⟨[2],.z,false⟩ Tryz.f142=Ik:=by kernel_rfl
theorem ZgS:aQ cfgMh ⟨[],.z,false⟩ Tryz.f143=Z9:=by kernel_rfl
theorem ZsI:aQ cfgMh ⟨[],(.n .z (.n (.n .z (.j [(0,.v (.b (.int .u32)))] (.j [(0,.v (.b (.int .u32))),(5,.v (.b (.int .i64)))] .z .z) .z)) .z)),false⟩ Tryz.f144=GV:=by kernel_rfl
theorem Zw9:aQ cfgMh ⟨[2,8],(.n .z (.n .z (.n .z (.n .z (.n (.n .z (.j [(8,.l [.int .i64,.int .i64,.int .i64,.int .i64,.slice 1])] (.j [(8,.l [.int .i64,.int .i64,.int .i64,.int .i64,.slice 1]),(41,.v (.b (.int .i64)))] .z .z) .z)) .z))))),true⟩ Tryz.f156=IF:=by kernel_rfl
theorem ZrN:aQ cfgMh ⟨[2,8,11],(.n .z (.n .z (.n .z (.n .z (.n (.n .z (.j [(2,.l [.dV 21]),(8,.l [.dV 21])] (.j [(2,.l [.dV 21]),(8,.l [.dV 21]),(30,.v (.b (.int .i64)))] .z .z) .z)) .z))))),false⟩ Tryz.f157=Hg:=by kernel_rfl
theorem Ztl:aQ cfgMh ⟨[2,8],(.n .z (.n .z (.n .z (.n .z (.n (.n .z (.j [(8,.l [.dV 16])] (.j [(8,.l [.dV 16]),(36,.v (.b (.int .i64)))] .z .z) .z)) .z))))),false⟩ Tryz.f158=HF:=by kernel_rfl
theorem ZoT:aQ cfgMh ⟨[2,8],(.n .z (.n .z (.n .z (.n .z (.n (.n .z (.j [(8,.l [.str,.int .i64,.dV 12])] (.j [(8,.l [.str,.int .i64,.dV 12]),(51,.v (.b (.int .i64)))] .z .z) .z)) .z))))),false⟩ Tryz.f159=GA:=by kernel_rfl
theorem ZqL:aQ cfgMh ⟨[2,8],(.n .z (.n .z (.n .z (.n .z (.n (.n .z (.j [(8,.l [.slice 1])] (.j [(8,.l [.slice 1]),(41,.v (.b (.int .i64)))] .z .z) .z)) .z))))),true⟩ Tryz.f160=Hh:=by kernel_rfl
theorem ZtT:aQ cfgMh ⟨[],(.n .z (.n .z (.n (.n .z (.j [(3,.v (.b (.int .u64)))] (.j [(3,.v (.b (.int .u64))),(12,.v (.b (.int .i64)))] .z .z) .z)) .z))),false⟩ Tryz.f174=H0:=by kernel_rfl
theorem Zxj:aQ cfgMh ⟨[],.z,false⟩ Tryz.f173=Iy:=by kernel_rfl
theorem Zvx:aQ cfgMh ⟨[2],.z,false⟩ Tryz.f175=HP:=by kernel_rfl
theorem ZtF:aQ cfgMh ⟨[],.z,false⟩ Tryz.f176=H2:=by kernel_rfl
theorem Zs8:aQ cfgMh ⟨[],.z,false⟩ Tryz.f185=G8:=by kernel_rfl
theorem ZtJ:aQ cfgMh ⟨[1,3],.z,false⟩ Tryz.f186=Hu:=by kernel_rfl
theorem ZoW:aQ cfgMh ⟨[1],.z,false⟩ Tryz.f187=GD:=by kernel_rfl
theorem Zqd:aQ cfgMh ⟨[1],(.n .z (.n (.n .z (.j [] (.j [(7,.v (.b (.int .i64)))] .z .z) .z)) .z)),false⟩ Tryz.f188=Gk:=by kernel_rfl
theorem Zm8:aQ cfgMh ⟨[1],(.n .z (.n .z (.n (.n .z (.j [] (.j [(21,.v (.b (.int .i64)))] .z .z) .z)) .z))),false⟩ Tryz.f189=F0:=by kernel_rfl
theorem ZoV:aQ cfgMh ⟨[1],(.n .z (.n .z (.n (.n .z (.j [] (.j [(18,.v (.b (.int .i64)))] .z .z) .z)) .z))),false⟩ Tryz.f190=Gx:=by kernel_rfl
theorem Zx1:aQ cfgMh ⟨[],(.n .z (.n .z (.n (.n .z (.j [(4,.v (.b (.int .u32)))] (.j [(4,.v (.b (.int .u32))),(10,.v (.b (.int .i64)))] .z .z) .z)) .z))),false⟩ Tryz.f197=Jk:=by kernel_rfl
theorem Zsu:aQ cfgMh ⟨[1],.z,false⟩ Tryz.f198=HH:=by kernel_rfl
theorem Zv8:aQ cfgMh ⟨[],.z,false⟩ Tryz.f205=HT:=by kernel_rfl
theorem ZqJ:aQ cfgMh ⟨[],.z,false⟩ Tryz.f207=Hf:=by kernel_rfl
theorem Zs5:aQ cfgMh ⟨[],.z,false⟩ Tryz.f208=HE:=by kernel_rfl
theorem ZlX:aQ cfgMh ⟨[],.z,false⟩ Tryz.f210=FX:=by kernel_rfl
theorem ZvT:aQ cfgMh ⟨[0,1],(.n .z (.n .z (.n (.n .z (.j [(1,.l [.dV 16])] (.j [(1,.l [.dV 16]),(4,.v (.b (.int .i64)))] (.n .z (.n .z (.n (.j [(1,.l [.dV 16])] (.n .z (.n .z (.n (.n .z (.j [(3,.v (.b (.int .u32)))] (.j [(3,.v (.b (.int .u32))),(9,.v (.b (.int .i64)))] .z .z) .z)) .z))) .z) .z))) .z) .z)) .z))),false⟩ Tryz.f212=H6:=by kernel_rfl
theorem ZqX:aQ cfgMh ⟨[],(.n .z (.n (.n .z (.j [(1,.v (.b (.int .u32)))] (.j [(1,.v (.b (.int .u32))),(11,.v (.b (.int .i64)))] .z .z) .z)) .z)),false⟩ Tryz.f213=Hd:=by kernel_rfl
theorem ZxO:aQ cfgMh ⟨[],.z,false⟩ Tryz.f219=IC:=by kernel_rfl
end
noncomputable def ZyO:Go.Shelf.Ren:=⟨fun|6=>102|14=>135|15=>136|20=>162|21=>163|22=>164|23=>165|24=>166|25=>167|26=>168|27=>169|28=>170|29=>171|46=>192|47=>193|48=>194|49=>195|50=>196|57=>211|n=>n,fun|0=>0|3=>3|4=>4|5=>5|9=>9|22=>56|24=>62|25=>175|39=>183|45=>247|46=>248|50=>252|53=>184|55=>118|66=>271|70=>275|76=>293|77=>260|n=>n,fun|n=>n⟩
theorem Zxv:SlLaysF0.n6 Tryz.prog ZyO where
 mixed:=by kernel_rfl
 f6:=⟨Tryz.f102.name,by kernel_rfl,Tryz.func102.trans (congrArg some (by kernel_rfl))⟩
 f14:=⟨Tryz.f135.name,by kernel_rfl,Tryz.func135.trans (congrArg some (by kernel_rfl))⟩
 f15:=Tryz.func136.trans (congrArg some (by kernel_rfl))
 f20:=⟨Tryz.f162.name,by kernel_rfl,Tryz.func162.trans (congrArg some (by kernel_rfl))⟩
 f21:=⟨Tryz.f163.name,by kernel_rfl,Tryz.func163.trans (congrArg some (by kernel_rfl))⟩
 f22:=⟨Tryz.f164.name,by kernel_rfl,Tryz.func164.trans (congrArg some (by kernel_rfl))⟩
 f23:=⟨Tryz.f165.name,by kernel_rfl,Tryz.func165.trans (congrArg some (by kernel_rfl))⟩
 f24:=⟨Tryz.f166.name,by kernel_rfl,Tryz.func166.trans (congrArg some (by kernel_rfl))⟩
 f25:=⟨Tryz.f167.name,by kernel_rfl,Tryz.func167.trans (congrArg some (by kernel_rfl))⟩
 f26:=⟨Tryz.f168.name,by kernel_rfl,Tryz.func168.trans (congrArg some (by kernel_rfl))⟩
 f27:=⟨Tryz.f169.name,by kernel_rfl,Tryz.func169.trans (congrArg some (by kernel_rfl))⟩
 f28:=Tryz.func170.trans (congrArg some (by kernel_rfl))
 f29:=Tryz.func171.trans (congrArg some (by kernel_rfl))
 f46:=⟨Tryz.f192.name,by kernel_rfl,Tryz.func192.trans (congrArg some (by kernel_rfl))⟩
 f47:=Tryz.func193.trans (congrArg some (by kernel_rfl))
 f48:=Tryz.func194.trans (congrArg some (by kernel_rfl))
 f49:=⟨Tryz.f195.name,by kernel_rfl,Tryz.func195.trans (congrArg some (by kernel_rfl))⟩
 f50:=⟨Tryz.f196.name,by kernel_rfl,Tryz.func196.trans (congrArg some (by kernel_rfl))⟩
 f57:=⟨Tryz.f211.name,by kernel_rfl,Tryz.func211.trans (congrArg some (by kernel_rfl))⟩
 t0:=Tryz.underlying0
 a0:=Tryz.isAgg0
 z0:=Tryz.sizeOf0
 v0:=Tryz.zeroValue0
 t3:=Tryz.underlying3
 a3:=Tryz.isAgg3
 z3:=Tryz.sizeOf3
 v3:=Tryz.zeroValue3
 t4:=Tryz.underlying4
 a4:=Tryz.isAgg4
 z4:=Tryz.sizeOf4
 v4:=Tryz.zeroValue4
 t5:=Tryz.underlying5
 a5:=Tryz.isAgg5
 z5:=Tryz.sizeOf5
 v5:=Tryz.zeroValue5
 t9:=Tryz.underlying9
 a9:=Tryz.isAgg9
 z9:=Tryz.sizeOf9
 v9:=Tryz.zeroValue9
 t22:=Tryz.underlying56
 a22:=Tryz.isAgg56
 z22:=Tryz.sizeOf56
 v22:=Tryz.zeroValue56
 t25:=Tryz.underlying175
 a25:=Tryz.isAgg175
 z25:=Tryz.sizeOf175
 v25:=Tryz.zeroValue175
 t39:=Tryz.underlying183
 a39:=Tryz.isAgg183
 z39:=Tryz.sizeOf183
 v39:=Tryz.zeroValue183
 t45:=Tryz.underlying247
 a45:=Tryz.isAgg247
 z45:=Tryz.sizeOf247
 v45:=Tryz.zeroValue247
 t46:=Tryz.underlying248
 a46:=Tryz.isAgg248
 z46:=Tryz.sizeOf248
 v46:=Tryz.zeroValue248
 t50:=Tryz.underlying252
 a50:=Tryz.isAgg252
 z50:=Tryz.sizeOf252
 v50:=Tryz.zeroValue252
 t53:=Tryz.underlying184
 a53:=Tryz.isAgg184
 z53:=Tryz.sizeOf184
 v53:=Tryz.zeroValue184
 t55:=Tryz.underlying118
 a55:=Tryz.isAgg118
 z55:=Tryz.sizeOf118
 v55:=Tryz.zeroValue118
 t66:=Tryz.underlying271
 a66:=Tryz.isAgg271
 z66:=Tryz.sizeOf271
 v66:=Tryz.zeroValue271
 t70:=Tryz.underlying275
 a70:=Tryz.isAgg275
 z70:=Tryz.sizeOf275
 v70:=Tryz.zeroValue275
 t76:=Tryz.underlying293
 a76:=Tryz.isAgg293
 z76:=Tryz.sizeOf293
 v76:=Tryz.zeroValue293
 t77:=Tryz.underlying260
 a77:=Tryz.isAgg260
 z77:=Tryz.sizeOf260
 v77:=Tryz.zeroValue260
theorem ZAs:lZ cfgMh:=⟨ZAJ (by kernel_rfl),(fun t h=>Zxb (Qt (by kernel_rfl) t h)),(fun t h _ _ _ _ _ _ w hx hy he=>ZzA (Qt (by kernel_rfl) t h) w hx hy he),ZBv (e:=309) (by kernel_rfl) (by kernel_rfl)⟩
theorem Zh:Ce cfgMh:=⟨ZAs,by kernel_rfl⟩
noncomputable def E8:List (Nat×Body):=[(159,Cj),(161,Cp),(162,Ct),(163,Co)]
theorem ZAQ: ∀n,ZC cfgMh (run (bdOf E8) n):=
 ZBl (cov:=[145,177,199,209,112,218,146,134,100,113,220,133,161,191,64,24,58,29,15,70,72,68,71,93,206,28,217,103,138,137,172,14,16,17,21,20,19,4,22,23,27,25,26,31,30,40,41,42,39,47,46,45,44,43,48,56,57,62,63,59,61,60,65,66,67,69,73,74,85,86,89,88,87,91,90,92,94,96,95,50,51,97,98,99,52,53,102,101,54,104,105,106,107,109,108,110,111,124,125,126,127,128,129,130,131,132,139,140,141,142,143,144,156,157,158,159,160,174,173,175,176,185,186,187,188,189,190,197,198,205,207,208,210,212,213,219]) (sub:=[103,138,137,172]) rfl (by kernel_rfl) (by kernel_rfl) (aO.2 ⟨aL.aR Zh Tryz.func103 (by kernel_rfl) ZkG,aO.2 ⟨aL.aR Zh Tryz.func138 (by kernel_rfl) Zih,aO.2 ⟨aL.aR Zh Tryz.func137 (by kernel_rfl) Zm1,aO.2 ⟨aL.aR Zh Tryz.func172 (by kernel_rfl) ZjW,(fun _ h=>by cases h)⟩⟩⟩⟩)
theorem ZoN:Nk (bdOf E8):=⟨by kernel_rfl⟩
theorem ZlU:My (bdOf E8):=⟨by kernel_rfl⟩
theorem ZkO:FU (bdOf E8):=⟨by kernel_rfl,ZlU⟩
theorem ZmG:yd (bdOf E8):=⟨by kernel_rfl,ZoN,ZkO⟩
noncomputable def bdsMh:List (Nat×Body):=[(12,GK),(15,G3),(19,Gn),(26,Hy),(27,G6),(28,IS),(29,IP),(34,Hq),(39,Hj),(40,Gw),(54,Np),(57,FQ),(64,F3),(72,Gz),(86,Ci),(113,Ao),(114,FN),(133,HK),(138,G0),(141,GF),(142,Gj),(143,HW),(144,GO),(145,Ag),(147,Z2),(155,G7),(156,FP),(159,Cj),(161,Cp),(162,Ct),(163,Co),(169,GN),(170,GH),(171,It),(172,Gm),(173,Hc),(174,H9),(175,F5),(176,IE),(177,I3),(178,Gq),(179,Hv),(180,Hl),(183,GB),(184,Hi),(188,G5),(189,FV),(190,Gh),(191,HN),(192,Ho),(193,Is),(194,FW),(195,HB),(196,GQ),(197,G4),(198,Zv),(199,H7),(200,Ie),(201,Gr),(202,Gp),(203,Ip),(204,HR),(205,HX),(206,GR),(207,HD),(208,HA),(209,Hk),(210,F9),(213,HJ),(214,H3),(215,Ib),(216,HS),(217,F4),(218,H8),(219,Ht),(220,Hw),(221,Gs),(222,FT),(223,GY),(225,Ih),(226,Gi),(227,GX),(228,Gc),(229,FZ),(230,F7),(231,Ge),(232,CU),(233,F8),(234,Ga),(235,ZU),(236,Z6),(237,Hs),(238,Gu),(239,Hx),(240,MZ),(241,GC),(242,Iq),(248,GL),(249,Hr),(250,Iu),(251,GG),(252,Hn),(253,IU),(254,FO),(255,Hp),(256,Hz),(259,HC),(260,HI),(261,GM),(262,Ik),(263,Z9),(264,GV),(272,IF),(273,Hg),(274,HF),(275,GA),(276,Hh),(285,H0),(286,Iy),(287,HP),(288,H2),(295,G8),(296,Hu),(297,GD),(298,Gk),(299,F0),(300,Gx),(306,Jk),(307,HH),(312,HT),(313,Hf),(314,HE),(315,FX),(317,H6),(318,Hd),(320,IC)]
theorem bodiesMh: ∀n,ZC cfgMh (run (bdOf bdsMh) n):=
 ZAF (cov:=[145,177,199,209,112,218,146,134,100,113,220,133,161,191,64,24,58,29,15,70,72,68,71,93,206,28,217,103,138,137,172,14,16,17,21,20,19,4,22,23,27,25,26,31,30,40,41,42,39,47,46,45,44,43,48,56,57,62,63,59,61,60,65,66,67,69,73,74,85,86,89,88,87,91,90,92,94,96,95,50,51,97,98,99,52,53,102,101,54,104,105,106,107,109,108,110,111,124,125,126,127,128,129,130,131,132,139,140,141,142,143,144,156,157,158,159,160,174,173,175,176,185,186,187,188,189,190,197,198,205,207,208,210,212,213,219]) rfl (by kernel_rfl) (aO.2 ⟨aL.aR Zh Tryz.func145 (by kernel_rfl) Zto,aO.2 ⟨aL.aR Zh Tryz.func177 (by kernel_rfl) Ztp,aO.2 ⟨aL.aR Zh Tryz.func199 (by kernel_rfl) ZpI,aO.2 ⟨aL.aR Zh Tryz.func209 (by kernel_rfl) ZuQ,aO.2 ⟨aL.aR Zh Tryz.func112 (by kernel_rfl) Ztn,aO.2 ⟨aL.aR Zh Tryz.func218 (by kernel_rfl) ZyI,aO.2 ⟨aL.aR Zh Tryz.func146 (by kernel_rfl) ZxJ,aO.2 ⟨aL.aR Zh Tryz.func134 (by kernel_rfl) Zuj,aO.2 ⟨aL.aR Zh Tryz.func100 (by kernel_rfl) ZrC,aO.2 ⟨aL.aR Zh Tryz.func113 (by kernel_rfl) Zpr,aO.2 ⟨aL.aR Zh Tryz.func220 (by kernel_rfl) Zvq,aO.2 ⟨aL.aR Zh Tryz.func133 (by kernel_rfl) Zh3,aO.2 ⟨aL.aR Zh Tryz.func161 (by kernel_rfl) Zma,aO.2 ⟨aL.aR Zh Tryz.func191 (by kernel_rfl) Zow,aO.2 ⟨aL.aR Zh Tryz.func64 (by kernel_rfl) Zkd,aO.2 ⟨aL.aR Zh Tryz.func24 (by kernel_rfl) ZtG,aO.2 ⟨aL.aR Zh Tryz.func58 (by kernel_rfl) Zkn,aO.2 ⟨aL.aR Zh Tryz.func29 (by kernel_rfl) Zwy,aO.2 ⟨aL.aR Zh Tryz.func15 (by kernel_rfl) ZsV,aO.2 ⟨aL.aR Zh Tryz.func70 (by kernel_rfl) Zsr,aO.2 ⟨aL.aR Zh Tryz.func72 (by kernel_rfl) Zo8,aO.2 ⟨aL.aR Zh Tryz.func68 (by kernel_rfl) Zwp,aO.2 ⟨aL.aR Zh Tryz.func71 (by kernel_rfl) Zst,aO.2 ⟨aL.aR Zh Tryz.func93 (by kernel_rfl) ZuW,aO.2 ⟨aL.aR Zh Tryz.func206 (by kernel_rfl) Zgu,aO.2 ⟨aL.aR Zh Tryz.func28 (by kernel_rfl) ZsM,aO.2 ⟨aL.aR Zh Tryz.func217 (by kernel_rfl) ZhZ,aO.2 ⟨aL.aR Zh Tryz.func103 (by kernel_rfl) ZkG,aO.2 ⟨aL.aR Zh Tryz.func138 (by kernel_rfl) Zih,aO.2 ⟨aL.aR Zh Tryz.func137 (by kernel_rfl) Zm1,aO.2 ⟨aL.aR Zh Tryz.func172 (by kernel_rfl) ZjW,aO.2 ⟨aL.aR Zh Tryz.func14 (by kernel_rfl) Zs2,aO.2 ⟨aL.aR Zh Tryz.func16 (by kernel_rfl) Ztj,aO.2 ⟨(fun _ n _ _ _ hc h=>Zz4 (n:=n) Zh hc Tryz.func17 (by kernel_rfl) Tryz.func49 (by kernel_rfl) (by kernel_rfl) (by rw[Zws];exact h)),aO.2 ⟨aL.aR Zh Tryz.func21 (by kernel_rfl) Zpt,aO.2 ⟨aL.aR Zh Tryz.func20 (by kernel_rfl) Zrr,aO.2 ⟨aL.aR Zh Tryz.func19 (by kernel_rfl) ZvF,aO.2 ⟨aL.aR Zh Tryz.func4 (by kernel_rfl) Zng,aO.2 ⟨aL.aR Zh Tryz.func22 (by kernel_rfl) Zxk,aO.2 ⟨aL.aR Zh Tryz.func23 (by kernel_rfl) Zye,aO.2 ⟨aL.aR Zh Tryz.func27 (by kernel_rfl) Zpz,aO.2 ⟨aL.aR Zh Tryz.func25 (by kernel_rfl) ZuN,aO.2 ⟨aL.aR Zh Tryz.func26 (by kernel_rfl) Zrm,aO.2 ⟨aL.aR Zh Tryz.func31 (by kernel_rfl) ZoQ,aO.2 ⟨aL.aR Zh Tryz.func30 (by kernel_rfl) ZqE,aO.2 ⟨aL.aR Zh Tryz.func40 (by kernel_rfl) ZsN,aO.2 ⟨aL.aR Zh Tryz.func41 (by kernel_rfl) ZnA,aO.2 ⟨aL.aR Zh Tryz.func42 (by kernel_rfl) ZlY,aO.2 ⟨aL.aR Zh Tryz.func39 (by kernel_rfl) ZvW,aO.2 ⟨aL.aR Zh Tryz.func47 (by kernel_rfl) ZuD,aO.2 ⟨aL.aR Zh Tryz.func46 (by kernel_rfl) ZvQ,aO.2 ⟨aL.aR Zh Tryz.func45 (by kernel_rfl) ZnG,aO.2 ⟨aL.aR Zh Tryz.func44 (by kernel_rfl) ZsJ,aO.2 ⟨aL.aR Zh Tryz.func43 (by kernel_rfl) Zrv,aO.2 ⟨aL.aR Zh Tryz.func48 (by kernel_rfl) Ztk,aO.2 ⟨aL.aR Zh Tryz.func56 (by kernel_rfl) Zb0,aO.2 ⟨aL.aR Zh Tryz.func57 (by kernel_rfl) Zvy,aO.2 ⟨aL.aR Zh Tryz.func62 (by kernel_rfl) ZvE,aO.2 ⟨aL.aR Zh Tryz.func63 (by kernel_rfl) Zpm,aO.2 ⟨aL.aR Zh Tryz.func59 (by kernel_rfl) ZpT,aO.2 ⟨aL.aR Zh Tryz.func61 (by kernel_rfl) Zvz,aO.2 ⟨aL.aR Zh Tryz.func60 (by kernel_rfl) ZwD,aO.2 ⟨aL.aR Zh Tryz.func65 (by kernel_rfl) Zv0,aO.2 ⟨aL.aR Zh Tryz.func66 (by kernel_rfl) Zrn,aO.2 ⟨aL.aR Zh Tryz.func67 (by kernel_rfl) ZsT,aO.2 ⟨aL.aR Zh Tryz.func69 (by kernel_rfl) ZuM,aO.2 ⟨aL.aR Zh Tryz.func73 (by kernel_rfl) ZqI,aO.2 ⟨aL.aR Zh Tryz.func74 (by kernel_rfl) ZmE,aO.2 ⟨aL.aR Zh Tryz.func85 (by kernel_rfl) Zwi,aO.2 ⟨aL.aR Zh Tryz.func86 (by kernel_rfl) ZuS,aO.2 ⟨aL.aR Zh Tryz.func89 (by kernel_rfl) ZvH,aO.2 ⟨aL.aR Zh Tryz.func88 (by kernel_rfl) ZwC,aO.2 ⟨aL.aR Zh Tryz.func87 (by kernel_rfl) Znd,aO.2 ⟨aL.aR Zh Tryz.func91 (by kernel_rfl) Zwz,aO.2 ⟨aL.aR Zh Tryz.func90 (by kernel_rfl) Zuk,aO.2 ⟨aL.aR Zh Tryz.func92 (by kernel_rfl) ZuG,aO.2 ⟨aL.aR Zh Tryz.func94 (by kernel_rfl) ZpQ,aO.2 ⟨aL.aR Zh Tryz.func96 (by kernel_rfl) Zii,aO.2 ⟨aL.aR Zh Tryz.func95 (by kernel_rfl) Zs0,aO.2 ⟨aL.aR Zh Tryz.func50 (by kernel_rfl) Zwm,aO.2 ⟨aL.aR Zh Tryz.func51 (by kernel_rfl) ZlW,aO.2 ⟨aL.aR Zh Tryz.func97 (by kernel_rfl) Ztr,aO.2 ⟨aL.aR Zh Tryz.func98 (by kernel_rfl) Zl7,aO.2 ⟨aL.aR Zh Tryz.func99 (by kernel_rfl) Zmp,aO.2 ⟨aL.aR Zh Tryz.func52 (by kernel_rfl) Zmi,aO.2 ⟨aL.aR Zh Tryz.func53 (by kernel_rfl) Zln,aO.2 ⟨Zwg Zxv Tryz.isAgg62 Tryz.sizeOf62 rfl Tryz.func102 (by kernel_rfl) (by kernel_rfl) (ZAQ 100) (fc:=103) (by kernel_rfl) (by kernel_rfl) (fun k hk he=>cc (by have:=has_all (P:=fun k=> !Nat.beq (cfgMh.fn k) 159||Nat.beq k 103) (l:=[145,177,199,209,112,218,146,134,100,113,220,133,161,191,64,24,58,29,15,70,72,68,71,93,206,28,217,103,138,137,172,14,16,17,21,20,19,4,22,23,27,25,26,31,30,40,41,42,39,47,46,45,44,43,48,56,57,62,63,59,61,60,65,66,67,69,73,74,85,86,89,88,87,91,90,92,94,96,95,50,51,97,98,99,52,53,102,101,54,104,105,106,107,109,108,110,111,124,125,126,127,128,129,130,131,132,139,140,141,142,143,144,156,157,158,159,160,174,173,175,176,185,186,187,188,189,190,197,198,205,207,208,210,212,213,219]) (by kernel_rfl) k hk;rw[he]at this;simpa using this)) Tryz.func103 (by kernel_rfl) (by kernel_rfl) (N:=100) (fun g hg=>by have:=has_all (P:=fun g=>Nat.blt (cfgMh.gl g) 100) (l:=[0]) (by kernel_rfl) g hg;rwa [lV]at this) (fun x y=>ZAO ZmG _ x y),aO.2 ⟨aL.aR Zh Tryz.func101 (by kernel_rfl) ZmF,aO.2 ⟨aL.aR Zh Tryz.func54 (by kernel_rfl) Zl1,aO.2 ⟨aL.aR Zh Tryz.func104 (by kernel_rfl) ZeD,aO.2 ⟨aL.aR Zh Tryz.func105 (by kernel_rfl) ZgD,aO.2 ⟨aL.aR Zh Tryz.func106 (by kernel_rfl) Zvm,aO.2 ⟨aL.aR Zh Tryz.func107 (by kernel_rfl) ZpJ,aO.2 ⟨aL.aR Zh Tryz.func109 (by kernel_rfl) Zvk,aO.2 ⟨aL.aR Zh Tryz.func108 (by kernel_rfl) ZsO,aO.2 ⟨aL.aR Zh Tryz.func110 (by kernel_rfl) Zor,aO.2 ⟨aL.aR Zh Tryz.func111 (by kernel_rfl) Zwv,aO.2 ⟨aL.aR Zh Tryz.func124 (by kernel_rfl) ZsU,aO.2 ⟨aL.aR Zh Tryz.func125 (by kernel_rfl) ZuT,aO.2 ⟨aL.aR Zh Tryz.func126 (by kernel_rfl) ZvL,aO.2 ⟨aL.aR Zh Tryz.func127 (by kernel_rfl) Zta,aO.2 ⟨aL.aR Zh Tryz.func128 (by kernel_rfl) Zvb,aO.2 ⟨aL.aR Zh Tryz.func129 (by kernel_rfl) ZyQ,aO.2 ⟨aL.aR Zh Tryz.func130 (by kernel_rfl) Zke,aO.2 ⟨aL.aR Zh Tryz.func131 (by kernel_rfl) Zt7,aO.2 ⟨aL.aR Zh Tryz.func132 (by kernel_rfl) Zu3,aO.2 ⟨aL.aR Zh Tryz.func139 (by kernel_rfl) ZsQ,aO.2 ⟨aL.aR Zh Tryz.func140 (by kernel_rfl) Zti,aO.2 ⟨aL.aR Zh Tryz.func141 (by kernel_rfl) Ztg,aO.2 ⟨aL.aR Zh Tryz.func142 (by kernel_rfl) Zwl,aO.2 ⟨aL.aR Zh Tryz.func143 (by kernel_rfl) ZgS,aO.2 ⟨aL.aR Zh Tryz.func144 (by kernel_rfl) ZsI,aO.2 ⟨aL.aR Zh Tryz.func156 (by kernel_rfl) Zw9,aO.2 ⟨aL.aR Zh Tryz.func157 (by kernel_rfl) ZrN,aO.2 ⟨aL.aR Zh Tryz.func158 (by kernel_rfl) Ztl,aO.2 ⟨aL.aR Zh Tryz.func159 (by kernel_rfl) ZoT,aO.2 ⟨aL.aR Zh Tryz.func160 (by kernel_rfl) ZqL,aO.2 ⟨aL.aR Zh Tryz.func174 (by kernel_rfl) ZtT,aO.2 ⟨aL.aR Zh Tryz.func173 (by kernel_rfl) Zxj,aO.2 ⟨aL.aR Zh Tryz.func175 (by kernel_rfl) Zvx,aO.2 ⟨aL.aR Zh Tryz.func176 (by kernel_rfl) ZtF,aO.2 ⟨aL.aR Zh Tryz.func185 (by kernel_rfl) Zs8,aO.2 ⟨aL.aR Zh Tryz.func186 (by kernel_rfl) ZtJ,aO.2 ⟨aL.aR Zh Tryz.func187 (by kernel_rfl) ZoW,aO.2 ⟨aL.aR Zh Tryz.func188 (by kernel_rfl) Zqd,aO.2 ⟨aL.aR Zh Tryz.func189 (by kernel_rfl) Zm8,aO.2 ⟨aL.aR Zh Tryz.func190 (by kernel_rfl) ZoV,aO.2 ⟨aL.aR Zh Tryz.func197 (by kernel_rfl) Zx1,aO.2 ⟨aL.aR Zh Tryz.func198 (by kernel_rfl) Zsu,aO.2 ⟨aL.aR Zh Tryz.func205 (by kernel_rfl) Zv8,aO.2 ⟨aL.aR Zh Tryz.func207 (by kernel_rfl) ZqJ,aO.2 ⟨aL.aR Zh Tryz.func208 (by kernel_rfl) Zs5,aO.2 ⟨aL.aR Zh Tryz.func210 (by kernel_rfl) ZlX,aO.2 ⟨aL.aR Zh Tryz.func212 (by kernel_rfl) ZvT,aO.2 ⟨aL.aR Zh Tryz.func213 (by kernel_rfl) ZqX,aO.2 ⟨aL.aR Zh Tryz.func219 (by kernel_rfl) ZxO,(fun _ h=>by cases h)⟩⟩⟩⟩⟩⟩⟩⟩⟩⟩⟩⟩⟩⟩⟩⟩⟩⟩⟩⟩⟩⟩⟩⟩⟩⟩⟩⟩⟩⟩⟩⟩⟩⟩⟩⟩⟩⟩⟩⟩⟩⟩⟩⟩⟩⟩⟩⟩⟩⟩⟩⟩⟩⟩⟩⟩⟩⟩⟩⟩⟩⟩⟩⟩⟩⟩⟩⟩⟩⟩⟩⟩⟩⟩⟩⟩⟩⟩⟩⟩⟩⟩⟩⟩⟩⟩⟩⟩⟩⟩⟩⟩⟩⟩⟩⟩⟩⟩⟩⟩⟩⟩⟩⟩⟩⟩⟩⟩⟩⟩⟩⟩⟩⟩⟩⟩⟩⟩⟩⟩⟩⟩⟩⟩⟩⟩⟩⟩⟩⟩⟩⟩⟩⟩⟩⟩)
theorem Zny:Mw (bdOf bdsMh):=⟨by kernel_rfl⟩
theorem Zpy:Nh (bdOf bdsMh):=⟨by kernel_rfl,Zny⟩
theorem Zj0:GI (bdOf bdsMh):=⟨by kernel_rfl,Zpy⟩
theorem ZqB:NI (bdOf bdsMh):=⟨by kernel_rfl⟩
theorem Zwx:OQ (bdOf bdsMh):=⟨by kernel_rfl,ZqB⟩
theorem Zri:Ns (bdOf bdsMh):=⟨by kernel_rfl,Zwx⟩
theorem Zu2:Ou (bdOf bdsMh):=⟨by kernel_rfl⟩
theorem Zo4:M1 (bdOf bdsMh):=⟨by kernel_rfl,Zu2,Zj0⟩
theorem ZqC:NN (bdOf bdsMh):=⟨by kernel_rfl⟩
theorem Zl4:MH (bdOf bdsMh):=⟨by kernel_rfl⟩
theorem Zk6:Ml (bdOf bdsMh):=⟨by kernel_rfl,Zl4⟩
theorem ZgU:Mk (bdOf bdsMh):=⟨by kernel_rfl,Zk6⟩
theorem Zof:MN (bdOf bdsMh):=⟨by kernel_rfl,ZqC,ZgU⟩
theorem ZnC:MP (bdOf bdsMh):=⟨by kernel_rfl,Zj0⟩
theorem Zi9:Mh (bdOf bdsMh):=⟨by kernel_rfl⟩
theorem ZqT:Nq (bdOf bdsMh):=⟨by kernel_rfl⟩
theorem Zi4:Mj (bdOf bdsMh):=⟨by kernel_rfl⟩
theorem M9:Cx (bdOf bdsMh):=⟨by kernel_rfl⟩
theorem ZjM:G9 (bdOf bdsMh):=⟨by kernel_rfl⟩
theorem Zpd:Nv (bdOf bdsMh):=⟨by kernel_rfl⟩
theorem ZpY:M2 (bdOf bdsMh):=⟨by kernel_rfl,Zo4,ZnC,Zpd⟩
theorem Znv:MR (bdOf bdsMh):=⟨by kernel_rfl⟩
theorem Zs1:NC (bdOf bdsMh):=⟨by kernel_rfl,ZjM,ZpY,Znv,M9⟩
theorem Zqn:MX (bdOf bdsMh):=⟨by kernel_rfl⟩
theorem Zku:HZ (bdOf bdsMh):=⟨by kernel_rfl⟩
theorem ZgQ:ZdB (bdOf bdsMh):=⟨by kernel_rfl⟩
theorem ZfE:Mc (bdOf bdsMh):=⟨by kernel_rfl,ZgQ⟩
theorem Zqz:Nk (bdOf bdsMh):=⟨by kernel_rfl⟩
theorem ZnD:My (bdOf bdsMh):=⟨by kernel_rfl⟩
theorem ZlS:FU (bdOf bdsMh):=⟨by kernel_rfl,ZnD⟩
theorem Zjd:yd (bdOf bdsMh):=⟨by kernel_rfl,Zqz,ZlS⟩
theorem MO:Cq (bdOf bdsMh):=⟨by kernel_rfl⟩
theorem Zpc:Nf (bdOf bdsMh):=⟨by kernel_rfl⟩
theorem we:sT (bdOf bdsMh):=⟨by kernel_rfl,Zpc⟩
theorem Zq4:NJ (bdOf bdsMh):=⟨by kernel_rfl⟩
theorem ZpU:M7 (bdOf bdsMh):=⟨by kernel_rfl,Zq4⟩
theorem ZlJ:Im (bdOf bdsMh):=⟨by kernel_rfl,ZpU⟩
theorem ZqW:NT (bdOf bdsMh):=⟨by kernel_rfl⟩
theorem yc:uy (bdOf bdsMh):=⟨by kernel_rfl,we,ZlJ,ZqW⟩
theorem Zth:N6 (bdOf bdsMh):=⟨by kernel_rfl,we,yc⟩
theorem Gg:Ae (bdOf bdsMh):=⟨by kernel_rfl⟩
theorem Zs3:NH (bdOf bdsMh):=⟨by kernel_rfl,we,yc⟩
theorem Zlo:F6 (bdOf bdsMh):=⟨by kernel_rfl,Gg,Zs3⟩
theorem Ztd:Oa (bdOf bdsMh):=⟨by kernel_rfl,we,yc⟩
theorem Mz:Cr (bdOf bdsMh):=⟨by kernel_rfl⟩
theorem Ztb:N1 (bdOf bdsMh):=⟨by kernel_rfl,we,yc,Mz⟩
theorem ZlV:Mt (bdOf bdsMh):=⟨by kernel_rfl,Gg,Zlo,Ztd,Ztb⟩
theorem Zq0:NQ (bdOf bdsMh):=⟨by kernel_rfl,Mz⟩
theorem Zrq:NK (bdOf bdsMh):=⟨by kernel_rfl,we,yc,Zq0⟩
theorem Zsy:Ob (bdOf bdsMh):=⟨by kernel_rfl,we,yc,Mz⟩
theorem Zkv:Mp (bdOf bdsMh):=⟨by kernel_rfl,Gg,Zrq,Zsy⟩
theorem Zrt:NR (bdOf bdsMh):=⟨by kernel_rfl⟩
theorem Zjs:Ha (bdOf bdsMh):=⟨by kernel_rfl,Zrt⟩
theorem Zo1:MY (bdOf bdsMh):=⟨by kernel_rfl,Zjs,ZjM⟩
theorem ZlG:HM (bdOf bdsMh):=⟨by kernel_rfl,yc⟩
theorem ZkL:H5 (bdOf bdsMh):=⟨by kernel_rfl⟩
theorem ZjG:HG (bdOf bdsMh):=⟨by kernel_rfl,MO,Zs1,Zth,ZlV,Zkv,Zjs,Zo1,Gg,ZlG,ZkL⟩
theorem Zi3:Hb (bdOf bdsMh):=⟨by kernel_rfl⟩
theorem Gy:Ak (bdOf bdsMh):=⟨by kernel_rfl,Zi3⟩
theorem HO:Ay (bdOf bdsMh):=⟨by kernel_rfl,Gy⟩
theorem Znz:Mx (bdOf bdsMh):=⟨by kernel_rfl⟩
theorem ZnV:I4 (bdOf bdsMh):=⟨by kernel_rfl⟩
theorem Zpi:M3 (bdOf bdsMh):=⟨by kernel_rfl,Zku,ZnV⟩
theorem Zjh:Mi (bdOf bdsMh):=⟨by kernel_rfl⟩
theorem Zdk:FR (bdOf bdsMh):=⟨by kernel_rfl,Zjh⟩
theorem Zqh:Nu (bdOf bdsMh):=⟨by kernel_rfl,Zku,Znz,Zpi,Zdk⟩
theorem ye:ZZ (bdOf bdsMh):=⟨by kernel_rfl⟩
theorem Zrp:NL (bdOf bdsMh):=⟨by kernel_rfl⟩
theorem Zqs:Ni (bdOf bdsMh):=⟨by kernel_rfl,ZnV,Zrp⟩
theorem ZiS:GS (bdOf bdsMh):=⟨by kernel_rfl,Zi3⟩
theorem ZlM:HV (bdOf bdsMh):=⟨by kernel_rfl⟩
theorem ZjL:GP (bdOf bdsMh):=⟨by kernel_rfl⟩
theorem Ad:wh (bdOf bdsMh):=⟨by kernel_rfl,ZjL⟩
theorem Zug:Ot (bdOf bdsMh):=⟨by kernel_rfl⟩
theorem Ztt:N2 (bdOf bdsMh):=⟨by kernel_rfl,Zug⟩
theorem Zol:MJ (bdOf bdsMh):=⟨by kernel_rfl⟩
theorem Zwc:OV (bdOf bdsMh):=⟨by kernel_rfl,Ztt,Zol⟩
theorem Zvi:Oj (bdOf bdsMh):=⟨by kernel_rfl,Zwc⟩
theorem Ai:wb (bdOf bdsMh):=⟨by kernel_rfl⟩
theorem Zp3:M4 (bdOf bdsMh):=⟨by kernel_rfl,Ad,Zvi,Ai⟩
theorem Zpe:Nz (bdOf bdsMh):=⟨by kernel_rfl⟩
theorem Aj:wg (bdOf bdsMh):=⟨by kernel_rfl,Zp3,Zpe⟩
theorem ZsD:N7 (bdOf bdsMh):=⟨by kernel_rfl,ZjL,Ai⟩
theorem Zpk:M5 (bdOf bdsMh):=⟨by kernel_rfl,ZsD⟩
theorem ZoJ:MM (bdOf bdsMh):=⟨by kernel_rfl⟩
theorem ZrH:Nl (bdOf bdsMh):=⟨by kernel_rfl,ZfE,ZoJ⟩
theorem Zue:NW (bdOf bdsMh):=⟨by kernel_rfl,Aj,Ad,Zpk,ZrH⟩
theorem ZjF:GZ (bdOf bdsMh):=⟨by kernel_rfl⟩
theorem ZmH:MG (bdOf bdsMh):=⟨by kernel_rfl,ZjF⟩
theorem ZoI:MV (bdOf bdsMh):=⟨by kernel_rfl,Aj,Ai,ZmH⟩
theorem ZnH:Mu (bdOf bdsMh):=⟨by kernel_rfl,ZjF⟩
theorem Zpp:Nd (bdOf bdsMh):=⟨by kernel_rfl,Aj,Ad,Ai,ZnH⟩
theorem Zfx:FY (bdOf bdsMh):=⟨by kernel_rfl⟩
theorem Zlv:Mn (bdOf bdsMh):=⟨by kernel_rfl,Zri,Zfx⟩
theorem Zmz:ME (bdOf bdsMh):=⟨by kernel_rfl,Aj,Ad,Ai,Zlv⟩
theorem Znb:MF (bdOf bdsMh):=⟨by kernel_rfl,Zdk,Zfx⟩
theorem ZoP:MI (bdOf bdsMh):=⟨by kernel_rfl,Aj,Ad,Ai,Znb⟩
theorem Zra:Nn (bdOf bdsMh):=⟨by kernel_rfl,Zue,ZoI,Zpp,Zmz,ZoP⟩
theorem Gf:Z3 (bdOf bdsMh):=⟨by kernel_rfl,ZiS,ye,ZlM,Gy,Zra⟩
theorem ZkX:Gd (bdOf bdsMh):=⟨by kernel_rfl,ye,Gf⟩
theorem Zkt:Mq (bdOf bdsMh):=⟨by kernel_rfl,ye,Zqs,Gf,ZkX⟩
theorem Zlh:Mo (bdOf bdsMh):=⟨by kernel_rfl,ye⟩
theorem Zk8:Gb (bdOf bdsMh):=⟨by kernel_rfl,ye,Gf,Zjd⟩
theorem ZdD:Z1 (bdOf bdsMh):=⟨by kernel_rfl⟩
theorem Zj9:Ms (bdOf bdsMh):=⟨by kernel_rfl,ye,Gf,Zof,Zk8,ZdD,Zjd⟩
theorem Zli:Mm (bdOf bdsMh):=⟨by kernel_rfl⟩
theorem M6:Al (bdOf bdsMh):=⟨by kernel_rfl,HO,Zqh,ye,Zkt,Zlh,Zj9,Zli⟩
theorem ZbU:ZD (bdOf bdsMh):=⟨by kernel_rfl⟩
theorem ZdY:Mg (bdOf bdsMh):=⟨by kernel_rfl⟩
theorem Zsx:Ig (bdOf bdsMh):=⟨by kernel_rfl,ZdY⟩
theorem Zs4:Oc (bdOf bdsMh):=⟨by kernel_rfl,ZbU,Zsx,Zi4⟩
theorem Zgd:Mf (bdOf bdsMh):=⟨by kernel_rfl⟩
theorem Znx:MS (bdOf bdsMh):=⟨by kernel_rfl,Zgd⟩
theorem ZsR:Od (bdOf bdsMh):=⟨by kernel_rfl,Aj,Ad⟩
theorem Zp1:M8 (bdOf bdsMh):=⟨by kernel_rfl⟩
theorem Zqc:Na (bdOf bdsMh):=⟨by kernel_rfl⟩
theorem Ztu:NF (bdOf bdsMh):=⟨by kernel_rfl,Zqc⟩
theorem Ztc:ND (bdOf bdsMh):=⟨by kernel_rfl,Ztu⟩
theorem ZrL:NM (bdOf bdsMh):=⟨by kernel_rfl,Ztc⟩
theorem Ztf:N9 (bdOf bdsMh):=⟨by kernel_rfl,HO,Gy,Zp1,ZrL⟩
theorem Zig:Gt (bdOf bdsMh):=⟨by kernel_rfl,Zi9⟩
theorem ZfL:Me (bdOf bdsMh):=⟨by kernel_rfl⟩
theorem ZmI:MB (bdOf bdsMh):=⟨by kernel_rfl,ZfL⟩
theorem Znu:Mv (bdOf bdsMh):=⟨by kernel_rfl,Zig,Gy,ZmI⟩
theorem ZiV:Hm (bdOf bdsMh):=⟨by kernel_rfl,M6,HO,ZiS,Znx,ZsR,ZlM,Ztf,Znu⟩
theorem ZlE:Mr (bdOf bdsMh):=⟨by kernel_rfl⟩
theorem ZmK:MD (bdOf bdsMh):=⟨by kernel_rfl,ZlE⟩
theorem Zpj:Ny (bdOf bdsMh):=⟨by kernel_rfl⟩
theorem Zo2:Nc (bdOf bdsMh):=⟨by kernel_rfl,ZjG,M6,Zs4,ZiV,ZmK,Zpj⟩
theorem ZlN:HU (bdOf bdsMh):=⟨by kernel_rfl,M9⟩
theorem ZtH:OC (bdOf bdsMh):=⟨by kernel_rfl,ZlN⟩
theorem Zo5:Nb (bdOf bdsMh):=⟨by kernel_rfl,we,ZlJ⟩
theorem ZoX:MU (bdOf bdsMh):=⟨by kernel_rfl,MO,Zo5⟩
theorem ZqZ:Nt (bdOf bdsMh):=⟨by kernel_rfl⟩
theorem ZnE:MQ (bdOf bdsMh):=⟨by kernel_rfl,ZlG,ZkL,ZlN,M9,ZqZ⟩
theorem has_law26_MarkCharts:Zhz (bdOf bdsMh):=⟨by kernel_rfl,Zo2,Zqn,ZjG,M6,ZiV,Zig,ZtH,HO,ZqT,MO,ZoX,ZnE⟩
end Go.Gv
