/- The ties of a seat: written by gvseat.py. -/
import Derived.Test.YtegglibipjjblaaGreatDoorGvZRun
import Derived.Test.YtegglibipjjblaaGreatDoorGvSortOk
import Derived.Test.YtegglibipjjblaaGreatDoorGvZLaw
import Derived.Test.YtegglibipjjblaaGreatDoorGvZBod
import Derived.Test.YtegglibipjjblaaGreatDoorGvBMk
import Derived.Test.YtegglibipjjblaaGreatDoorProg
namespace Go.Gv
open Go.Proofs
set_option maxRecDepth 100000
noncomputable section
noncomputable def cfgMs:Cfg:=⟨Tryz.prog,lkN [(145,12),(177,15),(199,19),(209,26),(112,27),(218,28),(146,29),(134,34),(100,39),(113,40),(220,54),(133,57),(161,64),(191,72),(64,86),(24,113),(58,114),(29,133),(18,136),(15,138),(70,141),(72,142),(68,143),(71,144),(93,145),(206,147),(55,153),(28,155),(217,156),(103,159),(138,161),(137,162),(172,163),(14,169),(16,170),(17,171),(21,172),(20,173),(19,174),(23,177),(25,179),(5,181),(31,183),(30,184),(40,188),(41,189),(42,190),(39,191),(47,192),(46,193),(45,194),(44,195),(43,196),(48,197),(56,198),(57,199),(62,200),(63,201),(59,202),(61,203),(60,204),(66,206),(73,209),(74,210),(85,213),(86,214),(89,215),(88,216),(87,217),(91,218),(90,219),(92,220),(94,221),(96,222),(95,223),(50,225),(51,226),(97,227),(98,228),(99,229),(52,230),(53,231),(102,232),(101,233),(54,234),(104,235),(105,236),(106,237),(107,238),(109,239),(108,240),(110,241),(111,242),(124,248),(125,249),(126,250),(127,251),(128,252),(129,253),(130,254),(131,255),(132,256),(139,259),(140,260),(141,261),(142,262),(143,263),(144,264),(156,272),(157,273),(158,274),(159,275),(160,276),(174,285),(173,286),(175,287),(176,288),(185,295),(186,296),(187,297),(188,298),(189,299),(190,300),(197,306),(198,307),(205,312),(207,313),(208,314),(210,315),(212,317),(213,318),(219,320)],has [145,177,199,209,112,218,146,134,100,113,220,133,161,191,64,24,58,29,18,15,70,72,68,71,93,206,55,28,217,103,138,137,172,14,16,17,21,20,19,23,25,5,31,30,40,41,42,39,47,46,45,44,43,48,56,57,62,63,59,61,60,66,73,74,85,86,89,88,87,91,90,92,94,96,95,50,51,97,98,99,52,53,102,101,54,104,105,106,107,109,108,110,111,124,125,126,127,128,129,130,131,132,139,140,141,142,143,144,156,157,158,159,160,174,173,175,176,185,186,187,188,189,190,197,198,205,207,208,210,212,213,219],tyN [(9,0),(143,4),(159,5),(163,2),(166,1),(171,3),(202,6)],lkN [(0,2)],has [0],lkE [(23,[.int .i64,.int .i64,.int .i64]),(62,[.int .i64,.int .i64,.int .i64,.int .i64]),(137,[.bool,.int .i64,.int .i64])],has [101]⟩
theorem Zru:bodyM cfgMs ⟨[],(.n .z (.n .z (.n (.j [(3,.v (.b (.slice 1)))] (.j [(0,.v (.b (.str))),(3,.v (.b (.slice 1)))] .z .z) .z) .z))),true⟩ Tryz.f145=Zei:=by kernel_rfl
theorem ZrL:bodyM cfgMs ⟨[],(.n .z (.n .z (.n .z (.n (.n (.n .z (.n .z (.n .z (.n .z (.n .z (.j [] (.n (.n .z (.j [(5,.v (.b (.int .u8)))] .z .z)) (.n (.n .z (.j [(6,.v (.b (.int .u8)))] .z .z)) .z)) (.n .z (.j [] (.n (.n .z (.j [(5,.v (.b (.int .u8)))] .z .z)) (.n (.n .z (.j [(6,.v (.b (.int .u8)))] .z .z)) .z)) .z)))))))) .z) .z)))),false⟩ Tryz.f177=Zew:=by kernel_rfl
theorem ZnN:bodyM cfgMs ⟨[],.z,false⟩ Tryz.f199=Zdo:=by kernel_rfl
theorem Zsk:bodyM cfgMs ⟨[],(.n .z (.n .z (.n (.n .z (.j [(3,.v (.b (.int .i64)))] (.j [(3,.v (.b (.int .i64))),(7,.t)] .z .z) .z)) .z))),false⟩ Tryz.f209=Zfk:=by kernel_rfl
theorem Zrg:bodyM cfgMs ⟨[],(.n .z (.n .z (.n .z (.n (.n .z (.j [(4,.v (.b (.bool)))] (.j [(4,.v (.b (.bool))),(5,.v (.b (.int .i64)))] .z .z) .z)) .z)))),false⟩ Tryz.f112=ZeB:=by kernel_rfl
theorem Zwa:bodyM cfgMs ⟨[4],(.n .z (.n (.n .z (.j [] (.j [(6,.v (.b (.int .i64)))] .z .z) .z)) .z)),false⟩ Tryz.f218=ZiW:=by kernel_rfl
theorem ZvW:bodyM cfgMs ⟨[],.z,false⟩ Tryz.f146=Zhs:=by kernel_rfl
theorem Zth:bodyM cfgMs ⟨[],(.n .z (.n .z (.n (.n .z (.j [(3,.v (.b (.slice 1)))] (.j [(3,.v (.b (.slice 1))),(7,.t)] .z .z) .z)) .z))),true⟩ Tryz.f134=Zfl:=by kernel_rfl
theorem Zp0:bodyM cfgMs ⟨[],.z,false⟩ Tryz.f100=ZdP:=by kernel_rfl
theorem ZnR:bodyM cfgMs ⟨[],(.n .z (.n .z (.n (.n .z (.j [] (.j [(7,.v (.b (.int .i64)))] .z .z) .z)) .z))),false⟩ Tryz.f113=Zdt:=by kernel_rfl
theorem Zts:bodyM cfgMs ⟨[0],.z,false⟩ Tryz.f220=ZhS:=by kernel_rfl
theorem Zg3:bodyM cfgMs ⟨[],(.n .z (.n (.n .z (.j [] (.j [(11,.v (.b (.int .i64)))] .z .z) .z)) .z)),false⟩ Tryz.f133=Z9:=by kernel_rfl
theorem Zlx:bodyM cfgMs ⟨[],.z,false⟩ Tryz.f161=Zcu:=by kernel_rfl
theorem ZnG:bodyM cfgMs ⟨[],.z,false⟩ Tryz.f191=ZcY:=by kernel_rfl
theorem Zjx:bodyM cfgMs ⟨[],.z,false⟩ Tryz.f64=Z8:=ZyZ (fun c=>by kernel_rfl) (by kernel_rfl)
theorem Zsz:bodyM cfgMs ⟨[],(.n .z (.n .z (.n (.n .z (.j [] (.j [(5,.v (.b (.int .i64)))] .z .z) .z)) .z))),false⟩ Tryz.f24=ZcN:=by kernel_rfl
theorem Zjw:bodyM cfgMs ⟨[],(.n .z (.n .z (.n (.n .z (.j [] (.j [(13,.v (.b (.int .i64)))] .z .z) .z)) .z))),false⟩ Tryz.f58=ZbD:=by kernel_rfl
theorem ZuS:bodyM cfgMs ⟨[1,7],(.n .z (.n .z (.n .z (.n .z (.n .z (.n .z (.n (.n .z (.j [] (.j [(6,.v (.b (.int .i64)))] .z .z) .z)) (.n (.n .z (.j [] (.j [(8,.v (.b (.int .i64)))] .z .z) .z)) (.n (.n .z (.j [] (.j [(10,.v (.b (.int .i64)))] .z .z) .z)) .z))))))))),false⟩ Tryz.f29=Zgc:=by kernel_rfl
theorem Zsc:bodyM cfgMs ⟨[2,3],(.n .z (.n .z (.n (.n .z (.j [] (.j [(5,.v (.b (.int .i64)))] .z .z) .z)) .z))),false⟩ Tryz.f18=Ze4:=by kernel_rfl
theorem Zq9:bodyM cfgMs ⟨[1],(.n .z (.n .z (.n (.n .z (.j [] (.j [(3,.v (.b (.int .i64)))] .z .z) .z)) .z))),false⟩ Tryz.f15=Zeq:=by kernel_rfl
theorem ZrX:bodyM cfgMs ⟨[1],.z,false⟩ Tryz.f70=Zeg:=by kernel_rfl
theorem ZnT:bodyM cfgMs ⟨[1],(.n .z (.n .z (.n (.n .z (.j [(3,.v (.b (.slice 4)))] (.j [(3,.v (.b (.slice 4))),(4,.v (.b (.int .i64)))] .z .z) .z)) .z))),true⟩ Tryz.f72=Zdu:=by kernel_rfl
theorem Zut:bodyM cfgMs ⟨[],(.n .z (.n (.n .z (.j [] (.j [(5,.v (.b (.int .i64)))] .z .z) .z)) .z)),false⟩ Tryz.f68=Zgj:=by kernel_rfl
theorem ZrG:bodyM cfgMs ⟨[],(.n .z (.n .z (.n (.n .z (.j [] (.j [(3,.v (.b (.int .i64)))] (.n .z (.n (.j [] (.n .z (.n .z (.j [] (.j [(4,.v (.b (.int .i64)))] .z .z) .z))) .z) .z)) .z) .z)) .z))),false⟩ Tryz.f71=Zep:=by kernel_rfl
theorem Zsh:bodyM cfgMs ⟨[1],.z,false⟩ Tryz.f93=ZcL:=by kernel_rfl
theorem ZfN:bodyM cfgMs ⟨[],.z,false⟩ Tryz.f206=ZY:=by kernel_rfl
theorem ZnQ:bodyM cfgMs ⟨[],(.n .z (.n .z (.n (.n .z (.j [] (.j [(5,.v (.b (.int .i64)))] .z .z) .z)) .z))),false⟩ Tryz.f55=Zbl:=by kernel_rfl
theorem Zrj:bodyM cfgMs ⟨[2,3],.z,false⟩ Tryz.f28=Zex:=by kernel_rfl
theorem Zhc:bodyM cfgMs ⟨[],(.n .z (.n (.n .z (.j [] (.j [(8,.v (.b (.int .i64)))] .z .z) .z)) .z)),false⟩ Tryz.f217=Zba:=by kernel_rfl
theorem Zj3:bodyM cfgMs ⟨[2,3],.z,false⟩ Tryz.f103=ZcH:=by kernel_rfl
theorem Zhk:bodyM cfgMs ⟨[],.z,false⟩ Tryz.f138=ZbW:=by kernel_rfl
theorem Zlj:bodyM cfgMs ⟨[],(.n .z (.n .z (.n (.n .z (.j [] (.j [(8,.v (.b (.int .i64)))] .z .z) .z)) .z))),false⟩ Tryz.f137=Zdx:=by kernel_rfl
theorem ZiZ:bodyM cfgMs ⟨[],.z,false⟩ Tryz.f172=Zco:=by kernel_rfl
theorem ZrP:bodyM cfgMs ⟨[2,4],.z,false⟩ Tryz.f14=Zek:=by kernel_rfl
theorem Zrz:bodyM cfgMs ⟨[3,7,10],(.n .z (.n .z (.n .z (.n .z (.n .z (.n .z (.n .z (.n .z (.n (.n .z (.j [(10,.l [.int .i64,.int .i64,.int .i64,.int .i64,.int .i64,.int .i64,.int .i64,.int .i64,.slice 1])] .z .z)) (.n .z (.n (.n .z (.j [(10,.l [.int .i64,.int .i64,.int .i64,.int .i64,.int .i64,.int .i64,.int .i64,.int .i64,.slice 1])] (.j [(10,.l [.int .i64,.int .i64,.int .i64,.int .i64,.int .i64,.int .i64,.int .i64,.int .i64,.slice 1]),(12,.v (.b (.int .i64)))] .z .z) .z)) (.n (.n .z (.j [(11,.v (.b (.slice 1)))] (.j [(11,.v (.b (.slice 1))),(13,.v (.b (.int .i64)))] .z .z) .z)) (.n .z (.n (.n .z (.j [] (.j [(14,.v (.b (.int .i64)))] .z .z) .z)) .z)))))))))))))),false⟩ Tryz.f16=ZeA:=by kernel_rfl
theorem Zt4:bodyD cfgMs 3 Tryz.f17 Tryz.f49=ZgE:=by kernel_rfl
theorem ZoJ:bodyM cfgMs ⟨[],(.n .z (.n .z (.n (.n .z (.j [(3,.v (.b (.slice 1)))] (.j [(3,.v (.b (.slice 1))),(11,.v (.b (.int .i64)))] (.n .z (.n .z (.n (.j [(3,.v (.b (.slice 1)))] (.n .z (.j [(3,.v (.b (.slice 1)))] (.j [(3,.v (.b (.slice 1))),(5,.v (.b (.int .u64)))] .z .z) .z)) .z) .z))) .z) .z)) .z))),false⟩ Tryz.f21=Zdm:=by kernel_rfl
theorem ZpU:bodyM cfgMs ⟨[4,7,13],(.n .z (.n .z (.n .z (.n .z (.n (.n .z (.j [(10,.v (.b (.slice 49)))] (.j [(10,.v (.b (.slice 49))),(39,.v (.b (.int .i64)))] .z .z) .z)) .z))))),false⟩ Tryz.f20=ZdO:=by kernel_rfl
theorem Zuy:bodyM cfgMs ⟨[2,3],.z,false⟩ Tryz.f19=ZgC:=by kernel_rfl
theorem Zwq:bodyM cfgMs ⟨[],.z,false⟩ Tryz.f23=ZiS:=by kernel_rfl
theorem ZtQ:bodyM cfgMs ⟨[],.z,false⟩ Tryz.f25=Zfe:=by kernel_rfl
theorem ZmI:bodyM cfgMs ⟨[2,3,5],.z,false⟩ Tryz.f5=ZcC:=by kernel_rfl
theorem ZnF:bodyM cfgMs ⟨[],(.n .z (.n .z (.n (.n .z (.j [(3,.v (.b (.int .i64)))] (.j [(3,.v (.b (.int .i64))),(11,.v (.b (.int .i64)))] .z .z) .z)) .z))),false⟩ Tryz.f31=Zc0:=by kernel_rfl
theorem ZpO:bodyM cfgMs ⟨[],.z,false⟩ Tryz.f30=ZdY:=by kernel_rfl
theorem Zrk:bodyM cfgMs ⟨[0],.z,true⟩ Tryz.f40=Zet:=by kernel_rfl
theorem Zms:bodyM cfgMs ⟨[7],(.n .z (.n .z (.n (.n .z (.j [(5,.v (.b (.slice 1)))] (.j [(5,.v (.b (.slice 1))),(6,.v (.b (.int .i64)))] (.n .z (.n (.j [(5,.v (.b (.slice 1)))] (.n .z (.n .z (.n (.n .z (.j [(7,.l [.str,.int .i64,.blob 12])] (.j [(7,.l [.str,.int .i64,.blob 12]),(8,.v (.b (.slice 4))),(9,.v (.b (.int .i64)))] (.n .z (.n (.n (.n .z (.j [(7,.l [.str,.int .i64,.blob 12]),(8,.v (.b (.slice 4)))] .z .z)) .z) .z)) .z) .z)) .z))) .z) .z)) .z) .z)) .z))),false⟩ Tryz.f41=ZcD:=by kernel_rfl
theorem Zk5:bodyM cfgMs ⟨[3,7,12,14],(.n .z (.n .z (.n (.n .z (.j [(5,.v (.b (.slice 1)))] (.j [(5,.v (.b (.slice 1))),(6,.v (.b (.int .i64)))] (.n .z (.n (.j [(5,.v (.b (.slice 1)))] (.n .z (.n (.n .z (.j [(7,.l [.blob 21])] (.j [(7,.l [.blob 21]),(8,.v (.b (.int .i64)))] (.n .z (.n (.j [(7,.l [.blob 21])] (.n .z (.n (.n .z (.j [(7,.l [.blob 21])] .z .z)) (.n .z (.j [(7,.l [.blob 21])] (.j [(7,.l [.blob 21]),(9,.v (.b (.int .i64)))] (.n .z (.n (.n (.n .z (.j [(7,.l [.blob 21])] .z .z)) .z) .z)) .z) .z)))) .z) .z)) .z) .z)) .z)) .z) .z)) .z) .z)) (.n .z (.n .z (.n (.n .z (.j [(12,.l [.blob 16])] (.j [(12,.l [.blob 16]),(13,.v (.b (.int .i64)))] (.n .z (.n (.j [(12,.l [.blob 16])] (.n .z (.n (.n .z (.j [(14,.l [.blob 16])] (.j [(14,.l [.blob 16]),(15,.v (.b (.int .i64)))] .z .z) .z)) .z)) .z) .z)) .z) .z)) .z)))))),false⟩ Tryz.f42=Zce:=by kernel_rfl
theorem Zus:bodyM cfgMs ⟨[1],(.n .z (.n .z (.n .z (.n (.n .z (.j [(3,.v (.b (.str)))] (.j [(3,.v (.b (.str))),(4,.v (.b (.int .i64)))] .z .z) .z)) .z)))),false⟩ Tryz.f39=Zgq:=by kernel_rfl
theorem Ztd:bodyM cfgMs ⟨[4,5],(.n .z (.n .z (.n (.n .z (.j [(5,.l [.int .i64,.blob 48])] (.j [(5,.l [.int .i64,.blob 48]),(6,.v (.b (.int .i64)))] (.n .z (.n (.n (.n .z (.j [(5,.l [.int .i64,.blob 48])] .z .z)) .z) .z)) .z) .z)) .z))),false⟩ Tryz.f47=Zfg:=by kernel_rfl
theorem Zur:bodyM cfgMs ⟨[],.z,false⟩ Tryz.f46=Zgn:=by kernel_rfl
theorem ZmG:bodyM cfgMs ⟨[],(.n .z (.n .z (.n .z (.n (.n .z (.j [] .z .z)) .z)))),false⟩ Tryz.f45=ZcE:=by kernel_rfl
theorem Zrf:bodyM cfgMs ⟨[1],(.n .z (.n .z (.n .z (.n .z (.n (.n .z (.j [(3,.v (.b (.slice 1)))] .z .z)) (.n (.n .z (.j [(3,.v (.b (.slice 1)))] .z .z)) (.n (.n .z (.j [(3,.v (.b (.slice 1)))] (.j [(3,.v (.b (.slice 1))),(4,.v (.b (.int .i64)))] (.n .z (.n (.j [(3,.v (.b (.slice 1)))] (.n .z (.n .z (.j [] (.j [(5,.v (.b (.int .i64)))] .z .z) .z))) .z) .z)) .z) .z)) (.n (.n .z (.j [] (.j [(6,.v (.b (.int .i64)))] .z .z) .z)) .z)))))))),false⟩ Tryz.f44=Zej:=by kernel_rfl
theorem Zqk:bodyM cfgMs ⟨[1],.z,false⟩ Tryz.f43=ZdV:=by kernel_rfl
theorem ZrH:bodyM cfgMs ⟨[],(.n .z (.n .z (.n .z (.n .z (.n (.n .z (.j [] (.j [(102,.v (.b (.int .i64)))] .z .z) .z)) .z))))),false⟩ Tryz.f48=ZeG:=by kernel_rfl
theorem ZbL:bodyM cfgMs ⟨[8,9],(.n .z (.n .z (.n (.n .z (.j [] (.j [(17,.v (.b (.int .i64)))] .z .z) .z)) .z))),false⟩ Tryz.f56=Zt:=by kernel_rfl
theorem Zuh:bodyM cfgMs ⟨[2,3],.z,false⟩ Tryz.f57=Zgf:=by kernel_rfl
theorem Zun:bodyM cfgMs ⟨[8],(.n .z (.n .z (.n .z (.n (.n .z (.j [] (.j [(27,.v (.b (.int .i64)))] .z .z) .z)) .z)))),false⟩ Tryz.f62=Zgw:=by kernel_rfl
theorem Zo0:bodyM cfgMs ⟨[],.z,false⟩ Tryz.f63=Zds:=by kernel_rfl
theorem ZoH:bodyM cfgMs ⟨[],.z,false⟩ Tryz.f59=Zdn:=by kernel_rfl
theorem ZuF:bodyM cfgMs ⟨[],.z,true⟩ Tryz.f61=Zgg:=by kernel_rfl
theorem Zuu:bodyM cfgMs ⟨[2],.z,false⟩ Tryz.f60=Zgv:=by kernel_rfl
theorem Zp7:bodyM cfgMs ⟨[],(.n .z (.j [] (.j [(8,.v (.b (.int .i64)))] (.n .z (.n .z (.n (.n (.n .z (.n .z (.j [] .z .z))) .z) .z))) .z) .z)),false⟩ Tryz.f66=ZdM:=by kernel_rfl
theorem Zpo:bodyM cfgMs ⟨[],.z,false⟩ Tryz.f73=Zd3:=by kernel_rfl
theorem ZlR:bodyM cfgMs ⟨[],.z,false⟩ Tryz.f74=Zcw:=by kernel_rfl
theorem Zux:bodyM cfgMs ⟨[],(.n .z (.n .z (.n (.n .z (.j [(5,.v (.b (.str)))] (.j [(5,.v (.b (.str))),(6,.v (.b (.int .i64)))] .z .z) .z)) .z))),false⟩ Tryz.f85=Zge:=by kernel_rfl
theorem ZsK:bodyM cfgMs ⟨[],.z,false⟩ Tryz.f86=ZfL:=by kernel_rfl
theorem ZuI:bodyM cfgMs ⟨[],(.n .z (.n .z (.n .z (.n (.n .z (.j [(4,.v (.b (.str)))] (.j [(4,.v (.b (.str))),(5,.v (.b (.int .i64)))] (.n .z (.n (.j [(4,.v (.b (.str)))] (.n .z (.n (.n .z (.j [] (.j [(6,.v (.b (.int .i64)))] .z .z) .z)) .z)) .z) .z)) .z) .z)) .z)))),false⟩ Tryz.f89=Zgr:=by kernel_rfl
theorem Zuj:bodyM cfgMs ⟨[1],(.n .z (.n .z (.n (.n .z (.j [(3,.v (.b (.str)))] (.j [(3,.v (.b (.str))),(4,.v (.b (.int .i64)))] .z .z) .z)) .z))),false⟩ Tryz.f88=Zgk:=by kernel_rfl
theorem ZlP:bodyM cfgMs ⟨[5],(.n .z (.n .z (.n (.n .z (.j [(5,.l [.int .i64,.int .i64,.int .i64,.int .i64,.slice 1])] (.j [(5,.l [.int .i64,.int .i64,.int .i64,.int .i64,.slice 1]),(6,.v (.b (.int .i64)))] .z .z) .z)) .z))),false⟩ Tryz.f87=Zcg:=by kernel_rfl
theorem ZuH:bodyM cfgMs ⟨[1],(.n .z (.n .z (.n (.n .z (.j [(4,.v (.b (.str)))] (.j [(4,.v (.b (.str))),(5,.v (.b (.int .i64)))] .z .z) .z)) .z))),false⟩ Tryz.f91=Zgh:=by kernel_rfl
theorem ZsX:bodyM cfgMs ⟨[1,7],(.n .z (.n .z (.n (.n .z (.j [(4,.v (.b (.str))),(5,.v (.b (.int .i64)))] (.j [(4,.v (.b (.str))),(5,.v (.b (.int .i64))),(6,.v (.b (.int .i64)))] (.n .z (.n (.n (.n .z (.n .z (.n (.n .z (.j [(5,.v (.b (.int .i64)))] .z .z)) .z))) .z) .z)) .z) .z)) .z))),false⟩ Tryz.f90=Zfi:=by kernel_rfl
theorem ZsH:bodyM cfgMs ⟨[],(.n .z (.n .z (.n (.j [(5,.v (.b (.int .i64)))] (.j [(5,.v (.b (.int .i64)))] .z .z) .z) .z))),false⟩ Tryz.f92=Zfx:=by kernel_rfl
theorem ZoA:bodyM cfgMs ⟨[],.z,false⟩ Tryz.f94=Zdp:=by kernel_rfl
theorem Zhv:bodyM cfgMs ⟨[],.z,false⟩ Tryz.f96=Zbh:=by kernel_rfl
theorem Zr3:bodyM cfgMs ⟨[1],.z,false⟩ Tryz.f95=ZeE:=by kernel_rfl
theorem Zt8:bodyM cfgMs ⟨[],(.n .z (.j [] .z .z)),false⟩ Tryz.f50=Zgl:=by kernel_rfl
theorem Zk7:bodyM cfgMs ⟨[],(.n .z (.n .z (.n .z (.j [] (.j [(32,.v (.b (.int .i64)))] (.n .z (.n .z (.n (.j [] (.n .z (.n .z (.n .z (.n .z (.n .z (.j [] (.j [(52,.v (.b (.int .i64)))] (.n .z (.n .z (.n (.n (.n .z (.n .z (.n .z (.j [] .z .z)))) .z) .z))) .z) .z)))))) .z) .z))) .z) .z)))),false⟩ Tryz.f51=Zcd:=by kernel_rfl
theorem Zq4:bodyM cfgMs ⟨[],.z,false⟩ Tryz.f97=Zen:=by kernel_rfl
theorem ZlM:bodyM cfgMs ⟨[],.z,false⟩ Tryz.f98=Zcv:=by kernel_rfl
theorem ZlD:bodyM cfgMs ⟨[7],(.n .z (.j [] (.j [(13,.v (.b (.int .i64)))] (.n .z (.n .z (.n (.j [] .z .z) .z))) .z) .z)),false⟩ Tryz.f99=Zci:=by kernel_rfl
theorem Zlw:bodyM cfgMs ⟨[5,7],(.n .z (.n (.n .z (.j [] (.j [(3,.v (.b (.int .i64)))] .z .z) .z)) (.n .z (.j [] (.j [(86,.v (.b (.int .i64)))] .z .z) .z)))),false⟩ Tryz.f52=Zcm:=by kernel_rfl
theorem Zky:bodyM cfgMs ⟨[4,5],(.n .z (.n .z (.j [] (.j [(24,.v (.b (.int .i64)))] (.n .z (.n .z (.n (.j [] (.n .z (.n .z (.n .z (.n .z (.n (.n .z (.j [(5,.l [.str,.slice 4])] (.j [(5,.l [.str,.slice 4]),(57,.v (.b (.int .i64)))] (.n .z (.n .z (.n (.n (.n .z (.n .z (.j [(5,.l [.str,.slice 4])] .z .z))) .z) .z))) .z) .z)) .z))))) .z) .z))) .z) .z))),false⟩ Tryz.f53=ZbZ:=by kernel_rfl
theorem ZlO:bodyM cfgMs ⟨[9,10,11],(.n .z (.n .z (.n .z (.n (.j [(7,.v (.b (.slice 4)))] (.j [(7,.v (.b (.slice 4))),(8,.v (.b (.slice 7)))] (.n .z (.j [(7,.v (.b (.slice 4))),(8,.v (.b (.slice 7)))] (.n .z (.n .z (.n .z (.n .z (.n .z (.n .z (.n .z (.n .z (.n .z (.j [(8,.v (.b (.slice 7)))] (.j [(8,.v (.b (.slice 7))),(100,.v (.b (.int .i64)))] .z .z) .z)))))))))) .z)) .z) .z) .z)))),false⟩ Tryz.f101=Zcr:=by kernel_rfl
theorem Zlp:bodyM cfgMs ⟨[5],(.n .z (.n .z (.n (.n .z (.j [(3,.v (.b (.int .i64)))] (.j [(3,.v (.b (.int .i64))),(11,.v (.b (.int .i64)))] (.n .z (.n .z (.n (.n (.n .z (.n .z (.n .z (.j [(3,.v (.b (.int .i64)))] .z .z)))) .z) .z))) .z) .z)) .z))),false⟩ Tryz.f54=Zcs:=by kernel_rfl
theorem Zd7:bodyM cfgMs ⟨[],(.n .z (.n .z (.n (.n .z (.j [] (.j [(13,.v (.b (.int .i64)))] .z .z) .z)) .z))),false⟩ Tryz.f104=ZL:=by kernel_rfl
theorem Zf0:bodyM cfgMs ⟨[],(.n .z (.n .z (.n (.n .z (.j [] (.j [(13,.v (.b (.int .i64)))] .z .z) .z)) .z))),false⟩ Tryz.f105=Z3:=by kernel_rfl
theorem ZtT:bodyM cfgMs ⟨[],.z,true⟩ Tryz.f106=ZfD:=by kernel_rfl
theorem ZoY:bodyM cfgMs ⟨[],(.n .z (.n .z (.n (.n .z (.j [] (.j [(21,.v (.b (.int .i64)))] .z .z) .z)) .z))),false⟩ Tryz.f107=Zdl:=by kernel_rfl
theorem Ztw:bodyM cfgMs ⟨[1],(.n .z (.n .z (.n (.n .z (.j [(3,.v (.b (.slice 1)))] (.j [(3,.v (.b (.slice 1))),(6,.v (.b (.int .i64)))] (.n .z (.n .z (.n (.n (.n .z (.n .z (.n .z (.j [(3,.v (.b (.slice 1)))] .z .z)))) .z) .z))) .z) .z)) .z))),true⟩ Tryz.f109=Zft:=by kernel_rfl
theorem ZrM:bodyM cfgMs ⟨[],.z,false⟩ Tryz.f108=ZgW:=by kernel_rfl
theorem ZnB:bodyM cfgMs ⟨[],.z,false⟩ Tryz.f110=ZcX:=by kernel_rfl
theorem Zuk:bodyM cfgMs ⟨[],(.n .z (.n .z (.n (.n .z (.j [(3,.v (.b (.int .u32)))] (.j [(3,.v (.b (.int .u32))),(4,.v (.b (.int .i64)))] .z .z) .z)) .z))),false⟩ Tryz.f111=ZgA:=by kernel_rfl
theorem ZrO:bodyM cfgMs ⟨[],(.n .z (.n (.n .z (.j [(0,.v (.b (.int .u64)))] (.j [(0,.v (.b (.int .u64))),(5,.v (.b (.int .i64)))] .z .z) .z)) .z)),false⟩ Tryz.f124=Zeo:=by kernel_rfl
theorem ZtC:bodyM cfgMs ⟨[],.z,false⟩ Tryz.f125=ZfG:=by kernel_rfl
theorem Zup:bodyM cfgMs ⟨[1,3],(.n .z (.n .z (.n .z (.n (.n .z (.j [(4,.v (.b (.str)))] (.j [(4,.v (.b (.str))),(5,.v (.b (.int .i64)))] .z .z) .z)) .z)))),false⟩ Tryz.f126=Zga:=by kernel_rfl
theorem Zrx:bodyM cfgMs ⟨[],.z,false⟩ Tryz.f127=Zes:=by kernel_rfl
theorem ZsJ:bodyM cfgMs ⟨[1],.z,false⟩ Tryz.f128=Ze5:=by kernel_rfl
theorem ZwQ:bodyM cfgMs ⟨[],.z,false⟩ Tryz.f129=ZiL:=by kernel_rfl
theorem Zjo:bodyM cfgMs ⟨[],(.n .z (.n (.n .z (.j [] (.j [(8,.v (.b (.int .i64)))] .z .z) .z)) .z)),false⟩ Tryz.f130=ZbE:=by kernel_rfl
theorem Zs9:bodyM cfgMs ⟨[],.z,false⟩ Tryz.f131=Zfh:=by kernel_rfl
theorem ZtO:bodyM cfgMs ⟨[3,5,7,9,11],.z,false⟩ Tryz.f132=Zfb:=by kernel_rfl
theorem ZrF:bodyM cfgMs ⟨[],.z,false⟩ Tryz.f139=ZeD:=by kernel_rfl
theorem ZrS:bodyM cfgMs ⟨[],.z,true⟩ Tryz.f140=Zem:=by kernel_rfl
theorem Zrn:bodyM cfgMs ⟨[],.z,false⟩ Tryz.f141=Zeu:=by kernel_rfl
theorem Zue:bodyM cfgMs ⟨[2],.z,false⟩ Tryz.f142=Zgi:=by kernel_rfl
theorem ZfW:bodyM cfgMs ⟨[],.z,false⟩ Tryz.f143=Z2:=by kernel_rfl
theorem Zrw:bodyM cfgMs ⟨[],(.n .z (.n (.n .z (.j [(0,.v (.b (.int .u32)))] (.j [(0,.v (.b (.int .u32))),(5,.v (.b (.int .i64)))] .z .z) .z)) .z)),false⟩ Tryz.f144=ZeF:=by kernel_rfl
theorem Zvv:bodyM cfgMs ⟨[2,8],(.n .z (.n .z (.n .z (.n .z (.n (.n .z (.j [(8,.l [.int .i64,.int .i64,.int .i64,.int .i64,.slice 1])] (.j [(8,.l [.int .i64,.int .i64,.int .i64,.int .i64,.slice 1]),(41,.v (.b (.int .i64)))] .z .z) .z)) .z))))),true⟩ Tryz.f156=Zhl:=by kernel_rfl
theorem Zp1:bodyM cfgMs ⟨[2,8,11],(.n .z (.n .z (.n .z (.n .z (.n (.n .z (.j [(2,.l [.blob 21]),(8,.l [.blob 21])] (.j [(2,.l [.blob 21]),(8,.l [.blob 21]),(30,.v (.b (.int .i64)))] .z .z) .z)) .z))))),false⟩ Tryz.f157=Zd6:=by kernel_rfl
theorem Zr4:bodyM cfgMs ⟨[2,8],(.n .z (.n .z (.n .z (.n .z (.n (.n .z (.j [(8,.l [.blob 16])] (.j [(8,.l [.blob 16]),(36,.v (.b (.int .i64)))] .z .z) .z)) .z))))),false⟩ Tryz.f158=Zer:=by kernel_rfl
theorem Zns:bodyM cfgMs ⟨[2,8],(.n .z (.n .z (.n .z (.n .z (.n (.n .z (.j [(8,.l [.str,.int .i64,.blob 12])] (.j [(8,.l [.str,.int .i64,.blob 12]),(51,.v (.b (.int .i64)))] .z .z) .z)) .z))))),false⟩ Tryz.f159=ZcW:=by kernel_rfl
theorem Zpp:bodyM cfgMs ⟨[2,8],(.n .z (.n .z (.n .z (.n .z (.n (.n .z (.j [(8,.l [.slice 1])] (.j [(8,.l [.slice 1]),(41,.v (.b (.int .i64)))] .z .z) .z)) .z))))),true⟩ Tryz.f160=Zd0:=by kernel_rfl
theorem Zsm:bodyM cfgMs ⟨[],(.n .z (.n .z (.n (.n .z (.j [(3,.v (.b (.int .u64)))] (.j [(3,.v (.b (.int .u64))),(12,.v (.b (.int .i64)))] .z .z) .z)) .z))),false⟩ Tryz.f174=Zfa:=by kernel_rfl
theorem Zvu:bodyM cfgMs ⟨[],.z,false⟩ Tryz.f173=Zhw:=by kernel_rfl
theorem Zuo:bodyM cfgMs ⟨[2],.z,false⟩ Tryz.f175=Zgo:=by kernel_rfl
theorem ZsV:bodyM cfgMs ⟨[],.z,false⟩ Tryz.f176=ZfK:=by kernel_rfl
theorem ZrD:bodyM cfgMs ⟨[],.z,false⟩ Tryz.f185=Zeh:=by kernel_rfl
theorem ZsI:bodyM cfgMs ⟨[1,3],.z,false⟩ Tryz.f186=Zfw:=by kernel_rfl
theorem Znz:bodyM cfgMs ⟨[1],.z,false⟩ Tryz.f187=Zc2:=by kernel_rfl
theorem ZnZ:bodyM cfgMs ⟨[1],(.n .z (.n (.n .z (.j [] (.j [(7,.v (.b (.int .i64)))] .z .z) .z)) .z)),false⟩ Tryz.f188=Zdr:=by kernel_rfl
theorem Zli:bodyM cfgMs ⟨[1],(.n .z (.n .z (.n (.n .z (.j [] (.j [(21,.v (.b (.int .i64)))] .z .z) .z)) .z))),false⟩ Tryz.f189=Zcj:=by kernel_rfl
theorem Zni:bodyM cfgMs ⟨[1],(.n .z (.n .z (.n (.n .z (.j [] (.j [(18,.v (.b (.int .i64)))] .z .z) .z)) .z))),false⟩ Tryz.f190=Zc3:=by kernel_rfl
theorem Zwu:bodyM cfgMs ⟨[],(.n .z (.n .z (.n (.n .z (.j [(4,.v (.b (.int .u32)))] (.j [(4,.v (.b (.int .u32))),(10,.v (.b (.int .i64)))] .z .z) .z)) .z))),false⟩ Tryz.f197=ZiN:=by kernel_rfl
theorem Zrb:bodyM cfgMs ⟨[1],.z,false⟩ Tryz.f198=Zey:=by kernel_rfl
theorem ZuP:bodyM cfgMs ⟨[],.z,false⟩ Tryz.f205=Zgp:=by kernel_rfl
theorem Zqn:bodyM cfgMs ⟨[],.z,false⟩ Tryz.f207=ZdR:=by kernel_rfl
theorem ZrV:bodyM cfgMs ⟨[],.z,false⟩ Tryz.f208=Zef:=by kernel_rfl
theorem Zk3:bodyM cfgMs ⟨[],.z,false⟩ Tryz.f210=Zcc:=by kernel_rfl
theorem ZuD:bodyM cfgMs ⟨[0,1],(.n .z (.n .z (.n (.n .z (.j [(1,.l [.blob 16])] (.j [(1,.l [.blob 16]),(4,.v (.b (.int .i64)))] (.n .z (.n .z (.n (.j [(1,.l [.blob 16])] (.n .z (.n .z (.n (.n .z (.j [(3,.v (.b (.int .u32)))] (.j [(3,.v (.b (.int .u32))),(9,.v (.b (.int .i64)))] .z .z) .z)) .z))) .z) .z))) .z) .z)) .z))),false⟩ Tryz.f212=ZgF:=by kernel_rfl
theorem ZpS:bodyM cfgMs ⟨[],(.n .z (.n (.n .z (.j [(1,.v (.b (.int .u32)))] (.j [(1,.v (.b (.int .u32))),(11,.v (.b (.int .i64)))] .z .z) .z)) .z)),false⟩ Tryz.f213=ZdQ:=by kernel_rfl
theorem ZvZ:bodyM cfgMs ⟨[],.z,false⟩ Tryz.f219=Zho:=by kernel_rfl
end
noncomputable def ZwK:Go.Shelf.Ren:=⟨fun|6=>102|14=>135|15=>136|20=>162|21=>163|22=>164|23=>165|24=>166|25=>167|26=>168|27=>169|28=>170|29=>171|46=>192|47=>193|48=>194|49=>195|50=>196|57=>211|n=>n,fun|0=>0|3=>3|4=>4|5=>5|9=>9|22=>56|24=>62|25=>175|39=>183|45=>247|46=>248|50=>252|53=>184|55=>118|66=>271|70=>275|76=>293|77=>260|n=>n,fun|n=>n⟩
theorem ZvN:SlLaysF0.n6 Tryz.prog ZwK where
 mixed:=by kernel_rfl
 f6:=⟨Tryz.f102.name,by kernel_rfl,Tryz.func102.trans (congrArg some (by kernel_rfl))⟩
 f14:=⟨Tryz.f135.name,by kernel_rfl,Tryz.func135.trans (congrArg some (by kernel_rfl))⟩
 f15:=Tryz.func136.trans (congrArg some (by kernel_rfl))
 f20:=⟨Tryz.f162.name,by kernel_rfl,Tryz.func162.trans (congrArg some (by kernel_rfl))⟩
 f21:=⟨Tryz.f163.name,by kernel_rfl,Tryz.func163.trans (congrArg some (by kernel_rfl))⟩
 f22:=⟨Tryz.f164.name,by kernel_rfl,Tryz.func164.trans (congrArg some (by kernel_rfl))⟩
 f23:=⟨Tryz.f165.name,by kernel_rfl,Tryz.func165.trans (congrArg some (by kernel_rfl))⟩
 f24:=⟨Tryz.f166.name,by kernel_rfl,Tryz.func166.trans (congrArg some (by kernel_rfl))⟩
 f25:=⟨Tryz.f167.name,by kernel_rfl,Tryz.func167.trans (congrArg some (by kernel_rfl))⟩
 f26:=⟨Tryz.f168.name,by kernel_rfl,Tryz.func168.trans (congrArg some (by kernel_rfl))⟩
 f27:=⟨Tryz.f169.name,by kernel_rfl,Tryz.func169.trans (congrArg some (by kernel_rfl))⟩
 f28:=Tryz.func170.trans (congrArg some (by kernel_rfl))
 f29:=Tryz.func171.trans (congrArg some (by kernel_rfl))
 f46:=⟨Tryz.f192.name,by kernel_rfl,Tryz.func192.trans (congrArg some (by kernel_rfl))⟩
 f47:=Tryz.func193.trans (congrArg some (by kernel_rfl))
 f48:=Tryz.func194.trans (congrArg some (by kernel_rfl))
 f49:=⟨Tryz.f195.name,by kernel_rfl,Tryz.func195.trans (congrArg some (by kernel_rfl))⟩
 f50:=⟨Tryz.f196.name,by kernel_rfl,Tryz.func196.trans (congrArg some (by kernel_rfl))⟩
 f57:=⟨Tryz.f211.name,by kernel_rfl,Tryz.func211.trans (congrArg some (by kernel_rfl))⟩
 t0:=Tryz.underlying0
 a0:=Tryz.isAgg0
 z0:=Tryz.sizeOf0
 v0:=Tryz.zeroValue0
 t3:=Tryz.underlying3
 a3:=Tryz.isAgg3
 z3:=Tryz.sizeOf3
 v3:=Tryz.zeroValue3
 t4:=Tryz.underlying4
 a4:=Tryz.isAgg4
 z4:=Tryz.sizeOf4
 v4:=Tryz.zeroValue4
 t5:=Tryz.underlying5
 a5:=Tryz.isAgg5
 z5:=Tryz.sizeOf5
 v5:=Tryz.zeroValue5
 t9:=Tryz.underlying9
 a9:=Tryz.isAgg9
 z9:=Tryz.sizeOf9
 v9:=Tryz.zeroValue9
 t22:=Tryz.underlying56
 a22:=Tryz.isAgg56
 z22:=Tryz.sizeOf56
 v22:=Tryz.zeroValue56
 t25:=Tryz.underlying175
 a25:=Tryz.isAgg175
 z25:=Tryz.sizeOf175
 v25:=Tryz.zeroValue175
 t39:=Tryz.underlying183
 a39:=Tryz.isAgg183
 z39:=Tryz.sizeOf183
 v39:=Tryz.zeroValue183
 t45:=Tryz.underlying247
 a45:=Tryz.isAgg247
 z45:=Tryz.sizeOf247
 v45:=Tryz.zeroValue247
 t46:=Tryz.underlying248
 a46:=Tryz.isAgg248
 z46:=Tryz.sizeOf248
 v46:=Tryz.zeroValue248
 t50:=Tryz.underlying252
 a50:=Tryz.isAgg252
 z50:=Tryz.sizeOf252
 v50:=Tryz.zeroValue252
 t53:=Tryz.underlying184
 a53:=Tryz.isAgg184
 z53:=Tryz.sizeOf184
 v53:=Tryz.zeroValue184
 t55:=Tryz.underlying118
 a55:=Tryz.isAgg118
 z55:=Tryz.sizeOf118
 v55:=Tryz.zeroValue118
 t66:=Tryz.underlying271
 a66:=Tryz.isAgg271
 z66:=Tryz.sizeOf271
 v66:=Tryz.zeroValue271
 t70:=Tryz.underlying275
 a70:=Tryz.isAgg275
 z70:=Tryz.sizeOf275
 v70:=Tryz.zeroValue275
 t76:=Tryz.underlying293
 a76:=Tryz.isAgg293
 z76:=Tryz.sizeOf293
 v76:=Tryz.zeroValue293
 t77:=Tryz.underlying260
 a77:=Tryz.isAgg260
 z77:=Tryz.sizeOf260
 v77:=Tryz.zeroValue260
theorem ZyT:CfgOk cfgMs:=⟨Zx7 (by kernel_rfl),(fun t h=>Zvm (Ztt (by kernel_rfl) t h)),(fun t h _ _ _ _ _ _ w hx hy he=>ZxH (Ztt (by kernel_rfl) t h) w hx hy he),Zy1 (e:=309) (by kernel_rfl) (by kernel_rfl)⟩
theorem Zh:FunOk cfgMs:=⟨ZyT,by kernel_rfl⟩
noncomputable def smMs:List (Nat×Body):=[(159,ZcH),(161,ZbW),(162,Zdx),(163,Zco)]
theorem Zyi: ∀n,Zz cfgMs (run (bdOf smMs) n):=
 Zzi (cov:=[145,177,199,209,112,218,146,134,100,113,220,133,161,191,64,24,58,29,18,15,70,72,68,71,93,206,55,28,217,103,138,137,172,14,16,17,21,20,19,23,25,5,31,30,40,41,42,39,47,46,45,44,43,48,56,57,62,63,59,61,60,66,73,74,85,86,89,88,87,91,90,92,94,96,95,50,51,97,98,99,52,53,102,101,54,104,105,106,107,109,108,110,111,124,125,126,127,128,129,130,131,132,139,140,141,142,143,144,156,157,158,159,160,174,173,175,176,185,186,187,188,189,190,197,198,205,207,208,210,212,213,219]) (sub:=[103,138,137,172]) rfl (by kernel_rfl) (by kernel_rfl) (List.forall_mem_cons.2 ⟨BodyOK.of_tie Zh Tryz.func103 (by kernel_rfl) Zj3,List.forall_mem_cons.2 ⟨BodyOK.of_tie Zh Tryz.func138 (by kernel_rfl) Zhk,List.forall_mem_cons.2 ⟨BodyOK.of_tie Zh Tryz.func137 (by kernel_rfl) Zlj,List.forall_mem_cons.2 ⟨BodyOK.of_tie Zh Tryz.func172 (by kernel_rfl) ZiZ,(fun _ h=>by cases h)⟩⟩⟩⟩)
theorem ZnA:Zh0 (bdOf smMs):=⟨by kernel_rfl⟩
theorem Zk4:Zfc (bdOf smMs):=⟨by kernel_rfl⟩
theorem ZjU:ZcF (bdOf smMs):=⟨by kernel_rfl,Zk4⟩
theorem ZlL:Zbv (bdOf smMs):=⟨by kernel_rfl,ZnA,ZjU⟩
noncomputable def bdsMs:List (Nat×Body):=[(12,Zei),(15,Zew),(19,Zdo),(26,Zfk),(27,ZeB),(28,ZiW),(29,Zhs),(34,Zfl),(39,ZdP),(40,Zdt),(54,ZhS),(57,Z9),(64,Zcu),(72,ZcY),(86,Z8),(113,ZcN),(114,ZbD),(133,Zgc),(136,Ze4),(138,Zeq),(141,Zeg),(142,Zdu),(143,Zgj),(144,Zep),(145,ZcL),(147,ZY),(153,Zbl),(155,Zex),(156,Zba),(159,ZcH),(161,ZbW),(162,Zdx),(163,Zco),(169,Zek),(170,ZeA),(171,ZgE),(172,Zdm),(173,ZdO),(174,ZgC),(177,ZiS),(179,Zfe),(181,ZcC),(183,Zc0),(184,ZdY),(188,Zet),(189,ZcD),(190,Zce),(191,Zgq),(192,Zfg),(193,Zgn),(194,ZcE),(195,Zej),(196,ZdV),(197,ZeG),(198,Zt),(199,Zgf),(200,Zgw),(201,Zds),(202,Zdn),(203,Zgg),(204,Zgv),(206,ZdM),(209,Zd3),(210,Zcw),(213,Zge),(214,ZfL),(215,Zgr),(216,Zgk),(217,Zcg),(218,Zgh),(219,Zfi),(220,Zfx),(221,Zdp),(222,Zbh),(223,ZeE),(225,Zgl),(226,Zcd),(227,Zen),(228,Zcv),(229,Zci),(230,Zcm),(231,ZbZ),(232,ZhX),(233,Zcr),(234,Zcs),(235,ZL),(236,Z3),(237,ZfD),(238,Zdl),(239,Zft),(240,ZgW),(241,ZcX),(242,ZgA),(248,Zeo),(249,ZfG),(250,Zga),(251,Zes),(252,Ze5),(253,ZiL),(254,ZbE),(255,Zfh),(256,Zfb),(259,ZeD),(260,Zem),(261,Zeu),(262,Zgi),(263,Z2),(264,ZeF),(272,Zhl),(273,Zd6),(274,Zer),(275,ZcW),(276,Zd0),(285,Zfa),(286,Zhw),(287,Zgo),(288,ZfK),(295,Zeh),(296,Zfw),(297,Zc2),(298,Zdr),(299,Zcj),(300,Zc3),(306,ZiN),(307,Zey),(312,Zgp),(313,ZdR),(314,Zef),(315,Zcc),(317,ZgF),(318,ZdQ),(320,Zho)]
theorem bodiesMs: ∀n,Zz cfgMs (run (bdOf bdsMs) n):=
 ZyC (cov:=[145,177,199,209,112,218,146,134,100,113,220,133,161,191,64,24,58,29,18,15,70,72,68,71,93,206,55,28,217,103,138,137,172,14,16,17,21,20,19,23,25,5,31,30,40,41,42,39,47,46,45,44,43,48,56,57,62,63,59,61,60,66,73,74,85,86,89,88,87,91,90,92,94,96,95,50,51,97,98,99,52,53,102,101,54,104,105,106,107,109,108,110,111,124,125,126,127,128,129,130,131,132,139,140,141,142,143,144,156,157,158,159,160,174,173,175,176,185,186,187,188,189,190,197,198,205,207,208,210,212,213,219]) rfl (by kernel_rfl) (List.forall_mem_cons.2 ⟨BodyOK.of_tie Zh Tryz.func145 (by kernel_rfl) Zru,List.forall_mem_cons.2 ⟨BodyOK.of_tie Zh Tryz.func177 (by kernel_rfl) ZrL,List.forall_mem_cons.2 ⟨BodyOK.of_tie Zh Tryz.func199 (by kernel_rfl) ZnN,List.forall_mem_cons.2 ⟨BodyOK.of_tie Zh Tryz.func209 (by kernel_rfl) Zsk,List.forall_mem_cons.2 ⟨BodyOK.of_tie Zh Tryz.func112 (by kernel_rfl) Zrg,List.forall_mem_cons.2 ⟨BodyOK.of_tie Zh Tryz.func218 (by kernel_rfl) Zwa,List.forall_mem_cons.2 ⟨BodyOK.of_tie Zh Tryz.func146 (by kernel_rfl) ZvW,List.forall_mem_cons.2 ⟨BodyOK.of_tie Zh Tryz.func134 (by kernel_rfl) Zth,List.forall_mem_cons.2 ⟨BodyOK.of_tie Zh Tryz.func100 (by kernel_rfl) Zp0,List.forall_mem_cons.2 ⟨BodyOK.of_tie Zh Tryz.func113 (by kernel_rfl) ZnR,List.forall_mem_cons.2 ⟨BodyOK.of_tie Zh Tryz.func220 (by kernel_rfl) Zts,List.forall_mem_cons.2 ⟨BodyOK.of_tie Zh Tryz.func133 (by kernel_rfl) Zg3,List.forall_mem_cons.2 ⟨BodyOK.of_tie Zh Tryz.func161 (by kernel_rfl) Zlx,List.forall_mem_cons.2 ⟨BodyOK.of_tie Zh Tryz.func191 (by kernel_rfl) ZnG,List.forall_mem_cons.2 ⟨BodyOK.of_tie Zh Tryz.func64 (by kernel_rfl) Zjx,List.forall_mem_cons.2 ⟨BodyOK.of_tie Zh Tryz.func24 (by kernel_rfl) Zsz,List.forall_mem_cons.2 ⟨BodyOK.of_tie Zh Tryz.func58 (by kernel_rfl) Zjw,List.forall_mem_cons.2 ⟨BodyOK.of_tie Zh Tryz.func29 (by kernel_rfl) ZuS,List.forall_mem_cons.2 ⟨BodyOK.of_tie Zh Tryz.func18 (by kernel_rfl) Zsc,List.forall_mem_cons.2 ⟨BodyOK.of_tie Zh Tryz.func15 (by kernel_rfl) Zq9,List.forall_mem_cons.2 ⟨BodyOK.of_tie Zh Tryz.func70 (by kernel_rfl) ZrX,List.forall_mem_cons.2 ⟨BodyOK.of_tie Zh Tryz.func72 (by kernel_rfl) ZnT,List.forall_mem_cons.2 ⟨BodyOK.of_tie Zh Tryz.func68 (by kernel_rfl) Zut,List.forall_mem_cons.2 ⟨BodyOK.of_tie Zh Tryz.func71 (by kernel_rfl) ZrG,List.forall_mem_cons.2 ⟨BodyOK.of_tie Zh Tryz.func93 (by kernel_rfl) Zsh,List.forall_mem_cons.2 ⟨BodyOK.of_tie Zh Tryz.func206 (by kernel_rfl) ZfN,List.forall_mem_cons.2 ⟨BodyOK.of_tie Zh Tryz.func55 (by kernel_rfl) ZnQ,List.forall_mem_cons.2 ⟨BodyOK.of_tie Zh Tryz.func28 (by kernel_rfl) Zrj,List.forall_mem_cons.2 ⟨BodyOK.of_tie Zh Tryz.func217 (by kernel_rfl) Zhc,List.forall_mem_cons.2 ⟨BodyOK.of_tie Zh Tryz.func103 (by kernel_rfl) Zj3,List.forall_mem_cons.2 ⟨BodyOK.of_tie Zh Tryz.func138 (by kernel_rfl) Zhk,List.forall_mem_cons.2 ⟨BodyOK.of_tie Zh Tryz.func137 (by kernel_rfl) Zlj,List.forall_mem_cons.2 ⟨BodyOK.of_tie Zh Tryz.func172 (by kernel_rfl) ZiZ,List.forall_mem_cons.2 ⟨BodyOK.of_tie Zh Tryz.func14 (by kernel_rfl) ZrP,List.forall_mem_cons.2 ⟨BodyOK.of_tie Zh Tryz.func16 (by kernel_rfl) Zrz,List.forall_mem_cons.2 ⟨(fun _ n _ _ _ hc h=>ZxP (n:=n) Zh hc Tryz.func17 (by kernel_rfl) Tryz.func49 (by kernel_rfl) (by kernel_rfl) (by rw [Zt4];exact h)),List.forall_mem_cons.2 ⟨BodyOK.of_tie Zh Tryz.func21 (by kernel_rfl) ZoJ,List.forall_mem_cons.2 ⟨BodyOK.of_tie Zh Tryz.func20 (by kernel_rfl) ZpU,List.forall_mem_cons.2 ⟨BodyOK.of_tie Zh Tryz.func19 (by kernel_rfl) Zuy,List.forall_mem_cons.2 ⟨BodyOK.of_tie Zh Tryz.func23 (by kernel_rfl) Zwq,List.forall_mem_cons.2 ⟨BodyOK.of_tie Zh Tryz.func25 (by kernel_rfl) ZtQ,List.forall_mem_cons.2 ⟨BodyOK.of_tie Zh Tryz.func5 (by kernel_rfl) ZmI,List.forall_mem_cons.2 ⟨BodyOK.of_tie Zh Tryz.func31 (by kernel_rfl) ZnF,List.forall_mem_cons.2 ⟨BodyOK.of_tie Zh Tryz.func30 (by kernel_rfl) ZpO,List.forall_mem_cons.2 ⟨BodyOK.of_tie Zh Tryz.func40 (by kernel_rfl) Zrk,List.forall_mem_cons.2 ⟨BodyOK.of_tie Zh Tryz.func41 (by kernel_rfl) Zms,List.forall_mem_cons.2 ⟨BodyOK.of_tie Zh Tryz.func42 (by kernel_rfl) Zk5,List.forall_mem_cons.2 ⟨BodyOK.of_tie Zh Tryz.func39 (by kernel_rfl) Zus,List.forall_mem_cons.2 ⟨BodyOK.of_tie Zh Tryz.func47 (by kernel_rfl) Ztd,List.forall_mem_cons.2 ⟨BodyOK.of_tie Zh Tryz.func46 (by kernel_rfl) Zur,List.forall_mem_cons.2 ⟨BodyOK.of_tie Zh Tryz.func45 (by kernel_rfl) ZmG,List.forall_mem_cons.2 ⟨BodyOK.of_tie Zh Tryz.func44 (by kernel_rfl) Zrf,List.forall_mem_cons.2 ⟨BodyOK.of_tie Zh Tryz.func43 (by kernel_rfl) Zqk,List.forall_mem_cons.2 ⟨BodyOK.of_tie Zh Tryz.func48 (by kernel_rfl) ZrH,List.forall_mem_cons.2 ⟨BodyOK.of_tie Zh Tryz.func56 (by kernel_rfl) ZbL,List.forall_mem_cons.2 ⟨BodyOK.of_tie Zh Tryz.func57 (by kernel_rfl) Zuh,List.forall_mem_cons.2 ⟨BodyOK.of_tie Zh Tryz.func62 (by kernel_rfl) Zun,List.forall_mem_cons.2 ⟨BodyOK.of_tie Zh Tryz.func63 (by kernel_rfl) Zo0,List.forall_mem_cons.2 ⟨BodyOK.of_tie Zh Tryz.func59 (by kernel_rfl) ZoH,List.forall_mem_cons.2 ⟨BodyOK.of_tie Zh Tryz.func61 (by kernel_rfl) ZuF,List.forall_mem_cons.2 ⟨BodyOK.of_tie Zh Tryz.func60 (by kernel_rfl) Zuu,List.forall_mem_cons.2 ⟨BodyOK.of_tie Zh Tryz.func66 (by kernel_rfl) Zp7,List.forall_mem_cons.2 ⟨BodyOK.of_tie Zh Tryz.func73 (by kernel_rfl) Zpo,List.forall_mem_cons.2 ⟨BodyOK.of_tie Zh Tryz.func74 (by kernel_rfl) ZlR,List.forall_mem_cons.2 ⟨BodyOK.of_tie Zh Tryz.func85 (by kernel_rfl) Zux,List.forall_mem_cons.2 ⟨BodyOK.of_tie Zh Tryz.func86 (by kernel_rfl) ZsK,List.forall_mem_cons.2 ⟨BodyOK.of_tie Zh Tryz.func89 (by kernel_rfl) ZuI,List.forall_mem_cons.2 ⟨BodyOK.of_tie Zh Tryz.func88 (by kernel_rfl) Zuj,List.forall_mem_cons.2 ⟨BodyOK.of_tie Zh Tryz.func87 (by kernel_rfl) ZlP,List.forall_mem_cons.2 ⟨BodyOK.of_tie Zh Tryz.func91 (by kernel_rfl) ZuH,List.forall_mem_cons.2 ⟨BodyOK.of_tie Zh Tryz.func90 (by kernel_rfl) ZsX,List.forall_mem_cons.2 ⟨BodyOK.of_tie Zh Tryz.func92 (by kernel_rfl) ZsH,List.forall_mem_cons.2 ⟨BodyOK.of_tie Zh Tryz.func94 (by kernel_rfl) ZoA,List.forall_mem_cons.2 ⟨BodyOK.of_tie Zh Tryz.func96 (by kernel_rfl) Zhv,List.forall_mem_cons.2 ⟨BodyOK.of_tie Zh Tryz.func95 (by kernel_rfl) Zr3,List.forall_mem_cons.2 ⟨BodyOK.of_tie Zh Tryz.func50 (by kernel_rfl) Zt8,List.forall_mem_cons.2 ⟨BodyOK.of_tie Zh Tryz.func51 (by kernel_rfl) Zk7,List.forall_mem_cons.2 ⟨BodyOK.of_tie Zh Tryz.func97 (by kernel_rfl) Zq4,List.forall_mem_cons.2 ⟨BodyOK.of_tie Zh Tryz.func98 (by kernel_rfl) ZlM,List.forall_mem_cons.2 ⟨BodyOK.of_tie Zh Tryz.func99 (by kernel_rfl) ZlD,List.forall_mem_cons.2 ⟨BodyOK.of_tie Zh Tryz.func52 (by kernel_rfl) Zlw,List.forall_mem_cons.2 ⟨BodyOK.of_tie Zh Tryz.func53 (by kernel_rfl) Zky,List.forall_mem_cons.2 ⟨ZuO ZvN Tryz.isAgg62 Tryz.sizeOf62 rfl Tryz.func102 (by kernel_rfl) (by kernel_rfl) (Zyi 100) (fc:=103) (by kernel_rfl) (by kernel_rfl) (fun k hk he=>Nat.eq_of_beq_eq_true (by have:=has_all (P:=fun k=> !Nat.beq (cfgMs.fn k) 159||Nat.beq k 103) (l:=[145,177,199,209,112,218,146,134,100,113,220,133,161,191,64,24,58,29,18,15,70,72,68,71,93,206,55,28,217,103,138,137,172,14,16,17,21,20,19,23,25,5,31,30,40,41,42,39,47,46,45,44,43,48,56,57,62,63,59,61,60,66,73,74,85,86,89,88,87,91,90,92,94,96,95,50,51,97,98,99,52,53,102,101,54,104,105,106,107,109,108,110,111,124,125,126,127,128,129,130,131,132,139,140,141,142,143,144,156,157,158,159,160,174,173,175,176,185,186,187,188,189,190,197,198,205,207,208,210,212,213,219]) (by kernel_rfl) k hk;rw [he] at this;simpa using this)) Tryz.func103 (by kernel_rfl) (by kernel_rfl) (N:=100) (fun g hg=>by have:=has_all (P:=fun g=>Nat.blt (cfgMs.gl g) 100) (l:=[0]) (by kernel_rfl) g hg;rwa [Nat.blt_eq] at this) (fun x y=>ZyH ZlL _ x y),List.forall_mem_cons.2 ⟨BodyOK.of_tie Zh Tryz.func101 (by kernel_rfl) ZlO,List.forall_mem_cons.2 ⟨BodyOK.of_tie Zh Tryz.func54 (by kernel_rfl) Zlp,List.forall_mem_cons.2 ⟨BodyOK.of_tie Zh Tryz.func104 (by kernel_rfl) Zd7,List.forall_mem_cons.2 ⟨BodyOK.of_tie Zh Tryz.func105 (by kernel_rfl) Zf0,List.forall_mem_cons.2 ⟨BodyOK.of_tie Zh Tryz.func106 (by kernel_rfl) ZtT,List.forall_mem_cons.2 ⟨BodyOK.of_tie Zh Tryz.func107 (by kernel_rfl) ZoY,List.forall_mem_cons.2 ⟨BodyOK.of_tie Zh Tryz.func109 (by kernel_rfl) Ztw,List.forall_mem_cons.2 ⟨BodyOK.of_tie Zh Tryz.func108 (by kernel_rfl) ZrM,List.forall_mem_cons.2 ⟨BodyOK.of_tie Zh Tryz.func110 (by kernel_rfl) ZnB,List.forall_mem_cons.2 ⟨BodyOK.of_tie Zh Tryz.func111 (by kernel_rfl) Zuk,List.forall_mem_cons.2 ⟨BodyOK.of_tie Zh Tryz.func124 (by kernel_rfl) ZrO,List.forall_mem_cons.2 ⟨BodyOK.of_tie Zh Tryz.func125 (by kernel_rfl) ZtC,List.forall_mem_cons.2 ⟨BodyOK.of_tie Zh Tryz.func126 (by kernel_rfl) Zup,List.forall_mem_cons.2 ⟨BodyOK.of_tie Zh Tryz.func127 (by kernel_rfl) Zrx,List.forall_mem_cons.2 ⟨BodyOK.of_tie Zh Tryz.func128 (by kernel_rfl) ZsJ,List.forall_mem_cons.2 ⟨BodyOK.of_tie Zh Tryz.func129 (by kernel_rfl) ZwQ,List.forall_mem_cons.2 ⟨BodyOK.of_tie Zh Tryz.func130 (by kernel_rfl) Zjo,List.forall_mem_cons.2 ⟨BodyOK.of_tie Zh Tryz.func131 (by kernel_rfl) Zs9,List.forall_mem_cons.2 ⟨BodyOK.of_tie Zh Tryz.func132 (by kernel_rfl) ZtO,List.forall_mem_cons.2 ⟨BodyOK.of_tie Zh Tryz.func139 (by kernel_rfl) ZrF,List.forall_mem_cons.2 ⟨BodyOK.of_tie Zh Tryz.func140 (by kernel_rfl) ZrS,List.forall_mem_cons.2 ⟨BodyOK.of_tie Zh Tryz.func141 (by kernel_rfl) Zrn,List.forall_mem_cons.2 ⟨BodyOK.of_tie Zh Tryz.func142 (by kernel_rfl) Zue,List.forall_mem_cons.2 ⟨BodyOK.of_tie Zh Tryz.func143 (by kernel_rfl) ZfW,List.forall_mem_cons.2 ⟨BodyOK.of_tie Zh Tryz.func144 (by kernel_rfl) Zrw,List.forall_mem_cons.2 ⟨BodyOK.of_tie Zh Tryz.func156 (by kernel_rfl) Zvv,List.forall_mem_cons.2 ⟨BodyOK.of_tie Zh Tryz.func157 (by kernel_rfl) Zp1,List.forall_mem_cons.2 ⟨BodyOK.of_tie Zh Tryz.func158 (by kernel_rfl) Zr4,List.forall_mem_cons.2 ⟨BodyOK.of_tie Zh Tryz.func159 (by kernel_rfl) Zns,List.forall_mem_cons.2 ⟨BodyOK.of_tie Zh Tryz.func160 (by kernel_rfl) Zpp,List.forall_mem_cons.2 ⟨BodyOK.of_tie Zh Tryz.func174 (by kernel_rfl) Zsm,List.forall_mem_cons.2 ⟨BodyOK.of_tie Zh Tryz.func173 (by kernel_rfl) Zvu,List.forall_mem_cons.2 ⟨BodyOK.of_tie Zh Tryz.func175 (by kernel_rfl) Zuo,List.forall_mem_cons.2 ⟨BodyOK.of_tie Zh Tryz.func176 (by kernel_rfl) ZsV,List.forall_mem_cons.2 ⟨BodyOK.of_tie Zh Tryz.func185 (by kernel_rfl) ZrD,List.forall_mem_cons.2 ⟨BodyOK.of_tie Zh Tryz.func186 (by kernel_rfl) ZsI,List.forall_mem_cons.2 ⟨BodyOK.of_tie Zh Tryz.func187 (by kernel_rfl) Znz,List.forall_mem_cons.2 ⟨BodyOK.of_tie Zh Tryz.func188 (by kernel_rfl) ZnZ,List.forall_mem_cons.2 ⟨BodyOK.of_tie Zh Tryz.func189 (by kernel_rfl) Zli,List.forall_mem_cons.2 ⟨BodyOK.of_tie Zh Tryz.func190 (by kernel_rfl) Zni,List.forall_mem_cons.2 ⟨BodyOK.of_tie Zh Tryz.func197 (by kernel_rfl) Zwu,List.forall_mem_cons.2 ⟨BodyOK.of_tie Zh Tryz.func198 (by kernel_rfl) Zrb,List.forall_mem_cons.2 ⟨BodyOK.of_tie Zh Tryz.func205 (by kernel_rfl) ZuP,List.forall_mem_cons.2 ⟨BodyOK.of_tie Zh Tryz.func207 (by kernel_rfl) Zqn,List.forall_mem_cons.2 ⟨BodyOK.of_tie Zh Tryz.func208 (by kernel_rfl) ZrV,List.forall_mem_cons.2 ⟨BodyOK.of_tie Zh Tryz.func210 (by kernel_rfl) Zk3,List.forall_mem_cons.2 ⟨BodyOK.of_tie Zh Tryz.func212 (by kernel_rfl) ZuD,List.forall_mem_cons.2 ⟨BodyOK.of_tie Zh Tryz.func213 (by kernel_rfl) ZpS,List.forall_mem_cons.2 ⟨BodyOK.of_tie Zh Tryz.func219 (by kernel_rfl) ZvZ,(fun _ h=>by cases h)⟩⟩⟩⟩⟩⟩⟩⟩⟩⟩⟩⟩⟩⟩⟩⟩⟩⟩⟩⟩⟩⟩⟩⟩⟩⟩⟩⟩⟩⟩⟩⟩⟩⟩⟩⟩⟩⟩⟩⟩⟩⟩⟩⟩⟩⟩⟩⟩⟩⟩⟩⟩⟩⟩⟩⟩⟩⟩⟩⟩⟩⟩⟩⟩⟩⟩⟩⟩⟩⟩⟩⟩⟩⟩⟩⟩⟩⟩⟩⟩⟩⟩⟩⟩⟩⟩⟩⟩⟩⟩⟩⟩⟩⟩⟩⟩⟩⟩⟩⟩⟩⟩⟩⟩⟩⟩⟩⟩⟩⟩⟩⟩⟩⟩⟩⟩⟩⟩⟩⟩⟩⟩⟩⟩⟩⟩⟩⟩⟩⟩⟩⟩)
theorem Zmt:Zfo (bdOf bdsMs):=⟨by kernel_rfl⟩
theorem ZnM:ZgU (bdOf bdsMs):=⟨by kernel_rfl,Zmt⟩
theorem ZiJ:Zev (bdOf bdsMs):=⟨by kernel_rfl,ZnM⟩
theorem ZpP:Ziy (bdOf bdsMs):=⟨by kernel_rfl⟩
theorem ZuK:Zlh (bdOf bdsMs):=⟨by kernel_rfl,ZpP⟩
theorem Zp9:Zib (bdOf bdsMs):=⟨by kernel_rfl,ZuK⟩
theorem Zsj:ZkI (bdOf bdsMs):=⟨by kernel_rfl⟩
theorem Zn2:Zg2 (bdOf bdsMs):=⟨by kernel_rfl,Zsj,ZiJ⟩
theorem Zqb:Zis (bdOf bdsMs):=⟨by kernel_rfl⟩
theorem Zl9:ZeP (bdOf bdsMs):=⟨by kernel_rfl⟩
theorem Zkk:Zdw (bdOf bdsMs):=⟨by kernel_rfl,Zl9⟩
theorem Zf4:ZbU (bdOf bdsMs):=⟨by kernel_rfl,Zkk⟩
theorem Znn:ZfS (bdOf bdsMs):=⟨by kernel_rfl,Zqb,Zf4⟩
theorem ZmE:Ze8 (bdOf bdsMs):=⟨by kernel_rfl,ZiJ⟩
theorem ZiB:ZcB (bdOf bdsMs):=⟨by kernel_rfl⟩
theorem Zpx:Zh7 (bdOf bdsMs):=⟨by kernel_rfl⟩
theorem ZiC:ZcA (bdOf bdsMs):=⟨by kernel_rfl⟩
theorem Zrq:Zjc (bdOf bdsMs):=⟨by kernel_rfl⟩
theorem Zi3:Zel (bdOf bdsMs):=⟨by kernel_rfl⟩
theorem Zo3:Zhb (bdOf bdsMs):=⟨by kernel_rfl⟩
theorem Zok:Zg6 (bdOf bdsMs):=⟨by kernel_rfl,Zn2,ZmE,Zo3⟩
theorem ZmH:Zfy (bdOf bdsMs):=⟨by kernel_rfl⟩
theorem Zrv:Zjr (bdOf bdsMs):=⟨by kernel_rfl,Zi3,Zok,ZmH,Zrq⟩
theorem Zmx:ZfA (bdOf bdsMs):=⟨by kernel_rfl⟩
theorem Zph:Zir (bdOf bdsMs):=⟨by kernel_rfl,Zpx,Zmx⟩
theorem ZoR:Zha (bdOf bdsMs):=⟨by kernel_rfl⟩
theorem ZjP:Ze9 (bdOf bdsMs):=⟨by kernel_rfl⟩
theorem Zf1:Zc5 (bdOf bdsMs):=⟨by kernel_rfl⟩
theorem Ze1:Zbs (bdOf bdsMs):=⟨by kernel_rfl,Zf1⟩
theorem Zpd:Zh0 (bdOf bdsMs):=⟨by kernel_rfl⟩
theorem ZmF:Zfc (bdOf bdsMs):=⟨by kernel_rfl⟩
theorem Zk8:ZcF (bdOf bdsMs):=⟨by kernel_rfl,ZmF⟩
theorem Zh4:Zbv (bdOf bdsMs):=⟨by kernel_rfl,Zpd,Zk8⟩
theorem Zpe:Ziq (bdOf bdsMs):=⟨by kernel_rfl⟩
theorem Zn1:Zhf (bdOf bdsMs):=⟨by kernel_rfl⟩
theorem ZbT:ZbC (bdOf bdsMs):=⟨by kernel_rfl,Zn1⟩
theorem Zqm:ZhT (bdOf bdsMs):=⟨by kernel_rfl⟩
theorem ZnX:Zg0 (bdOf bdsMs):=⟨by kernel_rfl,Zqm⟩
theorem Zrc:Zju (bdOf bdsMs):=⟨by kernel_rfl,ZnX⟩
theorem ZpR:Zh6 (bdOf bdsMs):=⟨by kernel_rfl⟩
theorem ZbA:Zbm (bdOf bdsMs):=⟨by kernel_rfl,ZbT,Zrc,ZpR⟩
theorem Zri:Zjv (bdOf bdsMs):=⟨by kernel_rfl,ZbT,ZbA⟩
theorem Zcb:Zbp (bdOf bdsMs):=⟨by kernel_rfl⟩
theorem ZrR:Zjs (bdOf bdsMs):=⟨by kernel_rfl,ZbT,ZbA⟩
theorem Zkh:Zch (bdOf bdsMs):=⟨by kernel_rfl,Zcb,ZrR⟩
theorem Zq8:Zjk (bdOf bdsMs):=⟨by kernel_rfl,ZbT,ZbA⟩
theorem Ze2:Zc7 (bdOf bdsMs):=⟨by kernel_rfl⟩
theorem Zrt:Zjn (bdOf bdsMs):=⟨by kernel_rfl,ZbT,ZbA,Ze2⟩
theorem Zk6:Zd8 (bdOf bdsMs):=⟨by kernel_rfl,Zcb,Zkh,Zq8,Zrt⟩
theorem ZpN:ZhR (bdOf bdsMs):=⟨by kernel_rfl,Ze2⟩
theorem Zpy:ZhP (bdOf bdsMs):=⟨by kernel_rfl,ZbT,ZbA,ZpN⟩
theorem Zr7:Zji (bdOf bdsMs):=⟨by kernel_rfl,ZbT,ZbA,Ze2⟩
theorem Zj1:Zdk (bdOf bdsMs):=⟨by kernel_rfl,Zcb,Zpy,Zr7⟩
theorem ZpK:Zin (bdOf bdsMs):=⟨by kernel_rfl⟩
theorem Zil:ZdT (bdOf bdsMs):=⟨by kernel_rfl,ZpK⟩
theorem ZoP:ZgT (bdOf bdsMs):=⟨by kernel_rfl,Zil,Zi3⟩
theorem ZrU:Zi6 (bdOf bdsMs):=⟨by kernel_rfl,ZbA⟩
theorem Zpj:Zik (bdOf bdsMs):=⟨by kernel_rfl⟩
theorem Zoz:Zg1 (bdOf bdsMs):=⟨by kernel_rfl,Zpe,Zrv,Zri,Zk6,Zj1,Zil,ZoP,Zcb,ZrU,Zpj⟩
theorem ZhV:ZdW (bdOf bdsMs):=⟨by kernel_rfl⟩
theorem Zc1:Zb7 (bdOf bdsMs):=⟨by kernel_rfl,ZhV⟩
theorem Zi9:ZgN (bdOf bdsMs):=⟨by kernel_rfl,Zc1⟩
theorem ZmB:Ze3 (bdOf bdsMs):=⟨by kernel_rfl⟩
theorem ZmW:ZiF (bdOf bdsMs):=⟨by kernel_rfl⟩
theorem Zof:Zhg (bdOf bdsMs):=⟨by kernel_rfl,ZjP,ZmW⟩
theorem ZiA:Zcy (bdOf bdsMs):=⟨by kernel_rfl⟩
theorem ZcQ:Zbi (bdOf bdsMs):=⟨by kernel_rfl,ZiA⟩
theorem Zoh:Zg4 (bdOf bdsMs):=⟨by kernel_rfl,ZjP,ZmB,Zof,ZcQ⟩
theorem ZbV:ZT (bdOf bdsMs):=⟨by kernel_rfl⟩
theorem ZpL:ZiD (bdOf bdsMs):=⟨by kernel_rfl⟩
theorem ZnI:ZgX (bdOf bdsMs):=⟨by kernel_rfl,ZmW,ZpL⟩
theorem ZhO:ZdZ (bdOf bdsMs):=⟨by kernel_rfl,ZhV⟩
theorem ZkS:ZgD (bdOf bdsMs):=⟨by kernel_rfl⟩
theorem ZiH:Zez (bdOf bdsMs):=⟨by kernel_rfl⟩
theorem Zbo:Z6 (bdOf bdsMs):=⟨by kernel_rfl,ZiH⟩
theorem ZsA:ZkG (bdOf bdsMs):=⟨by kernel_rfl⟩
theorem ZrA:Zjt (bdOf bdsMs):=⟨by kernel_rfl,ZsA⟩
theorem Zno:Zf2 (bdOf bdsMs):=⟨by kernel_rfl⟩
theorem Zub:ZlZ (bdOf bdsMs):=⟨by kernel_rfl,ZrA,Zno⟩
theorem Zty:ZkD (bdOf bdsMs):=⟨by kernel_rfl,Zub⟩
theorem Zb2:ZbI (bdOf bdsMs):=⟨by kernel_rfl⟩
theorem ZnV:ZgV (bdOf bdsMs):=⟨by kernel_rfl,Zbo,Zty,Zb2⟩
theorem Zn8:Zhh (bdOf bdsMs):=⟨by kernel_rfl⟩
theorem Zb5:ZbJ (bdOf bdsMs):=⟨by kernel_rfl,ZnV,Zn8⟩
theorem Zre:Zi7 (bdOf bdsMs):=⟨by kernel_rfl,ZiH,Zb2⟩
theorem Zos:Zhi (bdOf bdsMs):=⟨by kernel_rfl,Zre⟩
theorem Zm8:ZfP (bdOf bdsMs):=⟨by kernel_rfl⟩
theorem Zpz:Ziv (bdOf bdsMs):=⟨by kernel_rfl,Ze1,Zm8⟩
theorem ZtX:Zj9 (bdOf bdsMs):=⟨by kernel_rfl,Zb5,Zbo,Zos,Zpz⟩
theorem ZiX:ZeC (bdOf bdsMs):=⟨by kernel_rfl⟩
theorem Zlk:ZeM (bdOf bdsMs):=⟨by kernel_rfl,ZiX⟩
theorem Znk:Zf3 (bdOf bdsMs):=⟨by kernel_rfl,Zb5,Zb2,Zlk⟩
theorem Zmz:ZfE (bdOf bdsMs):=⟨by kernel_rfl,ZiX⟩
theorem Zoe:ZgY (bdOf bdsMs):=⟨by kernel_rfl,Zb5,Zbo,Zb2,Zmz⟩
theorem ZeY:Zca (bdOf bdsMs):=⟨by kernel_rfl⟩
theorem ZkB:ZdH (bdOf bdsMs):=⟨by kernel_rfl,Zp9,ZeY⟩
theorem Zln:ZeI (bdOf bdsMs):=⟨by kernel_rfl,Zb5,Zbo,Zb2,ZkB⟩
theorem Zl1:ZeH (bdOf bdsMs):=⟨by kernel_rfl,ZcQ,ZeY⟩
theorem ZnC:ZfV (bdOf bdsMs):=⟨by kernel_rfl,Zb5,Zbo,Zb2,Zl1⟩
theorem Zqc:Zij (bdOf bdsMs):=⟨by kernel_rfl,ZtX,Znk,Zoe,Zln,ZnC⟩
theorem ZbY:Z0 (bdOf bdsMs):=⟨by kernel_rfl,ZhO,ZbV,ZkS,Zc1,Zqc⟩
theorem Zkg:Zck (bdOf bdsMs):=⟨by kernel_rfl,ZbV,ZbY⟩
theorem ZjT:Zdj (bdOf bdsMs):=⟨by kernel_rfl,ZbV,ZnI,ZbY,Zkg⟩
theorem ZkJ:Zdv (bdOf bdsMs):=⟨by kernel_rfl,ZbV⟩
theorem Zkc:Zcq (bdOf bdsMs):=⟨by kernel_rfl,ZbV,ZbY,Zh4⟩
theorem Zda:ZW (bdOf bdsMs):=⟨by kernel_rfl⟩
theorem Zjh:ZcV (bdOf bdsMs):=⟨by kernel_rfl,ZbV,ZbY,Znn,Zkc,Zda,Zh4⟩
theorem Zks:ZdD (bdOf bdsMs):=⟨by kernel_rfl⟩
theorem Zk1:Zd9 (bdOf bdsMs):=⟨by kernel_rfl,Zi9,Zoh,ZbV,ZjT,ZkJ,Zjh,Zks⟩
theorem Zbz:ZA (bdOf bdsMs):=⟨by kernel_rfl⟩
theorem ZdE:Z5 (bdOf bdsMs):=⟨by kernel_rfl⟩
theorem Zr0:Zgx (bdOf bdsMs):=⟨by kernel_rfl,ZdE⟩
theorem ZkW:Zgz (bdOf bdsMs):=⟨by kernel_rfl,Zbz,Zr0,ZiC⟩
theorem Zfs:Zbx (bdOf bdsMs):=⟨by kernel_rfl⟩
theorem ZmD:ZfI (bdOf bdsMs):=⟨by kernel_rfl,Zfs⟩
theorem ZrT:Zi5 (bdOf bdsMs):=⟨by kernel_rfl,Zb5,Zbo⟩
theorem ZnS:Zg8 (bdOf bdsMs):=⟨by kernel_rfl⟩
theorem ZoO:ZgZ (bdOf bdsMs):=⟨by kernel_rfl⟩
theorem Zr2:Zja (bdOf bdsMs):=⟨by kernel_rfl,ZoO⟩
theorem Zrh:Zjb (bdOf bdsMs):=⟨by kernel_rfl,Zr2⟩
theorem Zo8:Zid (bdOf bdsMs):=⟨by kernel_rfl,Zrh⟩
theorem Zrl:Zi8 (bdOf bdsMs):=⟨by kernel_rfl,Zi9,Zc1,ZnS,Zo8⟩
theorem Zmw:Zfp (bdOf bdsMs):=⟨by kernel_rfl,ZiB⟩
theorem Zfq:ZbB (bdOf bdsMs):=⟨by kernel_rfl⟩
theorem ZlQ:ZeO (bdOf bdsMs):=⟨by kernel_rfl,Zfq⟩
theorem ZmA:Zfu (bdOf bdsMs):=⟨by kernel_rfl,Zmw,Zc1,ZlQ⟩
theorem Zm7:Zf5 (bdOf bdsMs):=⟨by kernel_rfl,Zk1,Zi9,ZhO,ZmD,ZrT,ZkS,Zrl,ZmA⟩
theorem ZkE:ZdF (bdOf bdsMs):=⟨by kernel_rfl⟩
theorem Zlr:ZeL (bdOf bdsMs):=⟨by kernel_rfl,ZkE⟩
theorem Zo7:Zhd (bdOf bdsMs):=⟨by kernel_rfl⟩
theorem Zo5:Zg5 (bdOf bdsMs):=⟨by kernel_rfl,Zoz,Zk1,ZkW,Zm7,Zlr,Zo7⟩
theorem has_law26_MarkSames:Zhj (bdOf bdsMs):=⟨by kernel_rfl,Zo5,ZoR,Zph,ZkW⟩
end Go.Gv
