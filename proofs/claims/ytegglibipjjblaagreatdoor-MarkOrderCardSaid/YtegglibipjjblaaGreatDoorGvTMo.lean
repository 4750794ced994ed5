/- The ties of a seat: written by gvseat.py. -/
import Derived.Test.YtegglibipjjblaaGreatDoorGvZRun
import Derived.Test.YtegglibipjjblaaGreatDoorGvSortOk
import Derived.Test.YtegglibipjjblaaGreatDoorGvZLaw
import Derived.Test.YtegglibipjjblaaGreatDoorGvZBod
import Derived.Test.YtegglibipjjblaaGreatDoorGvBMk
import Derived.Test.YtegglibipjjblaaGreatDoorProg
namespace Go.Gv
open Go.Proofs
set_option maxRecDepth 100000
noncomputable section
noncomputable def cfgMo:Cfg:=⟨Tryz.prog,lkN [(145,12),(177,15),(199,19),(209,26),(112,27),(218,28),(146,29),(134,34),(100,39),(113,40),(220,54),(133,57),(161,64),(191,72),(64,86),(58,114),(29,133),(70,141),(72,142),(68,143),(71,144),(93,145),(206,147),(28,155),(217,156),(103,159),(138,161),(137,162),(172,163),(14,169),(16,170),(17,171),(21,172),(20,173),(19,174),(23,177),(25,179),(6,182),(31,183),(30,184),(40,188),(41,189),(42,190),(39,191),(47,192),(46,193),(45,194),(44,195),(43,196),(48,197),(56,198),(57,199),(62,200),(63,201),(59,202),(61,203),(60,204),(66,206),(73,209),(74,210),(85,213),(86,214),(89,215),(88,216),(87,217),(91,218),(90,219),(92,220),(94,221),(96,222),(95,223),(50,225),(51,226),(97,227),(98,228),(99,229),(52,230),(53,231),(102,232),(101,233),(54,234),(104,235),(105,236),(106,237),(107,238),(109,239),(108,240),(110,241),(111,242),(124,248),(125,249),(126,250),(127,251),(128,252),(129,253),(130,254),(131,255),(132,256),(139,259),(140,260),(141,261),(142,262),(143,263),(144,264),(156,272),(157,273),(158,274),(159,275),(160,276),(174,285),(173,286),(175,287),(176,288),(185,295),(186,296),(187,297),(188,298),(189,299),(190,300),(197,306),(198,307),(205,312),(207,313),(208,314),(210,315),(212,317),(213,318),(219,320)],has [145,177,199,209,112,218,146,134,100,113,220,133,161,191,64,58,29,70,72,68,71,93,206,28,217,103,138,137,172,14,16,17,21,20,19,23,25,6,31,30,40,41,42,39,47,46,45,44,43,48,56,57,62,63,59,61,60,66,73,74,85,86,89,88,87,91,90,92,94,96,95,50,51,97,98,99,52,53,102,101,54,104,105,106,107,109,108,110,111,124,125,126,127,128,129,130,131,132,139,140,141,142,143,144,156,157,158,159,160,174,173,175,176,185,186,187,188,189,190,197,198,205,207,208,210,212,213,219],tyN [(9,0),(143,4),(159,5),(163,2),(166,1),(171,3),(202,6)],lkN [(0,2)],has [0],lkE [(23,[.int .i64,.int .i64,.int .i64]),(62,[.int .i64,.int .i64,.int .i64,.int .i64]),(137,[.bool,.int .i64,.int .i64])],has [101]⟩
theorem ZrE:bodyM cfgMo ⟨[],(.n .z (.n .z (.n (.j [(3,.v (.b (.slice 1)))] (.j [(0,.v (.b (.str))),(3,.v (.b (.slice 1)))] .z .z) .z) .z))),true⟩ Tryz.f145=ZeJ:=by kernel_rfl
theorem Zq1:bodyM cfgMo ⟨[],(.n .z (.n .z (.n .z (.n (.n (.n .z (.n .z (.n .z (.n .z (.n .z (.j [] (.n (.n .z (.j [(5,.v (.b (.int .u8)))] .z .z)) (.n (.n .z (.j [(6,.v (.b (.int .u8)))] .z .z)) .z)) (.n .z (.j [] (.n (.n .z (.j [(5,.v (.b (.int .u8)))] .z .z)) (.n (.n .z (.j [(6,.v (.b (.int .u8)))] .z .z)) .z)) .z)))))))) .z) .z)))),false⟩ Tryz.f177=Zeo:=by kernel_rfl
theorem ZnX:bodyM cfgMo ⟨[],.z,false⟩ Tryz.f199=Zdv:=by kernel_rfl
theorem ZsY:bodyM cfgMo ⟨[],(.n .z (.n .z (.n (.n .z (.j [(3,.v (.b (.int .i64)))] (.j [(3,.v (.b (.int .i64))),(7,.t)] .z .z) .z)) .z))),false⟩ Tryz.f209=Zfs:=by kernel_rfl
theorem ZrD:bodyM cfgMo ⟨[],(.n .z (.n .z (.n .z (.n (.n .z (.j [(4,.v (.b (.bool)))] (.j [(4,.v (.b (.bool))),(5,.v (.b (.int .i64)))] .z .z) .z)) .z)))),false⟩ Tryz.f112=Zer:=by kernel_rfl
theorem ZvY:bodyM cfgMo ⟨[4],(.n .z (.n (.n .z (.j [] (.j [(6,.v (.b (.int .i64)))] .z .z) .z)) .z)),false⟩ Tryz.f218=ZiQ:=by kernel_rfl
theorem Zu2:bodyM cfgMo ⟨[],.z,false⟩ Tryz.f146=ZhC:=by kernel_rfl
theorem Zr9:bodyM cfgMo ⟨[],(.n .z (.n .z (.n (.n .z (.j [(3,.v (.b (.slice 1)))] (.j [(3,.v (.b (.slice 1))),(7,.t)] .z .z) .z)) .z))),true⟩ Tryz.f134=Zfv:=by kernel_rfl
theorem Zpd:bodyM cfgMo ⟨[],.z,false⟩ Tryz.f100=Zd4:=by kernel_rfl
theorem Zoo:bodyM cfgMo ⟨[],(.n .z (.n .z (.n (.n .z (.j [] (.j [(7,.v (.b (.int .i64)))] .z .z) .z)) .z))),false⟩ Tryz.f113=ZdD:=by kernel_rfl
theorem Zs1:bodyM cfgMo ⟨[0],.z,false⟩ Tryz.f220=Zh1:=by kernel_rfl
theorem Zhg:bodyM cfgMo ⟨[],(.n .z (.n (.n .z (.j [] (.j [(11,.v (.b (.int .i64)))] .z .z) .z)) .z)),false⟩ Tryz.f133=Zbe:=by kernel_rfl
theorem Zlp:bodyM cfgMo ⟨[],.z,false⟩ Tryz.f161=Zct:=by kernel_rfl
theorem Znt:bodyM cfgMo ⟨[],.z,false⟩ Tryz.f191=Zdb:=by kernel_rfl
theorem Zja:bodyM cfgMo ⟨[],.z,false⟩ Tryz.f64=Zbc:=Zzd (fun c=>by kernel_rfl) (by kernel_rfl)
theorem Zjo:bodyM cfgMo ⟨[],(.n .z (.n .z (.n (.n .z (.j [] (.j [(13,.v (.b (.int .i64)))] .z .z) .z)) .z))),false⟩ Tryz.f58=ZbI:=by kernel_rfl
theorem ZtU:bodyM cfgMo ⟨[1,7],(.n .z (.n .z (.n .z (.n .z (.n .z (.n .z (.n (.n .z (.j [] (.j [(6,.v (.b (.int .i64)))] .z .z) .z)) (.n (.n .z (.j [] (.j [(8,.v (.b (.int .i64)))] .z .z) .z)) (.n (.n .z (.j [] (.j [(10,.v (.b (.int .i64)))] .z .z) .z)) .z))))))))),false⟩ Tryz.f29=ZgG:=by kernel_rfl
theorem ZrB:bodyM cfgMo ⟨[1],.z,false⟩ Tryz.f70=ZeE:=by kernel_rfl
theorem Zob:bodyM cfgMo ⟨[1],(.n .z (.n .z (.n (.n .z (.j [(3,.v (.b (.slice 4)))] (.j [(3,.v (.b (.slice 4))),(4,.v (.b (.int .i64)))] .z .z) .z)) .z))),true⟩ Tryz.f72=Zdz:=by kernel_rfl
theorem Zuz:bodyM cfgMo ⟨[],(.n .z (.n (.n .z (.j [] (.j [(5,.v (.b (.int .i64)))] .z .z) .z)) .z)),false⟩ Tryz.f68=ZgB:=by kernel_rfl
theorem ZrA:bodyM cfgMo ⟨[],(.n .z (.n .z (.n (.n .z (.j [] (.j [(3,.v (.b (.int .i64)))] (.n .z (.n (.j [] (.n .z (.n .z (.j [] (.j [(4,.v (.b (.int .i64)))] .z .z) .z))) .z) .z)) .z) .z)) .z))),false⟩ Tryz.f71=Zew:=by kernel_rfl
theorem ZsG:bodyM cfgMo ⟨[1],.z,false⟩ Tryz.f93=ZcZ:=by kernel_rfl
theorem ZfU:bodyM cfgMo ⟨[],.z,false⟩ Tryz.f206=Z0:=by kernel_rfl
theorem ZrW:bodyM cfgMo ⟨[2,3],.z,false⟩ Tryz.f28=ZeB:=by kernel_rfl
theorem Zg0:bodyM cfgMo ⟨[],(.n .z (.n (.n .z (.j [] (.j [(8,.v (.b (.int .i64)))] .z .z) .z)) .z)),false⟩ Tryz.f217=Zbd:=by kernel_rfl
theorem ZjE:bodyM cfgMo ⟨[2,3],.z,false⟩ Tryz.f103=ZcV:=by kernel_rfl
theorem Zhq:bodyM cfgMo ⟨[],.z,false⟩ Tryz.f138=Zb2:=by kernel_rfl
theorem Zmb:bodyM cfgMo ⟨[],(.n .z (.n .z (.n (.n .z (.j [] (.j [(8,.v (.b (.int .i64)))] .z .z) .z)) .z))),false⟩ Tryz.f137=ZdE:=by kernel_rfl
theorem ZiY:bodyM cfgMo ⟨[],.z,false⟩ Tryz.f172=Zcz:=by kernel_rfl
theorem Zrj:bodyM cfgMo ⟨[2,4],.z,false⟩ Tryz.f14=Zen:=by kernel_rfl
theorem Zrh:bodyM cfgMo ⟨[3,7,10],(.n .z (.n .z (.n .z (.n .z (.n .z (.n .z (.n .z (.n .z (.n (.n .z (.j [(10,.l [.int .i64,.int .i64,.int .i64,.int .i64,.int .i64,.int .i64,.int .i64,.int .i64,.slice 1])] .z .z)) (.n .z (.n (.n .z (.j [(10,.l [.int .i64,.int .i64,.int .i64,.int .i64,.int .i64,.int .i64,.int .i64,.int .i64,.slice 1])] (.j [(10,.l [.int .i64,.int .i64,.int .i64,.int .i64,.int .i64,.int .i64,.int .i64,.int .i64,.slice 1]),(12,.v (.b (.int .i64)))] .z .z) .z)) (.n (.n .z (.j [(11,.v (.b (.slice 1)))] (.j [(11,.v (.b (.slice 1))),(13,.v (.b (.int .i64)))] .z .z) .z)) (.n .z (.n (.n .z (.j [] (.j [(14,.v (.b (.int .i64)))] .z .z) .z)) .z)))))))))))))),false⟩ Tryz.f16=Zez:=by kernel_rfl
theorem ZtY:bodyD cfgMo 3 Tryz.f17 Tryz.f49=Zgr:=by kernel_rfl
theorem Zn1:bodyM cfgMo ⟨[],(.n .z (.n .z (.n (.n .z (.j [(3,.v (.b (.slice 1)))] (.j [(3,.v (.b (.slice 1))),(11,.v (.b (.int .i64)))] (.n .z (.n .z (.n (.j [(3,.v (.b (.slice 1)))] (.n .z (.j [(3,.v (.b (.slice 1)))] (.j [(3,.v (.b (.slice 1))),(5,.v (.b (.int .u64)))] .z .z) .z)) .z) .z))) .z) .z)) .z))),false⟩ Tryz.f21=ZdA:=by kernel_rfl
theorem Zpj:bodyM cfgMo ⟨[4,7,13],(.n .z (.n .z (.n .z (.n .z (.n (.n .z (.j [(10,.v (.b (.slice 49)))] (.j [(10,.v (.b (.slice 49))),(39,.v (.b (.int .i64)))] .z .z) .z)) .z))))),false⟩ Tryz.f20=Zd9:=by kernel_rfl
theorem Zun:bodyM cfgMo ⟨[2,3],.z,false⟩ Tryz.f19=ZgM:=by kernel_rfl
theorem ZvN:bodyM cfgMo ⟨[],.z,false⟩ Tryz.f23=ZiR:=by kernel_rfl
theorem ZsM:bodyM cfgMo ⟨[],.z,false⟩ Tryz.f25=ZfQ:=by kernel_rfl
theorem Zmt:bodyM cfgMo ⟨[3,5,12],(.n .z (.n .z (.n .z (.n .z (.n .z (.n (.n .z (.j [] (.j [(9,.v (.b (.int .i64)))] (.n .z (.n (.j [] (.n .z (.n .z (.j [] (.j [(11,.v (.b (.int .i64)))] .z .z) .z))) .z) .z)) .z) .z)) .z)))))),false⟩ Tryz.f6=ZcM:=by kernel_rfl
theorem Zns:bodyM cfgMo ⟨[],(.n .z (.n .z (.n (.n .z (.j [(3,.v (.b (.int .i64)))] (.j [(3,.v (.b (.int .i64))),(11,.v (.b (.int .i64)))] .z .z) .z)) .z))),false⟩ Tryz.f31=Zc7:=by kernel_rfl
theorem Zp4:bodyM cfgMo ⟨[],.z,false⟩ Tryz.f30=ZdZ:=by kernel_rfl
theorem ZrG:bodyM cfgMo ⟨[0],.z,true⟩ Tryz.f40=Zek:=by kernel_rfl
theorem ZmD:bodyM cfgMo ⟨[7],(.n .z (.n .z (.n (.n .z (.j [(5,.v (.b (.slice 1)))] (.j [(5,.v (.b (.slice 1))),(6,.v (.b (.int .i64)))] (.n .z (.n (.j [(5,.v (.b (.slice 1)))] (.n .z (.n .z (.n (.n .z (.j [(7,.l [.str,.int .i64,.blob 12])] (.j [(7,.l [.str,.int .i64,.blob 12]),(8,.v (.b (.slice 4))),(9,.v (.b (.int .i64)))] (.n .z (.n (.n (.n .z (.j [(7,.l [.str,.int .i64,.blob 12]),(8,.v (.b (.slice 4)))] .z .z)) .z) .z)) .z) .z)) .z))) .z) .z)) .z) .z)) .z))),false⟩ Tryz.f41=ZcN:=by kernel_rfl
theorem Zk9:bodyM cfgMo ⟨[3,7,12,14],(.n .z (.n .z (.n (.n .z (.j [(5,.v (.b (.slice 1)))] (.j [(5,.v (.b (.slice 1))),(6,.v (.b (.int .i64)))] (.n .z (.n (.j [(5,.v (.b (.slice 1)))] (.n .z (.n (.n .z (.j [(7,.l [.blob 21])] (.j [(7,.l [.blob 21]),(8,.v (.b (.int .i64)))] (.n .z (.n (.j [(7,.l [.blob 21])] (.n .z (.n (.n .z (.j [(7,.l [.blob 21])] .z .z)) (.n .z (.j [(7,.l [.blob 21])] (.j [(7,.l [.blob 21]),(9,.v (.b (.int .i64)))] (.n .z (.n (.n (.n .z (.j [(7,.l [.blob 21])] .z .z)) .z) .z)) .z) .z)))) .z) .z)) .z) .z)) .z)) .z) .z)) .z) .z)) (.n .z (.n .z (.n (.n .z (.j [(12,.l [.blob 16])] (.j [(12,.l [.blob 16]),(13,.v (.b (.int .i64)))] (.n .z (.n (.j [(12,.l [.blob 16])] (.n .z (.n (.n .z (.j [(14,.l [.blob 16])] (.j [(14,.l [.blob 16]),(15,.v (.b (.int .i64)))] .z .z) .z)) .z)) .z) .z)) .z) .z)) .z)))))),false⟩ Tryz.f42=Zcj:=by kernel_rfl
theorem Zuj:bodyM cfgMo ⟨[1],(.n .z (.n .z (.n .z (.n (.n .z (.j [(3,.v (.b (.str)))] (.j [(3,.v (.b (.str))),(4,.v (.b (.int .i64)))] .z .z) .z)) .z)))),false⟩ Tryz.f39=Zgl:=by kernel_rfl
theorem Zsx:bodyM cfgMo ⟨[4,5],(.n .z (.n .z (.n (.n .z (.j [(5,.l [.int .i64,.blob 48])] (.j [(5,.l [.int .i64,.blob 48]),(6,.v (.b (.int .i64)))] (.n .z (.n (.n (.n .z (.j [(5,.l [.int .i64,.blob 48])] .z .z)) .z) .z)) .z) .z)) .z))),false⟩ Tryz.f47=Zfj:=by kernel_rfl
theorem Zub:bodyM cfgMo ⟨[],.z,false⟩ Tryz.f46=Zgh:=by kernel_rfl
theorem ZmC:bodyM cfgMo ⟨[],(.n .z (.n .z (.n .z (.n (.n .z (.j [] .z .z)) .z)))),false⟩ Tryz.f45=ZcO:=by kernel_rfl
theorem Zru:bodyM cfgMo ⟨[1],(.n .z (.n .z (.n .z (.n .z (.n (.n .z (.j [(3,.v (.b (.slice 1)))] .z .z)) (.n (.n .z (.j [(3,.v (.b (.slice 1)))] .z .z)) (.n (.n .z (.j [(3,.v (.b (.slice 1)))] (.j [(3,.v (.b (.slice 1))),(4,.v (.b (.int .i64)))] (.n .z (.n (.j [(3,.v (.b (.slice 1)))] (.n .z (.n .z (.j [] (.j [(5,.v (.b (.int .i64)))] .z .z) .z))) .z) .z)) .z) .z)) (.n (.n .z (.j [] (.j [(6,.v (.b (.int .i64)))] .z .z) .z)) .z)))))))),false⟩ Tryz.f44=Zey:=by kernel_rfl
theorem ZpB:bodyM cfgMo ⟨[1],.z,false⟩ Tryz.f43=Zd5:=by kernel_rfl
theorem Zrm:bodyM cfgMo ⟨[],(.n .z (.n .z (.n .z (.n .z (.n (.n .z (.j [] (.j [(102,.v (.b (.int .i64)))] .z .z) .z)) .z))))),false⟩ Tryz.f48=Zes:=by kernel_rfl
theorem ZbN:bodyM cfgMo ⟨[8,9],(.n .z (.n .z (.n (.n .z (.j [] (.j [(17,.v (.b (.int .i64)))] .z .z) .z)) .z))),false⟩ Tryz.f56=Zt:=by kernel_rfl
theorem ZtV:bodyM cfgMo ⟨[2,3],.z,false⟩ Tryz.f57=Zgv:=by kernel_rfl
theorem ZtS:bodyM cfgMo ⟨[8],(.n .z (.n .z (.n .z (.n (.n .z (.j [] (.j [(27,.v (.b (.int .i64)))] .z .z) .z)) .z)))),false⟩ Tryz.f62=Zgx:=by kernel_rfl
theorem ZnQ:bodyM cfgMo ⟨[],.z,false⟩ Tryz.f63=Zdw:=by kernel_rfl
theorem Zo4:bodyM cfgMo ⟨[],.z,false⟩ Tryz.f59=Zdy:=by kernel_rfl
theorem Zuc:bodyM cfgMo ⟨[],.z,true⟩ Tryz.f61=ZgA:=by kernel_rfl
theorem Zuy:bodyM cfgMo ⟨[2],.z,false⟩ Tryz.f60=ZgD:=by kernel_rfl
theorem ZpU:bodyM cfgMo ⟨[],(.n .z (.j [] (.j [(8,.v (.b (.int .i64)))] (.n .z (.n .z (.n (.n (.n .z (.n .z (.j [] .z .z))) .z) .z))) .z) .z)),false⟩ Tryz.f66=ZdS:=by kernel_rfl
theorem Zqh:bodyM cfgMo ⟨[],.z,false⟩ Tryz.f73=Zd7:=by kernel_rfl
theorem Zma:bodyM cfgMo ⟨[],.z,false⟩ Tryz.f74=ZcB:=by kernel_rfl
theorem Zue:bodyM cfgMo ⟨[],(.n .z (.n .z (.n (.n .z (.j [(5,.v (.b (.str)))] (.j [(5,.v (.b (.str))),(6,.v (.b (.int .i64)))] .z .z) .z)) .z))),false⟩ Tryz.f85=ZgH:=by kernel_rfl
theorem Zr3:bodyM cfgMo ⟨[],.z,false⟩ Tryz.f86=ZfT:=by kernel_rfl
theorem Zt3:bodyM cfgMo ⟨[],(.n .z (.n .z (.n .z (.n (.n .z (.j [(4,.v (.b (.str)))] (.j [(4,.v (.b (.str))),(5,.v (.b (.int .i64)))] (.n .z (.n (.j [(4,.v (.b (.str)))] (.n .z (.n (.n .z (.j [] (.j [(6,.v (.b (.int .i64)))] .z .z) .z)) .z)) .z) .z)) .z) .z)) .z)))),false⟩ Tryz.f89=Zgg:=by kernel_rfl
theorem Zt1:bodyM cfgMo ⟨[1],(.n .z (.n .z (.n (.n .z (.j [(3,.v (.b (.str)))] (.j [(3,.v (.b (.str))),(4,.v (.b (.int .i64)))] .z .z) .z)) .z))),false⟩ Tryz.f88=Zgn:=by kernel_rfl
theorem Zl0:bodyM cfgMo ⟨[5],(.n .z (.n .z (.n (.n .z (.j [(5,.l [.int .i64,.int .i64,.int .i64,.int .i64,.slice 1])] (.j [(5,.l [.int .i64,.int .i64,.int .i64,.int .i64,.slice 1]),(6,.v (.b (.int .i64)))] .z .z) .z)) .z))),false⟩ Tryz.f87=Zcx:=by kernel_rfl
theorem ZtX:bodyM cfgMo ⟨[1],(.n .z (.n .z (.n (.n .z (.j [(4,.v (.b (.str)))] (.j [(4,.v (.b (.str))),(5,.v (.b (.int .i64)))] .z .z) .z)) .z))),false⟩ Tryz.f91=ZgC:=by kernel_rfl
theorem Ztn:bodyM cfgMo ⟨[1,7],(.n .z (.n .z (.n (.n .z (.j [(4,.v (.b (.str))),(5,.v (.b (.int .i64)))] (.j [(4,.v (.b (.str))),(5,.v (.b (.int .i64))),(6,.v (.b (.int .i64)))] (.n .z (.n (.n (.n .z (.n .z (.n (.n .z (.j [(5,.v (.b (.int .i64)))] .z .z)) .z))) .z) .z)) .z) .z)) .z))),false⟩ Tryz.f90=ZfM:=by kernel_rfl
theorem Zr2:bodyM cfgMo ⟨[],(.n .z (.n .z (.n (.j [(5,.v (.b (.int .i64)))] (.j [(5,.v (.b (.int .i64)))] .z .z) .z) .z))),false⟩ Tryz.f92=ZfG:=by kernel_rfl
theorem ZoJ:bodyM cfgMo ⟨[],.z,false⟩ Tryz.f94=Zdu:=by kernel_rfl
theorem Zhu:bodyM cfgMo ⟨[],.z,false⟩ Tryz.f96=Zbm:=by kernel_rfl
theorem ZrF:bodyM cfgMo ⟨[1],.z,false⟩ Tryz.f95=Zeq:=by kernel_rfl
theorem Zuo:bodyM cfgMo ⟨[],(.n .z (.j [] .z .z)),false⟩ Tryz.f50=Zgm:=by kernel_rfl
theorem Zla:bodyM cfgMo ⟨[],(.n .z (.n .z (.n .z (.j [] (.j [(32,.v (.b (.int .i64)))] (.n .z (.n .z (.n (.j [] (.n .z (.n .z (.n .z (.n .z (.n .z (.j [] (.j [(52,.v (.b (.int .i64)))] (.n .z (.n .z (.n (.n (.n .z (.n .z (.n .z (.j [] .z .z)))) .z) .z))) .z) .z)))))) .z) .z))) .z) .z)))),false⟩ Tryz.f51=Zcl:=by kernel_rfl
theorem ZqZ:bodyM cfgMo ⟨[],.z,false⟩ Tryz.f97=ZeH:=by kernel_rfl
theorem Zlz:bodyM cfgMo ⟨[],.z,false⟩ Tryz.f98=Zcs:=by kernel_rfl
theorem ZlE:bodyM cfgMo ⟨[7],(.n .z (.j [] (.j [(13,.v (.b (.int .i64)))] (.n .z (.n .z (.n (.j [] .z .z) .z))) .z) .z)),false⟩ Tryz.f99=ZcF:=by kernel_rfl
theorem ZlV:bodyM cfgMo ⟨[5,7],(.n .z (.n (.n .z (.j [] (.j [(3,.v (.b (.int .i64)))] .z .z) .z)) (.n .z (.j [] (.j [(86,.v (.b (.int .i64)))] .z .z) .z)))),false⟩ Tryz.f52=Zcy:=by kernel_rfl
theorem Zkd:bodyM cfgMo ⟨[4,5],(.n .z (.n .z (.j [] (.j [(24,.v (.b (.int .i64)))] (.n .z (.n .z (.n (.j [] (.n .z (.n .z (.n .z (.n .z (.n (.n .z (.j [(5,.l [.str,.slice 4])] (.j [(5,.l [.str,.slice 4]),(57,.v (.b (.int .i64)))] (.n .z (.n .z (.n (.n (.n .z (.n .z (.j [(5,.l [.str,.slice 4])] .z .z))) .z) .z))) .z) .z)) .z))))) .z) .z))) .z) .z))),false⟩ Tryz.f53=Zb4:=by kernel_rfl
theorem ZlY:bodyM cfgMo ⟨[9,10,11],(.n .z (.n .z (.n .z (.n (.j [(7,.v (.b (.slice 4)))] (.j [(7,.v (.b (.slice 4))),(8,.v (.b (.slice 7)))] (.n .z (.j [(7,.v (.b (.slice 4))),(8,.v (.b (.slice 7)))] (.n .z (.n .z (.n .z (.n .z (.n .z (.n .z (.n .z (.n .z (.n .z (.j [(8,.v (.b (.slice 7)))] (.j [(8,.v (.b (.slice 7))),(100,.v (.b (.int .i64)))] .z .z) .z)))))))))) .z)) .z) .z) .z)))),false⟩ Tryz.f101=ZcC:=by kernel_rfl
theorem Zlw:bodyM cfgMo ⟨[5],(.n .z (.n .z (.n (.n .z (.j [(3,.v (.b (.int .i64)))] (.j [(3,.v (.b (.int .i64))),(11,.v (.b (.int .i64)))] (.n .z (.n .z (.n (.n (.n .z (.n .z (.n .z (.j [(3,.v (.b (.int .i64)))] .z .z)))) .z) .z))) .z) .z)) .z))),false⟩ Tryz.f54=ZcA:=by kernel_rfl
theorem Zed:bodyM cfgMo ⟨[],(.n .z (.n .z (.n (.n .z (.j [] (.j [(13,.v (.b (.int .i64)))] .z .z) .z)) .z))),false⟩ Tryz.f104=ZN:=by kernel_rfl
theorem Zf2:bodyM cfgMo ⟨[],(.n .z (.n .z (.n (.n .z (.j [] (.j [(13,.v (.b (.int .i64)))] .z .z) .z)) .z))),false⟩ Tryz.f105=Z5:=by kernel_rfl
theorem ZsF:bodyM cfgMo ⟨[],.z,true⟩ Tryz.f106=ZfB:=by kernel_rfl
theorem ZoT:bodyM cfgMo ⟨[],(.n .z (.n .z (.n (.n .z (.j [] (.j [(21,.v (.b (.int .i64)))] .z .z) .z)) .z))),false⟩ Tryz.f107=Zdx:=by kernel_rfl
theorem ZsH:bodyM cfgMo ⟨[1],(.n .z (.n .z (.n (.n .z (.j [(3,.v (.b (.slice 1)))] (.j [(3,.v (.b (.slice 1))),(6,.v (.b (.int .i64)))] (.n .z (.n .z (.n (.n (.n .z (.n .z (.n .z (.j [(3,.v (.b (.slice 1)))] .z .z)))) .z) .z))) .z) .z)) .z))),true⟩ Tryz.f109=Zfw:=by kernel_rfl
theorem Zro:bodyM cfgMo ⟨[],.z,false⟩ Tryz.f108=Zg8:=by kernel_rfl
theorem Zno:bodyM cfgMo ⟨[],.z,false⟩ Tryz.f110=Zc6:=by kernel_rfl
theorem ZtR:bodyM cfgMo ⟨[],(.n .z (.n .z (.n (.n .z (.j [(3,.v (.b (.int .u32)))] (.j [(3,.v (.b (.int .u32))),(4,.v (.b (.int .i64)))] .z .z) .z)) .z))),false⟩ Tryz.f111=Zgu:=by kernel_rfl
theorem ZrC:bodyM cfgMo ⟨[],(.n .z (.n (.n .z (.j [(0,.v (.b (.int .u64)))] (.j [(0,.v (.b (.int .u64))),(5,.v (.b (.int .i64)))] .z .z) .z)) .z)),false⟩ Tryz.f124=Zet:=by kernel_rfl
theorem Zsu:bodyM cfgMo ⟨[],.z,false⟩ Tryz.f125=Zfg:=by kernel_rfl
theorem Zt2:bodyM cfgMo ⟨[1,3],(.n .z (.n .z (.n .z (.n (.n .z (.j [(4,.v (.b (.str)))] (.j [(4,.v (.b (.str))),(5,.v (.b (.int .i64)))] .z .z) .z)) .z)))),false⟩ Tryz.f126=ZgK:=by kernel_rfl
theorem Zq3:bodyM cfgMo ⟨[],.z,false⟩ Tryz.f127=ZeK:=by kernel_rfl
theorem ZsK:bodyM cfgMo ⟨[1],.z,false⟩ Tryz.f128=Zfd:=by kernel_rfl
theorem ZvX:bodyM cfgMo ⟨[],.z,false⟩ Tryz.f129=ZiV:=by kernel_rfl
theorem Zjm:bodyM cfgMo ⟨[],(.n .z (.n (.n .z (.j [] (.j [(8,.v (.b (.int .i64)))] .z .z) .z)) .z)),false⟩ Tryz.f130=ZbL:=by kernel_rfl
theorem Zs2:bodyM cfgMo ⟨[],.z,false⟩ Tryz.f131=ZfA:=by kernel_rfl
theorem ZsA:bodyM cfgMo ⟨[3,5,7,9,11],.z,false⟩ Tryz.f132=ZfL:=by kernel_rfl
theorem Zra:bodyM cfgMo ⟨[],.z,false⟩ Tryz.f139=Zej:=by kernel_rfl
theorem ZrU:bodyM cfgMo ⟨[],.z,true⟩ Tryz.f140=ZeG:=by kernel_rfl
theorem Zq0:bodyM cfgMo ⟨[],.z,false⟩ Tryz.f141=Zep:=by kernel_rfl
theorem Zt8:bodyM cfgMo ⟨[2],.z,false⟩ Tryz.f142=Zgo:=by kernel_rfl
theorem ZfX:bodyM cfgMo ⟨[],.z,false⟩ Tryz.f143=Z3:=by kernel_rfl
theorem Zr0:bodyM cfgMo ⟨[],(.n .z (.n (.n .z (.j [(0,.v (.b (.int .u32)))] (.j [(0,.v (.b (.int .u32))),(5,.v (.b (.int .i64)))] .z .z) .z)) .z)),false⟩ Tryz.f144=ZeC:=by kernel_rfl
theorem ZvC:bodyM cfgMo ⟨[2,8],(.n .z (.n .z (.n .z (.n .z (.n (.n .z (.j [(8,.l [.int .i64,.int .i64,.int .i64,.int .i64,.slice 1])] (.j [(8,.l [.int .i64,.int .i64,.int .i64,.int .i64,.slice 1]),(41,.v (.b (.int .i64)))] .z .z) .z)) .z))))),true⟩ Tryz.f156=ZhE:=by kernel_rfl
theorem ZpE:bodyM cfgMo ⟨[2,8,11],(.n .z (.n .z (.n .z (.n .z (.n (.n .z (.j [(2,.l [.blob 21]),(8,.l [.blob 21])] (.j [(2,.l [.blob 21]),(8,.l [.blob 21]),(30,.v (.b (.int .i64)))] .z .z) .z)) .z))))),false⟩ Tryz.f157=Zd6:=by kernel_rfl
theorem Zrx:bodyM cfgMo ⟨[2,8],(.n .z (.n .z (.n .z (.n .z (.n (.n .z (.j [(8,.l [.blob 16])] (.j [(8,.l [.blob 16]),(36,.v (.b (.int .i64)))] .z .z) .z)) .z))))),false⟩ Tryz.f158=ZeF:=by kernel_rfl
theorem Znh:bodyM cfgMo ⟨[2,8],(.n .z (.n .z (.n .z (.n .z (.n (.n .z (.j [(8,.l [.str,.int .i64,.blob 12])] (.j [(8,.l [.str,.int .i64,.blob 12]),(51,.v (.b (.int .i64)))] .z .z) .z)) .z))))),false⟩ Tryz.f159=Zda:=by kernel_rfl
theorem ZpF:bodyM cfgMo ⟨[2,8],(.n .z (.n .z (.n .z (.n .z (.n (.n .z (.j [(8,.l [.slice 1])] (.j [(8,.l [.slice 1]),(41,.v (.b (.int .i64)))] .z .z) .z)) .z))))),true⟩ Tryz.f160=Zec:=by kernel_rfl
theorem Ztw:bodyM cfgMo ⟨[],(.n .z (.n .z (.n (.n .z (.j [(3,.v (.b (.int .u64)))] (.j [(3,.v (.b (.int .u64))),(12,.v (.b (.int .i64)))] .z .z) .z)) .z))),false⟩ Tryz.f174=ZfE:=by kernel_rfl
theorem Zu0:bodyM cfgMo ⟨[],.z,false⟩ Tryz.f173=Zhy:=by kernel_rfl
theorem ZtK:bodyM cfgMo ⟨[2],.z,false⟩ Tryz.f175=ZgL:=by kernel_rfl
theorem Zs7:bodyM cfgMo ⟨[],.z,false⟩ Tryz.f176=Zfz:=by kernel_rfl
theorem Zry:bodyM cfgMo ⟨[],.z,false⟩ Tryz.f185=Zex:=by kernel_rfl
theorem Zsz:bodyM cfgMo ⟨[1,3],.z,false⟩ Tryz.f186=Zfi:=by kernel_rfl
theorem Znn:bodyM cfgMo ⟨[1],.z,false⟩ Tryz.f187=Zc8:=by kernel_rfl
theorem ZoB:bodyM cfgMo ⟨[1],(.n .z (.n (.n .z (.j [] (.j [(7,.v (.b (.int .i64)))] .z .z) .z)) .z)),false⟩ Tryz.f188=ZdB:=by kernel_rfl
theorem Zl3:bodyM cfgMo ⟨[1],(.n .z (.n .z (.n (.n .z (.j [] (.j [(21,.v (.b (.int .i64)))] .z .z) .z)) .z))),false⟩ Tryz.f189=Zcu:=by kernel_rfl
theorem Zm8:bodyM cfgMo ⟨[1],(.n .z (.n .z (.n (.n .z (.j [] (.j [(18,.v (.b (.int .i64)))] .z .z) .z)) .z))),false⟩ Tryz.f190=Zc9:=by kernel_rfl
theorem ZvT:bodyM cfgMo ⟨[],(.n .z (.n .z (.n (.n .z (.j [(4,.v (.b (.int .u32)))] (.j [(4,.v (.b (.int .u32))),(10,.v (.b (.int .i64)))] .z .z) .z)) .z))),false⟩ Tryz.f197=ZiM:=by kernel_rfl
theorem Zq9:bodyM cfgMo ⟨[1],.z,false⟩ Tryz.f198=ZeI:=by kernel_rfl
theorem Zuu:bodyM cfgMo ⟨[],.z,false⟩ Tryz.f205=ZgN:=by kernel_rfl
theorem Zo9:bodyM cfgMo ⟨[],.z,false⟩ Tryz.f207=Zd2:=by kernel_rfl
theorem ZrY:bodyM cfgMo ⟨[],.z,false⟩ Tryz.f208=Zeu:=by kernel_rfl
theorem Zk8:bodyM cfgMo ⟨[],.z,false⟩ Tryz.f210=Zcm:=by kernel_rfl
theorem ZtZ:bodyM cfgMo ⟨[0,1],(.n .z (.n .z (.n (.n .z (.j [(1,.l [.blob 16])] (.j [(1,.l [.blob 16]),(4,.v (.b (.int .i64)))] (.n .z (.n .z (.n (.j [(1,.l [.blob 16])] (.n .z (.n .z (.n (.n .z (.j [(3,.v (.b (.int .u32)))] (.j [(3,.v (.b (.int .u32))),(9,.v (.b (.int .i64)))] .z .z) .z)) .z))) .z) .z))) .z) .z)) .z))),false⟩ Tryz.f212=Zgs:=by kernel_rfl
theorem ZpL:bodyM cfgMo ⟨[],(.n .z (.n (.n .z (.j [(1,.v (.b (.int .u32)))] (.j [(1,.v (.b (.int .u32))),(11,.v (.b (.int .i64)))] .z .z) .z)) .z)),false⟩ Tryz.f213=ZdV:=by kernel_rfl
theorem Zvh:bodyM cfgMo ⟨[],.z,false⟩ Tryz.f219=Zhs:=by kernel_rfl
end
noncomputable def Zwe:Go.Shelf.Ren:=⟨fun|6=>102|14=>135|15=>136|20=>162|21=>163|22=>164|23=>165|24=>166|25=>167|26=>168|27=>169|28=>170|29=>171|46=>192|47=>193|48=>194|49=>195|50=>196|57=>211|n=>n,fun|0=>0|3=>3|4=>4|5=>5|9=>9|22=>56|24=>62|25=>175|39=>183|45=>247|46=>248|50=>252|53=>184|55=>118|66=>271|70=>275|76=>293|77=>260|n=>n,fun|n=>n⟩
theorem Zvz:SlLaysF0.n6 Tryz.prog Zwe where
 mixed:=by kernel_rfl
 f6:=⟨Tryz.f102.name,by kernel_rfl,Tryz.func102.trans (congrArg some (by kernel_rfl))⟩
 f14:=⟨Tryz.f135.name,by kernel_rfl,Tryz.func135.trans (congrArg some (by kernel_rfl))⟩
 f15:=Tryz.func136.trans (congrArg some (by kernel_rfl))
 f20:=⟨Tryz.f162.name,by kernel_rfl,Tryz.func162.trans (congrArg some (by kernel_rfl))⟩
 f21:=⟨Tryz.f163.name,by kernel_rfl,Tryz.func163.trans (congrArg some (by kernel_rfl))⟩
 f22:=⟨Tryz.f164.name,by kernel_rfl,Tryz.func164.trans (congrArg some (by kernel_rfl))⟩
 f23:=⟨Tryz.f165.name,by kernel_rfl,Tryz.func165.trans (congrArg some (by kernel_rfl))⟩
 f24:=⟨Tryz.f166.name,by kernel_rfl,Tryz.func166.trans (congrArg some (by kernel_rfl))⟩
 f25:=⟨Tryz.f167.name,by kernel_rfl,Tryz.func167.trans (congrArg some (by kernel_rfl))⟩
 f26:=⟨Tryz.f168.name,by kernel_rfl,Tryz.func168.trans (congrArg some (by kernel_rfl))⟩
 f27:=⟨Tryz.f169.name,by kernel_rfl,Tryz.func169.trans (congrArg some (by kernel_rfl))⟩
 f28:=Tryz.func170.trans (congrArg some (by kernel_rfl))
 f29:=Tryz.func171.trans (congrArg some (by kernel_rfl))
 f46:=⟨Tryz.f192.name,by kernel_rfl,Tryz.func192.trans (congrArg some (by kernel_rfl))⟩
 f47:=Tryz.func193.trans (congrArg some (by kernel_rfl))
 f48:=Tryz.func194.trans (congrArg some (by kernel_rfl))
 f49:=⟨Tryz.f195.name,by kernel_rfl,Tryz.func195.trans (congrArg some (by kernel_rfl))⟩
 f50:=⟨Tryz.f196.name,by kernel_rfl,Tryz.func196.trans (congrArg some (by kernel_rfl))⟩
 f57:=⟨Tryz.f211.name,by kernel_rfl,Tryz.func211.trans (congrArg some (by kernel_rfl))⟩
 t0:=Tryz.underlying0
 a0:=Tryz.isAgg0
 z0:=Tryz.sizeOf0
 v0:=Tryz.zeroValue0
 t3:=Tryz.underlying3
 a3:=Tryz.isAgg3
 z3:=Tryz.sizeOf3
 v3:=Tryz.zeroValue3
 t4:=Tryz.underlying4
 a4:=Tryz.isAgg4
 z4:=Tryz.sizeOf4
 v4:=Tryz.zeroValue4
 t5:=Tryz.underlying5
 a5:=Tryz.isAgg5
 z5:=Tryz.sizeOf5
 v5:=Tryz.zeroValue5
 t9:=Tryz.underlying9
 a9:=Tryz.isAgg9
 z9:=Tryz.sizeOf9
 v9:=Tryz.zeroValue9
 t22:=Tryz.underlying56
 a22:=Tryz.isAgg56
 z22:=Tryz.sizeOf56
 v22:=Tryz.zeroValue56
 t25:=Tryz.underlying175
 a25:=Tryz.isAgg175
 z25:=Tryz.sizeOf175
 v25:=Tryz.zeroValue175
 t39:=Tryz.underlying183
 a39:=Tryz.isAgg183
 z39:=Tryz.sizeOf183
 v39:=Tryz.zeroValue183
 t45:=Tryz.underlying247
 a45:=Tryz.isAgg247
 z45:=Tryz.sizeOf247
 v45:=Tryz.zeroValue247
 t46:=Tryz.underlying248
 a46:=Tryz.isAgg248
 z46:=Tryz.sizeOf248
 v46:=Tryz.zeroValue248
 t50:=Tryz.underlying252
 a50:=Tryz.isAgg252
 z50:=Tryz.sizeOf252
 v50:=Tryz.zeroValue252
 t53:=Tryz.underlying184
 a53:=Tryz.isAgg184
 z53:=Tryz.sizeOf184
 v53:=Tryz.zeroValue184
 t55:=Tryz.underlying118
 a55:=Tryz.isAgg118
 z55:=Tryz.sizeOf118
 v55:=Tryz.zeroValue118
 t66:=Tryz.underlying271
 a66:=Tryz.isAgg271
 z66:=Tryz.sizeOf271
 v66:=Tryz.zeroValue271
 t70:=Tryz.underlying275
 a70:=Tryz.isAgg275
 z70:=Tryz.sizeOf275
 v70:=Tryz.zeroValue275
 t76:=Tryz.underlying293
 a76:=Tryz.isAgg293
 z76:=Tryz.sizeOf293
 v76:=Tryz.zeroValue293
 t77:=Tryz.underlying260
 a77:=Tryz.isAgg260
 z77:=Tryz.sizeOf260
 v77:=Tryz.zeroValue260
theorem ZyP:CfgOk cfgMo:=⟨ZyH (by kernel_rfl),(fun t h=>Zvb (Ztb (by kernel_rfl) t h)),(fun t h _ _ _ _ _ _ w hx hy he=>Zxq (Ztb (by kernel_rfl) t h) w hx hy he),Zy8 (e:=309) (by kernel_rfl) (by kernel_rfl)⟩
theorem Zh:FunOk cfgMo:=⟨ZyP,by kernel_rfl⟩
noncomputable def smMo:List (Nat×Body):=[(159,ZcV),(161,Zb2),(162,ZdE),(163,Zcz)]
theorem Zx2: ∀n,Zz cfgMo (run (bdOf smMo) n):=
 ZyU (cov:=[145,177,199,209,112,218,146,134,100,113,220,133,161,191,64,58,29,70,72,68,71,93,206,28,217,103,138,137,172,14,16,17,21,20,19,23,25,6,31,30,40,41,42,39,47,46,45,44,43,48,56,57,62,63,59,61,60,66,73,74,85,86,89,88,87,91,90,92,94,96,95,50,51,97,98,99,52,53,102,101,54,104,105,106,107,109,108,110,111,124,125,126,127,128,129,130,131,132,139,140,141,142,143,144,156,157,158,159,160,174,173,175,176,185,186,187,188,189,190,197,198,205,207,208,210,212,213,219]) (sub:=[103,138,137,172]) rfl (by kernel_rfl) (by kernel_rfl) (List.forall_mem_cons.2 ⟨BodyOK.of_tie Zh Tryz.func103 (by kernel_rfl) ZjE,List.forall_mem_cons.2 ⟨BodyOK.of_tie Zh Tryz.func138 (by kernel_rfl) Zhq,List.forall_mem_cons.2 ⟨BodyOK.of_tie Zh Tryz.func137 (by kernel_rfl) Zmb,List.forall_mem_cons.2 ⟨BodyOK.of_tie Zh Tryz.func172 (by kernel_rfl) ZiY,(fun _ h=>by cases h)⟩⟩⟩⟩)
theorem Znb:Zis (bdOf smMo):=⟨by kernel_rfl⟩
theorem Zlb:Zfo (bdOf smMo):=⟨by kernel_rfl⟩
theorem ZjQ:ZcL (bdOf smMo):=⟨by kernel_rfl,Zlb⟩
theorem ZlQ:ZbE (bdOf smMo):=⟨by kernel_rfl,Znb,ZjQ⟩
noncomputable def bdsMo:List (Nat×Body):=[(12,ZeJ),(15,Zeo),(19,Zdv),(26,Zfs),(27,Zer),(28,ZiQ),(29,ZhC),(34,Zfv),(39,Zd4),(40,ZdD),(54,Zh1),(57,Zbe),(64,Zct),(72,Zdb),(86,Zbc),(114,ZbI),(133,ZgG),(141,ZeE),(142,Zdz),(143,ZgB),(144,Zew),(145,ZcZ),(147,Z0),(155,ZeB),(156,Zbd),(159,ZcV),(161,Zb2),(162,ZdE),(163,Zcz),(169,Zen),(170,Zez),(171,Zgr),(172,ZdA),(173,Zd9),(174,ZgM),(177,ZiR),(179,ZfQ),(182,ZcM),(183,Zc7),(184,ZdZ),(188,Zek),(189,ZcN),(190,Zcj),(191,Zgl),(192,Zfj),(193,Zgh),(194,ZcO),(195,Zey),(196,Zd5),(197,Zes),(198,Zt),(199,Zgv),(200,Zgx),(201,Zdw),(202,Zdy),(203,ZgA),(204,ZgD),(206,ZdS),(209,Zd7),(210,ZcB),(213,ZgH),(214,ZfT),(215,Zgg),(216,Zgn),(217,Zcx),(218,ZgC),(219,ZfM),(220,ZfG),(221,Zdu),(222,Zbm),(223,Zeq),(225,Zgm),(226,Zcl),(227,ZeH),(228,Zcs),(229,ZcF),(230,Zcy),(231,Zb4),(232,Zid),(233,ZcC),(234,ZcA),(235,ZN),(236,Z5),(237,ZfB),(238,Zdx),(239,Zfw),(240,Zg8),(241,Zc6),(242,Zgu),(248,Zet),(249,Zfg),(250,ZgK),(251,ZeK),(252,Zfd),(253,ZiV),(254,ZbL),(255,ZfA),(256,ZfL),(259,Zej),(260,ZeG),(261,Zep),(262,Zgo),(263,Z3),(264,ZeC),(272,ZhE),(273,Zd6),(274,ZeF),(275,Zda),(276,Zec),(285,ZfE),(286,Zhy),(287,ZgL),(288,Zfz),(295,Zex),(296,Zfi),(297,Zc8),(298,ZdB),(299,Zcu),(300,Zc9),(306,ZiM),(307,ZeI),(312,ZgN),(313,Zd2),(314,Zeu),(315,Zcm),(317,Zgs),(318,ZdV),(320,Zhs)]
theorem bodiesMo: ∀n,Zz cfgMo (run (bdOf bdsMo) n):=
 Zyy (cov:=[145,177,199,209,112,218,146,134,100,113,220,133,161,191,64,58,29,70,72,68,71,93,206,28,217,103,138,137,172,14,16,17,21,20,19,23,25,6,31,30,40,41,42,39,47,46,45,44,43,48,56,57,62,63,59,61,60,66,73,74,85,86,89,88,87,91,90,92,94,96,95,50,51,97,98,99,52,53,102,101,54,104,105,106,107,109,108,110,111,124,125,126,127,128,129,130,131,132,139,140,141,142,143,144,156,157,158,159,160,174,173,175,176,185,186,187,188,189,190,197,198,205,207,208,210,212,213,219]) rfl (by kernel_rfl) (List.forall_mem_cons.2 ⟨BodyOK.of_tie Zh Tryz.func145 (by kernel_rfl) ZrE,List.forall_mem_cons.2 ⟨BodyOK.of_tie Zh Tryz.func177 (by kernel_rfl) Zq1,List.forall_mem_cons.2 ⟨BodyOK.of_tie Zh Tryz.func199 (by kernel_rfl) ZnX,List.forall_mem_cons.2 ⟨BodyOK.of_tie Zh Tryz.func209 (by kernel_rfl) ZsY,List.forall_mem_cons.2 ⟨BodyOK.of_tie Zh Tryz.func112 (by kernel_rfl) ZrD,List.forall_mem_cons.2 ⟨BodyOK.of_tie Zh Tryz.func218 (by kernel_rfl) ZvY,List.forall_mem_cons.2 ⟨BodyOK.of_tie Zh Tryz.func146 (by kernel_rfl) Zu2,List.forall_mem_cons.2 ⟨BodyOK.of_tie Zh Tryz.func134 (by kernel_rfl) Zr9,List.forall_mem_cons.2 ⟨BodyOK.of_tie Zh Tryz.func100 (by kernel_rfl) Zpd,List.forall_mem_cons.2 ⟨BodyOK.of_tie Zh Tryz.func113 (by kernel_rfl) Zoo,List.forall_mem_cons.2 ⟨BodyOK.of_tie Zh Tryz.func220 (by kernel_rfl) Zs1,List.forall_mem_cons.2 ⟨BodyOK.of_tie Zh Tryz.func133 (by kernel_rfl) Zhg,List.forall_mem_cons.2 ⟨BodyOK.of_tie Zh Tryz.func161 (by kernel_rfl) Zlp,List.forall_mem_cons.2 ⟨BodyOK.of_tie Zh Tryz.func191 (by kernel_rfl) Znt,List.forall_mem_cons.2 ⟨BodyOK.of_tie Zh Tryz.func64 (by kernel_rfl) Zja,List.forall_mem_cons.2 ⟨BodyOK.of_tie Zh Tryz.func58 (by kernel_rfl) Zjo,List.forall_mem_cons.2 ⟨BodyOK.of_tie Zh Tryz.func29 (by kernel_rfl) ZtU,List.forall_mem_cons.2 ⟨BodyOK.of_tie Zh Tryz.func70 (by kernel_rfl) ZrB,List.forall_mem_cons.2 ⟨BodyOK.of_tie Zh Tryz.func72 (by kernel_rfl) Zob,List.forall_mem_cons.2 ⟨BodyOK.of_tie Zh Tryz.func68 (by kernel_rfl) Zuz,List.forall_mem_cons.2 ⟨BodyOK.of_tie Zh Tryz.func71 (by kernel_rfl) ZrA,List.forall_mem_cons.2 ⟨BodyOK.of_tie Zh Tryz.func93 (by kernel_rfl) ZsG,List.forall_mem_cons.2 ⟨BodyOK.of_tie Zh Tryz.func206 (by kernel_rfl) ZfU,List.forall_mem_cons.2 ⟨BodyOK.of_tie Zh Tryz.func28 (by kernel_rfl) ZrW,List.forall_mem_cons.2 ⟨BodyOK.of_tie Zh Tryz.func217 (by kernel_rfl) Zg0,List.forall_mem_cons.2 ⟨BodyOK.of_tie Zh Tryz.func103 (by kernel_rfl) ZjE,List.forall_mem_cons.2 ⟨BodyOK.of_tie Zh Tryz.func138 (by kernel_rfl) Zhq,List.forall_mem_cons.2 ⟨BodyOK.of_tie Zh Tryz.func137 (by kernel_rfl) Zmb,List.forall_mem_cons.2 ⟨BodyOK.of_tie Zh Tryz.func172 (by kernel_rfl) ZiY,List.forall_mem_cons.2 ⟨BodyOK.of_tie Zh Tryz.func14 (by kernel_rfl) Zrj,List.forall_mem_cons.2 ⟨BodyOK.of_tie Zh Tryz.func16 (by kernel_rfl) Zrh,List.forall_mem_cons.2 ⟨(fun _ n _ _ _ hc h=>ZxE (n:=n) Zh hc Tryz.func17 (by kernel_rfl) Tryz.func49 (by kernel_rfl) (by kernel_rfl) (by rw [ZtY];exact h)),List.forall_mem_cons.2 ⟨BodyOK.of_tie Zh Tryz.func21 (by kernel_rfl) Zn1,List.forall_mem_cons.2 ⟨BodyOK.of_tie Zh Tryz.func20 (by kernel_rfl) Zpj,List.forall_mem_cons.2 ⟨BodyOK.of_tie Zh Tryz.func19 (by kernel_rfl) Zun,List.forall_mem_cons.2 ⟨BodyOK.of_tie Zh Tryz.func23 (by kernel_rfl) ZvN,List.forall_mem_cons.2 ⟨BodyOK.of_tie Zh Tryz.func25 (by kernel_rfl) ZsM,List.forall_mem_cons.2 ⟨BodyOK.of_tie Zh Tryz.func6 (by kernel_rfl) Zmt,List.forall_mem_cons.2 ⟨BodyOK.of_tie Zh Tryz.func31 (by kernel_rfl) Zns,List.forall_mem_cons.2 ⟨BodyOK.of_tie Zh Tryz.func30 (by kernel_rfl) Zp4,List.forall_mem_cons.2 ⟨BodyOK.of_tie Zh Tryz.func40 (by kernel_rfl) ZrG,List.forall_mem_cons.2 ⟨BodyOK.of_tie Zh Tryz.func41 (by kernel_rfl) ZmD,List.forall_mem_cons.2 ⟨BodyOK.of_tie Zh Tryz.func42 (by kernel_rfl) Zk9,List.forall_mem_cons.2 ⟨BodyOK.of_tie Zh Tryz.func39 (by kernel_rfl) Zuj,List.forall_mem_cons.2 ⟨BodyOK.of_tie Zh Tryz.func47 (by kernel_rfl) Zsx,List.forall_mem_cons.2 ⟨BodyOK.of_tie Zh Tryz.func46 (by kernel_rfl) Zub,List.forall_mem_cons.2 ⟨BodyOK.of_tie Zh Tryz.func45 (by kernel_rfl) ZmC,List.forall_mem_cons.2 ⟨BodyOK.of_tie Zh Tryz.func44 (by kernel_rfl) Zru,List.forall_mem_cons.2 ⟨BodyOK.of_tie Zh Tryz.func43 (by kernel_rfl) ZpB,List.forall_mem_cons.2 ⟨BodyOK.of_tie Zh Tryz.func48 (by kernel_rfl) Zrm,List.forall_mem_cons.2 ⟨BodyOK.of_tie Zh Tryz.func56 (by kernel_rfl) ZbN,List.forall_mem_cons.2 ⟨BodyOK.of_tie Zh Tryz.func57 (by kernel_rfl) ZtV,List.forall_mem_cons.2 ⟨BodyOK.of_tie Zh Tryz.func62 (by kernel_rfl) ZtS,List.forall_mem_cons.2 ⟨BodyOK.of_tie Zh Tryz.func63 (by kernel_rfl) ZnQ,List.forall_mem_cons.2 ⟨BodyOK.of_tie Zh Tryz.func59 (by kernel_rfl) Zo4,List.forall_mem_cons.2 ⟨BodyOK.of_tie Zh Tryz.func61 (by kernel_rfl) Zuc,List.forall_mem_cons.2 ⟨BodyOK.of_tie Zh Tryz.func60 (by kernel_rfl) Zuy,List.forall_mem_cons.2 ⟨BodyOK.of_tie Zh Tryz.func66 (by kernel_rfl) ZpU,List.forall_mem_cons.2 ⟨BodyOK.of_tie Zh Tryz.func73 (by kernel_rfl) Zqh,List.forall_mem_cons.2 ⟨BodyOK.of_tie Zh Tryz.func74 (by kernel_rfl) Zma,List.forall_mem_cons.2 ⟨BodyOK.of_tie Zh Tryz.func85 (by kernel_rfl) Zue,List.forall_mem_cons.2 ⟨BodyOK.of_tie Zh Tryz.func86 (by kernel_rfl) Zr3,List.forall_mem_cons.2 ⟨BodyOK.of_tie Zh Tryz.func89 (by kernel_rfl) Zt3,List.forall_mem_cons.2 ⟨BodyOK.of_tie Zh Tryz.func88 (by kernel_rfl) Zt1,List.forall_mem_cons.2 ⟨BodyOK.of_tie Zh Tryz.func87 (by kernel_rfl) Zl0,List.forall_mem_cons.2 ⟨BodyOK.of_tie Zh Tryz.func91 (by kernel_rfl) ZtX,List.forall_mem_cons.2 ⟨BodyOK.of_tie Zh Tryz.func90 (by kernel_rfl) Ztn,List.forall_mem_cons.2 ⟨BodyOK.of_tie Zh Tryz.func92 (by kernel_rfl) Zr2,List.forall_mem_cons.2 ⟨BodyOK.of_tie Zh Tryz.func94 (by kernel_rfl) ZoJ,List.forall_mem_cons.2 ⟨BodyOK.of_tie Zh Tryz.func96 (by kernel_rfl) Zhu,List.forall_mem_cons.2 ⟨BodyOK.of_tie Zh Tryz.func95 (by kernel_rfl) ZrF,List.forall_mem_cons.2 ⟨BodyOK.of_tie Zh Tryz.func50 (by kernel_rfl) Zuo,List.forall_mem_cons.2 ⟨BodyOK.of_tie Zh Tryz.func51 (by kernel_rfl) Zla,List.forall_mem_cons.2 ⟨BodyOK.of_tie Zh Tryz.func97 (by kernel_rfl) ZqZ,List.forall_mem_cons.2 ⟨BodyOK.of_tie Zh Tryz.func98 (by kernel_rfl) Zlz,List.forall_mem_cons.2 ⟨BodyOK.of_tie Zh Tryz.func99 (by kernel_rfl) ZlE,List.forall_mem_cons.2 ⟨BodyOK.of_tie Zh Tryz.func52 (by kernel_rfl) ZlV,List.forall_mem_cons.2 ⟨BodyOK.of_tie Zh Tryz.func53 (by kernel_rfl) Zkd,List.forall_mem_cons.2 ⟨ZtJ Zvz Tryz.isAgg62 Tryz.sizeOf62 rfl Tryz.func102 (by kernel_rfl) (by kernel_rfl) (Zx2 100) (fc:=103) (by kernel_rfl) (by kernel_rfl) (fun k hk he=>Nat.eq_of_beq_eq_true (by have:=has_all (P:=fun k=> !Nat.beq (cfgMo.fn k) 159||Nat.beq k 103) (l:=[145,177,199,209,112,218,146,134,100,113,220,133,161,191,64,58,29,70,72,68,71,93,206,28,217,103,138,137,172,14,16,17,21,20,19,23,25,6,31,30,40,41,42,39,47,46,45,44,43,48,56,57,62,63,59,61,60,66,73,74,85,86,89,88,87,91,90,92,94,96,95,50,51,97,98,99,52,53,102,101,54,104,105,106,107,109,108,110,111,124,125,126,127,128,129,130,131,132,139,140,141,142,143,144,156,157,158,159,160,174,173,175,176,185,186,187,188,189,190,197,198,205,207,208,210,212,213,219]) (by kernel_rfl) k hk;rw [he] at this;simpa using this)) Tryz.func103 (by kernel_rfl) (by kernel_rfl) (N:=100) (fun g hg=>by have:=has_all (P:=fun g=>Nat.blt (cfgMo.gl g) 100) (l:=[0]) (by kernel_rfl) g hg;rwa [Nat.blt_eq] at this) (fun x y=>Zyc ZlQ _ x y),List.forall_mem_cons.2 ⟨BodyOK.of_tie Zh Tryz.func101 (by kernel_rfl) ZlY,List.forall_mem_cons.2 ⟨BodyOK.of_tie Zh Tryz.func54 (by kernel_rfl) Zlw,List.forall_mem_cons.2 ⟨BodyOK.of_tie Zh Tryz.func104 (by kernel_rfl) Zed,List.forall_mem_cons.2 ⟨BodyOK.of_tie Zh Tryz.func105 (by kernel_rfl) Zf2,List.forall_mem_cons.2 ⟨BodyOK.of_tie Zh Tryz.func106 (by kernel_rfl) ZsF,List.forall_mem_cons.2 ⟨BodyOK.of_tie Zh Tryz.func107 (by kernel_rfl) ZoT,List.forall_mem_cons.2 ⟨BodyOK.of_tie Zh Tryz.func109 (by kernel_rfl) ZsH,List.forall_mem_cons.2 ⟨BodyOK.of_tie Zh Tryz.func108 (by kernel_rfl) Zro,List.forall_mem_cons.2 ⟨BodyOK.of_tie Zh Tryz.func110 (by kernel_rfl) Zno,List.forall_mem_cons.2 ⟨BodyOK.of_tie Zh Tryz.func111 (by kernel_rfl) ZtR,List.forall_mem_cons.2 ⟨BodyOK.of_tie Zh Tryz.func124 (by kernel_rfl) ZrC,List.forall_mem_cons.2 ⟨BodyOK.of_tie Zh Tryz.func125 (by kernel_rfl) Zsu,List.forall_mem_cons.2 ⟨BodyOK.of_tie Zh Tryz.func126 (by kernel_rfl) Zt2,List.forall_mem_cons.2 ⟨BodyOK.of_tie Zh Tryz.func127 (by kernel_rfl) Zq3,List.forall_mem_cons.2 ⟨BodyOK.of_tie Zh Tryz.func128 (by kernel_rfl) ZsK,List.forall_mem_cons.2 ⟨BodyOK.of_tie Zh Tryz.func129 (by kernel_rfl) ZvX,List.forall_mem_cons.2 ⟨BodyOK.of_tie Zh Tryz.func130 (by kernel_rfl) Zjm,List.forall_mem_cons.2 ⟨BodyOK.of_tie Zh Tryz.func131 (by kernel_rfl) Zs2,List.forall_mem_cons.2 ⟨BodyOK.of_tie Zh Tryz.func132 (by kernel_rfl) ZsA,List.forall_mem_cons.2 ⟨BodyOK.of_tie Zh Tryz.func139 (by kernel_rfl) Zra,List.forall_mem_cons.2 ⟨BodyOK.of_tie Zh Tryz.func140 (by kernel_rfl) ZrU,List.forall_mem_cons.2 ⟨BodyOK.of_tie Zh Tryz.func141 (by kernel_rfl) Zq0,List.forall_mem_cons.2 ⟨BodyOK.of_tie Zh Tryz.func142 (by kernel_rfl) Zt8,List.forall_mem_cons.2 ⟨BodyOK.of_tie Zh Tryz.func143 (by kernel_rfl) ZfX,List.forall_mem_cons.2 ⟨BodyOK.of_tie Zh Tryz.func144 (by kernel_rfl) Zr0,List.forall_mem_cons.2 ⟨BodyOK.of_tie Zh Tryz.func156 (by kernel_rfl) ZvC,List.forall_mem_cons.2 ⟨BodyOK.of_tie Zh Tryz.func157 (by kernel_rfl) ZpE,List.forall_mem_cons.2 ⟨BodyOK.of_tie Zh Tryz.func158 (by kernel_rfl) Zrx,List.forall_mem_cons.2 ⟨BodyOK.of_tie Zh Tryz.func159 (by kernel_rfl) Znh,List.forall_mem_cons.2 ⟨BodyOK.of_tie Zh Tryz.func160 (by kernel_rfl) ZpF,List.forall_mem_cons.2 ⟨BodyOK.of_tie Zh Tryz.func174 (by kernel_rfl) Ztw,List.forall_mem_cons.2 ⟨BodyOK.of_tie Zh Tryz.func173 (by kernel_rfl) Zu0,List.forall_mem_cons.2 ⟨BodyOK.of_tie Zh Tryz.func175 (by kernel_rfl) ZtK,List.forall_mem_cons.2 ⟨BodyOK.of_tie Zh Tryz.func176 (by kernel_rfl) Zs7,List.forall_mem_cons.2 ⟨BodyOK.of_tie Zh Tryz.func185 (by kernel_rfl) Zry,List.forall_mem_cons.2 ⟨BodyOK.of_tie Zh Tryz.func186 (by kernel_rfl) Zsz,List.forall_mem_cons.2 ⟨BodyOK.of_tie Zh Tryz.func187 (by kernel_rfl) Znn,List.forall_mem_cons.2 ⟨BodyOK.of_tie Zh Tryz.func188 (by kernel_rfl) ZoB,List.forall_mem_cons.2 ⟨BodyOK.of_tie Zh Tryz.func189 (by kernel_rfl) Zl3,List.forall_mem_cons.2 ⟨BodyOK.of_tie Zh Tryz.func190 (by kernel_rfl) Zm8,List.forall_mem_cons.2 ⟨BodyOK.of_tie Zh Tryz.func197 (by kernel_rfl) ZvT,List.forall_mem_cons.2 ⟨BodyOK.of_tie Zh Tryz.func198 (by kernel_rfl) Zq9,List.forall_mem_cons.2 ⟨BodyOK.of_tie Zh Tryz.func205 (by kernel_rfl) Zuu,List.forall_mem_cons.2 ⟨BodyOK.of_tie Zh Tryz.func207 (by kernel_rfl) Zo9,List.forall_mem_cons.2 ⟨BodyOK.of_tie Zh Tryz.func208 (by kernel_rfl) ZrY,List.forall_mem_cons.2 ⟨BodyOK.of_tie Zh Tryz.func210 (by kernel_rfl) Zk8,List.forall_mem_cons.2 ⟨BodyOK.of_tie Zh Tryz.func212 (by kernel_rfl) ZtZ,List.forall_mem_cons.2 ⟨BodyOK.of_tie Zh Tryz.func213 (by kernel_rfl) ZpL,List.forall_mem_cons.2 ⟨BodyOK.of_tie Zh Tryz.func219 (by kernel_rfl) Zvh,(fun _ h=>by cases h)⟩⟩⟩⟩⟩⟩⟩⟩⟩⟩⟩⟩⟩⟩⟩⟩⟩⟩⟩⟩⟩⟩⟩⟩⟩⟩⟩⟩⟩⟩⟩⟩⟩⟩⟩⟩⟩⟩⟩⟩⟩⟩⟩⟩⟩⟩⟩⟩⟩⟩⟩⟩⟩⟩⟩⟩⟩⟩⟩⟩⟩⟩⟩⟩⟩⟩⟩⟩⟩⟩⟩⟩⟩⟩⟩⟩⟩⟩⟩⟩⟩⟩⟩⟩⟩⟩⟩⟩⟩⟩⟩⟩⟩⟩⟩⟩⟩⟩⟩⟩⟩⟩⟩⟩⟩⟩⟩⟩⟩⟩⟩⟩⟩⟩⟩⟩⟩⟩⟩⟩⟩⟩⟩⟩⟩⟩⟩⟩)
theorem Zmz:ZfF (bdOf bdsMo):=⟨by kernel_rfl⟩
theorem ZnK:Zhd (bdOf bdsMo):=⟨by kernel_rfl,Zmz⟩
theorem ZiD:Zev (bdOf bdsMo):=⟨by kernel_rfl,ZnK⟩
theorem Zqa:Ziz (bdOf bdsMo):=⟨by kernel_rfl⟩
theorem Zt4:ZlK (bdOf bdsMo):=⟨by kernel_rfl,Zqa⟩
theorem Zpy:ZhQ (bdOf bdsMo):=⟨by kernel_rfl,Zt4⟩
theorem Zth:Zkz (bdOf bdsMo):=⟨by kernel_rfl⟩
theorem ZoG:Zg2 (bdOf bdsMo):=⟨by kernel_rfl,Zth,ZiD⟩
theorem ZpR:Zie (bdOf bdsMo):=⟨by kernel_rfl⟩
theorem Zl2:ZeL (bdOf bdsMo):=⟨by kernel_rfl⟩
theorem ZkQ:ZdI (bdOf bdsMo):=⟨by kernel_rfl,Zl2⟩
theorem Zf9:ZbZ (bdOf bdsMo):=⟨by kernel_rfl,ZkQ⟩
theorem Znq:Zgd (bdOf bdsMo):=⟨by kernel_rfl,ZpR,Zf9⟩
theorem Zms:ZfR (bdOf bdsMo):=⟨by kernel_rfl,ZiD⟩
theorem Zh0:ZcI (bdOf bdsMo):=⟨by kernel_rfl⟩
theorem ZhY:ZcK (bdOf bdsMo):=⟨by kernel_rfl⟩
theorem Zq4:Zjj (bdOf bdsMo):=⟨by kernel_rfl⟩
theorem ZiW:Zel (bdOf bdsMo):=⟨by kernel_rfl⟩
theorem Zi6:ZeD (bdOf bdsMo):=⟨by kernel_rfl⟩
theorem Zow:Zho (bdOf bdsMo):=⟨by kernel_rfl,ZoG,Zms,Zi6⟩
theorem Zmv:Zfa (bdOf bdsMo):=⟨by kernel_rfl⟩
theorem ZkX:ZgI (bdOf bdsMo):=⟨by kernel_rfl,ZiW,Zow,Zmv,Zq4⟩
theorem ZjU:Zfy (bdOf bdsMo):=⟨by kernel_rfl⟩
theorem Zf8:Zdj (bdOf bdsMo):=⟨by kernel_rfl⟩
theorem Ze9:Zbx (bdOf bdsMo):=⟨by kernel_rfl,Zf8⟩
theorem Zp9:Zis (bdOf bdsMo):=⟨by kernel_rfl⟩
theorem ZmB:Zfo (bdOf bdsMo):=⟨by kernel_rfl⟩
theorem Zk7:ZcL (bdOf bdsMo):=⟨by kernel_rfl,ZmB⟩
theorem ZiC:ZbE (bdOf bdsMo):=⟨by kernel_rfl,Zp9,Zk7⟩
theorem Zp8:Zh6 (bdOf bdsMo):=⟨by kernel_rfl⟩
theorem ZnI:Zhp (bdOf bdsMo):=⟨by kernel_rfl⟩
theorem Zb0:ZbJ (bdOf bdsMo):=⟨by kernel_rfl,ZnI⟩
theorem Zqb:Zib (bdOf bdsMo):=⟨by kernel_rfl⟩
theorem ZoZ:Zg4 (bdOf bdsMo):=⟨by kernel_rfl,Zqb⟩
theorem Zrr:Zjb (bdOf bdsMo):=⟨by kernel_rfl,ZoZ⟩
theorem Zp3:ZhU (bdOf bdsMo):=⟨by kernel_rfl⟩
theorem ZbC:Zbp (bdOf bdsMo):=⟨by kernel_rfl,Zb0,Zrr,Zp3⟩
theorem Zq7:ZjA (bdOf bdsMo):=⟨by kernel_rfl,Zb0,ZbC⟩
theorem Zck:Zbr (bdOf bdsMo):=⟨by kernel_rfl⟩
theorem ZrS:Zje (bdOf bdsMo):=⟨by kernel_rfl,Zb0,ZbC⟩
theorem Zkq:ZcG (bdOf bdsMo):=⟨by kernel_rfl,Zck,ZrS⟩
theorem Zq5:Zjx (bdOf bdsMo):=⟨by kernel_rfl,Zb0,ZbC⟩
theorem ZfP:Zdf (bdOf bdsMo):=⟨by kernel_rfl⟩
theorem ZrI:Zju (bdOf bdsMo):=⟨by kernel_rfl,Zb0,ZbC,ZfP⟩
theorem Zlc:Zee (bdOf bdsMo):=⟨by kernel_rfl,Zck,Zkq,Zq5,ZrI⟩
theorem Zqf:Zh9 (bdOf bdsMo):=⟨by kernel_rfl,ZfP⟩
theorem Zqi:Zh7 (bdOf bdsMo):=⟨by kernel_rfl,Zb0,ZbC,Zqf⟩
theorem Zrt:Zjs (bdOf bdsMo):=⟨by kernel_rfl,Zb0,ZbC,ZfP⟩
theorem Zj1:Zdt (bdOf bdsMo):=⟨by kernel_rfl,Zck,Zqi,Zrt⟩
theorem Zqe:ZhR (bdOf bdsMo):=⟨by kernel_rfl⟩
theorem Zih:Zd1 (bdOf bdsMo):=⟨by kernel_rfl,Zqe⟩
theorem Zoa:Zhe (bdOf bdsMo):=⟨by kernel_rfl,Zih,ZiW⟩
theorem ZrR:Zjp (bdOf bdsMo):=⟨by kernel_rfl,ZbC⟩
theorem ZpT:Zij (bdOf bdsMo):=⟨by kernel_rfl⟩
theorem ZoN:Zhi (bdOf bdsMo):=⟨by kernel_rfl,Zp8,ZkX,Zq7,Zlc,Zj1,Zih,Zoa,Zck,ZrR,ZpT⟩
theorem Zir:ZdX (bdOf bdsMo):=⟨by kernel_rfl⟩
theorem Zc5:Zb8 (bdOf bdsMo):=⟨by kernel_rfl,Zir⟩
theorem Zjw:ZgT (bdOf bdsMo):=⟨by kernel_rfl,Zc5⟩
theorem Zmw:Zfr (bdOf bdsMo):=⟨by kernel_rfl⟩
theorem ZmR:Zi2 (bdOf bdsMo):=⟨by kernel_rfl⟩
theorem Zof:Zhf (bdOf bdsMo):=⟨by kernel_rfl,ZjU,ZmR⟩
theorem Zim:ZcJ (bdOf bdsMo):=⟨by kernel_rfl⟩
theorem Zc0:Zbl (bdOf bdsMo):=⟨by kernel_rfl,Zim⟩
theorem ZoD:Zhl (bdOf bdsMo):=⟨by kernel_rfl,ZjU,Zmw,Zof,Zc0⟩
theorem ZbX:ZX (bdOf bdsMo):=⟨by kernel_rfl⟩
theorem Zp6:ZhT (bdOf bdsMo):=⟨by kernel_rfl⟩
theorem ZoP:Zha (bdOf bdsMo):=⟨by kernel_rfl,ZmR,Zp6⟩
theorem ZeM:ZcX (bdOf bdsMo):=⟨by kernel_rfl,Zir⟩
theorem Zk1:Zgj (bdOf bdsMo):=⟨by kernel_rfl⟩
theorem ZiX:Zem (bdOf bdsMo):=⟨by kernel_rfl⟩
theorem Zbq:Z8 (bdOf bdsMo):=⟨by kernel_rfl,ZiX⟩
theorem ZtB:Zkj (bdOf bdsMo):=⟨by kernel_rfl⟩
theorem ZrK:Zi9 (bdOf bdsMo):=⟨by kernel_rfl,ZtB⟩
theorem Zna:ZfW (bdOf bdsMo):=⟨by kernel_rfl⟩
theorem Zua:ZlW (bdOf bdsMo):=⟨by kernel_rfl,ZrK,Zna⟩
theorem Zs8:ZkO (bdOf bdsMo):=⟨by kernel_rfl,Zua⟩
theorem Zcb:ZbO (bdOf bdsMo):=⟨by kernel_rfl⟩
theorem Zog:Zhm (bdOf bdsMo):=⟨by kernel_rfl,Zbq,Zs8,Zcb⟩
theorem Zot:Zhk (bdOf bdsMo):=⟨by kernel_rfl⟩
theorem Zb9:ZbS (bdOf bdsMo):=⟨by kernel_rfl,Zog,Zot⟩
theorem ZrT:Zjk (bdOf bdsMo):=⟨by kernel_rfl,ZiX,Zcb⟩
theorem ZoV:Zg7 (bdOf bdsMo):=⟨by kernel_rfl,ZrT⟩
theorem ZnC:Zf4 (bdOf bdsMo):=⟨by kernel_rfl⟩
theorem ZpY:ZhZ (bdOf bdsMo):=⟨by kernel_rfl,Ze9,ZnC⟩
theorem ZsJ:ZkJ (bdOf bdsMo):=⟨by kernel_rfl,Zb9,Zbq,ZoV,ZpY⟩
theorem ZiS:ZeA (bdOf bdsMo):=⟨by kernel_rfl⟩
theorem Zmg:ZeN (bdOf bdsMo):=⟨by kernel_rfl,ZiS⟩
theorem ZnD:Zge (bdOf bdsMo):=⟨by kernel_rfl,Zb9,Zcb,Zmg⟩
theorem ZmE:ZfC (bdOf bdsMo):=⟨by kernel_rfl,ZiS⟩
theorem ZnP:Zhj (bdOf bdsMo):=⟨by kernel_rfl,Zb9,Zbq,Zcb,ZmE⟩
theorem Ze1:Zcn (bdOf bdsMo):=⟨by kernel_rfl⟩
theorem ZkH:ZdL (bdOf bdsMo):=⟨by kernel_rfl,Zpy,Ze1⟩
theorem ZlG:ZeQ (bdOf bdsMo):=⟨by kernel_rfl,Zb9,Zbq,Zcb,ZkH⟩
theorem Zlk:ZeT (bdOf bdsMo):=⟨by kernel_rfl,Zc0,Ze1⟩
theorem Znw:Zga (bdOf bdsMo):=⟨by kernel_rfl,Zb9,Zbq,Zcb,Zlk⟩
theorem Zpf:ZiB (bdOf bdsMo):=⟨by kernel_rfl,ZsJ,ZnD,ZnP,ZlG,Znw⟩
theorem Zb3:Z1 (bdOf bdsMo):=⟨by kernel_rfl,ZeM,ZbX,Zk1,Zc5,Zpf⟩
theorem Zku:Zcv (bdOf bdsMo):=⟨by kernel_rfl,ZbX,Zb3⟩
theorem ZjJ:Zds (bdOf bdsMo):=⟨by kernel_rfl,ZbX,ZoP,Zb3,Zku⟩
theorem Zkx:ZdJ (bdOf bdsMo):=⟨by kernel_rfl,ZbX⟩
theorem ZkB:ZcE (bdOf bdsMo):=⟨by kernel_rfl,ZbX,Zb3,ZiC⟩
theorem Zdg:ZY (bdOf bdsMo):=⟨by kernel_rfl⟩
theorem Zjl:Zdc (bdOf bdsMo):=⟨by kernel_rfl,ZbX,Zb3,Znq,ZkB,Zdg,ZiC⟩
theorem ZkA:ZdH (bdOf bdsMo):=⟨by kernel_rfl⟩
theorem Zg9:Zdm (bdOf bdsMo):=⟨by kernel_rfl,Zjw,ZoD,ZbX,ZjJ,Zkx,Zjl,ZkA⟩
theorem ZbB:ZA (bdOf bdsMo):=⟨by kernel_rfl⟩
theorem ZdQ:Z6 (bdOf bdsMo):=⟨by kernel_rfl⟩
theorem Zrf:Zgz (bdOf bdsMo):=⟨by kernel_rfl,ZdQ⟩
theorem ZrJ:Zjq (bdOf bdsMo):=⟨by kernel_rfl,ZbB,Zrf,ZhY⟩
theorem ZfN:ZbG (bdOf bdsMo):=⟨by kernel_rfl⟩
theorem Zmu:Zfk (bdOf bdsMo):=⟨by kernel_rfl,ZfN⟩
theorem ZrO:ZjC (bdOf bdsMo):=⟨by kernel_rfl,Zb9,Zbq⟩
theorem ZoH:Zhh (bdOf bdsMo):=⟨by kernel_rfl⟩
theorem ZoS:Zg5 (bdOf bdsMo):=⟨by kernel_rfl⟩
theorem Zq2:ZjB (bdOf bdsMo):=⟨by kernel_rfl,ZoS⟩
theorem ZrV:Zi8 (bdOf bdsMo):=⟨by kernel_rfl,Zq2⟩
theorem Zps:ZhW (bdOf bdsMo):=⟨by kernel_rfl,ZrV⟩
theorem Zq8:Zjz (bdOf bdsMo):=⟨by kernel_rfl,Zjw,Zc5,ZoH,Zps⟩
theorem ZmA:Zfh (bdOf bdsMo):=⟨by kernel_rfl,Zh0⟩
theorem ZfO:ZbD (bdOf bdsMo):=⟨by kernel_rfl⟩
theorem Zly:ZeR (bdOf bdsMo):=⟨by kernel_rfl,ZfO⟩
theorem ZmF:ZfK (bdOf bdsMo):=⟨by kernel_rfl,ZmA,Zc5,Zly⟩
theorem Znr:Zgf (bdOf bdsMo):=⟨by kernel_rfl,Zg9,Zjw,ZeM,Zmu,ZrO,Zk1,Zq8,ZmF⟩
theorem Zkg:ZdM (bdOf bdsMo):=⟨by kernel_rfl⟩
theorem ZgW:Zc4 (bdOf bdsMo):=⟨by kernel_rfl,Zkg⟩
theorem Zn6:Zg6 (bdOf bdsMo):=⟨by kernel_rfl⟩
theorem ZnZ:Zhn (bdOf bdsMo):=⟨by kernel_rfl,ZoN,Zg9,ZrJ,Znr,ZgW,Zn6⟩
theorem has_law26_MarkOrder:Zhr (bdOf bdsMo):=⟨by kernel_rfl,ZnZ,Zg9,Zi6,ZkX,ZeM,ZgW⟩
end Go.Gv
