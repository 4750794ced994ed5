/- A deterministic heap machine beside the model: its values, its heap, what it makes of a function's code. -/
import Derived.Orders
import Derived.KernelRfl
set_option linter.all false
def ax:type_of% @decide_eq_true:=@decide_eq_true
def aF:type_of% @decide_eq_false:=@decide_eq_false
def aQ:type_of% @Nat.le_refl:=@Nat.le_refl
def aY:type_of% @Bool.and_eq_true:=@Bool.and_eq_true
def bj:type_of% @if_neg:=@if_neg
def bn:type_of% @Bool.not_false:=@Bool.not_false
def bp:type_of% @Int.toNat_natCast:=@Int.toNat_natCast
def br:type_of% @Bool.not_true:=@Bool.not_true
def bu:type_of% @decide_eq_true_iff:=@decide_eq_true_iff
def bB:type_of% @List.length_append:=@List.length_append
def bE:type_of% @if_pos:=@if_pos
def cq:type_of% @List.getElem?_eq_getElem:=@List.getElem?_eq_getElem
def cz:type_of% @Nat.zero_le:=@Nat.zero_le
def cB:type_of% @List.mem_singleton:=@List.mem_singleton
def cO:type_of% @List.length_cons:=@List.length_cons
def cR:type_of% @Nat.mul_one:=@Nat.mul_one
def cX:type_of% @List.length_take:=@List.length_take
def dF:type_of% @Bool.true_and:=@Bool.true_and
def dG:type_of% @List.take_of_length_le:=@List.take_of_length_le
def dK:type_of% @List.drop_zero:=@List.drop_zero
def dL:type_of% @Nat.eq_of_beq_eq_true:=@Nat.eq_of_beq_eq_true
def dW:type_of% @List.getD_eq_getElem?_getD:=@List.getD_eq_getElem?_getD
def ef:type_of% @List.getElem?_eq_some_iff:=@List.getElem?_eq_some_iff
def eF:type_of% @List.mem_cons:=@List.mem_cons
def eG:type_of% @beq_eq_false_iff_ne:=@beq_eq_false_iff_ne
def eW:type_of% @Nat.zero_add:=@Nat.zero_add
def fa:type_of% @List.length_drop:=@List.length_drop
def fA:type_of% @List.map_append:=@List.map_append
def fI:type_of% @List.append_assoc:=@List.append_assoc
def fT:type_of% @Option.some.injEq:=@Option.some.injEq
def gf:type_of% @Bool.false_and:=@Bool.false_and
def gx:type_of% @List.mem_append:=@List.mem_append
def gz:type_of% @List.append_nil:=@List.append_nil
def gA:type_of% @Nat.ble_eq_true_of_le:=@Nat.ble_eq_true_of_le
def gV:type_of% @Nat.add_zero:=@Nat.add_zero
def gZ:type_of% @Nat.le_trans:=@Nat.le_trans
def iK:type_of% @List.length_singleton:=@List.length_singleton
def iV:type_of% @List.drop_eq_getElem_cons:=@List.drop_eq_getElem_cons
def jv:type_of% @List.getElem?_set_ne:=@List.getElem?_set_ne
def jG:type_of% @List.nil_append:=@List.nil_append
def jH:type_of% @Nat.lt_or_ge:=@Nat.lt_or_ge
def kz:type_of% @List.getElem_mem:=@List.getElem_mem
def kU:type_of% @Array.getElem?_toList:=@Array.getElem?_toList
def kV:type_of% @List.drop_drop:=@List.drop_drop
def kW:type_of% @List.getElem?_cons_zero:=@List.getElem?_cons_zero
def kX:type_of% @List.getElem?_set_self:=@List.getElem?_set_self
def lC:type_of% @Bool.eq_iff_iff:=@Bool.eq_iff_iff
def lD:type_of% @Bool.not_eq_true':=@Bool.not_eq_true'
def lE:type_of% @List.getElem?_append_right:=@List.getElem?_append_right
def lT:type_of% @Bool.or_eq_true:=@Bool.or_eq_true
def lU:type_of% @List.drop_eq_nil_of_le:=@List.drop_eq_nil_of_le
def lV:type_of% @List.take_succ_eq_append_getElem:=@List.take_succ_eq_append_getElem
def mG:type_of% @Nat.lt_of_lt_of_le:=@Nat.lt_of_lt_of_le
def mH:type_of% @if_true:=@if_true
def mI:type_of% @of_decide_eq_true:=@of_decide_eq_true
def na:type_of% @List.getElem?_append_left:=@List.getElem?_append_left
def nb:type_of% @List.take_add:=@List.take_add
def nc:type_of% @Option.map_some:=@Option.map_some
def nf:type_of% @if_false:=@if_false
def nP:type_of% @List.cons_append:=@List.cons_append
def nQ:type_of% @List.length_map:=@List.length_map
def nR:type_of% @List.length_set:=@List.length_set
def nS:type_of% @Nat.min_eq_left:=@Nat.min_eq_left
def nT:type_of% @Nat.pow_le_pow_right:=@Nat.pow_le_pow_right
def oE:type_of% @Array.length_toList:=@Array.length_toList
def oF:type_of% @List.length_replicate:=@List.length_replicate
def oG:type_of% @List.map_cons:=@List.map_cons
def oH:type_of% @or_false:=@or_false
def pK:type_of% @List.mem_map:=@List.mem_map
def qu:type_of% @List.getElem?_cons_succ:=@List.getElem?_cons_succ
def qw:type_of% @List.range_succ:=@List.range_succ
def qy:type_of% @Nat.blt_eq:=@Nat.blt_eq
def qz:type_of% @Nat.le_of_ble_eq_true:=@Nat.le_of_ble_eq_true
def rN:type_of% @Array.getD_eq_getD_getElem?:=@Array.getD_eq_getD_getElem?
def rO:type_of% @List.nodup_append:=@List.nodup_append
def rQ:type_of% @List.take_append_drop:=@List.take_append_drop
def rR:type_of% @List.take_length:=@List.take_length
def tf:type_of% @List.all_append:=@List.all_append
def tg:type_of% @List.ext_getElem?:=@List.ext_getElem?
def th:type_of% @List.getElem?_map:=@List.getElem?_map
def tj:type_of% @List.not_mem_nil:=@List.not_mem_nil
def tk:type_of% @Nat.add_comm:=@Nat.add_comm
def uo:type_of% @Bool.false_eq_true:=@Bool.false_eq_true
def uq:type_of% @List.mem_cons_self:=@List.mem_cons_self
def ur:type_of% @List.mem_of_getElem?:=@List.mem_of_getElem?
def uu:type_of% @List.mem_range:=@List.mem_range
def uv:type_of% @Nat.add_assoc:=@Nat.add_assoc
def uw:type_of% @Nat.pow_succ:=@Nat.pow_succ
def ux:type_of% @Nat.zero_mul:=@Nat.zero_mul
def uy:type_of% @beq_iff_eq:=@beq_iff_eq
def vO:type_of% @Bool.and_true:=@Bool.and_true
def vP:type_of% @Bool.false_or:=@Bool.false_or
def vQ:type_of% @List.all_cons:=@List.all_cons
def vR:type_of% @List.all_eq_true:=@List.all_eq_true
def vS:type_of% @Nat.add_mul:=@Nat.add_mul
def xo:type_of% @List.getElem?_take:=@List.getElem?_take
def xp:type_of% @Nat.succ_pos:=@Nat.succ_pos
def xq:type_of% @beq_self_eq_true:=@beq_self_eq_true
def zn:type_of% @List.foldl_append:=@List.foldl_append
def zp:type_of% @List.length_eq_zero_iff:=@List.length_eq_zero_iff
def zs:type_of% @List.mem_cons_of_mem:=@List.mem_cons_of_mem
def zu:type_of% @List.nodup_cons:=@List.nodup_cons
def zw:type_of% @decide_eq_false_iff_not:=@decide_eq_false_iff_not
def zy:type_of% @decide_eq_true_eq:=@decide_eq_true_eq
def Ba:type_of% @List.drop_of_length_le:=@List.drop_of_length_le
def Bb:type_of% @List.foldl_cons:=@List.foldl_cons
def Bc:type_of% @List.getElem?_drop:=@List.getElem?_drop
def Be:type_of% @List.length_nil:=@List.length_nil
def Bf:type_of% @List.map_map:=@List.map_map
def Bg:type_of% @Nat.eq_zero_or_pos:=@Nat.eq_zero_or_pos
def Bh:type_of% @Nat.not_lt:=@Nat.not_lt
def Bi:type_of% @Nat.sub_self:=@Nat.sub_self
def C1:type_of% @Bool.and_false:=@Bool.and_false
def C2:type_of% @Bool.or_eq_false_iff:=@Bool.or_eq_false_iff
def C3:type_of% @Int.natCast_add:=@Int.natCast_add
def C4:type_of% @List.drop_left:=@List.drop_left
def C5:type_of% @List.drop_take:=@List.drop_take
def C6:type_of% @List.flatten_cons:=@List.flatten_cons
def C7:type_of% @List.take_take:=@List.take_take
def C8:type_of% @Nat.eq_of_testBit_eq:=@Nat.eq_of_testBit_eq
def C9:type_of% @Nat.lt_of_le_of_lt:=@Nat.lt_of_le_of_lt
def Da:type_of% @Nat.mul_comm:=@Nat.mul_comm
def EV:type_of% @List.filter_append:=@List.filter_append
def EW:type_of% @List.getElem?_of_mem:=@List.getElem?_of_mem
def EX:type_of% @List.mem_filter:=@List.mem_filter
def EY:type_of% @List.take_left:=@List.take_left
def EZ:type_of% @Nat.beq_refl:=@Nat.beq_refl
def E8:type_of% @Nat.div_div_eq_div_mul:=@Nat.div_div_eq_div_mul
def E9:type_of% @Nat.div_le_self:=@Nat.div_le_self
def Fa:type_of% @Nat.mul_le_mul_right:=@Nat.mul_le_mul_right
def Fb:type_of% @Nat.sub_zero:=@Nat.sub_zero
def Fc:type_of% @Nat.succ_mul:=@Nat.succ_mul
def Fe:type_of% @Prod.mk.injEq:=@Prod.mk.injEq
def Ff:type_of% @of_decide_eq_false:=@of_decide_eq_false
def Hu:type_of% @Bool.cond_false_right:=@Bool.cond_false_right
def Hv:type_of% @List.eq_nil_of_length_eq_zero:=@List.eq_nil_of_length_eq_zero
def Hw:type_of% @List.flatten_append:=@List.flatten_append
def Hx:type_of% @List.getElem?_eq_none:=@List.getElem?_eq_none
def Hy:type_of% @List.pairwise_map:=@List.pairwise_map
def Hz:type_of% @Nat.mul_eq_zero:=@Nat.mul_eq_zero
def HB:type_of% @Nat.testBit_and:=@Nat.testBit_and
def HC:type_of% @Nat.testBit_lt_two_pow:=@Nat.testBit_lt_two_pow
def HD:type_of% @Nat.xor_lt_two_pow:=@Nat.xor_lt_two_pow
def HE:type_of% @Option.some.inj:=@Option.some.inj
def HF:type_of% @UInt8.toNat_inj:=@UInt8.toNat_inj
def Ld:type_of% @BitVec.toNat_and:=@BitVec.toNat_and
def Le:type_of% @List.getElem?_replicate:=@List.getElem?_replicate
def Lf:type_of% @List.getElem?_toArray:=@List.getElem?_toArray
def Lg:type_of% @List.map_congr_left:=@List.map_congr_left
def Lh:type_of% @List.mem_append_right:=@List.mem_append_right
def Lj:type_of% @List.pairwise_append:=@List.pairwise_append
def Ll:type_of% @List.pairwise_iff_getElem:=@List.pairwise_iff_getElem
def Lm:type_of% @List.range'_succ:=@List.range'_succ
def Ln:type_of% @List.take_add_one:=@List.take_add_one
def Lo:type_of% @Nat.ne_of_beq_eq_false:=@Nat.ne_of_beq_eq_false
def Lq:type_of% @Nat.pow_lt_pow_right:=@Nat.pow_lt_pow_right
def Lr:type_of% @Option.isSome_none:=@Option.isSome_none
def PM:type_of% @Array.getElem?_append_left:=@Array.getElem?_append_left
def PN:type_of% @Array.getElem?_setIfInBounds_self_of_lt:=@Array.getElem?_setIfInBounds_self_of_lt
def PO:type_of% @List.extract_eq_take_drop:=@List.extract_eq_take_drop
def PQ:type_of% @Nat.and_two_pow_sub_one_eq_mod:=@Nat.and_two_pow_sub_one_eq_mod
def PR:type_of% @Nat.mod_two_eq_zero_or_one:=@Nat.mod_two_eq_zero_or_one
def ae{α:Sort _}(a b:α):cond true a b=a:=rfl
def af{α:Sort _}(a b:α):cond false a b=b:=rfl
namespace Go.Gv
inductive DV where
 |bool (b:Bool)
 |int (k:IntKind) (n:Int)
 |str (s:List UInt8)
 |ptr (a:Option (Nat×Nat))
 |slice (sz:Nat) (a:Option (Nat×Nat)) (len:Nat)
 |agg (cs:List DV)
 |func (g:Nat) (first cap:List DV)
 |nilFunc
 |iface (t:Nat) (v:DV)
 |nilIface
 |nat (n:Nat)
structure bO where
 dQ:Bool
 cells:List DV
abbrev St:=List (Option bO)
inductive Out (β:Type) where
 |val (b:β)
 |fp
abbrev M (β:Type):=St->Option (Out β×St)
abbrev Zf:=Nat->List DV->M (List DV)
variable {β:Type}
def fail:M β:=λ_=>none
abbrev bs (l:List UInt8):List UInt8:=l
def St.cells (s:St) (i:Nat):Option (List DV):=
 match s[i]? with
 |some (some b)=>some b.cells
 |_=>none
def St.il (s:St) (i:Nat):Option (List DV):=
 match s[i]? with
 |some (some ⟨false,cs⟩)=>some cs
 |_=>none
def ov:List DV->List DV->List DV
 |_::cs,d::ds=>d::ov cs ds
 |cs,[]=>cs
 |[],_=>[]
def cE:List DV->Nat->List DV->List DV
 |cs,0,ds=>ov cs ds
 |c::cs,k+1,ds=>c::cE cs k ds
 |[],_+1,_=>[]
def bH (a:Option (Nat×Nat)) (K:Nat->Nat->M β):M β:=
 match a with
 |some (i,o)=>K i o
 |none=>fail
def bS (i o n:Nat) (K:List DV->M β):M β:=λs=>
 match s.cells i with
 |some cs=>bif Nat.ble (o+n) cs.length then K ((cs.drop o).take n) s else none
 |none=>none
def bD (i o:Nat) (K:DV->M β):M β:=λs=>
 match s.cells i with
 |some cs=>match cs[o]? with
  |some d=>K d s
  |none=>none
 |none=>none
def dI (i o:Nat) (ds:List DV) (K:M β):M β:=λs=>
 match s.il i with
 |some cs=>bif Nat.ble (o+ds.length) cs.length then K (s.set i (some ⟨false,cE cs o ds⟩))else none
 |none=>none
def cd (cells:List DV) (K:Nat->M β):M β:=λs=>K s.length (s++[some ⟨false,cells⟩])
def dy (a:Option (Nat×Nat)) (n:Nat) (K:List DV->M β):M β:=
 match a with
 |some (i,o)=>bS i o n K
 |none=>bif Nat.beq n 0 then K []else fail
def Ac (a:Option (Nat×Nat)) (ds:List DV) (K:M β):M β:=
 match a with
 |some (i,o)=>dI i o ds K
 |none=>bif Nat.beq ds.length 0 then K else fail
def cm (sz:Nat) (a:Option (Nat×Nat)) (len:Nat) (ds:List DV) (m lim:Nat) (K:Option (Nat×Nat)->M β):M β:=λs=>
 bif Nat.beq m 0 then K a s else
 bif Nat.ble (len+m) lim then
  match a with
  |none=>bif Nat.beq len 0 then K (some (s.length,0)) (s++[some ⟨false,ds⟩])else none
  |some (i,o)=>match s.il i with
   |some cs=>bif Nat.ble (o+len*sz) cs.length then K (some (s.length,0)) (s.set i none++[some ⟨false,(cs.drop o).take (len*sz)++ds⟩])else none
   |none=>none
 else none
def aC (b:Bool) (K:M β):M β:=bif b then K else fail
variable {α β:Type}
def cQ (m:M α) (K:α->M β):M β:=λs=>
 match m s with
 |some (.val ds,s')=>K ds s'
 |some (.fp,s')=>some (.fp,s')
 |none=>none
def St.We (s s':St):Prop:=∃r,s'=s++r
open Classical in
noncomputable def sm (m:M α) (K:α->M β):M β:=λs=>
 match m s with
 |some (.val ds,s')=>if St.We s s' then K ds s' else none
 |_=>none
def uX (m:M α) (K:α->M β):M β:=λs=>
 match m s with
 |some (.val ds,s')=>K ds s'
 |_=>none
def uY (m:M (List DV)) (H:Bool->M β):M β:=λs=>
 match m s with
 |some (.val _,s')=>H false s'
 |some (.fp,s')=>H true s'
 |none=>none
open Classical in
noncomputable def I5 (i:Nat) (m:M α):M α:=λs=>
 match m s with
 |some (.val ds,s')=>if s'[i]? =s[i]? then some (.val ds,s')else none
 |r=>r
def Ab:M β:=λs=>some (.fp,s)
def gD (f:Nat->M β):M β:=λs=>f s.length s
def Z1 (b:Nat) (s:St):St:=s.take b++(s.drop b).map (λx=>x.map λk=> { k with dQ:=true })
def ay (ds:β):M β:=λs=>some (.val ds,s)
def bZ (b:Nat) (ds:β):M β:=λs=>some (.val ds,Z1 b s)
def Zw7 (f:List DV->M β) (g:(List DV->M β)->M β): ∃x:M β,∀f' g',f'=f->g'=g->x=g' f':=by simp
noncomputable def cK (f:List DV->M β) (g:(List DV->M β)->M β):M β:=Classical.choose (Zw7 f g)
def Nv (f:List DV->M β) (g:(List DV->M β)->M β):cK f g=g f:=Classical.choose_spec (Zw7 f g) f g rfl rfl
def cS (F:(List DV->M β)->List DV->M β):Nat->List DV->M β
 |0,_=>fail
 |n+1,st=>F (cS F n) st
def tJ (d:DV) (K:Bool->M β):M β:=match d with| .bool b=>K b|_=>fail
def vD:IntKind->IntKind->Bool
 | .i8,.i8| .i16,.i16| .i32,.i32| .i64,.i64| .u8,.u8| .u16,.u16| .u32,.u32| .u64,.u64=>true
 |_,_=>false
def cY (k:IntKind) (d:DV) (K:Int->M β):M β:=match d with| .int k' n=>bif vD k' k then K n else fail|_=>fail
def BT (d:DV) (K:List UInt8->M β):M β:=match d with| .str s=>K s|_=>fail
def BS (d:DV) (K:Option (Nat×Nat)->M β):M β:=match d with| .ptr a=>K a|_=>fail
def dr (sz:Nat) (d:DV) (K:Option (Nat×Nat)->Nat->M β):M β:=
 match d with| .slice z a n=>bif Nat.beq z sz||a.isNone then K a n else fail|_=>fail
def Vy (d:DV) (K:Nat->List DV->List DV->M β):M β:=match d with| .func g f c=>K g f c|_=>fail
def tI (d:DV) (K:List DV->M β):M β:=match d with| .agg cs=>K cs|_=>fail
def aaw (d:DV) (K:Nat->M β):M β:=match d with| .nat n=>K n|_=>fail
def kE (cs:List DV) (K:DV->List DV->M β):M β:=match cs with|d::r=>K d r|[]=>fail
def aL (cs:List DV) (K:M β):M β:=match cs with|[]=>K|_=>fail
def Vx (n:Nat) (cs:List DV) (K:List DV->List DV->M β):M β:=bif Nat.ble n cs.length then K (cs.take n) (cs.drop n)else fail
def eJ (cs:List DV) (i:Nat) (K:DV->M β):M β:=match cs[i]? with|some d=>K d|none=>fail
def bA (ds:List DV) (n:Nat) (K:M β):M β:=bif Nat.beq ds.length n then K else fail
def uW (pn:M β) (d:DV) (t:Nat) (K:DV->M β):M β:=match d with| .iface t' v=>bif Nat.beq t' t then K v else pn| .nilIface=>pn|_=>fail
def tB:List DV->Option (List UInt8)
 |[]=>some []
 | .int .u8 n::r=>(tB r).map (UInt8.ofNat n.toNat:: ·)
 |_=>none
def kd (cs:List DV) (K:List UInt8->M β):M β:=match tB cs with|some l=>K l|none=>fail
def gC (st:List DV) (K:Bool->List DV->M β):M β:=kE st λd r=>tJ d λx=>K x r
def aD (k:IntKind) (st:List DV) (K:Int->List DV->M β):M β:=kE st λd r=>cY k d λx=>K x r
def eQ (st:List DV) (K:List UInt8->List DV->M β):M β:=kE st λd r=>BT d λx=>K x r
def qR (st:List DV) (K:Option (Nat×Nat)->List DV->M β):M β:=kE st λd r=>BS d λx=>K x r
def bW (sz:Nat) (st:List DV) (K:Option (Nat×Nat)->Nat->List DV->M β):M β:=kE st λd r=>dr sz d λa n=>K a n r
def VA (st:List DV) (K:Nat->List DV->List DV->List DV->M β):M β:=kE st λd r=>Vy d λg f c=>K g f c r
def ba (st:List DV) (K:List DV->List DV->M β):M β:=kE st λd r=>tI d λx=>K x r
def aay (st:List DV) (K:Nat->List DV->M β):M β:=kE st λd r=>aaw d λx=>K x r
def aax (st:List DV) (K:DV->List DV->M β):M β:=kE st K
inductive B where
 |bool|int (k:IntKind)|str|ptr|slice (sz:Nat)|func|any|fb (n:Nat)
inductive Sh where
 |b (x:B)
 |agg (l:List B)
def d1 (x:B) (d:DV) (K:DV->M β):M β:=
 match x with
 | .bool=>tJ d λb=>K (.bool b)
 | .int k=>cY k d λn=>K (.int k n)
 | .str=>BT d λs=>K (.str s)
 | .ptr=>BS d λa=>K (.ptr a)
 | .slice sz=>dr sz d λa n=>K (.slice sz a n)
 | .func=>Vy d λg f c=>K (.func g f c)
 | .any=>K d
 | .fb _=>fail
def oa:List B->List DV->(List DV->M β)->M β
 |[],cs,K=>aL cs (K [])
 |[.fb n],cs,K=>bA cs n (K cs)
 | .fb n::r,cs,K=>Vx n cs λxs rest=>oa r rest λds=>K (xs++ds)
 |x::r,cs,K=>kE cs λd rest=>d1 x d λd'=>oa r rest λds=>K (d'::ds)
def Ah (x:Sh) (d:DV) (K:DV->M β):M β:=
 match x with
 | .b x=>d1 x d K
 | .agg l=>tI d λcs=>oa l cs λds=>K (.agg ds)
def B1:List Sh->List DV->(List DV->M β)->M β
 |[],cs,K=>aL cs (K [])
 |x::r,cs,K=>kE cs λd rest=>Ah x d λd'=>B1 r rest λds=>K (d'::ds)
def glue:List B->List B
 |[]=>[]
 | .fb n::r=>match glue r with
  | .fb m::r'=> .fb (n+m)::r'
  |r'=> .fb n::r'
 |x::r=>x::glue r
def NA (P:Program):Nat->TypeId->List B
 |0,_=>[.any]
 |n+1,t=>
  match P.underlying t with
  |some .bool=>[.bool]
  |some (.int k)=>[.int k]
  |some .string=>[.str]
  |some (.pointer _)=>[.ptr]
  |some (.slice e)=>[.slice (P.cellsOf e)]
  |some (.func _ _ _)=>[.func]
  |some (.array m e)=>bif Nat.ble (m*P.cellsOf e) 8 then(List.replicate m (NA P n e)).flatten else[.fb (m*P.cellsOf e)]
  |some (.struct fs)=>glue (fs.toList.flatMap λf=>NA P n f.type)
  |_=>[.any]
def jj (P:Program) (t:TypeId):Bool:=
 match P.underlying t with
 |some (.struct _)|some (.array _ _)=>true
 |_=>false
def mZ (P:Program) (t:TypeId):Sh:=
 bif jj P t then .agg (NA P 20 t)else
 match NA P 1 t with
 |[x]=> .b x
 |_=> .b .any
def acA (P:Program) (t:TypeId):Bool×List Sh:=
 match P.underlying t with
 |some (.tuple ts)=>(true,ts.toList.map (mZ P))
 |_=>(false,[mZ P t])
structure bC where
 P:Program
 fn:Nat->Nat
 cov:Nat->Bool
 ty:Nat->Nat
 gl:Nat->Nat
 Ca:Nat->Bool
 DY:Nat->List B
 mp:Nat->Bool
def CJ:Value->Option DV
 | .bool b=>some (.bool b)
 | .int k n=>some (.int k n)
 | .string s=>some (.str s.data.toList)
 | .pointer none=>some (.ptr none)
 | .slice none 0 0=>some (.slice 0 none 0)
 | .nilFunc=>some .nilFunc
 | .nilIface=>some .nilIface
 |_=>none
def IW:List Value->Option (List DV)
 |[]=>some []
 |v::r=>match CJ v,IW r with
  |some d,some ds=>some (d::ds)
  |_,_=>none
inductive eO where
 |u
 |un
 |v (d:DV)
 |ql (ds:List DV)
 |loc (v n:Nat) (cs:List DV)
 |pl (r v o:Nat)
 |it (v:Nat) (s:List UInt8) (pos:Nat)
structure Env where
 bQ:Nat
 l:List (Nat×eO)
def look:List (Nat×eO)->Nat->eO
 |[],_=> .u
 |(k,e)::r,t=>bif Nat.beq k t then e else look r t
def Env.get (E:Env) (t:Nat):eO:=look E.l t
def Env.put (E:Env) (t:Nat) (e:eO):Env:=⟨E.bQ,(t,e)::E.l⟩
def Env.fg (E:Env) (t:Option Nat) (e:eO):Env:=match t with|some t=>E.put t e|none=>E
def has:List Nat->Nat->Bool
 |[],_=>false
 |k::r,t=>Nat.beq k t||has r t
def Gf:List (Nat×eO)->List Nat->List (Nat×eO)
 |[],_=>[]
 |(k,e)::r,ts=>bif has ts k then Gf r ts else(k,e)::Gf r ts
def Env.del (E:Env) (ts:List Nat):Env:=⟨E.bQ,Gf E.l ts⟩
def Env.src (C:bC) (E:Env):Operand->eO
 | .tmp t=>match E.get t with
  | .loc v _ _=> .pl t v 0
  | .it _ _ _=> .u
  |e=>e
 | .const v=>(match CJ v with|some d=> .v d|none=> .u)
 | .global g=>bif C.Ca g then .v (.ptr (some (C.gl g,0)))else .u
 | .func f=>bif C.cov f then .v (.func (C.fn f) [] [])else .u
def fy (C:bC) (E:Env) (x:Operand) (K:DV->M β):M β:=
 match E.src C x with
 | .v d=>K d
 |_=>fail
def AY (C:bC) (E:Env):List Operand->(List DV->M β)->M β
 |[],K=>K []
 |x::r,K=>fy C E x λd=>AY C E r λds=>K (d::ds)
def Nk (E:Env) (r v:Nat) (K:Nat->List DV->M β):M β:=
 match E.get r with
 | .loc v' n cs=>bif Nat.beq v' v then K n cs else fail
 |_=>fail
def DU (C:bC) (E:Env) (x:Operand) (KL:Nat->Nat->Nat->M β) (KH:Nat->Nat->M β):M β:=
 match E.src C x with
 | .pl r v o=>KL r v o
 | .v (.ptr a)=>bH a KH
 |_=>fail
def CD (C:bC) (E:Env) (x:Operand) (K:Int->M β):M β:=fy C E x λd=>match d with| .int _ n=>K n|_=>fail
def Wh (C:bC) (E:Env) (x:Operand) (K:Bool->M β):M β:=fy C E x λd=>match d with| .bool b=>K b|_=>fail
def B2:B->DV->DV->Option Bool
 | .bool,.bool a,.bool b=>some (a==b)
 | .int k0,.int k a,.int k' b=>bif vD k0 k&&vD k k' then some (a==b)else none
 | .str,.str a,.str b=>some (a==b)
 |_,_,_=>none
def nu:List B->List DV->List DV->Option Bool
 |[],[],[]=>some true
 |k::ks,a::r,b::r'=>match B2 k a b,nu ks r r' with
  |some x,some y=>some (x&&y)
  |_,_=>none
 |_,_,_=>none
def adi (ag:List B) (xs ys:List DV) (K:Bool->M β):M β:=match nu ag xs ys with|some b=>K b|none=>fail
def NL (u:Option TypeDesc) (ag:List B) (a b:DV) (K:Bool->M β):M β:=
 match a,b with
 | .bool x,.bool y=>(match u with|some .bool=>K (x==y)|_=>fail)
 | .int k x,.int k' y=>bif vD k k' then K (x==y)else fail
 | .str x,.str y=>K (x==y)
 | .ptr x,.ptr none=>(match u with|some (.pointer _)=>K x.isNone|_=>fail)
 | .ptr none,.ptr x=>(match u with|some (.pointer _)=>K x.isNone|_=>fail)
 | .slice _ x _,.slice _ none _=>(match u with|some (.slice _)=>K x.isNone|_=>fail)
 | .slice _ none _,.slice _ x _=>(match u with|some (.slice _)=>K x.isNone|_=>fail)
 | .agg xs,.agg ys=>(match ag with|[]=>fail|k::ks=>(match nu (k::ks) xs ys with|some b=>K b|none=>fail))
 |_,_=>fail
def ar (n:Int):Int:=IntKind.i64.wrap n
def bits (op:BinOp) (k:IntKind) (x y:Int):Int:=
 let a:=BitVec.ofInt k.bits x
 let b:=BitVec.ofInt k.bits y
 match op with
 | .and=>k.wrap (a&&& b).toNat
 | .or=>k.wrap (a|||b).toNat
 | .xor=>k.wrap (a^^^b).toNat
 |_=>k.wrap (a&&& ~~~b).toNat
def strLt:List UInt8->List UInt8->Bool:=Op.bytesLess
def aaN (u:Option TypeDesc) (ag:List B) (op:BinOp) (a b:DV) (K:DV->M β):M β:=
 match op with
 | .eql=>NL u ag a b λr=>K (.bool r)
 | .neq=>NL u ag a b λr=>K (.bool !r)
 | .shl=>match a,b with
  | .int k x,.int _ y=>aC (decide (0<=y)) (K (.int k (k.wrap (x*2^(min y.toNat k.bits)))))
  |_,_=>fail
 | .shr=>match a,b with
  | .int k x,.int _ y=>aC (decide (0<=y)) (K (.int k (x.fdiv (2^(min y.toNat k.bits)))))
  |_,_=>fail
 |op=>match a,b with
  | .int k x,.int k' y=>bif vD k k' then
    match op with
    | .add=>K (.int k (k.wrap (x+y)))
    | .sub=>K (.int k (k.wrap (x-y)))
    | .mul=>K (.int k (k.wrap (x*y)))
    | .quo=>aC (!(y==0)) (K (.int k (k.wrap (x.tdiv y))))
    | .rem=>aC (!(y==0)) (K (.int k (x.tmod y)))
    | .and| .or| .xor| .andNot=>K (.int k (bits op k x y))
    | .lss=>K (.bool (decide (x<y)))
    | .leq=>K (.bool (decide (x<=y)))
    | .gtr=>K (.bool (decide (x>y)))
    | .geq=>K (.bool (decide (x>=y)))
    |_=>fail
   else fail
  | .str x,.str y=>
   match op with
   | .add=>aC (Nat.ble (x.length+y.length) 4611686018427387904) (K (.str (x++y)))
   | .lss=>K (.bool (strLt x y))
   | .leq=>K (.bool (strLt x y||x==y))
   | .gtr=>K (.bool !(strLt x y||x==y))
   | .geq=>K (.bool !(strLt x y))
   |_=>fail
  |_,_=>fail
def unK (op:UnOp) (a:DV) (K:DV->M β):M β:=
 match op,a with
 | .not,.bool b=>K (.bool !b)
 | .neg,.int k n=>K (.int k (k.wrap (0-n)))
 |_,_=>fail
def aR (i:Int) (n:Nat):Bool:=decide (0<=i)&&decide (i<n)
def ZT (s:List UInt8) (i:Int):Int:=((s.getD i.toNat 0).toNat:Int)
def ZQ (s:List UInt8):List DV:=s.map λb=> .int .u8 b.toNat
def enc (n:Int):List UInt8:=(Utf8.encode n).data.toList
def dec (s:List UInt8) (i:Nat):Nat×Nat:=
 let at' (k:Nat):Nat:=(s.getD (i+k) 0).toNat
 let cont (k:Nat):Bool:=decide (i+k<s.length)&&at' k/64==2
 let b0:=at' 0
 if b0<0x80 then(b0,1)
 else if b0/32==6&&cont 1 then
  let c:=(b0%32)*64+at' 1%64
  if c>=0x80 then(c,2)else(Utf8.runeError,1)
 else if b0/16==14&&cont 1&&cont 2 then
  let c:=(b0%16)*4096+(at' 1%64)*64+at' 2%64
  if c>=0x800&&Utf8.valid c then(c,3)else(Utf8.runeError,1)
 else if b0/8==30&&cont 1&&cont 2&&cont 3 then
  let c:=(b0%8)*262144+(at' 1%64)*4096+(at' 2%64)*64+at' 3%64
  if c>=0x10000&&Utf8.valid c then(c,4)else(Utf8.runeError,1)
 else(Utf8.runeError,1)
def DM (s:List UInt8) (i:Nat):Int:=((dec s i).1:Int)
def vJ (s:List UInt8) (i:Nat):Nat:=(dec s i).2
def gY (n:Nat) (z:List DV):List DV:=(List.replicate n z).flatten
def xK (P:Program) (t:TypeId):Option TypeId:=match P.underlying t with|some (.slice e)=>some e|_=>none
def MP (P:Program) (t:TypeId):Nat:=match P.info? t with|some i=>i.bytes|none=>0
def CF (P:Program) (e:TypeId):Nat:=70368744177664/(MP P e)
def nj (P:Program) (t:TypeId):Option (List DV):=match P.info? t with|some i=>(match i.zero with|some z=>IW z.cells.toList|none=>none)|none=>none
def one:DV->Bool
 | .agg _=>false
 |_=>true
def rH (P:Program) (t:TypeId) (K:M β):M β:=match P.underlying t with|some _=>K|none=>fail
def Nl (P:Program) (t:TypeId) (d:DV) (K:List DV->M β):M β:=
 rH P t (bif jj P t then(match d with| .agg cs=>bA cs (P.cellsOf t) (K cs)|_=>fail)
  else bif Nat.beq (P.cellsOf t) 1 then aC (one d) (K [d])else fail)
def yX (n m:Nat) (cs:List DV) (p:Nat) (ds:List DV):List DV:=bif Nat.beq m n&&Nat.beq p 0 then ds else cE cs p ds
def CE (E:Env) (C:bC) (N:Nat) (place:Nat->Option (Nat×Nat)):List (Nat×Operand)->List DV->(List DV->M β)->M β
 |[],cs,K=>K cs
 |(i,x)::r,cs,K=>match place i with
  |none=>fail
  |some (o,n)=>bif Nat.ble (o+n) N then fy C E x λd=>
   match d with
   | .agg ds=>bA ds n (CE E C N place r (yX N n cs o ds) K)
   |d=>bif Nat.beq n 1 then aC (one d) (CE E C N place r (cE cs o [d]) K)else fail
   else fail
def VN (P:Program) (t:TypeId):Nat->Option (Nat×Nat):=
 match P.underlying t with
 |some (.struct fs)=>λi=>match fs[i]? with|some f=>some (f.offset,P.cellsOf f.type)|none=>none
 |some (.array _ e)=>λi=>some (i*P.cellsOf e,P.cellsOf e)
 |_=>λ_=>none
def ZtL (P:Program) (t:TypeId):Bool:=
 match P.underlying t with
 |some (.struct fs)=>fs.toList.all λf=>(P.info? f.type).isSome
 |some (.array _ e)=>(P.info? e).isSome
 |_=>false
def M4 (pr:List Nat) (o:Oper) (n:Nat) (cells:List DV) (E:Env) (K:Env->M β):M β:=
 match o.dst with
 |some t=>bif has pr t then K ⟨E.bQ+1,(t,.loc E.bQ n cells)::E.l⟩else cd cells λi=>K (E.put t (.v (.ptr (some (i,0)))))
 |none=>fail
def IN (C:bC) (E:Env) (len:Nat) (lo hi:Option Operand) (K:Nat->Nat->M β):M β:=
 let low (h:Nat):M β:=match lo with
  |none=>K 0 h
  |some x=>CD C E x λl=>aC (decide (0<=l)&&decide (l<=h)) (K l.toNat h)
 match hi with
 |none=>low len
 |some x=>CD C E x λh=>aC (decide (0<=h)&&decide (h<=len)) (low h.toNat)
def Gd (lo hi:Bool) (s:List UInt8) (l h:Nat):List UInt8:=
 bif hi then(bif lo then(s.take h).drop l else s.take h)else(bif lo then s.drop l else s)
def cU (lo:Bool) (a:Option (Nat×Nat)) (k:Nat):Option (Nat×Nat):=bif lo then(match a with|some (i,o)=>some (i,k+o)|none=>none)else a
def Jh (lo:Bool) (l h:Nat):Nat:=bif lo then h-l else h
def part (n:Nat) (cs:List DV) (p m:Nat):List DV:=bif Nat.beq m n&&Nat.beq p 0 then cs else(cs.drop p).take m
def sX (pr:List Nat):List Oper->Nat->Nat->Option Nat
 |_,0,_=>none
 |ops,n+1,t=>bif has pr t then some t else
  match ops.find? λo=>match o.dst with|some d=>Nat.beq d t|none=>false with
  |some o=>match o.op with
   | .fieldAddr _ (.tmp u) _| .indexAddr _ (.tmp u) _| .move (.tmp u)| .nilCheck (.tmp u)=>sX pr ops n u
   |_=>none
  |none=>none
def yP (pr:List Nat) (ops:List Oper):List Oper->List Nat
 |[]=>[]
 |o::r=>
  let m:=yP pr ops r
  let m:=match o.dst with|some d=>d::m|none=>m
  match o.op with
  | .store _ (.tmp a) _=>match sX pr ops 12 a with|some t=>t::m|none=>m
  | .next (.tmp t) _=>t::m
  |_=>m
def mC (pr:List Nat):Code->List Nat
 | .region _ ops _=>yP pr ops.toList ops.toList
 | .seq a b| .cond _ a b=>mC pr a++mC pr b
 | .block _ b| .loop b| .scope b=>mC pr b
 |_=>[]
inductive lX where
 |pure|hp|wr|call|xh (r:Nat)|pH (r:Nat)
 |lp (a:Nat)|ap (bs:List Nat)
inductive Md where
 |s
 |d (k:lX) (x:Nat)
def Md.loc:Md->Nat->Bool
 | .s,_=>true
 | .d (.xh q) _,r=>Nat.beq q r
 | .d (.pH q) _,r=>Nat.beq q r
 |_,_=>false
def Md.NM:Md->Bool
 | .s=>true
 | .d (.xh _) _=>false
 | .d (.pH _) _=>false
 |_=>true
def Md.x:Md->Nat
 | .s=>0
 | .d _ x=>x
def cls (P:Program) (pr:List Nat) (ops:List Oper) (o:Oper):lX:=
 match o.op with
 | .load _ (.tmp a)=>match sX pr ops 12 a with|some r=> .xh r|none=> .lp a
 | .load _ _=> .hp
 | .store _ (.tmp a) _=>match sX pr ops 12 a with|some r=> .pH r|none=> .ap []
 | .store .. => .wr
 | .alloc _| .box _ _| .buildSlice .. | .makeSlice .. | .convert .. | .range .. => .hp
 | .slice t .. =>match P.underlying t with|some (.array _ _)=> .hp|_=> .pure
 | .move _| .assign _| .pick .. | .build .. | .nilCheck _| .binOp .. | .unOp .. | .fieldAddr .. | .field .. | .indexAddr .. | .index .. | .extract .. | .makeInterface .. | .makeFunc .. => .pure
 | .call q=>match q.callee with
  | .builtin .len| .builtin .min| .builtin .max=> .pure
  | .builtin .append=> .ap []
  | .value _=>bif has pr 1000000 then .ap []else .call
  |_=> .wr
 | .next (.tmp t) _=> .pH t
 |_=> .wr
section
variable (C:bC) (E:Env) (o:Oper) (K:Env->M β)
def cD (d:DV):M β:=K (E.fg o.dst (.v d))
def AT (e:eO):M β:=K (E.fg o.dst e)
def VV (b y z:Operand):M β:=Wh C E b λb=>bif b then AT E o K (E.src C y)else AT E o K (E.src C z)
def Vq (pr:List Nat) (t:TypeId):M β:=
 match nj C.P t with
 |some z=>bif Nat.beq z.length (C.P.cellsOf t)then M4 pr o (C.P.cellsOf t) z E K else fail
 |none=>fail
def YK (pr:List Nat) (t:TypeId) (y:Operand):M β:=fy C E y λd=>Nl C.P t d λcs=>M4 pr o (C.P.cellsOf t) cs E K
def Vw (t:TypeId) (ps:Array (Nat×Operand)):M β:=
 match nj C.P t with
 |some z=>bif ZtL C.P t then CE E C z.length (VN C.P t) ps.toList z λcs=>cD E o K (.agg cs)else fail
 |none=>fail
def Sk (t:TypeId) (len:Nat) (ps:Array (Nat×Operand)):M β:=
 match xK C.P t with
 |some e=>match nj C.P e with
  |some z=>bif Nat.ble (len*C.P.cellsOf e) 100000&&Nat.beq z.length (C.P.cellsOf e)then
    CE E C (len*C.P.cellsOf e) (λi=>some (i*C.P.cellsOf e,C.P.cellsOf e)) ps.toList (gY len z) λcs=>
     cd cs λi=>cD E o K (.slice (C.P.cellsOf e) (some (i,0)) len)
    else fail
  |none=>fail
 |none=>fail
def Ni (md:Md) (t:TypeId) (a:Operand):M β:=
 rH C.P t (DU C E a
  (λr v p=>bif md.loc r then Nk E r v λn cs=>
   match mZ C.P t with
   | .b y=>eJ cs p λd=>d1 y d (cD E o K)
   | .agg _=>aC (Nat.ble (p+C.P.cellsOf t) n) (cD E o K (.agg (part n cs p (C.P.cellsOf t))))
   else fail)
  (λi p=>bif md.NM then
   match mZ C.P t with
   | .b y=>bD i p λd=>d1 y d (cD E o K)
   | .agg l=>bS i p (C.P.cellsOf t) λcs=>oa l cs λds=>cD E o K (.agg ds)
   else fail))
def Vo (md:Md) (ms:List Nat) (t:TypeId) (a y:Operand):M β:=
 fy C E y λd=>Nl C.P t d λds=>DU C E a
  (λr v p=>bif has ms r&&md.loc r then Nk E r v λn cs=>aC (Nat.ble (p+C.P.cellsOf t) n) (K (E.put r (.loc v n (yX n (C.P.cellsOf t) cs p ds))))else fail)
  (λi p=>bif md.NM then dI i p ds (K E)else fail)
def Tq (y:Operand):M β:=DU C E y (λr v p=>AT E o K (.pl r v p)) (λi p=>cD E o K (.ptr (some (i,p))))
def YJ (op:BinOp) (t:TypeId) (y z:Operand):M β:=fy C E y λa=>fy C E z λb=>aaN (C.P.underlying t) (C.DY t) op a b (cD E o K)
def YM (op:UnOp) (y:Operand):M β:=fy C E y λa=>unK op a (cD E o K)
def O4 (P:Program) (e:TypeId):Bool:=match P.underlying e with|some (.int .u8)=>true|_=>false
def Up (s t:TypeId) (y:Operand):M β:=
 rH C.P s (match C.P.underlying t with
  |some (.int k)=>fy C E y λd=>(match d with| .int _ n=>cD E o K (.int k (k.wrap n))|_=>fail)
  |some .string=>(match C.P.underlying s with
   |some (.int _)=>fy C E y λd=>(match d with| .int _ n=>cD E o K (.str (enc n))|_=>fail)
   |some .string=>fy C E y λd=>(match d with| .str l=>cD E o K (.str l)|_=>fail)
   |some (.slice e)=>bif O4 C.P e then fy C E y λd=>(match d with
    | .slice z a n=>bif Nat.beq z 1||a.isNone then dy a n λcs=>kd cs λl=>cD E o K (.str l)else fail
    |_=>fail)else fail
   |_=>fail)
  |some (.slice e)=>bif O4 C.P e then fy C E y λd=>(match d with
    | .str l=>cd (ZQ l) λi=>cD E o K (.slice 1 (some (i,0)) l.length)
    |_=>fail)else fail
  |_=>fail)
def Vf (t:TypeId) (y:Operand):M β:=
 match C.P.underlying t with
 |some (.interface _)=>fail
 |some _=>fy C E y λd=>cD E o K (.iface (C.ty t) d)
 |none=>fail
def VY (f:Fn) (first cap:Array Operand):M β:=
 match f with
 | .func f=>bif C.cov f then AY C E first.toList λfs=>AY C E cap.toList λcs=>cD E o K (.func (C.fn f) fs cs)else fail
 |_=>fail
def SQ (t:TypeId) (l c:Operand):M β:=
 match xK C.P t with
 |some e=>match nj C.P e with
  |some z=>bif Nat.beq z.length (C.P.cellsOf e)then CD C E l λn=>CD C E c λm=>
    aC (decide (0<=n)&&decide (n<=m)&&decide (m<=CF C.P e)) (cd (gY n.toNat z) λi=>cD E o K (.slice (C.P.cellsOf e) (some (i,0)) n.toNat))else fail
  |none=>fail
 |none=>fail
def VH (t:TypeId) (y:Operand) (lo hi:Option Operand):M β:=
 match C.P.underlying t with
 |some .string=>fy C E y λd=>(match d with
  | .str s=>IN C E s.length lo hi λl h=>cD E o K (.str (Gd lo.isSome hi.isSome s l h))
  |_=>fail)
 |some (.slice e)=>rH C.P e (fy C E y λd=>(match d with
  | .slice z a n=>bif Nat.beq z (C.P.cellsOf e)||a.isNone then IN C E n lo hi λl h=>cD E o K (.slice z (cU lo.isSome a (l*C.P.cellsOf e)) (Jh lo.isSome l h))else fail
  |_=>fail))
 |some (.array m e)=>rH C.P e (fy C E y λd=>(match d with
  | .ptr a=>bH a λi p=>bS i p (m*C.P.cellsOf e) λ_=>IN C E m lo hi λl h=>cD E o K (.slice (C.P.cellsOf e) (cU lo.isSome (some (i,p)) (l*C.P.cellsOf e)) (Jh lo.isSome l h))
  |_=>fail))
 |_=>fail
def LZ (t:TypeId) (y:Operand) (f:Nat):M β:=
 match C.P.underlying t with
 |some (.struct fs)=>(match fs[f]? with
  |some f=>bif Nat.beq (C.P.cellsOf f.type) 0 then fail else DU C E y (λr v p=>AT E o K (.pl r v (p+f.offset))) (λi p=>cD E o K (.ptr (some (i,p+f.offset))))
  |none=>fail)
 |_=>fail
def VP (t:TypeId) (y:Operand) (f:Nat):M β:=
 match C.P.underlying t with
 |some (.struct fs)=>(match fs[f]? with
  |some f=>rH C.P f.type (fy C E y λd=>(match d with
   | .agg cs=>bif jj C.P f.type then cD E o K (.agg ((cs.drop f.offset).take (C.P.cellsOf f.type)))else eJ cs f.offset λd=>Ah (mZ C.P f.type) d (cD E o K)
   |_=>fail))
  |none=>fail)
 |_=>fail
def SM (t:TypeId) (y i:Operand):M β:=
 CD C E i λn=>match C.P.underlying t with
 |some (.slice e)=>rH C.P e (fy C E y λd=>(match d with
  | .slice z a m=>bif Nat.beq z (C.P.cellsOf e)||a.isNone then bH a λj p=>aC (aR n m) (cD E o K (.ptr (some (j,n.toNat*C.P.cellsOf e+p))))else fail
  |_=>fail))
 |some (.array m e)=>rH C.P e (DU C E y
  (λr v p=>aC (aR n m) (AT E o K (.pl r v (n.toNat*C.P.cellsOf e+p))))
  (λj p=>aC (aR n m) (cD E o K (.ptr (some (j,n.toNat*C.P.cellsOf e+p))))))
 |_=>fail
def VG (t:TypeId) (y i:Operand):M β:=
 CD C E i λn=>fy C E y λd=>match C.P.underlying t,d with
 |some .string,.str s=>aC (aR n s.length) (cD E o K (.int .u8 (ZT s n)))
 |some (.array m e),.agg cs=>rH C.P e (aC (aR n m) (bif jj C.P e then cD E o K (.agg ((cs.drop (n.toNat*C.P.cellsOf e)).take (C.P.cellsOf e)))else eJ cs (n.toNat*C.P.cellsOf e) λd=>Ah (mZ C.P e) d (cD E o K)))
 |_,_=>fail
def VM (t:TypeId) (y:Operand):M β:=
 match C.P.underlying t with
 |some .string=>fy C E y λd=>match d,o.dst with
  | .str s,some t=>K ⟨E.bQ+1,(t,.it E.bQ s 0)::E.l⟩
  |_,_=>fail
 |_=>fail
def VS (ms:List Nat) (t:Nat):M β:=
 match E.get t,o.dst with
 | .it v s p,some d=>bif Nat.beq d t|| !has ms t then fail else
   bif Nat.blt p s.length then K ((E.put t (.it v s (p+vJ s p))).put d (.ql [.bool true,.int .i64 p,.int .i32 (DM s p)]))
   else K (E.put d (.ql [.bool false]))
 |_,_=>fail
def KT (md:Md):M β:=bif Nat.beq md.x 0 then Ab else fail
def U9 (md:Md) (t:TypeId) (y:Operand):M β:=
 match C.P.underlying t with
 |some (.interface _)=>fail
 |some _=>fy C E y λd=>uW (KT md) d (C.ty t) λd=>Ah (mZ C.P t) d (cD E o K)
 |none=>fail
def TW (t i:Nat):M β:=
 match E.get t with
 | .ql ds=>(match ds[i]? with|some d=>cD E o K d|none=>fail)
 |_=>fail
def Vk (md:Md) (y:Operand):M β:=fy C E y λd=>match d with| .iface _ _=>KT md|_=>fail
noncomputable def NG (md:Md) (m:M (List DV)) (K:List DV->M β):M β:=
 match md.x with
 |0=>cQ m K
 |1=>uX m K
 |_=>sm m K
def Md.bs:Md->List Nat
 | .d (.ap bs) _=>bs
 |_=>[]
noncomputable def Gc (E:Env):List Nat->M (List DV)->M (List DV)
 |[],m=>m
 |b::r,m=>match E.get b with
  | .v (.ptr (some (i,_)))=>I5 i (Gc E r m)
  |_=>fail
noncomputable def V5 (md:Md) (c:Zf) (f:Operand) (as:Array Operand):M β:=
 fy C E f λfv=>AY C E as.toList λas=>match fv with
 | .func g fs cs=>match acA C.P o.type with
  |(true,K1)=>bif Nat.beq K1.length 1 then fail else NG md (Gc E md.bs (c g (fs++as++cs))) λds=>B1 K1 ds λds=>AT E o K (.ql ds)
  |(false,K1)=>NG md (Gc E md.bs (c g (fs++as++cs))) λds=>B1 K1 ds λds=>match ds with|[d]=>cD E o K d|_=>fail
 |_=>fail
def YL (ts:Array TypeId) (as:Array Operand):M β:=
 match as.toList,ts[0]? with
 |[y],some t=>(match C.P.underlying t with
  |some (.array m _)=>cD E o K (.int .i64 m)
  |some .string=>fy C E y λd=>(match d with| .str s=>cD E o K (.int .i64 s.length)|_=>fail)
  |some (.slice _)=>fy C E y λd=>(match d with| .slice _ _ n=>cD E o K (.int .i64 n)|_=>fail)
  |_=>fail)
 |_,_=>fail
def YG (P:Program) (ts:Array TypeId) (K:M β):M β:=
 match ts[1]? with
 |none=>K
 |some t=>match P.underlying t with
  |some (.int _)=>fail
  |some _=>K
  |none=>fail
def U4 (ts:Array TypeId) (as:Array Operand):M β:=
 match as.toList,ts[0]? with
 |[y,z],some t=>(match xK C.P t with
  |some e=>rH C.P e (YG C.P ts (match nj C.P e with
   |some zv=>bif !Nat.beq zv.length (C.P.cellsOf e)then fail else fy C E y λa=>fy C E z λb=>(match a,b with
    | .slice w p n,.slice w' p' m=>bif (Nat.beq w (C.P.cellsOf e)||p.isNone)&&(Nat.beq w' (C.P.cellsOf e)||p'.isNone)then
      dy p' (m*C.P.cellsOf e) λds=>cm (C.P.cellsOf e) p n ds m (CF C.P e) λHf=>cD E o K (.slice (C.P.cellsOf e) Hf (n+m))else fail
    | .slice w p n,.str l=>bif (Nat.beq w 1||p.isNone)&&Nat.beq (C.P.cellsOf e) 1 then cm 1 p n (ZQ l) l.length (CF C.P e) λHf=>cD E o K (.slice 1 Hf (n+l.length))else fail
    |_,_=>fail)
   |none=>fail))
  |none=>fail)
 |_,_=>fail
def VW (ts:Array TypeId) (as:Array Operand):M β:=
 match as.toList,ts[0]? with
 |[y,z],some t=>(match xK C.P t with
  |some e=>rH C.P e (fy C E y λa=>fy C E z λb=>(match a,b with
   | .slice w p n,.slice w' p' m=>bif (Nat.beq w (C.P.cellsOf e)||p.isNone)&&(Nat.beq w' (C.P.cellsOf e)||p'.isNone)then dy p' (min m n*C.P.cellsOf e) λds=>Ac p ds (cD E o K (.int .i64 (min m n)))else fail
   | .slice w p n,.str l=>bif (Nat.beq w 1||p.isNone)&&Nat.beq (C.P.cellsOf e) 1 then Ac p (ZQ (l.take n)) (cD E o K (.int .i64 (min l.length n)))else fail
   |_,_=>fail))
  |none=>fail)
 |_,_=>fail
def Pf (mx:Bool) (as:Array Operand):M β:=
 match as.toList with
 |[y,z]=>fy C E y λa=>fy C E z λb=>(match a,b with
  | .int k a,.int k' b=>bif vD k k' then cD E o K (.int k (bif mx then(if a<b then b else a)else(if b<a then b else a)))else fail
  |_,_=>fail)
 |_=>fail
def VL (ts:Array TypeId) (as:Array Operand):M β:=
 match as.toList,ts[0]? with
 |[y],some t=>(match xK C.P t with
  |some e=>fy C E y λa=>(match a,nj C.P e with
   | .slice w p n,some z=>bif (Nat.beq w (C.P.cellsOf e)||p.isNone)&&Nat.beq z.length (C.P.cellsOf e)then Ac p (gY n z) (AT E o K (.ql []))else fail
   |_,_=>fail)
  |none=>fail)
 |_,_=>fail
end
def apart (p:Option (Nat×Nat)) (i:Nat):Bool:=match p with|some (j,_)=> !Nat.beq i j|none=>true
def Je (E:Env) (p:Option (Nat×Nat)):List Nat->M β->M β
 |[],K=>K
 |b::r,K=>match E.get b with
  | .v (.ptr (some (i,_)))=>aC (apart p i) (Je E p r K)
  |_=>fail
def V7 (C:bC) (E:Env) (bs:List Nat) (as:Array Operand) (X:M β):M β:=
 match bs with
 |[]=>X
 |b::r=>match as.toList with
  |y::_=>fy C E y λa=>(match a with| .slice _ p _=>Je E p (b::r) X|_=>fail)
  |_=>fail
def Y0 (C:bC) (E:Env) (bs:List Nat) (a:Operand) (X:M β):M β:=
 match bs with
 |[]=>X
 |b::r=>match E.src C a with
  | .v (.ptr p)=>Je E p (b::r) X
  |_=>fail
noncomputable def fG (C:bC) (pr ms:List Nat) (md:Md) (c:Zf) (o:Oper) (E:Env) (K:Env->M β):M β:=
 match o.op with
 | .move y| .assign y=>AT E o K (E.src C y)
 | .pick b y z=>VV C E o K b y z
 | .alloc t=>Vq C E o K pr t
 | .box t y=>YK C E o K pr t y
 | .build t ps=>Vw C E o K t ps
 | .buildSlice t len ps=>Sk C E o K t len ps
 | .load t a=>Ni C E o K md t a
 | .store t a y=>bif o.dst.isNone then Y0 C E md.bs a (Vo C E K md ms t a y)else fail
 | .nilCheck y=>Tq C E o K y
 | .binOp op t y z _=>YJ C E o K op t y z
 | .unOp op _ y=>YM C E o K op y
 | .convert s t y=>Up C E o K s t y
 | .makeInterface t y=>Vf C E o K t y
 | .makeFunc f first cap=>VY C E o K f first cap
 | .makeSlice t l c=>SQ C E o K t l c
 | .slice t y lo hi none=>VH C E o K t y lo hi
 | .fieldAddr t y f=>LZ C E o K t y f
 | .field t y f=>VP C E o K t y f
 | .indexAddr t y i=>SM C E o K t y i
 | .index t y i=>VG C E o K t y i
 | .range t y=>VM C E o K t y
 | .next (.tmp t) true=>VS E o K ms t
 | .typeAssert y _ t false=>U9 C E o K md t y
 | .extract (.tmp t) i=>TW E o K t i
 | .panic y=>Vk C E md y
 | .call q=>match q.callee with
  | .value f=>V5 C E o K md c f q.args
  | .builtin .len=>YL C E o K q.argTypes q.args
  | .builtin .append=>V7 C E md.bs q.args (U4 C E o K q.argTypes q.args)
  | .builtin .copy=>VW C E o K q.argTypes q.args
  | .builtin .min=>Pf C E o K false q.args
  | .builtin .max=>Pf C E o K true q.args
  | .builtin .clear=>VL C E o K q.argTypes q.args
  |_=>fail
 |_=>fail
def AS (C:bC) (E:Env) (x:Operand) (K:Nat->Nat->M β):M β:=match E.src C x with
 | .v (.ptr (some (i,p)))=>K i p
 |_=>fail
def xX (i p:Nat) (K:IntKind->Int->M β):M β:=bD i p λd=>match d with
 | .int k n=>K k n
 |_=>fail
def iu (i p:Nat) (k:IntKind) (n:Int) (K:M β):M β:=bD i p λd=>match d with
 | .int k' n'=>bif vD k k'&&(n==n')then K else fail
 |_=>fail
def gQ:List (Oper×Md)->List Nat
 |[]=>[]
 |(o,_)::r=>match o.dst with|some d=>d::gQ r|none=>gQ r
def DG (r:Nat):List (Oper×Md)->List (Oper×Md)->Option (List (Oper×Md)×Oper×List (Oper×Md))
 |_,[]=>none
 |acc,(o,x)::rest=>match o.op with
  | .pick (.tmp t) _ _=>bif Nat.beq t r then some (acc.reverse,o,rest)else DG r ((o,x)::acc) rest
  |_=>DG r ((o,x)::acc) rest
def NQ:List (Nat×Bool)->Nat×Bool->Bool
 |[],_=>false
 |(k,b)::r,g=>(Nat.beq k g.1&&(b==g.2))||NQ r g
def NR (act:List (Nat×Bool)):Option (Nat×Bool)->Bool
 |none=>true
 |some g=>NQ act g
def D0 (pr:List Nat) (dst:Nat->Option Nat) (j:Nat) (w:Bool) (r:Nat):List Nat->List (Oper×Md)->Bool
 |_,[]=>true
 |YZ,(o,_)::rest=>
  (match o.op with
   | .store .. | .next .. | .range .. =>false
   | .alloc _| .box _ _=>(match o.dst with|some d=> !has pr d|none=>false)
   |_=>true)&&
  (match o.guard with
   |none=>false
   |some (j',w')=>(Nat.beq j' j&&(w'==w))||(match dst j' with|some d=>has YZ d|none=>false))&&
  (match o.dst with
   |some d=> !Nat.beq d r&&D0 pr dst j w r (d::YZ) rest
   |none=>D0 pr dst j w r YZ rest)
noncomputable def tF (C:bC) (pr ms:List Nat) (c:Zf) (dst:Nat->Option Nat):Nat->List (Oper×Md)->List (Nat×Bool)->Env->(Env->M β)->M β
 |_,[],_,E,K=>K E
 |0,_::_,_,_,_=>fail
 |n+1,(o,x)::rest,act,E,K=>
  bif NR act o.guard then fG C pr ms x c o E λE'=>tF C pr ms c dst n rest act E' K
  else match o.guard with
   |none=>fail
   |some (j,w)=>match dst j with
    |none=>fail
    |some r=>match E.get r,DG r [] ((o,x)::rest)with
     | .v (.bool b),some (eM,pk,oB)=>match pk.op,pk.dst with
      | .pick _ y z,some t=>
       bif NR act pk.guard&&D0 pr dst j w r [] eM then
        cK (λst=>kE st λd st=>tJ d λv=>aL st (tF C pr ms c dst n oB act ((E.del (gQ eM)).put t (.v (.bool v))) K))
         λjk=>
          let yes:M β:=tF C pr ms c dst n eM ((j,w)::act) (E.put r (.v (.bool w))) λE1=>fy C E1 (bif w then y else z) λd=>jk [d]
          let no:M β:=fy C ((E.del (gQ eM)).put r (.v (.bool !w))) (bif w then z else y) λd=>jk [d]
          bif w then(bif b then yes else no)else(bif b then no else yes)
       else fail
      |_,_=>fail
     |_,_=>fail
def Af:lX->lX->Bool
 | .pure,_|_,.pure=>false
 | .pH r,.xh q| .xh r,.pH q| .pH r,.pH q=>Nat.beq r q
 | .xh _,_|_,.xh _| .pH _,_|_,.pH _=>false
 | .ap bs,.lp b| .lp b,.ap bs=> !has bs b
 | .wr,_|_,.wr| .ap _,_|_,.ap _=>true
 | .call,.call=>true
 |_,_=>false
def VX:lX->lX->Bool
 | .ap _,.lp _=>true
 |k,k'=>Af k k'
structure gB where
 bf:Nat
 k:lX
 dst:Option Nat
 lk:Nat
def F8 (o:Oper) (acc:List Nat):Nat:=o.after.toList.foldl (λm e=>bif Region.binds .any e then m|||2^e.on|||acc.getD e.on 0 else m) 0
def rB (pr:List Nat) (ops:List Oper) (o:Oper):Nat:=
 let m:=o.op.operands.toList.foldl (λm x=>match x with| .tmp t=>m|||2^t|_=>m) 0
 let m:=match o.guard with
  |some (j,_)=>(match ops[j]? with|some g=>(match g.dst with|some t=>m|||2^t|none=>m)|none=>m)
  |none=>m
 match o.op with
 | .load _ (.tmp a)=>(match sX pr ops 12 a with|some r=>m|||2^r|none=>m)
 | .store _ (.tmp a) _=>(match sX pr ops 12 a with|some r=>m|||2^r|none=>m)
 |_=>m
def Jd (m:Nat):Nat->List Oper->List Nat
 |_,[]=>[]
 |j,o::r=>match o.op with
  | .load _ (.tmp b)=>bif m.testBit j then Jd m (j+1) r else b::Jd m (j+1) r
  |_=>Jd m (j+1) r
def yN (b:Nat) (o:Oper):Bool:=match o.op with
 | .load _ (.tmp a)=>Nat.beq a b
 |_=>false
def KD (b:Nat):List Oper->Bool
 |[]=>true
 |o::r=>bif yN b o then(o::r).all (λo=>match o.dst with|some d=> !Nat.beq d b|none=>true)else KD b r
def vK (pr:List Nat) (ops:List Oper) (k m:Nat):lX->lX
 | .ap _=> .ap ((Jd m 0 (ops.take k)).filter λb=>KD b (ops.take k)&&(sX pr ops 12 b).isNone)
 |c=>c
def rD (P:Program) (pr:List Nat) (ops:List Oper):List Oper->List Nat->List gB
 |[],_=>[]
 |o::r,acc=>let b:=F8 o acc;⟨b,vK pr ops acc.length b (cls P pr ops o),o.dst,rB pr ops o⟩::rD P pr ops r (acc++[b])
def NJ (d:Option Nat) (m:Nat):Bool:=match d with|some t=>m.testBit t|none=>false
def Ws (d e:Option Nat):Bool:=match d,e with|some t,some u=>Nat.beq t u|_,_=>false
def Nq (i:Nat) (p:gB):List gB->Bool
 |[]=>true
 |q::r=>(q.bf.testBit i||(!VX p.k q.k&& !NJ p.dst q.lk&& !NJ q.dst p.lk&& !Ws p.dst q.dst))&&Nq i p r
def EJ:Nat->List gB->List Oper->Bool
 |_,[],_=>true
 |_,_::_,[]=>false
 |i,p::r,o::os=>Nat.blt p.bf (2^i)&&(match o.guard with|some (j,_)=>p.bf.testBit j|none=>true)&&Nq i p r&&EJ (i+1) r os
def wc (i bi:Nat) (f:lX->Bool):Nat->List gB->Bool
 |_,[]=>false
 |j,q::r=>(!Nat.beq i j&& !q.bf.testBit i&& !bi.testBit j&&f q.k)||wc i bi f (j+1) r
def Hd:lX->Bool
 | .hp=>true
 | .lp _=>true
 |_=>false
def DR:lX->Bool
 | .pure=>true
 | .xh _=>true
 |_=>false
def BK (i bi:Nat):Nat->List gB->Bool
 |_,[]=>false
 |j,q::r=>(!Nat.beq i j&& !q.bf.testBit i&& !bi.testBit j&& !(Nat.blt j i&&DR q.k))||BK i bi (j+1) r
def YC (mp:Nat->Bool) (o:Oper):Bool:=match o.op with
 | .call q=>(match q.callee with
  | .value (.func f)=>mp f
  |_=>false)
 |_=>false
def flags (mp:Nat->Bool) (all:List gB):Nat->List gB->List Oper->List (Oper×Md)
 |_,[],_=>[]
 |_,_,[]=>[]
 |i,p::r,o::os=>
  (o,.d p.k (bif wc i p.bf (λ_=>true) 0 all then(bif YC mp o&& !BK i p.bf 0 all then 0 else(match p.k with| .call=>(bif wc i p.bf Hd 0 all then 2 else 1)|_=>1))else 0))::flags mp all (i+1) r os
noncomputable def Pr (C:bC) (pr:List Nat) (c:Zf) (ops:Array Oper) (draw:Bool) (E:Env) (K:Env->M β):M β:=
 let l:=ops.toList
 let ms:=yP pr l l
 let dst (j:Nat):Option Nat:=match l[j]? with|some o=>o.dst|none=>none
 bif draw then
  let is:=rD C.P pr l l []
  bif EJ 0 is l then tF C pr ms c dst l.length (flags C.mp is 0 is l) [] E K else fail
 else tF C pr ms c dst l.length (l.map λo=>(o,.s)) [] E K
inductive JS where
 |v (x:Sh)
 |l (x:List B)
 |t
inductive qA where
 |z
 |n (a b:qA)
 |j (J:List (Nat×JS)) (a b:qA)
def qA.a:qA->qA| .n a _=>a| .j _ a _=>a| .z=> .z
def qA.b:qA->qA| .n _ b=>b| .j _ _ b=>b| .z=> .z
def sC (E0 E:Env):List (Nat×JS)->(List DV->M β)->M β
 |[],K=>K []
 |(t,x)::r,K=>match x,E.get t with
  | .v _,.v d=>sC E0 E r λds=>K (d::ds)
  | .l _,.loc v _ cs=>(match E0.get t with| .loc v0 _ _=>bif Nat.beq v0 v then sC E0 E r λds=>K (.agg cs::ds)else fail|_=>fail)
  | .t,.it v _ p=>(match E0.get t with| .it v0 _ _=>bif Nat.beq v0 v then sC E0 E r λds=>K (.nat p::ds)else fail|_=>fail)
  |_,_=>fail
def sT (E:Env):List (Nat×JS)->List DV->Env->(Env->M β)->M β
 |[],st,E1,K=>aL st (K E1)
 |(t,x)::r,st,E1,K=>kE st λd rest=>match x,E.get t with
  | .v x,_=>Ah x d λd=>sT E r rest (E1.put t (.v d)) K
  | .l x,.loc v n _=>tI d λcs=>oa x cs λcs=>sT E r rest (E1.put t (.loc v n cs)) K
  | .t,.it v s _=>aaw d λp=>sT E r rest (E1.put t (.it v s p)) K
  |_,_=>fail
def CL (hY:List Nat):List (Nat×JS)->Bool
 |[]=>true
 |(t,_)::r=>has hY t&&CL hY r
noncomputable def Yt (E:Env) (hY:List Nat) (J:List (Nat×JS)) (K:Env->M β) (g:((Env->M β)->M β)):M β:=
 bif CL hY J then cK (λst=>sT E J st (E.del hY) K) λjk=>g λE1=>sC E E1 J jk else fail
noncomputable def exec (C:bC) (pr:List Nat) (c:Zf) (n:Nat):Code->qA->(Env->M β)->(Nat->Env->M β)->(Env->M β)->Env->M β
 | .skip,_,kn,_,_,E=>kn E
 | .seq a b,A,kn,kx,kr,E=>exec C pr c n a A.a (λE'=>exec C pr c n b A.b kn kx kr E') kx kr E
 | .region _ ops d,_,kn,_,_,E=>Pr C pr c ops d E kn
 | .cond x a b,A,kn,kx,kr,E=>Wh C E x λv=>
   match A with
   | .j J A1 A2=>Yt E (mC pr a++mC pr b) J kn λjk=>bif v then exec C pr c n a A1 jk kx kr E else exec C pr c n b A2 jk kx kr E
   |A=>bif v then exec C pr c n a A.a kn kx kr E else exec C pr c n b A.b kn kx kr E
 | .block id body,A,kn,kx,kr,E=>
   match A with
   | .j J A1 _=>Yt E (mC pr body) J kn λjk=>exec C pr c n body A1 jk (λi E1=>bif Nat.beq i id then jk E1 else kx i E1) kr E
   |A=>exec C pr c n body A.a kn (λi E1=>bif Nat.beq i id then kn E1 else kx i E1) kr E
 | .loop body,A,_,kx,kr,E=>
   match A with
   | .j J A1 _=>bif CL (mC pr body) J then sC E E J λst=>cS (λrec st=>sT E J st (E.del (mC pr body)) λE1=>exec C pr c n body A1 (λE2=>sC E E2 J rec) kx kr E1) n st else fail
   |_=>fail
 | .exit id,_,_,kx,_,E=>kx id E
 | .ret,_,_,_,kr,E=>kr E
 |_,_,_,_,_,_=>fail
def okO (ok:Nat->Bool):List Oper->Bool
 |[]=>true
 |o::r=>(match o.dst with|some d=>ok d|none=>true)&&okO ok r
def yR (ok:Nat->Bool):Code->Bool
 | .region _ ops _=>okO ok ops.toList
 | .seq a b| .cond _ a b=>yR ok a&&yR ok b
 | .block _ b| .loop b| .scope b=>yR ok b
 |_=>true
def sR (n d:Nat):Bool:=Nat.blt d n
structure FA where
 pr:List Nat
 Jc:qA
 dQ:Bool
def vI (C:bC) (E:Env):List ResultVar->(List DV->M β)->M β
 |[],K=>K []
 | .tmp t::r,K=>fy C E (.tmp t) λd=>vI C E r λds=>K (d::ds)
 | .cell a t::r,K=>match E.get a with
  | .loc _ n cs=>rH C.P t (bif jj C.P t then(bif Nat.beq n (C.P.cellsOf t)then vI C E r λds=>K (.agg cs::ds)else fail)else eJ cs 0 λd=>vI C E r λds=>K (d::ds))
  |_=>fail
def ke:Nat->List DV->List (Nat×eO)
 |_,[]=>[]
 |t,d::r=>(t,.v d)::ke (t+1) r
noncomputable def uZ (C:bC) (A:FA) (fn:Func) (c:Zf) (n:Nat) (args:List DV):M (List DV):=
 match fn.body with
 |some code=>bif yR (sR fn.ntmps) code&&Nat.ble (fn.params.size+fn.nfree) fn.ntmps then B1 (fn.params.toList.map (mZ C.P)++List.replicate fn.nfree (.b .ptr)) args λds=>
   bif A.dQ then gD λb=>
    let kr (E:Env):M (List DV):=vI C E fn.results.toList λds=>bZ b ds
    exec C A.pr c n code A.Jc kr (λ_ _=>fail) kr ⟨0,ke 0 ds⟩
   else
    let kr (E:Env):M (List DV):=vI C E fn.results.toList λds=>ay ds
    exec C A.pr c n code A.Jc kr (λ_ _=>fail) kr ⟨0,ke 0 ds⟩
   else fail
 |none=>fail
abbrev Zh:=Nat->Zf->Nat->List DV->M (List DV)
def run (Bd:Zh):Nat->Zf
 |0,_,_=>fail
 |n+1,g,args=>Bd g (run Bd n) n args
noncomputable def lW (m:M (List DV)) (K:Int->M β):M β:=uX m λds=>aD .i64 ds λa0 r0=>aL r0<|K a0
noncomputable def Db (m:M (List DV)) (K:List UInt8->M β):M β:=uX m λds=>eQ ds λa0 r0=>aL r0<|K a0
noncomputable def tl (m:M (List DV)) (K:Int->M β):M β:=sm m λds=>aD .i64 ds λa0 r0=>aL r0<|K a0
noncomputable def DI (m:M (List DV)) (K:Int->M β):M β:=sm m λds=>aD .u64 ds λa0 r0=>aL r0<|K a0
noncomputable def jw (m:M (List DV)) (K:List UInt8->M β):M β:=sm m λds=>eQ ds λa0 r0=>aL r0<|K a0
noncomputable def C_ (m:M (List DV)) (K:M β):M β:=cQ m λds=>aL ds<|K
noncomputable def zI (m:M (List DV)) (K:Int->Int->Int->Int->Int->Int->Int->Int->Option (Nat×Nat)->Nat->Bool->M β):M β:=cQ m λds=>ba ds λq1 r0=>aD .i64 q1 λa0 r2=>aD .i64 r2 λa1 r3=>aD .i64 r3 λa2 r4=>aD .i64 r4 λa3 r5=>aD .i64 r5 λa4 r6=>aD .i64 r6 λa5 r7=>aD .i64 r7 λa6 r8=>aD .i64 r8 λa7 r9=>bW 1 r9 λa8 a9 mF=>aL mF<|gC r0 λgj rE=>aL rE<|K a0 a1 a2 a3 a4 a5 a6 a7 a8 a9 gj
noncomputable def LL (m:M (List DV)) (K:Int->Int->Int->Int->Int->Int->Int->Int->Option (Nat×Nat)->Nat->Int->Bool->M β):M β:=cQ m λds=>ba ds λq1 r0=>aD .i64 q1 λa0 r2=>aD .i64 r2 λa1 r3=>aD .i64 r3 λa2 r4=>aD .i64 r4 λa3 r5=>aD .i64 r5 λa4 r6=>aD .i64 r6 λa5 r7=>aD .i64 r7 λa6 r8=>aD .i64 r8 λa7 r9=>bW 1 r9 λa8 a9 mF=>aL mF<|aD .i64 r0 λgj rE=>gC rE λlq KX=>aL KX<|K a0 a1 a2 a3 a4 a5 a6 a7 a8 a9 gj lq
noncomputable def H2 (m:M (List DV)) (K:Int->Int->Int->Int->Int->Int->M β):M β:=cQ m λds=>ba ds λq1 r0=>aD .i64 q1 λa0 r2=>aD .i64 r2 λa1 r3=>aD .i64 r3 λa2 r4=>aD .i64 r4 λa3 r5=>aD .i64 r5 λa4 r6=>aL r6<|aD .i64 r0 λa5 r7=>aL r7<|K a0 a1 a2 a3 a4 a5
noncomputable def Fp (m:M (List DV)) (K:Int->Int->Int->Int->Option (Nat×Nat)->Nat->Bool->M β):M β:=cQ m λds=>ba ds λq1 r0=>aD .i64 q1 λa0 r2=>aD .i64 r2 λa1 r3=>aD .i64 r3 λa2 r4=>aD .i64 r4 λa3 r5=>bW 1 r5 λa4 a5 r6=>aL r6<|gC r0 λa6 r7=>aL r7<|K a0 a1 a2 a3 a4 a5 a6
noncomputable def xD (m:M (List DV)) (K:Int->Int->Int->Option (Nat×Nat)->Nat->Option (Nat×Nat)->Nat->Option (Nat×Nat)->Nat->Option (Nat×Nat)->Int->M β):M β:=cQ m λds=>ba ds λq1 r0=>aD .i64 q1 λa0 r2=>aD .i64 r2 λa1 r3=>aD .i64 r3 λa2 r4=>bW 2 r4 λa3 a4 r5=>bW 1 r5 λa5 a6 r6=>bW 1 r6 λa7 a8 r7=>aL r7<|qR r0 λa9 r8=>aD .i64 r8 λgj r9=>aL r9<|K a0 a1 a2 a3 a4 a5 a6 a7 a8 a9 gj
noncomputable def bq (m:M (List DV)) (K:Bool->M β):M β:=cQ m λds=>gC ds λa0 r0=>aL r0<|K a0
noncomputable def uA (m:M (List DV)) (K:DV->M β):M β:=cQ m λds=>aax ds λa0 r0=>aL r0<|K a0
noncomputable def cw (m:M (List DV)) (K:Int->M β):M β:=cQ m λds=>aD .i64 ds λa0 r0=>aL r0<|K a0
noncomputable def sf (m:M (List DV)) (K:Int->Int->Option (Nat×Nat)->Nat->Bool->M β):M β:=cQ m λds=>aD .i64 ds λa0 r0=>aD .i64 r0 λa1 r1=>bW 1 r1 λa2 a3 r2=>gC r2 λa4 r3=>aL r3<|K a0 a1 a2 a3 a4
noncomputable def uN (m:M (List DV)) (K:Int->Int->List UInt8->Bool->M β):M β:=cQ m λds=>aD .i64 ds λa0 r0=>aD .i64 r0 λa1 r1=>eQ r1 λa2 r2=>gC r2 λa3 r3=>aL r3<|K a0 a1 a2 a3
noncomputable def uO (m:M (List DV)) (K:Int->M β):M β:=cQ m λds=>aD .u32 ds λa0 r0=>aL r0<|K a0
noncomputable def uP (m:M (List DV)) (K:Int->M β):M β:=cQ m λds=>aD .u64 ds λa0 r0=>aL r0<|K a0
noncomputable def iL (m:M (List DV)) (K:Option (Nat×Nat)->Nat->M β):M β:=cQ m λds=>bW 1 ds λa0 a1 r0=>aL r0<|K a0 a1
noncomputable def pL (m:M (List DV)) (K:Option (Nat×Nat)->Nat->Bool->M β):M β:=cQ m λds=>bW 1 ds λa0 a1 r0=>gC r0 λa2 r1=>aL r1<|K a0 a1 a2
noncomputable def FU (m:M (List DV)) (K:Option (Nat×Nat)->Nat->Option (Nat×Nat)->Nat->Bool->M β):M β:=cQ m λds=>bW 4 ds λa0 a1 r0=>bW 1 r0 λa2 a3 r1=>gC r1 λa4 r2=>aL r2<|K a0 a1 a2 a3 a4
noncomputable def zA (m:M (List DV)) (K:Option (Nat×Nat)->M β):M β:=cQ m λds=>qR ds λa0 r0=>aL r0<|K a0
noncomputable def jf (m:M (List DV)) (K:List UInt8->M β):M β:=cQ m λds=>eQ ds λa0 r0=>aL r0<|K a0
noncomputable def uB (m:M (List DV)) (K:List UInt8->Bool->M β):M β:=cQ m λds=>eQ ds λa0 r0=>gC r0 λa1 r1=>aL r1<|K a0 a1
noncomputable def xC (st:List DV) (K:Int->Int->Int->Int->Int->Int->Int->Int->Option (Nat×Nat)->Nat->M β):M β:=ba st λq1 r0=>aD .i64 q1 λa0 r2=>aD .i64 r2 λa1 r3=>aD .i64 r3 λa2 r4=>aD .i64 r4 λa3 r5=>aD .i64 r5 λa4 r6=>aD .i64 r6 λa5 r7=>aD .i64 r7 λa6 r8=>aD .i64 r8 λa7 r9=>bW 1 r9 λa8 a9 mF=>aL mF<|aL r0<|K a0 a1 a2 a3 a4 a5 a6 a7 a8 a9
noncomputable def Zi8 (st:List DV) (K:Int->Int->Int->Int->Int->Int->Int->Int->Option (Nat×Nat)->Nat->Bool->M β):M β:=ba st λq1 r0=>aD .i64 q1 λa0 r2=>aD .i64 r2 λa1 r3=>aD .i64 r3 λa2 r4=>aD .i64 r4 λa3 r5=>aD .i64 r5 λa4 r6=>aD .i64 r6 λa5 r7=>aD .i64 r7 λa6 r8=>aD .i64 r8 λa7 r9=>bW 1 r9 λa8 a9 mF=>aL mF<|gC r0 λgj rE=>aL rE<|K a0 a1 a2 a3 a4 a5 a6 a7 a8 a9 gj
noncomputable def LK (st:List DV) (K:Int->Int->Int->Int->Int->Int->Int->Int->Option (Nat×Nat)->Nat->Int->M β):M β:=ba st λq1 r0=>aD .i64 q1 λa0 r2=>aD .i64 r2 λa1 r3=>aD .i64 r3 λa2 r4=>aD .i64 r4 λa3 r5=>aD .i64 r5 λa4 r6=>aD .i64 r6 λa5 r7=>aD .i64 r7 λa6 r8=>aD .i64 r8 λa7 r9=>bW 1 r9 λa8 a9 mF=>aL mF<|aD .i64 r0 λgj rE=>aL rE<|K a0 a1 a2 a3 a4 a5 a6 a7 a8 a9 gj
noncomputable def Zhl (st:List DV) (K:Int->Int->Int->Int->Int->Int->Int->Int->Option (Nat×Nat)->Nat->Option (Nat×Nat)->Nat->Int->M β):M β:=ba st λq1 r0=>aD .i64 q1 λa0 r2=>aD .i64 r2 λa1 r3=>aD .i64 r3 λa2 r4=>aD .i64 r4 λa3 r5=>aD .i64 r5 λa4 r6=>aD .i64 r6 λa5 r7=>aD .i64 r7 λa6 r8=>aD .i64 r8 λa7 r9=>bW 1 r9 λa8 a9 mF=>aL mF<|bW 1 r0 λgj lq rE=>aD .i64 rE λa12 KX=>aL KX<|K a0 a1 a2 a3 a4 a5 a6 a7 a8 a9 gj lq a12
noncomputable def L9 (st:List DV) (K:Int->Int->Int->Int->Int->Int->M β):M β:=ba st λq1 r0=>aD .i64 q1 λa0 r2=>aD .i64 r2 λa1 r3=>aD .i64 r3 λa2 r4=>aD .i64 r4 λa3 r5=>aD .i64 r5 λa4 r6=>aL r6<|aD .i64 r0 λa5 r7=>aL r7<|K a0 a1 a2 a3 a4 a5
noncomputable def Fm (st:List DV) (K:Int->Int->Int->Int->Option (Nat×Nat)->Nat->M β):M β:=ba st λq1 r0=>aD .i64 q1 λa0 r2=>aD .i64 r2 λa1 r3=>aD .i64 r3 λa2 r4=>aD .i64 r4 λa3 r5=>bW 1 r5 λa4 a5 r6=>aL r6<|aL r0<|K a0 a1 a2 a3 a4 a5
noncomputable def LP (st:List DV) (K:Int->Int->Int->Int->Int->Int->Int->Int->M β):M β:=ba st λq1 r0=>aD .i64 q1 λa0 r2=>aD .i64 r2 λa1 r3=>aD .i64 r3 λa2 r4=>aD .i64 r4 λa3 r5=>aL r5<|ba r0 λq7 r6=>aD .i64 q7 λa4 r8=>aD .i64 r8 λa5 r9=>aD .i64 r9 λa6 mF=>aD .i64 mF λa7 rE=>aL rE<|aL r6<|K a0 a1 a2 a3 a4 a5 a6 a7
noncomputable def DB (st:List DV) (K:Int->Int->Int->M β):M β:=ba st λq1 r0=>aD .i64 q1 λa0 r2=>aD .i64 r2 λa1 r3=>aD .i64 r3 λa2 r4=>aL r4<|aL r0<|K a0 a1 a2
noncomputable def jg (st:List DV) (K:Bool->M β):M β:=gC st λa0 r0=>aL r0<|K a0
noncomputable def qI (st:List DV) (K:Bool->Int->Int->M β):M β:=gC st λa0 r0=>aD .i64 r0 λa1 r1=>aD .i64 r1 λa2 r2=>aL r2<|K a0 a1 a2
noncomputable def cP (st:List DV) (K:Int->M β):M β:=aD .i64 st λa0 r0=>aL r0<|K a0
noncomputable def ZxC (st:List DV) (K:Int->Bool->Int->M β):M β:=aD .i64 st λa0 r0=>gC r0 λa1 r1=>aD .i64 r1 λa2 r2=>aL r2<|K a0 a1 a2
noncomputable def iX (st:List DV) (K:Int->Int->M β):M β:=aD .i64 st λa0 r0=>aD .i64 r0 λa1 r1=>aL r1<|K a0 a1
noncomputable def Zip (st:List DV) (K:Int->Int->Int->M β):M β:=aD .i64 st λa0 r0=>aD .i64 r0 λa1 r1=>aD .i64 r1 λa2 r2=>aL r2<|K a0 a1 a2
noncomputable def sd (st:List DV) (K:Int->Int->Int->Int->M β):M β:=aD .i64 st λa0 r0=>aD .i64 r0 λa1 r1=>aD .i64 r1 λa2 r2=>aD .i64 r2 λa3 r3=>aL r3<|K a0 a1 a2 a3
noncomputable def ZsB (st:List DV) (K:Int->Int->Int->Int->Bool->M β):M β:=aD .i64 st λa0 r0=>aD .i64 r0 λa1 r1=>aD .i64 r1 λa2 r2=>aD .i64 r2 λa3 r3=>gC r3 λa4 r4=>aL r4<|K a0 a1 a2 a3 a4
noncomputable def ZtA (st:List DV) (K:Int->Int->Int->Int->Int->M β):M β:=aD .i64 st λa0 r0=>aD .i64 r0 λa1 r1=>aD .i64 r1 λa2 r2=>aD .i64 r2 λa3 r3=>aD .i64 r3 λa4 r4=>aL r4<|K a0 a1 a2 a3 a4
noncomputable def Z6 (st:List DV) (K:Int->Int->Int->Int->Int->Int->Int->Int->Option (Nat×Nat)->Nat->M β):M β:=aD .i64 st λa0 r0=>aD .i64 r0 λa1 r1=>aD .i64 r1 λa2 r2=>aD .i64 r2 λa3 r3=>aD .i64 r3 λa4 r4=>aD .i64 r4 λa5 r5=>aD .i64 r5 λa6 r6=>aD .i64 r6 λa7 r7=>bW 1 r7 λa8 a9 r8=>aL r8<|K a0 a1 a2 a3 a4 a5 a6 a7 a8 a9
noncomputable def ZuP (st:List DV) (K:Int->Int->Option (Nat×Nat)->Nat->M β):M β:=aD .i64 st λa0 r0=>aD .i64 r0 λa1 r1=>bW 1 r1 λa2 a3 r2=>aL r2<|K a0 a1 a2 a3
noncomputable def Zx (st:List DV) (K:Int->Int->Option (Nat×Nat)->Nat->Option (Nat×Nat)->Nat->Option (Nat×Nat)->Nat->M β):M β:=aD .i64 st λa0 r0=>aD .i64 r0 λa1 r1=>bW 2 r1 λa2 a3 r2=>bW 1 r2 λa4 a5 r3=>bW 1 r3 λa6 a7 r4=>aL r4<|K a0 a1 a2 a3 a4 a5 a6 a7
noncomputable def BE (st:List DV) (K:Int->Int->M β):M β:=aD .u64 st λa0 r0=>aD .i64 r0 λa1 r1=>aL r1<|K a0 a1
noncomputable def ZuK (st:List DV) (K:Int->Bool->M β):M β:=aD .u8 st λa0 r0=>gC r0 λa1 r1=>aL r1<|K a0 a1
noncomputable def Zq9 (st:List DV) (K:Int->Int->M β):M β:=aD .u8 st λa0 r0=>aD .u8 r0 λa1 r1=>aL r1<|K a0 a1
noncomputable def bV (st:List DV) (K:Option (Nat×Nat)->Nat->M β):M β:=bW 1 st λa0 a1 r0=>aL r0<|K a0 a1
noncomputable def Qg (st:List DV) (K:Option (Nat×Nat)->Nat->Int->Int->Int->Option (Nat×Nat)->Nat->Option (Nat×Nat)->Nat->Option (Nat×Nat)->Nat->Int->M β):M β:=bW 1 st λa0 a1 r0=>ba r0 λq2 r1=>aD .i64 q2 λa2 r3=>aD .i64 r3 λa3 r4=>aD .i64 r4 λa4 r5=>bW 2 r5 λa5 a6 r6=>bW 1 r6 λa7 a8 r7=>bW 1 r7 λa9 gj r8=>aL r8<|aD .i64 r1 λlq r9=>aL r9<|K a0 a1 a2 a3 a4 a5 a6 a7 a8 a9 gj lq
noncomputable def Zhm (st:List DV) (K:Option (Nat×Nat)->Nat->Int->Int->Int->Option (Nat×Nat)->Nat->Option (Nat×Nat)->Nat->Option (Nat×Nat)->Nat->Int->Int->M β):M β:=bW 1 st λa0 a1 r0=>ba r0 λq2 r1=>aD .i64 q2 λa2 r3=>aD .i64 r3 λa3 r4=>aD .i64 r4 λa4 r5=>bW 2 r5 λa5 a6 r6=>bW 1 r6 λa7 a8 r7=>bW 1 r7 λa9 gj r8=>aL r8<|aD .i64 r1 λlq r9=>aD .i64 r9 λa12 mF=>aL mF<|K a0 a1 a2 a3 a4 a5 a6 a7 a8 a9 gj lq a12
noncomputable def IZ (st:List DV) (K:Option (Nat×Nat)->Nat->Bool->M β):M β:=bW 1 st λa0 a1 r0=>gC r0 λa2 r1=>aL r1<|K a0 a1 a2
noncomputable def oe (st:List DV) (K:Option (Nat×Nat)->Nat->Int->M β):M β:=bW 1 st λa0 a1 r0=>aD .i64 r0 λa2 r1=>aL r1<|K a0 a1 a2
noncomputable def xJ (st:List DV) (K:Option (Nat×Nat)->Nat->Int->Int->M β):M β:=bW 1 st λa0 a1 r0=>aD .i64 r0 λa2 r1=>aD .i64 r1 λa3 r2=>aL r2<|K a0 a1 a2 a3
noncomputable def Lz (st:List DV) (K:Nat->M β):M β:=aay st λa0 r0=>aL r0<|K a0
noncomputable def jh (st:List DV) (K:Option (Nat×Nat)->M β):M β:=qR st λa0 r0=>aL r0<|K a0
noncomputable def pO (st:List DV) (K:Option (Nat×Nat)->Int->M β):M β:=qR st λa0 r0=>aD .i64 r0 λa1 r1=>aL r1<|K a0 a1
noncomputable def F5 (st:List DV) (K:Option (Nat×Nat)->Int->Int->M β):M β:=qR st λa0 r0=>aD .i64 r0 λa1 r1=>aD .i64 r1 λa2 r2=>aL r2<|K a0 a1 a2
noncomputable def jJ (st:List DV) (K:List UInt8->M β):M β:=eQ st λa0 r0=>aL r0<|K a0
noncomputable def LJ (st:List DV) (K:List UInt8->Int->Int->Int->Int->Int->Int->Int->Int->Option (Nat×Nat)->Nat->M β):M β:=eQ st λa0 r0=>ba r0 λq2 r1=>aD .i64 q2 λa1 r3=>aD .i64 r3 λa2 r4=>aD .i64 r4 λa3 r5=>aD .i64 r5 λa4 r6=>aD .i64 r6 λa5 r7=>aD .i64 r7 λa6 r8=>aD .i64 r8 λa7 r9=>aD .i64 r9 λa8 mF=>bW 1 mF λa9 gj rE=>aL rE<|aL r1<|K a0 a1 a2 a3 a4 a5 a6 a7 a8 a9 gj
noncomputable def nU (st:List DV) (K:List UInt8->Int->M β):M β:=eQ st λa0 r0=>aD .i64 r0 λa1 r1=>aL r1<|K a0 a1
def ZI (a0:Bool) (a1:Int) (a2:Int) (a3:Bool) (a4:Int) (a5:Int) (a6:Bool) (a7:Int) (a8:Int) (a9:Bool) (gj:Int) (lq:Int) (a12:Bool) (Ad:Int) (DT:Int) (I6:Bool) (I7:Int) (a17:Int) (I8:Bool) (I9:Int) (a20:Int) (a21:Bool):List DV:=[.agg [.bool a0,.int .i64 a1,.int .i64 a2,.bool a3,.int .i64 a4,.int .i64 a5,.bool a6,.int .i64 a7,.int .i64 a8,.bool a9,.int .i64 gj,.int .i64 lq,.bool a12,.int .i64 Ad,.int .i64 DT,.bool I6,.int .i64 I7,.int .i64 a17,.bool I8,.int .i64 I9,.int .i64 a20],.bool a21]
def vY (a0:Int) (a1:Int) (a2:Int) (a3:Int) (a4:Int) (a5:Int) (a6:Int) (a7:Int) (a8:Option (Nat×Nat)) (a9:Nat) (gj:Bool):List DV:=[.agg [.int .i64 a0,.int .i64 a1,.int .i64 a2,.int .i64 a3,.int .i64 a4,.int .i64 a5,.int .i64 a6,.int .i64 a7,.slice 0 a8 a9],.bool gj]
def ZZ (a0:Int) (a1:Int) (a2:Int) (a3:Int) (a4:Int) (a5:Int) (a6:Int) (a7:Int) (a8:Option (Nat×Nat)) (a9:Nat):List DV:=[.agg [.int .i64 a0,.int .i64 a1,.int .i64 a2,.int .i64 a3,.int .i64 a4,.int .i64 a5,.int .i64 a6,.int .i64 a7,.slice 1 a8 a9]]
def Bp (a0:Int) (a1:Int) (a2:Int) (a3:Int) (a4:Int) (a5:Int) (a6:Int) (a7:Int) (a8:Option (Nat×Nat)) (a9:Nat) (gj:Bool):List DV:=[.agg [.int .i64 a0,.int .i64 a1,.int .i64 a2,.int .i64 a3,.int .i64 a4,.int .i64 a5,.int .i64 a6,.int .i64 a7,.slice 1 a8 a9],.bool gj]
def HT (a0:Int) (a1:Int) (a2:Int) (a3:Int) (a4:Int) (a5:Int) (a6:Int) (a7:Int) (a8:Option (Nat×Nat)) (a9:Nat) (gj:Int):List DV:=[.agg [.int .i64 a0,.int .i64 a1,.int .i64 a2,.int .i64 a3,.int .i64 a4,.int .i64 a5,.int .i64 a6,.int .i64 a7,.slice 1 a8 a9],.int .i64 gj]
def Bn (a0:Int) (a1:Int) (a2:Int) (a3:Int) (a4:Int) (a5:Int) (a6:Int) (a7:Int) (a8:Option (Nat×Nat)) (a9:Nat) (gj:Int) (lq:Bool):List DV:=[.agg [.int .i64 a0,.int .i64 a1,.int .i64 a2,.int .i64 a3,.int .i64 a4,.int .i64 a5,.int .i64 a6,.int .i64 a7,.slice 1 a8 a9],.int .i64 gj,.bool lq]
def xN (a0:Int) (a1:Int) (a2:Int) (a3:Int) (a4:Int):List DV:=[.agg [.int .i64 a0,.int .i64 a1,.int .i64 a2,.int .i64 a3,.int .i64 a4]]
def Bw (a0:Int) (a1:Int) (a2:Int) (a3:Int) (a4:Int) (a5:Int):List DV:=[.agg [.int .i64 a0,.int .i64 a1,.int .i64 a2,.int .i64 a3,.int .i64 a4],.int .i64 a5]
def Bt (a0:Int) (a1:Int) (a2:Int) (a3:Int) (a4:Option (Nat×Nat)) (a5:Nat) (a6:Bool):List DV:=[.agg [.int .i64 a0,.int .i64 a1,.int .i64 a2,.int .i64 a3,.slice 0 a4 a5],.bool a6]
def FD (a0:Int) (a1:Int) (a2:Int) (a3:Int) (a4:Option (Nat×Nat)) (a5:Nat) (a6:Int):List DV:=[.agg [.int .i64 a0,.int .i64 a1,.int .i64 a2,.int .i64 a3,.slice 0 a4 a5],.int .i64 a6]
def xG (a0:Int) (a1:Int) (a2:Int) (a3:Int) (a4:Option (Nat×Nat)) (a5:Nat):List DV:=[.agg [.int .i64 a0,.int .i64 a1,.int .i64 a2,.int .i64 a3,.slice 1 a4 a5]]
def FC (a0:Int) (a1:Int) (a2:Int) (a3:Int) (a4:Option (Nat×Nat)) (a5:Nat) (a6:Bool):List DV:=[.agg [.int .i64 a0,.int .i64 a1,.int .i64 a2,.int .i64 a3,.slice 1 a4 a5],.bool a6]
def Fo (a0:Int) (a1:Int) (a2:Int) (a3:Int) (a4:Option (Nat×Nat)) (a5:Nat) (a6:Int):List DV:=[.agg [.int .i64 a0,.int .i64 a1,.int .i64 a2,.int .i64 a3,.slice 1 a4 a5],.int .i64 a6]
def Bv (a0:Int) (a1:Int) (a2:Int) (a3:Int) (a4:Int) (a5:Int) (a6:Int) (a7:Int):List DV:=[.agg [.int .i64 a0,.int .i64 a1,.int .i64 a2,.int .i64 a3],.agg [.int .i64 a4,.int .i64 a5,.int .i64 a6,.int .i64 a7]]
def LI (a0:Int) (a1:Int) (a2:Int) (a3:Option (Nat×Nat)) (a4:Nat) (a5:Option (Nat×Nat)) (a6:Nat) (a7:Option (Nat×Nat)) (a8:Nat) (a9:Int) (gj:Int) (lq:Int) (a12:Int) (Ad:Int) (DT:Int) (I6:Int) (I7:Int) (a17:Option (Nat×Nat)) (I8:Nat) (I9:Option (Nat×Nat)) (a20:Nat) (a21:Int):List DV:=[.agg [.int .i64 a0,.int .i64 a1,.int .i64 a2,.slice 0 a3 a4,.slice 0 a5 a6,.slice 0 a7 a8],.agg [.int .i64 a9,.int .i64 gj,.int .i64 lq,.int .i64 a12,.int .i64 Ad,.int .i64 DT,.int .i64 I6,.int .i64 I7,.slice 1 a17 I8],.slice 0 I9 a20,.int .i64 a21]
def Bq (a0:Int) (a1:Int) (a2:Int) (a3:Option (Nat×Nat)) (a4:Nat) (a5:Option (Nat×Nat)) (a6:Nat) (a7:Option (Nat×Nat)) (a8:Nat) (a9:Option (Nat×Nat)) (gj:Nat) (lq:Bool):List DV:=[.agg [.int .i64 a0,.int .i64 a1,.int .i64 a2,.slice 0 a3 a4,.slice 0 a5 a6,.slice 0 a7 a8],.slice 0 a9 gj,.bool lq]
def Bo (a0:Int) (a1:Int) (a2:Int) (a3:Option (Nat×Nat)) (a4:Nat) (a5:Option (Nat×Nat)) (a6:Nat) (a7:Option (Nat×Nat)) (a8:Nat):List DV:=[.agg [.int .i64 a0,.int .i64 a1,.int .i64 a2,.slice 2 a3 a4,.slice 1 a5 a6,.slice 1 a7 a8]]
def Bm (a0:Int) (a1:Int) (a2:Int) (a3:Option (Nat×Nat)) (a4:Nat) (a5:Option (Nat×Nat)) (a6:Nat) (a7:Option (Nat×Nat)) (a8:Nat) (a9:Int):List DV:=[.agg [.int .i64 a0,.int .i64 a1,.int .i64 a2,.slice 2 a3 a4,.slice 1 a5 a6,.slice 1 a7 a8],.int .i64 a9]
def uQ (a0:Int) (a1:Int) (a2:Int):List DV:=[.agg [.int .i64 a0,.int .i64 a1,.int .i64 a2]]
def Fj (a0:List UInt8) (a1:Int) (a2:Int) (a3:Int) (a4:Int) (a5:Int) (a6:Int) (a7:Int) (a8:Int) (a9:Int) (gj:Int) (lq:Int) (a12:Int) (Ad:Int) (DT:Bool):List DV:=[.agg [.str a0,.int .i64 a1,.int .i64 a2,.int .i64 a3,.int .i64 a4,.int .i64 a5,.int .i64 a6,.int .i64 a7,.int .i64 a8,.int .i64 a9,.int .i64 gj,.int .i64 lq,.int .i64 a12,.int .i64 Ad],.bool DT]
def Lb (a0:Bool):List DV:=[.bool a0]
def zD (a0:Bool) (a1:Int):List DV:=[.bool a0,.int .i64 a1]
def rV (a0:Bool) (a1:Int) (a2:Int):List DV:=[.bool a0,.int .i64 a1,.int .i64 a2]
def Dn (a0:Bool) (a1:Int) (a2:Int) (a3:Bool) (a4:Int) (a5:Int) (a6:Bool) (a7:Int) (a8:Int) (a9:Bool) (gj:Int) (lq:Int) (a12:Bool) (Ad:Int) (DT:Int) (I6:Bool) (I7:Int) (a17:Int) (I8:Bool) (I9:Int) (a20:Int):List DV:=[.bool a0,.int .i64 a1,.int .i64 a2,.bool a3,.int .i64 a4,.int .i64 a5,.bool a6,.int .i64 a7,.int .i64 a8,.bool a9,.int .i64 gj,.int .i64 lq,.bool a12,.int .i64 Ad,.int .i64 DT,.bool I6,.int .i64 I7,.int .i64 a17,.bool I8,.int .i64 I9,.int .i64 a20]
def Li (a0:Int):List DV:=[.int .i64 a0]
def gJ (a0:Int) (a1:Int):List DV:=[.int .i64 a0,.int .i64 a1]
def De (a0:Int):List DV:=[.int .i32 a0]
def zF (a0:Int) (a1:Int) (a2:Int):List DV:=[.int .i64 a0,.int .i64 a1,.int .i64 a2]
def pP (a0:Int) (a1:Int) (a2:List UInt8):List DV:=[.int .i64 a0,.int .i64 a1,.str a2]
def uD (a0:Int) (a1:Option (Nat×Nat)) (a2:Nat):List DV:=[.int .i64 a0,.slice 1 a1 a2]
def kY (a0:Int):List DV:=[.int .u32 a0]
def pU (a0:Int) (a1:Int):List DV:=[.int .u32 a0,.int .i64 a1]
def kZ (a0:Int):List DV:=[.int .u64 a0]
def ZC (a0:Int) (a1:Int):List DV:=[.int .u64 a0,.int .i64 a1]
def lF (a0:Int):List DV:=[.int .u8 a0]
def uE (a0:Option (Nat×Nat)) (a1:Nat) (a2:Bool):List DV:=[.slice 0 a0 a1,.bool a2]
def iw (a0:Option (Nat×Nat)) (a1:Nat) (a2:Int):List DV:=[.slice 0 a0 a1,.int .i64 a2]
def sj (a0:Option (Nat×Nat)) (a1:Nat) (a2:Option (Nat×Nat)) (a3:Nat) (a4:Bool):List DV:=[.slice 0 a0 a1,.slice 0 a2 a3,.bool a4]
def aZ (a0:Option (Nat×Nat)) (a1:Nat):List DV:=[.slice 1 a0 a1]
def dY (a0:Option (Nat×Nat)) (a1:Nat) (a2:Int):List DV:=[.slice 1 a0 a1,.int .i64 a2]
def Z7 (a0:Option (Nat×Nat)) (a1:Nat) (a2:Int) (a3:Int):List DV:=[.slice 1 a0 a1,.int .i64 a2,.int .i64 a3]
def we (a0:Option (Nat×Nat)) (a1:Nat) (a2:Option (Nat×Nat)) (a3:Nat):List DV:=[.slice 1 a0 a1,.slice 1 a2 a3]
def rW (a0:Option (Nat×Nat)) (a1:Nat):List DV:=[.slice 4 a0 a1]
def Lp (a0:Option (Nat×Nat)):List DV:=[.ptr a0]
def ix (a0:Option (Nat×Nat)) (a1:Int):List DV:=[.ptr a0,.int .i64 a1]
def vU (a0:Option (Nat×Nat)) (a1:List UInt8):List DV:=[.ptr a0,.str a1]
def Ls (a0:List UInt8):List DV:=[.str a0]
def vV (a0:List UInt8) (a1:Bool):List DV:=[.str a0,.bool a1]
def eI (a0:List UInt8) (a1:Int):List DV:=[.str a0,.int .i64 a1]
def zG (a0:List UInt8) (a1:Int) (a2:Int):List DV:=[.str a0,.int .i64 a1,.int .i64 a2]
def Fl (a0:List UInt8) (a1:Int) (a2:Int) (a3:Int) (a4:Int) (a5:Int) (a6:Int) (a7:Int) (a8:Int) (a9:Int) (gj:Int) (lq:Int) (a12:Int) (Ad:Int):List DV:=[.str a0,.int .i64 a1,.int .i64 a2,.int .i64 a3,.int .i64 a4,.int .i64 a5,.int .i64 a6,.int .i64 a7,.int .i64 a8,.int .i64 a9,.int .i64 gj,.int .i64 lq,.int .i64 a12,.int .i64 Ad]
def Dt (a0:List UInt8) (a1:Int) (a2:Int) (a3:Int):List DV:=[.str a0,.int .i64 a1,.int .u8 a2,.int .u8 a3]
noncomputable def N_ (p:Option (Nat×Nat)) (x:Int) (l:Nat) (K:Nat->Nat->M β):M β:=bH p λi o=>aC (aR x l)<|K i o
noncomputable def Q_ (f:M β) (g:(List DV->M β)->M β):M β:=cK (λst=>aL st<|f) g
noncomputable def HV (f:Int->Int->Int->Int->Int->Int->Int->Int->Option (Nat×Nat)->Nat->M β) (g:(List DV->M β)->M β):M β:=cK (λst=>ba st λq1 r0=>aD .i64 q1 λa0 r2=>aD .i64 r2 λa1 r3=>aD .i64 r3 λa2 r4=>aD .i64 r4 λa3 r5=>aD .i64 r5 λa4 r6=>aD .i64 r6 λa5 r7=>aD .i64 r7 λa6 r8=>aD .i64 r8 λa7 r9=>bW 1 r9 λa8 a9 mF=>aL mF<|aL r0<|f a0 a1 a2 a3 a4 a5 a6 a7 a8 a9) g
noncomputable def QJ (f:Int->Int->Int->Int->Int->Int->Int->Int->Option (Nat×Nat)->Nat->Int->Bool->M β) (g:(List DV->M β)->M β):M β:=cK (λst=>ba st λq1 r0=>aD .i64 q1 λa0 r2=>aD .i64 r2 λa1 r3=>aD .i64 r3 λa2 r4=>aD .i64 r4 λa3 r5=>aD .i64 r5 λa4 r6=>aD .i64 r6 λa5 r7=>aD .i64 r7 λa6 r8=>aD .i64 r8 λa7 r9=>bW 1 r9 λa8 a9 mF=>aL mF<|aD .i64 r0 λgj rE=>gC rE λlq KX=>aL KX<|f a0 a1 a2 a3 a4 a5 a6 a7 a8 a9 gj lq) g
noncomputable def Dx (f:Int->Int->Int->Int->Int->M β) (g:(List DV->M β)->M β):M β:=cK (λst=>ba st λq1 r0=>aD .i64 q1 λa0 r2=>aD .i64 r2 λa1 r3=>aD .i64 r3 λa2 r4=>aD .i64 r4 λa3 r5=>aD .i64 r5 λa4 r6=>aL r6<|aL r0<|f a0 a1 a2 a3 a4) g
noncomputable def Fw (f:Int->Int->Int->Int->Option (Nat×Nat)->Nat->M β) (g:(List DV->M β)->M β):M β:=cK (λst=>ba st λq1 r0=>aD .i64 q1 λa0 r2=>aD .i64 r2 λa1 r3=>aD .i64 r3 λa2 r4=>aD .i64 r4 λa3 r5=>bW 1 r5 λa4 a5 r6=>aL r6<|aL r0<|f a0 a1 a2 a3 a4 a5) g
noncomputable def aA (f:Bool->M β) (g:(List DV->M β)->M β):M β:=cK (λst=>gC st λa0 r0=>aL r0<|f a0) g
noncomputable def oL (f:Int->M β) (g:(List DV->M β)->M β):M β:=cK (λst=>aD .i64 st λa0 r0=>aL r0<|f a0) g
noncomputable def xV (f:Int->M β) (g:(List DV->M β)->M β):M β:=cK (λst=>aD .u32 st λa0 r0=>aL r0<|f a0) g
noncomputable def BP (f:Int->M β) (g:(List DV->M β)->M β):M β:=cK (λst=>aD .u64 st λa0 r0=>aL r0<|f a0) g
noncomputable def HJ (f:Int->M β) (g:(List DV->M β)->M β):M β:=cK (λst=>aD .u8 st λa0 r0=>aL r0<|f a0) g
noncomputable def fB (f:Option (Nat×Nat)->Nat->M β) (g:(List DV->M β)->M β):M β:=cK (λst=>bW 1 st λa0 a1 r0=>aL r0<|f a0 a1) g
noncomputable def Dh (f:Option (Nat×Nat)->Nat->M β) (g:(List DV->M β)->M β):M β:=cK (λst=>bW 4 st λa0 a1 r0=>aL r0<|f a0 a1) g
noncomputable def tp (f:List UInt8->M β) (g:(List DV->M β)->M β):M β:=cK (λst=>eQ st λa0 r0=>aL r0<|f a0) g
noncomputable def FE (f:(List DV->M β)->Int->Int->Int->Int->Option (Nat×Nat)->Nat->Int->M β) (n:Nat) (l:List DV):M β:=cS (λrec st=>ba st λq1 r0=>aD .i64 q1 λa0 r2=>aD .i64 r2 λa1 r3=>aD .i64 r3 λa2 r4=>aD .i64 r4 λa3 r5=>bW 1 r5 λa4 a5 r6=>aL r6<|aD .i64 r0 λa6 r7=>aL r7<|f rec a0 a1 a2 a3 a4 a5 a6) n l
noncomputable def cM (f:(List DV->M β)->Int->M β) (n:Nat) (l:List DV):M β:=cS (λrec st=>aD .i64 st λa0 r0=>aL r0<|f rec a0) n l
noncomputable def xH (f:(List DV->M β)->Int->Int->M β) (n:Nat) (l:List DV):M β:=cS (λrec st=>aD .u32 st λa0 r0=>aD .i64 r0 λa1 r1=>aL r1<|f rec a0 a1) n l
noncomputable def zT (f:(List DV->M β)->Int->Int->M β) (n:Nat) (l:List DV):M β:=cS (λrec st=>aD .u64 st λa0 r0=>aD .i64 r0 λa1 r1=>aL r1<|f rec a0 a1) n l
noncomputable def kb (f:(List DV->M β)->Option (Nat×Nat)->Nat->Int->M β) (n:Nat) (l:List DV):M β:=cS (λrec st=>bW 1 st λa0 a1 r0=>aD .i64 r0 λa2 r1=>aL r1<|f rec a0 a1 a2) n l
noncomputable def uI (f:(List DV->M β)->List UInt8->Int->M β) (n:Nat) (l:List DV):M β:=cS (λrec st=>eQ st λa0 r0=>aD .i64 r0 λa1 r1=>aL r1<|f rec a0 a1) n l
noncomputable def Zn (s:Nat) (p:Option (Nat×Nat)) (x:Int) (l:Nat) (K:Int->M β):M β:=bH p λi o=>aC (aR x l)<|bD i (x.toNat*s+o) λd=>cY .i64 d λv=>K v
noncomputable def wb (s:Nat) (p:Option (Nat×Nat)) (x:Int) (l:Nat) (K:Int->M β):M β:=bH p λi o=>aC (aR x l)<|bD i (x.toNat*s+o) λd=>cY .u64 d λv=>K v
noncomputable def xy (s:Nat) (p:Option (Nat×Nat)) (x:Int) (l:Nat) (K:List UInt8->M β):M β:=bH p λi o=>aC (aR x l)<|bD i (x.toNat*s+o) λd=>BT d λv=>K v
noncomputable def qQ (i p:Nat) (K:Bool->M β):M β:=bD i p λd=>tJ d λv=>K v
noncomputable def Zm (i p:Nat) (K:Int->M β):M β:=bD i p λd=>cY .i64 d λv=>K v
noncomputable def mP (i p:Nat) (K:Int->M β):M β:=bD i p λd=>cY .u8 d λv=>K v
abbrev ah:=List DV
abbrev ai:=Option (Nat×Nat)
abbrev aj:=List UInt8
abbrev ak:=List Int
abbrev al:=List Nat
abbrev ao:=Zf->Nat->ah->M ah
end Go.Gv
