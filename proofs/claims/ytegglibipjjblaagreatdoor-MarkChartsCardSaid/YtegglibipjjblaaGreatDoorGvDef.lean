/- A deterministic heap machine beside the model: its values, its heap, what it makes of a function's code. -/
import Derived.Orders
import Derived.KernelRfl
theorem ah:type_of% @decide_eq_true:=@decide_eq_true
theorem ao:type_of% @decide_eq_false:=@decide_eq_false
theorem ax:type_of% @if_neg:=@if_neg
theorem ay:type_of% @Nat.le_refl:=@Nat.le_refl
theorem aG:type_of% @if_pos:=@if_pos
theorem aH:type_of% @Bool.and_eq_true:=@Bool.and_eq_true
theorem aO:type_of% @List.forall_mem_cons:=@List.forall_mem_cons
theorem aX:type_of% @Int.toNat_natCast:=@Int.toNat_natCast
theorem ba:type_of% @List.getElem?_eq_getElem:=@List.getElem?_eq_getElem
theorem bc:type_of% @decide_eq_true_iff:=@decide_eq_true_iff
theorem bg:type_of% @List.length_append:=@List.length_append
theorem bx:type_of% @Bool.not_true:=@Bool.not_true
theorem bD:type_of% @Bool.not_false:=@Bool.not_false
theorem bH:type_of% @Nat.zero_le:=@Nat.zero_le
theorem bJ:type_of% @List.getD_eq_getElem?_getD:=@List.getD_eq_getElem?_getD
theorem bK:type_of% @List.mem_singleton:=@List.mem_singleton
theorem bW:type_of% @List.length_take:=@List.length_take
theorem bX:type_of% @List.mem_cons:=@List.mem_cons
theorem cc:type_of% @Nat.eq_of_beq_eq_true:=@Nat.eq_of_beq_eq_true
theorem cd:type_of% @List.getElem?_eq_some_iff:=@List.getElem?_eq_some_iff
theorem cx:type_of% @beq_eq_false_iff_ne:=@beq_eq_false_iff_ne
theorem cA:type_of% @List.take_of_length_le:=@List.take_of_length_le
theorem cI:type_of% @Bool.true_and:=@Bool.true_and
theorem cW:type_of% @List.mem_append:=@List.mem_append
theorem cX:type_of% @Option.some.injEq:=@Option.some.injEq
theorem di:type_of% @Nat.mul_one:=@Nat.mul_one
theorem dj:type_of% @Nat.zero_add:=@Nat.zero_add
theorem dt:type_of% @List.length_drop:=@List.length_drop
theorem dD:type_of% @List.append_assoc:=@List.append_assoc
theorem dE:type_of% @List.drop_zero:=@List.drop_zero
theorem dF:type_of% @List.length_cons:=@List.length_cons
theorem dG:type_of% @Nat.add_zero:=@Nat.add_zero
theorem dL:type_of% @List.map_append:=@List.map_append
theorem dP:type_of% @List.mem_map:=@List.mem_map
theorem dT:type_of% @List.getElem?_eq_none:=@List.getElem?_eq_none
theorem eu:type_of% @List.getElem?_set_ne:=@List.getElem?_set_ne
theorem ez:type_of% @List.append_nil:=@List.append_nil
theorem eL:type_of% @Bool.false_and:=@Bool.false_and
theorem eM:type_of% @Nat.lt_or_ge:=@Nat.lt_or_ge
theorem fe:type_of% @List.nil_append:=@List.nil_append
theorem fw:type_of% @Nat.le_trans:=@Nat.le_trans
theorem fJ:type_of% @List.getElem?_set_self:=@List.getElem?_set_self
theorem fK:type_of% @List.getElem_mem:=@List.getElem_mem
theorem gv:type_of% @List.all_eq_true:=@List.all_eq_true
theorem gx:type_of% @Nat.ble_eq_true_of_le:=@Nat.ble_eq_true_of_le
theorem gK:type_of% @Array.getElem?_toList:=@Array.getElem?_toList
theorem gL:type_of% @List.getElem?_map:=@List.getElem?_map
theorem gM:type_of% @List.map_cons:=@List.map_cons
theorem gN:type_of% @beq_self_eq_true:=@beq_self_eq_true
theorem gT:type_of% @List.drop_eq_getElem_cons:=@List.drop_eq_getElem_cons
theorem gU:type_of% @List.getElem?_append_right:=@List.getElem?_append_right
theorem gV:type_of% @List.getElem?_cons_zero:=@List.getElem?_cons_zero
theorem hJ:type_of% @Bool.not_eq_true':=@Bool.not_eq_true'
theorem hU:type_of% @List.length_set:=@List.length_set
theorem hY:type_of% @List.nodup_append:=@List.nodup_append
theorem iK:type_of% @List.drop_drop:=@List.drop_drop
theorem iL:type_of% @List.getElem?_append_left:=@List.getElem?_append_left
theorem iM:type_of% @if_true:=@if_true
theorem iN:type_of% @or_false:=@or_false
theorem iY:type_of% @if_false:=@if_false
theorem jC:type_of% @Array.length_toList:=@Array.length_toList
theorem jD:type_of% @Bool.or_eq_true:=@Bool.or_eq_true
theorem jE:type_of% @List.mem_range:=@List.mem_range
theorem jG:type_of% @List.take_succ_eq_append_getElem:=@List.take_succ_eq_append_getElem
theorem jH:type_of% @Nat.lt_of_lt_of_le:=@Nat.lt_of_lt_of_le
theorem jY:type_of% @Bool.eq_iff_iff:=@Bool.eq_iff_iff
theorem jZ:type_of% @List.mem_cons_self:=@List.mem_cons_self
theorem j1:type_of% @Nat.min_eq_left:=@Nat.min_eq_left
theorem j3:type_of% @decide_eq_false_iff_not:=@decide_eq_false_iff_not
theorem j4:type_of% @decide_eq_true_eq:=@decide_eq_true_eq
theorem kz:type_of% @List.cons_append:=@List.cons_append
theorem kA:type_of% @List.not_mem_nil:=@List.not_mem_nil
theorem kZ:type_of% @Bool.or_eq_false_iff:=@Bool.or_eq_false_iff
theorem lg:type_of% @List.getElem?_take:=@List.getElem?_take
theorem lh:type_of% @List.mem_of_getElem?:=@List.mem_of_getElem?
theorem lj:type_of% @List.take_append_drop:=@List.take_append_drop
theorem lR:type_of% @List.getElem?_drop:=@List.getElem?_drop
theorem lS:type_of% @List.length_map:=@List.length_map
theorem lT:type_of% @List.mem_cons_of_mem:=@List.mem_cons_of_mem
theorem lU:type_of% @Nat.add_assoc:=@Nat.add_assoc
theorem lV:type_of% @Nat.blt_eq:=@Nat.blt_eq
theorem lW:type_of% @Nat.le_of_ble_eq_true:=@Nat.le_of_ble_eq_true
theorem lX:type_of% @Option.map_some:=@Option.map_some
theorem lY:type_of% @of_decide_eq_true:=@of_decide_eq_true
theorem mn:type_of% @Array.getD_eq_getD_getElem?:=@Array.getD_eq_getD_getElem?
theorem mo:type_of% @List.flatten_cons:=@List.flatten_cons
theorem mq:type_of% @List.getElem?_cons_succ:=@List.getElem?_cons_succ
theorem mu:type_of% @beq_iff_eq:=@beq_iff_eq
theorem mZ:type_of% @List.drop_eq_nil_of_le:=@List.drop_eq_nil_of_le
theorem na:type_of% @List.ext_getElem?:=@List.ext_getElem?
theorem nb:type_of% @Nat.pow_succ:=@Nat.pow_succ
theorem nc:type_of% @Nat.two_pow_pos:=@Nat.two_pow_pos
theorem nf:type_of% @Nat.zero_mul:=@Nat.zero_mul
theorem oe:type_of% @Bool.false_eq_true:=@Bool.false_eq_true
theorem og:type_of% @List.getElem?_range:=@List.getElem?_range
theorem oh:type_of% @Nat.pow_le_pow_right:=@Nat.pow_le_pow_right
theorem pd:type_of% @List.length_eq_zero_iff:=@List.length_eq_zero_iff
theorem ph:type_of% @List.length_replicate:=@List.length_replicate
theorem pj:type_of% @List.take_length:=@List.take_length
theorem pq:type_of% @Nat.mul_comm:=@Nat.mul_comm
theorem ql:type_of% @Bool.false_or:=@Bool.false_or
theorem qm:type_of% @List.drop_left:=@List.drop_left
theorem qo:type_of% @List.nodup_cons:=@List.nodup_cons
theorem qu:type_of% @Nat.add_mul:=@Nat.add_mul
theorem qw:type_of% @Nat.sub_self:=@Nat.sub_self
theorem qy:type_of% @Nat.sub_zero:=@Nat.sub_zero
theorem rE:type_of% @Bool.and_false:=@Bool.and_false
theorem rF:type_of% @List.all_append:=@List.all_append
theorem rG:type_of% @List.length_singleton:=@List.length_singleton
theorem rH:type_of% @Nat.add_comm:=@Nat.add_comm
theorem sJ:type_of% @List.all_cons:=@List.all_cons
theorem sK:type_of% @List.mem_of_mem_drop:=@List.mem_of_mem_drop
theorem sL:type_of% @List.mem_of_mem_take:=@List.mem_of_mem_take
theorem sM:type_of% @List.replicate_succ:=@List.replicate_succ
theorem sN:type_of% @Nat.succ_pos:=@Nat.succ_pos
theorem sO:type_of% @Option.getD_some:=@Option.getD_some
theorem sP:type_of% @Option.some.inj:=@Option.some.inj
theorem ui:type_of% @Bool.true_or:=@Bool.true_or
theorem uj:type_of% @List.drop_of_length_le:=@List.drop_of_length_le
theorem uk:type_of% @List.length_nil:=@List.length_nil
theorem um:type_of% @List.range_succ:=@List.range_succ
theorem uo:type_of% @Nat.beq_refl:=@Nat.beq_refl
theorem uq:type_of% @Nat.mul_le_mul_right:=@Nat.mul_le_mul_right
theorem ur:type_of% @Nat.not_lt:=@Nat.not_lt
theorem uu:type_of% @Nat.not_lt_zero:=@Nat.not_lt_zero
theorem uv:type_of% @of_decide_eq_false:=@of_decide_eq_false
theorem vQ:type_of% @Bool.and_true:=@Bool.and_true
theorem vR:type_of% @List.flatten_append:=@List.flatten_append
theorem vS:type_of% @List.mem_append_left:=@List.mem_append_left
theorem vT:type_of% @List.take_left:=@List.take_left
theorem vU:type_of% @Nat.eq_zero_or_pos:=@Nat.eq_zero_or_pos
theorem vV:type_of% @Nat.testBit_or:=@Nat.testBit_or
theorem xP:type_of% @Array.getElem?_setIfInBounds_ne:=@Array.getElem?_setIfInBounds_ne
theorem xQ:type_of% @List.eq_nil_of_length_eq_zero:=@List.eq_nil_of_length_eq_zero
theorem xR:type_of% @List.getElem?_of_mem:=@List.getElem?_of_mem
theorem xS:type_of% @List.map_congr_left:=@List.map_congr_left
theorem xT:type_of% @List.map_map:=@List.map_map
theorem xU:type_of% @List.mem_filter:=@List.mem_filter
theorem xV:type_of% @List.take_zero:=@List.take_zero
theorem xW:type_of% @Nat.lt_of_le_of_lt:=@Nat.lt_of_le_of_lt
theorem xX:type_of% @Prod.mk.injEq:=@Prod.mk.injEq
theorem zL:type_of% @Array.getElem?_setIfInBounds_self_of_lt:=@Array.getElem?_setIfInBounds_self_of_lt
theorem zM:type_of% @Bool.or_false:=@Bool.or_false
theorem zN:type_of% @Int.le_refl:=@Int.le_refl
theorem zO:type_of% @List.all_eq_false:=@List.all_eq_false
theorem zP:type_of% @List.cons.inj:=@List.cons.inj
theorem zQ:type_of% @List.filter_append:=@List.filter_append
theorem zR:type_of% @List.foldl_cons:=@List.foldl_cons
theorem zS:type_of% @List.getElem?_replicate:=@List.getElem?_replicate
theorem zT:type_of% @List.map_set:=@List.map_set
theorem zU:type_of% @List.mem_append_right:=@List.mem_append_right
theorem zV:type_of% @List.mem_iff_getElem?:=@List.mem_iff_getElem?
theorem zW:type_of% @List.take_append_of_le_length:=@List.take_append_of_le_length
theorem zX:type_of% @Nat.mod_two_eq_zero_or_one:=@Nat.mod_two_eq_zero_or_one
theorem zY:type_of% @Nat.ne_of_beq_eq_false:=@Nat.ne_of_beq_eq_false
theorem zZ:type_of% @Nat.pow_zero:=@Nat.pow_zero
theorem z6:type_of% @Nat.succ_mul:=@Nat.succ_mul
theorem BX:type_of% @Bool.cond_false_right:=@Bool.cond_false_right
theorem BY:type_of% @List.getElem?_toArray:=@List.getElem?_toArray
theorem BZ:type_of% @List.getElem_of_mem:=@List.getElem_of_mem
theorem B0:type_of% @List.pairwise_cons:=@List.pairwise_cons
theorem B2:type_of% @List.range'_succ:=@List.range'_succ
theorem B3:type_of% @List.take_add:=@List.take_add
theorem B4:type_of% @List.take_take:=@List.take_take
theorem B5:type_of% @Nat.div_le_self:=@Nat.div_le_self
theorem B6:type_of% @Nat.eq_of_testBit_eq:=@Nat.eq_of_testBit_eq
theorem Ca:type_of% @Nat.mod_eq_of_lt:=@Nat.mod_eq_of_lt
theorem Cb:type_of% @Nat.testBit_lt_two_pow:=@Nat.testBit_lt_two_pow
theorem Cc:type_of% @Nat.xor_lt_two_pow:=@Nat.xor_lt_two_pow
theorem Fo:type_of% @Array.ext_getElem?:=@Array.ext_getElem?
theorem Fp:type_of% @Array.getElem?_append_left:=@Array.getElem?_append_left
theorem Fq:type_of% @Array.getElem?_eq_getElem:=@Array.getElem?_eq_getElem
theorem Fs:type_of% @BitVec.toNat_ofInt:=@BitVec.toNat_ofInt
theorem Fu:type_of% @List.drop_append_of_le_length:=@List.drop_append_of_le_length
theorem Fv:type_of% @List.length_range:=@List.length_range
theorem Fw:type_of% @List.pairwise_map:=@List.pairwise_map
theorem Fy:type_of% @List.range_eq_range':=@List.range_eq_range'
theorem FB:type_of% @Nat.or_lt_two_pow:=@Nat.or_lt_two_pow
theorem FC:type_of% @Nat.pow_lt_pow_right:=@Nat.pow_lt_pow_right
theorem FD:type_of% @Option.isSome_none:=@Option.isSome_none
theorem FE:type_of% @decide_eq_decide:=@decide_eq_decide
theorem LR:type_of% @List.extract_eq_take_drop:=@List.extract_eq_take_drop
theorem LS:type_of% @List.length_eq_one_iff:=@List.length_eq_one_iff
theorem LU:type_of% @Nat.div_div_eq_div_mul:=@Nat.div_div_eq_div_mul
namespace Go.Gv
inductive DV where
 |bool (b:Bool)
 |int (k:IntKind) (n:Int)
 |str (s:List UInt8)
 |ptr (a:Option (Nat×Nat))
 |slice (sz:Nat) (a:Option (Nat×Nat)) (len:Nat)
 |agg (cs:List DV)
 |func (g:Nat) (first cap:List DV)
 |nilFunc
 |iface (t:Nat) (v:DV)
 |nilIface
 |nat (n:Nat)
structure bq where
 jc:Bool
 cells:List DV
abbrev St:=List (Option bq)
inductive Out (β:Type) where
 |val (b:β)
 |cC
abbrev M (β:Type):=St->Option (Out β×St)
abbrev Zg:=Nat->List DV->M (List DV)
variable {β:Type}
def fail:M β:=fun _=>none
abbrev bs (l:List UInt8):List UInt8:=l
def St.cells (s:St) (i:Nat):Option (List DV):=
 match s[i]? with
 |some (some b)=>some b.cells
 |_=>none
def St.fH (s:St) (i:Nat):Option (List DV):=
 match s[i]? with
 |some (some ⟨false,cs⟩)=>some cs
 |_=>none
def ov:List DV->List DV->List DV
 |_::cs,d::ds=>d::ov cs ds
 |cs,[]=>cs
 |[],_=>[]
def bC:List DV->Nat->List DV->List DV
 |cs,0,ds=>ov cs ds
 |c::cs,k+1,ds=>c::bC cs k ds
 |[],_+1,_=>[]
def M.nn (a:Option (Nat×Nat)) (K:Nat->Nat->M β):M β:=
 match a with
 |some (i,o)=>K i o
 |none=>fail
def M.load (i o n:Nat) (K:List DV->M β):M β:=fun s=>
 match s.cells i with
 |some cs=>bif Nat.ble (o+n) cs.length then K ((cs.drop o).take n) s else none
 |none=>none
def M.au (i o:Nat) (K:DV->M β):M β:=fun s=>
 match s.cells i with
 |some cs=>match cs[o]? with
  |some d=>K d s
  |none=>none
 |none=>none
def M.store (i o:Nat) (ds:List DV) (K:M β):M β:=fun s=>
 match s.fH i with
 |some cs=>bif Nat.ble (o+ds.length) cs.length then K (s.set i (some ⟨false,bC cs o ds⟩))else none
 |none=>none
def M.new (cells:List DV) (K:Nat->M β):M β:=fun s=>K s.length (s++[some ⟨false,cells⟩])
def M.rd (a:Option (Nat×Nat)) (n:Nat) (K:List DV->M β):M β:=
 match a with
 |some (i,o)=>M.load i o n K
 |none=>bif Nat.beq n 0 then K []else fail
def M.wr (a:Option (Nat×Nat)) (ds:List DV) (K:M β):M β:=
 match a with
 |some (i,o)=>M.store i o ds K
 |none=>bif Nat.beq ds.length 0 then K else fail
def M.app (sz:Nat) (a:Option (Nat×Nat)) (len:Nat) (ds:List DV) (m lim:Nat) (K:Option (Nat×Nat)->M β):M β:=fun s=>
 bif Nat.beq m 0 then K a s else
 bif Nat.ble (len+m) lim then
  match a with
  |none=>bif Nat.beq len 0 then K (some (s.length,0)) (s++[some ⟨false,ds⟩])else none
  |some (i,o)=>match s.fH i with
   |some cs=>bif Nat.ble (o+len*sz) cs.length then K (some (s.length,0)) (s.set i none++[some ⟨false,(cs.drop o).take (len*sz)++ds⟩])else none
   |none=>none
 else none
def M.ak (b:Bool) (K:M β):M β:=bif b then K else fail
def M.call {α:Type} (m:M α) (K:α->M β):M β:=fun s=>
 match m s with
 |some (.val ds,s')=>K ds s'
 |some (.cC,s')=>some (.cC,s')
 |none=>none
def St.QG (s s':St):Prop:=∃r,s'=s++r
open Classical in
noncomputable def M.dW {α:Type} (m:M α) (K:α->M β):M β:=fun s=>
 match m s with
 |some (.val ds,s')=>if St.QG s s' then K ds s' else none
 |_=>none
def M.fW {α:Type} (m:M α) (K:α->M β):M β:=fun s=>
 match m s with
 |some (.val ds,s')=>K ds s'
 |_=>none
def M.ny (m:M (List DV)) (H:Bool->M β):M β:=fun s=>
 match m s with
 |some (.val _,s')=>H false s'
 |some (.cC,s')=>H true s'
 |none=>none
open Classical in
noncomputable def M.gF {α:Type} (i:Nat) (m:M α):M α:=fun s=>
 match m s with
 |some (.val ds,s')=>if s'[i]? =s[i]? then some (.val ds,s')else none
 |r=>r
def M.cC:M β:=fun s=>some (.cC,s)
def M.base (f:Nat->M β):M β:=fun s=>f s.length s
def ZV (b:Nat) (s:St):St:=s.take b++(s.drop b).map (fun x=>x.map fun k=> { k with jc:=true })
def M.ret (ds:β):M β:=fun s=>some (.val ds,s)
def M.gR (b:Nat) (ds:β):M β:=fun s=>some (.val ds,ZV b s)
theorem Zyn (f:List DV->M β) (g:(List DV->M β)->M β): ∃x:M β,∀f' g',f'=f->g'=g->x=g' f':=⟨g f,fun _ _ e1 e2=>by rw[e1,e2]⟩
noncomputable def M.join (f:List DV->M β) (g:(List DV->M β)->M β):M β:=Classical.choose (Zyn f g)
theorem M.Ls (f:List DV->M β) (g:(List DV->M β)->M β):M.join f g=g f:=Classical.choose_spec (Zyn f g) f g rfl rfl
def M.loop (F:(List DV->M β)->List DV->M β):Nat->List DV->M β
 |0,_=>fail
 |n+1,st=>F (M.loop F n) st
def D.bool (d:DV) (K:Bool->M β):M β:=match d with| .bool b=>K b|_=>fail
def qb:IntKind->IntKind->Bool
 | .i8,.i8| .i16,.i16| .i32,.i32| .i64,.i64| .u8,.u8| .u16,.u16| .u32,.u32| .u64,.u64=>true
 |_,_=>false
def D.int (k:IntKind) (d:DV) (K:Int->M β):M β:=match d with| .int k' n=>bif qb k' k then K n else fail|_=>fail
def D.str (d:DV) (K:List UInt8->M β):M β:=match d with| .str s=>K s|_=>fail
def D.ptr (d:DV) (K:Option (Nat×Nat)->M β):M β:=match d with| .ptr a=>K a|_=>fail
def D.slice (sz:Nat) (d:DV) (K:Option (Nat×Nat)->Nat->M β):M β:=
 match d with| .slice z a n=>bif Nat.beq z sz||a.isNone then K a n else fail|_=>fail
def D.func (d:DV) (K:Nat->List DV->List DV->M β):M β:=match d with| .func g f c=>K g f c|_=>fail
def D.agg (d:DV) (K:List DV->M β):M β:=match d with| .agg cs=>K cs|_=>fail
def D.nat (d:DV) (K:Nat->M β):M β:=match d with| .nat n=>K n|_=>fail
def D.cons (cs:List DV) (K:DV->List DV->M β):M β:=match cs with|d::r=>K d r|[]=>fail
def D.nil (cs:List DV) (K:M β):M β:=match cs with|[]=>K|_=>fail
def D.dV (n:Nat) (cs:List DV) (K:List DV->List DV->M β):M β:=bif Nat.ble n cs.length then K (cs.take n) (cs.drop n)else fail
def D.nth (cs:List DV) (i:Nat) (K:DV->M β):M β:=match cs[i]? with|some d=>K d|none=>fail
def D.len (ds:List DV) (n:Nat) (K:M β):M β:=bif Nat.beq ds.length n then K else fail
def D.qK (pn:M β) (d:DV) (t:Nat) (K:DV->M β):M β:=match d with| .iface t' v=>bif Nat.beq t' t then K v else pn| .nilIface=>pn|_=>fail
def pD:List DV->Option (List UInt8)
 |[]=>some []
 | .int .u8 n::r=>(pD r).map (UInt8.ofNat n.toNat:: ·)
 |_=>none
def D.bT (cs:List DV) (K:List UInt8->M β):M β:=match pD cs with|some l=>K l|none=>fail
def J.b (st:List DV) (K:Bool->List DV->M β):M β:=D.cons st fun d r=>D.bool d fun x=>K x r
def J.i (k:IntKind) (st:List DV) (K:Int->List DV->M β):M β:=D.cons st fun d r=>D.int k d fun x=>K x r
def J.s (st:List DV) (K:List UInt8->List DV->M β):M β:=D.cons st fun d r=>D.str d fun x=>K x r
def J.p (st:List DV) (K:Option (Nat×Nat)->List DV->M β):M β:=D.cons st fun d r=>D.ptr d fun x=>K x r
def J.l (sz:Nat) (st:List DV) (K:Option (Nat×Nat)->Nat->List DV->M β):M β:=D.cons st fun d r=>D.slice sz d fun a n=>K a n r
def J.f (st:List DV) (K:Nat->List DV->List DV->List DV->M β):M β:=D.cons st fun d r=>D.func d fun g f c=>K g f c r
def J.a (st:List DV) (K:List DV->List DV->M β):M β:=D.cons st fun d r=>D.agg d fun x=>K x r
def J.n (st:List DV) (K:Nat->List DV->M β):M β:=D.cons st fun d r=>D.nat d fun x=>K x r
def J.d (st:List DV) (K:DV->List DV->M β):M β:=D.cons st K
inductive B where
 |bool|int (k:IntKind)|str|ptr|slice (sz:Nat)|func|any|dV (n:Nat)
inductive Sh where
 |b (x:B)
 |agg (l:List B)
def d1 (x:B) (d:DV) (K:DV->M β):M β:=
 match x with
 | .bool=>D.bool d fun b=>K (.bool b)
 | .int k=>D.int k d fun n=>K (.int k n)
 | .str=>D.str d fun s=>K (.str s)
 | .ptr=>D.ptr d fun a=>K (.ptr a)
 | .slice sz=>D.slice sz d fun a n=>K (.slice sz a n)
 | .func=>D.func d fun g f c=>K (.func g f c)
 | .any=>K d
 | .dV _=>fail
def lx:List B->List DV->(List DV->M β)->M β
 |[],cs,K=>D.nil cs (K [])
 |[.dV n],cs,K=>D.len cs n (K cs)
 | .dV n::r,cs,K=>D.dV n cs fun xs rest=>lx r rest fun ds=>K (xs++ds)
 |x::r,cs,K=>D.cons cs fun d rest=>d1 x d fun d'=>lx r rest fun ds=>K (d'::ds)
def uU (x:Sh) (d:DV) (K:DV->M β):M β:=
 match x with
 | .b x=>d1 x d K
 | .agg l=>D.agg d fun cs=>lx l cs fun ds=>K (.agg ds)
def wJ:List Sh->List DV->(List DV->M β)->M β
 |[],cs,K=>D.nil cs (K [])
 |x::r,cs,K=>D.cons cs fun d rest=>uU x d fun d'=>wJ r rest fun ds=>K (d'::ds)
def glue:List B->List B
 |[]=>[]
 | .dV n::r=>match glue r with
  | .dV m::r'=> .dV (n+m)::r'
  |r'=> .dV n::r'
 |x::r=>x::glue r
def JV (P:Program):Nat->TypeId->List B
 |0,_=>[.any]
 |n+1,t=>
  match P.underlying t with
  |some .bool=>[.bool]
  |some (.int k)=>[.int k]
  |some .string=>[.str]
  |some (.pointer _)=>[.ptr]
  |some (.slice e)=>[.slice (P.cellsOf e)]
  |some (.func _ _ _)=>[.func]
  |some (.array m e)=>bif Nat.ble (m*P.cellsOf e) 8 then(List.replicate m (JV P n e)).flatten else[.dV (m*P.cellsOf e)]
  |some (.struct fs)=>glue (fs.toList.flatMap fun f=>JV P n f.type)
  |_=>[.any]
def ZL (P:Program) (t:TypeId):Bool:=
 match P.underlying t with
 |some (.struct _)|some (.array _ _)=>true
 |_=>false
def kq (P:Program) (t:TypeId):Sh:=
 bif ZL P t then .agg (JV P 20 t)else
 match JV P 1 t with
 |[x]=> .b x
 |_=> .b .any
def Wc (P:Program) (t:TypeId):Bool×List Sh:=
 match P.underlying t with
 |some (.tuple ts)=>(true,ts.toList.map (kq P))
 |_=>(false,[kq P t])
structure aP where
 P:Program
 fn:Nat->Nat
 cov:Nat->Bool
 ty:Nat->Nat
 gl:Nat->Nat
 wL:Nat->Bool
 yB:Nat->List B
 mp:Nat->Bool
def xF:Value->Option DV
 | .bool b=>some (.bool b)
 | .int k n=>some (.int k n)
 | .string s=>some (.str s.data.toList)
 | .pointer none=>some (.ptr none)
 | .slice none 0 0=>some (.slice 0 none 0)
 | .nilFunc=>some .nilFunc
 | .nilIface=>some .nilIface
 |_=>none
def De:List Value->Option (List DV)
 |[]=>some []
 |v::r=>match xF v,De r with
  |some d,some ds=>some (d::ds)
  |_,_=>none
inductive dx where
 |u
 |un
 |v (d:DV)
 |mY (ds:List DV)
 |loc (v n:Nat) (cs:List DV)
 |pl (r v o:Nat)
 |it (v:Nat) (s:List UInt8) (pos:Nat)
structure Env where
 aZ:Nat
 l:List (Nat×dx)
def look:List (Nat×dx)->Nat->dx
 |[],_=> .u
 |(k,e)::r,t=>bif Nat.beq k t then e else look r t
def Env.get (E:Env) (t:Nat):dx:=look E.l t
def Env.put (E:Env) (t:Nat) (e:dx):Env:=⟨E.aZ,(t,e)::E.l⟩
def Env.dN (E:Env) (t:Option Nat) (e:dx):Env:=match t with|some t=>E.put t e|none=>E
def has:List Nat->Nat->Bool
 |[],_=>false
 |k::r,t=>Nat.beq k t||has r t
def Bf:List (Nat×dx)->List Nat->List (Nat×dx)
 |[],_=>[]
 |(k,e)::r,ts=>bif has ts k then Bf r ts else(k,e)::Bf r ts
def Env.del (E:Env) (ts:List Nat):Env:=⟨E.aZ,Bf E.l ts⟩
def Env.src (C:aP) (E:Env):Operand->dx
 | .tmp t=>match E.get t with
  | .loc v _ _=> .pl t v 0
  | .it _ _ _=> .u
  |e=>e
 | .const v=>(match xF v with|some d=> .v d|none=> .u)
 | .global g=>bif C.wL g then .v (.ptr (some (C.gl g,0)))else .u
 | .func f=>bif C.cov f then .v (.func (C.fn f) [] [])else .u
def dZ (C:aP) (E:Env) (x:Operand) (K:DV->M β):M β:=
 match E.src C x with
 | .v d=>K d
 |_=>fail
def vO (C:aP) (E:Env):List Operand->(List DV->M β)->M β
 |[],K=>K []
 |x::r,K=>dZ C E x fun d=>vO C E r fun ds=>K (d::ds)
def JM (E:Env) (r v:Nat) (K:Nat->List DV->M β):M β:=
 match E.get r with
 | .loc v' n cs=>bif Nat.beq v' v then K n cs else fail
 |_=>fail
def yA (C:aP) (E:Env) (x:Operand) (KL:Nat->Nat->Nat->M β) (KH:Nat->Nat->M β):M β:=
 match E.src C x with
 | .pl r v o=>KL r v o
 | .v (.ptr a)=>M.nn a KH
 |_=>fail
def xy (C:aP) (E:Env) (x:Operand) (K:Int->M β):M β:=dZ C E x fun d=>match d with| .int _ n=>K n|_=>fail
def QI (C:aP) (E:Env) (x:Operand) (K:Bool->M β):M β:=dZ C E x fun d=>match d with| .bool b=>K b|_=>fail
def wK:B->DV->DV->Option Bool
 | .bool,.bool a,.bool b=>some (a==b)
 | .int k0,.int k a,.int k' b=>bif qb k0 k&&qb k k' then some (a==b)else none
 | .str,.str a,.str b=>some (a==b)
 |_,_,_=>none
def kJ:List B->List DV->List DV->Option Bool
 |[],[],[]=>some true
 |k::ks,a::r,b::r'=>match wK k a b,kJ ks r r' with
  |some x,some y=>some (x&&y)
  |_,_=>none
 |_,_,_=>none
def D.eqs (ag:List B) (xs ys:List DV) (K:Bool->M β):M β:=match kJ ag xs ys with|some b=>K b|none=>fail
def J3 (u:Option TypeDesc) (ag:List B) (a b:DV) (K:Bool->M β):M β:=
 match a,b with
 | .bool x,.bool y=>(match u with|some .bool=>K (x==y)|_=>fail)
 | .int k x,.int k' y=>bif qb k k' then K (x==y)else fail
 | .str x,.str y=>K (x==y)
 | .ptr x,.ptr none=>(match u with|some (.pointer _)=>K x.isNone|_=>fail)
 | .ptr none,.ptr x=>(match u with|some (.pointer _)=>K x.isNone|_=>fail)
 | .slice _ x _,.slice _ none _=>(match u with|some (.slice _)=>K x.isNone|_=>fail)
 | .slice _ none _,.slice _ x _=>(match u with|some (.slice _)=>K x.isNone|_=>fail)
 | .agg xs,.agg ys=>(match ag with|[]=>fail|k::ks=>(match kJ (k::ks) xs ys with|some b=>K b|none=>fail))
 |_,_=>fail
def af (n:Int):Int:=IntKind.i64.wrap n
def bits (op:BinOp) (k:IntKind) (x y:Int):Int:=
 let a:=BitVec.ofInt k.bits x
 let b:=BitVec.ofInt k.bits y
 match op with
 | .and=>k.wrap (a&&& b).toNat
 | .or=>k.wrap (a|||b).toNat
 | .xor=>k.wrap (a^^^b).toNat
 |_=>k.wrap (a&&& ~~~b).toNat
def strLt:List UInt8->List UInt8->Bool:=Op.bytesLess
def Uo (u:Option TypeDesc) (ag:List B) (op:BinOp) (a b:DV) (K:DV->M β):M β:=
 match op with
 | .eql=>J3 u ag a b fun r=>K (.bool r)
 | .neq=>J3 u ag a b fun r=>K (.bool !r)
 | .shl=>match a,b with
  | .int k x,.int _ y=>M.ak (decide (0<=y)) (K (.int k (k.wrap (x*2^(min y.toNat k.bits)))))
  |_,_=>fail
 | .shr=>match a,b with
  | .int k x,.int _ y=>M.ak (decide (0<=y)) (K (.int k (x.fdiv (2^(min y.toNat k.bits)))))
  |_,_=>fail
 |op=>match a,b with
  | .int k x,.int k' y=>bif qb k k' then
    match op with
    | .add=>K (.int k (k.wrap (x+y)))
    | .sub=>K (.int k (k.wrap (x-y)))
    | .mul=>K (.int k (k.wrap (x*y)))
    | .quo=>M.ak (!(y==0)) (K (.int k (k.wrap (x.tdiv y))))
    | .rem=>M.ak (!(y==0)) (K (.int k (x.tmod y)))
    | .and| .or| .xor| .andNot=>K (.int k (bits op k x y))
    | .lss=>K (.bool (decide (x<y)))
    | .leq=>K (.bool (decide (x<=y)))
    | .gtr=>K (.bool (decide (x>y)))
    | .geq=>K (.bool (decide (x>=y)))
    |_=>fail
   else fail
  | .str x,.str y=>
   match op with
   | .add=>M.ak (Nat.ble (x.length+y.length) 4611686018427387904) (K (.str (x++y)))
   | .lss=>K (.bool (strLt x y))
   | .leq=>K (.bool (strLt x y||x==y))
   | .gtr=>K (.bool !(strLt x y||x==y))
   | .geq=>K (.bool !(strLt x y))
   |_=>fail
  |_,_=>fail
def unK (op:UnOp) (a:DV) (K:DV->M β):M β:=
 match op,a with
 | .not,.bool b=>K (.bool !b)
 | .neg,.int k n=>K (.int k (k.wrap (0-n)))
 |_,_=>fail
def av (i:Int) (n:Nat):Bool:=decide (0<=i)&&decide (i<n)
def ZI (s:List UInt8) (i:Int):Int:=((s.getD i.toNat 0).toNat:Int)
def ZF (s:List UInt8):List DV:=s.map fun b=> .int .u8 b.toNat
def enc (n:Int):List UInt8:=(Utf8.encode n).data.toList
def dec (s:List UInt8) (i:Nat):Nat×Nat:=
 let at' (k:Nat):Nat:=(s.getD (i+k) 0).toNat
 let cont (k:Nat):Bool:=decide (i+k<s.length)&&at' k/64==2
 let b0:=at' 0
 if b0<0x80 then(b0,1)
 else if b0/32==6&&cont 1 then
  let c:=(b0%32)*64+at' 1%64
  if c>=0x80 then(c,2)else(Utf8.runeError,1)
 else if b0/16==14&&cont 1&&cont 2 then
  let c:=(b0%16)*4096+(at' 1%64)*64+at' 2%64
  if c>=0x800&&Utf8.valid c then(c,3)else(Utf8.runeError,1)
 else if b0/8==30&&cont 1&&cont 2&&cont 3 then
  let c:=(b0%8)*262144+(at' 1%64)*4096+(at' 2%64)*64+at' 3%64
  if c>=0x10000&&Utf8.valid c then(c,4)else(Utf8.runeError,1)
 else(Utf8.runeError,1)
def yv (s:List UInt8) (i:Nat):Int:=((dec s i).1:Int)
def rz (s:List UInt8) (i:Nat):Nat:=(dec s i).2
def fD (n:Nat) (z:List DV):List DV:=(List.replicate n z).flatten
def sZ (P:Program) (t:TypeId):Option TypeId:=match P.underlying t with|some (.slice e)=>some e|_=>none
def Ju (P:Program) (t:TypeId):Nat:=match P.info? t with|some i=>i.bytes|none=>0
def xA (P:Program) (e:TypeId):Nat:=70368744177664/(Ju P e)
def kE (P:Program) (t:TypeId):Option (List DV):=match P.info? t with|some i=>(match i.zero with|some z=>De z.cells.toList|none=>none)|none=>none
def one:DV->Bool
 | .agg _=>false
 |_=>true
def nY (P:Program) (t:TypeId) (K:M β):M β:=match P.underlying t with|some _=>K|none=>fail
def JL (P:Program) (t:TypeId) (d:DV) (K:List DV->M β):M β:=
 nY P t (bif ZL P t then(match d with| .agg cs=>D.len cs (P.cellsOf t) (K cs)|_=>fail)
  else bif Nat.beq (P.cellsOf t) 1 then M.ak (one d) (K [d])else fail)
def ua (n m:Nat) (cs:List DV) (p:Nat) (ds:List DV):List DV:=bif Nat.beq m n&&Nat.beq p 0 then ds else bC cs p ds
def xz (E:Env) (C:aP) (N:Nat) (place:Nat->Option (Nat×Nat)):List (Nat×Operand)->List DV->(List DV->M β)->M β
 |[],cs,K=>K cs
 |(i,x)::r,cs,K=>match place i with
  |none=>fail
  |some (o,n)=>bif Nat.ble (o+n) N then dZ C E x fun d=>
   match d with
   | .agg ds=>D.len ds n (xz E C N place r (ua N n cs o ds) K)
   |d=>bif Nat.beq n 1 then M.ak (one d) (xz E C N place r (bC cs o [d]) K)else fail
   else fail
def PT (P:Program) (t:TypeId):Nat->Option (Nat×Nat):=
 match P.underlying t with
 |some (.struct fs)=>fun i=>match fs[i]? with|some f=>some (f.offset,P.cellsOf f.type)|none=>none
 |some (.array _ e)=>fun i=>some (i*P.cellsOf e,P.cellsOf e)
 |_=>fun _=>none
def Zuu (P:Program) (t:TypeId):Bool:=
 match P.underlying t with
 |some (.struct fs)=>fs.toList.all fun f=>(P.info? f.type).isSome
 |some (.array _ e)=>(P.info? e).isSome
 |_=>false
def Jw (pr:List Nat) (o:Oper) (n:Nat) (cells:List DV) (E:Env) (K:Env->M β):M β:=
 match o.dst with
 |some t=>bif has pr t then K ⟨E.aZ+1,(t,.loc E.aZ n cells)::E.l⟩else M.new cells fun i=>K (E.put t (.v (.ptr (some (i,0)))))
 |none=>fail
def C4 (C:aP) (E:Env) (len:Nat) (lo hi:Option Operand) (K:Nat->Nat->M β):M β:=
 let low (h:Nat):M β:=match lo with
  |none=>K 0 h
  |some x=>xy C E x fun l=>M.ak (decide (0<=l)&&decide (l<=h)) (K l.toNat h)
 match hi with
 |none=>low len
 |some x=>xy C E x fun h=>M.ak (decide (0<=h)&&decide (h<=len)) (low h.toNat)
def Bc (lo hi:Bool) (s:List UInt8) (l h:Nat):List UInt8:=
 bif hi then(bif lo then(s.take h).drop l else s.take h)else(bif lo then s.drop l else s)
def cy (lo:Bool) (a:Option (Nat×Nat)) (k:Nat):Option (Nat×Nat):=bif lo then(match a with|some (i,o)=>some (i,k+o)|none=>none)else a
def Dn (lo:Bool) (l h:Nat):Nat:=bif lo then h-l else h
def part (n:Nat) (cs:List DV) (p m:Nat):List DV:=bif Nat.beq m n&&Nat.beq p 0 then cs else(cs.drop p).take m
def mX (pr:List Nat):List Oper->Nat->Nat->Option Nat
 |_,0,_=>none
 |ops,n+1,t=>bif has pr t then some t else
  match ops.find? fun o=>match o.dst with|some d=>Nat.beq d t|none=>false with
  |some o=>match o.op with
   | .fieldAddr _ (.tmp u) _| .indexAddr _ (.tmp u) _| .move (.tmp u)| .nilCheck (.tmp u)=>mX pr ops n u
   |_=>none
  |none=>none
def tW (pr:List Nat) (ops:List Oper):List Oper->List Nat
 |[]=>[]
 |o::r=>
  let m:=tW pr ops r
  let m:=match o.dst with|some d=>d::m|none=>m
  match o.op with
  | .store _ (.tmp a) _=>match mX pr ops 12 a with|some t=>t::m|none=>m
  | .next (.tmp t) _=>t::m
  |_=>m
def jT (pr:List Nat):Code->List Nat
 | .region _ ops _=>tW pr ops.toList ops.toList
 | .seq a b| .cond _ a b=>jT pr a++jT pr b
 | .block _ b| .loop b| .scope b=>jT pr b
 |_=>[]
inductive jI where
 |pure|hp|wr|call|sE (r:Nat)|mm (r:Nat)
 |lp (a:Nat)|ap (bs:List Nat)
inductive Md where
 |s
 |d (k:jI) (x:Nat)
def Md.loc:Md->Nat->Bool
 | .s,_=>true
 | .d (.sE q) _,r=>Nat.beq q r
 | .d (.mm q) _,r=>Nat.beq q r
 |_,_=>false
def Md.J6:Md->Bool
 | .s=>true
 | .d (.sE _) _=>false
 | .d (.mm _) _=>false
 |_=>true
def Md.x:Md->Nat
 | .s=>0
 | .d _ x=>x
def cls (P:Program) (pr:List Nat) (ops:List Oper) (o:Oper):jI:=
 match o.op with
 | .load _ (.tmp a)=>match mX pr ops 12 a with|some r=> .sE r|none=> .lp a
 | .load _ _=> .hp
 | .store _ (.tmp a) _=>match mX pr ops 12 a with|some r=> .mm r|none=> .ap []
 | .store .. => .wr
 | .alloc _| .box _ _| .buildSlice .. | .makeSlice .. | .convert .. | .range .. => .hp
 | .slice t .. =>match P.underlying t with|some (.array _ _)=> .hp|_=> .pure
 | .move _| .assign _| .pick .. | .build .. | .nilCheck _| .binOp .. | .unOp .. | .fieldAddr .. | .field .. | .indexAddr .. | .index .. | .extract .. | .makeInterface .. | .makeFunc .. => .pure
 | .call q=>match q.callee with
  | .builtin .len| .builtin .min| .builtin .max=> .pure
  | .builtin .append=> .ap []
  | .value _=>bif has pr 1000000 then .ap []else .call
  |_=> .wr
 | .next (.tmp t) _=> .mm t
 |_=> .wr
section
variable (C:aP) (E:Env) (o:Oper) (K:Env->M β)
def dC (d:DV):M β:=K (E.dN o.dst (.v d))
def vK (e:dx):M β:=K (E.dN o.dst e)
def Qv (b y z:Operand):M β:=QI C E b fun b=>bif b then vK E o K (E.src C y)else vK E o K (E.src C z)
def Qa (pr:List Nat) (t:TypeId):M β:=
 match kE C.P t with
 |some z=>bif Nat.beq z.length (C.P.cellsOf t)then Jw pr o (C.P.cellsOf t) z E K else fail
 |none=>fail
def Th (pr:List Nat) (t:TypeId) (y:Operand):M β:=dZ C E y fun d=>JL C.P t d fun cs=>Jw pr o (C.P.cellsOf t) cs E K
def Qg (t:TypeId) (ps:Array (Nat×Operand)):M β:=
 match kE C.P t with
 |some z=>bif Zuu C.P t then xz E C z.length (PT C.P t) ps.toList z fun cs=>dC E o K (.agg cs)else fail
 |none=>fail
def Nr (t:TypeId) (len:Nat) (ps:Array (Nat×Operand)):M β:=
 match sZ C.P t with
 |some e=>match kE C.P e with
  |some z=>bif Nat.ble (len*C.P.cellsOf e) 100000&&Nat.beq z.length (C.P.cellsOf e)then
    xz E C (len*C.P.cellsOf e) (fun i=>some (i*C.P.cellsOf e,C.P.cellsOf e)) ps.toList (fD len z) fun cs=>
     M.new cs fun i=>dC E o K (.slice (C.P.cellsOf e) (some (i,0)) len)
    else fail
  |none=>fail
 |none=>fail
def JQ (md:Md) (t:TypeId) (a:Operand):M β:=
 nY C.P t (yA C E a
  (fun r v p=>bif md.loc r then JM E r v fun n cs=>
   match kq C.P t with
   | .b y=>D.nth cs p fun d=>d1 y d (dC E o K)
   | .agg _=>M.ak (Nat.ble (p+C.P.cellsOf t) n) (dC E o K (.agg (part n cs p (C.P.cellsOf t))))
   else fail)
  (fun i p=>bif md.J6 then
   match kq C.P t with
   | .b y=>M.au i p fun d=>d1 y d (dC E o K)
   | .agg l=>M.load i p (C.P.cellsOf t) fun cs=>lx l cs fun ds=>dC E o K (.agg ds)
   else fail))
def PS (md:Md) (ms:List Nat) (t:TypeId) (a y:Operand):M β:=
 dZ C E y fun d=>JL C.P t d fun ds=>yA C E a
  (fun r v p=>bif has ms r&&md.loc r then JM E r v fun n cs=>M.ak (Nat.ble (p+C.P.cellsOf t) n) (K (E.put r (.loc v n (ua n (C.P.cellsOf t) cs p ds))))else fail)
  (fun i p=>bif md.J6 then M.store i p ds (K E)else fail)
def NV (y:Operand):M β:=yA C E y (fun r v p=>vK E o K (.pl r v p)) (fun i p=>dC E o K (.ptr (some (i,p))))
def Tg (op:BinOp) (t:TypeId) (y z:Operand):M β:=dZ C E y fun a=>dZ C E z fun b=>Uo (C.P.underlying t) (C.yB t) op a b (dC E o K)
def Tj (op:UnOp) (y:Operand):M β:=dZ C E y fun a=>unK op a (dC E o K)
def Lr (P:Program) (e:TypeId):Bool:=match P.underlying e with|some (.int .u8)=>true|_=>false
def O7 (s t:TypeId) (y:Operand):M β:=
 nY C.P s (match C.P.underlying t with
  |some (.int k)=>dZ C E y fun d=>(match d with| .int _ n=>dC E o K (.int k (k.wrap n))|_=>fail)
  |some .string=>(match C.P.underlying s with
   |some (.int _)=>dZ C E y fun d=>(match d with| .int _ n=>dC E o K (.str (enc n))|_=>fail)
   |some .string=>dZ C E y fun d=>(match d with| .str l=>dC E o K (.str l)|_=>fail)
   |some (.slice e)=>bif Lr C.P e then dZ C E y fun d=>(match d with
    | .slice z a n=>bif Nat.beq z 1||a.isNone then M.rd a n fun cs=>D.bT cs fun l=>dC E o K (.str l)else fail
    |_=>fail)else fail
   |_=>fail)
  |some (.slice e)=>bif Lr C.P e then dZ C E y fun d=>(match d with
    | .str l=>M.new (ZF l) fun i=>dC E o K (.slice 1 (some (i,0)) l.length)
    |_=>fail)else fail
  |_=>fail)
def PQ (t:TypeId) (y:Operand):M β:=
 match C.P.underlying t with
 |some (.interface _)=>fail
 |some _=>dZ C E y fun d=>dC E o K (.iface (C.ty t) d)
 |none=>fail
def Qy (f:Fn) (first cap:Array Operand):M β:=
 match f with
 | .func f=>bif C.cov f then vO C E first.toList fun fs=>vO C E cap.toList fun cs=>dC E o K (.func (C.fn f) fs cs)else fail
 |_=>fail
def NG (t:TypeId) (l c:Operand):M β:=
 match sZ C.P t with
 |some e=>match kE C.P e with
  |some z=>bif Nat.beq z.length (C.P.cellsOf e)then xy C E l fun n=>xy C E c fun m=>
    M.ak (decide (0<=n)&&decide (n<=m)&&decide (m<=xA C.P e)) (M.new (fD n.toNat z) fun i=>dC E o K (.slice (C.P.cellsOf e) (some (i,0)) n.toNat))else fail
  |none=>fail
 |none=>fail
def PY (t:TypeId) (y:Operand) (lo hi:Option Operand):M β:=
 match C.P.underlying t with
 |some .string=>dZ C E y fun d=>(match d with
  | .str s=>C4 C E s.length lo hi fun l h=>dC E o K (.str (Bc lo.isSome hi.isSome s l h))
  |_=>fail)
 |some (.slice e)=>nY C.P e (dZ C E y fun d=>(match d with
  | .slice z a n=>bif Nat.beq z (C.P.cellsOf e)||a.isNone then C4 C E n lo hi fun l h=>dC E o K (.slice z (cy lo.isSome a (l*C.P.cellsOf e)) (Dn lo.isSome l h))else fail
  |_=>fail))
 |some (.array m e)=>nY C.P e (dZ C E y fun d=>(match d with
  | .ptr a=>M.nn a fun i p=>M.load i p (m*C.P.cellsOf e) fun _=>C4 C E m lo hi fun l h=>dC E o K (.slice (C.P.cellsOf e) (cy lo.isSome (some (i,p)) (l*C.P.cellsOf e)) (Dn lo.isSome l h))
  |_=>fail))
 |_=>fail
def If (t:TypeId) (y:Operand) (f:Nat):M β:=
 match C.P.underlying t with
 |some (.struct fs)=>(match fs[f]? with
  |some f=>bif Nat.beq (C.P.cellsOf f.type) 0 then fail else yA C E y (fun r v p=>vK E o K (.pl r v (p+f.offset))) (fun i p=>dC E o K (.ptr (some (i,p+f.offset))))
  |none=>fail)
 |_=>fail
def P6 (t:TypeId) (y:Operand) (f:Nat):M β:=
 match C.P.underlying t with
 |some (.struct fs)=>(match fs[f]? with
  |some f=>nY C.P f.type (dZ C E y fun d=>(match d with
   | .agg cs=>bif ZL C.P f.type then dC E o K (.agg ((cs.drop f.offset).take (C.P.cellsOf f.type)))else D.nth cs f.offset fun d=>uU (kq C.P f.type) d (dC E o K)
   |_=>fail))
  |none=>fail)
 |_=>fail
def N5 (t:TypeId) (y i:Operand):M β:=
 xy C E i fun n=>match C.P.underlying t with
 |some (.slice e)=>nY C.P e (dZ C E y fun d=>(match d with
  | .slice z a m=>bif Nat.beq z (C.P.cellsOf e)||a.isNone then M.nn a fun j p=>M.ak (av n m) (dC E o K (.ptr (some (j,n.toNat*C.P.cellsOf e+p))))else fail
  |_=>fail))
 |some (.array m e)=>nY C.P e (yA C E y
  (fun r v p=>M.ak (av n m) (vK E o K (.pl r v (n.toNat*C.P.cellsOf e+p))))
  (fun j p=>M.ak (av n m) (dC E o K (.ptr (some (j,n.toNat*C.P.cellsOf e+p))))))
 |_=>fail
def Qb (t:TypeId) (y i:Operand):M β:=
 xy C E i fun n=>dZ C E y fun d=>match C.P.underlying t,d with
 |some .string,.str s=>M.ak (av n s.length) (dC E o K (.int .u8 (ZI s n)))
 |some (.array m e),.agg cs=>nY C.P e (M.ak (av n m) (bif ZL C.P e then dC E o K (.agg ((cs.drop (n.toNat*C.P.cellsOf e)).take (C.P.cellsOf e)))else D.nth cs (n.toNat*C.P.cellsOf e) fun d=>uU (kq C.P e) d (dC E o K)))
 |_,_=>fail
def P9 (t:TypeId) (y:Operand):M β:=
 match C.P.underlying t with
 |some .string=>dZ C E y fun d=>match d,o.dst with
  | .str s,some t=>K ⟨E.aZ+1,(t,.it E.aZ s 0)::E.l⟩
  |_,_=>fail
 |_=>fail
def Qz (ms:List Nat) (t:Nat):M β:=
 match E.get t,o.dst with
 | .it v s p,some d=>bif Nat.beq d t|| !has ms t then fail else
   bif Nat.blt p s.length then K ((E.put t (.it v s (p+rz s p))).put d (.mY [.bool true,.int .i64 p,.int .i32 (yv s p)]))
   else K (E.put d (.mY [.bool false]))
 |_,_=>fail
def EM (md:Md):M β:=bif Nat.beq md.x 0 then M.cC else fail
def Pj (md:Md) (t:TypeId) (y:Operand):M β:=
 match C.P.underlying t with
 |some (.interface _)=>fail
 |some _=>dZ C E y fun d=>D.qK (EM md) d (C.ty t) fun d=>uU (kq C.P t) d (dC E o K)
 |none=>fail
def OX (t i:Nat):M β:=
 match E.get t with
 | .mY ds=>(match ds[i]? with|some d=>dC E o K d|none=>fail)
 |_=>fail
def PV (md:Md) (y:Operand):M β:=dZ C E y fun d=>match d with| .iface _ _=>EM md|_=>fail
noncomputable def JZ (md:Md) (m:M (List DV)) (K:List DV->M β):M β:=
 match md.x with
 |0=>M.call m K
 |1=>M.fW m K
 |_=>M.dW m K
def Md.bs:Md->List Nat
 | .d (.ap bs) _=>bs
 |_=>[]
noncomputable def Bb (E:Env):List Nat->M (List DV)->M (List DV)
 |[],m=>m
 |b::r,m=>match E.get b with
  | .v (.ptr (some (i,_)))=>M.gF i (Bb E r m)
  |_=>fail
noncomputable def Qk (md:Md) (c:Zg) (f:Operand) (as:Array Operand):M β:=
 dZ C E f fun fv=>vO C E as.toList fun as=>match fv with
 | .func g fs cs=>match Wc C.P o.type with
  |(true,EZ)=>bif Nat.beq EZ.length 1 then fail else JZ md (Bb E md.bs (c g (fs++as++cs))) fun ds=>wJ EZ ds fun ds=>vK E o K (.mY ds)
  |(false,EZ)=>JZ md (Bb E md.bs (c g (fs++as++cs))) fun ds=>wJ EZ ds fun ds=>match ds with|[d]=>dC E o K d|_=>fail
 |_=>fail
def Ti (ts:Array TypeId) (as:Array Operand):M β:=
 match as.toList,ts[0]? with
 |[y],some t=>(match C.P.underlying t with
  |some (.array m _)=>dC E o K (.int .i64 m)
  |some .string=>dZ C E y fun d=>(match d with| .str s=>dC E o K (.int .i64 s.length)|_=>fail)
  |some (.slice _)=>dZ C E y fun d=>(match d with| .slice _ _ n=>dC E o K (.int .i64 n)|_=>fail)
  |_=>fail)
 |_,_=>fail
def Te (P:Program) (ts:Array TypeId) (K:M β):M β:=
 match ts[1]? with
 |none=>K
 |some t=>match P.underlying t with
  |some (.int _)=>fail
  |some _=>K
  |none=>fail
def PH (ts:Array TypeId) (as:Array Operand):M β:=
 match as.toList,ts[0]? with
 |[y,z],some t=>(match sZ C.P t with
  |some e=>nY C.P e (Te C.P ts (match kE C.P e with
   |some zv=>bif !Nat.beq zv.length (C.P.cellsOf e)then fail else dZ C E y fun a=>dZ C E z fun b=>(match a,b with
    | .slice w p n,.slice w' p' m=>bif (Nat.beq w (C.P.cellsOf e)||p.isNone)&&(Nat.beq w' (C.P.cellsOf e)||p'.isNone)then
      M.rd p' (m*C.P.cellsOf e) fun ds=>M.app (C.P.cellsOf e) p n ds m (xA C.P e) fun BN=>dC E o K (.slice (C.P.cellsOf e) BN (n+m))else fail
    | .slice w p n,.str l=>bif (Nat.beq w 1||p.isNone)&&Nat.beq (C.P.cellsOf e) 1 then M.app 1 p n (ZF l) l.length (xA C.P e) fun BN=>dC E o K (.slice 1 BN (n+l.length))else fail
    |_,_=>fail)
   |none=>fail))
  |none=>fail)
 |_,_=>fail
def Qu (ts:Array TypeId) (as:Array Operand):M β:=
 match as.toList,ts[0]? with
 |[y,z],some t=>(match sZ C.P t with
  |some e=>nY C.P e (dZ C E y fun a=>dZ C E z fun b=>(match a,b with
   | .slice w p n,.slice w' p' m=>bif (Nat.beq w (C.P.cellsOf e)||p.isNone)&&(Nat.beq w' (C.P.cellsOf e)||p'.isNone)then M.rd p' (min m n*C.P.cellsOf e) fun ds=>M.wr p ds (dC E o K (.int .i64 (min m n)))else fail
   | .slice w p n,.str l=>bif (Nat.beq w 1||p.isNone)&&Nat.beq (C.P.cellsOf e) 1 then M.wr p (ZF (l.take n)) (dC E o K (.int .i64 (min l.length n)))else fail
   |_,_=>fail))
  |none=>fail)
 |_,_=>fail
def LC (mx:Bool) (as:Array Operand):M β:=
 match as.toList with
 |[y,z]=>dZ C E y fun a=>dZ C E z fun b=>(match a,b with
  | .int k a,.int k' b=>bif qb k k' then dC E o K (.int k (bif mx then(if a<b then b else a)else(if b<a then b else a)))else fail
  |_,_=>fail)
 |_=>fail
def PN (ts:Array TypeId) (as:Array Operand):M β:=
 match as.toList,ts[0]? with
 |[y],some t=>(match sZ C.P t with
  |some e=>dZ C E y fun a=>(match a,kE C.P e with
   | .slice w p n,some z=>bif (Nat.beq w (C.P.cellsOf e)||p.isNone)&&Nat.beq z.length (C.P.cellsOf e)then M.wr p (fD n z) (vK E o K (.mY []))else fail
   |_,_=>fail)
  |none=>fail)
 |_,_=>fail
end
def apart (p:Option (Nat×Nat)) (i:Nat):Bool:=match p with|some (j,_)=> !Nat.beq i j|none=>true
def Dj (E:Env) (p:Option (Nat×Nat)):List Nat->M β->M β
 |[],K=>K
 |b::r,K=>match E.get b with
  | .v (.ptr (some (i,_)))=>M.ak (apart p i) (Dj E p r K)
  |_=>fail
def QA (C:aP) (E:Env) (bs:List Nat) (as:Array Operand) (X:M β):M β:=
 match bs with
 |[]=>X
 |b::r=>match as.toList with
  |y::_=>dZ C E y fun a=>(match a with| .slice _ p _=>Dj E p (b::r) X|_=>fail)
  |_=>fail
def TU (C:aP) (E:Env) (bs:List Nat) (a:Operand) (X:M β):M β:=
 match bs with
 |[]=>X
 |b::r=>match E.src C a with
  | .v (.ptr p)=>Dj E p (b::r) X
  |_=>fail
noncomputable def ep (C:aP) (pr ms:List Nat) (md:Md) (c:Zg) (o:Oper) (E:Env) (K:Env->M β):M β:=
 match o.op with
 | .move y| .assign y=>vK E o K (E.src C y)
 | .pick b y z=>Qv C E o K b y z
 | .alloc t=>Qa C E o K pr t
 | .box t y=>Th C E o K pr t y
 | .build t ps=>Qg C E o K t ps
 | .buildSlice t len ps=>Nr C E o K t len ps
 | .load t a=>JQ C E o K md t a
 | .store t a y=>bif o.dst.isNone then TU C E md.bs a (PS C E K md ms t a y)else fail
 | .nilCheck y=>NV C E o K y
 | .binOp op t y z _=>Tg C E o K op t y z
 | .unOp op _ y=>Tj C E o K op y
 | .convert s t y=>O7 C E o K s t y
 | .makeInterface t y=>PQ C E o K t y
 | .makeFunc f first cap=>Qy C E o K f first cap
 | .makeSlice t l c=>NG C E o K t l c
 | .slice t y lo hi none=>PY C E o K t y lo hi
 | .fieldAddr t y f=>If C E o K t y f
 | .field t y f=>P6 C E o K t y f
 | .indexAddr t y i=>N5 C E o K t y i
 | .index t y i=>Qb C E o K t y i
 | .range t y=>P9 C E o K t y
 | .next (.tmp t) true=>Qz E o K ms t
 | .typeAssert y _ t false=>Pj C E o K md t y
 | .extract (.tmp t) i=>OX E o K t i
 | .panic y=>PV C E md y
 | .call q=>match q.callee with
  | .value f=>Qk C E o K md c f q.args
  | .builtin .len=>Ti C E o K q.argTypes q.args
  | .builtin .append=>QA C E md.bs q.args (PH C E o K q.argTypes q.args)
  | .builtin .copy=>Qu C E o K q.argTypes q.args
  | .builtin .min=>LC C E o K false q.args
  | .builtin .max=>LC C E o K true q.args
  | .builtin .clear=>PN C E o K q.argTypes q.args
  |_=>fail
 |_=>fail
def vJ (C:aP) (E:Env) (x:Operand) (K:Nat->Nat->M β):M β:=match E.src C x with
 | .v (.ptr (some (i,p)))=>K i p
 |_=>fail
def tl (i p:Nat) (K:IntKind->Int->M β):M β:=M.au i p fun d=>match d with
 | .int k n=>K k n
 |_=>fail
def fV (i p:Nat) (k:IntKind) (n:Int) (K:M β):M β:=M.au i p fun d=>match d with
 | .int k' n'=>bif qb k k'&&(n==n')then K else fail
 |_=>fail
def fy:List (Oper×Md)->List Nat
 |[]=>[]
 |(o,_)::r=>match o.dst with|some d=>d::fy r|none=>fy r
def yr (r:Nat):List (Oper×Md)->List (Oper×Md)->Option (List (Oper×Md)×Oper×List (Oper×Md))
 |_,[]=>none
 |acc,(o,x)::rest=>match o.op with
  | .pick (.tmp t) _ _=>bif Nat.beq t r then some (acc.reverse,o,rest)else yr r ((o,x)::acc) rest
  |_=>yr r ((o,x)::acc) rest
def J9:List (Nat×Bool)->Nat×Bool->Bool
 |[],_=>false
 |(k,b)::r,g=>(Nat.beq k g.1&&(b==g.2))||J9 r g
def Ka (act:List (Nat×Bool)):Option (Nat×Bool)->Bool
 |none=>true
 |some g=>J9 act g
def yE (pr:List Nat) (dst:Nat->Option Nat) (j:Nat) (w:Bool) (r:Nat):List Nat->List (Oper×Md)->Bool
 |_,[]=>true
 |TS,(o,_)::rest=>
  (match o.op with
   | .store .. | .next .. | .range .. =>false
   | .alloc _| .box _ _=>(match o.dst with|some d=> !has pr d|none=>false)
   |_=>true)&&
  (match o.guard with
   |none=>false
   |some (j',w')=>(Nat.beq j' j&&(w'==w))||(match dst j' with|some d=>has TS d|none=>false))&&
  (match o.dst with
   |some d=> !Nat.beq d r&&yE pr dst j w r (d::TS) rest
   |none=>yE pr dst j w r TS rest)
noncomputable def pG (C:aP) (pr ms:List Nat) (c:Zg) (dst:Nat->Option Nat):Nat->List (Oper×Md)->List (Nat×Bool)->Env->(Env->M β)->M β
 |_,[],_,E,K=>K E
 |0,_::_,_,_,_=>fail
 |n+1,(o,x)::rest,act,E,K=>
  bif Ka act o.guard then ep C pr ms x c o E fun E'=>pG C pr ms c dst n rest act E' K
  else match o.guard with
   |none=>fail
   |some (j,w)=>match dst j with
    |none=>fail
    |some r=>match E.get r,yr r [] ((o,x)::rest)with
     | .v (.bool b),some (dB,pk,lK)=>match pk.op,pk.dst with
      | .pick _ y z,some t=>
       bif Ka act pk.guard&&yE pr dst j w r [] dB then
        M.join (fun st=>D.cons st fun d st=>D.bool d fun v=>D.nil st (pG C pr ms c dst n lK act ((E.del (fy dB)).put t (.v (.bool v))) K))
         fun jk=>
          let yes:M β:=pG C pr ms c dst n dB ((j,w)::act) (E.put r (.v (.bool w))) fun E1=>dZ C E1 (bif w then y else z) fun d=>jk [d]
          let no:M β:=dZ C ((E.del (fy dB)).put r (.v (.bool !w))) (bif w then z else y) fun d=>jk [d]
          bif w then(bif b then yes else no)else(bif b then no else yes)
       else fail
      |_,_=>fail
     |_,_=>fail
def uR:jI->jI->Bool
 | .pure,_|_,.pure=>false
 | .mm r,.sE q| .sE r,.mm q| .mm r,.mm q=>Nat.beq r q
 | .sE _,_|_,.sE _| .mm _,_|_,.mm _=>false
 | .ap bs,.lp b| .lp b,.ap bs=> !has bs b
 | .wr,_|_,.wr| .ap _,_|_,.ap _=>true
 | .call,.call=>true
 |_,_=>false
def Qo:jI->jI->Bool
 | .ap _,.lp _=>true
 |k,k'=>uR k k'
structure fg where
 bf:Nat
 k:jI
 dst:Option Nat
 lk:Nat
def A0 (o:Oper) (acc:List Nat):Nat:=o.after.toList.foldl (fun m e=>bif Region.binds .any e then m|||2^e.on|||acc.getD e.on 0 else m) 0
def nT (pr:List Nat) (ops:List Oper) (o:Oper):Nat:=
 let m:=o.op.operands.toList.foldl (fun m x=>match x with| .tmp t=>m|||2^t|_=>m) 0
 let m:=match o.guard with
  |some (j,_)=>(match ops[j]? with|some g=>(match g.dst with|some t=>m|||2^t|none=>m)|none=>m)
  |none=>m
 match o.op with
 | .load _ (.tmp a)=>(match mX pr ops 12 a with|some r=>m|||2^r|none=>m)
 | .store _ (.tmp a) _=>(match mX pr ops 12 a with|some r=>m|||2^r|none=>m)
 |_=>m
def Dh (m:Nat):Nat->List Oper->List Nat
 |_,[]=>[]
 |j,o::r=>match o.op with
  | .load _ (.tmp b)=>bif m.testBit j then Dh m (j+1) r else b::Dh m (j+1) r
  |_=>Dh m (j+1) r
def tV (b:Nat) (o:Oper):Bool:=match o.op with
 | .load _ (.tmp a)=>Nat.beq a b
 |_=>false
def EE (b:Nat):List Oper->Bool
 |[]=>true
 |o::r=>bif tV b o then(o::r).all (fun o=>match o.dst with|some d=> !Nat.beq d b|none=>true)else EE b r
def rB (pr:List Nat) (ops:List Oper) (k m:Nat):jI->jI
 | .ap _=> .ap ((Dh m 0 (ops.take k)).filter fun b=>EE b (ops.take k)&&(mX pr ops 12 b).isNone)
 |c=>c
def nU (P:Program) (pr:List Nat) (ops:List Oper):List Oper->List Nat->List fg
 |[],_=>[]
 |o::r,acc=>let b:=A0 o acc;⟨b,rB pr ops acc.length b (cls P pr ops o),o.dst,nT pr ops o⟩::nU P pr ops r (acc++[b])
def J0 (d:Option Nat) (m:Nat):Bool:=match d with|some t=>m.testBit t|none=>false
def QS (d e:Option Nat):Bool:=match d,e with|some t,some u=>Nat.beq t u|_,_=>false
def JU (i:Nat) (p:fg):List fg->Bool
 |[]=>true
 |q::r=>(q.bf.testBit i||(!Qo p.k q.k&& !J0 p.dst q.lk&& !J0 q.dst p.lk&& !QS p.dst q.dst))&&JU i p r
def zs:Nat->List fg->List Oper->Bool
 |_,[],_=>true
 |_,_::_,[]=>false
 |i,p::r,o::os=>Nat.blt p.bf (2^i)&&(match o.guard with|some (j,_)=>p.bf.testBit j|none=>true)&&JU i p r&&zs (i+1) r os
def pE (i bi:Nat) (f:jI->Bool):Nat->List fg->Bool
 |_,[]=>false
 |j,q::r=>(!Nat.beq i j&& !q.bf.testBit i&& !bi.testBit j&&f q.k)||pE i bi f (j+1) r
def zl:jI->Bool
 | .hp=>true
 | .lp _=>true
 |_=>false
def yu:jI->Bool
 | .pure=>true
 | .sE _=>true
 |_=>false
def uE (i bi:Nat):Nat->List fg->Bool
 |_,[]=>false
 |j,q::r=>(!Nat.beq i j&& !q.bf.testBit i&& !bi.testBit j&& !(Nat.blt j i&&yu q.k))||uE i bi (j+1) r
def LA (mp:Nat->Bool) (o:Oper):Bool:=match o.op with
 | .call q=>(match q.callee with
  | .value (.func f)=>mp f
  |_=>false)
 |_=>false
def flags (mp:Nat->Bool) (all:List fg):Nat->List fg->List Oper->List (Oper×Md)
 |_,[],_=>[]
 |_,_,[]=>[]
 |i,p::r,o::os=>
  (o,.d p.k (bif pE i p.bf (fun _=>true) 0 all then(bif LA mp o&& !uE i p.bf 0 all then 0 else(match p.k with| .call=>(bif pE i p.bf zl 0 all then 2 else 1)|_=>1))else 0))::flags mp all (i+1) r os
noncomputable def LH (C:aP) (pr:List Nat) (c:Zg) (ops:Array Oper) (draw:Bool) (E:Env) (K:Env->M β):M β:=
 let l:=ops.toList
 let ms:=tW pr l l
 let dst (j:Nat):Option Nat:=match l[j]? with|some o=>o.dst|none=>none
 bif draw then
  let is:=nU C.P pr l l []
  bif zs 0 is l then pG C pr ms c dst l.length (flags C.mp is 0 is l) [] E K else fail
 else pG C pr ms c dst l.length (l.map fun o=>(o,.s)) [] E K
inductive JS where
 |v (x:Sh)
 |l (x:List B)
 |t
inductive ng where
 |z
 |n (a b:ng)
 |j (J:List (Nat×JS)) (a b:ng)
def ng.a:ng->ng| .n a _=>a| .j _ a _=>a| .z=> .z
def ng.b:ng->ng| .n _ b=>b| .j _ _ b=>b| .z=> .z
def oC (E0 E:Env):List (Nat×JS)->(List DV->M β)->M β
 |[],K=>K []
 |(t,x)::r,K=>match x,E.get t with
  | .v _,.v d=>oC E0 E r fun ds=>K (d::ds)
  | .l _,.loc v _ cs=>(match E0.get t with| .loc v0 _ _=>bif Nat.beq v0 v then oC E0 E r fun ds=>K (.agg cs::ds)else fail|_=>fail)
  | .t,.it v _ p=>(match E0.get t with| .it v0 _ _=>bif Nat.beq v0 v then oC E0 E r fun ds=>K (.nat p::ds)else fail|_=>fail)
  |_,_=>fail
def oP (E:Env):List (Nat×JS)->List DV->Env->(Env->M β)->M β
 |[],st,E1,K=>D.nil st (K E1)
 |(t,x)::r,st,E1,K=>D.cons st fun d rest=>match x,E.get t with
  | .v x,_=>uU x d fun d=>oP E r rest (E1.put t (.v d)) K
  | .l x,.loc v n _=>D.agg d fun cs=>lx x cs fun cs=>oP E r rest (E1.put t (.loc v n cs)) K
  | .t,.it v s _=>D.nat d fun p=>oP E r rest (E1.put t (.it v s p)) K
  |_,_=>fail
def xG (fM:List Nat):List (Nat×JS)->Bool
 |[]=>true
 |(t,_)::r=>has fM t&&xG fM r
noncomputable def SZ (E:Env) (fM:List Nat) (J:List (Nat×JS)) (K:Env->M β) (g:((Env->M β)->M β)):M β:=
 bif xG fM J then M.join (fun st=>oP E J st (E.del fM) K) fun jk=>g fun E1=>oC E E1 J jk else fail
noncomputable def exec (C:aP) (pr:List Nat) (c:Zg) (n:Nat):Code->ng->(Env->M β)->(Nat->Env->M β)->(Env->M β)->Env->M β
 | .skip,_,kn,_,_,E=>kn E
 | .seq a b,A,kn,kx,kr,E=>exec C pr c n a A.a (fun E'=>exec C pr c n b A.b kn kx kr E') kx kr E
 | .region _ ops d,_,kn,_,_,E=>LH C pr c ops d E kn
 | .cond x a b,A,kn,kx,kr,E=>QI C E x fun v=>
   match A with
   | .j J A1 A2=>SZ E (jT pr a++jT pr b) J kn fun jk=>bif v then exec C pr c n a A1 jk kx kr E else exec C pr c n b A2 jk kx kr E
   |A=>bif v then exec C pr c n a A.a kn kx kr E else exec C pr c n b A.b kn kx kr E
 | .block id body,A,kn,kx,kr,E=>
   match A with
   | .j J A1 _=>SZ E (jT pr body) J kn fun jk=>exec C pr c n body A1 jk (fun i E1=>bif Nat.beq i id then jk E1 else kx i E1) kr E
   |A=>exec C pr c n body A.a kn (fun i E1=>bif Nat.beq i id then kn E1 else kx i E1) kr E
 | .loop body,A,_,kx,kr,E=>
   match A with
   | .j J A1 _=>bif xG (jT pr body) J then oC E E J fun st=>M.loop (fun rec st=>oP E J st (E.del (jT pr body)) fun E1=>exec C pr c n body A1 (fun E2=>oC E E2 J rec) kx kr E1) n st else fail
   |_=>fail
 | .exit id,_,_,kx,_,E=>kx id E
 | .ret,_,_,_,kr,E=>kr E
 |_,_,_,_,_,_=>fail
def okO (ok:Nat->Bool):List Oper->Bool
 |[]=>true
 |o::r=>(match o.dst with|some d=>ok d|none=>true)&&okO ok r
def tX (ok:Nat->Bool):Code->Bool
 | .region _ ops _=>okO ok ops.toList
 | .seq a b| .cond _ a b=>tX ok a&&tX ok b
 | .block _ b| .loop b| .scope b=>tX ok b
 |_=>true
def oO (n d:Nat):Bool:=Nat.blt d n
structure FA where
 pr:List Nat
 Dg:ng
 jc:Bool
def ry (C:aP) (E:Env):List ResultVar->(List DV->M β)->M β
 |[],K=>K []
 | .tmp t::r,K=>dZ C E (.tmp t) fun d=>ry C E r fun ds=>K (d::ds)
 | .cell a t::r,K=>match E.get a with
  | .loc _ n cs=>nY C.P t (bif ZL C.P t then(bif Nat.beq n (C.P.cellsOf t)then ry C E r fun ds=>K (.agg cs::ds)else fail)else D.nth cs 0 fun d=>ry C E r fun ds=>K (d::ds))
  |_=>fail
def iB:Nat->List DV->List (Nat×dx)
 |_,[]=>[]
 |t,d::r=>(t,.v d)::iB (t+1) r
noncomputable def aQ (C:aP) (A:FA) (fn:Func) (c:Zg) (n:Nat) (args:List DV):M (List DV):=
 match fn.body with
 |some code=>bif tX (oO fn.ntmps) code&&Nat.ble (fn.params.size+fn.nfree) fn.ntmps then wJ (fn.params.toList.map (kq C.P)++List.replicate fn.nfree (.b .ptr)) args fun ds=>
   bif A.jc then M.base fun b=>
    let kr (E:Env):M (List DV):=ry C E fn.results.toList fun ds=>M.gR b ds
    exec C A.pr c n code A.Dg kr (fun _ _=>fail) kr ⟨0,iB 0 ds⟩
   else
    let kr (E:Env):M (List DV):=ry C E fn.results.toList fun ds=>M.ret ds
    exec C A.pr c n code A.Dg kr (fun _ _=>fail) kr ⟨0,iB 0 ds⟩
   else fail
 |none=>fail
abbrev Za:=Nat->Zg->Nat->List DV->M (List DV)
def run (Bd:Za):Nat->Zg
 |0,_,_=>fail
 |n+1,g,args=>Bd g (run Bd n) n args
end Go.Gv
