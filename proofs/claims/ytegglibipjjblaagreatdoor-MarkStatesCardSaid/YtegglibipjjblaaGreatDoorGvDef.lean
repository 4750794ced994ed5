/- A deterministic heap machine beside the model: its values, its heap, what it makes of a function's code. -/
import Derived.Orders
import Derived.KernelRfl
theorem ah:type_of% @decide_eq_true:=@decide_eq_true
theorem ao:type_of% @decide_eq_false:=@decide_eq_false
theorem ay:type_of% @if_neg:=@if_neg
theorem aA:type_of% @Nat.le_refl:=@Nat.le_refl
theorem aF:type_of% @if_pos:=@if_pos
theorem aH:type_of% @Bool.and_eq_true:=@Bool.and_eq_true
theorem aO:type_of% @List.forall_mem_cons:=@List.forall_mem_cons
theorem aY:type_of% @Int.toNat_natCast:=@Int.toNat_natCast
theorem aZ:type_of% @List.length_append:=@List.length_append
theorem ba:type_of% @List.getElem?_eq_getElem:=@List.getElem?_eq_getElem
theorem bg:type_of% @Bool.not_true:=@Bool.not_true
theorem bu:type_of% @Bool.not_false:=@Bool.not_false
theorem bx:type_of% @decide_eq_true_iff:=@decide_eq_true_iff
theorem bH:type_of% @Nat.zero_le:=@Nat.zero_le
theorem bM:type_of% @List.getD_eq_getElem?_getD:=@List.getD_eq_getElem?_getD
theorem bP:type_of% @List.mem_singleton:=@List.mem_singleton
theorem bY:type_of% @Nat.eq_of_beq_eq_true:=@Nat.eq_of_beq_eq_true
theorem cd:type_of% @List.mem_cons:=@List.mem_cons
theorem cg:type_of% @beq_eq_false_iff_ne:=@beq_eq_false_iff_ne
theorem cn:type_of% @List.length_take:=@List.length_take
theorem cw:type_of% @List.getElem?_eq_some_iff:=@List.getElem?_eq_some_iff
theorem cF:type_of% @List.take_of_length_le:=@List.take_of_length_le
theorem cI:type_of% @Bool.true_and:=@Bool.true_and
theorem cQ:type_of% @Option.some.injEq:=@Option.some.injEq
theorem de:type_of% @List.mem_append:=@List.mem_append
theorem dw:type_of% @List.drop_zero:=@List.drop_zero
theorem dx:type_of% @Nat.mul_one:=@Nat.mul_one
theorem dy:type_of% @Nat.zero_add:=@Nat.zero_add
theorem dB:type_of% @List.append_assoc:=@List.append_assoc
theorem dC:type_of% @Nat.add_zero:=@Nat.add_zero
theorem dD:type_of% @List.map_append:=@List.map_append
theorem dE:type_of% @List.mem_map:=@List.mem_map
theorem dL:type_of% @List.getElem?_eq_none:=@List.getElem?_eq_none
theorem dZ:type_of% @List.append_nil:=@List.append_nil
theorem ec:type_of% @List.getElem?_set_ne:=@List.getElem?_set_ne
theorem ee:type_of% @List.length_cons:=@List.length_cons
theorem ej:type_of% @List.length_drop:=@List.length_drop
theorem eE:type_of% @Bool.false_and:=@Bool.false_and
theorem eJ:type_of% @Nat.lt_or_ge:=@Nat.lt_or_ge
theorem eZ:type_of% @Nat.le_trans:=@Nat.le_trans
theorem fu:type_of% @List.nil_append:=@List.nil_append
theorem fH:type_of% @beq_self_eq_true:=@beq_self_eq_true
theorem fV:type_of% @List.getElem?_set_self:=@List.getElem?_set_self
theorem gm:type_of% @List.all_eq_true:=@List.all_eq_true
theorem gA:type_of% @Array.getElem?_toList:=@Array.getElem?_toList
theorem gB:type_of% @List.getElem?_map:=@List.getElem?_map
theorem gC:type_of% @List.getElem_mem:=@List.getElem_mem
theorem gD:type_of% @Nat.ble_eq_true_of_le:=@Nat.ble_eq_true_of_le
theorem gJ:type_of% @List.getElem?_cons_zero:=@List.getElem?_cons_zero
theorem gK:type_of% @List.map_cons:=@List.map_cons
theorem gN:type_of% @List.getElem?_append_right:=@List.getElem?_append_right
theorem gO:type_of% @List.nodup_append:=@List.nodup_append
theorem gZ:type_of% @Bool.not_eq_true':=@Bool.not_eq_true'
theorem hJ:type_of% @List.drop_eq_getElem_cons:=@List.drop_eq_getElem_cons
theorem iA:type_of% @if_true:=@if_true
theorem iB:type_of% @or_false:=@or_false
theorem iM:type_of% @List.drop_drop:=@List.drop_drop
theorem iN:type_of% @List.getElem?_append_left:=@List.getElem?_append_left
theorem iO:type_of% @if_false:=@if_false
theorem jd:type_of% @List.mem_range:=@List.mem_range
theorem js:type_of% @Array.length_toList:=@Array.length_toList
theorem jt:type_of% @Bool.or_eq_true:=@Bool.or_eq_true
theorem ju:type_of% @List.length_set:=@List.length_set
theorem jK:type_of% @Nat.min_eq_left:=@Nat.min_eq_left
theorem jL:type_of% @decide_eq_true_eq:=@decide_eq_true_eq
theorem j3:type_of% @List.cons_append:=@List.cons_append
theorem j4:type_of% @List.not_mem_nil:=@List.not_mem_nil
theorem j5:type_of% @Nat.lt_of_lt_of_le:=@Nat.lt_of_lt_of_le
theorem j6:type_of% @decide_eq_false_iff_not:=@decide_eq_false_iff_not
theorem kJ:type_of% @Bool.or_eq_false_iff:=@Bool.or_eq_false_iff
theorem kK:type_of% @List.mem_of_getElem?:=@List.mem_of_getElem?
theorem kL:type_of% @List.take_succ_eq_append_getElem:=@List.take_succ_eq_append_getElem
theorem lA:type_of% @Nat.add_assoc:=@Nat.add_assoc
theorem lB:type_of% @Nat.blt_eq:=@Nat.blt_eq
theorem lC:type_of% @Nat.le_of_ble_eq_true:=@Nat.le_of_ble_eq_true
theorem lD:type_of% @Option.map_some:=@Option.map_some
theorem lT:type_of% @Array.getD_eq_getD_getElem?:=@Array.getD_eq_getD_getElem?
theorem lU:type_of% @List.getElem?_cons_succ:=@List.getElem?_cons_succ
theorem lV:type_of% @List.length_map:=@List.length_map
theorem lW:type_of% @beq_iff_eq:=@beq_iff_eq
theorem mN:type_of% @Bool.eq_iff_iff:=@Bool.eq_iff_iff
theorem mO:type_of% @List.drop_eq_nil_of_le:=@List.drop_eq_nil_of_le
theorem mP:type_of% @List.ext_getElem?:=@List.ext_getElem?
theorem mQ:type_of% @List.flatten_cons:=@List.flatten_cons
theorem mR:type_of% @List.getElem?_take:=@List.getElem?_take
theorem mS:type_of% @Nat.pow_succ:=@Nat.pow_succ
theorem mT:type_of% @Nat.two_pow_pos:=@Nat.two_pow_pos
theorem mU:type_of% @of_decide_eq_true:=@of_decide_eq_true
theorem nQ:type_of% @Bool.false_eq_true:=@Bool.false_eq_true
theorem nR:type_of% @List.getElem?_drop:=@List.getElem?_drop
theorem nS:type_of% @List.getElem?_range:=@List.getElem?_range
theorem nT:type_of% @List.mem_cons_self:=@List.mem_cons_self
theorem nU:type_of% @List.take_append_drop:=@List.take_append_drop
theorem nV:type_of% @Nat.zero_mul:=@Nat.zero_mul
theorem oO:type_of% @List.length_replicate:=@List.length_replicate
theorem oP:type_of% @List.mem_cons_of_mem:=@List.mem_cons_of_mem
theorem oQ:type_of% @List.take_length:=@List.take_length
theorem pQ:type_of% @Bool.false_or:=@Bool.false_or
theorem pR:type_of% @List.drop_left:=@List.drop_left
theorem pS:type_of% @Nat.add_mul:=@Nat.add_mul
theorem pU:type_of% @Nat.pow_le_pow_right:=@Nat.pow_le_pow_right
theorem pV:type_of% @Nat.sub_self:=@Nat.sub_self
theorem qR:type_of% @List.all_append:=@List.all_append
theorem qS:type_of% @List.nodup_cons:=@List.nodup_cons
theorem qT:type_of% @Nat.add_comm:=@Nat.add_comm
theorem qU:type_of% @Nat.mul_comm:=@Nat.mul_comm
theorem rY:type_of% @Bool.and_false:=@Bool.and_false
theorem rZ:type_of% @List.all_cons:=@List.all_cons
theorem r8:type_of% @List.length_eq_zero_iff:=@List.length_eq_zero_iff
theorem r9:type_of% @List.mem_of_mem_drop:=@List.mem_of_mem_drop
theorem sa:type_of% @List.mem_of_mem_take:=@List.mem_of_mem_take
theorem sb:type_of% @List.replicate_succ:=@List.replicate_succ
theorem sc:type_of% @Nat.not_lt_zero:=@Nat.not_lt_zero
theorem se:type_of% @Nat.sub_zero:=@Nat.sub_zero
theorem sf:type_of% @Nat.succ_pos:=@Nat.succ_pos
theorem sg:type_of% @Option.getD_some:=@Option.getD_some
theorem tC:type_of% @Bool.true_or:=@Bool.true_or
theorem tD:type_of% @List.drop_of_length_le:=@List.drop_of_length_le
theorem tE:type_of% @List.length_singleton:=@List.length_singleton
theorem tF:type_of% @List.range_succ:=@List.range_succ
theorem tG:type_of% @Nat.beq_refl:=@Nat.beq_refl
theorem tH:type_of% @Nat.mul_le_mul_right:=@Nat.mul_le_mul_right
theorem tI:type_of% @Nat.not_lt:=@Nat.not_lt
theorem vb:type_of% @List.flatten_append:=@List.flatten_append
theorem vd:type_of% @List.map_congr_left:=@List.map_congr_left
theorem ve:type_of% @List.mem_append_left:=@List.mem_append_left
theorem vg:type_of% @List.take_left:=@List.take_left
theorem vh:type_of% @Nat.testBit_or:=@Nat.testBit_or
theorem vi:type_of% @Option.some.inj:=@Option.some.inj
theorem vj:type_of% @of_decide_eq_false:=@of_decide_eq_false
theorem wY:type_of% @Array.getElem?_setIfInBounds_ne:=@Array.getElem?_setIfInBounds_ne
theorem wZ:type_of% @Bool.and_true:=@Bool.and_true
theorem w4:type_of% @List.eq_nil_of_length_eq_zero:=@List.eq_nil_of_length_eq_zero
theorem w8:type_of% @List.filter_append:=@List.filter_append
theorem w9:type_of% @List.getElem?_of_mem:=@List.getElem?_of_mem
theorem xa:type_of% @List.length_nil:=@List.length_nil
theorem xb:type_of% @List.map_map:=@List.map_map
theorem xc:type_of% @List.mem_filter:=@List.mem_filter
theorem xd:type_of% @Nat.eq_zero_or_pos:=@Nat.eq_zero_or_pos
theorem xe:type_of% @Nat.lt_of_le_of_lt:=@Nat.lt_of_le_of_lt
theorem xf:type_of% @Prod.mk.injEq:=@Prod.mk.injEq
theorem yX:type_of% @Array.getElem?_setIfInBounds_self_of_lt:=@Array.getElem?_setIfInBounds_self_of_lt
theorem yY:type_of% @Bool.or_false:=@Bool.or_false
theorem yZ:type_of% @Int.le_refl:=@Int.le_refl
theorem y6:type_of% @List.all_eq_false:=@List.all_eq_false
theorem y7:type_of% @List.cons.inj:=@List.cons.inj
theorem y8:type_of% @List.foldl_cons:=@List.foldl_cons
theorem y9:type_of% @List.getElem?_replicate:=@List.getElem?_replicate
theorem zc:type_of% @List.map_set:=@List.map_set
theorem zd:type_of% @List.mem_append_right:=@List.mem_append_right
theorem ze:type_of% @List.take_append_of_le_length:=@List.take_append_of_le_length
theorem zf:type_of% @Nat.mod_two_eq_zero_or_one:=@Nat.mod_two_eq_zero_or_one
theorem zg:type_of% @Nat.ne_of_beq_eq_false:=@Nat.ne_of_beq_eq_false
theorem zh:type_of% @Nat.pow_zero:=@Nat.pow_zero
theorem zi:type_of% @Nat.succ_mul:=@Nat.succ_mul
theorem Bp:type_of% @Bool.cond_false_right:=@Bool.cond_false_right
theorem Bq:type_of% @List.getElem?_toArray:=@List.getElem?_toArray
theorem Br:type_of% @List.getElem_of_mem:=@List.getElem_of_mem
theorem Bs:type_of% @List.range'_succ:=@List.range'_succ
theorem Bt:type_of% @List.take_add:=@List.take_add
theorem Bu:type_of% @List.take_take:=@List.take_take
theorem Bv:type_of% @List.take_zero:=@List.take_zero
theorem Bw:type_of% @Nat.div_le_self:=@Nat.div_le_self
theorem Bx:type_of% @Nat.mod_eq_of_lt:=@Nat.mod_eq_of_lt
theorem By:type_of% @Nat.xor_lt_two_pow:=@Nat.xor_lt_two_pow
theorem Eo:type_of% @Array.ext_getElem?:=@Array.ext_getElem?
theorem Ep:type_of% @Array.getElem?_append_left:=@Array.getElem?_append_left
theorem Er:type_of% @Array.getElem?_eq_getElem:=@Array.getElem?_eq_getElem
theorem Es:type_of% @BitVec.toNat_ofInt:=@BitVec.toNat_ofInt
theorem Et:type_of% @List.drop_append_of_le_length:=@List.drop_append_of_le_length
theorem Eu:type_of% @List.length_range:=@List.length_range
theorem Ev:type_of% @List.range_eq_range':=@List.range_eq_range'
theorem Ew:type_of% @Nat.eq_of_testBit_eq:=@Nat.eq_of_testBit_eq
theorem Ey:type_of% @Nat.or_lt_two_pow:=@Nat.or_lt_two_pow
theorem Ez:type_of% @Nat.pow_lt_pow_right:=@Nat.pow_lt_pow_right
theorem EA:type_of% @Option.isSome_none:=@Option.isSome_none
theorem Kx:type_of% @List.extract_eq_take_drop:=@List.extract_eq_take_drop
theorem Ky:type_of% @List.filter_eq_nil_iff:=@List.filter_eq_nil_iff
theorem Kz:type_of% @List.length_eq_one_iff:=@List.length_eq_one_iff
theorem KA:type_of% @Nat.div_div_eq_div_mul:=@Nat.div_div_eq_div_mul
theorem KB:type_of% @Nat.testBit_lt_two_pow:=@Nat.testBit_lt_two_pow
namespace Go.Gv
inductive DV where
 |bool (b:Bool)
 |int (k:IntKind) (n:Int)
 |str (s:List UInt8)
 |ptr (a:Option (Nat×Nat))
 |slice (sz:Nat) (a:Option (Nat×Nat)) (len:Nat)
 |agg (cs:List DV)
 |func (g:Nat) (first cap:List DV)
 |nilFunc
 |iface (t:Nat) (v:DV)
 |nilIface
 |nat (n:Nat)
structure bn where
 jA:Bool
 cells:List DV
abbrev St:=List (Option bn)
inductive Out (β:Type) where
 |val (b:β)
 |cy
abbrev M (β:Type):=St->Option (Out β×St)
abbrev Zg:=Nat->List DV->M (List DV)
variable {β:Type}
def fail:M β:=fun _=>none
abbrev bs (l:List UInt8):List UInt8:=l
def St.cells (s:St) (i:Nat):Option (List DV):=
 match s[i]? with
 |some (some b)=>some b.cells
 |_=>none
def St.gy (s:St) (i:Nat):Option (List DV):=
 match s[i]? with
 |some (some ⟨false,cs⟩)=>some cs
 |_=>none
def ov:List DV->List DV->List DV
 |_::cs,d::ds=>d::ov cs ds
 |cs,[]=>cs
 |[],_=>[]
def bN:List DV->Nat->List DV->List DV
 |cs,0,ds=>ov cs ds
 |c::cs,k+1,ds=>c::bN cs k ds
 |[],_+1,_=>[]
def M.nn (a:Option (Nat×Nat)) (K:Nat->Nat->M β):M β:=
 match a with
 |some (i,o)=>K i o
 |none=>fail
def M.load (i o n:Nat) (K:List DV->M β):M β:=fun s=>
 match s.cells i with
 |some cs=>bif Nat.ble (o+n) cs.length then K ((cs.drop o).take n) s else none
 |none=>none
def M.ar (i o:Nat) (K:DV->M β):M β:=fun s=>
 match s.cells i with
 |some cs=>match cs[o]? with
  |some d=>K d s
  |none=>none
 |none=>none
def M.store (i o:Nat) (ds:List DV) (K:M β):M β:=fun s=>
 match s.gy i with
 |some cs=>bif Nat.ble (o+ds.length) cs.length then K (s.set i (some ⟨false,bN cs o ds⟩))else none
 |none=>none
def M.new (cells:List DV) (K:Nat->M β):M β:=fun s=>K s.length (s++[some ⟨false,cells⟩])
def M.rd (a:Option (Nat×Nat)) (n:Nat) (K:List DV->M β):M β:=
 match a with
 |some (i,o)=>M.load i o n K
 |none=>bif Nat.beq n 0 then K []else fail
def M.wr (a:Option (Nat×Nat)) (ds:List DV) (K:M β):M β:=
 match a with
 |some (i,o)=>M.store i o ds K
 |none=>bif Nat.beq ds.length 0 then K else fail
def M.app (sz:Nat) (a:Option (Nat×Nat)) (len:Nat) (ds:List DV) (m lim:Nat) (K:Option (Nat×Nat)->M β):M β:=fun s=>
 bif Nat.beq m 0 then K a s else
 bif Nat.ble (len+m) lim then
  match a with
  |none=>bif Nat.beq len 0 then K (some (s.length,0)) (s++[some ⟨false,ds⟩])else none
  |some (i,o)=>match s.gy i with
   |some cs=>bif Nat.ble (o+len*sz) cs.length then K (some (s.length,0)) (s.set i none++[some ⟨false,(cs.drop o).take (len*sz)++ds⟩])else none
   |none=>none
 else none
def M.ak (b:Bool) (K:M β):M β:=bif b then K else fail
def M.call {α:Type} (m:M α) (K:α->M β):M β:=fun s=>
 match m s with
 |some (.val ds,s')=>K ds s'
 |some (.cy,s')=>some (.cy,s')
 |none=>none
def St.Pj (s s':St):Prop:=∃r,s'=s++r
open Classical in
noncomputable def M.ew {α:Type} (m:M α) (K:α->M β):M β:=fun s=>
 match m s with
 |some (.val ds,s')=>if St.Pj s s' then K ds s' else none
 |_=>none
def M.ig {α:Type} (m:M α) (K:α->M β):M β:=fun s=>
 match m s with
 |some (.val ds,s')=>K ds s'
 |_=>none
def M.nc (m:M (List DV)) (H:Bool->M β):M β:=fun s=>
 match m s with
 |some (.val _,s')=>H false s'
 |some (.cy,s')=>H true s'
 |none=>none
open Classical in
noncomputable def M.gx {α:Type} (i:Nat) (m:M α):M α:=fun s=>
 match m s with
 |some (.val ds,s')=>if s'[i]? =s[i]? then some (.val ds,s')else none
 |r=>r
def M.cy:M β:=fun s=>some (.cy,s)
def M.base (f:Nat->M β):M β:=fun s=>f s.length s
def ZV (b:Nat) (s:St):St:=s.take b++(s.drop b).map (fun x=>x.map fun k=> { k with jA:=true })
def M.ret (ds:β):M β:=fun s=>some (.val ds,s)
def M.lq (b:Nat) (ds:β):M β:=fun s=>some (.val ds,ZV b s)
theorem ZxU (f:List DV->M β) (g:(List DV->M β)->M β): ∃x:M β,∀f' g',f'=f->g'=g->x=g' f':=⟨g f,fun _ _ e1 e2=>by rw[e1,e2]⟩
noncomputable def M.join (f:List DV->M β) (g:(List DV->M β)->M β):M β:=Classical.choose (ZxU f g)
theorem M.J2 (f:List DV->M β) (g:(List DV->M β)->M β):M.join f g=g f:=Classical.choose_spec (ZxU f g) f g rfl rfl
def M.loop (F:(List DV->M β)->List DV->M β):Nat->List DV->M β
 |0,_=>fail
 |n+1,st=>F (M.loop F n) st
def D.bool (d:DV) (K:Bool->M β):M β:=match d with| .bool b=>K b|_=>fail
def pJ:IntKind->IntKind->Bool
 | .i8,.i8| .i16,.i16| .i32,.i32| .i64,.i64| .u8,.u8| .u16,.u16| .u32,.u32| .u64,.u64=>true
 |_,_=>false
def D.int (k:IntKind) (d:DV) (K:Int->M β):M β:=match d with| .int k' n=>bif pJ k' k then K n else fail|_=>fail
def D.str (d:DV) (K:List UInt8->M β):M β:=match d with| .str s=>K s|_=>fail
def D.ptr (d:DV) (K:Option (Nat×Nat)->M β):M β:=match d with| .ptr a=>K a|_=>fail
def D.slice (sz:Nat) (d:DV) (K:Option (Nat×Nat)->Nat->M β):M β:=
 match d with| .slice z a n=>bif Nat.beq z sz||a.isNone then K a n else fail|_=>fail
def D.func (d:DV) (K:Nat->List DV->List DV->M β):M β:=match d with| .func g f c=>K g f c|_=>fail
def D.agg (d:DV) (K:List DV->M β):M β:=match d with| .agg cs=>K cs|_=>fail
def D.nat (d:DV) (K:Nat->M β):M β:=match d with| .nat n=>K n|_=>fail
def D.cons (cs:List DV) (K:DV->List DV->M β):M β:=match cs with|d::r=>K d r|[]=>fail
def D.nil (cs:List DV) (K:M β):M β:=match cs with|[]=>K|_=>fail
def D.dQ (n:Nat) (cs:List DV) (K:List DV->List DV->M β):M β:=bif Nat.ble n cs.length then K (cs.take n) (cs.drop n)else fail
def D.nth (cs:List DV) (i:Nat) (K:DV->M β):M β:=match cs[i]? with|some d=>K d|none=>fail
def D.len (ds:List DV) (n:Nat) (K:M β):M β:=bif Nat.beq ds.length n then K else fail
def D.qa (pn:M β) (d:DV) (t:Nat) (K:DV->M β):M β:=match d with| .iface t' v=>bif Nat.beq t' t then K v else pn| .nilIface=>pn|_=>fail
def oX:List DV->Option (List UInt8)
 |[]=>some []
 | .int .u8 n::r=>(oX r).map (UInt8.ofNat n.toNat:: ·)
 |_=>none
def D.cO (cs:List DV) (K:List UInt8->M β):M β:=match oX cs with|some l=>K l|none=>fail
def J.b (st:List DV) (K:Bool->List DV->M β):M β:=D.cons st fun d r=>D.bool d fun x=>K x r
def J.i (k:IntKind) (st:List DV) (K:Int->List DV->M β):M β:=D.cons st fun d r=>D.int k d fun x=>K x r
def J.s (st:List DV) (K:List UInt8->List DV->M β):M β:=D.cons st fun d r=>D.str d fun x=>K x r
def J.p (st:List DV) (K:Option (Nat×Nat)->List DV->M β):M β:=D.cons st fun d r=>D.ptr d fun x=>K x r
def J.l (sz:Nat) (st:List DV) (K:Option (Nat×Nat)->Nat->List DV->M β):M β:=D.cons st fun d r=>D.slice sz d fun a n=>K a n r
def J.f (st:List DV) (K:Nat->List DV->List DV->List DV->M β):M β:=D.cons st fun d r=>D.func d fun g f c=>K g f c r
def J.a (st:List DV) (K:List DV->List DV->M β):M β:=D.cons st fun d r=>D.agg d fun x=>K x r
def J.n (st:List DV) (K:Nat->List DV->M β):M β:=D.cons st fun d r=>D.nat d fun x=>K x r
def J.d (st:List DV) (K:DV->List DV->M β):M β:=D.cons st K
inductive B where
 |bool|int (k:IntKind)|str|ptr|slice (sz:Nat)|func|any|dQ (n:Nat)
inductive Sh where
 |b (x:B)
 |agg (l:List B)
def d1 (x:B) (d:DV) (K:DV->M β):M β:=
 match x with
 | .bool=>D.bool d fun b=>K (.bool b)
 | .int k=>D.int k d fun n=>K (.int k n)
 | .str=>D.str d fun s=>K (.str s)
 | .ptr=>D.ptr d fun a=>K (.ptr a)
 | .slice sz=>D.slice sz d fun a n=>K (.slice sz a n)
 | .func=>D.func d fun g f c=>K (.func g f c)
 | .any=>K d
 | .dQ _=>fail
def kO:List B->List DV->(List DV->M β)->M β
 |[],cs,K=>D.nil cs (K [])
 |[.dQ n],cs,K=>D.len cs n (K cs)
 | .dQ n::r,cs,K=>D.dQ n cs fun xs rest=>kO r rest fun ds=>K (xs++ds)
 |x::r,cs,K=>D.cons cs fun d rest=>d1 x d fun d'=>kO r rest fun ds=>K (d'::ds)
def ug (x:Sh) (d:DV) (K:DV->M β):M β:=
 match x with
 | .b x=>d1 x d K
 | .agg l=>D.agg d fun cs=>kO l cs fun ds=>K (.agg ds)
def vR:List Sh->List DV->(List DV->M β)->M β
 |[],cs,K=>D.nil cs (K [])
 |x::r,cs,K=>D.cons cs fun d rest=>ug x d fun d'=>vR r rest fun ds=>K (d'::ds)
def glue:List B->List B
 |[]=>[]
 | .dQ n::r=>match glue r with
  | .dQ m::r'=> .dQ (n+m)::r'
  |r'=> .dQ n::r'
 |x::r=>x::glue r
def IP (P:Program):Nat->TypeId->List B
 |0,_=>[.any]
 |n+1,t=>
  match P.underlying t with
  |some .bool=>[.bool]
  |some (.int k)=>[.int k]
  |some .string=>[.str]
  |some (.pointer _)=>[.ptr]
  |some (.slice e)=>[.slice (P.cellsOf e)]
  |some (.func _ _ _)=>[.func]
  |some (.array m e)=>bif Nat.ble (m*P.cellsOf e) 8 then(List.replicate m (IP P n e)).flatten else[.dQ (m*P.cellsOf e)]
  |some (.struct fs)=>glue (fs.toList.flatMap fun f=>IP P n f.type)
  |_=>[.any]
def ZI (P:Program) (t:TypeId):Bool:=
 match P.underlying t with
 |some (.struct _)|some (.array _ _)=>true
 |_=>false
def jZ (P:Program) (t:TypeId):Sh:=
 bif ZI P t then .agg (IP P 20 t)else
 match IP P 1 t with
 |[x]=> .b x
 |_=> .b .any
def UG (P:Program) (t:TypeId):Bool×List Sh:=
 match P.underlying t with
 |some (.tuple ts)=>(true,ts.toList.map (jZ P))
 |_=>(false,[jZ P t])
structure aM where
 P:Program
 fn:Nat->Nat
 cov:Nat->Bool
 ty:Nat->Nat
 gl:Nat->Nat
 vU:Nat->Bool
 xQ:Nat->List B
 mp:Nat->Bool
def wQ:Value->Option DV
 | .bool b=>some (.bool b)
 | .int k n=>some (.int k n)
 | .string s=>some (.str s.data.toList)
 | .pointer none=>some (.ptr none)
 | .slice none 0 0=>some (.slice 0 none 0)
 | .nilFunc=>some .nilFunc
 | .nilIface=>some .nilIface
 |_=>none
def Ct:List Value->Option (List DV)
 |[]=>some []
 |v::r=>match wQ v,Ct r with
  |some d,some ds=>some (d::ds)
  |_,_=>none
inductive df where
 |u
 |un
 |v (d:DV)
 |mL (ds:List DV)
 |loc (v n:Nat) (cs:List DV)
 |pl (r v o:Nat)
 |it (v:Nat) (s:List UInt8) (pos:Nat)
structure Env where
 aX:Nat
 l:List (Nat×df)
def look:List (Nat×df)->Nat->df
 |[],_=> .u
 |(k,e)::r,t=>bif Nat.beq k t then e else look r t
def Env.get (E:Env) (t:Nat):df:=look E.l t
def Env.put (E:Env) (t:Nat) (e:df):Env:=⟨E.aX,(t,e)::E.l⟩
def Env.dJ (E:Env) (t:Option Nat) (e:df):Env:=match t with|some t=>E.put t e|none=>E
def has:List Nat->Nat->Bool
 |[],_=>false
 |k::r,t=>Nat.beq k t||has r t
def Ar:List (Nat×df)->List Nat->List (Nat×df)
 |[],_=>[]
 |(k,e)::r,ts=>bif has ts k then Ar r ts else(k,e)::Ar r ts
def Env.del (E:Env) (ts:List Nat):Env:=⟨E.aX,Ar E.l ts⟩
def Env.src (C:aM) (E:Env):Operand->df
 | .tmp t=>match E.get t with
  | .loc v _ _=> .pl t v 0
  | .it _ _ _=> .u
  |e=>e
 | .const v=>(match wQ v with|some d=> .v d|none=> .u)
 | .global g=>bif C.vU g then .v (.ptr (some (C.gl g,0)))else .u
 | .func f=>bif C.cov f then .v (.func (C.fn f) [] [])else .u
def dR (C:aM) (E:Env) (x:Operand) (K:DV->M β):M β:=
 match E.src C x with
 | .v d=>K d
 |_=>fail
def u5 (C:aM) (E:Env):List Operand->(List DV->M β)->M β
 |[],K=>K []
 |x::r,K=>dR C E x fun d=>u5 C E r fun ds=>K (d::ds)
def IM (E:Env) (r v:Nat) (K:Nat->List DV->M β):M β:=
 match E.get r with
 | .loc v' n cs=>bif Nat.beq v' v then K n cs else fail
 |_=>fail
def xP (C:aM) (E:Env) (x:Operand) (KL:Nat->Nat->Nat->M β) (KH:Nat->Nat->M β):M β:=
 match E.src C x with
 | .pl r v o=>KL r v o
 | .v (.ptr a)=>M.nn a KH
 |_=>fail
def wK (C:aM) (E:Env) (x:Operand) (K:Int->M β):M β:=dR C E x fun d=>match d with| .int _ n=>K n|_=>fail
def Pm (C:aM) (E:Env) (x:Operand) (K:Bool->M β):M β:=dR C E x fun d=>match d with| .bool b=>K b|_=>fail
def vS:B->DV->DV->Option Bool
 | .bool,.bool a,.bool b=>some (a==b)
 | .int k0,.int k a,.int k' b=>bif pJ k0 k&&pJ k k' then some (a==b)else none
 | .str,.str a,.str b=>some (a==b)
 |_,_,_=>none
def kl:List B->List DV->List DV->Option Bool
 |[],[],[]=>some true
 |k::ks,a::r,b::r'=>match vS k a b,kl ks r r' with
  |some x,some y=>some (x&&y)
  |_,_=>none
 |_,_,_=>none
def D.eqs (ag:List B) (xs ys:List DV) (K:Bool->M β):M β:=match kl ag xs ys with|some b=>K b|none=>fail
def IY (u:Option TypeDesc) (ag:List B) (a b:DV) (K:Bool->M β):M β:=
 match a,b with
 | .bool x,.bool y=>(match u with|some .bool=>K (x==y)|_=>fail)
 | .int k x,.int k' y=>bif pJ k k' then K (x==y)else fail
 | .str x,.str y=>K (x==y)
 | .ptr x,.ptr none=>(match u with|some (.pointer _)=>K x.isNone|_=>fail)
 | .ptr none,.ptr x=>(match u with|some (.pointer _)=>K x.isNone|_=>fail)
 | .slice _ x _,.slice _ none _=>(match u with|some (.slice _)=>K x.isNone|_=>fail)
 | .slice _ none _,.slice _ x _=>(match u with|some (.slice _)=>K x.isNone|_=>fail)
 | .agg xs,.agg ys=>(match ag with|[]=>fail|k::ks=>(match kl (k::ks) xs ys with|some b=>K b|none=>fail))
 |_,_=>fail
def af (n:Int):Int:=IntKind.i64.wrap n
def bits (op:BinOp) (k:IntKind) (x y:Int):Int:=
 let a:=BitVec.ofInt k.bits x
 let b:=BitVec.ofInt k.bits y
 match op with
 | .and=>k.wrap (a&&& b).toNat
 | .or=>k.wrap (a|||b).toNat
 | .xor=>k.wrap (a^^^b).toNat
 |_=>k.wrap (a&&& ~~~b).toNat
def strLt:List UInt8->List UInt8->Bool:=Op.bytesLess
def SN (u:Option TypeDesc) (ag:List B) (op:BinOp) (a b:DV) (K:DV->M β):M β:=
 match op with
 | .eql=>IY u ag a b fun r=>K (.bool r)
 | .neq=>IY u ag a b fun r=>K (.bool !r)
 | .shl=>match a,b with
  | .int k x,.int _ y=>M.ak (decide (0<=y)) (K (.int k (k.wrap (x*2^(min y.toNat k.bits)))))
  |_,_=>fail
 | .shr=>match a,b with
  | .int k x,.int _ y=>M.ak (decide (0<=y)) (K (.int k (x.fdiv (2^(min y.toNat k.bits)))))
  |_,_=>fail
 |op=>match a,b with
  | .int k x,.int k' y=>bif pJ k k' then
    match op with
    | .add=>K (.int k (k.wrap (x+y)))
    | .sub=>K (.int k (k.wrap (x-y)))
    | .mul=>K (.int k (k.wrap (x*y)))
    | .quo=>M.ak (!(y==0)) (K (.int k (k.wrap (x.tdiv y))))
    | .rem=>M.ak (!(y==0)) (K (.int k (x.tmod y)))
    | .and| .or| .xor| .andNot=>K (.int k (bits op k x y))
    | .lss=>K (.bool (decide (x<y)))
    | .leq=>K (.bool (decide (x<=y)))
    | .gtr=>K (.bool (decide (x>y)))
    | .geq=>K (.bool (decide (x>=y)))
    |_=>fail
   else fail
  | .str x,.str y=>
   match op with
   | .add=>M.ak (Nat.ble (x.length+y.length) 4611686018427387904) (K (.str (x++y)))
   | .lss=>K (.bool (strLt x y))
   | .leq=>K (.bool (strLt x y||x==y))
   | .gtr=>K (.bool !(strLt x y||x==y))
   | .geq=>K (.bool !(strLt x y))
   |_=>fail
  |_,_=>fail
def unK (op:UnOp) (a:DV) (K:DV->M β):M β:=
 match op,a with
 | .not,.bool b=>K (.bool !b)
 | .neg,.int k n=>K (.int k (k.wrap (0-n)))
 |_,_=>fail
def au (i:Int) (n:Nat):Bool:=decide (0<=i)&&decide (i<n)
def ZE (s:List UInt8) (i:Int):Int:=((s.getD i.toNat 0).toNat:Int)
def ZH (s:List UInt8):List DV:=s.map fun b=> .int .u8 b.toNat
def enc (n:Int):List UInt8:=(Utf8.encode n).data.toList
def dec (s:List UInt8) (i:Nat):Nat×Nat:=
 let at' (k:Nat):Nat:=(s.getD (i+k) 0).toNat
 let cont (k:Nat):Bool:=decide (i+k<s.length)&&at' k/64==2
 let b0:=at' 0
 if b0<0x80 then(b0,1)
 else if b0/32==6&&cont 1 then
  let c:=(b0%32)*64+at' 1%64
  if c>=0x80 then(c,2)else(Utf8.runeError,1)
 else if b0/16==14&&cont 1&&cont 2 then
  let c:=(b0%16)*4096+(at' 1%64)*64+at' 2%64
  if c>=0x800&&Utf8.valid c then(c,3)else(Utf8.runeError,1)
 else if b0/8==30&&cont 1&&cont 2&&cont 3 then
  let c:=(b0%8)*262144+(at' 1%64)*4096+(at' 2%64)*64+at' 3%64
  if c>=0x10000&&Utf8.valid c then(c,4)else(Utf8.runeError,1)
 else(Utf8.runeError,1)
def xK (s:List UInt8) (i:Nat):Int:=((dec s i).1:Int)
def qM (s:List UInt8) (i:Nat):Nat:=(dec s i).2
def fj (n:Nat) (z:List DV):List DV:=(List.replicate n z).flatten
def sC (P:Program) (t:TypeId):Option TypeId:=match P.underlying t with|some (.slice e)=>some e|_=>none
def Iq (P:Program) (t:TypeId):Nat:=match P.info? t with|some i=>i.bytes|none=>0
def wM (P:Program) (e:TypeId):Nat:=70368744177664/(Iq P e)
def kf (P:Program) (t:TypeId):Option (List DV):=match P.info? t with|some i=>(match i.zero with|some z=>Ct z.cells.toList|none=>none)|none=>none
def one:DV->Bool
 | .agg _=>false
 |_=>true
def nL (P:Program) (t:TypeId) (K:M β):M β:=match P.underlying t with|some _=>K|none=>fail
def IL (P:Program) (t:TypeId) (d:DV) (K:List DV->M β):M β:=
 nL P t (bif ZI P t then(match d with| .agg cs=>D.len cs (P.cellsOf t) (K cs)|_=>fail)
  else bif Nat.beq (P.cellsOf t) 1 then M.ak (one d) (K [d])else fail)
def tr (n m:Nat) (cs:List DV) (p:Nat) (ds:List DV):List DV:=bif Nat.beq m n&&Nat.beq p 0 then ds else bN cs p ds
def wL (E:Env) (C:aM) (N:Nat) (place:Nat->Option (Nat×Nat)):List (Nat×Operand)->List DV->(List DV->M β)->M β
 |[],cs,K=>K cs
 |(i,x)::r,cs,K=>match place i with
  |none=>fail
  |some (o,n)=>bif Nat.ble (o+n) N then dR C E x fun d=>
   match d with
   | .agg ds=>D.len ds n (wL E C N place r (tr N n cs o ds) K)
   |d=>bif Nat.beq n 1 then M.ak (one d) (wL E C N place r (bN cs o [d]) K)else fail
   else fail
def OA (P:Program) (t:TypeId):Nat->Option (Nat×Nat):=
 match P.underlying t with
 |some (.struct fs)=>fun i=>match fs[i]? with|some f=>some (f.offset,P.cellsOf f.type)|none=>none
 |some (.array _ e)=>fun i=>some (i*P.cellsOf e,P.cellsOf e)
 |_=>fun _=>none
def Zuh (P:Program) (t:TypeId):Bool:=
 match P.underlying t with
 |some (.struct fs)=>fs.toList.all fun f=>(P.info? f.type).isSome
 |some (.array _ e)=>(P.info? e).isSome
 |_=>false
def Iv (pr:List Nat) (o:Oper) (n:Nat) (cells:List DV) (E:Env) (K:Env->M β):M β:=
 match o.dst with
 |some t=>bif has pr t then K ⟨E.aX+1,(t,.loc E.aX n cells)::E.l⟩else M.new cells fun i=>K (E.put t (.v (.ptr (some (i,0)))))
 |none=>fail
def Co (C:aM) (E:Env) (len:Nat) (lo hi:Option Operand) (K:Nat->Nat->M β):M β:=
 let low (h:Nat):M β:=match lo with
  |none=>K 0 h
  |some x=>wK C E x fun l=>M.ak (decide (0<=l)&&decide (l<=h)) (K l.toNat h)
 match hi with
 |none=>low len
 |some x=>wK C E x fun h=>M.ak (decide (0<=h)&&decide (h<=len)) (low h.toNat)
def Ao (lo hi:Bool) (s:List UInt8) (l h:Nat):List UInt8:=
 bif hi then(bif lo then(s.take h).drop l else s.take h)else(bif lo then s.drop l else s)
def cY (lo:Bool) (a:Option (Nat×Nat)) (k:Nat):Option (Nat×Nat):=bif lo then(match a with|some (i,o)=>some (i,k+o)|none=>none)else a
def CF (lo:Bool) (l h:Nat):Nat:=bif lo then h-l else h
def part (n:Nat) (cs:List DV) (p m:Nat):List DV:=bif Nat.beq m n&&Nat.beq p 0 then cs else(cs.drop p).take m
def mK (pr:List Nat):List Oper->Nat->Nat->Option Nat
 |_,0,_=>none
 |ops,n+1,t=>bif has pr t then some t else
  match ops.find? fun o=>match o.dst with|some d=>Nat.beq d t|none=>false with
  |some o=>match o.op with
   | .fieldAddr _ (.tmp u) _| .indexAddr _ (.tmp u) _| .move (.tmp u)| .nilCheck (.tmp u)=>mK pr ops n u
   |_=>none
  |none=>none
def tm (pr:List Nat) (ops:List Oper):List Oper->List Nat
 |[]=>[]
 |o::r=>
  let m:=tm pr ops r
  let m:=match o.dst with|some d=>d::m|none=>m
  match o.op with
  | .store _ (.tmp a) _=>match mK pr ops 12 a with|some t=>t::m|none=>m
  | .next (.tmp t) _=>t::m
  |_=>m
def jI (pr:List Nat):Code->List Nat
 | .region _ ops _=>tm pr ops.toList ops.toList
 | .seq a b| .cond _ a b=>jI pr a++jI pr b
 | .block _ b| .loop b| .scope b=>jI pr b
 |_=>[]
inductive jv where
 |pure|hp|wr|call|rS (r:Nat)|lS (r:Nat)
 |lp (a:Nat)|ap (bs:List Nat)
inductive Md where
 |s
 |d (k:jv) (x:Nat)
def Md.loc:Md->Nat->Bool
 | .s,_=>true
 | .d (.rS q) _,r=>Nat.beq q r
 | .d (.lS q) _,r=>Nat.beq q r
 |_,_=>false
def Md.I3:Md->Bool
 | .s=>true
 | .d (.rS _) _=>false
 | .d (.lS _) _=>false
 |_=>true
def Md.x:Md->Nat
 | .s=>0
 | .d _ x=>x
def cls (P:Program) (pr:List Nat) (ops:List Oper) (o:Oper):jv:=
 match o.op with
 | .load _ (.tmp a)=>match mK pr ops 12 a with|some r=> .rS r|none=> .lp a
 | .load _ _=> .hp
 | .store _ (.tmp a) _=>match mK pr ops 12 a with|some r=> .lS r|none=> .ap []
 | .store .. => .wr
 | .alloc _| .box _ _| .buildSlice .. | .makeSlice .. | .convert .. | .range .. => .hp
 | .slice t .. =>match P.underlying t with|some (.array _ _)=> .hp|_=> .pure
 | .move _| .assign _| .pick .. | .build .. | .nilCheck _| .binOp .. | .unOp .. | .fieldAddr .. | .field .. | .indexAddr .. | .index .. | .extract .. | .makeInterface .. | .makeFunc .. => .pure
 | .call q=>match q.callee with
  | .builtin .len| .builtin .min| .builtin .max=> .pure
  | .builtin .append=> .ap []
  | .value _=>bif has pr 1000000 then .ap []else .call
  |_=> .wr
 | .next (.tmp t) _=> .lS t
 |_=> .wr
section
variable (C:aM) (E:Env) (o:Oper) (K:Env->M β)
def dt (d:DV):M β:=K (E.dJ o.dst (.v d))
def uV (e:df):M β:=K (E.dJ o.dst e)
def O1 (b y z:Operand):M β:=Pm C E b fun b=>bif b then uV E o K (E.src C y)else uV E o K (E.src C z)
def OD (pr:List Nat) (t:TypeId):M β:=
 match kf C.P t with
 |some z=>bif Nat.beq z.length (C.P.cellsOf t)then Iv pr o (C.P.cellsOf t) z E K else fail
 |none=>fail
def RA (pr:List Nat) (t:TypeId) (y:Operand):M β:=dR C E y fun d=>IL C.P t d fun cs=>Iv pr o (C.P.cellsOf t) cs E K
def Oo (t:TypeId) (ps:Array (Nat×Operand)):M β:=
 match kf C.P t with
 |some z=>bif Zuh C.P t then wL E C z.length (OA C.P t) ps.toList z fun cs=>dt E o K (.agg cs)else fail
 |none=>fail
def Mo (t:TypeId) (len:Nat) (ps:Array (Nat×Operand)):M β:=
 match sC C.P t with
 |some e=>match kf C.P e with
  |some z=>bif Nat.ble (len*C.P.cellsOf e) 100000&&Nat.beq z.length (C.P.cellsOf e)then
    wL E C (len*C.P.cellsOf e) (fun i=>some (i*C.P.cellsOf e,C.P.cellsOf e)) ps.toList (fj len z) fun cs=>
     M.new cs fun i=>dt E o K (.slice (C.P.cellsOf e) (some (i,0)) len)
    else fail
  |none=>fail
 |none=>fail
def II (md:Md) (t:TypeId) (a:Operand):M β:=
 nL C.P t (xP C E a
  (fun r v p=>bif md.loc r then IM E r v fun n cs=>
   match jZ C.P t with
   | .b y=>D.nth cs p fun d=>d1 y d (dt E o K)
   | .agg _=>M.ak (Nat.ble (p+C.P.cellsOf t) n) (dt E o K (.agg (part n cs p (C.P.cellsOf t))))
   else fail)
  (fun i p=>bif md.I3 then
   match jZ C.P t with
   | .b y=>M.ar i p fun d=>d1 y d (dt E o K)
   | .agg l=>M.load i p (C.P.cellsOf t) fun cs=>kO l cs fun ds=>dt E o K (.agg ds)
   else fail))
def OQ (md:Md) (ms:List Nat) (t:TypeId) (a y:Operand):M β:=
 dR C E y fun d=>IL C.P t d fun ds=>xP C E a
  (fun r v p=>bif has ms r&&md.loc r then IM E r v fun n cs=>M.ak (Nat.ble (p+C.P.cellsOf t) n) (K (E.put r (.loc v n (tr n (C.P.cellsOf t) cs p ds))))else fail)
  (fun i p=>bif md.I3 then M.store i p ds (K E)else fail)
def M0 (y:Operand):M β:=xP C E y (fun r v p=>uV E o K (.pl r v p)) (fun i p=>dt E o K (.ptr (some (i,p))))
def Rz (op:BinOp) (t:TypeId) (y z:Operand):M β:=dR C E y fun a=>dR C E z fun b=>SN (C.P.underlying t) (C.xQ t) op a b (dt E o K)
def RC (op:UnOp) (y:Operand):M β:=dR C E y fun a=>unK op a (dt E o K)
def J1 (P:Program) (e:TypeId):Bool:=match P.underlying e with|some (.int .u8)=>true|_=>false
def NC (s t:TypeId) (y:Operand):M β:=
 nL C.P s (match C.P.underlying t with
  |some (.int k)=>dR C E y fun d=>(match d with| .int _ n=>dt E o K (.int k (k.wrap n))|_=>fail)
  |some .string=>(match C.P.underlying s with
   |some (.int _)=>dR C E y fun d=>(match d with| .int _ n=>dt E o K (.str (enc n))|_=>fail)
   |some .string=>dR C E y fun d=>(match d with| .str l=>dt E o K (.str l)|_=>fail)
   |some (.slice e)=>bif J1 C.P e then dR C E y fun d=>(match d with
    | .slice z a n=>bif Nat.beq z 1||a.isNone then M.rd a n fun cs=>D.cO cs fun l=>dt E o K (.str l)else fail
    |_=>fail)else fail
   |_=>fail)
  |some (.slice e)=>bif J1 C.P e then dR C E y fun d=>(match d with
    | .str l=>M.new (ZH l) fun i=>dt E o K (.slice 1 (some (i,0)) l.length)
    |_=>fail)else fail
  |_=>fail)
def OK (t:TypeId) (y:Operand):M β:=
 match C.P.underlying t with
 |some (.interface _)=>fail
 |some _=>dR C E y fun d=>dt E o K (.iface (C.ty t) d)
 |none=>fail
def OW (f:Fn) (first cap:Array Operand):M β:=
 match f with
 | .func f=>bif C.cov f then u5 C E first.toList fun fs=>u5 C E cap.toList fun cs=>dt E o K (.func (C.fn f) fs cs)else fail
 |_=>fail
def MJ (t:TypeId) (l c:Operand):M β:=
 match sC C.P t with
 |some e=>match kf C.P e with
  |some z=>bif Nat.beq z.length (C.P.cellsOf e)then wK C E l fun n=>wK C E c fun m=>
    M.ak (decide (0<=n)&&decide (n<=m)&&decide (m<=wM C.P e)) (M.new (fj n.toNat z) fun i=>dt E o K (.slice (C.P.cellsOf e) (some (i,0)) n.toNat))else fail
  |none=>fail
 |none=>fail
def Oi (t:TypeId) (y:Operand) (lo hi:Option Operand):M β:=
 match C.P.underlying t with
 |some .string=>dR C E y fun d=>(match d with
  | .str s=>Co C E s.length lo hi fun l h=>dt E o K (.str (Ao lo.isSome hi.isSome s l h))
  |_=>fail)
 |some (.slice e)=>nL C.P e (dR C E y fun d=>(match d with
  | .slice z a n=>bif Nat.beq z (C.P.cellsOf e)||a.isNone then Co C E n lo hi fun l h=>dt E o K (.slice z (cY lo.isSome a (l*C.P.cellsOf e)) (CF lo.isSome l h))else fail
  |_=>fail))
 |some (.array m e)=>nL C.P e (dR C E y fun d=>(match d with
  | .ptr a=>M.nn a fun i p=>M.load i p (m*C.P.cellsOf e) fun _=>Co C E m lo hi fun l h=>dt E o K (.slice (C.P.cellsOf e) (cY lo.isSome (some (i,p)) (l*C.P.cellsOf e)) (CF lo.isSome l h))
  |_=>fail))
 |_=>fail
def G4 (t:TypeId) (y:Operand) (f:Nat):M β:=
 match C.P.underlying t with
 |some (.struct fs)=>(match fs[f]? with
  |some f=>bif Nat.beq (C.P.cellsOf f.type) 0 then fail else xP C E y (fun r v p=>uV E o K (.pl r v (p+f.offset))) (fun i p=>dt E o K (.ptr (some (i,p+f.offset))))
  |none=>fail)
 |_=>fail
def OO (t:TypeId) (y:Operand) (f:Nat):M β:=
 match C.P.underlying t with
 |some (.struct fs)=>(match fs[f]? with
  |some f=>nL C.P f.type (dR C E y fun d=>(match d with
   | .agg cs=>bif ZI C.P f.type then dt E o K (.agg ((cs.drop f.offset).take (C.P.cellsOf f.type)))else D.nth cs f.offset fun d=>ug (jZ C.P f.type) d (dt E o K)
   |_=>fail))
  |none=>fail)
 |_=>fail
def MP (t:TypeId) (y i:Operand):M β:=
 wK C E i fun n=>match C.P.underlying t with
 |some (.slice e)=>nL C.P e (dR C E y fun d=>(match d with
  | .slice z a m=>bif Nat.beq z (C.P.cellsOf e)||a.isNone then M.nn a fun j p=>M.ak (au n m) (dt E o K (.ptr (some (j,n.toNat*C.P.cellsOf e+p))))else fail
  |_=>fail))
 |some (.array m e)=>nL C.P e (xP C E y
  (fun r v p=>M.ak (au n m) (uV E o K (.pl r v (n.toNat*C.P.cellsOf e+p))))
  (fun j p=>M.ak (au n m) (dt E o K (.ptr (some (j,n.toNat*C.P.cellsOf e+p))))))
 |_=>fail
def Ox (t:TypeId) (y i:Operand):M β:=
 wK C E i fun n=>dR C E y fun d=>match C.P.underlying t,d with
 |some .string,.str s=>M.ak (au n s.length) (dt E o K (.int .u8 (ZE s n)))
 |some (.array m e),.agg cs=>nL C.P e (M.ak (au n m) (bif ZI C.P e then dt E o K (.agg ((cs.drop (n.toNat*C.P.cellsOf e)).take (C.P.cellsOf e)))else D.nth cs (n.toNat*C.P.cellsOf e) fun d=>ug (jZ C.P e) d (dt E o K)))
 |_,_=>fail
def OB (t:TypeId) (y:Operand):M β:=
 match C.P.underlying t with
 |some .string=>dR C E y fun d=>match d,o.dst with
  | .str s,some t=>K ⟨E.aX+1,(t,.it E.aX s 0)::E.l⟩
  |_,_=>fail
 |_=>fail
def OZ (ms:List Nat) (t:Nat):M β:=
 match E.get t,o.dst with
 | .it v s p,some d=>bif Nat.beq d t|| !has ms t then fail else
   bif Nat.blt p s.length then K ((E.put t (.it v s (p+qM s p))).put d (.mL [.bool true,.int .i64 p,.int .i32 (xK s p)]))
   else K (E.put d (.mL [.bool false]))
 |_,_=>fail
def DZ (md:Md):M β:=bif Nat.beq md.x 0 then M.cy else fail
def Od (md:Md) (t:TypeId) (y:Operand):M β:=
 match C.P.underlying t with
 |some (.interface _)=>fail
 |some _=>dR C E y fun d=>D.qa (DZ md) d (C.ty t) fun d=>ug (jZ C.P t) d (dt E o K)
 |none=>fail
def Nv (t i:Nat):M β:=
 match E.get t with
 | .mL ds=>(match ds[i]? with|some d=>dt E o K d|none=>fail)
 |_=>fail
def Om (md:Md) (y:Operand):M β:=dR C E y fun d=>match d with| .iface _ _=>DZ md|_=>fail
noncomputable def IU (md:Md) (m:M (List DV)) (K:List DV->M β):M β:=
 match md.x with
 |0=>M.call m K
 |1=>M.ig m K
 |_=>M.ew m K
def Md.bs:Md->List Nat
 | .d (.ap bs) _=>bs
 |_=>[]
noncomputable def An (E:Env):List Nat->M (List DV)->M (List DV)
 |[],m=>m
 |b::r,m=>match E.get b with
  | .v (.ptr (some (i,_)))=>M.gx i (An E r m)
  |_=>fail
noncomputable def O3 (md:Md) (c:Zg) (f:Operand) (as:Array Operand):M β:=
 dR C E f fun fv=>u5 C E as.toList fun as=>match fv with
 | .func g fs cs=>match UG C.P o.type with
  |(true,Ea)=>bif Nat.beq Ea.length 1 then fail else IU md (An E md.bs (c g (fs++as++cs))) fun ds=>vR Ea ds fun ds=>uV E o K (.mL ds)
  |(false,Ea)=>IU md (An E md.bs (c g (fs++as++cs))) fun ds=>vR Ea ds fun ds=>match ds with|[d]=>dt E o K d|_=>fail
 |_=>fail
def RB (ts:Array TypeId) (as:Array Operand):M β:=
 match as.toList,ts[0]? with
 |[y],some t=>(match C.P.underlying t with
  |some (.array m _)=>dt E o K (.int .i64 m)
  |some .string=>dR C E y fun d=>(match d with| .str s=>dt E o K (.int .i64 s.length)|_=>fail)
  |some (.slice _)=>dR C E y fun d=>(match d with| .slice _ _ n=>dt E o K (.int .i64 n)|_=>fail)
  |_=>fail)
 |_,_=>fail
def Rx (P:Program) (ts:Array TypeId) (K:M β):M β:=
 match ts[1]? with
 |none=>K
 |some t=>match P.underlying t with
  |some (.int _)=>fail
  |some _=>K
  |none=>fail
def N2 (ts:Array TypeId) (as:Array Operand):M β:=
 match as.toList,ts[0]? with
 |[y,z],some t=>(match sC C.P t with
  |some e=>nL C.P e (Rx C.P ts (match kf C.P e with
   |some zv=>bif !Nat.beq zv.length (C.P.cellsOf e)then fail else dR C E y fun a=>dR C E z fun b=>(match a,b with
    | .slice w p n,.slice w' p' m=>bif (Nat.beq w (C.P.cellsOf e)||p.isNone)&&(Nat.beq w' (C.P.cellsOf e)||p'.isNone)then
      M.rd p' (m*C.P.cellsOf e) fun ds=>M.app (C.P.cellsOf e) p n ds m (wM C.P e) fun Bg=>dt E o K (.slice (C.P.cellsOf e) Bg (n+m))else fail
    | .slice w p n,.str l=>bif (Nat.beq w 1||p.isNone)&&Nat.beq (C.P.cellsOf e) 1 then M.app 1 p n (ZH l) l.length (wM C.P e) fun Bg=>dt E o K (.slice 1 Bg (n+l.length))else fail
    |_,_=>fail)
   |none=>fail))
  |none=>fail)
 |_,_=>fail
def OS (ts:Array TypeId) (as:Array Operand):M β:=
 match as.toList,ts[0]? with
 |[y,z],some t=>(match sC C.P t with
  |some e=>nL C.P e (dR C E y fun a=>dR C E z fun b=>(match a,b with
   | .slice w p n,.slice w' p' m=>bif (Nat.beq w (C.P.cellsOf e)||p.isNone)&&(Nat.beq w' (C.P.cellsOf e)||p'.isNone)then M.rd p' (min m n*C.P.cellsOf e) fun ds=>M.wr p ds (dt E o K (.int .i64 (min m n)))else fail
   | .slice w p n,.str l=>bif (Nat.beq w 1||p.isNone)&&Nat.beq (C.P.cellsOf e) 1 then M.wr p (ZH (l.take n)) (dt E o K (.int .i64 (min l.length n)))else fail
   |_,_=>fail))
  |none=>fail)
 |_,_=>fail
def Ka (mx:Bool) (as:Array Operand):M β:=
 match as.toList with
 |[y,z]=>dR C E y fun a=>dR C E z fun b=>(match a,b with
  | .int k a,.int k' b=>bif pJ k k' then dt E o K (.int k (bif mx then(if a<b then b else a)else(if b<a then b else a)))else fail
  |_,_=>fail)
 |_=>fail
def OF (ts:Array TypeId) (as:Array Operand):M β:=
 match as.toList,ts[0]? with
 |[y],some t=>(match sC C.P t with
  |some e=>dR C E y fun a=>(match a,kf C.P e with
   | .slice w p n,some z=>bif (Nat.beq w (C.P.cellsOf e)||p.isNone)&&Nat.beq z.length (C.P.cellsOf e)then M.wr p (fj n z) (uV E o K (.mL []))else fail
   |_,_=>fail)
  |none=>fail)
 |_,_=>fail
end
def apart (p:Option (Nat×Nat)) (i:Nat):Bool:=match p with|some (j,_)=> !Nat.beq i j|none=>true
def CA (E:Env) (p:Option (Nat×Nat)):List Nat->M β->M β
 |[],K=>K
 |b::r,K=>match E.get b with
  | .v (.ptr (some (i,_)))=>M.ak (apart p i) (CA E p r K)
  |_=>fail
def Pa (C:aM) (E:Env) (bs:List Nat) (as:Array Operand) (X:M β):M β:=
 match bs with
 |[]=>X
 |b::r=>match as.toList with
  |y::_=>dR C E y fun a=>(match a with| .slice _ p _=>CA E p (b::r) X|_=>fail)
  |_=>fail
def Sj (C:aM) (E:Env) (bs:List Nat) (a:Operand) (X:M β):M β:=
 match bs with
 |[]=>X
 |b::r=>match E.src C a with
  | .v (.ptr p)=>CA E p (b::r) X
  |_=>fail
noncomputable def dV (C:aM) (pr ms:List Nat) (md:Md) (c:Zg) (o:Oper) (E:Env) (K:Env->M β):M β:=
 match o.op with
 | .move y| .assign y=>uV E o K (E.src C y)
 | .pick b y z=>O1 C E o K b y z
 | .alloc t=>OD C E o K pr t
 | .box t y=>RA C E o K pr t y
 | .build t ps=>Oo C E o K t ps
 | .buildSlice t len ps=>Mo C E o K t len ps
 | .load t a=>II C E o K md t a
 | .store t a y=>bif o.dst.isNone then Sj C E md.bs a (OQ C E K md ms t a y)else fail
 | .nilCheck y=>M0 C E o K y
 | .binOp op t y z _=>Rz C E o K op t y z
 | .unOp op _ y=>RC C E o K op y
 | .convert s t y=>NC C E o K s t y
 | .makeInterface t y=>OK C E o K t y
 | .makeFunc f first cap=>OW C E o K f first cap
 | .makeSlice t l c=>MJ C E o K t l c
 | .slice t y lo hi none=>Oi C E o K t y lo hi
 | .fieldAddr t y f=>G4 C E o K t y f
 | .field t y f=>OO C E o K t y f
 | .indexAddr t y i=>MP C E o K t y i
 | .index t y i=>Ox C E o K t y i
 | .range t y=>OB C E o K t y
 | .next (.tmp t) true=>OZ E o K ms t
 | .typeAssert y _ t false=>Od C E o K md t y
 | .extract (.tmp t) i=>Nv E o K t i
 | .panic y=>Om C E md y
 | .call q=>match q.callee with
  | .value f=>O3 C E o K md c f q.args
  | .builtin .len=>RB C E o K q.argTypes q.args
  | .builtin .append=>Pa C E md.bs q.args (N2 C E o K q.argTypes q.args)
  | .builtin .copy=>OS C E o K q.argTypes q.args
  | .builtin .min=>Ka C E o K false q.args
  | .builtin .max=>Ka C E o K true q.args
  | .builtin .clear=>OF C E o K q.argTypes q.args
  |_=>fail
 |_=>fail
def uU (C:aM) (E:Env) (x:Operand) (K:Nat->Nat->M β):M β:=match E.src C x with
 | .v (.ptr (some (i,p)))=>K i p
 |_=>fail
def sK (i p:Nat) (K:IntKind->Int->M β):M β:=M.ar i p fun d=>match d with
 | .int k n=>K k n
 |_=>fail
def fF (i p:Nat) (k:IntKind) (n:Int) (K:M β):M β:=M.ar i p fun d=>match d with
 | .int k' n'=>bif pJ k k'&&(n==n')then K else fail
 |_=>fail
def fb:List (Oper×Md)->List Nat
 |[]=>[]
 |(o,_)::r=>match o.dst with|some d=>d::fb r|none=>fb r
def xD (r:Nat):List (Oper×Md)->List (Oper×Md)->Option (List (Oper×Md)×Oper×List (Oper×Md))
 |_,[]=>none
 |acc,(o,x)::rest=>match o.op with
  | .pick (.tmp t) _ _=>bif Nat.beq t r then some (acc.reverse,o,rest)else xD r ((o,x)::acc) rest
  |_=>xD r ((o,x)::acc) rest
def I6:List (Nat×Bool)->Nat×Bool->Bool
 |[],_=>false
 |(k,b)::r,g=>(Nat.beq k g.1&&(b==g.2))||I6 r g
def I7 (act:List (Nat×Bool)):Option (Nat×Bool)->Bool
 |none=>true
 |some g=>I6 act g
def xT (pr:List Nat) (dst:Nat->Option Nat) (j:Nat) (w:Bool) (r:Nat):List Nat->List (Oper×Md)->Bool
 |_,[]=>true
 |Sg,(o,_)::rest=>
  (match o.op with
   | .store .. | .next .. | .range .. =>false
   | .alloc _| .box _ _=>(match o.dst with|some d=> !has pr d|none=>false)
   |_=>true)&&
  (match o.guard with
   |none=>false
   |some (j',w')=>(Nat.beq j' j&&(w'==w))||(match dst j' with|some d=>has Sg d|none=>false))&&
  (match o.dst with
   |some d=> !Nat.beq d r&&xT pr dst j w r (d::Sg) rest
   |none=>xT pr dst j w r Sg rest)
noncomputable def oW (C:aM) (pr ms:List Nat) (c:Zg) (dst:Nat->Option Nat):Nat->List (Oper×Md)->List (Nat×Bool)->Env->(Env->M β)->M β
 |_,[],_,E,K=>K E
 |0,_::_,_,_,_=>fail
 |n+1,(o,x)::rest,act,E,K=>
  bif I7 act o.guard then dV C pr ms x c o E fun E'=>oW C pr ms c dst n rest act E' K
  else match o.guard with
   |none=>fail
   |some (j,w)=>match dst j with
    |none=>fail
    |some r=>match E.get r,xD r [] ((o,x)::rest)with
     | .v (.bool b),some (dp,pk,ll)=>match pk.op,pk.dst with
      | .pick _ y z,some t=>
       bif I7 act pk.guard&&xT pr dst j w r [] dp then
        M.join (fun st=>D.cons st fun d st=>D.bool d fun v=>D.nil st (oW C pr ms c dst n ll act ((E.del (fb dp)).put t (.v (.bool v))) K))
         fun jk=>
          let yes:M β:=oW C pr ms c dst n dp ((j,w)::act) (E.put r (.v (.bool w))) fun E1=>dR C E1 (bif w then y else z) fun d=>jk [d]
          let no:M β:=dR C ((E.del (fb dp)).put r (.v (.bool !w))) (bif w then z else y) fun d=>jk [d]
          bif w then(bif b then yes else no)else(bif b then no else yes)
       else fail
      |_,_=>fail
     |_,_=>fail
def uc:jv->jv->Bool
 | .pure,_|_,.pure=>false
 | .lS r,.rS q| .rS r,.lS q| .lS r,.lS q=>Nat.beq r q
 | .rS _,_|_,.rS _| .lS _,_|_,.lS _=>false
 | .ap bs,.lp b| .lp b,.ap bs=> !has bs b
 | .wr,_|_,.wr| .ap _,_|_,.ap _=>true
 | .call,.call=>true
 |_,_=>false
def OU:jv->jv->Bool
 | .ap _,.lp _=>true
 |k,k'=>uc k k'
structure eS where
 bf:Nat
 k:jv
 dst:Option Nat
 lk:Nat
def Ak (o:Oper) (acc:List Nat):Nat:=o.after.toList.foldl (fun m e=>bif Region.binds .any e then m|||2^e.on|||acc.getD e.on 0 else m) 0
def nG (pr:List Nat) (ops:List Oper) (o:Oper):Nat:=
 let m:=o.op.operands.toList.foldl (fun m x=>match x with| .tmp t=>m|||2^t|_=>m) 0
 let m:=match o.guard with
  |some (j,_)=>(match ops[j]? with|some g=>(match g.dst with|some t=>m|||2^t|none=>m)|none=>m)
  |none=>m
 match o.op with
 | .load _ (.tmp a)=>(match mK pr ops 12 a with|some r=>m|||2^r|none=>m)
 | .store _ (.tmp a) _=>(match mK pr ops 12 a with|some r=>m|||2^r|none=>m)
 |_=>m
def Cy (m:Nat):Nat->List Oper->List Nat
 |_,[]=>[]
 |j,o::r=>match o.op with
  | .load _ (.tmp b)=>bif m.testBit j then Cy m (j+1) r else b::Cy m (j+1) r
  |_=>Cy m (j+1) r
def tl (b:Nat) (o:Oper):Bool:=match o.op with
 | .load _ (.tmp a)=>Nat.beq a b
 |_=>false
def DP (b:Nat):List Oper->Bool
 |[]=>true
 |o::r=>bif tl b o then(o::r).all (fun o=>match o.dst with|some d=> !Nat.beq d b|none=>true)else DP b r
def qN (pr:List Nat) (ops:List Oper) (k m:Nat):jv->jv
 | .ap _=> .ap ((Cy m 0 (ops.take k)).filter fun b=>DP b (ops.take k)&&(mK pr ops 12 b).isNone)
 |c=>c
def nH (P:Program) (pr:List Nat) (ops:List Oper):List Oper->List Nat->List eS
 |[],_=>[]
 |o::r,acc=>let b:=Ak o acc;⟨b,qN pr ops acc.length b (cls P pr ops o),o.dst,nG pr ops o⟩::nH P pr ops r (acc++[b])
def IV (d:Option Nat) (m:Nat):Bool:=match d with|some t=>m.testBit t|none=>false
def Pv (d e:Option Nat):Bool:=match d,e with|some t,some u=>Nat.beq t u|_,_=>false
def IF (i:Nat) (p:eS):List eS->Bool
 |[]=>true
 |q::r=>(q.bf.testBit i||(!OU p.k q.k&& !IV p.dst q.lk&& !IV q.dst p.lk&& !Pv p.dst q.dst))&&IF i p r
def yH:Nat->List eS->List Oper->Bool
 |_,[],_=>true
 |_,_::_,[]=>false
 |i,p::r,o::os=>Nat.blt p.bf (2^i)&&(match o.guard with|some (j,_)=>p.bf.testBit j|none=>true)&&IF i p r&&yH (i+1) r os
def oY (i bi:Nat) (f:jv->Bool):Nat->List eS->Bool
 |_,[]=>false
 |j,q::r=>(!Nat.beq i j&& !q.bf.testBit i&& !bi.testBit j&&f q.k)||oY i bi f (j+1) r
def yD:jv->Bool
 | .hp=>true
 | .lp _=>true
 |_=>false
def xN:jv->Bool
 | .pure=>true
 | .rS _=>true
 |_=>false
def tP (i bi:Nat):Nat->List eS->Bool
 |_,[]=>false
 |j,q::r=>(!Nat.beq i j&& !q.bf.testBit i&& !bi.testBit j&& !(Nat.blt j i&&xN q.k))||tP i bi (j+1) r
def J8 (mp:Nat->Bool) (o:Oper):Bool:=match o.op with
 | .call q=>(match q.callee with
  | .value (.func f)=>mp f
  |_=>false)
 |_=>false
def flags (mp:Nat->Bool) (all:List eS):Nat->List eS->List Oper->List (Oper×Md)
 |_,[],_=>[]
 |_,_,[]=>[]
 |i,p::r,o::os=>
  (o,.d p.k (bif oY i p.bf (fun _=>true) 0 all then(bif J8 mp o&& !tP i p.bf 0 all then 0 else(match p.k with| .call=>(bif oY i p.bf yD 0 all then 2 else 1)|_=>1))else 0))::flags mp all (i+1) r os
noncomputable def Kf (C:aM) (pr:List Nat) (c:Zg) (ops:Array Oper) (draw:Bool) (E:Env) (K:Env->M β):M β:=
 let l:=ops.toList
 let ms:=tm pr l l
 let dst (j:Nat):Option Nat:=match l[j]? with|some o=>o.dst|none=>none
 bif draw then
  let is:=nH C.P pr l l []
  bif yH 0 is l then oW C pr ms c dst l.length (flags C.mp is 0 is l) [] E K else fail
 else oW C pr ms c dst l.length (l.map fun o=>(o,.s)) [] E K
inductive JS where
 |v (x:Sh)
 |l (x:List B)
 |t
inductive mV where
 |z
 |n (a b:mV)
 |j (J:List (Nat×JS)) (a b:mV)
def mV.a:mV->mV| .n a _=>a| .j _ a _=>a| .z=> .z
def mV.b:mV->mV| .n _ b=>b| .j _ _ b=>b| .z=> .z
def om (E0 E:Env):List (Nat×JS)->(List DV->M β)->M β
 |[],K=>K []
 |(t,x)::r,K=>match x,E.get t with
  | .v _,.v d=>om E0 E r fun ds=>K (d::ds)
  | .l _,.loc v _ cs=>(match E0.get t with| .loc v0 _ _=>bif Nat.beq v0 v then om E0 E r fun ds=>K (.agg cs::ds)else fail|_=>fail)
  | .t,.it v _ p=>(match E0.get t with| .it v0 _ _=>bif Nat.beq v0 v then om E0 E r fun ds=>K (.nat p::ds)else fail|_=>fail)
  |_,_=>fail
def oE (E:Env):List (Nat×JS)->List DV->Env->(Env->M β)->M β
 |[],st,E1,K=>D.nil st (K E1)
 |(t,x)::r,st,E1,K=>D.cons st fun d rest=>match x,E.get t with
  | .v x,_=>ug x d fun d=>oE E r rest (E1.put t (.v d)) K
  | .l x,.loc v n _=>D.agg d fun cs=>kO x cs fun cs=>oE E r rest (E1.put t (.loc v n cs)) K
  | .t,.it v s _=>D.nat d fun p=>oE E r rest (E1.put t (.it v s p)) K
  |_,_=>fail
def wR (fy:List Nat):List (Nat×JS)->Bool
 |[]=>true
 |(t,_)::r=>has fy t&&wR fy r
noncomputable def Ro (E:Env) (fy:List Nat) (J:List (Nat×JS)) (K:Env->M β) (g:((Env->M β)->M β)):M β:=
 bif wR fy J then M.join (fun st=>oE E J st (E.del fy) K) fun jk=>g fun E1=>om E E1 J jk else fail
noncomputable def exec (C:aM) (pr:List Nat) (c:Zg) (n:Nat):Code->mV->(Env->M β)->(Nat->Env->M β)->(Env->M β)->Env->M β
 | .skip,_,kn,_,_,E=>kn E
 | .seq a b,A,kn,kx,kr,E=>exec C pr c n a A.a (fun E'=>exec C pr c n b A.b kn kx kr E') kx kr E
 | .region _ ops d,_,kn,_,_,E=>Kf C pr c ops d E kn
 | .cond x a b,A,kn,kx,kr,E=>Pm C E x fun v=>
   match A with
   | .j J A1 A2=>Ro E (jI pr a++jI pr b) J kn fun jk=>bif v then exec C pr c n a A1 jk kx kr E else exec C pr c n b A2 jk kx kr E
   |A=>bif v then exec C pr c n a A.a kn kx kr E else exec C pr c n b A.b kn kx kr E
 | .block id body,A,kn,kx,kr,E=>
   match A with
   | .j J A1 _=>Ro E (jI pr body) J kn fun jk=>exec C pr c n body A1 jk (fun i E1=>bif Nat.beq i id then jk E1 else kx i E1) kr E
   |A=>exec C pr c n body A.a kn (fun i E1=>bif Nat.beq i id then kn E1 else kx i E1) kr E
 | .loop body,A,_,kx,kr,E=>
   match A with
   | .j J A1 _=>bif wR (jI pr body) J then om E E J fun st=>M.loop (fun rec st=>oE E J st (E.del (jI pr body)) fun E1=>exec C pr c n body A1 (fun E2=>om E E2 J rec) kx kr E1) n st else fail
   |_=>fail
 | .exit id,_,_,kx,_,E=>kx id E
 | .ret,_,_,_,kr,E=>kr E
 |_,_,_,_,_,_=>fail
def okO (ok:Nat->Bool):List Oper->Bool
 |[]=>true
 |o::r=>(match o.dst with|some d=>ok d|none=>true)&&okO ok r
def tn (ok:Nat->Bool):Code->Bool
 | .region _ ops _=>okO ok ops.toList
 | .seq a b| .cond _ a b=>tn ok a&&tn ok b
 | .block _ b| .loop b| .scope b=>tn ok b
 |_=>true
def oD (n d:Nat):Bool:=Nat.blt d n
structure FA where
 pr:List Nat
 Cw:mV
 jA:Bool
def qL (C:aM) (E:Env):List ResultVar->(List DV->M β)->M β
 |[],K=>K []
 | .tmp t::r,K=>dR C E (.tmp t) fun d=>qL C E r fun ds=>K (d::ds)
 | .cell a t::r,K=>match E.get a with
  | .loc _ n cs=>nL C.P t (bif ZI C.P t then(bif Nat.beq n (C.P.cellsOf t)then qL C E r fun ds=>K (.agg cs::ds)else fail)else D.nth cs 0 fun d=>qL C E r fun ds=>K (d::ds))
  |_=>fail
def hZ:Nat->List DV->List (Nat×df)
 |_,[]=>[]
 |t,d::r=>(t,.v d)::hZ (t+1) r
noncomputable def aP (C:aM) (A:FA) (fn:Func) (c:Zg) (n:Nat) (args:List DV):M (List DV):=
 match fn.body with
 |some code=>bif tn (oD fn.ntmps) code&&Nat.ble (fn.params.size+fn.nfree) fn.ntmps then vR (fn.params.toList.map (jZ C.P)++List.replicate fn.nfree (.b .ptr)) args fun ds=>
   bif A.jA then M.base fun b=>
    let kr (E:Env):M (List DV):=qL C E fn.results.toList fun ds=>M.lq b ds
    exec C A.pr c n code A.Cw kr (fun _ _=>fail) kr ⟨0,hZ 0 ds⟩
   else
    let kr (E:Env):M (List DV):=qL C E fn.results.toList fun ds=>M.ret ds
    exec C A.pr c n code A.Cw kr (fun _ _=>fail) kr ⟨0,hZ 0 ds⟩
   else fail
 |none=>fail
abbrev Za:=Nat->Zg->Nat->List DV->M (List DV)
def run (Bd:Za):Nat->Zg
 |0,_,_=>fail
 |n+1,g,args=>Bd g (run Bd n) n args
end Go.Gv
