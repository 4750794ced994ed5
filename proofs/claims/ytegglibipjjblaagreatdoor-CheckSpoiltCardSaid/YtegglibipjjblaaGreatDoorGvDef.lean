/- A deterministic heap machine beside the model: its values, its heap, what it makes of a function's code. -/
import Derived.Orders
import Derived.KernelRfl
set_option linter.all false
theorem aM:type_of% @Nat.le_refl:=@Nat.le_refl
theorem aS:type_of% @decide_eq_true:=@decide_eq_true
theorem aY:type_of% @Bool.and_eq_true:=@Bool.and_eq_true
theorem bn:type_of% @decide_eq_true_iff:=@decide_eq_true_iff
theorem bp:type_of% @Bool.not_false:=@Bool.not_false
theorem bq:type_of% @if_neg:=@if_neg
theorem br:type_of% @Int.toNat_natCast:=@Int.toNat_natCast
theorem bw:type_of% @Bool.not_true:=@Bool.not_true
theorem bz:type_of% @List.length_append:=@List.length_append
theorem bG:type_of% @if_pos:=@if_pos
theorem bM:type_of% @decide_eq_false:=@decide_eq_false
theorem cu:type_of% @List.getElem?_eq_getElem:=@List.getElem?_eq_getElem
theorem cB:type_of% @Nat.zero_le:=@Nat.zero_le
theorem cE:type_of% @List.mem_singleton:=@List.mem_singleton
theorem cQ:type_of% @List.length_cons:=@List.length_cons
theorem cR:type_of% @List.length_take:=@List.length_take
theorem cS:type_of% @Nat.mul_one:=@Nat.mul_one
theorem dE:type_of% @List.drop_zero:=@List.drop_zero
theorem dF:type_of% @List.take_of_length_le:=@List.take_of_length_le
theorem dL:type_of% @Bool.true_and:=@Bool.true_and
theorem dP:type_of% @Nat.eq_of_beq_eq_true:=@Nat.eq_of_beq_eq_true
theorem ef:type_of% @List.getD_eq_getElem?_getD:=@List.getD_eq_getElem?_getD
theorem eB:type_of% @List.getElem?_eq_some_iff:=@List.getElem?_eq_some_iff
theorem eH:type_of% @List.length_drop:=@List.length_drop
theorem eJ:type_of% @Nat.zero_add:=@Nat.zero_add
theorem eM:type_of% @List.mem_cons:=@List.mem_cons
theorem eN:type_of% @beq_eq_false_iff_ne:=@beq_eq_false_iff_ne
theorem fB:type_of% @List.map_append:=@List.map_append
theorem fR:type_of% @List.append_assoc:=@List.append_assoc
theorem fZ:type_of% @Option.some.injEq:=@Option.some.injEq
theorem gu:type_of% @Bool.false_and:=@Bool.false_and
theorem gz:type_of% @Nat.ble_eq_true_of_le:=@Nat.ble_eq_true_of_le
theorem gI:type_of% @List.mem_append:=@List.mem_append
theorem gM:type_of% @List.append_nil:=@List.append_nil
theorem gQ:type_of% @Nat.add_zero:=@Nat.add_zero
theorem hU:type_of% @Nat.le_trans:=@Nat.le_trans
theorem iG:type_of% @List.nil_append:=@List.nil_append
theorem iS:type_of% @List.length_singleton:=@List.length_singleton
theorem jd:type_of% @List.drop_eq_getElem_cons:=@List.drop_eq_getElem_cons
theorem jG:type_of% @List.drop_drop:=@List.drop_drop
theorem jH:type_of% @List.getElem?_set_ne:=@List.getElem?_set_ne
theorem ku:type_of% @List.getElem_mem:=@List.getElem_mem
theorem kz:type_of% @Nat.lt_or_ge:=@Nat.lt_or_ge
theorem kL:type_of% @List.getElem?_append_right:=@List.getElem?_append_right
theorem lx:type_of% @Array.getElem?_toList:=@Array.getElem?_toList
theorem ly:type_of% @List.drop_eq_nil_of_le:=@List.drop_eq_nil_of_le
theorem lz:type_of% @List.getElem?_cons_zero:=@List.getElem?_cons_zero
theorem lA:type_of% @List.getElem?_set_self:=@List.getElem?_set_self
theorem lB:type_of% @List.length_map:=@List.length_map
theorem lS:type_of% @Bool.eq_iff_iff:=@Bool.eq_iff_iff
theorem lT:type_of% @Bool.not_eq_true':=@Bool.not_eq_true'
theorem lU:type_of% @List.length_set:=@List.length_set
theorem lV:type_of% @List.take_succ_eq_append_getElem:=@List.take_succ_eq_append_getElem
theorem mm:type_of% @Bool.or_eq_true:=@Bool.or_eq_true
theorem mn:type_of% @List.getElem?_append_left:=@List.getElem?_append_left
theorem mo:type_of% @Nat.lt_of_lt_of_le:=@Nat.lt_of_lt_of_le
theorem mV:type_of% @if_true:=@if_true
theorem mW:type_of% @of_decide_eq_true:=@of_decide_eq_true
theorem nx:type_of% @List.take_add:=@List.take_add
theorem ny:type_of% @Option.map_some:=@Option.map_some
theorem nz:type_of% @if_false:=@if_false
theorem od:type_of% @List.cons_append:=@List.cons_append
theorem oe:type_of% @List.map_cons:=@List.map_cons
theorem og:type_of% @Nat.min_eq_left:=@Nat.min_eq_left
theorem oh:type_of% @Nat.pow_le_pow_right:=@Nat.pow_le_pow_right
theorem oU:type_of% @Array.length_toList:=@Array.length_toList
theorem oV:type_of% @List.length_replicate:=@List.length_replicate
theorem oW:type_of% @List.mem_map:=@List.mem_map
theorem oX:type_of% @List.take_append_drop:=@List.take_append_drop
theorem oY:type_of% @List.take_length:=@List.take_length
theorem oZ:type_of% @Nat.zero_mul:=@Nat.zero_mul
theorem pj:type_of% @or_false:=@or_false
theorem qV:type_of% @List.getElem?_cons_succ:=@List.getElem?_cons_succ
theorem qW:type_of% @List.range_succ:=@List.range_succ
theorem qX:type_of% @Nat.blt_eq:=@Nat.blt_eq
theorem qY:type_of% @Nat.le_of_ble_eq_true:=@Nat.le_of_ble_eq_true
theorem sB:type_of% @Array.getD_eq_getD_getElem?:=@Array.getD_eq_getD_getElem?
theorem sC:type_of% @List.getElem?_map:=@List.getElem?_map
theorem sD:type_of% @List.mem_of_getElem?:=@List.mem_of_getElem?
theorem sE:type_of% @List.nodup_append:=@List.nodup_append
theorem tT:type_of% @List.all_append:=@List.all_append
theorem tU:type_of% @List.ext_getElem?:=@List.ext_getElem?
theorem tV:type_of% @List.mem_cons_self:=@List.mem_cons_self
theorem tW:type_of% @List.not_mem_nil:=@List.not_mem_nil
theorem tX:type_of% @Nat.add_comm:=@Nat.add_comm
theorem uX:type_of% @Bool.false_eq_true:=@Bool.false_eq_true
theorem uY:type_of% @List.mem_range:=@List.mem_range
theorem uZ:type_of% @Nat.add_assoc:=@Nat.add_assoc
theorem u7:type_of% @Nat.pow_succ:=@Nat.pow_succ
theorem va:type_of% @beq_iff_eq:=@beq_iff_eq
theorem wC:type_of% @Bool.and_true:=@Bool.and_true
theorem wD:type_of% @Bool.false_or:=@Bool.false_or
theorem wE:type_of% @List.all_cons:=@List.all_cons
theorem wF:type_of% @List.all_eq_true:=@List.all_eq_true
theorem wG:type_of% @Nat.add_mul:=@Nat.add_mul
theorem xQ:type_of% @List.foldl_append:=@List.foldl_append
theorem xR:type_of% @List.getElem?_take:=@List.getElem?_take
theorem xS:type_of% @List.length_nil:=@List.length_nil
theorem xT:type_of% @List.mem_cons_of_mem:=@List.mem_cons_of_mem
theorem xU:type_of% @Nat.succ_pos:=@Nat.succ_pos
theorem xV:type_of% @decide_eq_false_iff_not:=@decide_eq_false_iff_not
theorem zV:type_of% @List.eq_nil_of_length_eq_zero:=@List.eq_nil_of_length_eq_zero
theorem zW:type_of% @List.length_eq_zero_iff:=@List.length_eq_zero_iff
theorem zX:type_of% @List.map_map:=@List.map_map
theorem zY:type_of% @List.nodup_cons:=@List.nodup_cons
theorem zZ:type_of% @beq_self_eq_true:=@beq_self_eq_true
theorem z8:type_of% @decide_eq_true_eq:=@decide_eq_true_eq
theorem BB:type_of% @Bool.or_eq_false_iff:=@Bool.or_eq_false_iff
theorem BC:type_of% @List.drop_of_length_le:=@List.drop_of_length_le
theorem BD:type_of% @List.drop_take:=@List.drop_take
theorem BE:type_of% @List.flatten_cons:=@List.flatten_cons
theorem BF:type_of% @List.foldl_cons:=@List.foldl_cons
theorem BG:type_of% @List.getElem?_drop:=@List.getElem?_drop
theorem BH:type_of% @List.take_take:=@List.take_take
theorem BI:type_of% @Nat.eq_zero_or_pos:=@Nat.eq_zero_or_pos
theorem BJ:type_of% @Nat.not_lt:=@Nat.not_lt
theorem BK:type_of% @Nat.sub_self:=@Nat.sub_self
theorem BL:type_of% @Nat.sub_zero:=@Nat.sub_zero
theorem DD:type_of% @Bool.and_false:=@Bool.and_false
theorem DE:type_of% @Int.natCast_add:=@Int.natCast_add
theorem DF:type_of% @List.cons.inj:=@List.cons.inj
theorem DG:type_of% @List.drop_left:=@List.drop_left
theorem DH:type_of% @Nat.eq_of_testBit_eq:=@Nat.eq_of_testBit_eq
theorem DI:type_of% @Nat.lt_of_le_of_lt:=@Nat.lt_of_le_of_lt
theorem DJ:type_of% @Nat.mul_comm:=@Nat.mul_comm
theorem FL:type_of% @List.filter_append:=@List.filter_append
theorem FM:type_of% @List.getElem?_of_mem:=@List.getElem?_of_mem
theorem FN:type_of% @List.mem_filter:=@List.mem_filter
theorem FO:type_of% @List.take_left:=@List.take_left
theorem FP:type_of% @Nat.beq_refl:=@Nat.beq_refl
theorem FQ:type_of% @Nat.div_div_eq_div_mul:=@Nat.div_div_eq_div_mul
theorem FR:type_of% @Nat.div_le_self:=@Nat.div_le_self
theorem FT:type_of% @Nat.mul_le_mul_right:=@Nat.mul_le_mul_right
theorem FU:type_of% @Nat.succ_mul:=@Nat.succ_mul
theorem FV:type_of% @Prod.mk.injEq:=@Prod.mk.injEq
theorem FW:type_of% @of_decide_eq_false:=@of_decide_eq_false
theorem H6:type_of% @Bool.cond_false_right:=@Bool.cond_false_right
theorem H7:type_of% @List.flatten_append:=@List.flatten_append
theorem H8:type_of% @List.getElem?_eq_none:=@List.getElem?_eq_none
theorem H9:type_of% @List.getElem_of_mem:=@List.getElem_of_mem
theorem Ia:type_of% @List.pairwise_map:=@List.pairwise_map
theorem Ib:type_of% @List.take_zero:=@List.take_zero
theorem Ic:type_of% @Nat.mul_eq_zero:=@Nat.mul_eq_zero
theorem Ie:type_of% @Nat.testBit_and:=@Nat.testBit_and
theorem If:type_of% @Nat.testBit_lt_two_pow:=@Nat.testBit_lt_two_pow
theorem Ig:type_of% @Nat.xor_lt_two_pow:=@Nat.xor_lt_two_pow
theorem Ih:type_of% @Option.some.inj:=@Option.some.inj
theorem Ii:type_of% @UInt8.toNat_inj:=@UInt8.toNat_inj
theorem LZ:type_of% @BitVec.toNat_and:=@BitVec.toNat_and
theorem L5:type_of% @Bool.not_eq_false':=@Bool.not_eq_false'
theorem L7:type_of% @List.getElem?_replicate:=@List.getElem?_replicate
theorem L8:type_of% @List.getElem?_toArray:=@List.getElem?_toArray
theorem L9:type_of% @List.map_congr_left:=@List.map_congr_left
theorem Ma:type_of% @List.mem_append_right:=@List.mem_append_right
theorem Mb:type_of% @List.pairwise_append:=@List.pairwise_append
theorem Mc:type_of% @List.pairwise_iff_getElem:=@List.pairwise_iff_getElem
theorem Me:type_of% @List.range'_succ:=@List.range'_succ
theorem Mf:type_of% @List.take_add_one:=@List.take_add_one
theorem Mg:type_of% @Nat.ne_of_beq_eq_false:=@Nat.ne_of_beq_eq_false
theorem Mh:type_of% @Nat.pow_lt_pow_right:=@Nat.pow_lt_pow_right
theorem Mi:type_of% @Option.isSome_none:=@Option.isSome_none
theorem QD:type_of% @Array.getElem?_append_left:=@Array.getElem?_append_left
theorem QE:type_of% @Array.getElem?_setIfInBounds_self_of_lt:=@Array.getElem?_setIfInBounds_self_of_lt
theorem QF:type_of% @List.extract_eq_take_drop:=@List.extract_eq_take_drop
theorem QG:type_of% @List.length_eq_one_iff:=@List.length_eq_one_iff
theorem QH:type_of% @Nat.and_two_pow_sub_one_eq_mod:=@Nat.and_two_pow_sub_one_eq_mod
theorem QI:type_of% @Nat.mod_two_eq_zero_or_one:=@Nat.mod_two_eq_zero_or_one
theorem ae{α:Sort _}(a b:α):cond true a b=a:=rfl
theorem af{α:Sort _}(a b:α):cond false a b=b:=rfl
namespace Go.Gv
theorem AC{p:Prop}(h:p:=by omega):p:=h
theorem Do{p:Prop}(h:p:=by simp):p:=h
theorem EQ{p:Prop}[Decidable p](h:p:=by decide):p:=h
theorem Fd{p:Prop}(h:p:=by grind):p:=h
theorem FS{p:Prop}(h:p:=by rfl):p:=h
inductive DV where
 |bool (b:Bool)
 |int (k:IntKind) (n:Int)
 |str (s:List UInt8)
 |ptr (a:Option (Nat×Nat))
 |slice (sz:Nat) (a:Option (Nat×Nat)) (len:Nat)
 |agg (cs:List DV)
 |func (g:Nat) (first cap:List DV)
 |nilFunc
 |iface (t:Nat) (v:DV)
 |nilIface
 |nat (n:Nat)
abbrev DV.i(n:Int):DV:=.int .i64 n
abbrev DV.w(n:Int):DV:=.int .u64 n
abbrev DV.u(n:Int):DV:=.int .u8 n
abbrev DV.y(n:Int):DV:=.int .u32 n
structure bO where
 dU:Bool
 cells:List DV
abbrev St:=List (Option bO)
inductive Out (β:Type) where
 |val (b:β)
 |fy
abbrev M (β:Type):=St->Option (Out β×St)
abbrev Zg:=Nat->List DV->M (List DV)
variable {β:Type}
def fail:M β:=λ_=>none
abbrev bs (l:List UInt8):List UInt8:=l
def St.cells (s:St) (i:Nat):Option (List DV):=
 match s[i]? with
 |some (some b)=>some b.cells
 |_=>none
def St.gP (s:St) (i:Nat):Option (List DV):=
 match s[i]? with
 |some (some ⟨false,cs⟩)=>some cs
 |_=>none
def ov:List DV->List DV->List DV
 |_::cs,d::ds=>d::ov cs ds
 |cs,[]=>cs
 |[],_=>[]
def cG:List DV->Nat->List DV->List DV
 |cs,0,ds=>ov cs ds
 |c::cs,k+1,ds=>c::cG cs k ds
 |[],_+1,_=>[]
def bJ (a:Option (Nat×Nat)) (K:Nat->Nat->M β):M β:=
 match a with
 |some (i,o)=>K i o
 |none=>fail
def bX (i o n:Nat) (K:List DV->M β):M β:=λs=>
 match s.cells i with
 |some cs=>bif Nat.ble (o+n) cs.length then K ((cs.drop o).take n) s else none
 |none=>none
def bD (i o:Nat) (K:DV->M β):M β:=λs=>
 match s.cells i with
 |some cs=>match cs[o]? with
  |some d=>K d s
  |none=>none
 |none=>none
def dG (i o:Nat) (ds:List DV) (K:M β):M β:=λs=>
 match s.gP i with
 |some cs=>bif Nat.ble (o+ds.length) cs.length then K (s.set i (some ⟨false,cG cs o ds⟩))else none
 |none=>none
def ck (cells:List DV) (K:Nat->M β):M β:=λs=>K s.length (s++[some ⟨false,cells⟩])
def dx (a:Option (Nat×Nat)) (n:Nat) (K:List DV->M β):M β:=
 match a with
 |some (i,o)=>bX i o n K
 |none=>bif Nat.beq n 0 then K []else fail
def rK (a:Option (Nat×Nat)) (ds:List DV) (K:M β):M β:=
 match a with
 |some (i,o)=>dG i o ds K
 |none=>bif Nat.beq ds.length 0 then K else fail
def cw (sz:Nat) (a:Option (Nat×Nat)) (len:Nat) (ds:List DV) (m lim:Nat) (K:Option (Nat×Nat)->M β):M β:=λs=>
 bif Nat.beq m 0 then K a s else
 bif Nat.ble (len+m) lim then
  match a with
  |none=>bif Nat.beq len 0 then K (some (s.length,0)) (s++[some ⟨false,ds⟩])else none
  |some (i,o)=>match s.gP i with
   |some cs=>bif Nat.ble (o+len*sz) cs.length then K (some (s.length,0)) (s.set i none++[some ⟨false,(cs.drop o).take (len*sz)++ds⟩])else none
   |none=>none
 else none
def aB (b:Bool) (K:M β):M β:=bif b then K else fail
variable {α β:Type}
def cV (m:M α) (K:α->M β):M β:=λs=>
 match m s with
 |some (.val ds,s')=>K ds s'
 |some (.fy,s')=>some (.fy,s')
 |none=>none
def St.Xf (s s':St):Prop:=∃r,s'=s++r
open Classical in
noncomputable def tc (m:M α) (K:α->M β):M β:=λs=>
 match m s with
 |some (.val ds,s')=>if St.Xf s s' then K ds s' else none
 |_=>none
def uv (m:M α) (K:α->M β):M β:=λs=>
 match m s with
 |some (.val ds,s')=>K ds s'
 |_=>none
def vD (m:M (List DV)) (H:Bool->M β):M β:=λs=>
 match m s with
 |some (.val _,s')=>H false s'
 |some (.fy,s')=>H true s'
 |none=>none
open Classical in
noncomputable def JI (i:Nat) (m:M α):M α:=λs=>
 match m s with
 |some (.val ds,s')=>if s'[i]? =s[i]? then some (.val ds,s')else none
 |r=>r
def AH:M β:=λs=>some (.fy,s)
def gB (f:Nat->M β):M β:=λs=>f s.length s
def Z2 (b:Nat) (s:St):St:=s.take b++(s.drop b).map (λx=>x.map λk=> { k with dU:=true })
def ax (ds:β):M β:=λs=>some (.val ds,s)
def cc (b:Nat) (ds:β):M β:=λs=>some (.val ds,Z2 b s)
theorem ZxO (f:List DV->M β) (g:(List DV->M β)->M β): ∃x:M β,∀f' g',f'=f->g'=g->x=g' f':=Do
noncomputable def cT (f:List DV->M β) (g:(List DV->M β)->M β):M β:=Classical.choose (ZxO f g)
theorem Oi (f:List DV->M β) (g:(List DV->M β)->M β):cT f g=g f:=Classical.choose_spec (ZxO f g) f g rfl rfl
def cY (F:(List DV->M β)->List DV->M β):Nat->List DV->M β
 |0,_=>fail
 |n+1,st=>F (cY F n) st
def uu (d:DV) (K:Bool->M β):M β:=match d with| .bool b=>K b|_=>fail
def wg:IntKind->IntKind->Bool
 | .i8,.i8| .i16,.i16| .i32,.i32| .i64,.i64| .u8,.u8| .u16,.u16| .u32,.u32| .u64,.u64=>true
 |_,_=>false
def de (k:IntKind) (d:DV) (K:Int->M β):M β:=match d with| .int k' n=>bif wg k' k then K n else fail|_=>fail
def Cw (d:DV) (K:List UInt8->M β):M β:=match d with| .str s=>K s|_=>fail
def Cv (d:DV) (K:Option (Nat×Nat)->M β):M β:=match d with| .ptr a=>K a|_=>fail
def dz (sz:Nat) (d:DV) (K:Option (Nat×Nat)->Nat->M β):M β:=
 match d with| .slice z a n=>bif Nat.beq z sz||a.isNone then K a n else fail|_=>fail
def Wi (d:DV) (K:Nat->List DV->List DV->M β):M β:=match d with| .func g f c=>K g f c|_=>fail
def ur (d:DV) (K:List DV->M β):M β:=match d with| .agg cs=>K cs|_=>fail
def abn (d:DV) (K:Nat->M β):M β:=match d with| .nat n=>K n|_=>fail
def kP (cs:List DV) (K:DV->List DV->M β):M β:=match cs with|d::r=>K d r|[]=>fail
def aI (cs:List DV) (K:M β):M β:=match cs with|[]=>K|_=>fail
def Wh (n:Nat) (cs:List DV) (K:List DV->List DV->M β):M β:=bif Nat.ble n cs.length then K (cs.take n) (cs.drop n)else fail
def eS (cs:List DV) (i:Nat) (K:DV->M β):M β:=match cs[i]? with|some d=>K d|none=>fail
def bC (ds:List DV) (n:Nat) (K:M β):M β:=bif Nat.beq ds.length n then K else fail
def vC (pn:M β) (d:DV) (t:Nat) (K:DV->M β):M β:=match d with| .iface t' v=>bif Nat.beq t' t then K v else pn| .nilIface=>pn|_=>fail
def uq:List DV->Option (List UInt8)
 |[]=>some []
 | .int .u8 n::r=>(uq r).map (UInt8.ofNat n.toNat:: ·)
 |_=>none
def lJ (cs:List DV) (K:List UInt8->M β):M β:=match uq cs with|some l=>K l|none=>fail
def gK (st:List DV) (K:Bool->List DV->M β):M β:=kP st λd r=>uu d λx=>K x r
def aC (k:IntKind) (st:List DV) (K:Int->List DV->M β):M β:=kP st λd r=>de k d λx=>K x r
def fa (st:List DV) (K:List UInt8->List DV->M β):M β:=kP st λd r=>Cw d λx=>K x r
def rJ (st:List DV) (K:Option (Nat×Nat)->List DV->M β):M β:=kP st λd r=>Cv d λx=>K x r
def bU (sz:Nat) (st:List DV) (K:Option (Nat×Nat)->Nat->List DV->M β):M β:=kP st λd r=>dz sz d λa n=>K a n r
def Wo (st:List DV) (K:Nat->List DV->List DV->List DV->M β):M β:=kP st λd r=>Wi d λg f c=>K g f c r
def bh (st:List DV) (K:List DV->List DV->M β):M β:=kP st λd r=>ur d λx=>K x r
def abp (st:List DV) (K:Nat->List DV->M β):M β:=kP st λd r=>abn d λx=>K x r
def abo (st:List DV) (K:DV->List DV->M β):M β:=kP st K
inductive B where
 |bool|int (k:IntKind)|str|ptr|slice (sz:Nat)|func|any|fp (n:Nat)
abbrev B.i:=B.int .i64
abbrev B.w:=B.int .u64
abbrev B.u:=B.int .u8
abbrev B.y:=B.int .u32
inductive Sh where
 |b (x:B)
 |agg (l:List B)
def d1 (x:B) (d:DV) (K:DV->M β):M β:=
 match x with
 | .bool=>uu d λb=>K (.bool b)
 | .int k=>de k d λn=>K (.int k n)
 | .str=>Cw d λs=>K (.str s)
 | .ptr=>Cv d λa=>K (.ptr a)
 | .slice sz=>dz sz d λa n=>K (.slice sz a n)
 | .func=>Wi d λg f c=>K (.func g f c)
 | .any=>K d
 | .fp _=>fail
def ox:List B->List DV->(List DV->M β)->M β
 |[],cs,K=>aI cs (K [])
 |[.fp n],cs,K=>bC cs n (K cs)
 | .fp n::r,cs,K=>Wh n cs λxs rest=>ox r rest λds=>K (xs++ds)
 |x::r,cs,K=>kP cs λd rest=>d1 x d λd'=>ox r rest λds=>K (d'::ds)
def AM (x:Sh) (d:DV) (K:DV->M β):M β:=
 match x with
 | .b x=>d1 x d K
 | .agg l=>ur d λcs=>ox l cs λds=>K (.agg ds)
def CG:List Sh->List DV->(List DV->M β)->M β
 |[],cs,K=>aI cs (K [])
 |x::r,cs,K=>kP cs λd rest=>AM x d λd'=>CG r rest λds=>K (d'::ds)
def glue:List B->List B
 |[]=>[]
 | .fp n::r=>match glue r with
  | .fp m::r'=> .fp (n+m)::r'
  |r'=> .fp n::r'
 |x::r=>x::glue r
def On (P:Program):Nat->TypeId->List B
 |0,_=>[.any]
 |n+1,t=>
  match P.underlying t with
  |some .bool=>[.bool]
  |some (.int k)=>[.int k]
  |some .string=>[.str]
  |some (.pointer _)=>[.ptr]
  |some (.slice e)=>[.slice (P.cellsOf e)]
  |some (.func _ _ _)=>[.func]
  |some (.array m e)=>bif Nat.ble (m*P.cellsOf e) 8 then(List.replicate m (On P n e)).flatten else[.fp (m*P.cellsOf e)]
  |some (.struct fs)=>glue (fs.toList.flatMap λf=>On P n f.type)
  |_=>[.any]
def jv (P:Program) (t:TypeId):Bool:=
 match P.underlying t with
 |some (.struct _)|some (.array _ _)=>true
 |_=>false
def nv (P:Program) (t:TypeId):Sh:=
 bif jv P t then .agg (On P 20 t)else
 match On P 1 t with
 |[x]=> .b x
 |_=> .b .any
def adv (P:Program) (t:TypeId):Bool×List Sh:=
 match P.underlying t with
 |some (.tuple ts)=>(true,ts.toList.map (nv P))
 |_=>(false,[nv P t])
structure bE where
 P:Program
 fn:Nat->Nat
 cov:Nat->Bool
 ty:Nat->Nat
 gl:Nat->Nat
 CM:Nat->Bool
 Ey:Nat->List B
 mp:Nat->Bool
def Dn:Value->Option DV
 | .bool b=>some (.bool b)
 | .int k n=>some (.int k n)
 | .string s=>some (.str s.data.toList)
 | .pointer none=>some (.ptr none)
 | .slice none 0 0=>some (.slice 0 none 0)
 | .nilFunc=>some .nilFunc
 | .nilIface=>some .nilIface
 |_=>none
def JH:List Value->Option (List DV)
 |[]=>some []
 |v::r=>match Dn v,JH r with
  |some d,some ds=>some (d::ds)
  |_,_=>none
inductive eZ where
 |u
 |un
 |v (d:DV)
 |qR (ds:List DV)
 |loc (v n:Nat) (cs:List DV)
 |pl (r v o:Nat)
 |it (v:Nat) (s:List UInt8) (pos:Nat)
structure Env where
 bW:Nat
 l:List (Nat×eZ)
def look:List (Nat×eZ)->Nat->eZ
 |[],_=> .u
 |(k,e)::r,t=>bif Nat.beq k t then e else look r t
def Env.get (E:Env) (t:Nat):eZ:=look E.l t
def Env.put (E:Env) (t:Nat) (e:eZ):Env:=⟨E.bW,(t,e)::E.l⟩
def Env.fu (E:Env) (t:Option Nat) (e:eZ):Env:=match t with|some t=>E.put t e|none=>E
def has:List Nat->Nat->Bool
 |[],_=>false
 |k::r,t=>Nat.beq k t||has r t
def GS:List (Nat×eZ)->List Nat->List (Nat×eZ)
 |[],_=>[]
 |(k,e)::r,ts=>bif has ts k then GS r ts else(k,e)::GS r ts
def Env.del (E:Env) (ts:List Nat):Env:=⟨E.bW,GS E.l ts⟩
def Env.src (C:bE) (E:Env):Operand->eZ
 | .tmp t=>match E.get t with
  | .loc v _ _=> .pl t v 0
  | .it _ _ _=> .u
  |e=>e
 | .const v=>(match Dn v with|some d=> .v d|none=> .u)
 | .global g=>bif C.CM g then .v (.ptr (some (C.gl g,0)))else .u
 | .func f=>bif C.cov f then .v (.func (C.fn f) [] [])else .u
def fH (C:bE) (E:Env) (x:Operand) (K:DV->M β):M β:=
 match E.src C x with
 | .v d=>K d
 |_=>fail
def Bx (C:bE) (E:Env):List Operand->(List DV->M β)->M β
 |[],K=>K []
 |x::r,K=>fH C E x λd=>Bx C E r λds=>K (d::ds)
def Od (E:Env) (r v:Nat) (K:Nat->List DV->M β):M β:=
 match E.get r with
 | .loc v' n cs=>bif Nat.beq v' v then K n cs else fail
 |_=>fail
def Eu (C:bE) (E:Env) (x:Operand) (KL:Nat->Nat->Nat->M β) (KH:Nat->Nat->M β):M β:=
 match E.src C x with
 | .pl r v o=>KL r v o
 | .v (.ptr a)=>bJ a KH
 |_=>fail
def Dh (C:bE) (E:Env) (x:Operand) (K:Int->M β):M β:=fH C E x λd=>match d with| .int _ n=>K n|_=>fail
def Xi (C:bE) (E:Env) (x:Operand) (K:Bool->M β):M β:=fH C E x λd=>match d with| .bool b=>K b|_=>fail
def CH:B->DV->DV->Option Bool
 | .bool,.bool a,.bool b=>some (a==b)
 | .int k0,.int k a,.int k' b=>bif wg k0 k&&wg k k' then some (a==b)else none
 | .str,.str a,.str b=>some (a==b)
 |_,_,_=>none
def nJ:List B->List DV->List DV->Option Bool
 |[],[],[]=>some true
 |k::ks,a::r,b::r'=>match CH k a b,nJ ks r r' with
  |some x,some y=>some (x&&y)
  |_,_=>none
 |_,_,_=>none
def aef (ag:List B) (xs ys:List DV) (K:Bool->M β):M β:=match nJ ag xs ys with|some b=>K b|none=>fail
def OC (u:Option TypeDesc) (ag:List B) (a b:DV) (K:Bool->M β):M β:=
 match a,b with
 | .bool x,.bool y=>(match u with|some .bool=>K (x==y)|_=>fail)
 | .int k x,.int k' y=>bif wg k k' then K (x==y)else fail
 | .str x,.str y=>K (x==y)
 | .ptr x,.ptr none=>(match u with|some (.pointer _)=>K x.isNone|_=>fail)
 | .ptr none,.ptr x=>(match u with|some (.pointer _)=>K x.isNone|_=>fail)
 | .slice _ x _,.slice _ none _=>(match u with|some (.slice _)=>K x.isNone|_=>fail)
 | .slice _ none _,.slice _ x _=>(match u with|some (.slice _)=>K x.isNone|_=>fail)
 | .agg xs,.agg ys=>(match ag with|[]=>fail|k::ks=>(match nJ (k::ks) xs ys with|some b=>K b|none=>fail))
 |_,_=>fail
def ar (n:Int):Int:=IntKind.i64.wrap n
def bits (op:BinOp) (k:IntKind) (x y:Int):Int:=
 let a:=BitVec.ofInt k.bits x
 let b:=BitVec.ofInt k.bits y
 match op with
 | .and=>k.wrap (a&&& b).toNat
 | .or=>k.wrap (a|||b).toNat
 | .xor=>k.wrap (a^^^b).toNat
 |_=>k.wrap (a&&& ~~~b).toNat
def strLt:List UInt8->List UInt8->Bool:=Op.bytesLess
def abG (u:Option TypeDesc) (ag:List B) (op:BinOp) (a b:DV) (K:DV->M β):M β:=
 match op with
 | .eql=>OC u ag a b λr=>K (.bool r)
 | .neq=>OC u ag a b λr=>K (.bool !r)
 | .shl=>match a,b with
  | .int k x,.int _ y=>aB (decide (0<=y)) (K (.int k (k.wrap (x*2^(min y.toNat k.bits)))))
  |_,_=>fail
 | .shr=>match a,b with
  | .int k x,.int _ y=>aB (decide (0<=y)) (K (.int k (x.fdiv (2^(min y.toNat k.bits)))))
  |_,_=>fail
 |op=>match a,b with
  | .int k x,.int k' y=>bif wg k k' then
    match op with
    | .add=>K (.int k (k.wrap (x+y)))
    | .sub=>K (.int k (k.wrap (x-y)))
    | .mul=>K (.int k (k.wrap (x*y)))
    | .quo=>aB (!(y==0)) (K (.int k (k.wrap (x.tdiv y))))
    | .rem=>aB (!(y==0)) (K (.int k (x.tmod y)))
    | .and| .or| .xor| .andNot=>K (.int k (bits op k x y))
    | .lss=>K (.bool (decide (x<y)))
    | .leq=>K (.bool (decide (x<=y)))
    | .gtr=>K (.bool (decide (x>y)))
    | .geq=>K (.bool (decide (x>=y)))
    |_=>fail
   else fail
  | .str x,.str y=>
   match op with
   | .add=>aB (Nat.ble (x.length+y.length) 4611686018427387904) (K (.str (x++y)))
   | .lss=>K (.bool (strLt x y))
   | .leq=>K (.bool (strLt x y||x==y))
   | .gtr=>K (.bool !(strLt x y||x==y))
   | .geq=>K (.bool !(strLt x y))
   |_=>fail
  |_,_=>fail
def unK (op:UnOp) (a:DV) (K:DV->M β):M β:=
 match op,a with
 | .not,.bool b=>K (.bool !b)
 | .neg,.int k n=>K (.int k (k.wrap (0-n)))
 |_,_=>fail
def aP (i:Int) (n:Nat):Bool:=decide (0<=i)&&decide (i<n)
def ZV (s:List UInt8) (i:Int):Int:=((s.getD i.toNat 0).toNat:Int)
def ZM (s:List UInt8):List DV:=s.map λb=> .int .u8 b.toNat
def enc (n:Int):List UInt8:=(Utf8.encode n).data.toList
def dec (s:List UInt8) (i:Nat):Nat×Nat:=
 let at' (k:Nat):Nat:=(s.getD (i+k) 0).toNat
 let cont (k:Nat):Bool:=decide (i+k<s.length)&&at' k/64==2
 let b0:=at' 0
 if b0<0x80 then(b0,1)
 else if b0/32==6&&cont 1 then
  let c:=(b0%32)*64+at' 1%64
  if c>=0x80 then(c,2)else(Utf8.runeError,1)
 else if b0/16==14&&cont 1&&cont 2 then
  let c:=(b0%16)*4096+(at' 1%64)*64+at' 2%64
  if c>=0x800&&Utf8.valid c then(c,3)else(Utf8.runeError,1)
 else if b0/8==30&&cont 1&&cont 2&&cont 3 then
  let c:=(b0%8)*262144+(at' 1%64)*4096+(at' 2%64)*64+at' 3%64
  if c>=0x10000&&Utf8.valid c then(c,4)else(Utf8.runeError,1)
 else(Utf8.runeError,1)
def Eo (s:List UInt8) (i:Nat):Int:=((dec s i).1:Int)
def wv (s:List UInt8) (i:Nat):Nat:=(dec s i).2
def iD (n:Nat) (z:List DV):List DV:=(List.replicate n z).flatten
def yu (P:Program) (t:TypeId):Option TypeId:=match P.underlying t with|some (.slice e)=>some e|_=>none
def NA (P:Program) (t:TypeId):Nat:=match P.info? t with|some i=>i.bytes|none=>0
def Dj (P:Program) (e:TypeId):Nat:=70368744177664/(NA P e)
def nD (P:Program) (t:TypeId):Option (List DV):=match P.info? t with|some i=>(match i.zero with|some z=>JH z.cells.toList|none=>none)|none=>none
def one:DV->Bool
 | .agg _=>false
 |_=>true
def sv (P:Program) (t:TypeId) (K:M β):M β:=match P.underlying t with|some _=>K|none=>fail
def N4 (P:Program) (t:TypeId) (d:DV) (K:List DV->M β):M β:=
 sv P t (bif jv P t then(match d with| .agg cs=>bC cs (P.cellsOf t) (K cs)|_=>fail)
  else bif Nat.beq (P.cellsOf t) 1 then aB (one d) (K [d])else fail)
def zK (n m:Nat) (cs:List DV) (p:Nat) (ds:List DV):List DV:=bif Nat.beq m n&&Nat.beq p 0 then ds else cG cs p ds
def Di (E:Env) (C:bE) (N:Nat) (place:Nat->Option (Nat×Nat)):List (Nat×Operand)->List DV->(List DV->M β)->M β
 |[],cs,K=>K cs
 |(i,x)::r,cs,K=>match place i with
  |none=>fail
  |some (o,n)=>bif Nat.ble (o+n) N then fH C E x λd=>
   match d with
   | .agg ds=>bC ds n (Di E C N place r (zK N n cs o ds) K)
   |d=>bif Nat.beq n 1 then aB (one d) (Di E C N place r (cG cs o [d]) K)else fail
   else fail
def WN (P:Program) (t:TypeId):Nat->Option (Nat×Nat):=
 match P.underlying t with
 |some (.struct fs)=>λi=>match fs[i]? with|some f=>some (f.offset,P.cellsOf f.type)|none=>none
 |some (.array _ e)=>λi=>some (i*P.cellsOf e,P.cellsOf e)
 |_=>λ_=>none
def Zsz (P:Program) (t:TypeId):Bool:=
 match P.underlying t with
 |some (.struct fs)=>fs.toList.all λf=>(P.info? f.type).isSome
 |some (.array _ e)=>(P.info? e).isSome
 |_=>false
def NW (pr:List Nat) (o:Oper) (n:Nat) (cells:List DV) (E:Env) (K:Env->M β):M β:=
 match o.dst with
 |some t=>bif has pr t then K ⟨E.bW+1,(t,.loc E.bW n cells)::E.l⟩else ck cells λi=>K (E.put t (.v (.ptr (some (i,0)))))
 |none=>fail
def Jr (C:bE) (E:Env) (len:Nat) (lo hi:Option Operand) (K:Nat->Nat->M β):M β:=
 let low (h:Nat):M β:=match lo with
  |none=>K 0 h
  |some x=>Dh C E x λl=>aB (decide (0<=l)&&decide (l<=h)) (K l.toNat h)
 match hi with
 |none=>low len
 |some x=>Dh C E x λh=>aB (decide (0<=h)&&decide (h<=len)) (low h.toNat)
def GQ (lo hi:Bool) (s:List UInt8) (l h:Nat):List UInt8:=
 bif hi then(bif lo then(s.take h).drop l else s.take h)else(bif lo then s.drop l else s)
def cK (lo:Bool) (a:Option (Nat×Nat)) (k:Nat):Option (Nat×Nat):=bif lo then(match a with|some (i,o)=>some (i,k+o)|none=>none)else a
def JW (lo:Bool) (l h:Nat):Nat:=bif lo then h-l else h
def part (n:Nat) (cs:List DV) (p m:Nat):List DV:=bif Nat.beq m n&&Nat.beq p 0 then cs else(cs.drop p).take m
def tO (pr:List Nat):List Oper->Nat->Nat->Option Nat
 |_,0,_=>none
 |ops,n+1,t=>bif has pr t then some t else
  match ops.find? λo=>match o.dst with|some d=>Nat.beq d t|none=>false with
  |some o=>match o.op with
   | .fieldAddr _ (.tmp u) _| .indexAddr _ (.tmp u) _| .move (.tmp u)| .nilCheck (.tmp u)=>tO pr ops n u
   |_=>none
  |none=>none
def zB (pr:List Nat) (ops:List Oper):List Oper->List Nat
 |[]=>[]
 |o::r=>
  let m:=zB pr ops r
  let m:=match o.dst with|some d=>d::m|none=>m
  match o.op with
  | .store _ (.tmp a) _=>match tO pr ops 12 a with|some t=>t::m|none=>m
  | .next (.tmp t) _=>t::m
  |_=>m
def mP (pr:List Nat):Code->List Nat
 | .region _ ops _=>zB pr ops.toList ops.toList
 | .seq a b| .cond _ a b=>mP pr a++mP pr b
 | .block _ b| .loop b| .scope b=>mP pr b
 |_=>[]
inductive mu where
 |pure|hp|wr|call|xK (r:Nat)|qd (r:Nat)
 |lp (a:Nat)|ap (bs:List Nat)
inductive Md where
 |s
 |d (k:mu) (x:Nat)
def Md.loc:Md->Nat->Bool
 | .s,_=>true
 | .d (.xK q) _,r=>Nat.beq q r
 | .d (.qd q) _,r=>Nat.beq q r
 |_,_=>false
def Md.OD:Md->Bool
 | .s=>true
 | .d (.xK _) _=>false
 | .d (.qd _) _=>false
 |_=>true
def Md.x:Md->Nat
 | .s=>0
 | .d _ x=>x
def cls (P:Program) (pr:List Nat) (ops:List Oper) (o:Oper):mu:=
 match o.op with
 | .load _ (.tmp a)=>match tO pr ops 12 a with|some r=> .xK r|none=> .lp a
 | .load _ _=> .hp
 | .store _ (.tmp a) _=>match tO pr ops 12 a with|some r=> .qd r|none=> .ap []
 | .store .. => .wr
 | .alloc _| .box _ _| .buildSlice .. | .makeSlice .. | .convert .. | .range .. => .hp
 | .slice t .. =>match P.underlying t with|some (.array _ _)=> .hp|_=> .pure
 | .move _| .assign _| .pick .. | .build .. | .nilCheck _| .binOp .. | .unOp .. | .fieldAddr .. | .field .. | .indexAddr .. | .index .. | .extract .. | .makeInterface .. | .makeFunc .. => .pure
 | .call q=>match q.callee with
  | .builtin .len| .builtin .min| .builtin .max=> .pure
  | .builtin .append=> .ap []
  | .value _=>bif has pr 1000000 then .ap []else .call
  |_=> .wr
 | .next (.tmp t) _=> .qd t
 |_=> .wr
section
variable (C:bE) (E:Env) (o:Oper) (K:Env->M β)
def cJ (d:DV):M β:=K (E.fu o.dst (.v d))
def Bs (e:eZ):M β:=K (E.fu o.dst e)
def WZ (b y z:Operand):M β:=Xi C E b λb=>bif b then Bs E o K (E.src C y)else Bs E o K (E.src C z)
def Wd (pr:List Nat) (t:TypeId):M β:=
 match nD C.P t with
 |some z=>bif Nat.beq z.length (C.P.cellsOf t)then NW pr o (C.P.cellsOf t) z E K else fail
 |none=>fail
def aaB (pr:List Nat) (t:TypeId) (y:Operand):M β:=fH C E y λd=>N4 C.P t d λcs=>NW pr o (C.P.cellsOf t) cs E K
def Wa (t:TypeId) (ps:Array (Nat×Operand)):M β:=
 match nD C.P t with
 |some z=>bif Zsz C.P t then Di E C z.length (WN C.P t) ps.toList z λcs=>cJ E o K (.agg cs)else fail
 |none=>fail
def TZ (t:TypeId) (len:Nat) (ps:Array (Nat×Operand)):M β:=
 match yu C.P t with
 |some e=>match nD C.P e with
  |some z=>bif Nat.ble (len*C.P.cellsOf e) 100000&&Nat.beq z.length (C.P.cellsOf e)then
    Di E C (len*C.P.cellsOf e) (λi=>some (i*C.P.cellsOf e,C.P.cellsOf e)) ps.toList (iD len z) λcs=>
     ck cs λi=>cJ E o K (.slice (C.P.cellsOf e) (some (i,0)) len)
    else fail
  |none=>fail
 |none=>fail
def N6 (md:Md) (t:TypeId) (a:Operand):M β:=
 sv C.P t (Eu C E a
  (λr v p=>bif md.loc r then Od E r v λn cs=>
   match nv C.P t with
   | .b y=>eS cs p λd=>d1 y d (cJ E o K)
   | .agg _=>aB (Nat.ble (p+C.P.cellsOf t) n) (cJ E o K (.agg (part n cs p (C.P.cellsOf t))))
   else fail)
  (λi p=>bif md.OD then
   match nv C.P t with
   | .b y=>bD i p λd=>d1 y d (cJ E o K)
   | .agg l=>bX i p (C.P.cellsOf t) λcs=>ox l cs λds=>cJ E o K (.agg ds)
   else fail))
def WJ (md:Md) (ms:List Nat) (t:TypeId) (a y:Operand):M β:=
 fH C E y λd=>N4 C.P t d λds=>Eu C E a
  (λr v p=>bif has ms r&&md.loc r then Od E r v λn cs=>aB (Nat.ble (p+C.P.cellsOf t) n) (K (E.put r (.loc v n (zK n (C.P.cellsOf t) cs p ds))))else fail)
  (λi p=>bif md.OD then dG i p ds (K E)else fail)
def UT (y:Operand):M β:=Eu C E y (λr v p=>Bs E o K (.pl r v p)) (λi p=>cJ E o K (.ptr (some (i,p))))
def aaA (op:BinOp) (t:TypeId) (y z:Operand):M β:=fH C E y λa=>fH C E z λb=>abG (C.P.underlying t) (C.Ey t) op a b (cJ E o K)
def aaD (op:UnOp) (y:Operand):M β:=fH C E y λa=>unK op a (cJ E o K)
def PV (P:Program) (e:TypeId):Bool:=match P.underlying e with|some (.int .u8)=>true|_=>false
def VJ (s t:TypeId) (y:Operand):M β:=
 sv C.P s (match C.P.underlying t with
  |some (.int k)=>fH C E y λd=>(match d with| .int _ n=>cJ E o K (.int k (k.wrap n))|_=>fail)
  |some .string=>(match C.P.underlying s with
   |some (.int _)=>fH C E y λd=>(match d with| .int _ n=>cJ E o K (.str (enc n))|_=>fail)
   |some .string=>fH C E y λd=>(match d with| .str l=>cJ E o K (.str l)|_=>fail)
   |some (.slice e)=>bif PV C.P e then fH C E y λd=>(match d with
    | .slice z a n=>bif Nat.beq z 1||a.isNone then dx a n λcs=>lJ cs λl=>cJ E o K (.str l)else fail
    |_=>fail)else fail
   |_=>fail)
  |some (.slice e)=>bif PV C.P e then fH C E y λd=>(match d with
    | .str l=>ck (ZM l) λi=>cJ E o K (.slice 1 (some (i,0)) l.length)
    |_=>fail)else fail
  |_=>fail)
def Wz (t:TypeId) (y:Operand):M β:=
 match C.P.underlying t with
 |some (.interface _)=>fail
 |some _=>fH C E y λd=>cJ E o K (.iface (C.ty t) d)
 |none=>fail
def WW (f:Fn) (first cap:Array Operand):M β:=
 match f with
 | .func f=>bif C.cov f then Bx C E first.toList λfs=>Bx C E cap.toList λcs=>cJ E o K (.func (C.fn f) fs cs)else fail
 |_=>fail
def Uq (t:TypeId) (l c:Operand):M β:=
 match yu C.P t with
 |some e=>match nD C.P e with
  |some z=>bif Nat.beq z.length (C.P.cellsOf e)then Dh C E l λn=>Dh C E c λm=>
    aB (decide (0<=n)&&decide (n<=m)&&decide (m<=Dj C.P e)) (ck (iD n.toNat z) λi=>cJ E o K (.slice (C.P.cellsOf e) (some (i,0)) n.toNat))else fail
  |none=>fail
 |none=>fail
def WO (t:TypeId) (y:Operand) (lo hi:Option Operand):M β:=
 match C.P.underlying t with
 |some .string=>fH C E y λd=>(match d with
  | .str s=>Jr C E s.length lo hi λl h=>cJ E o K (.str (GQ lo.isSome hi.isSome s l h))
  |_=>fail)
 |some (.slice e)=>sv C.P e (fH C E y λd=>(match d with
  | .slice z a n=>bif Nat.beq z (C.P.cellsOf e)||a.isNone then Jr C E n lo hi λl h=>cJ E o K (.slice z (cK lo.isSome a (l*C.P.cellsOf e)) (JW lo.isSome l h))else fail
  |_=>fail))
 |some (.array m e)=>sv C.P e (fH C E y λd=>(match d with
  | .ptr a=>bJ a λi p=>bX i p (m*C.P.cellsOf e) λ_=>Jr C E m lo hi λl h=>cJ E o K (.slice (C.P.cellsOf e) (cK lo.isSome (some (i,p)) (l*C.P.cellsOf e)) (JW lo.isSome l h))
  |_=>fail))
 |_=>fail
def MK (t:TypeId) (y:Operand) (f:Nat):M β:=
 match C.P.underlying t with
 |some (.struct fs)=>(match fs[f]? with
  |some f=>bif Nat.beq (C.P.cellsOf f.type) 0 then fail else Eu C E y (λr v p=>Bs E o K (.pl r v (p+f.offset))) (λi p=>cJ E o K (.ptr (some (i,p+f.offset))))
  |none=>fail)
 |_=>fail
def V8 (t:TypeId) (y:Operand) (f:Nat):M β:=
 match C.P.underlying t with
 |some (.struct fs)=>(match fs[f]? with
  |some f=>sv C.P f.type (fH C E y λd=>(match d with
   | .agg cs=>bif jv C.P f.type then cJ E o K (.agg ((cs.drop f.offset).take (C.P.cellsOf f.type)))else eS cs f.offset λd=>AM (nv C.P f.type) d (cJ E o K)
   |_=>fail))
  |none=>fail)
 |_=>fail
def TQ (t:TypeId) (y i:Operand):M β:=
 Dh C E i λn=>match C.P.underlying t with
 |some (.slice e)=>sv C.P e (fH C E y λd=>(match d with
  | .slice z a m=>bif Nat.beq z (C.P.cellsOf e)||a.isNone then bJ a λj p=>aB (aP n m) (cJ E o K (.ptr (some (j,n.toNat*C.P.cellsOf e+p))))else fail
  |_=>fail))
 |some (.array m e)=>sv C.P e (Eu C E y
  (λr v p=>aB (aP n m) (Bs E o K (.pl r v (n.toNat*C.P.cellsOf e+p))))
  (λj p=>aB (aP n m) (cJ E o K (.ptr (some (j,n.toNat*C.P.cellsOf e+p))))))
 |_=>fail
def V7 (t:TypeId) (y i:Operand):M β:=
 Dh C E i λn=>fH C E y λd=>match C.P.underlying t,d with
 |some .string,.str s=>aB (aP n s.length) (cJ E o K (.int .u8 (ZV s n)))
 |some (.array m e),.agg cs=>sv C.P e (aB (aP n m) (bif jv C.P e then cJ E o K (.agg ((cs.drop (n.toNat*C.P.cellsOf e)).take (C.P.cellsOf e)))else eS cs (n.toNat*C.P.cellsOf e) λd=>AM (nv C.P e) d (cJ E o K)))
 |_,_=>fail
def Wv (t:TypeId) (y:Operand):M β:=
 match C.P.underlying t with
 |some .string=>fH C E y λd=>match d,o.dst with
  | .str s,some t=>K ⟨E.bW+1,(t,.it E.bW s 0)::E.l⟩
  |_,_=>fail
 |_=>fail
def W5 (ms:List Nat) (t:Nat):M β:=
 match E.get t,o.dst with
 | .it v s p,some d=>bif Nat.beq d t|| !has ms t then fail else
   bif Nat.blt p s.length then K ((E.put t (.it v s (p+wv s p))).put d (.qR [.bool true,.int .i64 p,.int .i32 (Eo s p)]))
   else K (E.put d (.qR [.bool false]))
 |_,_=>fail
def LF (md:Md):M β:=bif Nat.beq md.x 0 then AH else fail
def VW (md:Md) (t:TypeId) (y:Operand):M β:=
 match C.P.underlying t with
 |some (.interface _)=>fail
 |some _=>fH C E y λd=>vC (LF md) d (C.ty t) λd=>AM (nv C.P t) d (cJ E o K)
 |none=>fail
def Vy (t i:Nat):M β:=
 match E.get t with
 | .qR ds=>(match ds[i]? with|some d=>cJ E o K d|none=>fail)
 |_=>fail
def Wb (md:Md) (y:Operand):M β:=fH C E y λd=>match d with| .iface _ _=>LF md|_=>fail
noncomputable def Ov (md:Md) (m:M (List DV)) (K:List DV->M β):M β:=
 match md.x with
 |0=>cV m K
 |1=>uv m K
 |_=>tc m K
def Md.bs:Md->List Nat
 | .d (.ap bs) _=>bs
 |_=>[]
noncomputable def GP (E:Env):List Nat->M (List DV)->M (List DV)
 |[],m=>m
 |b::r,m=>match E.get b with
  | .v (.ptr (some (i,_)))=>JI i (GP E r m)
  |_=>fail
noncomputable def W2 (md:Md) (c:Zg) (f:Operand) (as:Array Operand):M β:=
 fH C E f λfv=>Bx C E as.toList λas=>match fv with
 | .func g fs cs=>match adv C.P o.type with
  |(true,LM)=>bif Nat.beq LM.length 1 then fail else Ov md (GP E md.bs (c g (fs++as++cs))) λds=>CG LM ds λds=>Bs E o K (.qR ds)
  |(false,LM)=>Ov md (GP E md.bs (c g (fs++as++cs))) λds=>CG LM ds λds=>match ds with|[d]=>cJ E o K d|_=>fail
 |_=>fail
def aaC (ts:Array TypeId) (as:Array Operand):M β:=
 match as.toList,ts[0]? with
 |[y],some t=>(match C.P.underlying t with
  |some (.array m _)=>cJ E o K (.int .i64 m)
  |some .string=>fH C E y λd=>(match d with| .str s=>cJ E o K (.int .i64 s.length)|_=>fail)
  |some (.slice _)=>fH C E y λd=>(match d with| .slice _ _ n=>cJ E o K (.int .i64 n)|_=>fail)
  |_=>fail)
 |_,_=>fail
def aax (P:Program) (ts:Array TypeId) (K:M β):M β:=
 match ts[1]? with
 |none=>K
 |some t=>match P.underlying t with
  |some (.int _)=>fail
  |some _=>K
  |none=>fail
def VM (ts:Array TypeId) (as:Array Operand):M β:=
 match as.toList,ts[0]? with
 |[y,z],some t=>(match yu C.P t with
  |some e=>sv C.P e (aax C.P ts (match nD C.P e with
   |some zv=>bif !Nat.beq zv.length (C.P.cellsOf e)then fail else fH C E y λa=>fH C E z λb=>(match a,b with
    | .slice w p n,.slice w' p' m=>bif (Nat.beq w (C.P.cellsOf e)||p.isNone)&&(Nat.beq w' (C.P.cellsOf e)||p'.isNone)then
      dx p' (m*C.P.cellsOf e) λds=>cw (C.P.cellsOf e) p n ds m (Dj C.P e) λHP=>cJ E o K (.slice (C.P.cellsOf e) HP (n+m))else fail
    | .slice w p n,.str l=>bif (Nat.beq w 1||p.isNone)&&Nat.beq (C.P.cellsOf e) 1 then cw 1 p n (ZM l) l.length (Dj C.P e) λHP=>cJ E o K (.slice 1 HP (n+l.length))else fail
    |_,_=>fail)
   |none=>fail))
  |none=>fail)
 |_,_=>fail
def WV (ts:Array TypeId) (as:Array Operand):M β:=
 match as.toList,ts[0]? with
 |[y,z],some t=>(match yu C.P t with
  |some e=>sv C.P e (fH C E y λa=>fH C E z λb=>(match a,b with
   | .slice w p n,.slice w' p' m=>bif (Nat.beq w (C.P.cellsOf e)||p.isNone)&&(Nat.beq w' (C.P.cellsOf e)||p'.isNone)then dx p' (min m n*C.P.cellsOf e) λds=>rK p ds (cJ E o K (.int .i64 (min m n)))else fail
   | .slice w p n,.str l=>bif (Nat.beq w 1||p.isNone)&&Nat.beq (C.P.cellsOf e) 1 then rK p (ZM (l.take n)) (cJ E o K (.int .i64 (min l.length n)))else fail
   |_,_=>fail))
  |none=>fail)
 |_,_=>fail
def Qa (mx:Bool) (as:Array Operand):M β:=
 match as.toList with
 |[y,z]=>fH C E y λa=>fH C E z λb=>(match a,b with
  | .int k a,.int k' b=>bif wg k k' then cJ E o K (.int k (bif mx then(if a<b then b else a)else(if b<a then b else a)))else fail
  |_,_=>fail)
 |_=>fail
def Wt (ts:Array TypeId) (as:Array Operand):M β:=
 match as.toList,ts[0]? with
 |[y],some t=>(match yu C.P t with
  |some e=>fH C E y λa=>(match a,nD C.P e with
   | .slice w p n,some z=>bif (Nat.beq w (C.P.cellsOf e)||p.isNone)&&Nat.beq z.length (C.P.cellsOf e)then rK p (iD n z) (Bs E o K (.qR []))else fail
   |_,_=>fail)
  |none=>fail)
 |_,_=>fail
end
def apart (p:Option (Nat×Nat)) (i:Nat):Bool:=match p with|some (j,_)=> !Nat.beq i j|none=>true
def JT (E:Env) (p:Option (Nat×Nat)):List Nat->M β->M β
 |[],K=>K
 |b::r,K=>match E.get b with
  | .v (.ptr (some (i,_)))=>aB (apart p i) (JT E p r K)
  |_=>fail
def W8 (C:bE) (E:Env) (bs:List Nat) (as:Array Operand) (X:M β):M β:=
 match bs with
 |[]=>X
 |b::r=>match as.toList with
  |y::_=>fH C E y λa=>(match a with| .slice _ p _=>JT E p (b::r) X|_=>fail)
  |_=>fail
def stK (C:bE) (E:Env) (bs:List Nat) (a:Operand) (X:M β):M β:=
 match bs with
 |[]=>X
 |b::r=>match E.src C a with
  | .v (.ptr p)=>JT E p (b::r) X
  |_=>fail
noncomputable def fP (C:bE) (pr ms:List Nat) (md:Md) (c:Zg) (o:Oper) (E:Env) (K:Env->M β):M β:=
 match o.op with
 | .move y| .assign y=>Bs E o K (E.src C y)
 | .pick b y z=>WZ C E o K b y z
 | .alloc t=>Wd C E o K pr t
 | .box t y=>aaB C E o K pr t y
 | .build t ps=>Wa C E o K t ps
 | .buildSlice t len ps=>TZ C E o K t len ps
 | .load t a=>N6 C E o K md t a
 | .store t a y=>bif o.dst.isNone then stK C E md.bs a (WJ C E K md ms t a y)else fail
 | .nilCheck y=>UT C E o K y
 | .binOp op t y z _=>aaA C E o K op t y z
 | .unOp op _ y=>aaD C E o K op y
 | .convert s t y=>VJ C E o K s t y
 | .makeInterface t y=>Wz C E o K t y
 | .makeFunc f first cap=>WW C E o K f first cap
 | .makeSlice t l c=>Uq C E o K t l c
 | .slice t y lo hi none=>WO C E o K t y lo hi
 | .fieldAddr t y f=>MK C E o K t y f
 | .field t y f=>V8 C E o K t y f
 | .indexAddr t y i=>TQ C E o K t y i
 | .index t y i=>V7 C E o K t y i
 | .range t y=>Wv C E o K t y
 | .next (.tmp t) true=>W5 E o K ms t
 | .typeAssert y _ t false=>VW C E o K md t y
 | .extract (.tmp t) i=>Vy E o K t i
 | .panic y=>Wb C E md y
 | .call q=>match q.callee with
  | .value f=>W2 C E o K md c f q.args
  | .builtin .len=>aaC C E o K q.argTypes q.args
  | .builtin .append=>W8 C E md.bs q.args (VM C E o K q.argTypes q.args)
  | .builtin .copy=>WV C E o K q.argTypes q.args
  | .builtin .min=>Qa C E o K false q.args
  | .builtin .max=>Qa C E o K true q.args
  | .builtin .clear=>Wt C E o K q.argTypes q.args
  |_=>fail
 |_=>fail
def Br (C:bE) (E:Env) (x:Operand) (K:Nat->Nat->M β):M β:=match E.src C x with
 | .v (.ptr (some (i,p)))=>K i p
 |_=>fail
def yD (i p:Nat) (K:IntKind->Int->M β):M β:=bD i p λd=>match d with
 | .int k n=>K k n
 |_=>fail
def iE (i p:Nat) (k:IntKind) (n:Int) (K:M β):M β:=bD i p λd=>match d with
 | .int k' n'=>bif wg k k'&&(n==n')then K else fail
 |_=>fail
def gW:List (Oper×Md)->List Nat
 |[]=>[]
 |(o,_)::r=>match o.dst with|some d=>d::gW r|none=>gW r
def Eg (r:Nat):List (Oper×Md)->List (Oper×Md)->Option (List (Oper×Md)×Oper×List (Oper×Md))
 |_,[]=>none
 |acc,(o,x)::rest=>match o.op with
  | .pick (.tmp t) _ _=>bif Nat.beq t r then some (acc.reverse,o,rest)else Eg r ((o,x)::acc) rest
  |_=>Eg r ((o,x)::acc) rest
def OJ:List (Nat×Bool)->Nat×Bool->Bool
 |[],_=>false
 |(k,b)::r,g=>(Nat.beq k g.1&&(b==g.2))||OJ r g
def OK (act:List (Nat×Bool)):Option (Nat×Bool)->Bool
 |none=>true
 |some g=>OJ act g
def EA (pr:List Nat) (dst:Nat->Option Nat) (j:Nat) (w:Bool) (r:Nat):List Nat->List (Oper×Md)->Bool
 |_,[]=>true
 |aaR,(o,_)::rest=>
  (match o.op with
   | .store .. | .next .. | .range .. =>false
   | .alloc _| .box _ _=>(match o.dst with|some d=> !has pr d|none=>false)
   |_=>true)&&
  (match o.guard with
   |none=>false
   |some (j',w')=>(Nat.beq j' j&&(w'==w))||(match dst j' with|some d=>has aaR d|none=>false))&&
  (match o.dst with
   |some d=> !Nat.beq d r&&EA pr dst j w r (d::aaR) rest
   |none=>EA pr dst j w r aaR rest)
noncomputable def uk (C:bE) (pr ms:List Nat) (c:Zg) (dst:Nat->Option Nat):Nat->List (Oper×Md)->List (Nat×Bool)->Env->(Env->M β)->M β
 |_,[],_,E,K=>K E
 |0,_::_,_,_,_=>fail
 |n+1,(o,x)::rest,act,E,K=>
  bif OK act o.guard then fP C pr ms x c o E λE'=>uk C pr ms c dst n rest act E' K
  else match o.guard with
   |none=>fail
   |some (j,w)=>match dst j with
    |none=>fail
    |some r=>match E.get r,Eg r [] ((o,x)::rest)with
     | .v (.bool b),some (eW,pk,oQ)=>match pk.op,pk.dst with
      | .pick _ y z,some t=>
       bif OK act pk.guard&&EA pr dst j w r [] eW then
        cT (λst=>kP st λd st=>uu d λv=>aI st (uk C pr ms c dst n oQ act ((E.del (gW eW)).put t (.v (.bool v))) K))
         λjk=>
          let yes:M β:=uk C pr ms c dst n eW ((j,w)::act) (E.put r (.v (.bool w))) λE1=>fH C E1 (bif w then y else z) λd=>jk [d]
          let no:M β:=fH C ((E.del (gW eW)).put r (.v (.bool !w))) (bif w then z else y) λd=>jk [d]
          bif w then(bif b then yes else no)else(bif b then no else yes)
       else fail
      |_,_=>fail
     |_,_=>fail
def AK:mu->mu->Bool
 | .pure,_|_,.pure=>false
 | .qd r,.xK q| .xK r,.qd q| .qd r,.qd q=>Nat.beq r q
 | .xK _,_|_,.xK _| .qd _,_|_,.qd _=>false
 | .ap bs,.lp b| .lp b,.ap bs=> !has bs b
 | .wr,_|_,.wr| .ap _,_|_,.ap _=>true
 | .call,.call=>true
 |_,_=>false
def WT:mu->mu->Bool
 | .ap _,.lp _=>true
 |k,k'=>AK k k'
structure gN where
 bf:Nat
 k:mu
 dst:Option Nat
 lk:Nat
def GK (o:Oper) (acc:List Nat):Nat:=o.after.toList.foldl (λm e=>bif Region.binds .any e then m|||2^e.on|||acc.getD e.on 0 else m) 0
def sh (pr:List Nat) (ops:List Oper) (o:Oper):Nat:=
 let m:=o.op.operands.toList.foldl (λm x=>match x with| .tmp t=>m|||2^t|_=>m) 0
 let m:=match o.guard with
  |some (j,_)=>(match ops[j]? with|some g=>(match g.dst with|some t=>m|||2^t|none=>m)|none=>m)
  |none=>m
 match o.op with
 | .load _ (.tmp a)=>(match tO pr ops 12 a with|some r=>m|||2^r|none=>m)
 | .store _ (.tmp a) _=>(match tO pr ops 12 a with|some r=>m|||2^r|none=>m)
 |_=>m
def JQ (m:Nat):Nat->List Oper->List Nat
 |_,[]=>[]
 |j,o::r=>match o.op with
  | .load _ (.tmp b)=>bif m.testBit j then JQ m (j+1) r else b::JQ m (j+1) r
  |_=>JQ m (j+1) r
def zA (b:Nat) (o:Oper):Bool:=match o.op with
 | .load _ (.tmp a)=>Nat.beq a b
 |_=>false
def Lo (b:Nat):List Oper->Bool
 |[]=>true
 |o::r=>bif zA b o then(o::r).all (λo=>match o.dst with|some d=> !Nat.beq d b|none=>true)else Lo b r
def wx (pr:List Nat) (ops:List Oper) (k m:Nat):mu->mu
 | .ap _=> .ap ((JQ m 0 (ops.take k)).filter λb=>Lo b (ops.take k)&&(tO pr ops 12 b).isNone)
 |c=>c
def sj (P:Program) (pr:List Nat) (ops:List Oper):List Oper->List Nat->List gN
 |[],_=>[]
 |o::r,acc=>let b:=GK o acc;⟨b,wx pr ops acc.length b (cls P pr ops o),o.dst,sh pr ops o⟩::sj P pr ops r (acc++[b])
def Oz (d:Option Nat) (m:Nat):Bool:=match d with|some t=>m.testBit t|none=>false
def Xq (d e:Option Nat):Bool:=match d,e with|some t,some u=>Nat.beq t u|_,_=>false
def Of (i:Nat) (p:gN):List gN->Bool
 |[]=>true
 |q::r=>(q.bf.testBit i||(!WT p.k q.k&& !Oz p.dst q.lk&& !Oz q.dst p.lk&& !Xq p.dst q.dst))&&Of i p r
def Fw:Nat->List gN->List Oper->Bool
 |_,[],_=>true
 |_,_::_,[]=>false
 |i,p::r,o::os=>Nat.blt p.bf (2^i)&&(match o.guard with|some (j,_)=>p.bf.testBit j|none=>true)&&Of i p r&&Fw (i+1) r os
def wQ (i bi:Nat) (f:mu->Bool):Nat->List gN->Bool
 |_,[]=>false
 |j,q::r=>(!Nat.beq i j&& !q.bf.testBit i&& !bi.testBit j&&f q.k)||wQ i bi f (j+1) r
def HN:mu->Bool
 | .hp=>true
 | .lp _=>true
 |_=>false
def Er:mu->Bool
 | .pure=>true
 | .xK _=>true
 |_=>false
def Ch (i bi:Nat):Nat->List gN->Bool
 |_,[]=>false
 |j,q::r=>(!Nat.beq i j&& !q.bf.testBit i&& !bi.testBit j&& !(Nat.blt j i&&Er q.k))||Ch i bi (j+1) r
def mpO (mp:Nat->Bool) (o:Oper):Bool:=match o.op with
 | .call q=>(match q.callee with
  | .value (.func f)=>mp f
  |_=>false)
 |_=>false
def flags (mp:Nat->Bool) (all:List gN):Nat->List gN->List Oper->List (Oper×Md)
 |_,[],_=>[]
 |_,_,[]=>[]
 |i,p::r,o::os=>
  (o,.d p.k (bif wQ i p.bf (λ_=>true) 0 all then(bif mpO mp o&& !Ch i p.bf 0 all then 0 else(match p.k with| .call=>(bif wQ i p.bf HN 0 all then 2 else 1)|_=>1))else 0))::flags mp all (i+1) r os
noncomputable def Ql (C:bE) (pr:List Nat) (c:Zg) (ops:Array Oper) (draw:Bool) (E:Env) (K:Env->M β):M β:=
 let l:=ops.toList
 let ms:=zB pr l l
 let dst (j:Nat):Option Nat:=match l[j]? with|some o=>o.dst|none=>none
 bif draw then
  let is:=sj C.P pr l l []
  bif Fw 0 is l then uk C pr ms c dst l.length (flags C.mp is 0 is l) [] E K else fail
 else uk C pr ms c dst l.length (l.map λo=>(o,.s)) [] E K
inductive JS where
 |v (x:Sh)
 |l (x:List B)
 |t
inductive qZ where
 |z
 |n (a b:qZ)
 |j (J:List (Nat×JS)) (a b:qZ)
def qZ.a:qZ->qZ| .n a _=>a| .j _ a _=>a| .z=> .z
def qZ.b:qZ->qZ| .n _ b=>b| .j _ _ b=>b| .z=> .z
def tn (E0 E:Env):List (Nat×JS)->(List DV->M β)->M β
 |[],K=>K []
 |(t,x)::r,K=>match x,E.get t with
  | .v _,.v d=>tn E0 E r λds=>K (d::ds)
  | .l _,.loc v _ cs=>(match E0.get t with| .loc v0 _ _=>bif Nat.beq v0 v then tn E0 E r λds=>K (.agg cs::ds)else fail|_=>fail)
  | .t,.it v _ p=>(match E0.get t with| .it v0 _ _=>bif Nat.beq v0 v then tn E0 E r λds=>K (.nat p::ds)else fail|_=>fail)
  |_,_=>fail
def tK (E:Env):List (Nat×JS)->List DV->Env->(Env->M β)->M β
 |[],st,E1,K=>aI st (K E1)
 |(t,x)::r,st,E1,K=>kP st λd rest=>match x,E.get t with
  | .v x,_=>AM x d λd=>tK E r rest (E1.put t (.v d)) K
  | .l x,.loc v n _=>ur d λcs=>ox x cs λcs=>tK E r rest (E1.put t (.loc v n cs)) K
  | .t,.it v s _=>abn d λp=>tK E r rest (E1.put t (.it v s p)) K
  |_,_=>fail
def Dq (ix:List Nat):List (Nat×JS)->Bool
 |[]=>true
 |(t,_)::r=>has ix t&&Dq ix r
noncomputable def aak (E:Env) (ix:List Nat) (J:List (Nat×JS)) (K:Env->M β) (g:((Env->M β)->M β)):M β:=
 bif Dq ix J then cT (λst=>tK E J st (E.del ix) K) λjk=>g λE1=>tn E E1 J jk else fail
noncomputable def exec (C:bE) (pr:List Nat) (c:Zg) (n:Nat):Code->qZ->(Env->M β)->(Nat->Env->M β)->(Env->M β)->Env->M β
 | .skip,_,kn,_,_,E=>kn E
 | .seq a b,A,kn,kx,kr,E=>exec C pr c n a A.a (λE'=>exec C pr c n b A.b kn kx kr E') kx kr E
 | .region _ ops d,_,kn,_,_,E=>Ql C pr c ops d E kn
 | .cond x a b,A,kn,kx,kr,E=>Xi C E x λv=>
   match A with
   | .j J A1 A2=>aak E (mP pr a++mP pr b) J kn λjk=>bif v then exec C pr c n a A1 jk kx kr E else exec C pr c n b A2 jk kx kr E
   |A=>bif v then exec C pr c n a A.a kn kx kr E else exec C pr c n b A.b kn kx kr E
 | .block id body,A,kn,kx,kr,E=>
   match A with
   | .j J A1 _=>aak E (mP pr body) J kn λjk=>exec C pr c n body A1 jk (λi E1=>bif Nat.beq i id then jk E1 else kx i E1) kr E
   |A=>exec C pr c n body A.a kn (λi E1=>bif Nat.beq i id then kn E1 else kx i E1) kr E
 | .loop body,A,_,kx,kr,E=>
   match A with
   | .j J A1 _=>bif Dq (mP pr body) J then tn E E J λst=>cY (λrec st=>tK E J st (E.del (mP pr body)) λE1=>exec C pr c n body A1 (λE2=>tn E E2 J rec) kx kr E1) n st else fail
   |_=>fail
 | .exit id,_,_,kx,_,E=>kx id E
 | .ret,_,_,_,kr,E=>kr E
 |_,_,_,_,_,_=>fail
def okO (ok:Nat->Bool):List Oper->Bool
 |[]=>true
 |o::r=>(match o.dst with|some d=>ok d|none=>true)&&okO ok r
def zD (ok:Nat->Bool):Code->Bool
 | .region _ ops _=>okO ok ops.toList
 | .seq a b| .cond _ a b=>zD ok a&&zD ok b
 | .block _ b| .loop b| .scope b=>zD ok b
 |_=>true
def tI (n d:Nat):Bool:=Nat.blt d n
structure FA where
 pr:List Nat
 JP:qZ
 dU:Bool
def wu (C:bE) (E:Env):List ResultVar->(List DV->M β)->M β
 |[],K=>K []
 | .tmp t::r,K=>fH C E (.tmp t) λd=>wu C E r λds=>K (d::ds)
 | .cell a t::r,K=>match E.get a with
  | .loc _ n cs=>sv C.P t (bif jv C.P t then(bif Nat.beq n (C.P.cellsOf t)then wu C E r λds=>K (.agg cs::ds)else fail)else eS cs 0 λd=>wu C E r λds=>K (d::ds))
  |_=>fail
def kD:Nat->List DV->List (Nat×eZ)
 |_,[]=>[]
 |t,d::r=>(t,.v d)::kD (t+1) r
noncomputable def vE (C:bE) (A:FA) (fn:Func) (c:Zg) (n:Nat) (args:List DV):M (List DV):=
 match fn.body with
 |some code=>bif zD (tI fn.ntmps) code&&Nat.ble (fn.params.size+fn.nfree) fn.ntmps then CG (fn.params.toList.map (nv C.P)++List.replicate fn.nfree (.b .ptr)) args λds=>
   bif A.dU then gB λb=>
    let kr (E:Env):M (List DV):=wu C E fn.results.toList λds=>cc b ds
    exec C A.pr c n code A.JP kr (λ_ _=>fail) kr ⟨0,kD 0 ds⟩
   else
    let kr (E:Env):M (List DV):=wu C E fn.results.toList λds=>ax ds
    exec C A.pr c n code A.JP kr (λ_ _=>fail) kr ⟨0,kD 0 ds⟩
   else fail
 |none=>fail
abbrev Zh:=Nat->Zg->Nat->List DV->M (List DV)
def run (Bd:Zh):Nat->Zg
 |0,_,_=>fail
 |n+1,g,args=>Bd g (run Bd n) n args
noncomputable def mq (m:M (List DV)) (K:Int->M β):M β:=uv m λds=>aC .i64 ds λa0 r0=>aI r0<|K a0
noncomputable def Aa (m:M (List DV)) (K:List UInt8->M β):M β:=uv m λds=>fa ds λa0 r0=>aI r0<|K a0
noncomputable def tY (m:M (List DV)) (K:Int->M β):M β:=tc m λds=>aC .i64 ds λa0 r0=>aI r0<|K a0
noncomputable def Ed (m:M (List DV)) (K:Int->M β):M β:=tc m λds=>aC .u64 ds λa0 r0=>aI r0<|K a0
noncomputable def jI (m:M (List DV)) (K:List UInt8->M β):M β:=tc m λds=>fa ds λa0 r0=>aI r0<|K a0
noncomputable def C_ (m:M (List DV)) (K:M β):M β:=cV m λds=>aI ds<|K
noncomputable def Ah (m:M (List DV)) (K:Int->Int->Int->Int->Int->Int->Int->Int->Option (Nat×Nat)->Nat->Bool->M β):M β:=cV m λds=>bh ds λq1 r0=>aC .i64 q1 λa0 r2=>aC .i64 r2 λa1 r3=>aC .i64 r3 λa2 r4=>aC .i64 r4 λa3 r5=>aC .i64 r5 λa4 r6=>aC .i64 r6 λa5 r7=>aC .i64 r7 λa6 r8=>aC .i64 r8 λa7 r9=>bU 1 r9 λa8 a9 mS=>aI mS<|gK r0 λgv sm=>aI sm<|K a0 a1 a2 a3 a4 a5 a6 a7 a8 a9 gv
noncomputable def My (m:M (List DV)) (K:Int->Int->Int->Int->Int->Int->Int->Int->Option (Nat×Nat)->Nat->Int->Bool->M β):M β:=cV m λds=>bh ds λq1 r0=>aC .i64 q1 λa0 r2=>aC .i64 r2 λa1 r3=>aC .i64 r3 λa2 r4=>aC .i64 r4 λa3 r5=>aC .i64 r5 λa4 r6=>aC .i64 r6 λa5 r7=>aC .i64 r7 λa6 r8=>aC .i64 r8 λa7 r9=>bU 1 r9 λa8 a9 mS=>aI mS<|aC .i64 r0 λgv sm=>gK sm λkC Fy=>aI Fy<|K a0 a1 a2 a3 a4 a5 a6 a7 a8 a9 gv kC
noncomputable def IY (m:M (List DV)) (K:Int->Int->Int->Int->Int->Int->M β):M β:=cV m λds=>bh ds λq1 r0=>aC .i64 q1 λa0 r2=>aC .i64 r2 λa1 r3=>aC .i64 r3 λa2 r4=>aC .i64 r4 λa3 r5=>aC .i64 r5 λa4 r6=>aI r6<|aC .i64 r0 λa5 r7=>aI r7<|K a0 a1 a2 a3 a4 a5
noncomputable def Ge (m:M (List DV)) (K:Int->Int->Int->Int->Option (Nat×Nat)->Nat->Bool->M β):M β:=cV m λds=>bh ds λq1 r0=>aC .i64 q1 λa0 r2=>aC .i64 r2 λa1 r3=>aC .i64 r3 λa2 r4=>aC .i64 r4 λa3 r5=>bU 1 r5 λa4 a5 r6=>aI r6<|gK r0 λa6 r7=>aI r7<|K a0 a1 a2 a3 a4 a5 a6
noncomputable def yf (m:M (List DV)) (K:Int->Int->Int->Option (Nat×Nat)->Nat->Option (Nat×Nat)->Nat->Option (Nat×Nat)->Nat->Option (Nat×Nat)->Int->M β):M β:=cV m λds=>bh ds λq1 r0=>aC .i64 q1 λa0 r2=>aC .i64 r2 λa1 r3=>aC .i64 r3 λa2 r4=>bU 2 r4 λa3 a4 r5=>bU 1 r5 λa5 a6 r6=>bU 1 r6 λa7 a8 r7=>aI r7<|rJ r0 λa9 r8=>aC .i64 r8 λgv r9=>aI r9<|K a0 a1 a2 a3 a4 a5 a6 a7 a8 a9 gv
noncomputable def bu (m:M (List DV)) (K:Bool->M β):M β:=cV m λds=>gK ds λa0 r0=>aI r0<|K a0
noncomputable def vd (m:M (List DV)) (K:DV->M β):M β:=cV m λds=>abo ds λa0 r0=>aI r0<|K a0
noncomputable def cA (m:M (List DV)) (K:Int->M β):M β:=cV m λds=>aC .i64 ds λa0 r0=>aI r0<|K a0
noncomputable def sR (m:M (List DV)) (K:Int->Int->Option (Nat×Nat)->Nat->Bool->M β):M β:=cV m λds=>aC .i64 ds λa0 r0=>aC .i64 r0 λa1 r1=>bU 1 r1 λa2 a3 r2=>gK r2 λa4 r3=>aI r3<|K a0 a1 a2 a3 a4
noncomputable def vy (m:M (List DV)) (K:Int->Int->List UInt8->Bool->M β):M β:=cV m λds=>aC .i64 ds λa0 r0=>aC .i64 r0 λa1 r1=>fa r1 λa2 r2=>gK r2 λa3 r3=>aI r3<|K a0 a1 a2 a3
noncomputable def ta (m:M (List DV)) (K:Int->M β):M β:=cV m λds=>aC .u32 ds λa0 r0=>aI r0<|K a0
noncomputable def vv (m:M (List DV)) (K:Int->M β):M β:=cV m λds=>aC .u64 ds λa0 r0=>aI r0<|K a0
noncomputable def il (m:M (List DV)) (K:Option (Nat×Nat)->Nat->M β):M β:=cV m λds=>bU 1 ds λa0 a1 r0=>aI r0<|K a0 a1
noncomputable def Mx (m:M (List DV)) (K:Option (Nat×Nat)->Nat->Int->Int->Int->Int->Int->Int->Int->Int->Option (Nat×Nat)->Nat->Bool->M β):M β:=cV m λds=>bU 1 ds λa0 a1 r0=>bh r0 λq2 r1=>aC .i64 q2 λa2 r3=>aC .i64 r3 λa3 r4=>aC .i64 r4 λa4 r5=>aC .i64 r5 λa5 r6=>aC .i64 r6 λa6 r7=>aC .i64 r7 λa7 r8=>aC .i64 r8 λa8 r9=>aC .i64 r9 λa9 mS=>bU 1 mS λgv kC sm=>aI sm<|gK r1 λa12 Fy=>aI Fy<|K a0 a1 a2 a3 a4 a5 a6 a7 a8 a9 gv kC a12
noncomputable def qh (m:M (List DV)) (K:Option (Nat×Nat)->Nat->Bool->M β):M β:=cV m λds=>bU 1 ds λa0 a1 r0=>gK r0 λa2 r1=>aI r1<|K a0 a1 a2
noncomputable def Gx (m:M (List DV)) (K:Option (Nat×Nat)->Nat->Option (Nat×Nat)->Nat->Bool->M β):M β:=cV m λds=>bU 4 ds λa0 a1 r0=>bU 1 r0 λa2 a3 r1=>gK r1 λa4 r2=>aI r2<|K a0 a1 a2 a3 a4
noncomputable def Ab (m:M (List DV)) (K:Option (Nat×Nat)->M β):M β:=cV m λds=>rJ ds λa0 r0=>aI r0<|K a0
noncomputable def iT (m:M (List DV)) (K:List UInt8->M β):M β:=cV m λds=>fa ds λa0 r0=>aI r0<|K a0
noncomputable def ve (m:M (List DV)) (K:List UInt8->Bool->M β):M β:=cV m λds=>fa ds λa0 r0=>gK r0 λa1 r1=>aI r1<|K a0 a1
noncomputable def yd (st:List DV) (K:Int->Int->Int->Int->Int->Int->Int->Int->Option (Nat×Nat)->Nat->M β):M β:=bh st λq1 r0=>aC .i64 q1 λa0 r2=>aC .i64 r2 λa1 r3=>aC .i64 r3 λa2 r4=>aC .i64 r4 λa3 r5=>aC .i64 r5 λa4 r6=>aC .i64 r6 λa5 r7=>aC .i64 r7 λa6 r8=>aC .i64 r8 λa7 r9=>bU 1 r9 λa8 a9 mS=>aI mS<|aI r0<|K a0 a1 a2 a3 a4 a5 a6 a7 a8 a9
noncomputable def Mz (st:List DV) (K:Int->Int->Int->Int->Int->Int->Int->Int->Option (Nat×Nat)->Nat->Int->M β):M β:=bh st λq1 r0=>aC .i64 q1 λa0 r2=>aC .i64 r2 λa1 r3=>aC .i64 r3 λa2 r4=>aC .i64 r4 λa3 r5=>aC .i64 r5 λa4 r6=>aC .i64 r6 λa5 r7=>aC .i64 r7 λa6 r8=>aC .i64 r8 λa7 r9=>bU 1 r9 λa8 a9 mS=>aI mS<|aC .i64 r0 λgv sm=>aI sm<|K a0 a1 a2 a3 a4 a5 a6 a7 a8 a9 gv
noncomputable def Zhs (st:List DV) (K:Int->Int->Int->Int->Int->Int->Int->Int->Option (Nat×Nat)->Nat->Option (Nat×Nat)->Nat->Int->M β):M β:=bh st λq1 r0=>aC .i64 q1 λa0 r2=>aC .i64 r2 λa1 r3=>aC .i64 r3 λa2 r4=>aC .i64 r4 λa3 r5=>aC .i64 r5 λa4 r6=>aC .i64 r6 λa5 r7=>aC .i64 r7 λa6 r8=>aC .i64 r8 λa7 r9=>bU 1 r9 λa8 a9 mS=>aI mS<|bU 1 r0 λgv kC sm=>aC .i64 sm λa12 Fy=>aI Fy<|K a0 a1 a2 a3 a4 a5 a6 a7 a8 a9 gv kC a12
noncomputable def MI (st:List DV) (K:Int->Int->Int->Int->Int->Int->M β):M β:=bh st λq1 r0=>aC .i64 q1 λa0 r2=>aC .i64 r2 λa1 r3=>aC .i64 r3 λa2 r4=>aC .i64 r4 λa3 r5=>aC .i64 r5 λa4 r6=>aI r6<|aC .i64 r0 λa5 r7=>aI r7<|K a0 a1 a2 a3 a4 a5
noncomputable def Gf (st:List DV) (K:Int->Int->Int->Int->Option (Nat×Nat)->Nat->M β):M β:=bh st λq1 r0=>aC .i64 q1 λa0 r2=>aC .i64 r2 λa1 r3=>aC .i64 r3 λa2 r4=>aC .i64 r4 λa3 r5=>bU 1 r5 λa4 a5 r6=>aI r6<|aI r0<|K a0 a1 a2 a3 a4 a5
noncomputable def MD (st:List DV) (K:Int->Int->Int->Int->Int->Int->Int->Int->M β):M β:=bh st λq1 r0=>aC .i64 q1 λa0 r2=>aC .i64 r2 λa1 r3=>aC .i64 r3 λa2 r4=>aC .i64 r4 λa3 r5=>aI r5<|bh r0 λq7 r6=>aC .i64 q7 λa4 r8=>aC .i64 r8 λa5 r9=>aC .i64 r9 λa6 mS=>aC .i64 mS λa7 sm=>aI sm<|aI r6<|K a0 a1 a2 a3 a4 a5 a6 a7
noncomputable def vq (st:List DV) (K:Int->Int->Int->Option (Nat×Nat)->Nat->Option (Nat×Nat)->Nat->Option (Nat×Nat)->Nat->M β):M β:=bh st λq1 r0=>aC .i64 q1 λa0 r2=>aC .i64 r2 λa1 r3=>aC .i64 r3 λa2 r4=>bU 2 r4 λa3 a4 r5=>bU 1 r5 λa5 a6 r6=>bU 1 r6 λa7 a8 r7=>aI r7<|aI r0<|K a0 a1 a2 a3 a4 a5 a6 a7 a8
noncomputable def D9 (st:List DV) (K:Int->Int->Int->M β):M β:=bh st λq1 r0=>aC .i64 q1 λa0 r2=>aC .i64 r2 λa1 r3=>aC .i64 r3 λa2 r4=>aI r4<|aI r0<|K a0 a1 a2
noncomputable def js (st:List DV) (K:Bool->M β):M β:=gK st λa0 r0=>aI r0<|K a0
noncomputable def rr (st:List DV) (K:Bool->Int->Int->M β):M β:=gK st λa0 r0=>aC .i64 r0 λa1 r1=>aC .i64 r1 λa2 r2=>aI r2<|K a0 a1 a2
noncomputable def cW (st:List DV) (K:Int->M β):M β:=aC .i64 st λa0 r0=>aI r0<|K a0
noncomputable def ZwR (st:List DV) (K:Int->Bool->Int->M β):M β:=aC .i64 st λa0 r0=>gK r0 λa1 r1=>aC .i64 r1 λa2 r2=>aI r2<|K a0 a1 a2
noncomputable def je (st:List DV) (K:Int->Int->M β):M β:=aC .i64 st λa0 r0=>aC .i64 r0 λa1 r1=>aI r1<|K a0 a1
noncomputable def En (st:List DV) (K:Int->Int->Int->M β):M β:=aC .i64 st λa0 r0=>aC .i64 r0 λa1 r1=>aC .i64 r1 λa2 r2=>aI r2<|K a0 a1 a2
noncomputable def sT (st:List DV) (K:Int->Int->Int->Int->M β):M β:=aC .i64 st λa0 r0=>aC .i64 r0 λa1 r1=>aC .i64 r1 λa2 r2=>aC .i64 r2 λa3 r3=>aI r3<|K a0 a1 a2 a3
noncomputable def ZsB (st:List DV) (K:Int->Int->Int->Int->Bool->M β):M β:=aC .i64 st λa0 r0=>aC .i64 r0 λa1 r1=>aC .i64 r1 λa2 r2=>aC .i64 r2 λa3 r3=>gK r3 λa4 r4=>aI r4<|K a0 a1 a2 a3 a4
noncomputable def Ztk (st:List DV) (K:Int->Int->Int->Int->Int->M β):M β:=aC .i64 st λa0 r0=>aC .i64 r0 λa1 r1=>aC .i64 r1 λa2 r2=>aC .i64 r2 λa3 r3=>aC .i64 r3 λa4 r4=>aI r4<|K a0 a1 a2 a3 a4
noncomputable def Z6 (st:List DV) (K:Int->Int->Int->Int->Int->Int->Int->Int->Option (Nat×Nat)->Nat->M β):M β:=aC .i64 st λa0 r0=>aC .i64 r0 λa1 r1=>aC .i64 r1 λa2 r2=>aC .i64 r2 λa3 r3=>aC .i64 r3 λa4 r4=>aC .i64 r4 λa5 r5=>aC .i64 r5 λa6 r6=>aC .i64 r6 λa7 r7=>bU 1 r7 λa8 a9 r8=>aI r8<|K a0 a1 a2 a3 a4 a5 a6 a7 a8 a9
noncomputable def ZuX (st:List DV) (K:Int->Int->Option (Nat×Nat)->Nat->M β):M β:=aC .i64 st λa0 r0=>aC .i64 r0 λa1 r1=>bU 1 r1 λa2 a3 r2=>aI r2<|K a0 a1 a2 a3
noncomputable def ZF (st:List DV) (K:Int->Int->Option (Nat×Nat)->Nat->Option (Nat×Nat)->Nat->Option (Nat×Nat)->Nat->M β):M β:=aC .i64 st λa0 r0=>aC .i64 r0 λa1 r1=>bU 2 r1 λa2 a3 r2=>bU 1 r2 λa4 a5 r3=>bU 1 r3 λa6 a7 r4=>aI r4<|K a0 a1 a2 a3 a4 a5 a6 a7
noncomputable def Cd (st:List DV) (K:Int->Int->M β):M β:=aC .u64 st λa0 r0=>aC .i64 r0 λa1 r1=>aI r1<|K a0 a1
noncomputable def Zu3 (st:List DV) (K:Int->Bool->M β):M β:=aC .u8 st λa0 r0=>gK r0 λa1 r1=>aI r1<|K a0 a1
noncomputable def Na (st:List DV) (K:Int->Int->M β):M β:=aC .u8 st λa0 r0=>aC .u8 r0 λa1 r1=>aI r1<|K a0 a1
noncomputable def bZ (st:List DV) (K:Option (Nat×Nat)->Nat->M β):M β:=bU 1 st λa0 a1 r0=>aI r0<|K a0 a1
noncomputable def Q7 (st:List DV) (K:Option (Nat×Nat)->Nat->Int->Int->Int->Option (Nat×Nat)->Nat->Option (Nat×Nat)->Nat->Option (Nat×Nat)->Nat->Int->M β):M β:=bU 1 st λa0 a1 r0=>bh r0 λq2 r1=>aC .i64 q2 λa2 r3=>aC .i64 r3 λa3 r4=>aC .i64 r4 λa4 r5=>bU 2 r5 λa5 a6 r6=>bU 1 r6 λa7 a8 r7=>bU 1 r7 λa9 gv r8=>aI r8<|aC .i64 r1 λkC r9=>aI r9<|K a0 a1 a2 a3 a4 a5 a6 a7 a8 a9 gv kC
noncomputable def Zhl (st:List DV) (K:Option (Nat×Nat)->Nat->Int->Int->Int->Option (Nat×Nat)->Nat->Option (Nat×Nat)->Nat->Option (Nat×Nat)->Nat->Int->Int->M β):M β:=bU 1 st λa0 a1 r0=>bh r0 λq2 r1=>aC .i64 q2 λa2 r3=>aC .i64 r3 λa3 r4=>aC .i64 r4 λa4 r5=>bU 2 r5 λa5 a6 r6=>bU 1 r6 λa7 a8 r7=>bU 1 r7 λa9 gv r8=>aI r8<|aC .i64 r1 λkC r9=>aC .i64 r9 λa12 mS=>aI mS<|K a0 a1 a2 a3 a4 a5 a6 a7 a8 a9 gv kC a12
noncomputable def JE (st:List DV) (K:Option (Nat×Nat)->Nat->Bool->M β):M β:=bU 1 st λa0 a1 r0=>gK r0 λa2 r1=>aI r1<|K a0 a1 a2
noncomputable def oq (st:List DV) (K:Option (Nat×Nat)->Nat->Int->M β):M β:=bU 1 st λa0 a1 r0=>aC .i64 r0 λa2 r1=>aI r1<|K a0 a1 a2
noncomputable def yv (st:List DV) (K:Option (Nat×Nat)->Nat->Int->Int->M β):M β:=bU 1 st λa0 a1 r0=>aC .i64 r0 λa2 r1=>aC .i64 r1 λa3 r2=>aI r2<|K a0 a1 a2 a3
noncomputable def Mo (st:List DV) (K:Nat->M β):M β:=abp st λa0 r0=>aI r0<|K a0
noncomputable def jt (st:List DV) (K:Option (Nat×Nat)->M β):M β:=rJ st λa0 r0=>aI r0<|K a0
noncomputable def ql (st:List DV) (K:Option (Nat×Nat)->Int->M β):M β:=rJ st λa0 r0=>aC .i64 r0 λa1 r1=>aI r1<|K a0 a1
noncomputable def GI (st:List DV) (K:Option (Nat×Nat)->Int->Int->M β):M β:=rJ st λa0 r0=>aC .i64 r0 λa1 r1=>aC .i64 r1 λa2 r2=>aI r2<|K a0 a1 a2
noncomputable def jU (st:List DV) (K:List UInt8->M β):M β:=fa st λa0 r0=>aI r0<|K a0
noncomputable def MA (st:List DV) (K:List UInt8->Int->Int->Int->Int->Int->Int->Int->Int->Option (Nat×Nat)->Nat->M β):M β:=fa st λa0 r0=>bh r0 λq2 r1=>aC .i64 q2 λa1 r3=>aC .i64 r3 λa2 r4=>aC .i64 r4 λa3 r5=>aC .i64 r5 λa4 r6=>aC .i64 r6 λa5 r7=>aC .i64 r7 λa6 r8=>aC .i64 r8 λa7 r9=>aC .i64 r9 λa8 mS=>bU 1 mS λa9 gv sm=>aI sm<|aI r1<|K a0 a1 a2 a3 a4 a5 a6 a7 a8 a9 gv
noncomputable def oi (st:List DV) (K:List UInt8->Int->M β):M β:=fa st λa0 r0=>aC .i64 r0 λa1 r1=>aI r1<|K a0 a1
def ZK (a0:Bool) (a1:Int) (a2:Int) (a3:Bool) (a4:Int) (a5:Int) (a6:Bool) (a7:Int) (a8:Int) (a9:Bool) (gv:Int) (kC:Int) (a12:Bool) (AI:Int) (Et:Int) (JJ:Bool) (JK:Int) (a17:Int) (JL:Bool) (JM:Int) (a20:Int) (a21:Bool):List DV:=[.agg [.bool a0,.int .i64 a1,.int .i64 a2,.bool a3,.int .i64 a4,.int .i64 a5,.bool a6,.int .i64 a7,.int .i64 a8,.bool a9,.int .i64 gv,.int .i64 kC,.bool a12,.int .i64 AI,.int .i64 Et,.bool JJ,.int .i64 JK,.int .i64 a17,.bool JL,.int .i64 JM,.int .i64 a20],.bool a21]
def wL (a0:Int) (a1:Int) (a2:Int) (a3:Int) (a4:Int) (a5:Int) (a6:Int) (a7:Int) (a8:Option (Nat×Nat)) (a9:Nat) (gv:Bool):List DV:=[.agg [.int .i64 a0,.int .i64 a1,.int .i64 a2,.int .i64 a3,.int .i64 a4,.int .i64 a5,.int .i64 a6,.int .i64 a7,.slice 0 a8 a9],.bool gv]
def ZP (a0:Int) (a1:Int) (a2:Int) (a3:Int) (a4:Int) (a5:Int) (a6:Int) (a7:Int) (a8:Option (Nat×Nat)) (a9:Nat):List DV:=[.agg [.int .i64 a0,.int .i64 a1,.int .i64 a2,.int .i64 a3,.int .i64 a4,.int .i64 a5,.int .i64 a6,.int .i64 a7,.slice 1 a8 a9]]
def BU (a0:Int) (a1:Int) (a2:Int) (a3:Int) (a4:Int) (a5:Int) (a6:Int) (a7:Int) (a8:Option (Nat×Nat)) (a9:Nat) (gv:Bool):List DV:=[.agg [.int .i64 a0,.int .i64 a1,.int .i64 a2,.int .i64 a3,.int .i64 a4,.int .i64 a5,.int .i64 a6,.int .i64 a7,.slice 1 a8 a9],.bool gv]
def Iz (a0:Int) (a1:Int) (a2:Int) (a3:Int) (a4:Int) (a5:Int) (a6:Int) (a7:Int) (a8:Option (Nat×Nat)) (a9:Nat) (gv:Int):List DV:=[.agg [.int .i64 a0,.int .i64 a1,.int .i64 a2,.int .i64 a3,.int .i64 a4,.int .i64 a5,.int .i64 a6,.int .i64 a7,.slice 1 a8 a9],.int .i64 gv]
def BT (a0:Int) (a1:Int) (a2:Int) (a3:Int) (a4:Int) (a5:Int) (a6:Int) (a7:Int) (a8:Option (Nat×Nat)) (a9:Nat) (gv:Int) (kC:Bool):List DV:=[.agg [.int .i64 a0,.int .i64 a1,.int .i64 a2,.int .i64 a3,.int .i64 a4,.int .i64 a5,.int .i64 a6,.int .i64 a7,.slice 1 a8 a9],.int .i64 gv,.bool kC]
def yq (a0:Int) (a1:Int) (a2:Int) (a3:Int) (a4:Int):List DV:=[.agg [.int .i64 a0,.int .i64 a1,.int .i64 a2,.int .i64 a3,.int .i64 a4]]
def B3 (a0:Int) (a1:Int) (a2:Int) (a3:Int) (a4:Int) (a5:Int):List DV:=[.agg [.int .i64 a0,.int .i64 a1,.int .i64 a2,.int .i64 a3,.int .i64 a4],.int .i64 a5]
def BX (a0:Int) (a1:Int) (a2:Int) (a3:Int) (a4:Option (Nat×Nat)) (a5:Nat) (a6:Bool):List DV:=[.agg [.int .i64 a0,.int .i64 a1,.int .i64 a2,.int .i64 a3,.slice 0 a4 a5],.bool a6]
def Gi (a0:Int) (a1:Int) (a2:Int) (a3:Int) (a4:Option (Nat×Nat)) (a5:Nat) (a6:Int):List DV:=[.agg [.int .i64 a0,.int .i64 a1,.int .i64 a2,.int .i64 a3,.slice 0 a4 a5],.int .i64 a6]
def yj (a0:Int) (a1:Int) (a2:Int) (a3:Int) (a4:Option (Nat×Nat)) (a5:Nat):List DV:=[.agg [.int .i64 a0,.int .i64 a1,.int .i64 a2,.int .i64 a3,.slice 1 a4 a5]]
def F5 (a0:Int) (a1:Int) (a2:Int) (a3:Int) (a4:Option (Nat×Nat)) (a5:Nat) (a6:Bool):List DV:=[.agg [.int .i64 a0,.int .i64 a1,.int .i64 a2,.int .i64 a3,.slice 1 a4 a5],.bool a6]
def Gd (a0:Int) (a1:Int) (a2:Int) (a3:Int) (a4:Option (Nat×Nat)) (a5:Nat) (a6:Int):List DV:=[.agg [.int .i64 a0,.int .i64 a1,.int .i64 a2,.int .i64 a3,.slice 1 a4 a5],.int .i64 a6]
def B0 (a0:Int) (a1:Int) (a2:Int) (a3:Int) (a4:Int) (a5:Int) (a6:Int) (a7:Int):List DV:=[.agg [.int .i64 a0,.int .i64 a1,.int .i64 a2,.int .i64 a3],.agg [.int .i64 a4,.int .i64 a5,.int .i64 a6,.int .i64 a7]]
def Mw (a0:Int) (a1:Int) (a2:Int) (a3:Option (Nat×Nat)) (a4:Nat) (a5:Option (Nat×Nat)) (a6:Nat) (a7:Option (Nat×Nat)) (a8:Nat) (a9:Int) (gv:Int) (kC:Int) (a12:Int) (AI:Int) (Et:Int) (JJ:Int) (JK:Int) (a17:Option (Nat×Nat)) (JL:Nat) (JM:Option (Nat×Nat)) (a20:Nat) (a21:Int):List DV:=[.agg [.int .i64 a0,.int .i64 a1,.int .i64 a2,.slice 0 a3 a4,.slice 0 a5 a6,.slice 0 a7 a8],.agg [.int .i64 a9,.int .i64 gv,.int .i64 kC,.int .i64 a12,.int .i64 AI,.int .i64 Et,.int .i64 JJ,.int .i64 JK,.slice 1 a17 JL],.slice 0 JM a20,.int .i64 a21]
def BV (a0:Int) (a1:Int) (a2:Int) (a3:Option (Nat×Nat)) (a4:Nat) (a5:Option (Nat×Nat)) (a6:Nat) (a7:Option (Nat×Nat)) (a8:Nat) (a9:Option (Nat×Nat)) (gv:Nat) (kC:Bool):List DV:=[.agg [.int .i64 a0,.int .i64 a1,.int .i64 a2,.slice 0 a3 a4,.slice 0 a5 a6,.slice 0 a7 a8],.slice 0 a9 gv,.bool kC]
def ye (a0:Int) (a1:Int) (a2:Int) (a3:Option (Nat×Nat)) (a4:Nat) (a5:Option (Nat×Nat)) (a6:Nat) (a7:Option (Nat×Nat)) (a8:Nat):List DV:=[.agg [.int .i64 a0,.int .i64 a1,.int .i64 a2,.slice 2 a3 a4,.slice 1 a5 a6,.slice 1 a7 a8]]
def BS (a0:Int) (a1:Int) (a2:Int) (a3:Option (Nat×Nat)) (a4:Nat) (a5:Option (Nat×Nat)) (a6:Nat) (a7:Option (Nat×Nat)) (a8:Nat) (a9:Int):List DV:=[.agg [.int .i64 a0,.int .i64 a1,.int .i64 a2,.slice 2 a3 a4,.slice 1 a5 a6,.slice 1 a7 a8],.int .i64 a9]
def vw (a0:Int) (a1:Int) (a2:Int):List DV:=[.agg [.int .i64 a0,.int .i64 a1,.int .i64 a2]]
def F0 (a0:List UInt8) (a1:Int) (a2:Int) (a3:Int) (a4:Int) (a5:Int) (a6:Int) (a7:Int) (a8:Int) (a9:Int) (gv:Int) (kC:Int) (a12:Int) (AI:Int) (Et:Bool):List DV:=[.agg [.str a0,.int .i64 a1,.int .i64 a2,.int .i64 a3,.int .i64 a4,.int .i64 a5,.int .i64 a6,.int .i64 a7,.int .i64 a8,.int .i64 a9,.int .i64 gv,.int .i64 kC,.int .i64 a12,.int .i64 AI],.bool Et]
def Lb (a0:Bool):List DV:=[.bool a0]
def Ad (a0:Bool) (a1:Int):List DV:=[.bool a0,.int .i64 a1]
def sI (a0:Bool) (a1:Int) (a2:Int):List DV:=[.bool a0,.int .i64 a1,.int .i64 a2]
def DT (a0:Bool) (a1:Int) (a2:Int) (a3:Bool) (a4:Int) (a5:Int) (a6:Bool) (a7:Int) (a8:Int) (a9:Bool) (gv:Int) (kC:Int) (a12:Bool) (AI:Int) (Et:Int) (JJ:Bool) (JK:Int) (a17:Int) (JL:Bool) (JM:Int) (a20:Int):List DV:=[.bool a0,.int .i64 a1,.int .i64 a2,.bool a3,.int .i64 a4,.int .i64 a5,.bool a6,.int .i64 a7,.int .i64 a8,.bool a9,.int .i64 gv,.int .i64 kC,.bool a12,.int .i64 AI,.int .i64 Et,.bool JJ,.int .i64 JK,.int .i64 a17,.bool JL,.int .i64 JM,.int .i64 a20]
def Li (a0:Int):List DV:=[.int .i64 a0]
def gA (a0:Int) (a1:Int):List DV:=[.int .i64 a0,.int .i64 a1]
def DM (a0:Int):List DV:=[.int .i32 a0]
def Ae (a0:Int) (a1:Int) (a2:Int):List DV:=[.int .i64 a0,.int .i64 a1,.int .i64 a2]
def qm (a0:Int) (a1:Int) (a2:List UInt8):List DV:=[.int .i64 a0,.int .i64 a1,.str a2]
def vh (a0:Int) (a1:Option (Nat×Nat)) (a2:Nat):List DV:=[.int .i64 a0,.slice 1 a1 a2]
def lD (a0:Int):List DV:=[.int .u32 a0]
def qz (a0:Int) (a1:Int):List DV:=[.int .u32 a0,.int .i64 a1]
def lE (a0:Int):List DV:=[.int .u64 a0]
def ZA (a0:Int) (a1:Int):List DV:=[.int .u64 a0,.int .i64 a1]
def kM (a0:Int):List DV:=[.int .u8 a0]
def vi (a0:Option (Nat×Nat)) (a1:Nat) (a2:Bool):List DV:=[.slice 0 a0 a1,.bool a2]
def iH (a0:Option (Nat×Nat)) (a1:Nat) (a2:Int):List DV:=[.slice 0 a0 a1,.int .i64 a2]
def sX (a0:Option (Nat×Nat)) (a1:Nat) (a2:Option (Nat×Nat)) (a3:Nat) (a4:Bool):List DV:=[.slice 0 a0 a1,.slice 0 a2 a3,.bool a4]
def ba (a0:Option (Nat×Nat)) (a1:Nat):List DV:=[.slice 1 a0 a1]
def ep (a0:Option (Nat×Nat)) (a1:Nat) (a2:Int):List DV:=[.slice 1 a0 a1,.int .i64 a2]
def Z7 (a0:Option (Nat×Nat)) (a1:Nat) (a2:Int) (a3:Int):List DV:=[.slice 1 a0 a1,.int .i64 a2,.int .i64 a3]
def wP (a0:Option (Nat×Nat)) (a1:Nat) (a2:Option (Nat×Nat)) (a3:Nat):List DV:=[.slice 1 a0 a1,.slice 1 a2 a3]
def sJ (a0:Option (Nat×Nat)) (a1:Nat):List DV:=[.slice 4 a0 a1]
def Lp (a0:Option (Nat×Nat)):List DV:=[.ptr a0]
def iI (a0:Option (Nat×Nat)) (a1:Int):List DV:=[.ptr a0,.int .i64 a1]
def wI (a0:Option (Nat×Nat)) (a1:List UInt8):List DV:=[.ptr a0,.str a1]
def Ls (a0:List UInt8):List DV:=[.str a0]
def wJ (a0:List UInt8) (a1:Bool):List DV:=[.str a0,.bool a1]
def eQ (a0:List UInt8) (a1:Int):List DV:=[.str a0,.int .i64 a1]
def Af (a0:List UInt8) (a1:Int) (a2:Int):List DV:=[.str a0,.int .i64 a1,.int .i64 a2]
def F4 (a0:List UInt8) (a1:Int) (a2:Int) (a3:Int) (a4:Int) (a5:Int) (a6:Int) (a7:Int) (a8:Int) (a9:Int) (gv:Int) (kC:Int) (a12:Int) (AI:Int):List DV:=[.str a0,.int .i64 a1,.int .i64 a2,.int .i64 a3,.int .i64 a4,.int .i64 a5,.int .i64 a6,.int .i64 a7,.int .i64 a8,.int .i64 a9,.int .i64 gv,.int .i64 kC,.int .i64 a12,.int .i64 AI]
def D3 (a0:List UInt8) (a1:Int) (a2:Int) (a3:Int):List DV:=[.str a0,.int .i64 a1,.int .u8 a2,.int .u8 a3]
noncomputable def N_ (p:Option (Nat×Nat)) (x:Int) (l:Nat) (K:Nat->Nat->M β):M β:=bJ p λi o=>aB (aP x l)<|K i o
noncomputable def Q_ (f:M β) (g:(List DV->M β)->M β):M β:=cT (λst=>aI st<|f) g
noncomputable def Iw (f:Int->Int->Int->Int->Int->Int->Int->Int->Option (Nat×Nat)->Nat->M β) (g:(List DV->M β)->M β):M β:=cT (λst=>bh st λq1 r0=>aC .i64 q1 λa0 r2=>aC .i64 r2 λa1 r3=>aC .i64 r3 λa2 r4=>aC .i64 r4 λa3 r5=>aC .i64 r5 λa4 r6=>aC .i64 r6 λa5 r7=>aC .i64 r7 λa6 r8=>aC .i64 r8 λa7 r9=>bU 1 r9 λa8 a9 mS=>aI mS<|aI r0<|f a0 a1 a2 a3 a4 a5 a6 a7 a8 a9) g
noncomputable def RI (f:Int->Int->Int->Int->Int->Int->Int->Int->Option (Nat×Nat)->Nat->Int->Bool->M β) (g:(List DV->M β)->M β):M β:=cT (λst=>bh st λq1 r0=>aC .i64 q1 λa0 r2=>aC .i64 r2 λa1 r3=>aC .i64 r3 λa2 r4=>aC .i64 r4 λa3 r5=>aC .i64 r5 λa4 r6=>aC .i64 r6 λa5 r7=>aC .i64 r7 λa6 r8=>aC .i64 r8 λa7 r9=>bU 1 r9 λa8 a9 mS=>aI mS<|aC .i64 r0 λgv sm=>gK sm λkC Fy=>aI Fy<|f a0 a1 a2 a3 a4 a5 a6 a7 a8 a9 gv kC) g
noncomputable def D0 (f:Int->Int->Int->Int->Int->M β) (g:(List DV->M β)->M β):M β:=cT (λst=>bh st λq1 r0=>aC .i64 q1 λa0 r2=>aC .i64 r2 λa1 r3=>aC .i64 r3 λa2 r4=>aC .i64 r4 λa3 r5=>aC .i64 r5 λa4 r6=>aI r6<|aI r0<|f a0 a1 a2 a3 a4) g
noncomputable def Gc (f:Int->Int->Int->Int->Option (Nat×Nat)->Nat->M β) (g:(List DV->M β)->M β):M β:=cT (λst=>bh st λq1 r0=>aC .i64 q1 λa0 r2=>aC .i64 r2 λa1 r3=>aC .i64 r3 λa2 r4=>aC .i64 r4 λa3 r5=>bU 1 r5 λa4 a5 r6=>aI r6<|aI r0<|f a0 a1 a2 a3 a4 a5) g
noncomputable def az (f:Bool->M β) (g:(List DV->M β)->M β):M β:=cT (λst=>gK st λa0 r0=>aI r0<|f a0) g
noncomputable def pA (f:Int->M β) (g:(List DV->M β)->M β):M β:=cT (λst=>aC .i64 st λa0 r0=>aI r0<|f a0) g
noncomputable def yA (f:Int->M β) (g:(List DV->M β)->M β):M β:=cT (λst=>aC .u32 st λa0 r0=>aI r0<|f a0) g
noncomputable def Co (f:Int->M β) (g:(List DV->M β)->M β):M β:=cT (λst=>aC .u64 st λa0 r0=>aI r0<|f a0) g
noncomputable def Im (f:Int->M β) (g:(List DV->M β)->M β):M β:=cT (λst=>aC .u8 st λa0 r0=>aI r0<|f a0) g
noncomputable def fJ (f:Option (Nat×Nat)->Nat->M β) (g:(List DV->M β)->M β):M β:=cT (λst=>bU 1 st λa0 a1 r0=>aI r0<|f a0 a1) g
noncomputable def DP (f:Option (Nat×Nat)->Nat->M β) (g:(List DV->M β)->M β):M β:=cT (λst=>bU 4 st λa0 a1 r0=>aI r0<|f a0 a1) g
noncomputable def ua (f:List UInt8->M β) (g:(List DV->M β)->M β):M β:=cT (λst=>fa st λa0 r0=>aI r0<|f a0) g
noncomputable def Gh (f:(List DV->M β)->Int->Int->Int->Int->Option (Nat×Nat)->Nat->Int->M β) (n:Nat) (l:List DV):M β:=cY (λrec st=>bh st λq1 r0=>aC .i64 q1 λa0 r2=>aC .i64 r2 λa1 r3=>aC .i64 r3 λa2 r4=>aC .i64 r4 λa3 r5=>bU 1 r5 λa4 a5 r6=>aI r6<|aC .i64 r0 λa6 r7=>aI r7<|f rec a0 a1 a2 a3 a4 a5 a6) n l
noncomputable def cN (f:(List DV->M β)->Int->M β) (n:Nat) (l:List DV):M β:=cY (λrec st=>aC .i64 st λa0 r0=>aI r0<|f rec a0) n l
noncomputable def yk (f:(List DV->M β)->Int->Int->M β) (n:Nat) (l:List DV):M β:=cY (λrec st=>aC .u32 st λa0 r0=>aC .i64 r0 λa1 r1=>aI r1<|f rec a0 a1) n l
noncomputable def Ar (f:(List DV->M β)->Int->Int->M β) (n:Nat) (l:List DV):M β:=cY (λrec st=>aC .u64 st λa0 r0=>aC .i64 r0 λa1 r1=>aI r1<|f rec a0 a1) n l
noncomputable def kB (f:(List DV->M β)->Option (Nat×Nat)->Nat->Int->M β) (n:Nat) (l:List DV):M β:=cY (λrec st=>bU 1 st λa0 a1 r0=>aC .i64 r0 λa2 r1=>aI r1<|f rec a0 a1 a2) n l
noncomputable def vm (f:(List DV->M β)->List UInt8->Int->M β) (n:Nat) (l:List DV):M β:=cY (λrec st=>fa st λa0 r0=>aC .i64 r0 λa1 r1=>aI r1<|f rec a0 a1) n l
noncomputable def Zn (s:Nat) (p:Option (Nat×Nat)) (x:Int) (l:Nat) (K:Int->M β):M β:=bJ p λi o=>aB (aP x l)<|bD i (x.toNat*s+o) λd=>de .i64 d λv=>K v
noncomputable def wN (s:Nat) (p:Option (Nat×Nat)) (x:Int) (l:Nat) (K:Int->M β):M β:=bJ p λi o=>aB (aP x l)<|bD i (x.toNat*s+o) λd=>de .u64 d λv=>K v
noncomputable def vo (s:Nat) (p:Option (Nat×Nat)) (x:Int) (l:Nat) (K:List UInt8->M β):M β:=bJ p λi o=>aB (aP x l)<|bD i (x.toNat*s+o) λd=>Cw d λv=>K v
noncomputable def pJ (i p:Nat) (K:Bool->M β):M β:=bD i p λd=>uu d λv=>K v
noncomputable def Zm (i p:Nat) (K:Int->M β):M β:=bD i p λd=>de .i64 d λv=>K v
noncomputable def mc (i p:Nat) (K:Int->M β):M β:=bD i p λd=>de .u8 d λv=>K v
abbrev ah:=List DV
abbrev ai:=Option (Nat×Nat)
abbrev aj:=List UInt8
abbrev ak:=List Int
abbrev al:=List Nat
abbrev ao:=Zg->Nat->ah->M ah
end Go.Gv
