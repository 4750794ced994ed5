/- A deterministic heap machine beside the model: its values, its heap, what it makes of a function's code. -/
import Derived.Orders
import Derived.KernelRfl
theorem aw:type_of% @decide_eq_true:=@decide_eq_true
theorem aB:type_of% @decide_eq_false:=@decide_eq_false
theorem aL:type_of% @Nat.le_refl:=@Nat.le_refl
theorem aR:type_of% @Bool.and_eq_true:=@Bool.and_eq_true
theorem aW:type_of% @if_neg:=@if_neg
theorem bm:type_of% @Bool.not_true:=@Bool.not_true
theorem bp:type_of% @Bool.not_false:=@Bool.not_false
theorem bq:type_of% @decide_eq_true_iff:=@decide_eq_true_iff
theorem bu:type_of% @Int.toNat_natCast:=@Int.toNat_natCast
theorem bw:type_of% @if_pos:=@if_pos
theorem bz:type_of% @List.length_append:=@List.length_append
theorem bU:type_of% @List.getElem?_eq_getElem:=@List.getElem?_eq_getElem
theorem cj:type_of% @List.mem_singleton:=@List.mem_singleton
theorem cn:type_of% @Nat.zero_le:=@Nat.zero_le
theorem cz:type_of% @List.length_take:=@List.length_take
theorem cH:type_of% @List.length_cons:=@List.length_cons
theorem cP:type_of% @Nat.mul_one:=@Nat.mul_one
theorem de:type_of% @Bool.true_and:=@Bool.true_and
theorem dj:type_of% @List.drop_zero:=@List.drop_zero
theorem dq:type_of% @List.take_of_length_le:=@List.take_of_length_le
theorem dy:type_of% @Nat.eq_of_beq_eq_true:=@Nat.eq_of_beq_eq_true
theorem dB:type_of% @List.getElem?_eq_some_iff:=@List.getElem?_eq_some_iff
theorem dC:type_of% @List.mem_cons:=@List.mem_cons
theorem dT:type_of% @List.length_drop:=@List.length_drop
theorem dX:type_of% @List.getD_eq_getElem?_getD:=@List.getD_eq_getElem?_getD
theorem dY:type_of% @beq_eq_false_iff_ne:=@beq_eq_false_iff_ne
theorem ej:type_of% @Nat.zero_add:=@Nat.zero_add
theorem eG:type_of% @Bool.false_and:=@Bool.false_and
theorem fg:type_of% @List.map_append:=@List.map_append
theorem fD:type_of% @List.append_assoc:=@List.append_assoc
theorem fE:type_of% @List.mem_append:=@List.mem_append
theorem fT:type_of% @Nat.add_zero:=@Nat.add_zero
theorem fU:type_of% @Option.some.injEq:=@Option.some.injEq
theorem gf:type_of% @Nat.ble_eq_true_of_le:=@Nat.ble_eq_true_of_le
theorem gG:type_of% @List.append_nil:=@List.append_nil
theorem gH:type_of% @Nat.le_trans:=@Nat.le_trans
theorem gU:type_of% @List.nil_append:=@List.nil_append
theorem iw:type_of% @List.length_singleton:=@List.length_singleton
theorem iI:type_of% @List.drop_eq_getElem_cons:=@List.drop_eq_getElem_cons
theorem iQ:type_of% @Bool.eq_iff_iff:=@Bool.eq_iff_iff
theorem iR:type_of% @of_decide_eq_true:=@of_decide_eq_true
theorem jE:type_of% @Array.getElem?_toList:=@Array.getElem?_toList
theorem jG:type_of% @List.getElem_mem:=@List.getElem_mem
theorem jH:type_of% @Nat.lt_or_ge:=@Nat.lt_or_ge
theorem jI:type_of% @if_false:=@if_false
theorem jX:type_of% @List.drop_drop:=@List.drop_drop
theorem jY:type_of% @List.getElem?_append_right:=@List.getElem?_append_right
theorem jZ:type_of% @List.getElem?_set_ne:=@List.getElem?_set_ne
theorem kz:type_of% @List.drop_eq_nil_of_le:=@List.drop_eq_nil_of_le
theorem kR:type_of% @Bool.not_eq_true':=@Bool.not_eq_true'
theorem kS:type_of% @List.take_succ_eq_append_getElem:=@List.take_succ_eq_append_getElem
theorem kT:type_of% @Nat.min_eq_left:=@Nat.min_eq_left
theorem kU:type_of% @beq_iff_eq:=@beq_iff_eq
theorem kV:type_of% @if_true:=@if_true
theorem lz:type_of% @Bool.or_eq_true:=@Bool.or_eq_true
theorem lA:type_of% @List.all_eq_true:=@List.all_eq_true
theorem lB:type_of% @List.getElem?_cons_zero:=@List.getElem?_cons_zero
theorem lC:type_of% @List.getElem?_set_self:=@List.getElem?_set_self
theorem lD:type_of% @List.length_set:=@List.length_set
theorem lE:type_of% @Nat.lt_of_lt_of_le:=@Nat.lt_of_lt_of_le
theorem lZ:type_of% @Array.length_toList:=@Array.length_toList
theorem l8:type_of% @List.getElem?_append_left:=@List.getElem?_append_left
theorem l9:type_of% @Nat.pow_le_pow_right:=@Nat.pow_le_pow_right
theorem mb:type_of% @Option.map_some:=@Option.map_some
theorem mJ:type_of% @decide_eq_true_eq:=@decide_eq_true_eq
theorem nr:type_of% @List.cons_append:=@List.cons_append
theorem nu:type_of% @List.take_append_drop:=@List.take_append_drop
theorem nX:type_of% @List.getElem?_eq_none:=@List.getElem?_eq_none
theorem nY:type_of% @List.length_map:=@List.length_map
theorem nZ:type_of% @List.map_cons:=@List.map_cons
theorem oa:type_of% @List.mem_cons_self:=@List.mem_cons_self
theorem od:type_of% @Nat.zero_mul:=@Nat.zero_mul
theorem oe:type_of% @or_false:=@or_false
theorem oY:type_of% @List.getElem?_map:=@List.getElem?_map
theorem oZ:type_of% @List.mem_of_getElem?:=@List.mem_of_getElem?
theorem pd:type_of% @Nat.blt_eq:=@Nat.blt_eq
theorem pj:type_of% @Nat.le_of_ble_eq_true:=@Nat.le_of_ble_eq_true
theorem qb:type_of% @List.getElem?_cons_succ:=@List.getElem?_cons_succ
theorem rh:type_of% @Array.getD_eq_getD_getElem?:=@Array.getD_eq_getD_getElem?
theorem ri:type_of% @Bool.false_eq_true:=@Bool.false_eq_true
theorem rj:type_of% @List.all_append:=@List.all_append
theorem rk:type_of% @List.ext_getElem?:=@List.ext_getElem?
theorem rp:type_of% @List.mem_cons_of_mem:=@List.mem_cons_of_mem
theorem rq:type_of% @List.take_length:=@List.take_length
theorem rr:type_of% @beq_self_eq_true:=@beq_self_eq_true
theorem ry:type_of% @decide_eq_false_iff_not:=@decide_eq_false_iff_not
theorem sK:type_of% @Bool.false_or:=@Bool.false_or
theorem sL:type_of% @List.getElem?_take:=@List.getElem?_take
theorem sM:type_of% @List.not_mem_nil:=@List.not_mem_nil
theorem sN:type_of% @Nat.add_comm:=@Nat.add_comm
theorem tL:type_of% @List.all_cons:=@List.all_cons
theorem tM:type_of% @List.getElem?_drop:=@List.getElem?_drop
theorem tN:type_of% @List.mem_map:=@List.mem_map
theorem tO:type_of% @Nat.add_assoc:=@Nat.add_assoc
theorem vh:type_of% @List.length_replicate:=@List.length_replicate
theorem vi:type_of% @List.nodup_append:=@List.nodup_append
theorem vj:type_of% @List.range_succ:=@List.range_succ
theorem vk:type_of% @Nat.add_mul:=@Nat.add_mul
theorem vm:type_of% @Nat.pow_succ:=@Nat.pow_succ
theorem wE:type_of% @Bool.and_true:=@Bool.and_true
theorem wF:type_of% @Bool.or_eq_false_iff:=@Bool.or_eq_false_iff
theorem wG:type_of% @List.length_eq_zero_iff:=@List.length_eq_zero_iff
theorem wH:type_of% @List.take_add:=@List.take_add
theorem wI:type_of% @Nat.succ_pos:=@Nat.succ_pos
theorem yh:type_of% @List.flatten_cons:=@List.flatten_cons
theorem yi:type_of% @List.length_nil:=@List.length_nil
theorem yj:type_of% @List.mem_range:=@List.mem_range
theorem yk:type_of% @List.nodup_cons:=@List.nodup_cons
theorem yl:type_of% @Nat.eq_zero_or_pos:=@Nat.eq_zero_or_pos
theorem ym:type_of% @Nat.not_lt:=@Nat.not_lt
theorem zJ:type_of% @Bool.true_or:=@Bool.true_or
theorem zK:type_of% @List.drop_of_length_le:=@List.drop_of_length_le
theorem zL:type_of% @List.eq_nil_of_length_eq_zero:=@List.eq_nil_of_length_eq_zero
theorem zM:type_of% @List.foldl_append:=@List.foldl_append
theorem zN:type_of% @List.mem_filter:=@List.mem_filter
theorem BG:type_of% @Bool.and_false:=@Bool.and_false
theorem BH:type_of% @List.cons.inj:=@List.cons.inj
theorem BI:type_of% @List.drop_left:=@List.drop_left
theorem BJ:type_of% @List.drop_take:=@List.drop_take
theorem BK:type_of% @List.take_left:=@List.take_left
theorem BL:type_of% @Nat.beq_refl:=@Nat.beq_refl
theorem BM:type_of% @Nat.mul_comm:=@Nat.mul_comm
theorem BN:type_of% @Nat.sub_zero:=@Nat.sub_zero
theorem BO:type_of% @Nat.two_pow_pos:=@Nat.two_pow_pos
theorem BP:type_of% @of_decide_eq_false:=@of_decide_eq_false
theorem DG:type_of% @Bool.cond_false_right:=@Bool.cond_false_right
theorem DH:type_of% @List.foldl_cons:=@List.foldl_cons
theorem DI:type_of% @List.getElem?_of_mem:=@List.getElem?_of_mem
theorem DJ:type_of% @List.map_set:=@List.map_set
theorem DK:type_of% @List.take_take:=@List.take_take
theorem DL:type_of% @Nat.div_le_self:=@Nat.div_le_self
theorem DM:type_of% @Nat.lt_of_le_of_lt:=@Nat.lt_of_le_of_lt
theorem DN:type_of% @Nat.mul_le_mul_right:=@Nat.mul_le_mul_right
theorem DO:type_of% @Nat.not_lt_zero:=@Nat.not_lt_zero
theorem DP:type_of% @Nat.succ_mul:=@Nat.succ_mul
theorem DQ:type_of% @Option.some.inj:=@Option.some.inj
theorem DR:type_of% @Prod.mk.injEq:=@Prod.mk.injEq
theorem DS:type_of% @UInt8.toNat_inj:=@UInt8.toNat_inj
theorem Ga:type_of% @List.filter_append:=@List.filter_append
theorem Gb:type_of% @List.flatten_append:=@List.flatten_append
theorem Gc:type_of% @List.getElem_of_mem:=@List.getElem_of_mem
theorem Gd:type_of% @List.replicate_succ:=@List.replicate_succ
theorem Ge:type_of% @List.take_zero:=@List.take_zero
theorem Gf:type_of% @Nat.eq_of_testBit_eq:=@Nat.eq_of_testBit_eq
theorem Gg:type_of% @Nat.mod_two_eq_zero_or_one:=@Nat.mod_two_eq_zero_or_one
theorem Gh:type_of% @Nat.mul_eq_zero:=@Nat.mul_eq_zero
theorem Gi:type_of% @Nat.testBit_lt_two_pow:=@Nat.testBit_lt_two_pow
theorem Gj:type_of% @Nat.xor_lt_two_pow:=@Nat.xor_lt_two_pow
theorem JI:type_of% @BitVec.toNat_ofInt:=@BitVec.toNat_ofInt
theorem JJ:type_of% @List.all_eq_false:=@List.all_eq_false
theorem JK:type_of% @List.getElem?_toArray:=@List.getElem?_toArray
theorem JL:type_of% @List.length_range:=@List.length_range
theorem JM:type_of% @List.pairwise_append:=@List.pairwise_append
theorem JN:type_of% @List.pairwise_map:=@List.pairwise_map
theorem JO:type_of% @List.range'_succ:=@List.range'_succ
theorem JP:type_of% @Nat.ne_of_beq_eq_false:=@Nat.ne_of_beq_eq_false
theorem JQ:type_of% @Nat.or_lt_two_pow:=@Nat.or_lt_two_pow
theorem JR:type_of% @Nat.pow_lt_pow_right:=@Nat.pow_lt_pow_right
theorem JT:type_of% @Option.isSome_none:=@Option.isSome_none
theorem N3:type_of% @Array.getElem?_append_left:=@Array.getElem?_append_left
theorem N4:type_of% @Array.getElem?_setIfInBounds_self_of_lt:=@Array.getElem?_setIfInBounds_self_of_lt
theorem N5:type_of% @List.extract_eq_take_drop:=@List.extract_eq_take_drop
theorem N6:type_of% @List.length_eq_one_iff:=@List.length_eq_one_iff
theorem N7:type_of% @List.pairwise_iff_getElem:=@List.pairwise_iff_getElem
theorem N8:type_of% @List.take_append_of_le_length:=@List.take_append_of_le_length
theorem ae{α:Sort _}(a b:α):cond true a b=a:=rfl
theorem af{α:Sort _}(a b:α):cond false a b=b:=rfl
namespace Go.Gv
inductive DV where
 |bool (b:Bool)
 |int (k:IntKind) (n:Int)
 |str (s:List UInt8)
 |ptr (a:Option (Nat×Nat))
 |slice (sz:Nat) (a:Option (Nat×Nat)) (len:Nat)
 |agg (cs:List DV)
 |func (g:Nat) (first cap:List DV)
 |nilFunc
 |iface (t:Nat) (v:DV)
 |nilIface
 |nat (n:Nat)
structure bT where
 fN:Bool
 cells:List DV
abbrev St:=List (Option bT)
inductive Out (β:Type) where
 |val (b:β)
 |eZ
abbrev M (β:Type):=St->Option (Out β×St)
abbrev Zf:=Nat->List DV->M (List DV)
variable {β:Type}
def fail:M β:=λ_=>none
abbrev bs (l:List UInt8):List UInt8:=l
def St.cells (s:St) (i:Nat):Option (List DV):=
 match s[i]? with
 |some (some b)=>some b.cells
 |_=>none
def St.gE (s:St) (i:Nat):Option (List DV):=
 match s[i]? with
 |some (some ⟨false,cs⟩)=>some cs
 |_=>none
def ov:List DV->List DV->List DV
 |_::cs,d::ds=>d::ov cs ds
 |cs,[]=>cs
 |[],_=>[]
def cw:List DV->Nat->List DV->List DV
 |cs,0,ds=>ov cs ds
 |c::cs,k+1,ds=>c::cw cs k ds
 |[],_+1,_=>[]
def bJ (a:Option (Nat×Nat)) (K:Nat->Nat->M β):M β:=
 match a with
 |some (i,o)=>K i o
 |none=>fail
def bS (i o n:Nat) (K:List DV->M β):M β:=λs=>
 match s.cells i with
 |some cs=>bif Nat.ble (o+n) cs.length then K ((cs.drop o).take n) s else none
 |none=>none
def bG (i o:Nat) (K:DV->M β):M β:=λs=>
 match s.cells i with
 |some cs=>match cs[o]? with
  |some d=>K d s
  |none=>none
 |none=>none
def ee (i o:Nat) (ds:List DV) (K:M β):M β:=λs=>
 match s.gE i with
 |some cs=>bif Nat.ble (o+ds.length) cs.length then K (s.set i (some ⟨false,cw cs o ds⟩))else none
 |none=>none
def cg (cells:List DV) (K:Nat->M β):M β:=λs=>K s.length (s++[some ⟨false,cells⟩])
def da (a:Option (Nat×Nat)) (n:Nat) (K:List DV->M β):M β:=
 match a with
 |some (i,o)=>bS i o n K
 |none=>bif Nat.beq n 0 then K []else fail
def tl (a:Option (Nat×Nat)) (ds:List DV) (K:M β):M β:=
 match a with
 |some (i,o)=>ee i o ds K
 |none=>bif Nat.beq ds.length 0 then K else fail
def cm (sz:Nat) (a:Option (Nat×Nat)) (len:Nat) (ds:List DV) (m lim:Nat) (K:Option (Nat×Nat)->M β):M β:=λs=>
 bif Nat.beq m 0 then K a s else
 bif Nat.ble (len+m) lim then
  match a with
  |none=>bif Nat.beq len 0 then K (some (s.length,0)) (s++[some ⟨false,ds⟩])else none
  |some (i,o)=>match s.gE i with
   |some cs=>bif Nat.ble (o+len*sz) cs.length then K (some (s.length,0)) (s.set i none++[some ⟨false,(cs.drop o).take (len*sz)++ds⟩])else none
   |none=>none
 else none
def aC (b:Bool) (K:M β):M β:=bif b then K else fail
variable {α β:Type}
def c9 (m:M α) (K:α->M β):M β:=λs=>
 match m s with
 |some (.val ds,s')=>K ds s'
 |some (.eZ,s')=>some (.eZ,s')
 |none=>none
def St.Ub (s s':St):Prop:=∃r,s'=s++r
open Classical in
noncomputable def rR (m:M α) (K:α->M β):M β:=λs=>
 match m s with
 |some (.val ds,s')=>if St.Ub s s' then K ds s' else none
 |_=>none
def tk (m:M α) (K:α->M β):M β:=λs=>
 match m s with
 |some (.val ds,s')=>K ds s'
 |_=>none
def uv (m:M (List DV)) (H:Bool->M β):M β:=λs=>
 match m s with
 |some (.val _,s')=>H false s'
 |some (.eZ,s')=>H true s'
 |none=>none
open Classical in
noncomputable def Xp (i:Nat) (m:M α):M α:=λs=>
 match m s with
 |some (.val ds,s')=>if s'[i]? =s[i]? then some (.val ds,s')else none
 |r=>r
def yG:M β:=λs=>some (.eZ,s)
def iU (f:Nat->M β):M β:=λs=>f s.length s
def kB (b:Nat) (s:St):St:=s.take b++(s.drop b).map (λx=>x.map λk=> { k with fN:=true })
def ay (ds:β):M β:=λs=>some (.val ds,s)
def cu (b:Nat) (ds:β):M β:=λs=>some (.val ds,kB b s)
theorem ZuH (f:List DV->M β) (g:(List DV->M β)->M β): ∃x:M β,∀f' g',f'=f->g'=g->x=g' f':=by simp
noncomputable def cK (f:List DV->M β) (g:(List DV->M β)->M β):M β:=Classical.choose (ZuH f g)
theorem L7 (f:List DV->M β) (g:(List DV->M β)->M β):cK f g=g f:=Classical.choose_spec (ZuH f g) f g rfl rfl
def cY (F:(List DV->M β)->List DV->M β):Nat->List DV->M β
 |0,_=>fail
 |n+1,st=>F (cY F n) st
def tj (d:DV) (K:Bool->M β):M β:=match d with| .bool b=>K b|_=>fail
def uU:IntKind->IntKind->Bool
 | .i8,.i8| .i16,.i16| .i32,.i32| .i64,.i64| .u8,.u8| .u16,.u16| .u32,.u32| .u64,.u64=>true
 |_,_=>false
def cT (k:IntKind) (d:DV) (K:Int->M β):M β:=match d with| .int k' n=>bif uU k' k then K n else fail|_=>fail
def Ay (d:DV) (K:List UInt8->M β):M β:=match d with| .str s=>K s|_=>fail
def CF (d:DV) (K:Option (Nat×Nat)->M β):M β:=match d with| .ptr a=>K a|_=>fail
def dE (sz:Nat) (d:DV) (K:Option (Nat×Nat)->Nat->M β):M β:=
 match d with| .slice z a n=>bif Nat.beq z sz||a.isNone then K a n else fail|_=>fail
def TI (d:DV) (K:Nat->List DV->List DV->M β):M β:=match d with| .func g f c=>K g f c|_=>fail
def th (d:DV) (K:List DV->M β):M β:=match d with| .agg cs=>K cs|_=>fail
def Xm (d:DV) (K:Nat->M β):M β:=match d with| .nat n=>K n|_=>fail
def jt (cs:List DV) (K:DV->List DV->M β):M β:=match cs with|d::r=>K d r|[]=>fail
def aJ (cs:List DV) (K:M β):M β:=match cs with|[]=>K|_=>fail
def TH (n:Nat) (cs:List DV) (K:List DV->List DV->M β):M β:=bif Nat.ble n cs.length then K (cs.take n) (cs.drop n)else fail
def eD (cs:List DV) (i:Nat) (K:DV->M β):M β:=match cs[i]? with|some d=>K d|none=>fail
def bx (ds:List DV) (n:Nat) (K:M β):M β:=bif Nat.beq ds.length n then K else fail
def uu (pn:M β) (d:DV) (t:Nat) (K:DV->M β):M β:=match d with| .iface t' v=>bif Nat.beq t' t then K v else pn| .nilIface=>pn|_=>fail
def sZ:List DV->Option (List UInt8)
 |[]=>some []
 | .int .u8 n::r=>(sZ r).map (UInt8.ofNat n.toNat:: ·)
 |_=>none
def kE (cs:List DV) (K:List UInt8->M β):M β:=match sZ cs with|some l=>K l|none=>fail
def gW (st:List DV) (K:Bool->List DV->M β):M β:=jt st λd r=>tj d λx=>K x r
def aF (k:IntKind) (st:List DV) (K:Int->List DV->M β):M β:=jt st λd r=>cT k d λx=>K x r
def eE (st:List DV) (K:List UInt8->List DV->M β):M β:=jt st λd r=>Ay d λx=>K x r
def nG (st:List DV) (K:Option (Nat×Nat)->List DV->M β):M β:=jt st λd r=>CF d λx=>K x r
def bL (sz:Nat) (st:List DV) (K:Option (Nat×Nat)->Nat->List DV->M β):M β:=jt st λd r=>dE sz d λa n=>K a n r
def L5 (st:List DV) (K:Nat->List DV->List DV->List DV->M β):M β:=jt st λd r=>TI d λg f c=>K g f c r
def bn (st:List DV) (K:List DV->List DV->M β):M β:=jt st λd r=>th d λx=>K x r
def Xo (st:List DV) (K:Nat->List DV->M β):M β:=jt st λd r=>Xm d λx=>K x r
def Xn (st:List DV) (K:DV->List DV->M β):M β:=jt st K
inductive B where
 |bool|int (k:IntKind)|str|ptr|slice (sz:Nat)|func|any|eQ (n:Nat)
inductive Sh where
 |b (x:B)
 |agg (l:List B)
def d1 (x:B) (d:DV) (K:DV->M β):M β:=
 match x with
 | .bool=>tj d λb=>K (.bool b)
 | .int k=>cT k d λn=>K (.int k n)
 | .str=>Ay d λs=>K (.str s)
 | .ptr=>CF d λa=>K (.ptr a)
 | .slice sz=>dE sz d λa n=>K (.slice sz a n)
 | .func=>TI d λg f c=>K (.func g f c)
 | .any=>K d
 | .eQ _=>fail
def nC:List B->List DV->(List DV->M β)->M β
 |[],cs,K=>aJ cs (K [])
 |[.eQ n],cs,K=>bx cs n (K cs)
 | .eQ n::r,cs,K=>TH n cs λxs rest=>nC r rest λds=>K (xs++ds)
 |x::r,cs,K=>jt cs λd rest=>d1 x d λd'=>nC r rest λds=>K (d'::ds)
def yK (x:Sh) (d:DV) (K:DV->M β):M β:=
 match x with
 | .b x=>d1 x d K
 | .agg l=>th d λcs=>nC l cs λds=>K (.agg ds)
def AH:List Sh->List DV->(List DV->M β)->M β
 |[],cs,K=>aJ cs (K [])
 |x::r,cs,K=>jt cs λd rest=>yK x d λd'=>AH r rest λds=>K (d'::ds)
def glue:List B->List B
 |[]=>[]
 | .eQ n::r=>match glue r with
  | .eQ m::r'=> .eQ (n+m)::r'
  |r'=> .eQ n::r'
 |x::r=>x::glue r
def L9 (P:Program):Nat->TypeId->List B
 |0,_=>[.any]
 |n+1,t=>
  match P.underlying t with
  |some .bool=>[.bool]
  |some (.int k)=>[.int k]
  |some .string=>[.str]
  |some (.pointer _)=>[.ptr]
  |some (.slice e)=>[.slice (P.cellsOf e)]
  |some (.func _ _ _)=>[.func]
  |some (.array m e)=>bif Nat.ble (m*P.cellsOf e) 8 then(List.replicate m (L9 P n e)).flatten else[.eQ (m*P.cellsOf e)]
  |some (.struct fs)=>glue (fs.toList.flatMap λf=>L9 P n f.type)
  |_=>[.any]
def iS (P:Program) (t:TypeId):Bool:=
 match P.underlying t with
 |some (.struct _)|some (.array _ _)=>true
 |_=>false
def mG (P:Program) (t:TypeId):Sh:=
 bif iS P t then .agg (L9 P 20 t)else
 match L9 P 1 t with
 |[x]=> .b x
 |_=> .b .any
def aam (P:Program) (t:TypeId):Bool×List Sh:=
 match P.underlying t with
 |some (.tuple ts)=>(true,ts.toList.map (mG P))
 |_=>(false,[mG P t])
structure bB where
 P:Program
 fn:Nat->Nat
 cov:Nat->Bool
 ty:Nat->Nat
 gl:Nat->Nat
 AM:Nat->Bool
 CJ:Nat->List B
 mp:Nat->Bool
def By:Value->Option DV
 | .bool b=>some (.bool b)
 | .int k n=>some (.int k n)
 | .string s=>some (.str s.data.toList)
 | .pointer none=>some (.ptr none)
 | .slice none 0 0=>some (.slice 0 none 0)
 | .nilFunc=>some .nilFunc
 | .nilIface=>some .nilIface
 |_=>none
def Hz:List Value->Option (List DV)
 |[]=>some []
 |v::r=>match By v,Hz r with
  |some d,some ds=>some (d::ds)
  |_,_=>none
inductive eH where
 |u
 |un
 |v (d:DV)
 |p9 (ds:List DV)
 |loc (v n:Nat) (cs:List DV)
 |pl (r v o:Nat)
 |it (v:Nat) (s:List UInt8) (pos:Nat)
structure Env where
 bO:Nat
 l:List (Nat×eH)
def look:List (Nat×eH)->Nat->eH
 |[],_=> .u
 |(k,e)::r,t=>bif Nat.beq k t then e else look r t
def Env.get (E:Env) (t:Nat):eH:=look E.l t
def Env.put (E:Env) (t:Nat) (e:eH):Env:=⟨E.bO,(t,e)::E.l⟩
def Env.eU (E:Env) (t:Option Nat) (e:eH):Env:=match t with|some t=>E.put t e|none=>E
def has:List Nat->Nat->Bool
 |[],_=>false
 |k::r,t=>Nat.beq k t||has r t
def ES:List (Nat×eH)->List Nat->List (Nat×eH)
 |[],_=>[]
 |(k,e)::r,ts=>bif has ts k then ES r ts else(k,e)::ES r ts
def Env.del (E:Env) (ts:List Nat):Env:=⟨E.bO,ES E.l ts⟩
def Env.src (C:bB) (E:Env):Operand->eH
 | .tmp t=>match E.get t with
  | .loc v _ _=> .pl t v 0
  | .it _ _ _=> .u
  |e=>e
 | .const v=>(match By v with|some d=> .v d|none=> .u)
 | .global g=>bif C.AM g then .v (.ptr (some (C.gl g,0)))else .u
 | .func f=>bif C.cov f then .v (.func (C.fn f) [] [])else .u
def fe (C:bB) (E:Env) (x:Operand) (K:DV->M β):M β:=
 match E.src C x with
 | .v d=>K d
 |_=>fail
def zG (C:bB) (E:Env):List Operand->(List DV->M β)->M β
 |[],K=>K []
 |x::r,K=>fe C E x λd=>zG C E r λds=>K (d::ds)
def LX (E:Env) (r v:Nat) (K:Nat->List DV->M β):M β:=
 match E.get r with
 | .loc v' n cs=>bif Nat.beq v' v then K n cs else fail
 |_=>fail
def CH (C:bB) (E:Env) (x:Operand) (KL:Nat->Nat->Nat->M β) (KH:Nat->Nat->M β):M β:=
 match E.src C x with
 | .pl r v o=>KL r v o
 | .v (.ptr a)=>bJ a KH
 |_=>fail
def Bs (C:bB) (E:Env) (x:Operand) (K:Int->M β):M β:=fe C E x λd=>match d with| .int _ n=>K n|_=>fail
def Ud (C:bB) (E:Env) (x:Operand) (K:Bool->M β):M β:=fe C E x λd=>match d with| .bool b=>K b|_=>fail
def AI:B->DV->DV->Option Bool
 | .bool,.bool a,.bool b=>some (a==b)
 | .int k0,.int k a,.int k' b=>bif uU k0 k&&uU k k' then some (a==b)else none
 | .str,.str a,.str b=>some (a==b)
 |_,_,_=>none
def mR:List B->List DV->List DV->Option Bool
 |[],[],[]=>some true
 |k::ks,a::r,b::r'=>match AI k a b,mR ks r r' with
  |some x,some y=>some (x&&y)
  |_,_=>none
 |_,_,_=>none
def aaZ (ag:List B) (xs ys:List DV) (K:Bool->M β):M β:=match mR ag xs ys with|some b=>K b|none=>fail
def Mj (u:Option TypeDesc) (ag:List B) (a b:DV) (K:Bool->M β):M β:=
 match a,b with
 | .bool x,.bool y=>(match u with|some .bool=>K (x==y)|_=>fail)
 | .int k x,.int k' y=>bif uU k k' then K (x==y)else fail
 | .str x,.str y=>K (x==y)
 | .ptr x,.ptr none=>(match u with|some (.pointer _)=>K x.isNone|_=>fail)
 | .ptr none,.ptr x=>(match u with|some (.pointer _)=>K x.isNone|_=>fail)
 | .slice _ x _,.slice _ none _=>(match u with|some (.slice _)=>K x.isNone|_=>fail)
 | .slice _ none _,.slice _ x _=>(match u with|some (.slice _)=>K x.isNone|_=>fail)
 | .agg xs,.agg ys=>(match ag with|[]=>fail|k::ks=>(match mR (k::ks) xs ys with|some b=>K b|none=>fail))
 |_,_=>fail
def ar (n:Int):Int:=IntKind.i64.wrap n
def bits (op:BinOp) (k:IntKind) (x y:Int):Int:=
 let a:=BitVec.ofInt k.bits x
 let b:=BitVec.ofInt k.bits y
 match op with
 | .and=>k.wrap (a&&& b).toNat
 | .or=>k.wrap (a|||b).toNat
 | .xor=>k.wrap (a^^^b).toNat
 |_=>k.wrap (a&&& ~~~b).toNat
def strLt:List UInt8->List UInt8->Bool:=Op.bytesLess
def Xw (u:Option TypeDesc) (ag:List B) (op:BinOp) (a b:DV) (K:DV->M β):M β:=
 match op with
 | .eql=>Mj u ag a b λr=>K (.bool r)
 | .neq=>Mj u ag a b λr=>K (.bool !r)
 | .shl=>match a,b with
  | .int k x,.int _ y=>aC (decide (0<=y)) (K (.int k (k.wrap (x*2^(min y.toNat k.bits)))))
  |_,_=>fail
 | .shr=>match a,b with
  | .int k x,.int _ y=>aC (decide (0<=y)) (K (.int k (x.fdiv (2^(min y.toNat k.bits)))))
  |_,_=>fail
 |op=>match a,b with
  | .int k x,.int k' y=>bif uU k k' then
    match op with
    | .add=>K (.int k (k.wrap (x+y)))
    | .sub=>K (.int k (k.wrap (x-y)))
    | .mul=>K (.int k (k.wrap (x*y)))
    | .quo=>aC (!(y==0)) (K (.int k (k.wrap (x.tdiv y))))
    | .rem=>aC (!(y==0)) (K (.int k (x.tmod y)))
    | .and| .or| .xor| .andNot=>K (.int k (bits op k x y))
    | .lss=>K (.bool (decide (x<y)))
    | .leq=>K (.bool (decide (x<=y)))
    | .gtr=>K (.bool (decide (x>y)))
    | .geq=>K (.bool (decide (x>=y)))
    |_=>fail
   else fail
  | .str x,.str y=>
   match op with
   | .add=>aC (Nat.ble (x.length+y.length) 4611686018427387904) (K (.str (x++y)))
   | .lss=>K (.bool (strLt x y))
   | .leq=>K (.bool (strLt x y||x==y))
   | .gtr=>K (.bool !(strLt x y||x==y))
   | .geq=>K (.bool !(strLt x y))
   |_=>fail
  |_,_=>fail
def unK (op:UnOp) (a:DV) (K:DV->M β):M β:=
 match op,a with
 | .not,.bool b=>K (.bool !b)
 | .neg,.int k n=>K (.int k (k.wrap (0-n)))
 |_,_=>fail
def aQ (i:Int) (n:Nat):Bool:=decide (0<=i)&&decide (i<n)
def ZP (s:List UInt8) (i:Int):Int:=((s.getD i.toNat 0).toNat:Int)
def ZU (s:List UInt8):List DV:=s.map λb=> .int .u8 b.toNat
def enc (n:Int):List UInt8:=(Utf8.encode n).data.toList
def dec (s:List UInt8) (i:Nat):Nat×Nat:=
 let at' (k:Nat):Nat:=(s.getD (i+k) 0).toNat
 let cont (k:Nat):Bool:=decide (i+k<s.length)&&at' k/64==2
 let b0:=at' 0
 if b0<0x80 then(b0,1)
 else if b0/32==6&&cont 1 then
  let c:=(b0%32)*64+at' 1%64
  if c>=0x80 then(c,2)else(Utf8.runeError,1)
 else if b0/16==14&&cont 1&&cont 2 then
  let c:=(b0%16)*4096+(at' 1%64)*64+at' 2%64
  if c>=0x800&&Utf8.valid c then(c,3)else(Utf8.runeError,1)
 else if b0/8==30&&cont 1&&cont 2&&cont 3 then
  let c:=(b0%8)*262144+(at' 1%64)*4096+(at' 2%64)*64+at' 3%64
  if c>=0x10000&&Utf8.valid c then(c,4)else(Utf8.runeError,1)
 else(Utf8.runeError,1)
def CD (s:List UInt8) (i:Nat):Int:=((dec s i).1:Int)
def u7 (s:List UInt8) (i:Nat):Nat:=(dec s i).2
def ig (n:Nat) (z:List DV):List DV:=(List.replicate n z).flatten
def wT (P:Program) (t:TypeId):Option TypeId:=match P.underlying t with|some (.slice e)=>some e|_=>none
def Lq (P:Program) (t:TypeId):Nat:=match P.info? t with|some i=>i.bytes|none=>0
def Bu (P:Program) (e:TypeId):Nat:=70368744177664/(Lq P e)
def mP (P:Program) (t:TypeId):Option (List DV):=match P.info? t with|some i=>(match i.zero with|some z=>Hz z.cells.toList|none=>none)|none=>none
def one:DV->Bool
 | .agg _=>false
 |_=>true
def ra (P:Program) (t:TypeId) (K:M β):M β:=match P.underlying t with|some _=>K|none=>fail
def LR (P:Program) (t:TypeId) (d:DV) (K:List DV->M β):M β:=
 ra P t (bif iS P t then(match d with| .agg cs=>bx cs (P.cellsOf t) (K cs)|_=>fail)
  else bif Nat.beq (P.cellsOf t) 1 then aC (one d) (K [d])else fail)
def yb (n m:Nat) (cs:List DV) (p:Nat) (ds:List DV):List DV:=bif Nat.beq m n&&Nat.beq p 0 then ds else cw cs p ds
def Bt (E:Env) (C:bB) (N:Nat) (place:Nat->Option (Nat×Nat)):List (Nat×Operand)->List DV->(List DV->M β)->M β
 |[],cs,K=>K cs
 |(i,x)::r,cs,K=>match place i with
  |none=>fail
  |some (o,n)=>bif Nat.ble (o+n) N then fe C E x λd=>
   match d with
   | .agg ds=>bx ds n (Bt E C N place r (yb N n cs o ds) K)
   |d=>bif Nat.beq n 1 then aC (one d) (Bt E C N place r (cw cs o [d]) K)else fail
   else fail
def Ts (P:Program) (t:TypeId):Nat->Option (Nat×Nat):=
 match P.underlying t with
 |some (.struct fs)=>λi=>match fs[i]? with|some f=>some (f.offset,P.cellsOf f.type)|none=>none
 |some (.array _ e)=>λi=>some (i*P.cellsOf e,P.cellsOf e)
 |_=>λ_=>none
def Zru (P:Program) (t:TypeId):Bool:=
 match P.underlying t with
 |some (.struct fs)=>fs.toList.all λf=>(P.info? f.type).isSome
 |some (.array _ e)=>(P.info? e).isSome
 |_=>false
def LI (pr:List Nat) (o:Oper) (n:Nat) (cells:List DV) (E:Env) (K:Env->M β):M β:=
 match o.dst with
 |some t=>bif has pr t then K ⟨E.bO+1,(t,.loc E.bO n cells)::E.l⟩else cg cells λi=>K (E.put t (.v (.ptr (some (i,0)))))
 |none=>fail
def Hs (C:bB) (E:Env) (len:Nat) (lo hi:Option Operand) (K:Nat->Nat->M β):M β:=
 let low (h:Nat):M β:=match lo with
  |none=>K 0 h
  |some x=>Bs C E x λl=>aC (decide (0<=l)&&decide (l<=h)) (K l.toNat h)
 match hi with
 |none=>low len
 |some x=>Bs C E x λh=>aC (decide (0<=h)&&decide (h<=len)) (low h.toNat)
def EP (lo hi:Bool) (s:List UInt8) (l h:Nat):List UInt8:=
 bif hi then(bif lo then(s.take h).drop l else s.take h)else(bif lo then s.drop l else s)
def cU (lo:Bool) (a:Option (Nat×Nat)) (k:Nat):Option (Nat×Nat):=bif lo then(match a with|some (i,o)=>some (i,k+o)|none=>none)else a
def HL (lo:Bool) (l h:Nat):Nat:=bif lo then h-l else h
def part (n:Nat) (cs:List DV) (p m:Nat):List DV:=bif Nat.beq m n&&Nat.beq p 0 then cs else(cs.drop p).take m
def sE (pr:List Nat):List Oper->Nat->Nat->Option Nat
 |_,0,_=>none
 |ops,n+1,t=>bif has pr t then some t else
  match ops.find? λo=>match o.dst with|some d=>Nat.beq d t|none=>false with
  |some o=>match o.op with
   | .fieldAddr _ (.tmp u) _| .indexAddr _ (.tmp u) _| .move (.tmp u)| .nilCheck (.tmp u)=>sE pr ops n u
   |_=>none
  |none=>none
def xV (pr:List Nat) (ops:List Oper):List Oper->List Nat
 |[]=>[]
 |o::r=>
  let m:=xV pr ops r
  let m:=match o.dst with|some d=>d::m|none=>m
  match o.op with
  | .store _ (.tmp a) _=>match sE pr ops 12 a with|some t=>t::m|none=>m
  | .next (.tmp t) _=>t::m
  |_=>m
def lW (pr:List Nat):Code->List Nat
 | .region _ ops _=>xV pr ops.toList ops.toList
 | .seq a b| .cond _ a b=>lW pr a++lW pr b
 | .block _ b| .loop b| .scope b=>lW pr b
 |_=>[]
inductive lF where
 |pure|hp|wr|call|wv (r:Nat)|oX (r:Nat)
 |lp (a:Nat)|ap (bs:List Nat)
inductive Md where
 |s
 |d (k:lF) (x:Nat)
def Md.loc:Md->Nat->Bool
 | .s,_=>true
 | .d (.wv q) _,r=>Nat.beq q r
 | .d (.oX q) _,r=>Nat.beq q r
 |_,_=>false
def Md.Mk:Md->Bool
 | .s=>true
 | .d (.wv _) _=>false
 | .d (.oX _) _=>false
 |_=>true
def Md.x:Md->Nat
 | .s=>0
 | .d _ x=>x
def cls (P:Program) (pr:List Nat) (ops:List Oper) (o:Oper):lF:=
 match o.op with
 | .load _ (.tmp a)=>match sE pr ops 12 a with|some r=> .wv r|none=> .lp a
 | .load _ _=> .hp
 | .store _ (.tmp a) _=>match sE pr ops 12 a with|some r=> .oX r|none=> .ap []
 | .store .. => .wr
 | .alloc _| .box _ _| .buildSlice .. | .makeSlice .. | .convert .. | .range .. => .hp
 | .slice t .. =>match P.underlying t with|some (.array _ _)=> .hp|_=> .pure
 | .move _| .assign _| .pick .. | .build .. | .nilCheck _| .binOp .. | .unOp .. | .fieldAddr .. | .field .. | .indexAddr .. | .index .. | .extract .. | .makeInterface .. | .makeFunc .. => .pure
 | .call q=>match q.callee with
  | .builtin .len| .builtin .min| .builtin .max=> .pure
  | .builtin .append=> .ap []
  | .value _=>bif has pr 1000000 then .ap []else .call
  |_=> .wr
 | .next (.tmp t) _=> .oX t
 |_=> .wr
section
variable (C:bB) (E:Env) (o:Oper) (K:Env->M β)
def cy (d:DV):M β:=K (E.eU o.dst (.v d))
def zC (e:eH):M β:=K (E.eU o.dst e)
def TS (b y z:Operand):M β:=Ud C E b λb=>bif b then zC E o K (E.src C y)else zC E o K (E.src C z)
def Tm (pr:List Nat) (t:TypeId):M β:=
 match mP C.P t with
 |some z=>bif Nat.beq z.length (C.P.cellsOf t)then LI pr o (C.P.cellsOf t) z E K else fail
 |none=>fail
def Wy (pr:List Nat) (t:TypeId) (y:Operand):M β:=fe C E y λd=>LR C.P t d λcs=>LI pr o (C.P.cellsOf t) cs E K
def S9 (t:TypeId) (ps:Array (Nat×Operand)):M β:=
 match mP C.P t with
 |some z=>bif Zru C.P t then Bt E C z.length (Ts C.P t) ps.toList z λcs=>cy E o K (.agg cs)else fail
 |none=>fail
def QH (t:TypeId) (len:Nat) (ps:Array (Nat×Operand)):M β:=
 match wT C.P t with
 |some e=>match mP C.P e with
  |some z=>bif Nat.ble (len*C.P.cellsOf e) 100000&&Nat.beq z.length (C.P.cellsOf e)then
    Bt E C (len*C.P.cellsOf e) (λi=>some (i*C.P.cellsOf e,C.P.cellsOf e)) ps.toList (ig len z) λcs=>
     cg cs λi=>cy E o K (.slice (C.P.cellsOf e) (some (i,0)) len)
    else fail
  |none=>fail
 |none=>fail
def LU (md:Md) (t:TypeId) (a:Operand):M β:=
 ra C.P t (CH C E a
  (λr v p=>bif md.loc r then LX E r v λn cs=>
   match mG C.P t with
   | .b y=>eD cs p λd=>d1 y d (cy E o K)
   | .agg _=>aC (Nat.ble (p+C.P.cellsOf t) n) (cy E o K (.agg (part n cs p (C.P.cellsOf t))))
   else fail)
  (λi p=>bif md.Mk then
   match mG C.P t with
   | .b y=>bG i p λd=>d1 y d (cy E o K)
   | .agg l=>bS i p (C.P.cellsOf t) λcs=>nC l cs λds=>cy E o K (.agg ds)
   else fail))
def Tw (md:Md) (ms:List Nat) (t:TypeId) (a y:Operand):M β:=
 fe C E y λd=>LR C.P t d λds=>CH C E a
  (λr v p=>bif has ms r&&md.loc r then LX E r v λn cs=>aC (Nat.ble (p+C.P.cellsOf t) n) (K (E.put r (.loc v n (yb n (C.P.cellsOf t) cs p ds))))else fail)
  (λi p=>bif md.Mk then ee i p ds (K E)else fail)
def Ry (y:Operand):M β:=CH C E y (λr v p=>zC E o K (.pl r v p)) (λi p=>cy E o K (.ptr (some (i,p))))
def Wx (op:BinOp) (t:TypeId) (y z:Operand):M β:=fe C E y λa=>fe C E z λb=>Xw (C.P.underlying t) (C.CJ t) op a b (cy E o K)
def WA (op:UnOp) (y:Operand):M β:=fe C E y λa=>unK op a (cy E o K)
def Ns (P:Program) (e:TypeId):Bool:=match P.underlying e with|some (.int .u8)=>true|_=>false
def Sa (s t:TypeId) (y:Operand):M β:=
 ra C.P s (match C.P.underlying t with
  |some (.int k)=>fe C E y λd=>(match d with| .int _ n=>cy E o K (.int k (k.wrap n))|_=>fail)
  |some .string=>(match C.P.underlying s with
   |some (.int _)=>fe C E y λd=>(match d with| .int _ n=>cy E o K (.str (enc n))|_=>fail)
   |some .string=>fe C E y λd=>(match d with| .str l=>cy E o K (.str l)|_=>fail)
   |some (.slice e)=>bif Ns C.P e then fe C E y λd=>(match d with
    | .slice z a n=>bif Nat.beq z 1||a.isNone then da a n λcs=>kE cs λl=>cy E o K (.str l)else fail
    |_=>fail)else fail
   |_=>fail)
  |some (.slice e)=>bif Ns C.P e then fe C E y λd=>(match d with
    | .str l=>cg (ZU l) λi=>cy E o K (.slice 1 (some (i,0)) l.length)
    |_=>fail)else fail
  |_=>fail)
def S8 (t:TypeId) (y:Operand):M β:=
 match C.P.underlying t with
 |some (.interface _)=>fail
 |some _=>fe C E y λd=>cy E o K (.iface (C.ty t) d)
 |none=>fail
def TM (f:Fn) (first cap:Array Operand):M β:=
 match f with
 | .func f=>bif C.cov f then zG C E first.toList λfs=>zG C E cap.toList λcs=>cy E o K (.func (C.fn f) fs cs)else fail
 |_=>fail
def Qs (t:TypeId) (l c:Operand):M β:=
 match wT C.P t with
 |some e=>match mP C.P e with
  |some z=>bif Nat.beq z.length (C.P.cellsOf e)then Bs C E l λn=>Bs C E c λm=>
    aC (decide (0<=n)&&decide (n<=m)&&decide (m<=Bu C.P e)) (cg (ig n.toNat z) λi=>cy E o K (.slice (C.P.cellsOf e) (some (i,0)) n.toNat))else fail
  |none=>fail
 |none=>fail
def Ti (t:TypeId) (y:Operand) (lo hi:Option Operand):M β:=
 match C.P.underlying t with
 |some .string=>fe C E y λd=>(match d with
  | .str s=>Hs C E s.length lo hi λl h=>cy E o K (.str (EP lo.isSome hi.isSome s l h))
  |_=>fail)
 |some (.slice e)=>ra C.P e (fe C E y λd=>(match d with
  | .slice z a n=>bif Nat.beq z (C.P.cellsOf e)||a.isNone then Hs C E n lo hi λl h=>cy E o K (.slice z (cU lo.isSome a (l*C.P.cellsOf e)) (HL lo.isSome l h))else fail
  |_=>fail))
 |some (.array m e)=>ra C.P e (fe C E y λd=>(match d with
  | .ptr a=>bJ a λi p=>bS i p (m*C.P.cellsOf e) λ_=>Hs C E m lo hi λl h=>cy E o K (.slice (C.P.cellsOf e) (cU lo.isSome (some (i,p)) (l*C.P.cellsOf e)) (HL lo.isSome l h))
  |_=>fail))
 |_=>fail
def Ko (t:TypeId) (y:Operand) (f:Nat):M β:=
 match C.P.underlying t with
 |some (.struct fs)=>(match fs[f]? with
  |some f=>bif Nat.beq (C.P.cellsOf f.type) 0 then fail else CH C E y (λr v p=>zC E o K (.pl r v (p+f.offset))) (λi p=>cy E o K (.ptr (some (i,p+f.offset))))
  |none=>fail)
 |_=>fail
def SZ (t:TypeId) (y:Operand) (f:Nat):M β:=
 match C.P.underlying t with
 |some (.struct fs)=>(match fs[f]? with
  |some f=>ra C.P f.type (fe C E y λd=>(match d with
   | .agg cs=>bif iS C.P f.type then cy E o K (.agg ((cs.drop f.offset).take (C.P.cellsOf f.type)))else eD cs f.offset λd=>yK (mG C.P f.type) d (cy E o K)
   |_=>fail))
  |none=>fail)
 |_=>fail
def QR (t:TypeId) (y i:Operand):M β:=
 Bs C E i λn=>match C.P.underlying t with
 |some (.slice e)=>ra C.P e (fe C E y λd=>(match d with
  | .slice z a m=>bif Nat.beq z (C.P.cellsOf e)||a.isNone then bJ a λj p=>aC (aQ n m) (cy E o K (.ptr (some (j,n.toNat*C.P.cellsOf e+p))))else fail
  |_=>fail))
 |some (.array m e)=>ra C.P e (CH C E y
  (λr v p=>aC (aQ n m) (zC E o K (.pl r v (n.toNat*C.P.cellsOf e+p))))
  (λj p=>aC (aQ n m) (cy E o K (.ptr (some (j,n.toNat*C.P.cellsOf e+p))))))
 |_=>fail
def Tj (t:TypeId) (y i:Operand):M β:=
 Bs C E i λn=>fe C E y λd=>match C.P.underlying t,d with
 |some .string,.str s=>aC (aQ n s.length) (cy E o K (.int .u8 (ZP s n)))
 |some (.array m e),.agg cs=>ra C.P e (aC (aQ n m) (bif iS C.P e then cy E o K (.agg ((cs.drop (n.toNat*C.P.cellsOf e)).take (C.P.cellsOf e)))else eD cs (n.toNat*C.P.cellsOf e) λd=>yK (mG C.P e) d (cy E o K)))
 |_,_=>fail
def TF (t:TypeId) (y:Operand):M β:=
 match C.P.underlying t with
 |some .string=>fe C E y λd=>match d,o.dst with
  | .str s,some t=>K ⟨E.bO+1,(t,.it E.bO s 0)::E.l⟩
  |_,_=>fail
 |_=>fail
def TJ (ms:List Nat) (t:Nat):M β:=
 match E.get t,o.dst with
 | .it v s p,some d=>bif Nat.beq d t|| !has ms t then fail else
   bif Nat.blt p s.length then K ((E.put t (.it v s (p+u7 s p))).put d (.p9 [.bool true,.int .i64 p,.int .i32 (CD s p)]))
   else K (E.put d (.p9 [.bool false]))
 |_,_=>fail
def Jl (md:Md):M β:=bif Nat.beq md.x 0 then yG else fail
def SU (md:Md) (t:TypeId) (y:Operand):M β:=
 match C.P.underlying t with
 |some (.interface _)=>fail
 |some _=>fe C E y λd=>uu (Jl md) d (C.ty t) λd=>yK (mG C.P t) d (cy E o K)
 |none=>fail
def RZ (t i:Nat):M β:=
 match E.get t with
 | .p9 ds=>(match ds[i]? with|some d=>cy E o K d|none=>fail)
 |_=>fail
def Tn (md:Md) (y:Operand):M β:=fe C E y λd=>match d with| .iface _ _=>Jl md|_=>fail
noncomputable def Mf (md:Md) (m:M (List DV)) (K:List DV->M β):M β:=
 match md.x with
 |0=>c9 m K
 |1=>tk m K
 |_=>rR m K
def Md.bs:Md->List Nat
 | .d (.ap bs) _=>bs
 |_=>[]
noncomputable def EO (E:Env):List Nat->M (List DV)->M (List DV)
 |[],m=>m
 |b::r,m=>match E.get b with
  | .v (.ptr (some (i,_)))=>Xp i (EO E r m)
  |_=>fail
noncomputable def TT (md:Md) (c:Zf) (f:Operand) (as:Array Operand):M β:=
 fe C E f λfv=>zG C E as.toList λas=>match fv with
 | .func g fs cs=>match aam C.P o.type with
  |(true,Jv)=>bif Nat.beq Jv.length 1 then fail else Mf md (EO E md.bs (c g (fs++as++cs))) λds=>AH Jv ds λds=>zC E o K (.p9 ds)
  |(false,Jv)=>Mf md (EO E md.bs (c g (fs++as++cs))) λds=>AH Jv ds λds=>match ds with|[d]=>cy E o K d|_=>fail
 |_=>fail
def Wz (ts:Array TypeId) (as:Array Operand):M β:=
 match as.toList,ts[0]? with
 |[y],some t=>(match C.P.underlying t with
  |some (.array m _)=>cy E o K (.int .i64 m)
  |some .string=>fe C E y λd=>(match d with| .str s=>cy E o K (.int .i64 s.length)|_=>fail)
  |some (.slice _)=>fe C E y λd=>(match d with| .slice _ _ n=>cy E o K (.int .i64 n)|_=>fail)
  |_=>fail)
 |_,_=>fail
def Wv (P:Program) (ts:Array TypeId) (K:M β):M β:=
 match ts[1]? with
 |none=>K
 |some t=>match P.underlying t with
  |some (.int _)=>fail
  |some _=>K
  |none=>fail
def SF (ts:Array TypeId) (as:Array Operand):M β:=
 match as.toList,ts[0]? with
 |[y,z],some t=>(match wT C.P t with
  |some e=>ra C.P e (Wv C.P ts (match mP C.P e with
   |some zv=>bif !Nat.beq zv.length (C.P.cellsOf e)then fail else fe C E y λa=>fe C E z λb=>(match a,b with
    | .slice w p n,.slice w' p' m=>bif (Nat.beq w (C.P.cellsOf e)||p.isNone)&&(Nat.beq w' (C.P.cellsOf e)||p'.isNone)then
      da p' (m*C.P.cellsOf e) λds=>cm (C.P.cellsOf e) p n ds m (Bu C.P e) λFX=>cy E o K (.slice (C.P.cellsOf e) FX (n+m))else fail
    | .slice w p n,.str l=>bif (Nat.beq w 1||p.isNone)&&Nat.beq (C.P.cellsOf e) 1 then cm 1 p n (ZU l) l.length (Bu C.P e) λFX=>cy E o K (.slice 1 FX (n+l.length))else fail
    |_,_=>fail)
   |none=>fail))
  |none=>fail)
 |_,_=>fail
def TR (ts:Array TypeId) (as:Array Operand):M β:=
 match as.toList,ts[0]? with
 |[y,z],some t=>(match wT C.P t with
  |some e=>ra C.P e (fe C E y λa=>fe C E z λb=>(match a,b with
   | .slice w p n,.slice w' p' m=>bif (Nat.beq w (C.P.cellsOf e)||p.isNone)&&(Nat.beq w' (C.P.cellsOf e)||p'.isNone)then da p' (min m n*C.P.cellsOf e) λds=>tl p ds (cy E o K (.int .i64 (min m n)))else fail
   | .slice w p n,.str l=>bif (Nat.beq w 1||p.isNone)&&Nat.beq (C.P.cellsOf e) 1 then tl p (ZU (l.take n)) (cy E o K (.int .i64 (min l.length n)))else fail
   |_,_=>fail))
  |none=>fail)
 |_,_=>fail
def ND (mx:Bool) (as:Array Operand):M β:=
 match as.toList with
 |[y,z]=>fe C E y λa=>fe C E z λb=>(match a,b with
  | .int k a,.int k' b=>bif uU k k' then cy E o K (.int k (bif mx then(if a<b then b else a)else(if b<a then b else a)))else fail
  |_,_=>fail)
 |_=>fail
def TA (ts:Array TypeId) (as:Array Operand):M β:=
 match as.toList,ts[0]? with
 |[y],some t=>(match wT C.P t with
  |some e=>fe C E y λa=>(match a,mP C.P e with
   | .slice w p n,some z=>bif (Nat.beq w (C.P.cellsOf e)||p.isNone)&&Nat.beq z.length (C.P.cellsOf e)then tl p (ig n z) (zC E o K (.p9 []))else fail
   |_,_=>fail)
  |none=>fail)
 |_,_=>fail
end
def apart (p:Option (Nat×Nat)) (i:Nat):Bool:=match p with|some (j,_)=> !Nat.beq i j|none=>true
def HI (E:Env) (p:Option (Nat×Nat)):List Nat->M β->M β
 |[],K=>K
 |b::r,K=>match E.get b with
  | .v (.ptr (some (i,_)))=>aC (apart p i) (HI E p r K)
  |_=>fail
def T3 (C:bB) (E:Env) (bs:List Nat) (as:Array Operand) (X:M β):M β:=
 match bs with
 |[]=>X
 |b::r=>match as.toList with
  |y::_=>fe C E y λa=>(match a with| .slice _ p _=>HI E p (b::r) X|_=>fail)
  |_=>fail
def WX (C:bB) (E:Env) (bs:List Nat) (a:Operand) (X:M β):M β:=
 match bs with
 |[]=>X
 |b::r=>match E.src C a with
  | .v (.ptr p)=>HI E p (b::r) X
  |_=>fail
noncomputable def ft (C:bB) (pr ms:List Nat) (md:Md) (c:Zf) (o:Oper) (E:Env) (K:Env->M β):M β:=
 match o.op with
 | .move y| .assign y=>zC E o K (E.src C y)
 | .pick b y z=>TS C E o K b y z
 | .alloc t=>Tm C E o K pr t
 | .box t y=>Wy C E o K pr t y
 | .build t ps=>S9 C E o K t ps
 | .buildSlice t len ps=>QH C E o K t len ps
 | .load t a=>LU C E o K md t a
 | .store t a y=>bif o.dst.isNone then WX C E md.bs a (Tw C E K md ms t a y)else fail
 | .nilCheck y=>Ry C E o K y
 | .binOp op t y z _=>Wx C E o K op t y z
 | .unOp op _ y=>WA C E o K op y
 | .convert s t y=>Sa C E o K s t y
 | .makeInterface t y=>S8 C E o K t y
 | .makeFunc f first cap=>TM C E o K f first cap
 | .makeSlice t l c=>Qs C E o K t l c
 | .slice t y lo hi none=>Ti C E o K t y lo hi
 | .fieldAddr t y f=>Ko C E o K t y f
 | .field t y f=>SZ C E o K t y f
 | .indexAddr t y i=>QR C E o K t y i
 | .index t y i=>Tj C E o K t y i
 | .range t y=>TF C E o K t y
 | .next (.tmp t) true=>TJ E o K ms t
 | .typeAssert y _ t false=>SU C E o K md t y
 | .extract (.tmp t) i=>RZ E o K t i
 | .panic y=>Tn C E md y
 | .call q=>match q.callee with
  | .value f=>TT C E o K md c f q.args
  | .builtin .len=>Wz C E o K q.argTypes q.args
  | .builtin .append=>T3 C E md.bs q.args (SF C E o K q.argTypes q.args)
  | .builtin .copy=>TR C E o K q.argTypes q.args
  | .builtin .min=>ND C E o K false q.args
  | .builtin .max=>ND C E o K true q.args
  | .builtin .clear=>TA C E o K q.argTypes q.args
  |_=>fail
 |_=>fail
def zB (C:bB) (E:Env) (x:Operand) (K:Nat->Nat->M β):M β:=match E.src C x with
 | .v (.ptr (some (i,p)))=>K i p
 |_=>fail
def xk (i p:Nat) (K:IntKind->Int->M β):M β:=bG i p λd=>match d with
 | .int k n=>K k n
 |_=>fail
def hJ (i p:Nat) (k:IntKind) (n:Int) (K:M β):M β:=bG i p λd=>match d with
 | .int k' n'=>bif uU k k'&&(n==n')then K else fail
 |_=>fail
def gI:List (Oper×Md)->List Nat
 |[]=>[]
 |(o,_)::r=>match o.dst with|some d=>d::gI r|none=>gI r
def Cr (r:Nat):List (Oper×Md)->List (Oper×Md)->Option (List (Oper×Md)×Oper×List (Oper×Md))
 |_,[]=>none
 |acc,(o,x)::rest=>match o.op with
  | .pick (.tmp t) _ _=>bif Nat.beq t r then some (acc.reverse,o,rest)else Cr r ((o,x)::acc) rest
  |_=>Cr r ((o,x)::acc) rest
def Mn:List (Nat×Bool)->Nat×Bool->Bool
 |[],_=>false
 |(k,b)::r,g=>(Nat.beq k g.1&&(b==g.2))||Mn r g
def Mo (act:List (Nat×Bool)):Option (Nat×Bool)->Bool
 |none=>true
 |some g=>Mn act g
def CL (pr:List Nat) (dst:Nat->Option Nat) (j:Nat) (w:Bool) (r:Nat):List Nat->List (Oper×Md)->Bool
 |_,[]=>true
 |WW,(o,_)::rest=>
  (match o.op with
   | .store .. | .next .. | .range .. =>false
   | .alloc _| .box _ _=>(match o.dst with|some d=> !has pr d|none=>false)
   |_=>true)&&
  (match o.guard with
   |none=>false
   |some (j',w')=>(Nat.beq j' j&&(w'==w))||(match dst j' with|some d=>has WW d|none=>false))&&
  (match o.dst with
   |some d=> !Nat.beq d r&&CL pr dst j w r (d::WW) rest
   |none=>CL pr dst j w r WW rest)
noncomputable def tc (C:bB) (pr ms:List Nat) (c:Zf) (dst:Nat->Option Nat):Nat->List (Oper×Md)->List (Nat×Bool)->Env->(Env->M β)->M β
 |_,[],_,E,K=>K E
 |0,_::_,_,_,_=>fail
 |n+1,(o,x)::rest,act,E,K=>
  bif Mo act o.guard then ft C pr ms x c o E λE'=>tc C pr ms c dst n rest act E' K
  else match o.guard with
   |none=>fail
   |some (j,w)=>match dst j with
    |none=>fail
    |some r=>match E.get r,Cr r [] ((o,x)::rest)with
     | .v (.bool b),some (eF,pk,nT)=>match pk.op,pk.dst with
      | .pick _ y z,some t=>
       bif Mo act pk.guard&&CL pr dst j w r [] eF then
        cK (λst=>jt st λd st=>tj d λv=>aJ st (tc C pr ms c dst n nT act ((E.del (gI eF)).put t (.v (.bool v))) K))
         λjk=>
          let yes:M β:=tc C pr ms c dst n eF ((j,w)::act) (E.put r (.v (.bool w))) λE1=>fe C E1 (bif w then y else z) λd=>jk [d]
          let no:M β:=fe C ((E.del (gI eF)).put r (.v (.bool !w))) (bif w then z else y) λd=>jk [d]
          bif w then(bif b then yes else no)else(bif b then no else yes)
       else fail
      |_,_=>fail
     |_,_=>fail
def yI:lF->lF->Bool
 | .pure,_|_,.pure=>false
 | .oX r,.wv q| .wv r,.oX q| .oX r,.oX q=>Nat.beq r q
 | .wv _,_|_,.wv _| .oX _,_|_,.oX _=>false
 | .ap bs,.lp b| .lp b,.ap bs=> !has bs b
 | .wr,_|_,.wr| .ap _,_|_,.ap _=>true
 | .call,.call=>true
 |_,_=>false
def TN:lF->lF->Bool
 | .ap _,.lp _=>true
 |k,k'=>yI k k'
structure gq where
 bf:Nat
 k:lF
 dst:Option Nat
 lk:Nat
def EL (o:Oper) (acc:List Nat):Nat:=o.after.toList.foldl (λm e=>bif Region.binds .any e then m|||2^e.on|||acc.getD e.on 0 else m) 0
def qV (pr:List Nat) (ops:List Oper) (o:Oper):Nat:=
 let m:=o.op.operands.toList.foldl (λm x=>match x with| .tmp t=>m|||2^t|_=>m) 0
 let m:=match o.guard with
  |some (j,_)=>(match ops[j]? with|some g=>(match g.dst with|some t=>m|||2^t|none=>m)|none=>m)
  |none=>m
 match o.op with
 | .load _ (.tmp a)=>(match sE pr ops 12 a with|some r=>m|||2^r|none=>m)
 | .store _ (.tmp a) _=>(match sE pr ops 12 a with|some r=>m|||2^r|none=>m)
 |_=>m
def HG (m:Nat):Nat->List Oper->List Nat
 |_,[]=>[]
 |j,o::r=>match o.op with
  | .load _ (.tmp b)=>bif m.testBit j then HG m (j+1) r else b::HG m (j+1) r
  |_=>HG m (j+1) r
def xU (b:Nat) (o:Oper):Bool:=match o.op with
 | .load _ (.tmp a)=>Nat.beq a b
 |_=>false
def I8 (b:Nat):List Oper->Bool
 |[]=>true
 |o::r=>bif xU b o then(o::r).all (λo=>match o.dst with|some d=> !Nat.beq d b|none=>true)else I8 b r
def va (pr:List Nat) (ops:List Oper) (k m:Nat):lF->lF
 | .ap _=> .ap ((HG m 0 (ops.take k)).filter λb=>I8 b (ops.take k)&&(sE pr ops 12 b).isNone)
 |c=>c
def qX (P:Program) (pr:List Nat) (ops:List Oper):List Oper->List Nat->List gq
 |[],_=>[]
 |o::r,acc=>let b:=EL o acc;⟨b,va pr ops acc.length b (cls P pr ops o),o.dst,qV pr ops o⟩::qX P pr ops r (acc++[b])
def Mg (d:Option Nat) (m:Nat):Bool:=match d with|some t=>m.testBit t|none=>false
def Ul (d e:Option Nat):Bool:=match d,e with|some t,some u=>Nat.beq t u|_,_=>false
def LQ (i:Nat) (p:gq):List gq->Bool
 |[]=>true
 |q::r=>(q.bf.testBit i||(!TN p.k q.k&& !Mg p.dst q.lk&& !Mg q.dst p.lk&& !Ul p.dst q.dst))&&LQ i p r
def Dt:Nat->List gq->List Oper->Bool
 |_,[],_=>true
 |_,_::_,[]=>false
 |i,p::r,o::os=>Nat.blt p.bf (2^i)&&(match o.guard with|some (j,_)=>p.bf.testBit j|none=>true)&&LQ i p r&&Dt (i+1) r os
def vx (i bi:Nat) (f:lF->Bool):Nat->List gq->Bool
 |_,[]=>false
 |j,q::r=>(!Nat.beq i j&& !q.bf.testBit i&& !bi.testBit j&&f q.k)||vx i bi f (j+1) r
def FV:lF->Bool
 | .hp=>true
 | .lp _=>true
 |_=>false
def Cx:lF->Bool
 | .pure=>true
 | .wv _=>true
 |_=>false
def Ak (i bi:Nat):Nat->List gq->Bool
 |_,[]=>false
 |j,q::r=>(!Nat.beq i j&& !q.bf.testBit i&& !bi.testBit j&& !(Nat.blt j i&&Cx q.k))||Ak i bi (j+1) r
def Wq (mp:Nat->Bool) (o:Oper):Bool:=match o.op with
 | .call q=>(match q.callee with
  | .value (.func f)=>mp f
  |_=>false)
 |_=>false
def flags (mp:Nat->Bool) (all:List gq):Nat->List gq->List Oper->List (Oper×Md)
 |_,[],_=>[]
 |_,_,[]=>[]
 |i,p::r,o::os=>
  (o,.d p.k (bif vx i p.bf (λ_=>true) 0 all then(bif Wq mp o&& !Ak i p.bf 0 all then 0 else(match p.k with| .call=>(bif vx i p.bf FV 0 all then 2 else 1)|_=>1))else 0))::flags mp all (i+1) r os
noncomputable def NM (C:bB) (pr:List Nat) (c:Zf) (ops:Array Oper) (draw:Bool) (E:Env) (K:Env->M β):M β:=
 let l:=ops.toList
 let ms:=xV pr l l
 let dst (j:Nat):Option Nat:=match l[j]? with|some o=>o.dst|none=>none
 bif draw then
  let is:=qX C.P pr l l []
  bif Dt 0 is l then tc C pr ms c dst l.length (flags C.mp is 0 is l) [] E K else fail
 else tc C pr ms c dst l.length (l.map λo=>(o,.s)) [] E K
inductive JS where
 |v (x:Sh)
 |l (x:List B)
 |t
inductive qc where
 |z
 |n (a b:qc)
 |j (J:List (Nat×JS)) (a b:qc)
def qc.a:qc->qc| .n a _=>a| .j _ a _=>a| .z=> .z
def qc.b:qc->qc| .n _ b=>b| .j _ _ b=>b| .z=> .z
def rZ (E0 E:Env):List (Nat×JS)->(List DV->M β)->M β
 |[],K=>K []
 |(t,x)::r,K=>match x,E.get t with
  | .v _,.v d=>rZ E0 E r λds=>K (d::ds)
  | .l _,.loc v _ cs=>(match E0.get t with| .loc v0 _ _=>bif Nat.beq v0 v then rZ E0 E r λds=>K (.agg cs::ds)else fail|_=>fail)
  | .t,.it v _ p=>(match E0.get t with| .it v0 _ _=>bif Nat.beq v0 v then rZ E0 E r λds=>K (.nat p::ds)else fail|_=>fail)
  |_,_=>fail
def sy (E:Env):List (Nat×JS)->List DV->Env->(Env->M β)->M β
 |[],st,E1,K=>aJ st (K E1)
 |(t,x)::r,st,E1,K=>jt st λd rest=>match x,E.get t with
  | .v x,_=>yK x d λd=>sy E r rest (E1.put t (.v d)) K
  | .l x,.loc v n _=>th d λcs=>nC x cs λcs=>sy E r rest (E1.put t (.loc v n cs)) K
  | .t,.it v s _=>Xm d λp=>sy E r rest (E1.put t (.it v s p)) K
  |_,_=>fail
def BA (gX:List Nat):List (Nat×JS)->Bool
 |[]=>true
 |(t,_)::r=>has gX t&&BA gX r
noncomputable def Wf (E:Env) (gX:List Nat) (J:List (Nat×JS)) (K:Env->M β) (g:((Env->M β)->M β)):M β:=
 bif BA gX J then cK (λst=>sy E J st (E.del gX) K) λjk=>g λE1=>rZ E E1 J jk else fail
noncomputable def exec (C:bB) (pr:List Nat) (c:Zf) (n:Nat):Code->qc->(Env->M β)->(Nat->Env->M β)->(Env->M β)->Env->M β
 | .skip,_,kn,_,_,E=>kn E
 | .seq a b,A,kn,kx,kr,E=>exec C pr c n a A.a (λE'=>exec C pr c n b A.b kn kx kr E') kx kr E
 | .region _ ops d,_,kn,_,_,E=>NM C pr c ops d E kn
 | .cond x a b,A,kn,kx,kr,E=>Ud C E x λv=>
   match A with
   | .j J A1 A2=>Wf E (lW pr a++lW pr b) J kn λjk=>bif v then exec C pr c n a A1 jk kx kr E else exec C pr c n b A2 jk kx kr E
   |A=>bif v then exec C pr c n a A.a kn kx kr E else exec C pr c n b A.b kn kx kr E
 | .block id body,A,kn,kx,kr,E=>
   match A with
   | .j J A1 _=>Wf E (lW pr body) J kn λjk=>exec C pr c n body A1 jk (λi E1=>bif Nat.beq i id then jk E1 else kx i E1) kr E
   |A=>exec C pr c n body A.a kn (λi E1=>bif Nat.beq i id then kn E1 else kx i E1) kr E
 | .loop body,A,_,kx,kr,E=>
   match A with
   | .j J A1 _=>bif BA (lW pr body) J then rZ E E J λst=>cY (λrec st=>sy E J st (E.del (lW pr body)) λE1=>exec C pr c n body A1 (λE2=>rZ E E2 J rec) kx kr E1) n st else fail
   |_=>fail
 | .exit id,_,_,kx,_,E=>kx id E
 | .ret,_,_,_,kr,E=>kr E
 |_,_,_,_,_,_=>fail
def okO (ok:Nat->Bool):List Oper->Bool
 |[]=>true
 |o::r=>(match o.dst with|some d=>ok d|none=>true)&&okO ok r
def xX (ok:Nat->Bool):Code->Bool
 | .region _ ops _=>okO ok ops.toList
 | .seq a b| .cond _ a b=>xX ok a&&xX ok b
 | .block _ b| .loop b| .scope b=>xX ok b
 |_=>true
def sv (n d:Nat):Bool:=Nat.blt d n
structure FA where
 pr:List Nat
 HE:qc
 fN:Bool
def uZ (C:bB) (E:Env):List ResultVar->(List DV->M β)->M β
 |[],K=>K []
 | .tmp t::r,K=>fe C E (.tmp t) λd=>uZ C E r λds=>K (d::ds)
 | .cell a t::r,K=>match E.get a with
  | .loc _ n cs=>ra C.P t (bif iS C.P t then(bif Nat.beq n (C.P.cellsOf t)then uZ C E r λds=>K (.agg cs::ds)else fail)else eD cs 0 λd=>uZ C E r λds=>K (d::ds))
  |_=>fail
def jK:Nat->List DV->List (Nat×eH)
 |_,[]=>[]
 |t,d::r=>(t,.v d)::jK (t+1) r
noncomputable def uw (C:bB) (A:FA) (fn:Func) (c:Zf) (n:Nat) (args:List DV):M (List DV):=
 match fn.body with
 |some code=>bif xX (sv fn.ntmps) code&&Nat.ble (fn.params.size+fn.nfree) fn.ntmps then AH (fn.params.toList.map (mG C.P)++List.replicate fn.nfree (.b .ptr)) args λds=>
   bif A.fN then iU λb=>
    let kr (E:Env):M (List DV):=uZ C E fn.results.toList λds=>cu b ds
    exec C A.pr c n code A.HE kr (λ_ _=>fail) kr ⟨0,jK 0 ds⟩
   else
    let kr (E:Env):M (List DV):=uZ C E fn.results.toList λds=>ay ds
    exec C A.pr c n code A.HE kr (λ_ _=>fail) kr ⟨0,jK 0 ds⟩
   else fail
 |none=>fail
abbrev Zh:=Nat->Zf->Nat->List DV->M (List DV)
def run (Bd:Zh):Nat->Zf
 |0,_,_=>fail
 |n+1,g,args=>Bd g (run Bd n) n args
noncomputable def mK (m:M (List DV)) (K:Int->M β):M β:=tk m λds=>aF .i64 ds λa0 r0=>aJ r0<|K a0
noncomputable def BR (m:M (List DV)) (K:List UInt8->M β):M β:=tk m λds=>eE ds λa0 r0=>aJ r0<|K a0
noncomputable def vn (m:M (List DV)) (K:Int->M β):M β:=rR m λds=>aF .i64 ds λa0 r0=>aJ r0<|K a0
noncomputable def Cu (m:M (List DV)) (K:Int->M β):M β:=rR m λds=>aF .u64 ds λa0 r0=>aJ r0<|K a0
noncomputable def jJ (m:M (List DV)) (K:List UInt8->M β):M β:=rR m λds=>eE ds λa0 r0=>aJ r0<|K a0
noncomputable def C_ (m:M (List DV)) (K:M β):M β:=c9 m λds=>aJ ds<|K
noncomputable def D7 (m:M (List DV)) (K:Int->Int->Int->Int->Option (Nat×Nat)->Nat->Bool->M β):M β:=c9 m λds=>bn ds λq1 r0=>aF .i64 q1 λa0 r2=>aF .i64 r2 λa1 r3=>aF .i64 r3 λa2 r4=>aF .i64 r4 λa3 r5=>bL 1 r5 λa4 a5 r6=>aJ r6<|gW r0 λa6 r7=>aJ r7<|K a0 a1 a2 a3 a4 a5 a6
noncomputable def D5 (m:M (List DV)) (K:Int->Int->Int->Option (Nat×Nat)->Nat->Option (Nat×Nat)->Nat->Option (Nat×Nat)->Nat->Option (Nat×Nat)->Int->M β):M β:=c9 m λds=>bn ds λq1 r0=>aF .i64 q1 λa0 r2=>aF .i64 r2 λa1 r3=>aF .i64 r3 λa2 r4=>bL 2 r4 λa3 a4 r5=>bL 1 r5 λa5 a6 r6=>bL 1 r6 λa7 a8 r7=>aJ r7<|nG r0 λa9 r8=>aF .i64 r8 λlN r9=>aJ r9<|K a0 a1 a2 a3 a4 a5 a6 a7 a8 a9 lN
noncomputable def bd (m:M (List DV)) (K:Bool->M β):M β:=c9 m λds=>gW ds λa0 r0=>aJ r0<|K a0
noncomputable def tQ (m:M (List DV)) (K:DV->M β):M β:=c9 m λds=>Xn ds λa0 r0=>aJ r0<|K a0
noncomputable def cQ (m:M (List DV)) (K:Int->M β):M β:=c9 m λds=>aF .i64 ds λa0 r0=>aJ r0<|K a0
noncomputable def ug (m:M (List DV)) (K:Int->Int->Option (Nat×Nat)->Nat->Bool->M β):M β:=c9 m λds=>aF .i64 ds λa0 r0=>aF .i64 r0 λa1 r1=>bL 1 r1 λa2 a3 r2=>gW r2 λa4 r3=>aJ r3<|K a0 a1 a2 a3 a4
noncomputable def w8 (m:M (List DV)) (K:Int->Int->List UInt8->Bool->M β):M β:=c9 m λds=>aF .i64 ds λa0 r0=>aF .i64 r0 λa1 r1=>eE r1 λa2 r2=>gW r2 λa3 r3=>aJ r3<|K a0 a1 a2 a3
noncomputable def rJ (m:M (List DV)) (K:Int->M β):M β:=c9 m λds=>aF .u32 ds λa0 r0=>aJ r0<|K a0
noncomputable def As (m:M (List DV)) (K:Int->M β):M β:=c9 m λds=>aF .u64 ds λa0 r0=>aJ r0<|K a0
noncomputable def mc (m:M (List DV)) (K:Option (Nat×Nat)->Nat->M β):M β:=c9 m λds=>bL 1 ds λa0 a1 r0=>aJ r0<|K a0 a1
noncomputable def J8 (m:M (List DV)) (K:Option (Nat×Nat)->Nat->Int->Int->Int->Int->Int->Int->Int->Int->Option (Nat×Nat)->Nat->Bool->M β):M β:=c9 m λds=>bL 1 ds λa0 a1 r0=>bn r0 λq2 r1=>aF .i64 q2 λa2 r3=>aF .i64 r3 λa3 r4=>aF .i64 r4 λa4 r5=>aF .i64 r5 λa5 r6=>aF .i64 r6 λa6 r7=>aF .i64 r7 λa7 r8=>aF .i64 r8 λa8 r9=>aF .i64 r9 λa9 wu=>bL 1 wu λlN ox Jp=>aJ Jp<|gW r1 λa12 r12=>aJ r12<|K a0 a1 a2 a3 a4 a5 a6 a7 a8 a9 lN ox a12
noncomputable def pw (m:M (List DV)) (K:Option (Nat×Nat)->Nat->Bool->M β):M β:=c9 m λds=>bL 1 ds λa0 a1 r0=>gW r0 λa2 r1=>aJ r1<|K a0 a1 a2
noncomputable def Ew (m:M (List DV)) (K:Option (Nat×Nat)->Nat->Option (Nat×Nat)->Nat->Bool->M β):M β:=c9 m λds=>bL 4 ds λa0 a1 r0=>bL 1 r0 λa2 a3 r1=>gW r1 λa4 r2=>aJ r2<|K a0 a1 a2 a3 a4
noncomputable def BS (m:M (List DV)) (K:Option (Nat×Nat)->M β):M β:=c9 m λds=>nG ds λa0 r0=>aJ r0<|K a0
noncomputable def ix (m:M (List DV)) (K:List UInt8->M β):M β:=c9 m λds=>eE ds λa0 r0=>aJ r0<|K a0
noncomputable def tR (m:M (List DV)) (K:List UInt8->Bool->M β):M β:=c9 m λds=>eE ds λa0 r0=>gW r0 λa1 r1=>aJ r1<|K a0 a1
noncomputable def ZZ (st:List DV) (K:Int->Int->Int->Int->Int->Int->Int->Int->Option (Nat×Nat)->Nat->M β):M β:=bn st λq1 r0=>aF .i64 q1 λa0 r2=>aF .i64 r2 λa1 r3=>aF .i64 r3 λa2 r4=>aF .i64 r4 λa3 r5=>aF .i64 r5 λa4 r6=>aF .i64 r6 λa5 r7=>aF .i64 r7 λa6 r8=>aF .i64 r8 λa7 r9=>bL 1 r9 λa8 a9 wu=>aJ wu<|aJ r0<|K a0 a1 a2 a3 a4 a5 a6 a7 a8 a9
noncomputable def D6 (st:List DV) (K:Int->Int->Int->Int->Option (Nat×Nat)->Nat->M β):M β:=bn st λq1 r0=>aF .i64 q1 λa0 r2=>aF .i64 r2 λa1 r3=>aF .i64 r3 λa2 r4=>aF .i64 r4 λa3 r5=>bL 1 r5 λa4 a5 r6=>aJ r6<|aJ r0<|K a0 a1 a2 a3 a4 a5
noncomputable def J5 (st:List DV) (K:Int->Int->Int->Int->Int->Int->Int->Int->M β):M β:=bn st λq1 r0=>aF .i64 q1 λa0 r2=>aF .i64 r2 λa1 r3=>aF .i64 r3 λa2 r4=>aF .i64 r4 λa3 r5=>aJ r5<|bn r0 λq7 r6=>aF .i64 q7 λa4 r8=>aF .i64 r8 λa5 r9=>aF .i64 r9 λa6 wu=>aF .i64 wu λa7 Jp=>aJ Jp<|aJ r6<|K a0 a1 a2 a3 a4 a5 a6 a7
noncomputable def ZF (st:List DV) (K:Int->Int->Int->Option (Nat×Nat)->Nat->Option (Nat×Nat)->Nat->Option (Nat×Nat)->Nat->M β):M β:=bn st λq1 r0=>aF .i64 q1 λa0 r2=>aF .i64 r2 λa1 r3=>aF .i64 r3 λa2 r4=>bL 2 r4 λa3 a4 r5=>bL 1 r5 λa5 a6 r6=>bL 1 r6 λa7 a8 r7=>aJ r7<|aJ r0<|K a0 a1 a2 a3 a4 a5 a6 a7 a8
noncomputable def Ci (st:List DV) (K:Int->Int->Int->M β):M β:=bn st λq1 r0=>aF .i64 q1 λa0 r2=>aF .i64 r2 λa1 r3=>aF .i64 r3 λa2 r4=>aJ r4<|aJ r0<|K a0 a1 a2
noncomputable def Hf (st:List DV) (K:List UInt8->Option (Nat×Nat)->Nat->M β):M β:=bn st λq1 r0=>eE q1 λa0 r2=>bL 4 r2 λa1 a2 r3=>aJ r3<|aJ r0<|K a0 a1 a2
noncomputable def iy (st:List DV) (K:Bool->M β):M β:=gW st λa0 r0=>aJ r0<|K a0
noncomputable def qo (st:List DV) (K:Bool->Int->Int->M β):M β:=gW st λa0 r0=>aF .i64 r0 λa1 r1=>aF .i64 r1 λa2 r2=>aJ r2<|K a0 a1 a2
noncomputable def cA (st:List DV) (K:Int->M β):M β:=aF .i64 st λa0 r0=>aJ r0<|K a0
noncomputable def gP (st:List DV) (K:Int->Int->M β):M β:=aF .i64 st λa0 r0=>aF .i64 r0 λa1 r1=>aJ r1<|K a0 a1
noncomputable def Cw (st:List DV) (K:Int->Int->Int->M β):M β:=aF .i64 st λa0 r0=>aF .i64 r0 λa1 r1=>aF .i64 r1 λa2 r2=>aJ r2<|K a0 a1 a2
noncomputable def pE (st:List DV) (K:Int->Int->Int->Int->M β):M β:=aF .i64 st λa0 r0=>aF .i64 r0 λa1 r1=>aF .i64 r1 λa2 r2=>aF .i64 r2 λa3 r3=>aJ r3<|K a0 a1 a2 a3
noncomputable def Zre (st:List DV) (K:Int->Int->Int->Int->Bool->M β):M β:=aF .i64 st λa0 r0=>aF .i64 r0 λa1 r1=>aF .i64 r1 λa2 r2=>aF .i64 r2 λa3 r3=>gW r3 λa4 r4=>aJ r4<|K a0 a1 a2 a3 a4
noncomputable def yr (st:List DV) (K:Int->Int->Int->Int->Int->Int->Option (Nat×Nat)->Nat->M β):M β:=aF .i64 st λa0 r0=>aF .i64 r0 λa1 r1=>aF .i64 r1 λa2 r2=>aF .i64 r2 λa3 r3=>aF .i64 r3 λa4 r4=>aF .i64 r4 λa5 r5=>bL 1 r5 λa6 a7 r6=>aJ r6<|K a0 a1 a2 a3 a4 a5 a6 a7
noncomputable def Zty (st:List DV) (K:Int->Int->Option (Nat×Nat)->Nat->M β):M β:=aF .i64 st λa0 r0=>aF .i64 r0 λa1 r1=>bL 1 r1 λa2 a3 r2=>aJ r2<|K a0 a1 a2 a3
noncomputable def ZK (st:List DV) (K:Int->Int->Option (Nat×Nat)->Nat->Option (Nat×Nat)->Nat->Option (Nat×Nat)->Nat->M β):M β:=aF .i64 st λa0 r0=>aF .i64 r0 λa1 r1=>bL 2 r1 λa2 a3 r2=>bL 1 r2 λa4 a5 r3=>bL 1 r3 λa6 a7 r4=>aJ r4<|K a0 a1 a2 a3 a4 a5 a6 a7
noncomputable def ZtG (st:List DV) (K:Int->Bool->M β):M β:=aF .u8 st λa0 r0=>gW r0 λa1 r1=>aJ r1<|K a0 a1
noncomputable def Zqc (st:List DV) (K:Int->Int->M β):M β:=aF .u8 st λa0 r0=>aF .u8 r0 λa1 r1=>aJ r1<|K a0 a1
noncomputable def ck (st:List DV) (K:Option (Nat×Nat)->Nat->M β):M β:=bL 1 st λa0 a1 r0=>aJ r0<|K a0 a1
noncomputable def OW (st:List DV) (K:Option (Nat×Nat)->Nat->Int->Int->Int->Option (Nat×Nat)->Nat->Option (Nat×Nat)->Nat->Option (Nat×Nat)->Nat->Int->M β):M β:=bL 1 st λa0 a1 r0=>bn r0 λq2 r1=>aF .i64 q2 λa2 r3=>aF .i64 r3 λa3 r4=>aF .i64 r4 λa4 r5=>bL 2 r5 λa5 a6 r6=>bL 1 r6 λa7 a8 r7=>bL 1 r7 λa9 lN r8=>aJ r8<|aF .i64 r1 λox r9=>aJ r9<|K a0 a1 a2 a3 a4 a5 a6 a7 a8 a9 lN ox
noncomputable def ZgB (st:List DV) (K:Option (Nat×Nat)->Nat->Int->Int->Int->Option (Nat×Nat)->Nat->Option (Nat×Nat)->Nat->Option (Nat×Nat)->Nat->Int->Int->M β):M β:=bL 1 st λa0 a1 r0=>bn r0 λq2 r1=>aF .i64 q2 λa2 r3=>aF .i64 r3 λa3 r4=>aF .i64 r4 λa4 r5=>bL 2 r5 λa5 a6 r6=>bL 1 r6 λa7 a8 r7=>bL 1 r7 λa9 lN r8=>aJ r8<|aF .i64 r1 λox r9=>aF .i64 r9 λa12 wu=>aJ wu<|K a0 a1 a2 a3 a4 a5 a6 a7 a8 a9 lN ox a12
noncomputable def Hx (st:List DV) (K:Option (Nat×Nat)->Nat->Bool->M β):M β:=bL 1 st λa0 a1 r0=>gW r0 λa2 r1=>aJ r1<|K a0 a1 a2
noncomputable def rL (st:List DV) (K:Option (Nat×Nat)->Nat->Int->M β):M β:=bL 1 st λa0 a1 r0=>aF .i64 r0 λa2 r1=>aJ r1<|K a0 a1 a2
noncomputable def wU (st:List DV) (K:Option (Nat×Nat)->Nat->Int->Int->M β):M β:=bL 1 st λa0 a1 r0=>aF .i64 r0 λa2 r1=>aF .i64 r1 λa3 r2=>aJ r2<|K a0 a1 a2 a3
noncomputable def JX (st:List DV) (K:Nat->M β):M β:=Xo st λa0 r0=>aJ r0<|K a0
noncomputable def jn (st:List DV) (K:Option (Nat×Nat)->M β):M β:=nG st λa0 r0=>aJ r0<|K a0
noncomputable def kW (st:List DV) (K:List UInt8->M β):M β:=eE st λa0 r0=>aJ r0<|K a0
noncomputable def J9 (st:List DV) (K:List UInt8->Int->Int->Int->Int->Int->Int->Int->Int->Option (Nat×Nat)->Nat->M β):M β:=eE st λa0 r0=>bn r0 λq2 r1=>aF .i64 q2 λa1 r3=>aF .i64 r3 λa2 r4=>aF .i64 r4 λa3 r5=>aF .i64 r5 λa4 r6=>aF .i64 r6 λa5 r7=>aF .i64 r7 λa6 r8=>aF .i64 r8 λa7 r9=>aF .i64 r9 λa8 wu=>bL 1 wu λa9 lN Jp=>aJ Jp<|aJ r1<|K a0 a1 a2 a3 a4 a5 a6 a7 a8 a9 lN
noncomputable def pB (st:List DV) (K:List UInt8->Int->M β):M β:=eE st λa0 r0=>aF .i64 r0 λa1 r1=>aJ r1<|K a0 a1
def ZG (a0:Bool) (a1:Int) (a2:Int) (a3:Bool) (a4:Int) (a5:Int) (a6:Bool) (a7:Int) (a8:Int) (a9:Bool) (lN:Int) (ox:Int) (a12:Bool) (CG:Int) (HB:Int) (TW:Bool) (TX:Int) (a17:Int) (TY:Bool) (TZ:Int) (a20:Int) (a21:Bool):List DV:=[.agg [.bool a0,.int .i64 a1,.int .i64 a2,.bool a3,.int .i64 a4,.int .i64 a5,.bool a6,.int .i64 a7,.int .i64 a8,.bool a9,.int .i64 lN,.int .i64 ox,.bool a12,.int .i64 CG,.int .i64 HB,.bool TW,.int .i64 TX,.int .i64 a17,.bool TY,.int .i64 TZ,.int .i64 a20],.bool a21]
def wN (a0:Int) (a1:Int) (a2:Int) (a3:Int) (a4:Int) (a5:Int) (a6:Int) (a7:Int) (a8:Option (Nat×Nat)) (a9:Nat):List DV:=[.agg [.int .i64 a0,.int .i64 a1,.int .i64 a2,.int .i64 a3,.int .i64 a4,.int .i64 a5,.int .i64 a6,.int .i64 a7,.slice 1 a8 a9]]
def Ab (a0:Int) (a1:Int) (a2:Int) (a3:Int) (a4:Option (Nat×Nat)) (a5:Nat) (a6:Bool):List DV:=[.agg [.int .i64 a0,.int .i64 a1,.int .i64 a2,.int .i64 a3,.slice 0 a4 a5],.bool a6]
def Ec (a0:Int) (a1:Int) (a2:Int) (a3:Int) (a4:Option (Nat×Nat)) (a5:Nat) (a6:Int):List DV:=[.agg [.int .i64 a0,.int .i64 a1,.int .i64 a2,.int .i64 a3,.slice 0 a4 a5],.int .i64 a6]
def wR (a0:Int) (a1:Int) (a2:Int) (a3:Int) (a4:Option (Nat×Nat)) (a5:Nat):List DV:=[.agg [.int .i64 a0,.int .i64 a1,.int .i64 a2,.int .i64 a3,.slice 1 a4 a5]]
def D9 (a0:Int) (a1:Int) (a2:Int) (a3:Int) (a4:Option (Nat×Nat)) (a5:Nat) (a6:Bool):List DV:=[.agg [.int .i64 a0,.int .i64 a1,.int .i64 a2,.int .i64 a3,.slice 1 a4 a5],.bool a6]
def Eb (a0:Int) (a1:Int) (a2:Int) (a3:Int) (a4:Option (Nat×Nat)) (a5:Nat) (a6:Int):List DV:=[.agg [.int .i64 a0,.int .i64 a1,.int .i64 a2,.int .i64 a3,.slice 1 a4 a5],.int .i64 a6]
def zT (a0:Int) (a1:Int) (a2:Int) (a3:Int) (a4:Int) (a5:Int) (a6:Int) (a7:Int):List DV:=[.agg [.int .i64 a0,.int .i64 a1,.int .i64 a2,.int .i64 a3],.agg [.int .i64 a4,.int .i64 a5,.int .i64 a6,.int .i64 a7]]
def zX (a0:Int) (a1:Int) (a2:Int) (a3:Option (Nat×Nat)) (a4:Nat) (a5:Option (Nat×Nat)) (a6:Nat) (a7:Option (Nat×Nat)) (a8:Nat) (a9:Option (Nat×Nat)) (lN:Nat) (ox:Bool):List DV:=[.agg [.int .i64 a0,.int .i64 a1,.int .i64 a2,.slice 0 a3 a4,.slice 0 a5 a6,.slice 0 a7 a8],.slice 0 a9 lN,.bool ox]
def zU (a0:Int) (a1:Int) (a2:Int) (a3:Option (Nat×Nat)) (a4:Nat) (a5:Option (Nat×Nat)) (a6:Nat) (a7:Option (Nat×Nat)) (a8:Nat):List DV:=[.agg [.int .i64 a0,.int .i64 a1,.int .i64 a2,.slice 2 a3 a4,.slice 1 a5 a6,.slice 1 a7 a8]]
def ur (a0:Int) (a1:Int) (a2:Int):List DV:=[.agg [.int .i64 a0,.int .i64 a1,.int .i64 a2]]
def DZ (a0:List UInt8) (a1:Int) (a2:Int) (a3:Int) (a4:Int) (a5:Int) (a6:Int) (a7:Int) (a8:Int) (a9:Int) (lN:Int) (ox:Int) (a12:Int) (CG:Int) (HB:Bool):List DV:=[.agg [.str a0,.int .i64 a1,.int .i64 a2,.int .i64 a3,.int .i64 a4,.int .i64 a5,.int .i64 a6,.int .i64 a7,.int .i64 a8,.int .i64 a9,.int .i64 lN,.int .i64 ox,.int .i64 a12,.int .i64 CG],.bool HB]
def Lb (a0:Bool):List DV:=[.bool a0]
def DU (a0:Bool) (a1:Int):List DV:=[.bool a0,.int .i64 a1]
def rC (a0:Bool) (a1:Int) (a2:Int):List DV:=[.bool a0,.int .i64 a1,.int .i64 a2]
def Z9 (a0:Bool) (a1:Int) (a2:Int) (a3:Bool) (a4:Int) (a5:Int) (a6:Bool) (a7:Int) (a8:Int) (a9:Bool) (lN:Int) (ox:Int) (a12:Bool) (CG:Int) (HB:Int) (TW:Bool) (TX:Int) (a17:Int) (TY:Bool) (TZ:Int) (a20:Int):List DV:=[.bool a0,.int .i64 a1,.int .i64 a2,.bool a3,.int .i64 a4,.int .i64 a5,.bool a6,.int .i64 a7,.int .i64 a8,.bool a9,.int .i64 lN,.int .i64 ox,.bool a12,.int .i64 CG,.int .i64 HB,.bool TW,.int .i64 TX,.int .i64 a17,.bool TY,.int .i64 TZ,.int .i64 a20]
def Li (a0:Int):List DV:=[.int .i64 a0]
def fV (a0:Int) (a1:Int):List DV:=[.int .i64 a0,.int .i64 a1]
def BV (a0:Int):List DV:=[.int .i32 a0]
def yo (a0:Int) (a1:Int) (a2:Int):List DV:=[.int .i64 a0,.int .i64 a1,.int .i64 a2]
def zO (a0:Int) (a1:Int) (a2:Int) (a3:Int):List DV:=[.int .i64 a0,.int .i64 a1,.int .i64 a2,.int .i64 a3]
def Gz (a0:Int) (a1:Int) (a2:Int) (a3:Int) (a4:Int) (a5:Int) (a6:Int) (a7:Int) (a8:Option (Nat×Nat)) (a9:Nat):List DV:=[.int .i64 a0,.int .i64 a1,.int .i64 a2,.int .i64 a3,.int .i64 a4,.int .i64 a5,.int .i64 a6,.int .i64 a7,.slice 0 a8 a9]
def pC (a0:Int) (a1:Int) (a2:List UInt8):List DV:=[.int .i64 a0,.int .i64 a1,.str a2]
def tS (a0:Int) (a1:Option (Nat×Nat)) (a2:Nat):List DV:=[.int .i64 a0,.slice 1 a1 a2]
def kA (a0:Int):List DV:=[.int .u32 a0]
def pH (a0:Int) (a1:Int):List DV:=[.int .u32 a0,.int .i64 a1]
def nv (a0:Int):List DV:=[.int .u64 a0]
def ZE (a0:Int) (a1:Int):List DV:=[.int .u64 a0,.int .i64 a1]
def lH (a0:Int):List DV:=[.int .u8 a0]
def tT (a0:Option (Nat×Nat)) (a1:Nat) (a2:Bool):List DV:=[.slice 0 a0 a1,.bool a2]
def j1 (a0:Option (Nat×Nat)) (a1:Nat) (a2:Int):List DV:=[.slice 0 a0 a1,.int .i64 a2]
def rF (a0:Option (Nat×Nat)) (a1:Nat) (a2:Option (Nat×Nat)) (a3:Nat) (a4:Bool):List DV:=[.slice 0 a0 a1,.slice 0 a2 a3,.bool a4]
def bD (a0:Option (Nat×Nat)) (a1:Nat):List DV:=[.slice 1 a0 a1]
def zY (a0:Option (Nat×Nat)) (a1:Nat) (a2:Int) (a3:Int) (a4:Int) (a5:Int) (a6:Int) (a7:Int) (a8:Int) (a9:Int) (lN:Option (Nat×Nat)) (ox:Nat):List DV:=[.slice 1 a0 a1,.agg [.int .i64 a2,.int .i64 a3,.int .i64 a4,.int .i64 a5,.int .i64 a6,.int .i64 a7,.int .i64 a8,.int .i64 a9,.slice 1 lN ox]]
def eW (a0:Option (Nat×Nat)) (a1:Nat) (a2:Int):List DV:=[.slice 1 a0 a1,.int .i64 a2]
def jf (a0:Option (Nat×Nat)) (a1:Nat) (a2:Int) (a3:Int):List DV:=[.slice 1 a0 a1,.int .i64 a2,.int .i64 a3]
def uf (a0:Option (Nat×Nat)) (a1:Nat) (a2:Option (Nat×Nat)) (a3:Nat):List DV:=[.slice 1 a0 a1,.slice 1 a2 a3]
def tU (a0:Option (Nat×Nat)) (a1:Nat):List DV:=[.slice 4 a0 a1]
def Lp (a0:Option (Nat×Nat)):List DV:=[.ptr a0]
def nx (a0:Option (Nat×Nat)) (a1:Int):List DV:=[.ptr a0,.int .i64 a1]
def vp (a0:Option (Nat×Nat)) (a1:List UInt8):List DV:=[.ptr a0,.str a1]
def Ls (a0:List UInt8):List DV:=[.str a0]
def vq (a0:List UInt8) (a1:Bool):List DV:=[.str a0,.bool a1]
def eM (a0:List UInt8) (a1:Int):List DV:=[.str a0,.int .i64 a1]
def yp (a0:List UInt8) (a1:Int) (a2:Int):List DV:=[.str a0,.int .i64 a1,.int .i64 a2]
def D3 (a0:List UInt8) (a1:Int) (a2:Int) (a3:Int) (a4:Int) (a5:Int) (a6:Int) (a7:Int) (a8:Int) (a9:Int) (lN:Int) (ox:Int) (a12:Int) (CG:Int):List DV:=[.str a0,.int .i64 a1,.int .i64 a2,.int .i64 a3,.int .i64 a4,.int .i64 a5,.int .i64 a6,.int .i64 a7,.int .i64 a8,.int .i64 a9,.int .i64 lN,.int .i64 ox,.int .i64 a12,.int .i64 CG]
def B5 (a0:List UInt8) (a1:Int) (a2:Int) (a3:Int):List DV:=[.str a0,.int .i64 a1,.int .u8 a2,.int .u8 a3]
noncomputable def N_ (p:Option (Nat×Nat)) (x:Int) (l:Nat) (K:Nat->Nat->M β):M β:=bJ p λi o=>aC (aQ x l)<|K i o
noncomputable def Q_ (f:M β) (g:(List DV->M β)->M β):M β:=cK (λst=>aJ st<|f) g
noncomputable def OY (f:Int->Int->Int->Int->Int->Int->Int->Int->Option (Nat×Nat)->Nat->M β) (g:(List DV->M β)->M β):M β:=cK (λst=>bn st λq1 r0=>aF .i64 q1 λa0 r2=>aF .i64 r2 λa1 r3=>aF .i64 r3 λa2 r4=>aF .i64 r4 λa3 r5=>aF .i64 r5 λa4 r6=>aF .i64 r6 λa5 r7=>aF .i64 r7 λa6 r8=>aF .i64 r8 λa7 r9=>bL 1 r9 λa8 a9 wu=>aJ wu<|aJ r0<|f a0 a1 a2 a3 a4 a5 a6 a7 a8 a9) g
noncomputable def En (f:Int->Int->Int->Int->Option (Nat×Nat)->Nat->M β) (g:(List DV->M β)->M β):M β:=cK (λst=>bn st λq1 r0=>aF .i64 q1 λa0 r2=>aF .i64 r2 λa1 r3=>aF .i64 r3 λa2 r4=>aF .i64 r4 λa3 r5=>bL 1 r5 λa4 a5 r6=>aJ r6<|aJ r0<|f a0 a1 a2 a3 a4 a5) g
noncomputable def az (f:Bool->M β) (g:(List DV->M β)->M β):M β:=cK (λst=>gW st λa0 r0=>aJ r0<|f a0) g
noncomputable def oj (f:Int->M β) (g:(List DV->M β)->M β):M β:=cK (λst=>aF .i64 st λa0 r0=>aJ r0<|f a0) g
noncomputable def xe (f:Int->M β) (g:(List DV->M β)->M β):M β:=cK (λst=>aF .u32 st λa0 r0=>aJ r0<|f a0) g
noncomputable def CA (f:Int->M β) (g:(List DV->M β)->M β):M β:=cK (λst=>aF .u64 st λa0 r0=>aJ r0<|f a0) g
noncomputable def Gn (f:Int->M β) (g:(List DV->M β)->M β):M β:=cK (λst=>aF .u8 st λa0 r0=>aJ r0<|f a0) g
noncomputable def gk (f:Option (Nat×Nat)->Nat->M β) (g:(List DV->M β)->M β):M β:=cK (λst=>bL 1 st λa0 a1 r0=>aJ r0<|f a0 a1) g
noncomputable def BY (f:Option (Nat×Nat)->Nat->M β) (g:(List DV->M β)->M β):M β:=cK (λst=>bL 4 st λa0 a1 r0=>aJ r0<|f a0 a1) g
noncomputable def sR (f:List UInt8->M β) (g:(List DV->M β)->M β):M β:=cK (λst=>eE st λa0 r0=>aJ r0<|f a0) g
noncomputable def D8 (f:(List DV->M β)->Int->Int->Int->Int->Option (Nat×Nat)->Nat->Int->M β) (n:Nat) (l:List DV):M β:=cY (λrec st=>bn st λq1 r0=>aF .i64 q1 λa0 r2=>aF .i64 r2 λa1 r3=>aF .i64 r3 λa2 r4=>aF .i64 r4 λa3 r5=>bL 1 r5 λa4 a5 r6=>aJ r6<|aF .i64 r0 λa6 r7=>aJ r7<|f rec a0 a1 a2 a3 a4 a5 a6) n l
noncomputable def cI (f:(List DV->M β)->Int->M β) (n:Nat) (l:List DV):M β:=cY (λrec st=>aF .i64 st λa0 r0=>aJ r0<|f rec a0) n l
noncomputable def wS (f:(List DV->M β)->Int->Int->M β) (n:Nat) (l:List DV):M β:=cY (λrec st=>aF .u32 st λa0 r0=>aF .i64 r0 λa1 r1=>aJ r1<|f rec a0 a1) n l
noncomputable def EB (f:(List DV->M β)->Int->Int->M β) (n:Nat) (l:List DV):M β:=cY (λrec st=>aF .u64 st λa0 r0=>aF .i64 r0 λa1 r1=>aJ r1<|f rec a0 a1) n l
noncomputable def lJ (f:(List DV->M β)->Option (Nat×Nat)->Nat->Int->M β) (n:Nat) (l:List DV):M β:=cY (λrec st=>bL 1 st λa0 a1 r0=>aF .i64 r0 λa2 r1=>aJ r1<|f rec a0 a1 a2) n l
noncomputable def tY (f:(List DV->M β)->List UInt8->Int->M β) (n:Nat) (l:List DV):M β:=cY (λrec st=>eE st λa0 r0=>aF .i64 r0 λa1 r1=>aJ r1<|f rec a0 a1) n l
noncomputable def Zn (s:Nat) (p:Option (Nat×Nat)) (x:Int) (l:Nat) (K:Int->M β):M β:=bJ p λi o=>aC (aQ x l)<|bG i (x.toNat*s+o) λd=>cT .i64 d λv=>K v
noncomputable def B3 (s:Nat) (p:Option (Nat×Nat)) (x:Int) (l:Nat) (K:Int->M β):M β:=bJ p λi o=>aC (aQ x l)<|bG i (x.toNat*s+o) λd=>cT .u64 d λv=>K v
noncomputable def ua (s:Nat) (p:Option (Nat×Nat)) (x:Int) (l:Nat) (K:List UInt8->M β):M β:=bJ p λi o=>aC (aQ x l)<|bG i (x.toNat*s+o) λd=>Ay d λv=>K v
noncomputable def ql (i p:Nat) (K:Bool->M β):M β:=bG i p λd=>tj d λv=>K v
noncomputable def Zm (i p:Nat) (K:Int->M β):M β:=bG i p λd=>cT .i64 d λv=>K v
noncomputable def lM (i p:Nat) (K:Int->M β):M β:=bG i p λd=>cT .u8 d λv=>K v
abbrev ah:=List DV
abbrev ai:=Option (Nat×Nat)
abbrev aj:=List UInt8
abbrev ak:=List Int
abbrev al:=List Nat
abbrev ao:=Zf->Nat->ah->M ah
end Go.Gv
